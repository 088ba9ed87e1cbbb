/- The walks of block.Head.length, block.Scan. -/
import Derived.BigQuiet
import Derived.Test.YtflfjpkmjnnodaaGreatHM2
import Derived.Test.YtflfjpkmjnnodaaGreatHM5
import Derived.Test.YtflfjpkmjnnodaaGreatHM1
import Derived.Test.YtflfjpkmjnnodaaGreatHS1
import Derived.Test.YtflfjpkmjnnodaaGreatHM4
import Derived.Test.YtflfjpkmjnnodaaGreatHR1
import Derived.Test.YtflfjpkmjnnodaaGreatHR2
import Derived.Test.YtflfjpkmjnnodaaGreatHM0
import Derived.OwnWalk
namespace Go.Proofs.YtflfjpkmjnnodaaGreat
open Go.RowKit Go.IntWalk Go.Proofs.YtflfjpkmjnnodaaGreatW.PrintWords Go.Proofs.YtflfjpkmjnnodaaGreatW.PrintMore
attribute [local go_sem] a1R
theorem c8y : (Tryz.prog.info? 114).map (·.size) = some 5:=by kernel_rfl
def headC (h : HeadT) : Array Value:=#[.int .i64 (h.1 : Nat),.int .i64 (h.2.1 : Nat),.int .i64 (h.2.2.1 : Nat),.bool h.2.2.2.1,.int .u32 (h.2.2.2.2 : Nat)]
theorem cell5 {w : World} {mb : Nat} {a b c d f : Value} {t : Nat} (h : w.heap[mb]? = some (.cells #[a,b,c,d,f] t (0,0))) : (w.cell? ⟨mb,0,none⟩ = some a /\ w.cell? ⟨mb,1,none⟩ = some b /\ w.cell? ⟨mb,2,none⟩ = some c /\ w.cell? ⟨mb,3,none⟩ = some d /\ w.cell? ⟨mb,4,none⟩ = some f) /\ (w.frozen? ⟨mb,0,none⟩ = false /\ w.frozen? ⟨mb,1,none⟩ = false /\ w.frozen? ⟨mb,2,none⟩ = false /\ w.frozen? ⟨mb,3,none⟩ = false /\ w.frozen? ⟨mb,4,none⟩ = false):=
 ⟨⟨(a0a h 0).trans rfl,(a0a h 1).trans rfl,(a0a h 2).trans rfl,(a0a h 3).trans rfl,(a0a h 4).trans rfl⟩,a0e h 0,a0e h 1,a0e h 2,a0e h 3,a0e h 4⟩
theorem a2S {w : World} {g : Nat} {a b c d f : Value} (hg : w.heap[g]? = some (.cells #[a,b,c,d,f] 114 (0,0))) : (loadVar 114 ⟨g,0,none⟩).run Tryz.prog w = .ok (.agg #[a,b,c,d,f]) w:=
 run_loadVar_row w g _ _ _ _ _ hg Tryz.underlying114 rfl c8y
theorem a3p {w : World} {mb : Nat} {t : Nat} {a b c d f : Value} (h : w.heap[mb]? = some (.cells #[a,b,c,d,f] t (0,0))) (x y z u v : Value) : (((((w.setCell ⟨mb,0,none⟩ x).setCell ⟨mb,1,none⟩ y).setCell ⟨mb,2,none⟩ z).setCell ⟨mb,3,none⟩ u).setCell ⟨mb,4,none⟩ v).heap[mb]? = some (.cells #[x,y,z,u,v] t (0,0)):=by
 rw [a0u (a0u (a0u (a0u (a0u h 0 _) 1 _) 2 _) 3 _) 4]; rfl
theorem b0E {B g : Nat} {w W : World} (hb : Below B w W) (hg : B <= g) (x y z u v : Value) : Below B w (((((W.setCell ⟨g,0,none⟩ x).setCell ⟨g,1,none⟩ y).setCell ⟨g,2,none⟩ z).setCell ⟨g,3,none⟩ u).setCell ⟨g,4,none⟩ v):=
 ((((hb.setCell (p:=⟨g,0,none⟩) hg x).setCell (p:=⟨g,1,none⟩) hg y).setCell (p:=⟨g,2,none⟩) hg z).setCell (p:=⟨g,3,none⟩) hg u).setCell (p:=⟨g,4,none⟩) hg v
theorem a3q : headC headZ = #[.int .i64 0,.int .i64 0,.int .i64 0,.bool false,.int .u32 0]:=rfl
set_option maxRecDepth 100000 in
set_option maxHeartbeats 2000000 in
theorem c8z (kind n len sum log : Nat) (last first : Bool) (w : World) (hlog : 10 <= log /\ log <= 17) :
    Calls Tryz.prog 138 #[.agg #[.int .i64 kind,.int .i64 n,.int .i64 len,.bool last,.int .u32 sum],.int .i64 log,.bool first] w (λ e w'=>e = .returned (.bool (a1J log first kind n last)) /\ Below w.heap.size w w'):=by
 obtain ⟨s,hs⟩ : ∃ s : Nat,s = 2 ^ log:=⟨_,rfl⟩
 have hsI : (2 : Int) ^ log = (s : Int):=by rw [hs]; simp
 have hs2 : s <= 131072:=by rw [hs]; exact Nat.le_trans (Nat.pow_le_pow_right (by decide : 2 > 0) hlog.2) (by decide)
 have hE : a1J log first kind n last = (if last = false then decide (n = s) else if n = 0 then first && decide (kind = 0) else decide (n <= s)):=by unfold a1J; rw [Int.toNat_natCast,hs]
 rw [hE]
 have HB : Hid (Below w.heap.size w (w.alloc (.cells #[.int .i64 kind,.int .i64 n,.int .i64 len,.bool last,.int .u32 sum] 114))):=Lib.hid ((Below.refl _ _).alloc (Nat.le_refl _) _)
 clear hs hE
 cases last with
 | false=>
  rw [if_pos rfl]
  go_enter Tryz.func138,Tryz.ntmps138
  go_wp2_with fail
  go_quiet (fail)
  all_goals
   go_wp2_with fail
   go_ret
   refine ⟨a0S ?_,a0b HB.out _⟩
   rw [Bool.eq_iff_iff]; first | (simp; done) | (simp; omega)
 | true=>
  rw [if_neg (by decide)]
  by_cases h0 : n = 0
  · subst h0
    rw [if_pos rfl]
    cases first with
    | true=>
     go_enter Tryz.func138,Tryz.ntmps138
     go_wp2_with fail
     go_ret
     refine ⟨a0S ?_,HB.out⟩
     rw [Bool.eq_iff_iff]; first | (simp; done) | (simp; omega)
    | false=>
     go_enter Tryz.func138,Tryz.ntmps138
     go_wp2_with fail
     go_ret
     exact ⟨a0S (by simp),HB.out⟩
  · rw [if_neg h0]
    have hn0 : ((n : Int) == 0) = false:=by simp; omega
    clear h0
    go_enter Tryz.func138,Tryz.ntmps138
    go_wp2_with fail
    go_quiet (fail)
    all_goals
     go_wp2_with fail
     go_ret
     refine ⟨a0S ?_,a0b HB.out _⟩
     first | rfl | (rw [Bool.eq_iff_iff]; simp; done)
def b0F (r : Int × HeadT) (w : World) (e : Ending) (w' : World) : Prop:=e = .returned (.tuple #[.agg (headC r.2),.int .i64 r.1]) /\ Below w.heap.size w w'
structure ScanAt (W0 : World) (p h r8 : Nat) (fs : List Int) (sh : Bool) (a b c : Nat) (d : Bool) (W : World) : Prop where
 rd : RdB W0 p fs sh W
 kh : W.heap[h]? = some (.cells #[.int .i64 a,.int .i64 b,.int .i64 c,.bool d,.int .u32 0] 114 (0,0))
 kr : W.heap[r8]? = some (.cells #[.int .i64 0,.int .i64 0,.int .i64 0,.bool false,.int .u32 0] 114 (0,0))
 on : Below r8 W0 W
theorem ScanAt.num {W0 : World} {p h r8 k : Nat} {fs : List Int} {sh : Bool} {a b c : Nat} {d : Bool} {W W' : World} {e : Ending} (hs : ScanAt W0 p h r8 fs sh a b c d W) (hlt : r8 < p /\ p < h) (hn : b6E W0 p k fs sh W e W') : e = .returned (.int .i64 (rdN fs (min k fs.length) : Nat)) /\ ScanAt W0 p h r8 (fs.drop k) (sh || decide (fs.length < k)) a b c d W':=by
 obtain ⟨rfl,h2,h3⟩:=hn
 refine ⟨rfl,h2,(h3.block h (a0f hs.kh) (by omega)).trans hs.kh,(h3.block r8 (a0f hs.kr) (by omega)).trans hs.kr,hs.on.trans (h3.below (Nat.le_of_lt (a0f hs.kr)) (λ k hk=>?_))⟩
 have : k = p:=hk
 omega
theorem ScanAt.below {W0 : World} {p h r8 : Nat} {fs : List Int} {sh : Bool} {a b c : Nat} {d : Bool} {W W' : World} (hs : ScanAt W0 p h r8 fs sh a b c d W) (hb : Below W.heap.size W W') : ScanAt W0 p h r8 fs sh a b c d W':=
 ⟨hs.rd.later (Only.of_below hb),a0i hs.kh hb,a0i hs.kr hb,hs.on.trans (hb.mono (Nat.le_of_lt (a0f hs.kr)))⟩
theorem RdB.set {W0 : World} {p h : Nat} {fs : List Int} {sh : Bool} {W : World} (hr : RdB W0 p fs sh W) (hlt : p < h) (k : Nat) (v : Value) : RdB W0 p fs sh (W.setCell ⟨h,k,none⟩ v):=
 hr.later ((Only.refl _ _).setCell (p:=⟨h,k,none⟩) ⟨by show h ≠ p; omega,by show _ <= h; have:=hr.lo; omega⟩ v)
theorem ScanAt.set0 {W0 : World} {p h r8 : Nat} {fs : List Int} {sh : Bool} {a b c : Nat} {d : Bool} {W : World} (hs : ScanAt W0 p h r8 fs sh a b c d W) (hlt : r8 < p /\ p < h) (a' : Nat) : ScanAt W0 p h r8 fs sh a' b c d (W.setCell ⟨h,0,none⟩ (.int .i64 a')):=
 ⟨hs.rd.set hlt.2 0 _,a0u hs.kh 0 _,a1x hs.kr (p:=⟨h,0,none⟩) (by show r8 ≠ h; omega) _,hs.on.setCell (by show r8 <= h; omega) _⟩
theorem ScanAt.set1 {W0 : World} {p h r8 : Nat} {fs : List Int} {sh : Bool} {a b c : Nat} {d : Bool} {W : World} (hs : ScanAt W0 p h r8 fs sh a b c d W) (hlt : r8 < p /\ p < h) (b' : Nat) : ScanAt W0 p h r8 fs sh a b' c d (W.setCell ⟨h,1,none⟩ (.int .i64 b')):=
 ⟨hs.rd.set hlt.2 1 _,a0u hs.kh 1 _,a1x hs.kr (p:=⟨h,1,none⟩) (by show r8 ≠ h; omega) _,hs.on.setCell (by show r8 <= h; omega) _⟩
theorem ScanAt.set2 {W0 : World} {p h r8 : Nat} {fs : List Int} {sh : Bool} {a b c : Nat} {d : Bool} {W : World} (hs : ScanAt W0 p h r8 fs sh a b c d W) (hlt : r8 < p /\ p < h) (c' : Nat) : ScanAt W0 p h r8 fs sh a b c' d (W.setCell ⟨h,2,none⟩ (.int .i64 c')):=
 ⟨hs.rd.set hlt.2 2 _,a0u hs.kh 2 _,a1x hs.kr (p:=⟨h,2,none⟩) (by show r8 ≠ h; omega) _,hs.on.setCell (by show r8 <= h; omega) _⟩
theorem ScanAt.set3 {W0 : World} {p h r8 : Nat} {fs : List Int} {sh : Bool} {a b c : Nat} {d : Bool} {W : World} (hs : ScanAt W0 p h r8 fs sh a b c d W) (hlt : r8 < p /\ p < h) (d' : Bool) : ScanAt W0 p h r8 fs sh a b c d' (W.setCell ⟨h,3,none⟩ (.bool d')):=
 ⟨hs.rd.set hlt.2 3 _,a0u hs.kh 3 _,a1x hs.kr (p:=⟨h,3,none⟩) (by show r8 ≠ h; omega) _,hs.on.setCell (by show r8 <= h; omega) _⟩
theorem ScanAt.cells {W0 : World} {p h r8 : Nat} {fs : List Int} {sh : Bool} {a b c : Nat} {d : Bool} {W : World} (hs : ScanAt W0 p h r8 fs sh a b c d W) : W.cell? ⟨p,1,none⟩ = some (.bool sh) /\ (W.cell? ⟨h,0,none⟩ = some (.int .i64 a) /\ W.cell? ⟨h,1,none⟩ = some (.int .i64 b) /\ W.cell? ⟨h,2,none⟩ = some (.int .i64 c) /\ W.cell? ⟨h,3,none⟩ = some (.bool d) /\ W.cell? ⟨h,4,none⟩ = some (.int .u32 0)) /\ (W.frozen? ⟨h,0,none⟩ = false /\ W.frozen? ⟨h,1,none⟩ = false /\ W.frozen? ⟨h,2,none⟩ = false /\ W.frozen? ⟨h,3,none⟩ = false /\ W.frozen? ⟨h,4,none⟩ = false) /\ (W.cell? ⟨r8,0,none⟩ = some (.int .i64 0) /\ W.cell? ⟨r8,1,none⟩ = some (.int .i64 0) /\ W.cell? ⟨r8,2,none⟩ = some (.int .i64 0) /\ W.cell? ⟨r8,3,none⟩ = some (.bool false) /\ W.cell? ⟨r8,4,none⟩ = some (.int .u32 0)) /\ (W.frozen? ⟨r8,0,none⟩ = false /\ W.frozen? ⟨r8,1,none⟩ = false /\ W.frozen? ⟨r8,2,none⟩ = false /\ W.frozen? ⟨r8,3,none⟩ = false /\ W.frozen? ⟨r8,4,none⟩ = false):=by
 obtain ⟨A,n,h1,_,_⟩:=hs.rd.ex
 exact ⟨(cell2 h1).1.2,(cell5 hs.kh).1,(cell5 hs.kh).2,(cell5 hs.kr).1,(cell5 hs.kr).2⟩
theorem a4q {W0 w : World} {p h r8 : Nat} {fs : List Int} {sh : Bool} {a b c : Nat} {d : Bool} {W : World} (hs : ScanAt W0 p h r8 fs sh a b c d W) (hb : Below r8 w W0) : Below r8 w (((((W.setCell ⟨r8,0,none⟩ (.int .i64 0)).setCell ⟨r8,1,none⟩ (.int .i64 0)).setCell ⟨r8,2,none⟩ (.int .i64 0)).setCell ⟨r8,3,none⟩ (.bool false)).setCell ⟨r8,4,none⟩ (.int .u32 0)):=
 b0E (hb.trans hs.on) (Nat.le_refl _) _ _ _ _ _
theorem b0G {f : List Int} {i k : Nat} (h : i + k <= 11) : rdN ((f.take 11).drop i) k = rdN (f.drop i) k:=by
 rw [List.drop_take]; exact b0g k (by omega)
theorem b7a (a b : Nat) (ha : a < 4294967296) (hb : b < 4294967296) : bits .and .i64 (a : Int) (b : Int) = ((a &&& b : Nat) : Int):=by
 have hx : a &&& b < 2 ^ 32:=Nat.and_lt_two_pow _ (by omega)
 show IntKind.i64.wrap ((BitVec.ofInt 64 (a : Int) &&& BitVec.ofInt 64 (b : Int)).toNat : Int) = _
 rw [BitVec.toNat_and,a7K a (by omega),a7K b (by omega),IntKind.wrap_i64]
 omega
theorem and_3 (a : Nat) (ha : a < 4294967296) : bits .and .i64 (a : Int) 3 = ((a % 4 : Nat) : Int):=by
 have:=b7a a 3 ha (by decide)
 rw [nat_mask2] at this; exact this
theorem and_4 (a : Nat) (ha : a < 4294967296) : bits .and .i64 (a : Int) 4 = ((a / 4 % 2 * 4 : Nat) : Int):=by
 have:=b7a a 4 ha (by decide)
 rw [show a &&& 4 = a / 4 % 2 * 4 from nat_bit 2 a] at this; exact this
set_option maxRecDepth 100000 in
set_option maxHeartbeats 4000000 in
theorem b7b (A : Option Addr) (c : Nat) (f : List Int) (log : Int) (first : Bool) (room : Int) (w : World) (hr : (Kd.int .u8).C w A f.length f) (hf : Bytes f) (hl : f.length <= 1000000) (hc : f.length <= c) :
    Calls Tryz.prog 91 #[.slice A f.length c,.int .i64 log,.bool first,.int .i64 room] w (b0F (scanM f log first room) w):=by
 obtain ⟨W0,hW0⟩ : ∃ W,W = w.alloc (.cells #[.int .i64 0,.int .i64 0,.int .i64 0,.bool false,.int .u32 0] 114):=⟨_,rfl⟩
 have hk0 : W0.heap[w.heap.size]? = some (.cells #[.int .i64 0,.int .i64 0,.int .i64 0,.bool false,.int .u32 0] 114 (0,0)):=by rw [hW0]; exact a0k _ _
 have hb0 : Below w.heap.size w W0:=by rw [hW0]; exact (Below.refl _ _).alloc (Nat.le_refl _) _
 have hs0 : W0.heap.size = w.heap.size + 1:=by rw [hW0]; simp
 have HK0:=Lib.hid (And.intro hk0 hb0)
 by_cases hg : log < 10 \/ 17 < log \/ room < 0
 · have hE : scanM f log first room = (1,headZ):=by unfold scanM; rw [if_pos hg]
   rw [hE]
   have hd : decide (log < 10) = true \/ (decide (log < 10) = false /\ decide (17 < log) = true) \/ (decide (log < 10) = false /\ decide (17 < log) = false /\ decide (room < 0) = true):=by
    by_cases h1 : log < 10
    · exact .inl (decide_eq_true h1)
    · by_cases h2 : 17 < log
      · exact .inr (.inl ⟨decide_eq_false h1,decide_eq_true h2⟩)
      · exact .inr (.inr ⟨decide_eq_false h1,decide_eq_false h2,decide_eq_true (by omega)⟩)
   clear hr hf hl hc hk0 hb0 hs0 hg hE
   rcases hd with d1 | ⟨d1,d2⟩ | ⟨d1,d2,d3⟩
   all_goals
    go_enter Tryz.func91,Tryz.ntmps91
    go_wp2_with fail
    rw [<- hW0]
    refine bodyPost_ret (a1X (fn:=Tryz.f91) (p:=8) (u:=9) (ty:=114) rfl _ _ _ _ rfl (a2S HK0.out.1)) rfl ?_
    exact ⟨by rw [a3q]; rfl,HK0.out.2⟩
 · have hlr : 10 <= log /\ log <= 17 /\ 0 <= room:=by omega
   have g1 : decide (log < 10) = false:=decide_eq_false (by omega)
   have g2 : decide (17 < log) = false:=decide_eq_false (by omega)
   have g3 : decide (room < 0) = false:=decide_eq_false (by omega)
   obtain ⟨lg,rfl⟩ : ∃ lg : Nat,log = lg:=⟨log.toNat,by omega⟩
   obtain ⟨m,hm⟩ : ∃ m,m = min f.length 11:=⟨_,rfl⟩
   have hmin : Builtin.min2 (.int .i64 (f.length : Int)) (.int .i64 11) = pure (.int .i64 (m : Int)):=by
    rw [a1Q]
    by_cases h11 : f.length <= 11
    · rw [if_neg (by omega),hm,Nat.min_eq_left h11]
    · rw [if_pos (by omega),hm,Nat.min_eq_right (by omega)]; rfl
   have hsl : ∀ W : World,(Instr.slice 22 (.slice A f.length c) none (some (.int .i64 (m : Int))) none).run Tryz.prog W = .ok (.slice A m c) W:=λ W=>by
    obtain ⟨i0,hi0,hz0,hz1,hz2⟩:=info_parts a0w
    have:=a6c (P:=Tryz.prog) 22 5 .i64 Tryz.underlying22 hi0 A f.length c (m : Int) (by omega) (by omega) hc W
    simp only [Int.toNat_natCast] at this
    exact this
   obtain ⟨W2,hW2⟩ : ∃ W,W = (W0.alloc (.cells #[.slice A m c,.bool false] 179)).alloc (.cells #[.int .i64 0,.int .i64 0,.int .i64 0,.bool false,.int .u32 0] 114):=⟨_,rfl⟩
   obtain ⟨p,hp⟩ : ∃ p,p = W0.heap.size:=⟨_,rfl⟩
   obtain ⟨r8,hr8⟩ : ∃ r,r = w.heap.size:=⟨_,rfl⟩
   obtain ⟨h,hh⟩ : ∃ h,h = p + 1:=⟨_,rfl⟩
   obtain ⟨fs,hfs⟩ : ∃ fs,fs = f.take 11:=⟨_,rfl⟩
   have hfl : fs.length = m:=by rw [hfs,List.length_take,hm,Nat.min_comm]
   have hC : (Kd.int .u8).C W0 A m fs:=by
    have:=Kd.C_take (m:=m) (Kd.C_below hr hb0) (by omega)
    have e : f.take m = fs:=by
     rw [hfs,hm]
     by_cases h11 : f.length <= 11
     · rw [Nat.min_eq_left h11,List.take_length,List.take_of_length_le h11]
     · rw [Nat.min_eq_right (by omega)]
    rw [e,hfl] at this; exact this
   have HS : Hid (ScanAt W0 p h r8 fs false 0 0 0 false W2):=by
    show ScanAt W0 p h r8 fs false 0 0 0 false W2
    have hb2 : Below W0.heap.size W0 W2:=by rw [hW2]; exact ((Below.refl _ _).alloc (Nat.le_refl _) _).alloc (by simp) _
    refine ⟨⟨⟨A,c,?_,by rw [hfl]; exact hC,by rw [hfl]; omega⟩,by rw [hp]; exact Nat.le_refl _,hb2⟩,?_,?_,?_⟩
    · rw [hW2,hp,hfl]; exact a0n (a0k _ _) _
    · rw [hW2,hh,hp]
      have:=a0k (W0.alloc (.cells #[.slice A m c,.bool false] 179)) (.cells #[.int .i64 0,.int .i64 0,.int .i64 0,.bool false,.int .u32 0] 114 (0,0))
      simp only [World.alloc] at this ⊢
      simpa using this
    · rw [hW2,hr8]; exact a0n (a0n hk0 _) _
    · exact hb2.mono (by omega)
   have HO:=Lib.hid (show r8 < p /\ p < h from ⟨by omega,by omega⟩)
   have HB0:=Lib.hid (show Below r8 w W0 from by rw [hr8]; exact hb0)
   have HBf:=Lib.hid (show Bytes fs from by rw [hfs]; exact λ x hx=>hf x (List.mem_of_mem_take hx))
   have HFl:=Lib.hid (show fs.length <= 1000000 from by omega)
   have HWr:=Lib.hid hr8
   have HLR:=Lib.hid hlr
   have hp' : p = w.heap.size + 1:=by rw [hp,hs0]
   have hh' : h = w.heap.size + 1 + 1:=by rw [hh,hp']
   have HF:=Lib.hid (And.intro hfs (And.intro hfl hm))
   clear hr hf hl hc hk0 hb0 hs0 hg hlr hm hfl hC hfs hp hh
   go_enter Tryz.func91,Tryz.ntmps91
   go_wp2_with fail
   rw [<- hW0,<- hW2,<- hh',<- hp',<- hr8]
   have hne1 : h ≠ p:=by have:=HO.out; omega
   have hne2 : p ≠ h:=by have:=HO.out; omega
   have hne3 : h ≠ r8:=by have:=HO.out; omega
   have hne4 : r8 ≠ h:=by have:=HO.out; omega
   clear hh' hp' hr8 hW0 hW2 hmin hsl
   refine (a4n W0 p 1 fs false W2 HS.out.rd (by decide) HBf.out HFl.out).mono ?_
   intro e w3 hn
   obtain ⟨rfl,hs3⟩:=HS.out.num HO.out hn
   rw [Bool.false_or] at hs3
   have hk1 : rdN fs (min 1 fs.length) < 256:=Nat.lt_of_lt_of_le (a2E HBf.out _) (Nat.le_trans (Nat.pow_le_pow_right (by decide : 256 > 0) (Nat.min_le_left 1 _)) (by decide))
   have HK1:=Lib.hid (show 1 <= fs.length -> rdN fs (min 1 fs.length) = (fs.getD 0 0).toNat from λ h1=>by rw [Nat.min_eq_left h1]; simp [rdN])
   obtain ⟨k1,hk1e⟩ : ∃ k,k = rdN fs (min 1 fs.length):=⟨_,rfl⟩
   rw [<- hk1e] at hk1 HK1 ⊢
   have h3:=and_3 k1 (by omega)
   have h4:=and_4 k1 (by omega)
   obtain ⟨a,ha⟩ : ∃ a,a = k1 % 4:=⟨_,rfl⟩
   obtain ⟨v4,hv4⟩ : ∃ a,a = k1 / 4 % 2 * 4:=⟨_,rfl⟩
   obtain ⟨lb,hlb⟩ : ∃ b,b = ((v4 : Int) != 0):=⟨_,rfl⟩
   have HLB:=Lib.hid (show k1 <= 7 -> lb = decide (4 <= k1) from λ h7=>by
    rw [hlb,hv4,Bool.eq_iff_iff]; simp; omega)
   rw [<- ha] at h3
   rw [<- hv4] at h4
   have hlb2 : ((v4 : Int) != 0) = lb:=hlb.symm
   have HA:=Lib.hid ha
   have HS3:=Lib.hid hs3
   have HX:=Lib.hid ((hs3.set0 HO.out a).set3 HO.out lb)
   obtain ⟨sh1,hsh1⟩ : ∃ b,b = decide (fs.length < 1):=⟨_,rfl⟩
   rw [<- hsh1] at hs3 HX HS3
   obtain ⟨fs1,hfs1⟩ : ∃ l,l = fs.drop 1:=⟨_,rfl⟩
   rw [<- hfs1] at hs3 HX HS3
   have HF1:=Lib.hid (And.intro hfs1 (show fs1.length = fs.length - 1 from by rw [hfs1]; exact List.length_drop))
   have HBf1:=Lib.hid (show Bytes fs1 from by rw [hfs1]; exact λ x hx=>HBf.out x (List.mem_of_mem_drop hx))
   have HFl1:=Lib.hid (show fs1.length <= 1000000 from by have:=HF1.out.2; have:=HFl.out; omega)
   obtain ⟨q1,q2,q3,q4,q5⟩:=HX.out.cells
   obtain ⟨s1,s2,s3,s4,s5⟩:=hs3.cells
   obtain ⟨s20,s21,s22,s23,s24⟩:=s2
   obtain ⟨s30,s31,s32,s33,s34⟩:=s3
   obtain ⟨s40,s41,s42,s43,s44⟩:=s4
   obtain ⟨s50,s51,s52,s53,s54⟩:=s5
   clear hn hs3 hlb hv4 ha hk1e hfs1 q1 q2 q3 q4 q5
   by_cases hL1 : fs.length < 1
   · have HE:=Lib.hid (show scanM f lg first room = (3,headZ) from by
       have:=HF.out
       unfold scanM; rw [if_neg (by have:=HLR.out; omega),if_pos (by omega)])
     rw [decide_eq_true hL1] at hsh1
     subst hsh1
     clear hL1
     go_wp2_with fail
     refine (a4n W0 p 3 fs1 _ _ HX.out.rd (by decide) HBf1.out HFl1.out).mono ?_
     intro e w4 hn
     obtain ⟨rfl,hs4⟩:=HX.out.num HO.out hn
     have hn2 : rdN fs1 (min 3 fs1.length) < 4294967296:=Nat.lt_of_lt_of_le (a2E HBf1.out _) (Nat.le_trans (Nat.pow_le_pow_right (by decide : 256 > 0) (Nat.min_le_left 3 _)) (by decide))
     have Hn2:=Lib.hid (show 3 <= fs1.length -> rdN fs1 (min 3 fs1.length) = rdN fs1 3 from λ h1=>by rw [Nat.min_eq_left h1])
     obtain ⟨n2,n2e⟩ : ∃ k,k = rdN fs1 (min 3 fs1.length):=⟨_,rfl⟩
     rw [<- n2e] at hn2 Hn2 ⊢
     clear n2e hn
     clear s1 s20 s21 s22 s23 s24 s30 s31 s32 s33 s34 s40 s41 s42 s43 s44 s50 s51 s52 s53 s54
     rw [Bool.true_or] at hs4
     obtain ⟨fs2,fs2e⟩ : ∃ l,l = fs1.drop 3:=⟨_,rfl⟩
     rw [<- fs2e] at hs4
     have HF2:=Lib.hid (And.intro fs2e (show fs2.length = fs1.length - 3 from by rw [fs2e]; exact List.length_drop))
     have HBf2:=Lib.hid (show Bytes fs2 from by rw [fs2e]; exact λ x hx=>HBf1.out x (List.mem_of_mem_drop hx))
     have HFl2:=Lib.hid (show fs2.length <= 1000000 from by have:=HF2.out.2; have:=HFl1.out; omega)
     clear fs2e
     have HX4:=Lib.hid (hs4.set1 HO.out n2)
     obtain ⟨s1,s2,s3,s4,s5⟩:=hs4.cells
     obtain ⟨s20,s21,s22,s23,s24⟩:=s2
     obtain ⟨s30,s31,s32,s33,s34⟩:=s3
     obtain ⟨s40,s41,s42,s43,s44⟩:=s4
     obtain ⟨s50,s51,s52,s53,s54⟩:=s5
     clear hs4
     go_wp2_with fail
     refine (a4n W0 p 3 fs2 _ _ HX4.out.rd (by decide) HBf2.out HFl2.out).mono ?_
     intro e w5 hn
     obtain ⟨rfl,hs5⟩:=HX4.out.num HO.out hn
     have hn3 : rdN fs2 (min 3 fs2.length) < 4294967296:=Nat.lt_of_lt_of_le (a2E HBf2.out _) (Nat.le_trans (Nat.pow_le_pow_right (by decide : 256 > 0) (Nat.min_le_left 3 _)) (by decide))
     have Hn3:=Lib.hid (show 3 <= fs2.length -> rdN fs2 (min 3 fs2.length) = rdN fs2 3 from λ h1=>by rw [Nat.min_eq_left h1])
     obtain ⟨n3,n3e⟩ : ∃ k,k = rdN fs2 (min 3 fs2.length):=⟨_,rfl⟩
     rw [<- n3e] at hn3 Hn3 ⊢
     clear n3e hn
     rw [Bool.true_or] at hs5
     have HX5:=Lib.hid (hs5.set2 HO.out n3)
     clear s1 s20 s21 s22 s23 s24 s30 s31 s32 s33 s34 s40 s41 s42 s43 s44 s50 s51 s52 s53 s54
     obtain ⟨s1,s2,s3,s4,s5⟩:=hs5.cells
     obtain ⟨s20,s21,s22,s23,s24⟩:=s2
     obtain ⟨s30,s31,s32,s33,s34⟩:=s3
     obtain ⟨s40,s41,s42,s43,s44⟩:=s4
     obtain ⟨s50,s51,s52,s53,s54⟩:=s5
     clear hs5
     go_wp2_with fail
     refine bodyPost_ret (a1X (fn:=Tryz.f91) (p:=8) (u:=9) (ty:=114) rfl _ _ _ _ rfl (a2S (a3p HX5.out.kr _ _ _ _ _))) rfl ?_
     rw [HE.out]
     exact ⟨by rw [a3q]; rfl,by show Below w.heap.size w _; rw [<- HWr.out]; exact a4q HX5.out HB0.out⟩
   · have hfl1 : 1 <= f.length:=by have:=HF.out; omega
     have hg0 : fs.getD 0 0 = f.getD 0 0:=by rw [HF.out.1,List.getD_eq_getElem?_getD,List.getElem?_take,if_pos (by decide),<- List.getD_eq_getElem?_getD]
     have HKf:=Lib.hid (show (f.getD 0 0).toNat = k1 from by rw [<- hg0]; exact (HK1.out (by omega)).symm)
     have HL1:=Lib.hid (And.intro hL1 hfl1)
     rw [decide_eq_false hL1] at hsh1
     subst hsh1
     clear hg0 hL1 hfl1
     by_cases h7 : 7 < k1
     · have HE:=Lib.hid (show scanM f lg first room = (10,headZ) from by
         unfold scanM; rw [if_neg (by have:=HLR.out; omega),if_neg (by have:=HL1.out.2; omega),if_pos (by rw [HKf.out]; exact h7)])
       have h7I : (7 : Int) < (k1 : Int):=by omega
       clear h7
       go_wp2_with fail
       refine bodyPost_ret (a1X (fn:=Tryz.f91) (p:=8) (u:=9) (ty:=114) rfl _ _ _ _ rfl (a2S (a3p HX.out.kr _ _ _ _ _))) rfl ?_
       rw [HE.out]
       exact ⟨by rw [a3q]; rfl,by show Below w.heap.size w _; rw [<- HWr.out]; exact a4q HX.out HB0.out⟩
     · have hlb4:=HLB.out (by omega)
       have HLB2:=Lib.hid hlb4
       have H7:=Lib.hid h7
       have h7I : ¬ (7 : Int) < (k1 : Int):=by omega
       clear h7 hlb4
       go_wp2_with fail
       refine (a4n W0 p 3 fs1 _ _ HX.out.rd (by decide) HBf1.out HFl1.out).mono ?_
       intro e w4 hn
       obtain ⟨rfl,hs4⟩:=HX.out.num HO.out hn
       have hn2 : rdN fs1 (min 3 fs1.length) < 4294967296:=Nat.lt_of_lt_of_le (a2E HBf1.out _) (Nat.le_trans (Nat.pow_le_pow_right (by decide : 256 > 0) (Nat.min_le_left 3 _)) (by decide))
       have Hn2:=Lib.hid (show 3 <= fs1.length -> rdN fs1 (min 3 fs1.length) = rdN fs1 3 from λ h1=>by rw [Nat.min_eq_left h1])
       obtain ⟨n2,n2e⟩ : ∃ k,k = rdN fs1 (min 3 fs1.length):=⟨_,rfl⟩
       rw [<- n2e] at hn2 Hn2 ⊢
       clear n2e hn
       rw [Bool.false_or] at hs4
       obtain ⟨sh2,hsh2⟩ : ∃ b,b = decide (fs1.length < 3):=⟨_,rfl⟩
       rw [<- hsh2] at hs4
       obtain ⟨fs2,fs2e⟩ : ∃ l,l = fs1.drop 3:=⟨_,rfl⟩
       rw [<- fs2e] at hs4
       have HF2:=Lib.hid (And.intro fs2e (show fs2.length = fs1.length - 3 from by rw [fs2e]; exact List.length_drop))
       have HBf2:=Lib.hid (show Bytes fs2 from by rw [fs2e]; exact λ x hx=>HBf1.out x (List.mem_of_mem_drop hx))
       have HFl2:=Lib.hid (show fs2.length <= 1000000 from by have:=HF2.out.2; have:=HFl1.out; omega)
       clear fs2e
       have HX4:=Lib.hid (hs4.set1 HO.out n2)
       clear s1 s20 s21 s22 s23 s24 s30 s31 s32 s33 s34 s40 s41 s42 s43 s44 s50 s51 s52 s53 s54
       obtain ⟨s1,s2,s3,s4,s5⟩:=hs4.cells
       obtain ⟨s20,s21,s22,s23,s24⟩:=s2
       obtain ⟨s30,s31,s32,s33,s34⟩:=s3
       obtain ⟨s40,s41,s42,s43,s44⟩:=s4
       obtain ⟨s50,s51,s52,s53,s54⟩:=s5
       clear hs4
       by_cases hL4 : fs1.length < 3
       · have HE:=Lib.hid (show scanM f lg first room = (3,headZ) from by
           have h1:=HF.out
           have h2:=HF1.out.2
           have h3:=HL1.out
           unfold scanM
           rw [if_neg (by have:=HLR.out; omega),if_neg (by omega),if_neg (by rw [HKf.out]; exact H7.out),if_pos (by omega)])
         rw [decide_eq_true hL4] at hsh2
         subst hsh2
         clear hL4
         go_wp2_with fail
         refine (a4n W0 p 3 fs2 _ _ HX4.out.rd (by decide) HBf2.out HFl2.out).mono ?_
         intro e w5 hn
         obtain ⟨rfl,hs5⟩:=HX4.out.num HO.out hn
         have hn3 : rdN fs2 (min 3 fs2.length) < 4294967296:=Nat.lt_of_lt_of_le (a2E HBf2.out _) (Nat.le_trans (Nat.pow_le_pow_right (by decide : 256 > 0) (Nat.min_le_left 3 _)) (by decide))
         have Hn3:=Lib.hid (show 3 <= fs2.length -> rdN fs2 (min 3 fs2.length) = rdN fs2 3 from λ h1=>by rw [Nat.min_eq_left h1])
         obtain ⟨n3,n3e⟩ : ∃ k,k = rdN fs2 (min 3 fs2.length):=⟨_,rfl⟩
         rw [<- n3e] at hn3 Hn3 ⊢
         clear n3e hn
         rw [Bool.true_or] at hs5
         have HX5:=Lib.hid (hs5.set2 HO.out n3)
         clear s1 s20 s21 s22 s23 s24 s30 s31 s32 s33 s34 s40 s41 s42 s43 s44 s50 s51 s52 s53 s54
         obtain ⟨s1,s2,s3,s4,s5⟩:=hs5.cells
         obtain ⟨s20,s21,s22,s23,s24⟩:=s2
         obtain ⟨s30,s31,s32,s33,s34⟩:=s3
         obtain ⟨s40,s41,s42,s43,s44⟩:=s4
         obtain ⟨s50,s51,s52,s53,s54⟩:=s5
         clear hs5
         go_wp2_with fail
         refine bodyPost_ret (a1X (fn:=Tryz.f91) (p:=8) (u:=9) (ty:=114) rfl _ _ _ _ rfl (a2S (a3p HX5.out.kr _ _ _ _ _))) rfl ?_
         rw [HE.out]
         exact ⟨by rw [a3q]; rfl,by show Below w.heap.size w _; rw [<- HWr.out]; exact a4q HX5.out HB0.out⟩
       · have HL4:=Lib.hid (show 4 <= f.length /\ 3 <= fs1.length from by
           have h1:=HF.out
           have h2:=HF1.out.2
           have h3:=HL1.out
           omega)
         have HN:=Lib.hid (show rdN (f.drop 1) 3 = n2 from by
          rw [Hn2.out HL4.out.2,HF1.out.1,HF.out.1]; exact (b0G (by decide)).symm)
         rw [decide_eq_false hL4] at hsh2
         subst hsh2
         clear hL4
         have HLen:=Lib.hid (λ (W : World)=>c8z a n2 0 0 lg lb first W (by have:=HLR.out; omega))
         obtain ⟨z,hz⟩ : ∃ z,z = a1J lg first a n2 lb:=⟨_,rfl⟩
         rw [<- hz] at HLen
         have HZ:=Lib.hid hz
         clear hz
         go_wp2_with fail
         refine (HLen.out _).mono ?_
         rintro e w5 ⟨rfl,hb5⟩
         have hs5:=HX4.out.below hb5
         have HX5:=Lib.hid hs5
         clear s1 s20 s21 s22 s23 s24 s30 s31 s32 s33 s34 s40 s41 s42 s43 s44 s50 s51 s52 s53 s54
         obtain ⟨s1,s2,s3,s4,s5⟩:=hs5.cells
         obtain ⟨s20,s21,s22,s23,s24⟩:=s2
         obtain ⟨s30,s31,s32,s33,s34⟩:=s3
         obtain ⟨s40,s41,s42,s43,s44⟩:=s4
         obtain ⟨s50,s51,s52,s53,s54⟩:=s5
         clear hb5 hs5
         have hpre : (if ((lg : Int) < 10 \/ 17 < (lg : Int) \/ room < 0) then ((1,headZ) : Int × HeadT) else (0,headZ)) = (0,headZ):=if_neg (by have:=HLR.out; omega)
         clear hpre
         cases z with
         | false=>
          have HE:=Lib.hid (show scanM f lg first room = (11,headZ) from by
           have h1:=HL4.out.1
           unfold scanM
           rw [if_neg (by have:=HLR.out; omega),if_neg (by omega),if_neg (by rw [HKf.out]; exact H7.out),if_neg (by omega),HKf.out,HN.out,<- HA.out,<- HLB2.out,if_pos HZ.out.symm])
          go_wp2_with fail
          refine bodyPost_ret (a1X (fn:=Tryz.f91) (p:=8) (u:=9) (ty:=114) rfl _ _ _ _ rfl (a2S (a3p HX5.out.kr _ _ _ _ _))) rfl ?_
          rw [HE.out]
          exact ⟨by rw [a3q]; rfl,by show Below w.heap.size w _; rw [<- HWr.out]; exact a4q HX5.out HB0.out⟩
         | true=>
          go_wp2_with fail
          refine (a4n W0 p 3 fs2 _ _ HX5.out.rd (by decide) HBf2.out HFl2.out).mono ?_
          intro e w6 hn
          obtain ⟨rfl,hs6⟩:=HX5.out.num HO.out hn
          have hn3 : rdN fs2 (min 3 fs2.length) < 4294967296:=Nat.lt_of_lt_of_le (a2E HBf2.out _) (Nat.le_trans (Nat.pow_le_pow_right (by decide : 256 > 0) (Nat.min_le_left 3 _)) (by decide))
          have Hn3:=Lib.hid (show 3 <= fs2.length -> rdN fs2 (min 3 fs2.length) = rdN fs2 3 from λ h1=>by rw [Nat.min_eq_left h1])
          obtain ⟨n3,n3e⟩ : ∃ k,k = rdN fs2 (min 3 fs2.length):=⟨_,rfl⟩
          rw [<- n3e] at hn3 Hn3 ⊢
          clear n3e hn
          rw [Bool.false_or] at hs6
          obtain ⟨sh3,hsh3⟩ : ∃ b,b = decide (fs2.length < 3):=⟨_,rfl⟩
          rw [<- hsh3] at hs6
          obtain ⟨fs3,fs3e⟩ : ∃ l,l = fs2.drop 3:=⟨_,rfl⟩
          rw [<- fs3e] at hs6
          have HF3:=Lib.hid (And.intro fs3e (show fs3.length = fs2.length - 3 from by rw [fs3e]; exact List.length_drop))
          have HBf3:=Lib.hid (show Bytes fs3 from by rw [fs3e]; exact λ x hx=>HBf2.out x (List.mem_of_mem_drop hx))
          have HFl3:=Lib.hid (show fs3.length <= 1000000 from by have:=HF3.out.2; have:=HFl2.out; omega)
          clear fs3e
          have HX6:=Lib.hid (hs6.set2 HO.out n3)
          clear s1 s20 s21 s22 s23 s24 s30 s31 s32 s33 s34 s40 s41 s42 s43 s44 s50 s51 s52 s53 s54
          obtain ⟨s1,s2,s3,s4,s5⟩:=hs6.cells
          obtain ⟨s20,s21,s22,s23,s24⟩:=s2
          obtain ⟨s30,s31,s32,s33,s34⟩:=s3
          obtain ⟨s40,s41,s42,s43,s44⟩:=s4
          obtain ⟨s50,s51,s52,s53,s54⟩:=s5
          clear hs6
          have HPre:=Lib.hid (show scanM f lg first room = (if f.length < 7 then (3,headZ) else
              if a0H (a : Nat) n2 (rdN (f.drop 4) 3) ≠ 0 then (a0H (a : Nat) n2 (rdN (f.drop 4) 3),headZ) else
              if room < n2 then (7,headZ) else
              if f.length < 11 then (3,headZ) else
              (0,a,n2,rdN (f.drop 4) 3,lb,rdN (f.drop 7) 4)) from by
           have h1:=HL4.out.1
           unfold scanM
           rw [if_neg (by have:=HLR.out; omega),if_neg (by omega),if_neg (by rw [HKf.out]; exact H7.out),if_neg (by omega),HKf.out,HN.out,<- HA.out,<- HLB2.out,if_neg (by rw [<- HZ.out]; decide)])
          have HFL:=Lib.hid (show fs2.length = min f.length 11 - 4 from by
           have h1:=HF.out.2
           have h2:=HF1.out.2
           have h3:=HF2.out.2
           omega)
          by_cases hL7 : fs2.length < 3
          · have HE:=Lib.hid (show scanM f lg first room = (3,headZ) from by
              have:=HFL.out
              have:=HL4.out.1
              rw [HPre.out,if_pos (by omega)])
            rw [decide_eq_true hL7] at hsh3
            subst hsh3
            clear hL7
            go_wp2_with fail
            refine bodyPost_ret (a1X (fn:=Tryz.f91) (p:=8) (u:=9) (ty:=114) rfl _ _ _ _ rfl (a2S (a3p HX6.out.kr _ _ _ _ _))) rfl ?_
            rw [HE.out]
            exact ⟨by rw [a3q]; rfl,by show Below w.heap.size w _; rw [<- HWr.out]; exact a4q HX6.out HB0.out⟩
          · have HL7:=Lib.hid (show 7 <= f.length /\ 3 <= fs2.length from by have:=HFL.out; omega)
            have HM:=Lib.hid (show rdN (f.drop 4) 3 = n3 from by
             rw [Hn3.out HL7.out.2,HF2.out.1,HF1.out.1,List.drop_drop,HF.out.1]; exact (b0G (by decide)).symm)
            rw [HM.out,if_neg (by have:=HL7.out.1; omega)] at HPre
            rw [decide_eq_false hL7] at hsh3
            subst hsh3
            clear hL7
            have HChk:=Lib.hid (λ (W : World)=>a5d a n2 n3 W)
            obtain ⟨ck,hck⟩ : ∃ z,z = a0H a n2 n3:=⟨_,rfl⟩
            unfold a1w at HChk
            rw [<- hck] at HChk HPre
            clear hck
            go_wp2_with fail
            refine (HChk.out _).mono ?_
            rintro e w7 ⟨rfl,hb7⟩
            have hs7:=HX6.out.below hb7
            have HX7:=Lib.hid hs7
            clear s1 s20 s21 s22 s23 s24 s30 s31 s32 s33 s34 s40 s41 s42 s43 s44 s50 s51 s52 s53 s54
            obtain ⟨s1,s2,s3,s4,s5⟩:=hs7.cells
            obtain ⟨s20,s21,s22,s23,s24⟩:=s2
            obtain ⟨s30,s31,s32,s33,s34⟩:=s3
            obtain ⟨s40,s41,s42,s43,s44⟩:=s4
            obtain ⟨s50,s51,s52,s53,s54⟩:=s5
            clear hb7 hs7
            by_cases hc0 : ck = 0
            · subst hc0
              rw [if_neg (λ h=>h rfl)] at HPre
              by_cases hrm : room < n2
              · have HE:=Lib.hid (show scanM f lg first room = (7,headZ) from by rw [HPre.out,if_pos hrm])
                clear HPre
                go_wp2_with fail
                refine bodyPost_ret (a1X (fn:=Tryz.f91) (p:=8) (u:=9) (ty:=114) rfl _ _ _ _ rfl (a2S (a3p HX7.out.kr _ _ _ _ _))) rfl ?_
                rw [HE.out]
                exact ⟨by rw [a3q]; rfl,by show Below w.heap.size w _; rw [<- HWr.out]; exact a4q HX7.out HB0.out⟩
              · rw [if_neg hrm] at HPre
                go_wp2_with fail
                refine (a4n W0 p 4 fs3 _ _ HX7.out.rd (by decide) HBf3.out HFl3.out).mono ?_
                intro e w8 hn
                obtain ⟨rfl,hs8⟩:=HX7.out.num HO.out hn
                have hn4 : rdN fs3 (min 4 fs3.length) < 4294967296:=Nat.lt_of_lt_of_le (a2E HBf3.out _) (Nat.le_trans (Nat.pow_le_pow_right (by decide : 256 > 0) (Nat.min_le_left 4 _)) (by decide))
                have Hn4:=Lib.hid (show 4 <= fs3.length -> rdN fs3 (min 4 fs3.length) = rdN fs3 4 from λ h1=>by rw [Nat.min_eq_left h1])
                obtain ⟨n4,n4e⟩ : ∃ k,k = rdN fs3 (min 4 fs3.length):=⟨_,rfl⟩
                rw [<- n4e] at hn4 Hn4 ⊢
                clear n4e hn
                rw [Bool.false_or] at hs8
                obtain ⟨sh4,hsh4⟩ : ∃ b,b = decide (fs3.length < 4):=⟨_,rfl⟩
                rw [<- hsh4] at hs8
                have HX8:=Lib.hid hs8
                clear s1 s20 s21 s22 s23 s24 s30 s31 s32 s33 s34 s40 s41 s42 s43 s44 s50 s51 s52 s53 s54
                obtain ⟨s1,s2,s3,s4,s5⟩:=hs8.cells
                obtain ⟨s20,s21,s22,s23,s24⟩:=s2
                obtain ⟨s30,s31,s32,s33,s34⟩:=s3
                obtain ⟨s40,s41,s42,s43,s44⟩:=s4
                obtain ⟨s50,s51,s52,s53,s54⟩:=s5
                clear hs8
                have hw4 : IntKind.u32.wrap (n4 : Int) = (n4 : Int):=by rw [IntKind.wrap_u32']; omega
                have HFL3:=Lib.hid (show fs3.length = min f.length 11 - 7 from by
                 have:=HFL.out
                 have:=HF3.out.2
                 omega)
                by_cases hL11 : fs3.length < 4
                · have HE:=Lib.hid (show scanM f lg first room = (3,headZ) from by
                    have:=HFL3.out
                    rw [HPre.out,if_pos (by omega)])
                  rw [decide_eq_true hL11] at hsh4
                  subst hsh4
                  clear hL11 HPre
                  go_wp2_with fail
                  refine bodyPost_ret (a1X (fn:=Tryz.f91) (p:=8) (u:=9) (ty:=114) rfl _ _ _ _ rfl (a2S (a3p (a1x HX8.out.kr (p:=⟨h,4,none⟩) (by show r8 ≠ h; have:=HO.out; omega) _) _ _ _ _ _))) rfl ?_
                  rw [HE.out]
                  exact ⟨by rw [a3q]; rfl,by show Below w.heap.size w _; rw [<- HWr.out]; exact b0E ((HB0.out.trans HX8.out.on).setCell (p:=⟨h,4,none⟩) (by show r8 <= h; have:=HO.out; omega) _) (Nat.le_refl _) _ _ _ _ _⟩
                · have hM4 : rdN (f.drop 7) 4 = n4:=by
                    rw [Hn4.out (by omega),HF3.out.1,HF2.out.1,HF1.out.1,List.drop_drop,List.drop_drop,HF.out.1]; exact (b0G (by decide)).symm
                  have HE:=Lib.hid (show scanM f lg first room = (0,a,n2,n3,lb,n4) from by
                   have:=HFL3.out
                   rw [HPre.out,if_neg (by omega),hM4])
                  rw [decide_eq_false hL11] at hsh4
                  subst hsh4
                  clear hL11 HPre hM4
                  go_wp2_with fail
                  refine bodyPost_ret (a1X (fn:=Tryz.f91) (p:=8) (u:=9) (ty:=114) rfl _ _ _ _ rfl (a2S (a3p (a1x HX8.out.kr (p:=⟨h,4,none⟩) (by show r8 ≠ h; have:=HO.out; omega) _) _ _ _ _ _))) rfl ?_
                  rw [HE.out]
                  exact ⟨rfl,by show Below w.heap.size w _; rw [<- HWr.out]; exact b0E ((HB0.out.trans HX8.out.on).setCell (p:=⟨h,4,none⟩) (by show r8 <= h; have:=HO.out; omega) _) (Nat.le_refl _) _ _ _ _ _⟩
            · have HE:=Lib.hid (show scanM f lg first room = (ck,headZ) from by rw [HPre.out,if_pos hc0])
              have hc2 : (ck != 0) = true:=by simpa using hc0
              clear HPre hc0
              go_wp2_with fail
              refine bodyPost_ret (a1X (fn:=Tryz.f91) (p:=8) (u:=9) (ty:=114) rfl _ _ _ _ rfl (a2S (a3p HX7.out.kr _ _ _ _ _))) rfl ?_
              rw [HE.out]
              exact ⟨by rw [a3q]; rfl,by show Below w.heap.size w _; rw [<- HWr.out]; exact a4q HX7.out HB0.out⟩
end Go.Proofs.YtflfjpkmjnnodaaGreat
namespace Go.Proofs.YtflfjpkmjnnodaaGreat
open Go.RowKit Go.IntWalk Go.Proofs.YtflfjpkmjnnodaaGreatW.PrintWords
def bestN (b : List Int) : Nat -> Int × List Int
 | 0=>(0,b)
 | k + 1=>a1a ((k + 1 : Nat) : Int) b (bestN b k)
theorem b7c (b : List Int) : bestN b 3 = bestP b:=rfl
theorem b7d (b : List Int) : ∀ k,(bestN b k).2.length <= b.length
 | 0=>Nat.le_refl _
 | k + 1=>Nat.le_trans (a7G _ b _).1 (b7d b k)
theorem b7e (b : List Int) : ∀ k,0 <= (bestN b k).1 /\ (bestN b k).1 <= k
 | 0=>⟨Int.le_refl _,Int.le_refl _⟩
 | k + 1=>by
  have:=b7e b k
  unfold bestN a1a
  split
  · exact ⟨by show (0 : Int) <= ((k + 1 : Nat) : Int); omega,Int.le_refl _⟩
  · omega
theorem b0H {k : Int} {b : List Int} {x : Int × List Int} (h0 : (pickE k b).1 = 0) (h1 : (pickE k b).2.length < x.2.length) : a1a k b x = (k,(pickE k b).2):=by unfold a1a; rw [if_pos ⟨h0,h1⟩]
theorem a5e {k : Int} {b : List Int} {x : Int × List Int} (h : ¬ ((pickE k b).1 = 0 /\ (pickE k b).2.length < x.2.length)) : a1a k b x = x:=by unfold a1a; rw [if_neg h]
def BestPost (b : List Int) (w : World) (e : Ending) (w' : World) : Prop:=
 ∃ A c,e = .returned (.tuple #[.int .i64 (bestP b).1,.slice A (bestP b).2.length c,.int .i64 0]) /\ (Kd.int .u8).R 5 w' w.heap.size (λ _=>True) (.slice A (bestP b).2.length c) (bestP b).2 /\ Below w.heap.size w w'
set_option maxRecDepth 100000 in
set_option maxHeartbeats 1000000 in
theorem a5f (A : Option Addr) (c : Nat) (b : List Int) (w : World) (hr : (Kd.int .u8).C w A b.length b) (hb : Bytes b) (hl : b.length <= 40000) :
    Calls Tryz.prog 79 #[.slice A b.length c] w (BestPost b w):=by
 have HE:=Lib.hid (λ (k : Int) (W : World) (hB : Below w.heap.size w W)=>c8n A c k b W (Kd.C_below hr hB) hb hl)
 have HE0:=Lib.hid (HE.out 0 w (Below.refl _ _))
 have e0 : pickE 0 b = (0,b):=by rw [a3o (by decide) (by decide),a5Q hl]
 rw [e0] at HE0
 have HL:=Lib.hid (And.intro hl e0)
 clear hr hb hl e0
 go_enter Tryz.func79,Tryz.ntmps79
 go_wp2_with fail
 refine HE0.out.mono ?_
 rintro e w1 ⟨A1,c1,rfl,hv1,hb1⟩
 have H1:=Lib.hid (And.intro hv1 hb1)
 clear hv1 hb1
 dsimp only
 go_wp2_with fail
 go_loopw [2,3,5,6,7] (λ nv bv kv xv fv wr=>∃ (k n : Nat) (y : List Int) (B : Option Addr) (cb : Nat),nv = .int .i64 n /\ bv = .slice B y.length cb /\ kv = .int .i64 ((k + 1 : Nat) : Int) /\ k <= 3 /\ Hid (bestN b k = ((n : Int),y) /\ (Kd.int .u8).R 5 wr w.heap.size (λ _=>True) (.slice B y.length cb) y /\ Below w.heap.size w wr)) (λ _ _ kv _ _ _=>4 - (intOf kv).toNat)
 case atStart=>exact ⟨0,0,b,A1,c1,rfl,rfl,rfl,by omega,Lib.hid ⟨rfl,H1.out.1,H1.out.2⟩⟩
 case round=>
  obtain ⟨k,n,y,B,cb,rfl,rfl,rfl,hk,H⟩:=hrel
  by_cases hlt : k < 3
  · have hI : ((k + 1 : Nat) : Int) < 4:=by omega
    have HC:=Lib.hid (HE.out ((k + 1 : Nat) : Int) wr H.out.2.2)
    have hyl:=b7d b k
    rw [H.out.1] at hyl
    have hyl2 : y.length <= b.length:=hyl
    obtain ⟨x,hx⟩ : ∃ x,x = pickE ((k + 1 : Nat) : Int) b:=⟨_,rfl⟩
    have HX:=Lib.hid hx
    rw [<- hx] at HC
    obtain ⟨f,z⟩:=x
    have hz : Hid (f = 0 -> z.length <= 1000000 \/ True):=Lib.hid (λ _=>.inr trivial)
    clear hx hyl hz
    go_wp2_with fail
    refine HC.out.mono ?_
    rintro e w2 ⟨A2,c2,rfl,hv2,hb2⟩
    have H2:=Lib.hid (And.intro hv2 hb2)
    clear hv2 hb2
    dsimp only at H2 ⊢
    have HB2:=Lib.hid (a0g H.out.2.2 H2.out.2)
    have HR2:=Lib.hid (Kd.R_below H.out.2.1 H2.out.2)
    by_cases h0 : f = 0
    · subst h0
      by_cases h1 : z.length < y.length
      · have hI1 : decide (z.length < y.length) = true:=decide_eq_true h1
        have HN:=Lib.hid (show bestN b (k + 1) = (((k + 1 : Nat) : Int),z) from by
         have e1 : bestN b (k + 1) = a1a ((k + 1 : Nat) : Int) b (bestN b k):=rfl
         rw [e1,b0H (by rw [<- HX.out]) (by rw [<- HX.out,H.out.1]; exact h1),<- HX.out])
        clear h1
        go_wp2_with fail
        go_roundw
        case rel=>exact ⟨k + 1,k + 1,z,A2,c2,rfl,rfl,by go_num,by omega,Lib.hid ⟨HN.out,Kd.R_lower H2.out.1 H.out.2.2.size,HB2.out⟩⟩
        case measure=>simp [intOf]; omega
      · have hI1 : decide (z.length < y.length) = false:=decide_eq_false h1
        have HN:=Lib.hid (show bestN b (k + 1) = ((n : Int),y) from by
         have e1 : bestN b (k + 1) = a1a ((k + 1 : Nat) : Int) b (bestN b k):=rfl
         rw [e1,a5e (by rw [<- HX.out,H.out.1]; exact λ h=>h1 h.2),H.out.1])
        clear h1
        go_wp2_with fail
        go_roundw
        case rel=>exact ⟨k + 1,n,y,B,cb,rfl,rfl,by go_num,by omega,Lib.hid ⟨HN.out,HR2.out,HB2.out⟩⟩
        case measure=>simp [intOf]; omega
    · have hf : (f == 0) = false:=by simpa using h0
      have HN:=Lib.hid (show bestN b (k + 1) = ((n : Int),y) from by
       have e1 : bestN b (k + 1) = a1a ((k + 1 : Nat) : Int) b (bestN b k):=rfl
       rw [e1,a5e (by rw [<- HX.out]; exact λ h=>h0 h.1),H.out.1])
      clear h0
      go_wp2_with fail
      go_roundw
      case rel=>exact ⟨k + 1,n,y,B,cb,rfl,rfl,by go_num,by omega,Lib.hid ⟨HN.out,HR2.out,HB2.out⟩⟩
      case measure=>simp [intOf]; omega
  · obtain rfl : k = 3:=by omega
    go_wp2_with fail
    go_ret3
    have e3:=H.out.1
    rw [b7c] at e3
    unfold BestPost
    rw [e3]
    exact ⟨B,cb,rfl,H.out.2.1,H.out.2.2⟩
theorem c8A {k : Int} {b : List Int} (hb : Bytes b) (hl : b.length <= 40000) (h0 : 0 < b.length) (he : (pickE k b).1 = 0) : 0 < (pickE k b).2.length:=by
 by_cases h : 0 <= k /\ k < 4
 · by_cases k0 : k = 0
   · subst k0; rw [a3o (by decide) (by decide),a5Q hl]; exact h0
   by_cases k1 : k = 1
   · subst k1
     rw [a3o (by decide) (by decide)] at he ⊢
     cases ha : a1q b with
     | false=>rw [a7R ha] at he; cases he
     | true=>rw [a7Q hl ha]; exact Nat.one_pos
   by_cases k2 : k = 2
   · subst k2; rw [b0C h0]; have:=b5Q hb hl h0; show 0 < (a1h b).length; omega
   · obtain rfl : k = 3:=by omega
     rw [b0D h0]; have:=b6h hb hl h0; show 0 < (a1d b).length; omega
 · rw [b0A h] at he; cases he
theorem b7f {k : Int} {b : List Int} {x : Int × List Int} (hb : Bytes b) (hl : b.length <= 40000) (h0 : 0 < b.length) (h1 : x.2.length <= 1) : a1a k b x = x:=by
 refine a5e ?_
 rintro ⟨he,hlt⟩
 have:=c8A hb hl h0 he
 omega
theorem b7g : bestP [] = (0,[]):=by
 have h1 : ∀ k x,a1a k [] (x,[]) = (x,([] : List Int)):=λ k x=>a5e (λ h=>by simp at h)
 unfold bestP; rw [h1,h1,h1]
theorem b7h {b : List Int} (hb : Bytes b) (hl : b.length <= 40000) (ha : a1q b = true) : bestP b = (1,[b.getD 0 0]):=by
 have h0:=(b0d ha).2
 have e : a1a 1 b (0,b) = (1,[b.getD 0 0]):=by
  have e1 : pickE 1 b = (0,[b.getD 0 0]):=by rw [a3o (by decide) (by decide),a7Q hl ha]
  rw [b0H (by rw [e1]) (by rw [e1]; exact h0),e1]
 unfold bestP
 have hs : ∀ k,a1a k b (1,[b.getD 0 0]) = (1,[b.getD 0 0]):=λ k=>b7f hb hl (by omega) (Nat.le_refl 1)
 rw [e,hs,hs]
theorem b4 : Bytes [4]:=by intro x hx; simp at hx; omega
theorem BestPost.out {b : List Int} {w : World} {e : Ending} {w' : World} (h : BestPost b w e w') (hb : Bytes b) : ∃ A c,e = .returned (.tuple #[.int .i64 (bestP b).1,.slice A (bestP b).2.length c,.int .i64 0]) /\ BSl w' A c (bestP b).2 /\ Below w.heap.size w w':=by
 obtain ⟨A,c,he,hr,hbl⟩:=h
 exact ⟨A,c,he,BSl.of hr (a3L hb),hbl⟩
theorem or_4 {k : Nat} (h : k <= 3) : bits .or .i64 (k : Int) 4 = ((k + 4 : Nat) : Int):=by
 have h1:=b6D k 4 (by omega) (by decide)
 have h2 : k ||| 4 = k + 4:=by
  have : k = 0 \/ k = 1 \/ k = 2 \/ k = 3:=by omega
  rcases this with rfl | rfl | rfl | rfl <;> rfl
 rw [h2] at h1; exact h1
structure PutF (k kk sm : Nat) (x e1 e2 e3 B : List Int) : Prop where
 kk7 : kk <= 7
 sm' : sm = a0W 0 x
 e1l : e1.length = 3
 e2l : e2.length = 3
 e3l : e3.length = 4
 all : B = (([(kk : Int)] ++ e1) ++ e2) ++ e3 ++ x
theorem putF {b : List Int} (hl : b.length <= 40000) (last : Bool) : ∃ k kk sm : Nat,(bestP b).1 = k /\ k <= 3 /\ kk = k + (if last then 4 else 0) /\ sm < 4294967296 /\ PutF k kk sm (bestP b).2 (leN b.length 3) (leN (bestP b).2.length 3) (leN sm 4) (putM b last):=by
 obtain ⟨k,hk,hk3⟩:=b0h (b:=b) (by omega)
 have hcl:=b4f 0 (bestP b).2
 refine ⟨k,_,a0W 0 (bestP b).2,hk,hk3,rfl,by omega,by split <;> omega,rfl,a2R _ _,a2R _ _,a2R _ _,?_⟩
 unfold putM
 rw [hk]
 cases last <;> simp
set_option maxRecDepth 100000 in
set_option maxHeartbeats 2000000 in
theorem c8C (A : Option Addr) (c : Nat) (b : List Int) (w : World) (hr : (Kd.int .u8).C w A b.length b) (hb : Bytes b) (hl : b.length <= 40000) (h0 : 0 < b.length) :
    Calls Tryz.prog 33 #[.slice A b.length c,.bool false] w (Told 0 (putM b false) w):=by
 have d1 : decide ((131072 : Int) < (b.length : Int)) = false:=decide_eq_false (by omega)
 have hn0 : ((b.length : Int) == 0) = false:=by simp; intro e; subst e; simp at h0
 have HBest:=Lib.hid (a5f A c b w hr hb hl)
 have HBy:=Lib.hid (a3L hb)
 have hbl:=a3M b
 obtain ⟨k,kk,sm,hk,hk3,hkk,hsm4,hF⟩:=putF hl false
 have HF:=Lib.hid hF
 obtain ⟨x,hx⟩ : ∃ x,x = (bestP b).2:=⟨_,rfl⟩
 unfold BestPost at HBest
 rw [hk,<- hx] at HBest
 rw [<- hx] at HBy hbl HF
 have hxl : x.length <= 40000:=by omega
 have hw1 : IntKind.u32.wrap (b.length : Int) = (b.length : Int):=by rw [IntKind.wrap_u32']; omega
 have hw2 : IntKind.u32.wrap (x.length : Int) = (x.length : Int):=by rw [IntKind.wrap_u32']; omega
 have hkk7:=hF.kk7
 have hw3 : IntKind.u8.wrap (kk : Int) = (kk : Int):=by rw [IntKind.wrap_u8']; omega
 have HLit1:=Lib.hid (λ W : World=>a3m b.length 3 W (by omega) (by decide))
 have HLit2:=Lib.hid (λ W : World=>a3m x.length 3 W (by omega) (by decide))
 have HLit3:=Lib.hid (λ W : World=>a3m sm 4 W hsm4 (by decide))
 obtain ⟨e1,he1⟩ : ∃ l,l = leN b.length 3:=⟨_,rfl⟩
 obtain ⟨e2,he2⟩ : ∃ l,l = leN x.length 3:=⟨_,rfl⟩
 obtain ⟨e3,he3⟩ : ∃ l,l = leN sm 4:=⟨_,rfl⟩
 rw [<- he1] at HF HLit1
 rw [<- he2] at HF HLit2
 rw [<- he3] at HF HLit3
 have hk2 : kk = k:=by rw [hkk]; rfl
 subst hk2
 obtain ⟨B,hB⟩ : ∃ l,l = putM b false:=⟨_,rfl⟩
 rw [<- hB] at HF ⊢
 have HXl:=Lib.hid hxl
 clear hr hb hk hk3 hkk hx he1 he2 he3 hl hbl hkk7 hsm4 hF hB
 go_enter Tryz.func33,Tryz.ntmps33
 go_wp2_with fail
 refine HBest.out.mono ?_
 rintro e w1 ⟨Ax,cx,rfl,hvx,hb1⟩
 have HX1:=Lib.hid (Kd.R_reads' hvx).2.2
 have HB1:=Lib.hid hb1
 have hbl2 : Below w1.heap.size w1 (w1.alloc (.cells #[.int .u8 (kk : Int)] 5)):=(Below.refl _ _).alloc (Nat.le_refl _) _
 have HO1 : Hid ((Kd.int .u8).R 5 (w1.alloc (.cells #[.int .u8 (kk : Int)] 5)) w1.heap.size (λ _=>True) (.slice (some ⟨w1.heap.size,0,none⟩) 1 1) [(kk : Int)]):=Lib.hid (a2i .u8 5 w1 w1.heap.size (λ _=>True) trivial (Nat.le_refl _) [(kk : Int)] (by simp))
 have HBl2:=Lib.hid hbl2
 clear hvx hb1 hbl2
 go_wp2_with fail
 refine (HLit1.out _).mono ?_
 rintro e w2 ⟨v2,rfl,hv2,hb2⟩
 obtain ⟨A2,c2,rfl⟩:=Kd.R_slice hv2
 have HO2:=Lib.hid (Kd.R_below HO1.out hb2)
 have HD2 : Hid ((Kd.int .u8).C w2 A2 3 e1):=Lib.hid (by have:=(Kd.R_reads' hv2).2.2; rw [HF.out.e1l] at this; exact this)
 have HB2:=Lib.hid (a0g HBl2.out hb2)
 have HS2:=Lib.hid (a0g HBl2.out hb2).size
 have HN2 : Hid (([(kk : Int)].length + 3) * 1 <= 140737488355328):=Lib.hid (by simp)
 have HZ2 : Hid (([(kk : Int)] ++ e1).length = 4):=Lib.hid (by rw [List.length_append,HF.out.e1l]; rfl)
 rw [HF.out.e1l]
 clear hv2 hb2
 go_wp2_with (at_builtin; refine Kd.R_append_rows (Kd.int .u8) (Rr:=(Kd.int .u8).K w2) (w0:=w1) (W:=w2) w1.heap.size rfl (.tmp 33) (.tmp 37) 22 5 (.int .u8 0) 1 rfl Tryz.underlying22 a0w rfl (by decide) (by decide) (.slice (some ⟨w1.heap.size,0,none⟩) 1 1) ([(kk : Int)]) (e1) A2 3 c2 (λ _=>True) (λ _=>False) rfl rfl HO2.out HD2.out (λ _ _ h=>h) (λ _ h=>h.elim) (λ _ _=>trivial) HB2.out HS2.out HN2.out ?_; intro v3 w3 hr3 hb3 hg3 hat3; obtain ⟨A3,c3,rfl⟩:=Kd.R_slice hr3; rw [HZ2.out] at hr3 ⊢; have HR3:=Lib.hid (And.intro hr3 hb3); clear hr3 hb3 hg3 hat3)
 obtain ⟨L1,hL1⟩ : ∃ l,l = [(kk : Int)] ++ e1:=⟨_,rfl⟩
 rw [<- hL1] at HR3 HZ2
 have HL1:=Lib.hid hL1
 clear hL1
 refine (HLit2.out _).mono ?_
 rintro e w4 ⟨v4,rfl,hv4,hb4⟩
 obtain ⟨A4,c4,rfl⟩:=Kd.R_slice hv4
 have HO4:=Lib.hid (Kd.R_below HR3.out.1 hb4)
 have HD4 : Hid ((Kd.int .u8).C w4 A4 3 e2):=Lib.hid (by have:=(Kd.R_reads' hv4).2.2; rw [HF.out.e2l] at this; exact this)
 have HB4:=Lib.hid (HR3.out.2.trans (hb4.mono HR3.out.2.size))
 have HS4:=Lib.hid HB4.out.size
 have HN4 : Hid ((L1.length + 3) * 1 <= 140737488355328):=Lib.hid (by rw [HZ2.out]; decide)
 have HZ4 : Hid ((L1 ++ e2).length = 7):=Lib.hid (by rw [List.length_append,HZ2.out,HF.out.e2l])
 rw [HF.out.e2l]
 clear hv4 hb4
 go_wp2_with (at_builtin; refine Kd.R_append_rows (Kd.int .u8) (Rr:=(Kd.int .u8).K w4) (w0:=w1) (W:=w4) w1.heap.size rfl (.tmp 39) (.tmp 43) 22 5 (.int .u8 0) 1 rfl Tryz.underlying22 a0w rfl (by decide) (by decide) (.slice A3 4 c3) (L1) (e2) A4 3 c4 (λ _=>True) (λ _=>False) rfl rfl HO4.out HD4.out (λ _ _ h=>h) (λ _ h=>h.elim) (λ _ _=>trivial) HB4.out HS4.out HN4.out ?_; intro v5 w5 hr5 hb5 hg5 hat5; obtain ⟨A5,c5,rfl⟩:=Kd.R_slice hr5; rw [HZ4.out] at hr5 ⊢; have HR5:=Lib.hid (And.intro hr5 hb5); clear hr5 hb5 hg5 hat5)
 obtain ⟨L2,hL2⟩ : ∃ l,l = L1 ++ e2:=⟨_,rfl⟩
 rw [<- hL2] at HR5 HZ4
 have HL2:=Lib.hid hL2
 clear hL2
 refine (a4l w5).mono ?_
 rintro e w6 ⟨p,rfl,hp6,ht6,hb6⟩
 have HT6:=Lib.hid ht6
 have HB6:=Lib.hid (HR5.out.2.trans (hb6.mono HR5.out.2.size))
 have HO6:=Lib.hid (Kd.R_below HR5.out.1 hb6)
 have HX6:=Lib.hid (Kd.C_below HX1.out HB6.out)
 have HCr:=Lib.hid (a5I p Ax cx x w6 HT6.out HX6.out (by have:=HXl.out; omega) HBy.out)
 rw [<- HF.out.sm'] at HCr
 clear hp6 ht6 hb6
 go_wp2_with fail
 refine HCr.out.mono ?_
 rintro e w6' ⟨rfl,rfl⟩
 go_wp2_with fail
 refine (HLit3.out _).mono ?_
 rintro e w7 ⟨v7,rfl,hv7,hb7⟩
 obtain ⟨A7,c7,rfl⟩:=Kd.R_slice hv7
 have HO7:=Lib.hid (Kd.R_below HO6.out hb7)
 have HD7 : Hid ((Kd.int .u8).C w7 A7 4 e3):=Lib.hid (by have:=(Kd.R_reads' hv7).2.2; rw [HF.out.e3l] at this; exact this)
 have HB7:=Lib.hid (HB6.out.trans (hb7.mono HB6.out.size))
 have HS7:=Lib.hid HB7.out.size
 have HN7 : Hid ((L2.length + 4) * 1 <= 140737488355328):=Lib.hid (by rw [HZ4.out]; decide)
 have HZ7 : Hid ((L2 ++ e3).length = 11):=Lib.hid (by rw [List.length_append,HZ4.out,HF.out.e3l])
 have HALL : Hid (L2 ++ e3 ++ x = B):=Lib.hid (by rw [HL2.out,HL1.out]; exact HF.out.all.symm)
 rw [HF.out.e3l]
 clear hv7 hb7
 go_wp2_with (at_builtin; first
  | (refine Kd.R_append_rows (Kd.int .u8) (Rr:=(Kd.int .u8).K w7) (w0:=w1) (W:=w7) w1.heap.size rfl (.tmp 45) (.tmp 49) 22 5 (.int .u8 0) 1 rfl Tryz.underlying22 a0w rfl (by decide) (by decide) (.slice A5 7 c5) (L2) (e3) A7 4 c7 (λ _=>True) (λ _=>False) rfl rfl HO7.out HD7.out (λ _ _ h=>h) (λ _ h=>h.elim) (λ _ _=>trivial) HB7.out HS7.out HN7.out ?_; intro v8 w8 hr8 hb8 hg8 hat8; obtain ⟨A8,c8,rfl⟩:=Kd.R_slice hr8; rw [HZ7.out] at hr8 ⊢; have HR8:=Lib.hid (And.intro hr8 hb8); clear hr8 hb8 hg8 hat8; have HS8:=Lib.hid HR8.out.2.size; have HX8:=Lib.hid (Kd.C_below HX1.out HR8.out.2); have HN8 : Hid (((L2 ++ e3).length + x.length) * 1 <= 140737488355328):=Lib.hid (by rw [HZ7.out]; have:=HXl.out; omega))
  | (refine Kd.R_append_rows (Kd.int .u8) (Rr:=(Kd.int .u8).K w8) (w0:=w1) (W:=w8) w1.heap.size rfl (.tmp 51) (.tmp 52) 22 5 (.int .u8 0) 1 rfl Tryz.underlying22 a0w rfl (by decide) (by decide) (.slice A8 11 c8) (L2 ++ e3) x Ax x.length cx (λ _=>True) (λ _=>False) rfl rfl HR8.out.1 HX8.out (λ _ _ h=>h) (λ _ h=>h.elim) (λ _ _=>trivial) HR8.out.2 HS8.out HN8.out ?_; intro v9 w9 hr9 hb9 hg9 hat9; rw [HALL.out] at hr9; obtain ⟨A9,c9,rfl⟩:=Kd.R_slice hr9; have HR9:=Lib.hid (And.intro hr9 hb9); clear hr9 hb9 hg9 hat9))
 go_ret2
 exact ⟨A9,c9,rfl,Kd.R_lower HR9.out.1 HB1.out.size,a0g HB1.out HR9.out.2⟩
set_option maxRecDepth 100000 in
set_option maxHeartbeats 2000000 in
theorem c8D (A : Option Addr) (c : Nat) (b : List Int) (w : World) (hr : (Kd.int .u8).C w A b.length b) (hb : Bytes b) (hl : b.length <= 40000) (h0 : 0 < b.length) :
    Calls Tryz.prog 33 #[.slice A b.length c,.bool true] w (Told 0 (putM b true) w):=by
 have d1 : decide ((131072 : Int) < (b.length : Int)) = false:=decide_eq_false (by omega)
 have hn0 : ((b.length : Int) == 0) = false:=by simp; intro e; subst e; simp at h0
 have HBest:=Lib.hid (a5f A c b w hr hb hl)
 have HBy:=Lib.hid (a3L hb)
 have hbl:=a3M b
 obtain ⟨k,kk,sm,hk,hk3,hkk,hsm4,hF⟩:=putF hl true
 have HF:=Lib.hid hF
 obtain ⟨x,hx⟩ : ∃ x,x = (bestP b).2:=⟨_,rfl⟩
 unfold BestPost at HBest
 rw [hk,<- hx] at HBest
 rw [<- hx] at HBy hbl HF
 have hxl : x.length <= 40000:=by omega
 have hw1 : IntKind.u32.wrap (b.length : Int) = (b.length : Int):=by rw [IntKind.wrap_u32']; omega
 have hw2 : IntKind.u32.wrap (x.length : Int) = (x.length : Int):=by rw [IntKind.wrap_u32']; omega
 have hkk7:=hF.kk7
 have hw3 : IntKind.u8.wrap (kk : Int) = (kk : Int):=by rw [IntKind.wrap_u8']; omega
 have HLit1:=Lib.hid (λ W : World=>a3m b.length 3 W (by omega) (by decide))
 have HLit2:=Lib.hid (λ W : World=>a3m x.length 3 W (by omega) (by decide))
 have HLit3:=Lib.hid (λ W : World=>a3m sm 4 W hsm4 (by decide))
 obtain ⟨e1,he1⟩ : ∃ l,l = leN b.length 3:=⟨_,rfl⟩
 obtain ⟨e2,he2⟩ : ∃ l,l = leN x.length 3:=⟨_,rfl⟩
 obtain ⟨e3,he3⟩ : ∃ l,l = leN sm 4:=⟨_,rfl⟩
 rw [<- he1] at HF HLit1
 rw [<- he2] at HF HLit2
 rw [<- he3] at HF HLit3
 have hor : bits .or .i64 (k : Int) 4 = (kk : Int):=by rw [hkk]; exact or_4 hk3
 obtain ⟨B,hB⟩ : ∃ l,l = putM b true:=⟨_,rfl⟩
 rw [<- hB] at HF ⊢
 have HXl:=Lib.hid hxl
 clear hr hb hk hk3 hkk hx he1 he2 he3 hl hbl hkk7 hsm4 hF hB
 go_enter Tryz.func33,Tryz.ntmps33
 go_wp2_with fail
 refine HBest.out.mono ?_
 rintro e w1 ⟨Ax,cx,rfl,hvx,hb1⟩
 have HX1:=Lib.hid (Kd.R_reads' hvx).2.2
 have HB1:=Lib.hid hb1
 have hbl2 : Below w1.heap.size w1 (w1.alloc (.cells #[.int .u8 (kk : Int)] 5)):=(Below.refl _ _).alloc (Nat.le_refl _) _
 have HO1 : Hid ((Kd.int .u8).R 5 (w1.alloc (.cells #[.int .u8 (kk : Int)] 5)) w1.heap.size (λ _=>True) (.slice (some ⟨w1.heap.size,0,none⟩) 1 1) [(kk : Int)]):=Lib.hid (a2i .u8 5 w1 w1.heap.size (λ _=>True) trivial (Nat.le_refl _) [(kk : Int)] (by simp))
 have HBl2:=Lib.hid hbl2
 clear hvx hb1 hbl2
 go_wp2_with fail
 refine (HLit1.out _).mono ?_
 rintro e w2 ⟨v2,rfl,hv2,hb2⟩
 obtain ⟨A2,c2,rfl⟩:=Kd.R_slice hv2
 have HO2:=Lib.hid (Kd.R_below HO1.out hb2)
 have HD2 : Hid ((Kd.int .u8).C w2 A2 3 e1):=Lib.hid (by have:=(Kd.R_reads' hv2).2.2; rw [HF.out.e1l] at this; exact this)
 have HB2:=Lib.hid (a0g HBl2.out hb2)
 have HS2:=Lib.hid (a0g HBl2.out hb2).size
 have HN2 : Hid (([(kk : Int)].length + 3) * 1 <= 140737488355328):=Lib.hid (by simp)
 have HZ2 : Hid (([(kk : Int)] ++ e1).length = 4):=Lib.hid (by rw [List.length_append,HF.out.e1l]; rfl)
 rw [HF.out.e1l]
 clear hv2 hb2
 go_wp2_with (at_builtin; refine Kd.R_append_rows (Kd.int .u8) (Rr:=(Kd.int .u8).K w2) (w0:=w1) (W:=w2) w1.heap.size rfl (.tmp 33) (.tmp 37) 22 5 (.int .u8 0) 1 rfl Tryz.underlying22 a0w rfl (by decide) (by decide) (.slice (some ⟨w1.heap.size,0,none⟩) 1 1) ([(kk : Int)]) (e1) A2 3 c2 (λ _=>True) (λ _=>False) rfl rfl HO2.out HD2.out (λ _ _ h=>h) (λ _ h=>h.elim) (λ _ _=>trivial) HB2.out HS2.out HN2.out ?_; intro v3 w3 hr3 hb3 hg3 hat3; obtain ⟨A3,c3,rfl⟩:=Kd.R_slice hr3; rw [HZ2.out] at hr3 ⊢; have HR3:=Lib.hid (And.intro hr3 hb3); clear hr3 hb3 hg3 hat3)
 obtain ⟨L1,hL1⟩ : ∃ l,l = [(kk : Int)] ++ e1:=⟨_,rfl⟩
 rw [<- hL1] at HR3 HZ2
 have HL1:=Lib.hid hL1
 clear hL1
 refine (HLit2.out _).mono ?_
 rintro e w4 ⟨v4,rfl,hv4,hb4⟩
 obtain ⟨A4,c4,rfl⟩:=Kd.R_slice hv4
 have HO4:=Lib.hid (Kd.R_below HR3.out.1 hb4)
 have HD4 : Hid ((Kd.int .u8).C w4 A4 3 e2):=Lib.hid (by have:=(Kd.R_reads' hv4).2.2; rw [HF.out.e2l] at this; exact this)
 have HB4:=Lib.hid (HR3.out.2.trans (hb4.mono HR3.out.2.size))
 have HS4:=Lib.hid HB4.out.size
 have HN4 : Hid ((L1.length + 3) * 1 <= 140737488355328):=Lib.hid (by rw [HZ2.out]; decide)
 have HZ4 : Hid ((L1 ++ e2).length = 7):=Lib.hid (by rw [List.length_append,HZ2.out,HF.out.e2l])
 rw [HF.out.e2l]
 clear hv4 hb4
 go_wp2_with (at_builtin; refine Kd.R_append_rows (Kd.int .u8) (Rr:=(Kd.int .u8).K w4) (w0:=w1) (W:=w4) w1.heap.size rfl (.tmp 39) (.tmp 43) 22 5 (.int .u8 0) 1 rfl Tryz.underlying22 a0w rfl (by decide) (by decide) (.slice A3 4 c3) (L1) (e2) A4 3 c4 (λ _=>True) (λ _=>False) rfl rfl HO4.out HD4.out (λ _ _ h=>h) (λ _ h=>h.elim) (λ _ _=>trivial) HB4.out HS4.out HN4.out ?_; intro v5 w5 hr5 hb5 hg5 hat5; obtain ⟨A5,c5,rfl⟩:=Kd.R_slice hr5; rw [HZ4.out] at hr5 ⊢; have HR5:=Lib.hid (And.intro hr5 hb5); clear hr5 hb5 hg5 hat5)
 obtain ⟨L2,hL2⟩ : ∃ l,l = L1 ++ e2:=⟨_,rfl⟩
 rw [<- hL2] at HR5 HZ4
 have HL2:=Lib.hid hL2
 clear hL2
 refine (a4l w5).mono ?_
 rintro e w6 ⟨p,rfl,hp6,ht6,hb6⟩
 have HT6:=Lib.hid ht6
 have HB6:=Lib.hid (HR5.out.2.trans (hb6.mono HR5.out.2.size))
 have HO6:=Lib.hid (Kd.R_below HR5.out.1 hb6)
 have HX6:=Lib.hid (Kd.C_below HX1.out HB6.out)
 have HCr:=Lib.hid (a5I p Ax cx x w6 HT6.out HX6.out (by have:=HXl.out; omega) HBy.out)
 rw [<- HF.out.sm'] at HCr
 clear hp6 ht6 hb6
 go_wp2_with fail
 refine HCr.out.mono ?_
 rintro e w6' ⟨rfl,rfl⟩
 go_wp2_with fail
 refine (HLit3.out _).mono ?_
 rintro e w7 ⟨v7,rfl,hv7,hb7⟩
 obtain ⟨A7,c7,rfl⟩:=Kd.R_slice hv7
 have HO7:=Lib.hid (Kd.R_below HO6.out hb7)
 have HD7 : Hid ((Kd.int .u8).C w7 A7 4 e3):=Lib.hid (by have:=(Kd.R_reads' hv7).2.2; rw [HF.out.e3l] at this; exact this)
 have HB7:=Lib.hid (HB6.out.trans (hb7.mono HB6.out.size))
 have HS7:=Lib.hid HB7.out.size
 have HN7 : Hid ((L2.length + 4) * 1 <= 140737488355328):=Lib.hid (by rw [HZ4.out]; decide)
 have HZ7 : Hid ((L2 ++ e3).length = 11):=Lib.hid (by rw [List.length_append,HZ4.out,HF.out.e3l])
 have HALL : Hid (L2 ++ e3 ++ x = B):=Lib.hid (by rw [HL2.out,HL1.out]; exact HF.out.all.symm)
 rw [HF.out.e3l]
 clear hv7 hb7
 go_wp2_with (at_builtin; first
  | (refine Kd.R_append_rows (Kd.int .u8) (Rr:=(Kd.int .u8).K w7) (w0:=w1) (W:=w7) w1.heap.size rfl (.tmp 45) (.tmp 49) 22 5 (.int .u8 0) 1 rfl Tryz.underlying22 a0w rfl (by decide) (by decide) (.slice A5 7 c5) (L2) (e3) A7 4 c7 (λ _=>True) (λ _=>False) rfl rfl HO7.out HD7.out (λ _ _ h=>h) (λ _ h=>h.elim) (λ _ _=>trivial) HB7.out HS7.out HN7.out ?_; intro v8 w8 hr8 hb8 hg8 hat8; obtain ⟨A8,c8,rfl⟩:=Kd.R_slice hr8; rw [HZ7.out] at hr8 ⊢; have HR8:=Lib.hid (And.intro hr8 hb8); clear hr8 hb8 hg8 hat8; have HS8:=Lib.hid HR8.out.2.size; have HX8:=Lib.hid (Kd.C_below HX1.out HR8.out.2); have HN8 : Hid (((L2 ++ e3).length + x.length) * 1 <= 140737488355328):=Lib.hid (by rw [HZ7.out]; have:=HXl.out; omega))
  | (refine Kd.R_append_rows (Kd.int .u8) (Rr:=(Kd.int .u8).K w8) (w0:=w1) (W:=w8) w1.heap.size rfl (.tmp 51) (.tmp 52) 22 5 (.int .u8 0) 1 rfl Tryz.underlying22 a0w rfl (by decide) (by decide) (.slice A8 11 c8) (L2 ++ e3) x Ax x.length cx (λ _=>True) (λ _=>False) rfl rfl HR8.out.1 HX8.out (λ _ _ h=>h) (λ _ h=>h.elim) (λ _ _=>trivial) HR8.out.2 HS8.out HN8.out ?_; intro v9 w9 hr9 hb9 hg9 hat9; rw [HALL.out] at hr9; obtain ⟨A9,c9,rfl⟩:=Kd.R_slice hr9; have HR9:=Lib.hid (And.intro hr9 hb9); clear hr9 hb9 hg9 hat9))
 go_ret2
 exact ⟨A9,c9,rfl,Kd.R_lower HR9.out.1 HB1.out.size,a0g HB1.out HR9.out.2⟩
set_option maxRecDepth 100000 in
set_option maxHeartbeats 2000000 in
theorem c8E (A : Option Addr) (c : Nat) (b : List Int) (w : World) (hr : (Kd.int .u8).C w A b.length b) (hb : Bytes b) (hl : b.length <= 40000) (h0 : b = []) :
    Calls Tryz.prog 33 #[.slice A 0 c,.bool true] w (Told 0 (putM b true) w):=by
 have hb0 : b.length = 0:=by rw [h0]; rfl
 have HBest:=Lib.hid (a5f A c b w hr hb hl)
 have HBy:=Lib.hid (a3L hb)
 have hbl:=a3M b
 obtain ⟨k,kk,sm,hk,hk3,hkk,hsm4,hF⟩:=putF hl true
 have HF:=Lib.hid hF
 obtain ⟨x,hx⟩ : ∃ x,x = (bestP b).2:=⟨_,rfl⟩
 unfold BestPost at HBest
 rw [hb0] at HBest
 rw [hk,<- hx] at HBest
 rw [<- hx] at HBy hbl HF
 have hxl : x.length <= 40000:=by omega
 have hw2 : IntKind.u32.wrap (x.length : Int) = (x.length : Int):=by rw [IntKind.wrap_u32']; omega
 have hkk7:=hF.kk7
 have hw3 : IntKind.u8.wrap (kk : Int) = (kk : Int):=by rw [IntKind.wrap_u8']; omega
 have HLit1:=Lib.hid (λ W : World=>a3m b.length 3 W (by omega) (by decide))
 rw [hb0] at HLit1 HF
 have HLit2:=Lib.hid (λ W : World=>a3m x.length 3 W (by omega) (by decide))
 have HLit3:=Lib.hid (λ W : World=>a3m sm 4 W hsm4 (by decide))
 obtain ⟨e1,he1⟩ : ∃ l,l = leN 0 3:=⟨_,rfl⟩
 obtain ⟨e2,he2⟩ : ∃ l,l = leN x.length 3:=⟨_,rfl⟩
 obtain ⟨e3,he3⟩ : ∃ l,l = leN sm 4:=⟨_,rfl⟩
 rw [<- he1] at HF HLit1
 rw [<- he2] at HF HLit2
 rw [<- he3] at HF HLit3
 have hor : bits .or .i64 (k : Int) 4 = (kk : Int):=by rw [hkk]; exact or_4 hk3
 obtain ⟨B,hB⟩ : ∃ l,l = putM b true:=⟨_,rfl⟩
 rw [<- hB] at HF ⊢
 have HXl:=Lib.hid hxl
 clear hr hb hk hk3 hkk hx he1 he2 he3 hl hbl hkk7 hsm4 hF hB
 go_enter Tryz.func33,Tryz.ntmps33
 go_wp2_with fail
 refine HBest.out.mono ?_
 rintro e w1 ⟨Ax,cx,rfl,hvx,hb1⟩
 have HX1:=Lib.hid (Kd.R_reads' hvx).2.2
 have HB1:=Lib.hid hb1
 have hbl2 : Below w1.heap.size w1 (w1.alloc (.cells #[.int .u8 (kk : Int)] 5)):=(Below.refl _ _).alloc (Nat.le_refl _) _
 have HO1 : Hid ((Kd.int .u8).R 5 (w1.alloc (.cells #[.int .u8 (kk : Int)] 5)) w1.heap.size (λ _=>True) (.slice (some ⟨w1.heap.size,0,none⟩) 1 1) [(kk : Int)]):=Lib.hid (a2i .u8 5 w1 w1.heap.size (λ _=>True) trivial (Nat.le_refl _) [(kk : Int)] (by simp))
 have HBl2:=Lib.hid hbl2
 clear hvx hb1 hbl2
 go_wp2_with fail
 refine (HLit1.out _).mono ?_
 rintro e w2 ⟨v2,rfl,hv2,hb2⟩
 obtain ⟨A2,c2,rfl⟩:=Kd.R_slice hv2
 have HO2:=Lib.hid (Kd.R_below HO1.out hb2)
 have HD2 : Hid ((Kd.int .u8).C w2 A2 3 e1):=Lib.hid (by have:=(Kd.R_reads' hv2).2.2; rw [HF.out.e1l] at this; exact this)
 have HB2:=Lib.hid (a0g HBl2.out hb2)
 have HS2:=Lib.hid (a0g HBl2.out hb2).size
 have HN2 : Hid (([(kk : Int)].length + 3) * 1 <= 140737488355328):=Lib.hid (by simp)
 have HZ2 : Hid (([(kk : Int)] ++ e1).length = 4):=Lib.hid (by rw [List.length_append,HF.out.e1l]; rfl)
 rw [HF.out.e1l]
 clear hv2 hb2
 go_wp2_with (at_builtin; refine Kd.R_append_rows (Kd.int .u8) (Rr:=(Kd.int .u8).K w2) (w0:=w1) (W:=w2) w1.heap.size rfl (.tmp 33) (.tmp 37) 22 5 (.int .u8 0) 1 rfl Tryz.underlying22 a0w rfl (by decide) (by decide) (.slice (some ⟨w1.heap.size,0,none⟩) 1 1) ([(kk : Int)]) (e1) A2 3 c2 (λ _=>True) (λ _=>False) rfl rfl HO2.out HD2.out (λ _ _ h=>h) (λ _ h=>h.elim) (λ _ _=>trivial) HB2.out HS2.out HN2.out ?_; intro v3 w3 hr3 hb3 hg3 hat3; obtain ⟨A3,c3,rfl⟩:=Kd.R_slice hr3; rw [HZ2.out] at hr3 ⊢; have HR3:=Lib.hid (And.intro hr3 hb3); clear hr3 hb3 hg3 hat3)
 obtain ⟨L1,hL1⟩ : ∃ l,l = [(kk : Int)] ++ e1:=⟨_,rfl⟩
 rw [<- hL1] at HR3 HZ2
 have HL1:=Lib.hid hL1
 clear hL1
 refine (HLit2.out _).mono ?_
 rintro e w4 ⟨v4,rfl,hv4,hb4⟩
 obtain ⟨A4,c4,rfl⟩:=Kd.R_slice hv4
 have HO4:=Lib.hid (Kd.R_below HR3.out.1 hb4)
 have HD4 : Hid ((Kd.int .u8).C w4 A4 3 e2):=Lib.hid (by have:=(Kd.R_reads' hv4).2.2; rw [HF.out.e2l] at this; exact this)
 have HB4:=Lib.hid (HR3.out.2.trans (hb4.mono HR3.out.2.size))
 have HS4:=Lib.hid HB4.out.size
 have HN4 : Hid ((L1.length + 3) * 1 <= 140737488355328):=Lib.hid (by rw [HZ2.out]; decide)
 have HZ4 : Hid ((L1 ++ e2).length = 7):=Lib.hid (by rw [List.length_append,HZ2.out,HF.out.e2l])
 rw [HF.out.e2l]
 clear hv4 hb4
 go_wp2_with (at_builtin; refine Kd.R_append_rows (Kd.int .u8) (Rr:=(Kd.int .u8).K w4) (w0:=w1) (W:=w4) w1.heap.size rfl (.tmp 39) (.tmp 43) 22 5 (.int .u8 0) 1 rfl Tryz.underlying22 a0w rfl (by decide) (by decide) (.slice A3 4 c3) (L1) (e2) A4 3 c4 (λ _=>True) (λ _=>False) rfl rfl HO4.out HD4.out (λ _ _ h=>h) (λ _ h=>h.elim) (λ _ _=>trivial) HB4.out HS4.out HN4.out ?_; intro v5 w5 hr5 hb5 hg5 hat5; obtain ⟨A5,c5,rfl⟩:=Kd.R_slice hr5; rw [HZ4.out] at hr5 ⊢; have HR5:=Lib.hid (And.intro hr5 hb5); clear hr5 hb5 hg5 hat5)
 obtain ⟨L2,hL2⟩ : ∃ l,l = L1 ++ e2:=⟨_,rfl⟩
 rw [<- hL2] at HR5 HZ4
 have HL2:=Lib.hid hL2
 clear hL2
 refine (a4l w5).mono ?_
 rintro e w6 ⟨p,rfl,hp6,ht6,hb6⟩
 have HT6:=Lib.hid ht6
 have HB6:=Lib.hid (HR5.out.2.trans (hb6.mono HR5.out.2.size))
 have HO6:=Lib.hid (Kd.R_below HR5.out.1 hb6)
 have HX6:=Lib.hid (Kd.C_below HX1.out HB6.out)
 have HCr:=Lib.hid (a5I p Ax cx x w6 HT6.out HX6.out (by have:=HXl.out; omega) HBy.out)
 rw [<- HF.out.sm'] at HCr
 clear hp6 ht6 hb6
 go_wp2_with fail
 refine HCr.out.mono ?_
 rintro e w6' ⟨rfl,rfl⟩
 go_wp2_with fail
 refine (HLit3.out _).mono ?_
 rintro e w7 ⟨v7,rfl,hv7,hb7⟩
 obtain ⟨A7,c7,rfl⟩:=Kd.R_slice hv7
 have HO7:=Lib.hid (Kd.R_below HO6.out hb7)
 have HD7 : Hid ((Kd.int .u8).C w7 A7 4 e3):=Lib.hid (by have:=(Kd.R_reads' hv7).2.2; rw [HF.out.e3l] at this; exact this)
 have HB7:=Lib.hid (HB6.out.trans (hb7.mono HB6.out.size))
 have HS7:=Lib.hid HB7.out.size
 have HN7 : Hid ((L2.length + 4) * 1 <= 140737488355328):=Lib.hid (by rw [HZ4.out]; decide)
 have HZ7 : Hid ((L2 ++ e3).length = 11):=Lib.hid (by rw [List.length_append,HZ4.out,HF.out.e3l])
 have HALL : Hid (L2 ++ e3 ++ x = B):=Lib.hid (by rw [HL2.out,HL1.out]; exact HF.out.all.symm)
 rw [HF.out.e3l]
 clear hv7 hb7
 go_wp2_with (at_builtin; first
  | (refine Kd.R_append_rows (Kd.int .u8) (Rr:=(Kd.int .u8).K w7) (w0:=w1) (W:=w7) w1.heap.size rfl (.tmp 45) (.tmp 49) 22 5 (.int .u8 0) 1 rfl Tryz.underlying22 a0w rfl (by decide) (by decide) (.slice A5 7 c5) (L2) (e3) A7 4 c7 (λ _=>True) (λ _=>False) rfl rfl HO7.out HD7.out (λ _ _ h=>h) (λ _ h=>h.elim) (λ _ _=>trivial) HB7.out HS7.out HN7.out ?_; intro v8 w8 hr8 hb8 hg8 hat8; obtain ⟨A8,c8,rfl⟩:=Kd.R_slice hr8; rw [HZ7.out] at hr8 ⊢; have HR8:=Lib.hid (And.intro hr8 hb8); clear hr8 hb8 hg8 hat8; have HS8:=Lib.hid HR8.out.2.size; have HX8:=Lib.hid (Kd.C_below HX1.out HR8.out.2); have HN8 : Hid (((L2 ++ e3).length + x.length) * 1 <= 140737488355328):=Lib.hid (by rw [HZ7.out]; have:=HXl.out; omega))
  | (refine Kd.R_append_rows (Kd.int .u8) (Rr:=(Kd.int .u8).K w8) (w0:=w1) (W:=w8) w1.heap.size rfl (.tmp 51) (.tmp 52) 22 5 (.int .u8 0) 1 rfl Tryz.underlying22 a0w rfl (by decide) (by decide) (.slice A8 11 c8) (L2 ++ e3) x Ax x.length cx (λ _=>True) (λ _=>False) rfl rfl HR8.out.1 HX8.out (λ _ _ h=>h) (λ _ h=>h.elim) (λ _ _=>trivial) HR8.out.2 HS8.out HN8.out ?_; intro v9 w9 hr9 hb9 hg9 hat9; rw [HALL.out] at hr9; obtain ⟨A9,c9,rfl⟩:=Kd.R_slice hr9; have HR9:=Lib.hid (And.intro hr9 hb9); clear hr9 hb9 hg9 hat9))
 go_ret2
 exact ⟨A9,c9,rfl,Kd.R_lower HR9.out.1 HB1.out.size,a0g HB1.out HR9.out.2⟩
theorem a5S (A : Option Addr) (c : Nat) (b : List Int) (last : Bool) (w : World) (hr : (Kd.int .u8).C w A b.length b) (hb : Bytes b) (hl : b.length <= 40000) (h0 : last = true \/ 0 < b.length) :
    Calls Tryz.prog 33 #[.slice A b.length c,.bool last] w (Told 0 (putM b last) w):=by
 rcases Nat.eq_zero_or_pos b.length with hz | hz
 · obtain rfl : last = true:=by rcases h0 with h | h; (· exact h); (· omega)
   have:=c8E A c b w hr hb hl (List.eq_nil_of_length_eq_zero hz)
   rw [hz]; exact this
 · cases last with
   | false=>exact c8C A c b w hr hb hl hz
   | true=>exact c8D A c b w hr hb hl hz
set_option maxRecDepth 100000 in
set_option maxHeartbeats 1000000 in
theorem b7i (A : Option Addr) (c : Nat) (x : Int) (N : Nat) (w : World) (hr : (Kd.int .u8).C w A 1 [x]) (hl : N <= 131072) (h2 : 2 <= N) :
    Calls Tryz.prog 179 #[.int .i64 1,.slice A 1 c,.int .i64 N] w (Told 0 (List.replicate N x) w):=by
 have HR:=Lib.hid (And.intro hr (And.intro hl h2))
 have d3 : decide ((N : Int) < 2) = false:=decide_eq_false (by omega)
 have d1 : decide ((N : Int) < 0) = false:=decide_eq_false (by omega)
 have d2 : decide ((131072 : Int) < (N : Int)) = false:=decide_eq_false (by omega)
 clear hr hl h2
 go_enter Tryz.func179,Tryz.ntmps179
 go_wp2_with fail
 refine (a5P 1 w).mono ?_
 rintro e w' ⟨rfl,rfl⟩
 go_wp2_with fail
 go_loopw [8,9,45] (λ v _ kv wr=>∃ i : Nat,i <= N /\ kv = .int .i64 i /\ Hid ((Kd.int .u8).R 5 wr w.heap.size (λ _=>True) v (List.replicate i x) /\ Below w.heap.size w wr)) (λ _ _ kv _=>N - (intOf kv).toNat)
 case atStart=>exact ⟨0,by omega,rfl,Lib.hid ⟨by exact Kd.R_nil _ _ _ _ _,Below.refl _ _⟩⟩
 case round=>
  obtain ⟨i,hi,rfl,H⟩:=hrel
  by_cases hlt : i < N
  · obtain ⟨Av,cv,rfl⟩:=Kd.R_slice H.out.1
    obtain ⟨ad,hA,hcx⟩:=a0v (Kd.C_below HR.out.1 H.out.2) 0 (by decide)
    subst hA
    have e0 : ad.add 0 = ad:=by simp [Addr.add]
    have hcy : wr.cell? ad = some (.int .u8 x):=by rw [e0] at hcx; exact hcx
    have hl6 : N <= 131072:=HR.out.2.1
    have hI : (i : Int) < (N : Int):=by omega
    have HN : Hid (List.replicate (i + 1) x = List.replicate i x ++ [x]):=Lib.hid List.replicate_succ'
    clear e0
    obtain ⟨L,hL⟩ : ∃ L,L = List.replicate i x:=⟨_,rfl⟩
    have hLl : L.length = i:=by rw [hL,List.length_replicate]
    rw [<- hL] at H HN ⊢
    have HLn : Hid ((L.length + 1) * 1 <= 140737488355328):=Lib.hid (by omega)
    have HS:=Lib.hid H.out.2.size
    clear hL
    go_wp2_with (at_builtin; refine Kd.R_append (Kd.int .u8) (w0:=w) (W:=wr) w.heap.size rfl (.tmp 48) (.tmp 56) 22 5 (.int .u8 0) 1 rfl Tryz.underlying22 a0w rfl (by decide) (by decide) _ _ x [.int .u8 x] (λ _=>True) (λ _=>False) rfl rfl rfl (λ _ h=>h.elim) (λ _ _=>trivial) H.out.1 H.out.2 HS.out HLn.out ?_; intro v1 w3 hr3 hb3 hg3 hat3; have HA:=Lib.hid (And.intro hr3 hb3); clear hr3 hb3 hg3 hat3)
    go_roundw
    case rel=>exact ⟨i + 1,by omega,by go_num,Lib.hid ⟨by rw [HN.out]; exact HA.out.1,HA.out.2⟩⟩
    case measure=>simp [intOf]; omega
  · obtain rfl : i = N:=by omega
    obtain ⟨Av,cv,rfl⟩:=Kd.R_slice H.out.1
    go_wp2_with fail
    go_ret2
    have h1:=H.out.1
    exact ⟨Av,cv,rfl,h1,H.out.2⟩
set_option maxRecDepth 100000 in
theorem b0J {x : Int × List Int} (A : Option Addr) (c p : Nat) (k n : Int) (m : Nat) (w : World) (hp : w.cell? ⟨p,0,none⟩ = some (.int .i64 k)) (h : Calls Tryz.prog 179 #[.int .i64 k,.slice A m c,.int .i64 n] w (Told x.1 x.2 w)) :
    Calls Tryz.prog 178 #[.slice A m c,.int .i64 n,.pointer (some ⟨p,0,none⟩)] w (Told x.1 x.2 w):=by
 have H:=Lib.hid h
 clear h
 go_enter Tryz.func178,Tryz.ntmps178
 go_wp2_with fail
 refine H.out.mono ?_
 rintro e w' ⟨A1,c1,rfl,hv,hb⟩
 have H1:=Lib.hid (And.intro hv hb)
 clear hv hb
 go_wp2_with fail
 go_ret2
 exact ⟨A1,c1,rfl,H1.out.1,H1.out.2⟩
set_option maxRecDepth 100000 in
theorem b7j (A : Option Addr) (c m : Nat) (k n : Int) (w : World) (h : a0H k n m ≠ 0) :
    Calls Tryz.prog 28 #[.int .i64 k,.slice A m c,.int .i64 n] w (Told (a0H k n m) [] w):=by
 have HI:=Lib.hid (a5d k n m w)
 unfold a1w at HI
 obtain ⟨z,hz⟩ : ∃ z,z = a0H k n m:=⟨_,rfl⟩
 rw [<- hz] at HI h ⊢
 have hz2 : (z != 0) = true:=by simpa using h
 clear hz h
 go_enter Tryz.func28,Tryz.ntmps28
 go_wp2_with fail
 refine HI.out.mono ?_
 rintro e w' ⟨rfl,hb⟩
 have HB:=Lib.hid hb
 clear hb
 go_wp2_with fail
 go_ret2
 exact Told.nil z HB.out
set_option maxRecDepth 100000 in
theorem b7k {x : Int × List Int} (A : Option Addr) (c m : Nat) (n : Int) (w : World) (h0 : a0H 1 n m = 0) (h : ∀ (W : World) (p q : Nat),Below w.heap.size w W -> W.cell? ⟨p,0,none⟩ = some (.int .i64 0) -> W.cell? ⟨q,0,none⟩ = some (.int .i64 1) -> Calls Tryz.prog 178 #[.slice A m c,.int .i64 n,.pointer (some ⟨q,0,none⟩)] W (Told x.1 x.2 W)) :
    Calls Tryz.prog 28 #[.int .i64 1,.slice A m c,.int .i64 n] w (Told x.1 x.2 w):=by
 have H:=Lib.hid h
 have HI:=Lib.hid (a5d 1 n m w)
 unfold a1w at HI
 rw [h0] at HI
 clear h h0
 go_enter Tryz.func28,Tryz.ntmps28
 go_wp2_with fail
 refine HI.out.mono ?_
 rintro e w0 ⟨rfl,hb0⟩
 have HB0:=Lib.hid hb0
 clear hb0
 go_wp2_with fail
 refine (a2k w0).mono ?_
 rintro e w1 ⟨p,q,rfl,hp,hq,hb⟩
 have HB:=Lib.hid (a0g HB0.out hb)
 have H1:=Lib.hid (H.out w1 p q HB.out hp hq)
 have hix:=λ W=>b0x p q W
 have hkf:=a7T
 obtain ⟨V,hV⟩ : ∃ V,V = a1s p q:=⟨_,rfl⟩
 rw [<- hV] at hix ⊢
 clear hb hp hq hV
 go_wp2_with fail
 refine H1.out.mono ?_
 rintro e w2 ⟨A1,c1,rfl,hv,hb⟩
 have H2:=Lib.hid (And.intro hv hb)
 clear hv hb hix hkf
 go_wp2_with fail
 go_ret2
 exact ⟨A1,c1,rfl,Kd.R_lower H2.out.1 HB.out.size,a0g HB.out H2.out.2⟩
theorem b0K {k n m : Int} (h : a0H k n m = 0) : 0 <= k /\ k < 4 /\ 0 <= n /\ n <= 131072 /\ mayB k n m = true:=by
 unfold a0H at h
 by_cases h1 : k < 0 \/ 3 < k
 · rw [if_pos h1] at h; cases h
 rw [if_neg h1] at h
 by_cases h2 : n < 0 \/ 131072 < n \/ mayB k n m = false
 · rw [if_pos h2] at h; cases h
 refine ⟨by omega,by omega,by omega,by omega,?_⟩
 cases e : mayB k n m with
 | true=>rfl
 | false=>exact absurd (.inr (.inr e)) h2
theorem b7l {k n : Int} {ps : List Int} (h : Bytes ps) : Bytes (pickD k ps n).2:=by
 unfold pickD
 split
 · intro x hx; cases hx
 · split
   · unfold a2D
     repeat' split
     · intro x hx; cases hx
     · intro x hx; cases hx
     · exact h
     · intro x hx; rw [(List.mem_replicate.1 hx).2]; exact h.get 0
   · split
     · exact c5Y h
     · exact c5Z h
def OpenPost (r : Int × List Int × Nat × Bool) (w : World) (e : Ending) (w' : World) : Prop:=
 ∃ A c,e = .returned (.tuple #[.slice A r.2.1.length c,.int .i64 (r.2.2.1 : Nat),.bool r.2.2.2,.int .i64 r.1]) /\ (Kd.int .u8).R 5 w' w.heap.size (λ _=>True) (.slice A r.2.1.length c) r.2.1 /\ Below w.heap.size w w'
theorem b7m {f : List Int} (hf : Bytes f) {log room : Int} {first : Bool} (h : (scanM f log first room).1 = 0) : 11 <= f.length /\ (scanM f log first room).2.1 <= 3 /\ (scanM f log first room).2.2.1 <= 131072 /\ (scanM f log first room).2.2.2.1 < 16777216 /\ (scanM f log first room).2.2.2.2.2 < 4294967296 /\ a0H ((scanM f log first room).2.1 : Nat) (scanM f log first room).2.2.1 (scanM f log first room).2.2.2.1 = 0 /\ ((scanM f log first room).2.2.1 : Int) <= room:=by
 unfold scanM at h ⊢
 by_cases a1 : log < 10 \/ 17 < log \/ room < 0
 · rw [if_pos a1] at h; cases h
 rw [if_neg a1] at h ⊢
 by_cases a2 : f.length < 1
 · rw [if_pos a2] at h; cases h
 rw [if_neg a2] at h ⊢
 by_cases a3 : 7 < (f.getD 0 0).toNat
 · rw [if_pos a3] at h; cases h
 rw [if_neg a3] at h ⊢
 by_cases a4 : f.length < 4
 · rw [if_pos a4] at h; cases h
 rw [if_neg a4] at h ⊢
 by_cases a5 : a1J log first ((f.getD 0 0).toNat % 4) (rdN (f.drop 1) 3) (decide (4 <= (f.getD 0 0).toNat)) = false
 · rw [if_pos a5] at h; cases h
 rw [if_neg a5] at h ⊢
 by_cases a6 : f.length < 7
 · rw [if_pos a6] at h; cases h
 rw [if_neg a6] at h ⊢
 by_cases a7 : a0H ((f.getD 0 0).toNat % 4 : Nat) (rdN (f.drop 1) 3) (rdN (f.drop 4) 3) ≠ 0
 · rw [if_pos a7] at h; exact absurd h a7
 rw [if_neg a7] at h ⊢
 by_cases a8 : room < rdN (f.drop 1) 3
 · rw [if_pos a8] at h; cases h
 rw [if_neg a8] at h ⊢
 by_cases a9 : f.length < 11
 · rw [if_pos a9] at h; cases h
 rw [if_neg a9]
 have b1:=a2E (λ x hx=>hf x (List.mem_of_mem_drop hx) : Bytes (f.drop 4)) 3
 have b2:=a2E (λ x hx=>hf x (List.mem_of_mem_drop hx) : Bytes (f.drop 7)) 4
 have b3:=b0K (Classical.not_not.1 a7)
 dsimp only
 refine ⟨by omega,by omega,by omega,by omega,by omega,Classical.not_not.1 a7,by omega⟩
theorem a2T {fn : Func} {a b c d : Tmp} (h : fn.results = #[.tmp a,.tmp b,.tmp c,.tmp d]) (tmps : Array Value) (w : World) :
    (results fn tmps).run Tryz.prog w = .ok (.tuple #[tmps.getD a undef,tmps.getD b undef,tmps.getD c undef,tmps.getD d undef]) w:=by
 simp [results,h]
theorem OpenPost.err (k : Int) {w w' : World} (hb : Below w.heap.size w w') : OpenPost (k,[],0,false) w (.returned (.tuple #[.slice none 0 0,.int .i64 0,.bool false,.int .i64 k])) w':=⟨none,0,rfl,Kd.R_nil _ _ _ _ _,hb⟩
open Go.Proofs.YtflfjpkmjnnodaaGreat.PRef
theorem b7n (A : Option Addr) (cp n : Nat) (l : List Bool) (w : World) (hr : Kd.bool.C w A n l) (hn : l.length = n) (hc : l.length <= cp) (hl : l.length <= 1000000) : Calls Tryz.prog 114 #[.slice A n cp] w (MadeU (packB l) w):=by
 subst hn
 obtain ⟨k,hk⟩:=(b6G l hl).rounds
 exact puncheonref01_Bytes.calls k A cp l _ w hr hc hk
set_option maxRecDepth 100000 in
theorem c8O (A : Option Addr) (cp : Nat) (w : World) : Calls Tryz.prog 184 #[.slice A 0 cp] w (Told 1 [] w):=by
 go_enter Tryz.func184,Tryz.ntmps184
 go_wp2_with fail
 go_ret2
 exact Told.nil 1 (Below.refl _ _)
set_option maxRecDepth 100000 in
set_option maxHeartbeats 2000000 in
theorem c8P (A : Option Addr) (cp : Nat) (b : List Int) (w : World) (hr : (Kd.int .u8).C w A b.length b) (hc : b.length <= cp) (hb : Bytes b) (hl : b.length <= 5000) (h0 : 0 < b.length) :
    Calls Tryz.prog 184 #[.slice A b.length cp] w (Told 0 (a1h b) w):=by
 have d1 : ((b.length : Int) == 0) = false:=by simp; intro e; subst e; simp at h0
 have d2 : decide ((131072 : Int) < (b.length : Int)) = false:=decide_eq_false (by omega)
 have HZ:=Lib.hid (c3R A cp b w hr hc hb (by omega) h0)
 have HR:=Lib.hid (And.intro hr (And.intro hc (And.intro hb hl)))
 have HCan : Hid (canM (zeroR b : Nat) true [zeroQ b] b = true):=a3J (one:=true) hb (by omega) h0
 have HN:=Lib.hid (a5H hb (by omega) h0)
 have HFit:=Lib.hid (a3G (a3H HCan.out).1 hb)
 have HB : Hid (a1h b = packB (a0j (zeroR b) 8 ++ hdrB (zeroQ b) 257 0 (2 ^ zeroR b)) ++ packB (a0O (zeroR b : Nat) true [zeroQ b] b ++ [true])):=Lib.hid (by unfold a1h headB; rfl)
 obtain ⟨Bd,hBd⟩ : ∃ B,B = a1h b:=⟨_,rfl⟩
 rw [<- hBd] at HB ⊢
 obtain ⟨r,hrz⟩ : ∃ r,r = zeroR b:=⟨_,rfl⟩
 obtain ⟨q,hqz⟩ : ∃ q,q = zeroQ b:=⟨_,rfl⟩
 rw [<- hrz,<- hqz] at HZ HCan HN HFit HB
 have hr12 : r <= 12:=HN.out.r12
 have hwr : IntKind.u32.wrap (r : Int) = (r : Int):=by rw [IntKind.wrap_u32']; omega
 obtain ⟨hd,hhd⟩ : ∃ l,l = a0j r 8 ++ hdrB q 257 0 (2 ^ r):=⟨_,rfl⟩
 have HHd : Hid (hd.length <= 880000):=Lib.hid (by
  have hn:=HN.out
  have e2 : (2 : Int) ^ r = ((2 ^ r : Nat) : Int):=by simp
  have h1:=a3K hn.r12 hn.len hn.nn 257 0 (2 ^ r) (by omega) (by rw [List.drop_zero,hn.sum,e2]) (by rw [Nat.pow_succ]; have:=Nat.two_pow_pos r; omega)
  have h2 : (256 - 0) * (r + 3) <= 256 * 15:=Nat.mul_le_mul (by omega) (by omega)
  rw [hhd,List.length_append,a0E]; omega)
 have HHD:=Lib.hid hhd
 rw [<- hhd] at HB
 obtain ⟨Pl,hPl⟩ : ∃ P,P = packB (a0O (r : Nat) true [q] b ++ [true]):=⟨_,rfl⟩
 have HPl:=Lib.hid hPl
 have HPll : Hid (Pl.length <= 700000):=Lib.hid (by
  rw [hPl,a0z,List.length_append]
  have:=HFit.out; simp only [List.length_singleton]; omega)
 rw [<- hPl] at HB
 obtain ⟨Hp,hHp⟩ : ∃ P,P = packB hd:=⟨_,rfl⟩
 have HHp:=Lib.hid (And.intro hHp (show Hp.length <= 200000 from by rw [hHp,a0z]; have:=HHd.out; omega))
 rw [<- hHp] at HB
 clear hr hc hb hl h0 hBd hrz hqz hhd hPl hHp
 go_enter Tryz.func184,Tryz.ntmps184
 go_wp2_with fail
 refine HZ.out.mono ?_
 rintro e w1 ⟨v,rfl,hv,hb1⟩
 obtain ⟨Am,cm,rfl⟩:=Kd.R_slice hv
 have hv1:=hv
 obtain ⟨w2,hw2⟩ : ∃ w2,w2 = w1.alloc (.cells #[.int .i64 r,.bool true,.slice Am 1 cm] 26):=⟨_,rfl⟩
 have hM : MAt w1.heap.size r true Am cm [q] w2:=by rw [hw2]; exact MAt.new (lg:=(r : Int)) (one:=true) (qs:=[q]) hv
 have HB2:=Lib.hid (show Below w.heap.size w w2 from by rw [hw2]; exact hb1.alloc hb1.size _)
 obtain ⟨mb,hmb⟩ : ∃ m,m = w1.heap.size:=⟨_,rfl⟩
 rw [<- hmb] at hM
 have HM:=Lib.hid hM
 have HCm:=Lib.hid (show 1 <= cm from (Kd.R_reads' hv).2.1)
 obtain ⟨⟨m0,m1,m2⟩,_⟩:=cell3 hM.blk
 clear hv hv1 hb1 hM
 have HP1:=Lib.hid (a5O none 0 [] r 8 w2 (Kd.R_reads' (Kd.R_nil Kd.bool 4 w2 w2.heap.size (λ _=>True))).2.2 (by decide) (by decide) (by omega) (by decide))
 rw [List.nil_append] at HP1
 subst hw2
 rw [hmb] at m0 m1 m2
 go_wp2_with fail
 obtain ⟨w2,hw2⟩ : ∃ w2,w2 = w1.alloc (.cells #[.int .i64 r,.bool true,.slice Am 1 cm] 26):=⟨_,rfl⟩
 rw [<- hw2] at HB2 HM HP1 ⊢
 rw [<- hmb]
 clear m0 m1 m2 hw2 hmb
 obtain ⟨h8,hh8⟩ : ∃ l,l = a0j r 8:=⟨_,rfl⟩
 have HH8 : Hid (h8.length = 8):=Lib.hid (by rw [hh8]; exact a0E _ _)
 rw [<- hh8] at HP1 HHD
 clear hh8
 refine HP1.out.mono ?_
 intro e w3 h3
 obtain ⟨A3,c3,rfl,hC3,hc3,hb3⟩:=h3.out
 have HM3:=Lib.hid (HM.out.later hb3)
 have HB3:=Lib.hid (a0g HB2.out hb3)
 obtain ⟨⟨m0,m1,m2⟩,_⟩:=cell3 HM3.out.blk
 obtain ⟨ad,B,cq,hA3,hcq,hcql,hCq⟩:=kq_at HM3.out.row 0 (by simp)
 subst hA3
 rw [Addr.add_zero'] at hcq
 have hql : (([q] : List (List Int)).getD 0 []).length = 256:=HN.out.len
 rw [hql] at hcq hcql hCq
 have HP15:=Lib.hid (b6Q A3 B c3 cq r h8 q w3 hC3 hc3 (by rw [HN.out.len]; exact hCq) (by rw [HN.out.len]; exact hcql) HN.out (by rw [HH8.out]; decide))
 rw [<- HHD.out] at HP15
 clear h3 hC3 hc3 hb3 hcql hCq hql
 go_wp2_with fail
 refine HP15.out.mono ?_
 rintro e w4 ⟨A4,c4,rfl,hC4,hc4,hb4⟩
 have HBy:=Lib.hid (b7n A4 c4 hd.length hd w4 hC4 rfl hc4 (by have:=HHd.out; omega))
 rw [<- HHp.out.1] at HBy
 have HB4:=Lib.hid (a0g HB3.out hb4)
 have HM4:=Lib.hid (HM3.out.later hb4)
 clear hC4 hc4 hb4 m0 m1 m2 hcq
 go_wp2_with fail
 refine HBy.out.mono ?_
 rintro e w5 ⟨v5,rfl,hv5,hb5⟩
 obtain ⟨A5,c5,rfl⟩:=Kd.R_slice hv5
 have HM5:=Lib.hid (HM4.out.later hb5)
 have HB5:=Lib.hid (a0g HB4.out hb5)
 have HO5:=Lib.hid (Kd.R_lower hv5 HB4.out.size)
 obtain ⟨⟨m0,m1,m2⟩,_⟩:=cell3 HM5.out.blk
 have HEn:=Lib.hid (b6P r true (some ad) cm [q] A cp b w5 HM5.out.row HCm.out (by simp) (Kd.C_below HR.out.1 HB5.out) HR.out.2.1 HR.out.2.2.1 HR.out.2.2.2)
 clear hv5 hb5
 go_wp2_with fail
 refine HEn.out.mono ?_
 rintro e w6 ⟨_,h2,hb6⟩
 obtain ⟨v6,rfl,hv6⟩:=h2 HCan.out
 rw [<- HPl.out] at hv6
 obtain ⟨A6,c6,rfl⟩:=Kd.R_slice hv6
 have HO6:=Lib.hid (Kd.R_below HO5.out hb6)
 have HD6:=Lib.hid (Kd.R_reads' hv6).2.2
 have HB6:=Lib.hid (a0g HB5.out hb6)
 have HS6:=Lib.hid HB6.out.size
 have HL6 : Hid ((Hp.length + Pl.length) * 1 <= 140737488355328):=Lib.hid (by have:=HHp.out.2; have:=HPll.out; omega)
 clear h2 hv6 hb6
 go_wp2_with (at_builtin; refine Kd.R_append_rows (Kd.int .u8) (Rr:=(Kd.int .u8).K w6) (w0:=w) (W:=w6) w.heap.size rfl (.tmp 36) (.tmp 37) 22 5 (.int .u8 0) 1 rfl Tryz.underlying22 a0w rfl (by decide) (by decide) (.slice A5 Hp.length c5) Hp Pl A6 Pl.length c6 (λ _=>True) (λ _=>False) rfl rfl HO6.out HD6.out (λ _ _ h=>h) (λ _ h=>h.elim) (λ _ _=>trivial) HB6.out HS6.out HL6.out ?_; intro v7 w7 hr7 hb7 hg7 hat7; rw [<- HB.out] at hr7; obtain ⟨A7,c7,rfl⟩:=Kd.R_slice hr7; have HA7:=Lib.hid (And.intro hr7 hb7); clear hr7 hb7 hg7 hat7)
 go_ret2
 exact ⟨A7,c7,rfl,HA7.out.1,HA7.out.2⟩
end Go.Proofs.YtflfjpkmjnnodaaGreat
namespace Go.Proofs.YtflfjpkmjnnodaaGreat
open Go.RowKit Go.IntWalk Go.Proofs.YtflfjpkmjnnodaaGreatW.PrintWords
theorem b7o : ∀ (l : List Bool) (k : Nat),k < l.length -> l.getD k false = false -> byteL (l.set k true) = byteL l + 2 ^ k
 | [],k,h,_=>by simp at h
 | b :: l,0,_,h=>by
  have hb : b = false:=h
  subst hb
  show (true.toNat + 2 * byteL l) = (false.toNat + 2 * byteL l) + 1
  simp; omega
 | b :: l,k + 1,h,h2=>by
  have ih:=b7o l k (by simpa using h) h2
  show b.toNat + 2 * byteL (l.set k true) = (b.toNat + 2 * byteL l) + 2 ^ (k + 1)
  rw [ih,Nat.pow_succ]; omega
theorem c8Q {l : List Bool} {c : Nat} (hc : c < l.length) (h : l.getD c false = false) : packB (l.set c true) = (packB l).set (c / 8) ((packB l).getD (c / 8) 0 + ((2 ^ (c % 8) : Nat) : Int)):=by
 have hl : (packB (l.set c true)).length = (packB l).length:=by rw [a0z,a0z,List.length_set]
 have hcl : c / 8 < (packB l).length:=by rw [a0z]; omega
 refine List.ext_getElem (by rw [List.length_set]; exact hl) λ j h1 h2=>?_
 rw [a1V,List.getElem_set,List.drop_set]
 by_cases hj : c / 8 = j
 · subst hj
   rw [if_pos rfl,if_neg (by omega),List.take_set]
   have hdl : (l.drop (8 * (c / 8))).length = l.length - 8 * (c / 8):=List.length_drop
   have hk : c - 8 * (c / 8) = c % 8:=by omega
   rw [hk,b7o _ _ (by rw [List.length_take]; omega) (by
    rw [List.getD_eq_getElem?_getD,List.getElem?_take,if_pos (by omega),List.getElem?_drop,show 8 * (c / 8) + c % 8 = c by omega,<- List.getD_eq_getElem?_getD]; exact h)]
   rw [List.getD_eq_getElem?_getD,List.getElem?_eq_getElem hcl,Option.getD_some,a1V]
   simp
 · rw [if_neg hj]
   have hjl : j < (packB l).length:=by rw [<- hl]; exact h1
   rw [a1V]
   by_cases h8 : c < 8 * j
   · rw [if_pos h8]
   · rw [if_neg h8,List.take_set,List.set_eq_of_length_le]
     rw [List.length_take]; omega
theorem c8R {l : List Int} (hA : Asc l) {i c : Nat} (hi : i < l.length) (hc : l.getD i 0 = (c : Int)) (hc256 : c < 256) : dirB (l.take (i + 1)) = (dirB (l.take i)).set c true /\ (dirB (l.take i)).getD c false = false:=by
 have ht : l.take (i + 1) = l.take i ++ [(c : Int)]:=by rw [List.take_succ_eq_append_getElem hi,<- hc,List.getD_eq_getElem?_getD,List.getElem?_eq_getElem hi,Option.getD_some]
 constructor
 · refine List.ext_getElem (by rw [List.length_set,a2B,a2B]) λ j h1 h2=>?_
   rw [List.getElem_set]
   simp only [dirB,List.getElem_map,List.getElem_range,ht]
   by_cases e : c = j
   · subst e; rw [if_pos rfl]; simp
   · rw [if_neg e]
     have : ((j : Int) ∈ l.take i ++ [(c : Int)]) ↔ (j : Int) ∈ l.take i:=by
      rw [List.mem_append,List.mem_singleton]
      constructor
      · rintro (h | h)
        · exact h
        · omega
      · exact Or.inl
     rw [Bool.eq_iff_iff]; simp [this]
 · rw [a7F _ hc256]
   refine decide_eq_false (λ hm=>?_)
   obtain ⟨j,hj,e⟩:=a5K hm
   rw [List.length_take] at hj
   rw [List.getD_eq_getElem?_getD,List.getElem?_take,if_pos (by omega),<- List.getD_eq_getElem?_getD] at e
   have:=hA.lt' (show j < i by omega) hi
   omega
theorem c8S {l : List Int} (hA : Asc l) {i c : Nat} (hi : i < l.length) (hc : l.getD i 0 = (c : Int)) (hc256 : c < 256) : dirL (l.take (i + 1)) = (dirL (l.take i)).set (c / 8) ((dirL (l.take i)).getD (c / 8) 0 + ((2 ^ (c % 8) : Nat) : Int)):=by
 obtain ⟨h1,h2⟩:=c8R hA hi hc hc256
 unfold dirL
 rw [h1,c8Q (by rw [a2B]; exact hc256) h2]
theorem c8T (l : List Int) : dirL (l.take 0) = List.replicate 32 0:=by
 rw [List.take_zero]; decide +kernel
theorem b7p (l : List Int) : Bytes (dirL l):=a4g _
def DirAt (w : World) (g : Nat) (L : List Int) (wr : World) : Prop:=(Kd.int .u8).R 5 wr w.heap.size (λ _=>True) (.slice (some ⟨g,0,none⟩) 32 32) L /\ Below w.heap.size w wr
set_option maxRecDepth 100000 in
set_option maxHeartbeats 2000000 in
theorem c8U (A : Option Addr) (cp : Nat) (l : List Int) (w : World) (hr : (Kd.int .i64).C w A l.length l) (hA : Asc l) (hll : l.length <= 256) :
    Calls Tryz.prog 231 #[.slice A l.length cp] w (λ e w'=>∃ c,∃ Ad,e = .returned (.tuple #[.slice Ad 32 c,.bool true]) /\ (Kd.int .u8).C w' Ad 32 (dirL l) /\ 32 <= c /\ Below w.heap.size w w'):=by
 have HR:=Lib.hid hr
 have HA:=Lib.hid hA
 have hpos:=hA.pos
 have hlp : ((l.length : Int) == 0) = false:=by simp; intro e; subst e; simp at hpos
 obtain ⟨ad,hA0,hc0⟩:=a0v hr 0 hpos
 rw [hA.zero] at hc0
 subst hA0
 have e0 : ad.add 0 = ad:=by simp [Addr.add]
 have hc00 : w.cell? ad = some (.int .i64 0):=by rw [e0] at hc0; exact hc0
 have hl0 : (0 : Int) < (l.length : Int):=by omega
 have hmk:=b3r 32 (by decide)
 have hmk2 : ∀ w : World,(Instr.makeSlice 22 (.int .i64 32) (.int .i64 32)).run Tryz.prog w = .ok (.slice (some ⟨w.heap.size,0,none⟩) 32 32) (w.alloc (.cells (madeCells #[.int .u8 0] 32) 5)):=λ w=>hmk w
 obtain ⟨W,hW⟩ : ∃ W,W = w.alloc (.cells (madeCells #[.int .u8 0] 32) 5):=⟨_,rfl⟩
 have H0 : Hid (DirAt w w.heap.size (dirL (l.take 0)) W):=Lib.hid ⟨by rw [c8T,hW]; exact b3s 32 (by decide) w (λ _=>True) trivial w.heap.size (Nat.le_refl _),by rw [hW]; exact (Below.refl _ _).alloc (Nat.le_refl _) _⟩
 obtain ⟨g,hg⟩ : ∃ g,g = w.heap.size:=⟨_,rfl⟩
 rw [<- hg] at H0
 have HG:=Lib.hid hg
 clear hr hA hpos hmk
 go_enter Tryz.func231,Tryz.ntmps231
 go_wp2_with fail
 rw [<- hW,<- hg]
 clear hW hg hc0 hc00 e0
 go_wp2_with fail
 go_loopw [5] (λ iv wr=>∃ i : Nat,i <= l.length /\ iv = .int .i64 i /\ Hid (DirAt w g (dirL (l.take i)) wr)) (λ iv _=>l.length - (intOf iv).toNat)
 case atStart=>exact ⟨0,by omega,rfl,H0⟩
 case round=>
  obtain ⟨i,hi,rfl,H⟩:=hrel
  by_cases hlt : i < l.length
  · obtain ⟨c,hc,hc256⟩:=HA.out.get hlt
    have hrow:=Kd.C_below HR.out H.out.2
    obtain ⟨ad2,hA2,hcell⟩:=a0v hrow i hlt
    injection hA2 with hA2
    subst hA2
    rw [hc] at hcell
    have HStep:=Lib.hid (c8S HA.out hlt hc hc256)
    obtain ⟨q,hq⟩ : ∃ q,q = c / 8:=⟨_,rfl⟩
    obtain ⟨j,hj⟩ : ∃ j,j = c % 8:=⟨_,rfl⟩
    rw [<- hq,<- hj] at HStep
    obtain ⟨cx,fx⟩:=a1C H.out.1 q (by omega)
    have hyb:=(b7p (l.take i)).get q
    obtain ⟨y,hy⟩ : ∃ y : Nat,(dirL (l.take i)).getD q 0 = y:=⟨((dirL (l.take i)).getD q 0).toNat,by omega⟩
    have hnb:=(b7p (l.take (i + 1))).get q
    rw [HStep.out,a4J _ _ _ _ (by rw [a2Q]; omega),if_pos rfl] at hnb
    rw [hy] at cx HStep hyb hnb
    have hqI : (c : Int) / 8 = (q : Int):=by omega
    have hqT : (c : Int).tdiv 8 = (q : Int):=by rw [Int.tdiv_eq_ediv_of_nonneg (by omega)]; exact hqI
    have hjI : (c : Int) % 8 = (j : Int):=by omega
    have hjT : (c : Int).tmod 8 = (j : Int):=by rw [Int.tmod_eq_emod_of_nonneg (by omega)]; exact hjI
    have hqw : IntKind.i64.wrap (q : Int) = (q : Int):=i64_in _ (by omega)
    have hjw : IntKind.i64.wrap (j : Int) = (j : Int):=i64_in _ (by omega)
    have hj8 : j < 8:=by omega
    have hj0 : ¬ (j : Int) < 0:=by omega
    have hq32 : (q : Int) < 32:=by omega
    have d1 : decide ((c : Int) < 0) = false:=decide_eq_false (by omega)
    have d2 : decide ((255 : Int) < (c : Int)) = false:=decide_eq_false (by omega)
    have hiI : (i : Int) < (l.length : Int):=by omega
    have HH:=Lib.hid H.out
    have HP : Hid (((y : Int) + 2 ^ j) % 256 = (y : Int) + ((2 ^ j : Nat) : Int)):=Lib.hid (by
     have h8 : 2 ^ j < 2 ^ 8:=Nat.pow_lt_pow_right (by omega) hj8
     rw [show ((2 : Int) ^ j) = ((2 ^ j : Nat) : Int) by simp]
     generalize 2 ^ j = P at h8 hnb ⊢
     omega)
    have HHIi:=Lib.hid hlt
    have HCC:=Lib.hid hc
    have HRW:=Lib.hid hrow
    have hrelN : ∀ w1 : World,Kd.R (.int .u8) 5 w1 w.heap.size (λ _=>True) (.slice (some ⟨g,0,none⟩) 32 32) ((dirL (l.take i)).set q ((y : Int) + ((2 ^ j : Nat) : Int))) -> Below w.heap.size w w1 -> ∃ i' : Nat,i' <= l.length /\ (Value.int .i64 ((i : Int) + 1)) = .int .i64 i' /\ Hid (DirAt w g (dirL (l.take i')) w1):=λ w1 h1 h2=>⟨i + 1,HHIi.out,by simp,Lib.hid ⟨by rw [HStep.out]; exact h1,h2⟩⟩
    have HRN:=Lib.hid hrelN
    clear hrelN hc hq hj hy hyb hnb hrow
    have HST : Hid (∀ n : Nat,Kd.R (.int .u8) 5 ((wr.drewN n).setCell ⟨g,q,none⟩ (.int .u8 (((y : Int) + 2 ^ j) % 256))) w.heap.size (λ _=>True) (.slice (some ⟨g,0,none⟩) 32 32) ((dirL (l.take i)).set q ((y : Int) + ((2 ^ j : Nat) : Int))) /\ Below w.heap.size w ((wr.drewN n).setCell ⟨g,q,none⟩ (.int .u8 (((y : Int) + 2 ^ j) % 256)))):=Lib.hid (by
     intro n
     have h9:=Kd.R_putn (Kd.R_below HH.out.1 (a0b (Below.refl _ _) n)) (q : Int) ((y : Int) + ((2 ^ j : Nat) : Int))
     rw [HP.out]
     simp only [Int.toNat_natCast] at h9
     exact ⟨h9,(a0b HH.out.2 n).setCell (p:=⟨g,q,none⟩) (by rw [HG.out]; exact Nat.le_refl _) _⟩)
    rcases Nat.eq_zero_or_pos i with h0 | h0
    · subst h0
      have e0 : ad.add 0 = ad:=by simp [Addr.add]
      have hcell0 : wr.cell? ad = some (.int .i64 c):=by rw [e0] at hcell; exact hcell
      go_wp2_with fail
      go_quiet (fail)
      go_wp2_with fail
      go_region
      go_wp2_with fail
      go_roundw
      case rel=>
       exact HRN.out _ (HST.out _).1 (HST.out _).2
      case measure=>simp [intOf]; omega
    · obtain ⟨b,hb,hb256⟩ : ∃ b : Nat,l.getD (i - 1) 0 = b /\ b < 256:=HA.out.get (by omega)
      have hlt2 : b < c:=by have:=HA.out.lt' (show i - 1 < i by omega) hlt; rw [HCC.out,hb] at this; omega
      obtain ⟨k,hk⟩ : ∃ k,k = i - 1:=⟨_,rfl⟩
      rw [<- hk] at hb
      obtain ⟨ad3,hA3,hcell3⟩:=a0v HRW.out k (by omega)
      injection hA3 with hA3
      subst hA3
      rw [hb] at hcell3
      have d4 : decide ((0 : Int) < (i : Int)) = true:=decide_eq_true (by omega)
      have d5 : decide (c <= b) = false:=decide_eq_false (by omega)
      have k1 : (i : Int) - 1 = (k : Int):=by omega
      have k2 : IntKind.i64.wrap (k : Int) = (k : Int):=i64_in _ (by omega)
      have k3 : (k : Int) < (l.length : Int):=by omega
      have k4 : ¬ (k : Int) < 0:=by omega
      clear hb hlt2 hk
      go_wp2_with fail
      go_quiet (fail)
      go_wp2_with fail
      go_region
      go_wp2_with fail
      go_roundw
      case rel=>
       exact HRN.out _ (HST.out _).1 (HST.out _).2
      case measure=>simp [intOf]; omega
  · obtain rfl : i = l.length:=by omega
    have hgo : decide ((l.length : Int) < (l.length : Int)) = false:=decide_eq_false (by omega)
    have HF : Hid (DirAt w g (dirL l) wr):=Lib.hid (by have:=H.out; rw [List.take_length] at this; exact this)
    go_wp2_with fail
    refine bodyPost_ret (v:=.tuple #[.slice (some ⟨g,0,none⟩) 32 32,.bool true]) ?_ rfl ⟨32,_,rfl,?_,Nat.le_refl _,HF.out.2⟩
    · simp [results,Tryz.f231,go_sem]
    · have h:=(Kd.R_reads' HF.out.1).2.2
      rw [a2Q] at h
      exact h
open Go.Proofs.YtflfjpkmjnnodaaGreat.PRef
set_option maxRecDepth 100000 in
theorem b7q (A : Option Addr) (cp : Nat) (w : World) : Calls Tryz.prog 185 #[.slice A 0 cp] w (Told 1 [] w):=by
 go_enter Tryz.func185,Tryz.ntmps185
 go_wp2_with fail
 go_ret2
 exact Told.nil 1 (Below.refl _ _)
def BoolsAt (w : World) (xs : List Bool) (v : Value) (wr : World) : Prop:=∃ A c,v = .slice A xs.length c /\ Kd.bool.C wr A xs.length xs /\ xs.length <= c /\ Below w.heap.size w wr
theorem BoolsAt.drew {w : World} {xs : List Bool} {v : Value} {wr : World} (h : BoolsAt w xs v wr) : BoolsAt w xs v wr.drew:=by
 obtain ⟨A,c,h1,h2,h3,h4⟩:=h
 exact ⟨A,c,h1,Kd.C_drew h2,h3,a3r h4⟩
set_option maxRecDepth 100000 in
set_option maxHeartbeats 2000000 in
theorem c8V (A : Option Addr) (cp : Nat) (b : List Int) (w : World) (hr : (Kd.int .u8).C w A b.length b) (hc : b.length <= cp) (hb : Bytes b) (hl : b.length <= 5000) (h0 : 0 < b.length)
    (hF : Calls Tryz.prog 229 #[.slice A b.length cp] w (MadeM (a0p b) false (a0A b) w))
    (hP : ∀ w1,Below w.heap.size w w1 -> Calls Tryz.prog 230 #[.slice A b.length cp] w1 (MadeI (presN b 256) w1)) :
    Calls Tryz.prog 185 #[.slice A b.length cp] w (Told 0 (a1d b) w):=by
 have d1 : ((b.length : Int) == 0) = false:=by simp; intro e; subst e; simp at h0
 have d2 : decide ((131072 : Int) < (b.length : Int)) = false:=decide_eq_false (by omega)
 have HF:=Lib.hid hF
 have HPr:=Lib.hid hP
 have HR:=Lib.hid (And.intro hr (And.intro hc (And.intro hb hl)))
 have HCan : Hid (canM (a0p b : Nat) false (a0A b) b = true):=a3J (one:=false) hb (by omega) h0
 have HNr:=Lib.hid (b6T hb (by omega : b.length <= 1000000))
 have HFit:=Lib.hid (a3G (a3H HCan.out).1 hb)
 have HRok:=Lib.hid (a2y b)
 have HB : Hid (a1d b = [(a0p b : Int)] ++ dirL (presN b 256) ++ packB (hdrsB (a0p b) (a0A b) (presN b 256)) ++ packB (a0O (a0p b : Nat) false (a0A b) b ++ [true])):=Lib.hid rfl
 obtain ⟨Bd,hBd⟩ : ∃ B,B = a1d b:=⟨_,rfl⟩
 rw [<- hBd] at HB ⊢
 have HQl:=Lib.hid (a7q b)
 have HL0 : Hid (Asc (presN b 256) /\ (presN b 256).length <= 256):=Lib.hid ⟨b5Z h0,a4j b 256⟩
 obtain ⟨r,hr'⟩ : ∃ r,r = a0p b:=⟨_,rfl⟩
 obtain ⟨q,hq'⟩ : ∃ q,q = a0A b:=⟨_,rfl⟩
 obtain ⟨L,hL⟩ : ∃ L,L = presN b 256:=⟨_,rfl⟩
 have HLe:=Lib.hid hL
 rw [<- hr',<- hq'] at HF HCan HFit HNr HB
 rw [<- hr'] at HRok
 rw [<- hq'] at HQl
 rw [<- hL] at HNr HB HL0
 obtain ⟨D,hD⟩ : ∃ D,D = dirL L:=⟨_,rfl⟩
 have HD:=Lib.hid (And.intro hD (show D.length = 32 by rw [hD]; exact a2Q L))
 rw [<- hD] at HB
 obtain ⟨hd,hhd⟩ : ∃ l,l = hdrsB r q L:=⟨_,rfl⟩
 have hbl:=a5c (r:=r) (qs:=q) (by have:=HRok.out; omega) L HNr.out
 have HHd:=Lib.hid (And.intro hhd (show hd.length <= 800000 by rw [hhd]; have:=HL0.out.2; omega))
 rw [<- hhd] at HB
 obtain ⟨X,hX⟩ : ∃ P,P = packB hd:=⟨_,rfl⟩
 have HX:=Lib.hid (And.intro hX (show X.length <= 200000 by rw [hX,a0z]; have:=HHd.out.2; omega))
 rw [<- hX] at HB
 obtain ⟨Pl,hPl⟩ : ∃ P,P = packB (a0O (r : Nat) false q b ++ [true]):=⟨_,rfl⟩
 have HPl:=Lib.hid (And.intro hPl (show Pl.length <= 700000 by
  rw [hPl,a0z,List.length_append]
  have:=HFit.out; simp only [List.length_singleton]; omega))
 rw [<- hPl] at HB
 have hrw : IntKind.u8.wrap (r : Int) = (r : Int):=by rw [IntKind.wrap_u8]; have:=HRok.out; omega
 clear hF hP hr hc hb hl h0 hBd hr' hq' hL hD hhd hbl hX hPl
 go_enter Tryz.func185,Tryz.ntmps185
 go_wp2_with fail
 refine HF.out.mono ?_
 rintro e w1 ⟨v,rfl,hv,hb1⟩
 obtain ⟨Am,cm,rfl⟩:=Kd.R_slice hv
 obtain ⟨w2,hw2⟩ : ∃ w2,w2 = w1.alloc (.cells #[.int .i64 r,.bool false,.slice Am q.length cm] 26):=⟨_,rfl⟩
 have hM : MAt w1.heap.size r false Am cm q w2:=by rw [hw2]; exact MAt.new (lg:=(r : Int)) (one:=false) (qs:=q) hv
 have HB2:=Lib.hid (show Below w.heap.size w w2 from by rw [hw2]; exact hb1.alloc hb1.size _)
 obtain ⟨mb,hmb⟩ : ∃ m,m = w1.heap.size:=⟨_,rfl⟩
 rw [<- hmb] at hM
 have HM:=Lib.hid hM
 have HCm:=Lib.hid (show q.length <= cm from (Kd.R_reads' hv).2.1)
 clear hv hb1 hM
 have HP1:=Lib.hid (HPr.out w2 HB2.out)
 rw [<- HLe.out] at HP1
 go_wp2_with fail
 rw [<- hw2,<- hmb]
 clear hw2 hmb
 refine HP1.out.mono ?_
 rintro e w3 ⟨v3,rfl,hv3,hb3⟩
 obtain ⟨Al,cl,rfl⟩:=Kd.R_slice hv3
 have HV3:=Lib.hid (Kd.R_reads' hv3).2.2
 have HB3:=Lib.hid (a0g HB2.out hb3)
 have HM3:=Lib.hid (HM.out.later hb3)
 have HP19:=Lib.hid (c8U Al cl L w3 HV3.out HL0.out.1 HL0.out.2)
 rw [<- HD.out.1] at HP19
 clear hv3 hb3
 go_wp2_with fail
 refine HP19.out.mono ?_
 rintro e w4 ⟨c4,A4,rfl,hC4,hc4,hb4⟩
 have HB4:=Lib.hid (a0g HB3.out hb4)
 have HM4:=Lib.hid (HM3.out.later hb4)
 have HV4:=Lib.hid (Kd.C_below HV3.out hb4)
 have HD4:=Lib.hid (And.intro hC4 hc4)
 clear hC4 hc4 hb4
 go_wp2_with fail
 go_loopw [8,9] (λ bv iv wr=>∃ i : Nat,i <= L.length /\ iv = .int .i64 i /\ Hid (BoolsAt w4 (hdrsB r q (L.take i)) bv wr)) (λ _ iv _=>L.length - (intOf iv).toNat)
 case atStart=>exact ⟨0,by omega,rfl,Lib.hid ⟨none,0,rfl,(Kd.R_reads' (Kd.R_nil Kd.bool 4 w4 w4.heap.size (λ _=>True))).2.2,by simp [hdrsB],Below.refl _ _⟩⟩
 case round=>
  obtain ⟨i,hiL,rfl,HW⟩:=hrel
  obtain ⟨A5,c5,rfl,hC5,hc5,hbw⟩:=HW.out
  have HMr:=HM4.out.later hbw
  obtain ⟨⟨m0,m1,m2⟩,-⟩:=cell3 HMr.blk
  by_cases hlt : i < L.length
  · obtain ⟨cx,hc,hc256⟩:=HL0.out.1.get hlt
    obtain ⟨adl,hA2,hcx⟩:=a0v (Kd.C_below HV4.out hbw) i hlt
    subst hA2
    rw [hc] at hcx
    have hm:=a1y hlt
    rw [hc] at hm
    have hn:=HNr.out _ hm
    rw [Int.toNat_natCast] at hn
    obtain ⟨aq,B,cq,hA3,hcq,hcql,hCq⟩:=kq_at HMr.row cx (by rw [HQl.out]; exact hc256)
    subst hA3
    rw [hn.len] at hcq
    have ht : L.take (i + 1) = L.take i ++ [(cx : Int)]:=by rw [List.take_succ_eq_append_getElem hlt,<- hc,List.getD_eq_getElem?_getD,List.getElem?_eq_getElem hlt,Option.getD_some]
    have HS:=Lib.hid (show hdrsB r q (L.take (i + 1)) = hdrsB r q (L.take i) ++ hdrB (q.getD cx []) 257 0 (2 ^ r) by rw [ht,b0t,Int.toNat_natCast])
    have hlb:=a5c (r:=r) (qs:=q) (by have:=HRok.out; omega) (L.take i) (λ x hx=>HNr.out x (List.mem_of_mem_take hx))
    have hlb2 : (hdrsB r q (L.take i)).length <= 800000:=by rw [List.length_take] at hlb; have:=HL0.out.2; omega
    obtain ⟨pb,hpb⟩ : ∃ l,l = hdrsB r q (L.take i):=⟨_,rfl⟩
    rw [<- hpb] at hC5 hc5 hlb2 HS ⊢
    have HPut : Hid (∀ W : World,SLater wr W -> Calls Tryz.prog 227 #[.slice A5 pb.length c5,.slice B 256 cq] W λ e w'=>∃ Ax cx',e = .returned (.slice Ax (hdrsB r q (L.take (i + 1))).length cx') /\ BoolsAt w4 (hdrsB r q (L.take (i + 1))) (.slice Ax (hdrsB r q (L.take (i + 1))).length cx') w' /\ Below W.heap.size W w'):=Lib.hid λ W hW=>by
     rw [HS.out]
     refine (b6Q A5 B c5 cq r pb (q.getD cx []) W (Kd.C_below hC5 hW) hc5 (Kd.C_below hCq hW) hcql hn hlb2).mono ?_
     rintro e w' ⟨Ax,cx',rfl,h1,h2,h3⟩
     exact ⟨Ax,cx',rfl,⟨Ax,cx',rfl,h1,h2,a0g (a0g hbw hW) h3⟩,h3⟩
    have hI : (i : Int) < (L.length : Int):=by omega
    have hqI : (cx : Int) < (q.length : Int):=by rw [HQl.out]; omega
    have s0 : SLater wr wr:=Below.refl _ _
    have hi256 : i <= 256:=by have:=HL0.out.2; omega
    clear hc hm hn hcql hCq ht hlb hlb2 hpb HS HMr HW hC5 hc5
    go_wp2_with fail
    go_region_law (go_simp; go_at_call 227; refine (HPut.out _ (by first | assumption | exact SLater.drew ‹_›)).mono ?_; rintro e w' ⟨Ax,cx',rfl,hbits,hb⟩; have HBits:=Lib.hid hbits; have s1:=(by first | exact SLater.keep ‹_› hb | exact SLater.keep (SLater.drew ‹_›) hb : SLater wr w'); clear hb hbits)
    all_goals
     go_wp2_with fail
     go_roundw
     case rel=>exact ⟨i + 1,by omega,by go_num,Lib.hid (by first | exact HBits.out | exact HBits.out.drew)⟩
     case measure=>simp [intOf]; omega
  · obtain rfl : i = L.length:=by omega
    have hgo : decide ((L.length : Int) < (L.length : Int)) = false:=decide_eq_false (by omega)
    rw [List.take_length,<- HHd.out.1] at hC5 hc5 ⊢
    clear m0 m1 m2
    obtain ⟨⟨m0,m1,m2⟩,-⟩:=cell3 HMr.blk
    have HB5:=Lib.hid (a0g HB4.out hbw)
    have HM5:=Lib.hid HMr
    have HD5:=Lib.hid (Kd.C_below HD4.out.1 hbw)
    have HC5:=Lib.hid (And.intro hC5 hc5)
    have HEn:=Lib.hid (b6P r false Am cm q A cp b wr HMr.row HCm.out (by have:=HQl.out; omega) (Kd.C_below HR.out.1 HB5.out) HR.out.2.1 HR.out.2.2.1 HR.out.2.2.2)
    clear hC5 hc5 hbw HMr HW
    go_wp2_with fail
    refine HEn.out.mono ?_
    rintro e w6 ⟨_,h2,hb6⟩
    obtain ⟨v6,rfl,hv6⟩:=h2 HCan.out
    rw [<- HPl.out.1] at hv6
    obtain ⟨A6,c6,rfl⟩:=Kd.R_slice hv6
    have HB6:=Lib.hid (a0g HB5.out hb6)
    have HM6:=Lib.hid (HM5.out.later hb6)
    have HD6:=Lib.hid (Kd.C_below HD5.out hb6)
    have HC6:=Lib.hid (Kd.C_below HC5.out.1 hb6)
    have HP6:=Lib.hid (Kd.R_reads' hv6).2.2
    obtain ⟨⟨m0,m1,m2⟩,-⟩:=cell3 HM6.out.blk
    have hWl : Below w6.heap.size w6 (w6.alloc (.cells #[.int .u8 (r : Int)] 5)):=(Below.refl _ _).alloc (Nat.le_refl _) _
    have HWl:=Lib.hid (And.intro hWl hWl.size)
    have HO1 : Hid ((Kd.int .u8).R 5 (w6.alloc (.cells #[.int .u8 (r : Int)] 5)) w6.heap.size (λ _=>True) (.slice (some ⟨w6.heap.size,0,none⟩) 1 1) [(r : Int)]):=Lib.hid (a2i .u8 5 w6 w6.heap.size (λ _=>True) trivial (Nat.le_refl _) [(r : Int)] (by simp))
    have HDl : Hid ((Kd.int .u8).C (w6.alloc (.cells #[.int .u8 (r : Int)] 5)) A4 32 D):=Lib.hid (Kd.C_alloc HD6.out (.cells #[.int .u8 (r : Int)] 5))
    have HL1 : Hid ((([(r : Int)] : List Int).length + 32) * 1 <= 140737488355328):=Lib.hid (by simp)
    have HZ33 : Hid (([(r : Int)] ++ D).length = 33):=Lib.hid (by rw [List.length_append,HD.out.2]; rfl)
    clear h2 hb6 hv6 hWl
    go_wp2_with (at_builtin; refine Kd.R_append_rows (Kd.int .u8) (Rr:=(Kd.int .u8).K (w6.alloc (.cells #[.int .u8 (r : Int)] 5))) (w0:=w6) (W:=w6.alloc (.cells #[.int .u8 (r : Int)] 5)) w6.heap.size rfl (.tmp 55) (.tmp 56) 22 5 (.int .u8 0) 1 rfl Tryz.underlying22 a0w rfl (by decide) (by decide) (.slice (some ⟨w6.heap.size,0,none⟩) 1 1) [(r : Int)] D A4 32 c4 (λ _=>True) (λ _=>False) rfl rfl HO1.out HDl.out (λ _ _ h=>h) (λ _ h=>h.elim) (λ _ _=>trivial) HWl.out.1 HWl.out.2 HL1.out ?_; intro v7 w7 hr7 hb7 hg7 hat7; obtain ⟨A7,c7,rfl⟩:=Kd.R_slice hr7; rw [HZ33.out] at hr7 ⊢; have HR7:=Lib.hid (And.intro hr7 hb7); clear hr7 hb7 hg7 hat7)
    obtain ⟨Z,hZ⟩ : ∃ Z,Z = [(r : Int)] ++ D:=⟨_,rfl⟩
    rw [<- hZ] at HR7 HB
    have HZ:=Lib.hid (show Z.length = 33 by rw [hZ]; exact HZ33.out)
    have HBy:=Lib.hid (b7n A5 c5 hd.length hd w7 (Kd.C_below HC6.out HR7.out.2) rfl HC5.out.2 (by have:=HHd.out.2; omega))
    rw [<- HX.out.1] at HBy
    clear hZ HZ33
    refine HBy.out.mono ?_
    rintro e w8 ⟨v8,rfl,hv8,hb8⟩
    obtain ⟨A8,c8,rfl⟩:=Kd.R_slice hv8
    have HO8:=Lib.hid (Kd.R_below HR7.out.1 hb8)
    have HX8:=Lib.hid (Kd.R_reads' hv8).2.2
    have hb78:=a0g HR7.out.2 hb8
    have HB8:=Lib.hid hb78
    have HS8:=Lib.hid hb78.size
    have HL8 : Hid ((Z.length + X.length) * 1 <= 140737488355328):=Lib.hid (by have:=HZ.out; have:=HX.out.2; omega)
    obtain ⟨ZX,hZX⟩ : ∃ l,l = Z ++ X:=⟨_,rfl⟩
    rw [<- hZX] at HB
    have HZX:=Lib.hid hZX
    have HL9 : Hid ((ZX.length + Pl.length) * 1 <= 140737488355328):=Lib.hid (by have:=HZ.out; have:=HX.out.2; have:=HPl.out.2; rw [hZX,List.length_append]; omega)
    clear hv8 hb8 hb78 hZX
    go_wp2_with (at_builtin; first
     | (refine Kd.R_append_rows (Kd.int .u8) (Rr:=(Kd.int .u8).K w8) (w0:=w6) (W:=w8) w6.heap.size rfl (.tmp 58) (.tmp 60) 22 5 (.int .u8 0) 1 rfl Tryz.underlying22 a0w rfl (by decide) (by decide) (.slice A7 33 c7) Z X A8 X.length c8 (λ _=>True) (λ _=>False) rfl rfl HO8.out HX8.out (λ _ _ h=>h) (λ _ h=>h.elim) (λ _ _=>trivial) HB8.out HS8.out HL8.out ?_
        intro v9 w9 hr9 hb9 hg9 hat9
        rw [<- HZX.out] at hr9
        obtain ⟨A9,c9,rfl⟩:=Kd.R_slice hr9
        have HR9:=Lib.hid hr9
        have HB9:=Lib.hid hb9
        have HP9:=Lib.hid (Kd.C_below HP6.out hb9)
        have HS9:=Lib.hid hb9.size
        clear hr9 hb9 hg9 hat9)
     | (refine Kd.R_append_rows (Kd.int .u8) (Rr:=(Kd.int .u8).K w9) (w0:=w6) (W:=w9) w6.heap.size rfl (.tmp 61) (.tmp 62) 22 5 (.int .u8 0) 1 rfl Tryz.underlying22 a0w rfl (by decide) (by decide) (.slice A9 ZX.length c9) ZX Pl A6 Pl.length c6 (λ _=>True) (λ _=>False) rfl rfl HR9.out HP9.out (λ _ _ h=>h) (λ _ h=>h.elim) (λ _ _=>trivial) HB9.out HS9.out HL9.out ?_
        intro v10 w10 hr10 hb10 hg10 hat10
        rw [<- HB.out] at hr10
        obtain ⟨A10,c10,rfl⟩:=Kd.R_slice hr10
        have HA10:=Lib.hid (And.intro (Kd.R_lower hr10 HB6.out.size) (a0g HB6.out hb10))
        clear hr10 hb10 hg10 hat10))
    go_ret2
    exact ⟨A10,c10,rfl,HA10.out.1,HA10.out.2⟩
theorem b7r (A : Option Addr) (cp : Nat) (b : List Int) (w : World) (hr : (Kd.int .u8).C w A b.length b) (hc : b.length <= cp) (hb : Bytes b) (hl : b.length <= 5000) (h0 : 0 < b.length) :
    Calls Tryz.prog 185 #[.slice A b.length cp] w (Told 0 (a1d b) w):=
 c8V A cp b w hr hc hb hl h0 (c3X A cp b w hr hc hb (by omega)) (λ w1 h=>b4D A cp b w1 (Kd.C_below hr h) hc hb (by omega))
end Go.Proofs.YtflfjpkmjnnodaaGreat
namespace Go.Proofs.YtflfjpkmjnnodaaGreat
open Go.RowKit Go.IntWalk Go.Proofs.YtflfjpkmjnnodaaGreatW.PrintWords
def RTold (k : Int) (y : List Int) (w : World) (e : Ending) (w' : World) : Prop:=
 ∃ A c,e = .returned (.tuple #[.slice A y.length c,.int .i64 k]) /\ ((Kd.int .u8).C w' A y.length y /\ y.length <= c) /\ Below w.heap.size w w'
theorem RTold.nil (k : Int) {w w' : World} (hb : Below w.heap.size w w') : RTold k [] w (.returned (.tuple #[.slice none 0 0,.int .i64 k])) w':=⟨none,0,rfl,⟨(Kd.R_reads' (Kd.R_nil (Kd.int .u8) 5 w' w'.heap.size (λ _=>True))).2.2,by simp⟩,hb⟩
theorem Told.rtold {k : Int} {y : List Int} {w : World} {e : Ending} {w' : World} (h : Told k y w e w') : RTold k y w e w':=by
 obtain ⟨A,c,he,hr,hb⟩:=h
 exact ⟨A,c,he,⟨(Kd.R_reads' hr).2.2,(Kd.R_reads' hr).2.1⟩,hb⟩
theorem c8X {b : List Int} (h1 : 1 < b.length) (h : ∀ j,j < b.length -> b.getD j 0 = b.getD 0 0) : a1q b = true:=by
 unfold a1q
 rw [decide_eq_true h1,Bool.true_and,List.all_eq_true]
 intro x hx
 obtain ⟨j,hj,e⟩:=a5K hx
 exact decide_eq_true (by rw [<- e]; exact h j hj)
theorem c8Y {b : List Int} {i : Nat} (hi : i < b.length) (h : b.getD i 0 ≠ b.getD 0 0) : a1q b = false:=by
 unfold a1q
 rw [Bool.and_eq_false_iff]
 refine .inr ?_
 rw [List.all_eq_false]
 refine ⟨b.getD i 0,?_,by simpa using h⟩
 rw [List.getD_eq_getElem?_getD,List.getElem?_eq_getElem hi]; exact List.getElem_mem hi
set_option maxRecDepth 100000 in
theorem c8Z (A : Option Addr) (c : Nat) (b : List Int) (w : World) (hr : (Kd.int .u8).C w A b.length b) (hc : b.length <= c) (hl : b.length <= 40000) :
    Calls Tryz.prog 183 #[.int .i64 0,.slice A b.length c] w (RTold 0 b w):=by
 have hI : decide ((131072 : Int) < (b.length : Int)) = false:=decide_eq_false (by omega)
 have HR:=Lib.hid (And.intro hr hc)
 clear hr hc hl
 go_enter Tryz.func183,Tryz.ntmps183
 go_wp2_with fail
 go_ret2
 exact ⟨A,c,rfl,HR.out,Below.refl _ _⟩
set_option maxRecDepth 100000 in
set_option maxHeartbeats 1000000 in
theorem c9a (A : Option Addr) (c : Nat) (b : List Int) (w : World) (hr : (Kd.int .u8).C w A b.length b) (hc : b.length <= c) (hl : b.length <= 40000) :
    Calls Tryz.prog 183 #[.int .i64 1,.slice A b.length c] w (RTold (a1i 1 b).1 (a1i 1 b).2 w):=by
 have hI : decide ((131072 : Int) < (b.length : Int)) = false:=decide_eq_false (by omega)
 have HR:=Lib.hid (And.intro hr (And.intro hc hl))
 by_cases h2 : b.length < 2
 · have hn : a1q b = false:=by unfold a1q; rw [decide_eq_false (by omega)]; rfl
   rw [a7R hn]
   have h2I : decide ((b.length : Int) < 2) = true:=decide_eq_true (by omega)
   clear hr hc hl
   go_enter Tryz.func183,Tryz.ntmps183
   go_wp2_with fail
   go_ret2
   exact RTold.nil 1 (Below.refl _ _)
 · have h2I : decide ((b.length : Int) < 2) = false:=decide_eq_false (by omega)
   obtain ⟨ad,hA,hc0⟩:=a0v hr 0 (by omega)
   subst hA
   have e0 : ad.add 0 = ad:=by simp [Addr.add]
   have hc00 : w.cell? ad = some (.int .u8 (b.getD 0 0)):=by rw [e0] at hc0; exact hc0
   have hl0 : (0 : Int) < (b.length : Int):=by omega
   have hcut : ∀ W : World,(Instr.slice 22 (.slice (some ad) b.length c) none (some (.int .i64 1)) none).run Tryz.prog W = .ok (.slice (some ad) 1 c) W:=by
    intro W
    obtain ⟨i0,hi0,_⟩:=Option.map_eq_some_iff.1 a0w
    have:=a6c (P:=Tryz.prog) 22 5 .i64 Tryz.underlying22 hi0 (some ad) b.length c 1 (by omega) (by omega) hc W
    simpa using this
   obtain ⟨x0,hx0⟩ : ∃ x,x = b.getD 0 0:=⟨_,rfl⟩
   rw [<- hx0] at hc00
   have HX0:=Lib.hid hx0
   have HC0:=Lib.hid hc00
   have HH2:=Lib.hid h2
   clear hr hc hl hc0 hc00 hx0 h2
   go_enter Tryz.func183,Tryz.ntmps183
   go_wp2_with fail
   go_loopw [6] (λ kv wr=>∃ (k : Nat),kv = .int .i64 k /\ k <= b.length /\ Hid ((∀ j,j < k -> b.getD j 0 = x0) /\ Below w.heap.size w wr)) (λ kv _=>b.length - (intOf kv).toNat)
   case atStart=>exact ⟨0,rfl,by omega,Lib.hid ⟨λ j hj=>absurd hj (by omega),Below.refl _ _⟩⟩
   case round=>
    obtain ⟨k,rfl,hk,H⟩:=hrel
    have hc00:=a0t H.out.2 HC0.out
    by_cases hlt : k < b.length
    · obtain ⟨ad1,e1,hck⟩:=a0v (Kd.C_below HR.out.1 H.out.2) k hlt
      injection e1 with e1
      subst e1
      have hkI : (k : Int) < (b.length : Int):=by omega
      have hk4 : k <= 40000:=by have:=HR.out.2.2; omega
      obtain ⟨q,hq⟩ : ∃ q,q = b.getD k 0:=⟨_,rfl⟩
      rw [<- hq] at hck
      have HQ:=Lib.hid hq
      clear hq
      have hck0 : k = 0 -> wr.cell? ad = some (.int .u8 q):=by intro e; subst e; rw [HQ.out,<- HX0.out]; exact hc00
      have HK0:=Lib.hid hck0
      clear hck0
      by_cases he : q = x0
      · subst he
        go_wp2_with fail
        go_quiet (fail)
        go_wp2_with fail
        go_roundw
        case rel=>
         exact ⟨k + 1,by go_num,by omega,Lib.hid ⟨λ j hj=>(by
          by_cases e : j = k
          · rw [e]; exact HQ.out.symm
          · exact H.out.1 j (by omega)),a0b H.out.2 _⟩⟩
        case measure=>simp [intOf]; omega
      · have hne : (q != x0) = true:=by simpa using he
        have hn : a1q b = false:=c8Y hlt (by rw [<- HQ.out,<- HX0.out]; exact he)
        have HPE:=Lib.hid (a7R hn)
        clear he hn
        go_wp2_with fail
        go_quiet (fail)
        go_wp2_with fail
        go_ret2
        rw [HPE.out]
        exact RTold.nil 1 (a0b H.out.2 _)
    · obtain rfl : k = b.length:=by omega
      have ha : a1q b = true:=c8X (by have:=HH2.out; omega) (λ j hj=>by rw [H.out.1 j hj,HX0.out])
      have HPE:=Lib.hid (show a1i 1 b = (0,[x0]) by rw [a7Q HR.out.2.2 ha,<- HX0.out])
      have h1:=Kd.C_take (k:=Kd.int .u8) (m:=1) (Kd.C_below HR.out.1 H.out.2) (by have:=HH2.out; omega)
      have ht : b.take 1 = [x0]:=by
       have:=HH2.out
       rw [HX0.out]
       cases b with
       | nil=>simp at this
       | cons z l=>rfl
      rw [ht] at h1
      have H1:=Lib.hid h1
      clear h1 ht ha
      go_wp2_with fail
      go_ret2
      rw [HPE.out]
      exact ⟨some ad,c,rfl,⟨H1.out,by have:=HR.out.2.1; have:=HH2.out; show 1 <= c; omega⟩,H.out.2⟩
def E20 (A : Option Addr) (c : Nat) (b : List Int) (w : World) : Prop:=Calls Tryz.prog 185 #[.slice A b.length c] w (Told (pickE 3 b).1 (pickE 3 b).2 w)
theorem c9b (A : Option Addr) (c : Nat) (b : List Int) (w : World) (hr : (Kd.int .u8).C w A b.length b) (hc : b.length <= c) (hb : Bytes b) (hl : b.length <= 5000) :
    Calls Tryz.prog 184 #[.slice A b.length c] w (Told (pickE 2 b).1 (pickE 2 b).2 w):=by
 rcases Nat.eq_zero_or_pos b.length with h0 | h0
 · rw [b0B (by decide) (by decide) h0,h0]
   exact c8O A c w
 · rw [b0C h0]
   exact c8P A c b w hr hc hb hl h0
set_option maxRecDepth 100000 in
set_option maxHeartbeats 1000000 in
theorem c9c (A : Option Addr) (c : Nat) (k : Int) (b : List Int) (w : World) (hr : (Kd.int .u8).C w A b.length b) (hc : b.length <= c) (hb : Bytes b) (hl : b.length <= 5000) (h20 : E20 A c b w) :
    Calls Tryz.prog 135 #[.int .i64 k,.slice A b.length c] w (RTold (pickE k b).1 (pickE k b).2 w):=by
 by_cases k0 : k = 0
 · subst k0
   have H:=Lib.hid (c8Z A c b w hr hc (by omega))
   have HP:=Lib.hid (show pickE 0 b = (0,b) by rw [a3o (by decide) (by decide),a5Q (by omega)])
   clear hr hc hb hl h20
   go_enter Tryz.func135,Tryz.ntmps135
   go_wp2_with fail
   refine H.out.mono ?_
   rintro e w1 ⟨A1,c1,rfl,h1,hb1⟩
   have H1:=Lib.hid (And.intro h1 hb1)
   clear h1 hb1
   go_wp2_with fail
   go_ret2
   rw [HP.out]
   exact ⟨A1,c1,rfl,H1.out.1,H1.out.2⟩
 · by_cases k1 : k = 1
   · subst k1
     have H:=Lib.hid (c9a A c b w hr hc (by omega))
     have HP:=Lib.hid (show pickE 1 b = a1i 1 b from a3o (by decide) (by decide))
     obtain ⟨⟨f,y⟩,hx⟩ : ∃ x,x = a1i 1 b:=⟨_,rfl⟩
     rw [<- hx] at H HP
     clear hr hc hb hl h20 k0 hx
     go_enter Tryz.func135,Tryz.ntmps135
     go_wp2_with fail
     refine H.out.mono ?_
     rintro e w1 ⟨A1,c1,rfl,h1,hb1⟩
     have H1:=Lib.hid (And.intro h1 hb1)
     clear h1 hb1
     dsimp only at H1 ⊢
     go_wp2_with fail
     go_ret2
     rw [HP.out]
     exact ⟨A1,c1,rfl,H1.out.1,H1.out.2⟩
   · by_cases k2 : k = 2
     · subst k2
       have H:=Lib.hid (c9b A c b w hr hc hb hl)
       obtain ⟨⟨f,y⟩,hx⟩ : ∃ x,x = pickE 2 b:=⟨_,rfl⟩
       have HP:=Lib.hid hx.symm
       rw [<- hx] at H
       clear hr hc hb hl h20 k0 k1 hx
       go_enter Tryz.func135,Tryz.ntmps135
       go_wp2_with fail
       refine H.out.mono ?_
       intro e w1 h
       obtain ⟨A1,c1,rfl,h1,hb1⟩:=h.rtold
       have H1:=Lib.hid (And.intro h1 hb1)
       clear h h1 hb1
       dsimp only at H1 ⊢
       go_wp2_with fail
       go_ret2
       rw [HP.out]
       exact ⟨A1,c1,rfl,H1.out.1,H1.out.2⟩
     · by_cases k3 : k = 3
       · subst k3
         have H:=Lib.hid h20
         obtain ⟨⟨f,y⟩,hx⟩ : ∃ x,x = pickE 3 b:=⟨_,rfl⟩
         have HP:=Lib.hid hx.symm
         unfold E20 at H
         rw [<- hx] at H
         clear hr hc hb hl h20 k0 k1 k2 hx
         go_enter Tryz.func135,Tryz.ntmps135
         go_wp2_with fail
         refine H.out.mono ?_
         intro e w1 h
         obtain ⟨A1,c1,rfl,h1,hb1⟩:=h.rtold
         have H1:=Lib.hid (And.intro h1 hb1)
         clear h h1 hb1
         dsimp only at H1 ⊢
         go_wp2_with fail
         go_ret2
         rw [HP.out]
         exact ⟨A1,c1,rfl,H1.out.1,H1.out.2⟩
       · have HP:=Lib.hid (b0A (b:=b) (show ¬ (0 <= k /\ k < 4) by omega))
         have d0 : (k == 0) = false:=by simpa using k0
         have d1 : (k == 1) = false:=by simpa using k1
         have d2 : (k == 2) = false:=by simpa using k2
         have d3 : (k == 3) = false:=by simpa using k3
         clear hr hc hb hl h20 k0 k1 k2 k3
         go_enter Tryz.func135,Tryz.ntmps135
         go_wp2_with fail
         go_ret2
         rw [HP.out]
         exact RTold.nil 10 (Below.refl _ _)
def a5T (b : List Int) (w : World) (e : Ending) (w' : World) : Prop:=
 ∃ A c,e = .returned (.tuple #[.int .i64 (bestP b).1,.slice A (bestP b).2.length c]) /\ ((Kd.int .u8).C w' A (bestP b).2.length (bestP b).2 /\ (bestP b).2.length <= c) /\ Below w.heap.size w w'
set_option maxRecDepth 100000 in
set_option maxHeartbeats 1000000 in
theorem b0M (A : Option Addr) (c : Nat) (b : List Int) (w : World) (hr : (Kd.int .u8).C w A b.length b) (hc : b.length <= c) (hb : Bytes b) (hl : b.length <= 5000) (h20 : ∀ w1,Below w.heap.size w w1 -> E20 A c b w1) :
    Calls Tryz.prog 87 #[.slice A b.length c] w (a5T b w):=by
 have HE:=Lib.hid (λ (k : Int) (W : World) (hB : Below w.heap.size w W)=>c9c A c k b W (Kd.C_below hr hB) hc hb hl (h20 W hB))
 have HP0:=Lib.hid (show pickE 0 b = (0,b) by rw [a3o (by decide) (by decide),a5Q (by omega)])
 clear hr hc hb hl h20
 go_enter Tryz.func87,Tryz.ntmps87
 go_wp2_with fail
 go_loopw [4,5,6] (λ nv bv kv wr=>∃ (k : Nat) (m : Int) (y : List Int) (B : Option Addr) (cb : Nat),nv = .int .i64 m /\ bv = .slice B y.length cb /\ kv = .int .i64 (k : Int) /\ k <= 4 /\ Hid ((k = 0 -> m = -1) /\ (∀ j,k = j + 1 -> bestN b j = (m,y)) /\ ((Kd.int .u8).C wr B y.length y /\ y.length <= cb) /\ Below w.heap.size w wr)) (λ _ _ kv _=>4 - (intOf kv).toNat)
 case atStart=>exact ⟨0,-1,[],none,0,rfl,rfl,rfl,by omega,Lib.hid ⟨λ _=>rfl,λ j hj=>by omega,⟨(Kd.R_reads' (Kd.R_nil (Kd.int .u8) 5 w w.heap.size (λ _=>True))).2.2,by simp⟩,Below.refl _ _⟩⟩
 case round=>
  obtain ⟨k,m,y,B,cb,rfl,rfl,rfl,hk,H⟩:=hrel
  by_cases hlt : k < 4
  · have hI : (k : Int) < 4:=by omega
    have HC:=Lib.hid (HE.out (k : Int) wr H.out.2.2.2)
    obtain ⟨x,hx⟩ : ∃ x,x = pickE (k : Int) b:=⟨_,rfl⟩
    have HX:=Lib.hid hx
    rw [<- hx] at HC
    obtain ⟨f,z⟩:=x
    clear hx
    go_wp2_with fail
    refine HC.out.mono ?_
    rintro e w2 ⟨A2,c2,rfl,hv2,hb2⟩
    dsimp only at hv2 ⊢
    have HB2:=Lib.hid (a0g H.out.2.2.2 hb2)
    have HR2:=Lib.hid hv2
    have HY2:=Lib.hid (And.intro (Kd.C_below H.out.2.2.1.1 hb2) H.out.2.2.1.2)
    clear hv2 hb2
    rcases Nat.eq_zero_or_pos k with hk0 | hk0
    · subst hk0
      have hm:=H.out.1 rfl
      subst hm
      have e1 : ((f,z) : Int × List Int) = (0,b):=by rw [HX.out]; exact HP0.out
      injection e1 with e1 e2
      subst e1
      have HN:=Lib.hid (show bestN b 0 = (0,z) by rw [e2]; rfl)
      clear e2
      go_wp2_with fail
      go_roundw
      case rel=>exact ⟨1,0,z,A2,c2,rfl,rfl,by go_num,by omega,Lib.hid ⟨λ h=>by omega,λ j hj=>(by have e : j = 0:=(by omega); rw [e]; exact HN.out),HR2.out,HB2.out⟩⟩
      case measure=>simp [intOf]
    · obtain ⟨j,hj⟩ : ∃ j,k = j + 1:=⟨k - 1,by omega⟩
      have hbn:=H.out.2.1 j hj
      have hkn:=(b7e b j).1
      rw [hbn] at hkn
      obtain ⟨n,hn⟩ : ∃ n : Nat,m = n:=⟨m.toNat,by have : 0 <= m:=hkn; omega⟩
      subst hn
      have dn : decide ((n : Int) < 0) = false:=decide_eq_false (by omega)
      have HBN:=Lib.hid hbn
      have HJ:=Lib.hid hj
      have HK:=Lib.hid (show bestN b k = a1a (k : Int) b (bestN b j) by rw [hj]; rfl)
      clear hbn hkn hj hk0
      by_cases h0 : f = 0
      · subst h0
        by_cases h1 : z.length < y.length
        · have hI1 : decide (z.length < y.length) = true:=decide_eq_true h1
          have HN:=Lib.hid (show bestN b k = ((k : Int),z) from by
           rw [HK.out,b0H (by rw [<- HX.out]) (by rw [<- HX.out,HBN.out]; exact h1),<- HX.out])
          clear h1
          go_wp2_with fail
          go_roundw
          case rel=>exact ⟨k + 1,k,z,A2,c2,rfl,rfl,by go_num,by omega,Lib.hid ⟨λ h=>by omega,λ j2 hj2=>(by have e : j2 = k:=(by omega); rw [e]; exact HN.out),HR2.out,HB2.out⟩⟩
          case measure=>simp [intOf]; omega
        · have hI1 : decide (z.length < y.length) = false:=decide_eq_false h1
          have HN:=Lib.hid (show bestN b k = ((n : Int),y) from by
           rw [HK.out,a5e (by rw [<- HX.out,HBN.out]; exact λ h=>h1 h.2),HBN.out])
          clear h1
          go_wp2_with fail
          go_roundw
          case rel=>exact ⟨k + 1,n,y,B,cb,rfl,rfl,by go_num,by omega,Lib.hid ⟨λ h=>by omega,λ j2 hj2=>(by have e : j2 = k:=(by omega); rw [e]; exact HN.out),HY2.out,HB2.out⟩⟩
          case measure=>simp [intOf]; omega
      · have hf : (f == 0) = false:=by simpa using h0
        have HN:=Lib.hid (show bestN b k = ((n : Int),y) from by
         rw [HK.out,a5e (by rw [<- HX.out]; exact λ h=>h0 h.1),HBN.out])
        clear h0
        go_wp2_with fail
        go_roundw
        case rel=>exact ⟨k + 1,n,y,B,cb,rfl,rfl,by go_num,by omega,Lib.hid ⟨λ h=>by omega,λ j2 hj2=>(by have e : j2 = k:=(by omega); rw [e]; exact HN.out),HY2.out,HB2.out⟩⟩
        case measure=>simp [intOf]; omega
  · obtain rfl : k = 4:=by omega
    have HN:=Lib.hid (show bestP b = (m,y) from by rw [<- b7c]; exact H.out.2.1 3 rfl)
    go_wp2_with fail
    go_ret2
    unfold a5T
    rw [HN.out]
    exact ⟨B,cb,rfl,H.out.2.2.1,H.out.2.2.2⟩
theorem c9d (A : Option Addr) (c : Nat) (b : List Int) (w : World) (hr : (Kd.int .u8).C w A b.length b) (hc : b.length <= c) (hb : Bytes b) (hl : b.length <= 5000) : E20 A c b w:=by
 unfold E20
 rcases Nat.eq_zero_or_pos b.length with h0 | h0
 · rw [b0B (by decide) (by decide) h0,h0]; exact b7q A c w
 · rw [b0D h0]; exact b7r A c b w hr hc hb hl h0
set_option maxRecDepth 100000 in
set_option maxHeartbeats 2000000 in
theorem c9e (A : Option Addr) (c : Nat) (b : List Int) (w : World) (hr : (Kd.int .u8).C w A b.length b) (hc : b.length <= c) (hb : Bytes b) (hl : b.length <= 5000) (h20 : ∀ w1,Below w.heap.size w w1 -> E20 A c b w1) (h0 : 0 < b.length) :
    Calls Tryz.prog 34 #[.slice A b.length c,.bool false] w (Told 0 (putM b false) w):=by
 have d1 : decide ((131072 : Int) < (b.length : Int)) = false:=decide_eq_false (by omega)
 have hn0 : ((b.length : Int) == 0) = false:=by simp; intro e; subst e; simp at h0
 have HBest:=Lib.hid (b0M A c b w hr hc hb hl h20)
 have HBy:=Lib.hid (a3L hb)
 have hbl:=a3M b
 obtain ⟨k,kk,sm,hk,hk3,hkk,hsm4,hF⟩:=putF (show b.length <= 40000 by omega) false
 have HF:=Lib.hid hF
 obtain ⟨x,hx⟩ : ∃ x,x = (bestP b).2:=⟨_,rfl⟩
 unfold a5T at HBest
 rw [hk,<- hx] at HBest
 rw [<- hx] at HBy hbl HF
 have hxl : x.length <= 5000:=by omega
 have hw4 : IntKind.i64.wrap (sm : Int) = (sm : Int):=i64_in _ (by omega)
 have hkk7:=hF.kk7
 have hw3 : IntKind.u8.wrap (kk : Int) = (kk : Int):=by rw [IntKind.wrap_u8']; omega
 have HLit1:=Lib.hid (λ W : World=>a3n b.length 3 W (by omega) (by decide))
 have HLit2:=Lib.hid (λ W : World=>a3n x.length 3 W (by omega) (by decide))
 have HLit3:=Lib.hid (λ W : World=>a3n sm 4 W hsm4 (by decide))
 obtain ⟨e1,he1⟩ : ∃ l,l = leN b.length 3:=⟨_,rfl⟩
 obtain ⟨e2,he2⟩ : ∃ l,l = leN x.length 3:=⟨_,rfl⟩
 obtain ⟨e3,he3⟩ : ∃ l,l = leN sm 4:=⟨_,rfl⟩
 rw [<- he1] at HF HLit1
 rw [<- he2] at HF HLit2
 rw [<- he3] at HF HLit3
 have hk2 : kk = k:=by rw [hkk]; rfl
 subst hk2
 obtain ⟨B,hB⟩ : ∃ l,l = putM b false:=⟨_,rfl⟩
 rw [<- hB] at HF ⊢
 have HXl:=Lib.hid hxl
 clear hr hc h20 hb hk hk3 hkk hx he1 he2 he3 hl hbl hkk7 hsm4 hF hB
 go_enter Tryz.func34,Tryz.ntmps34
 go_wp2_with fail
 refine HBest.out.mono ?_
 rintro e w1 ⟨Ax,cx,rfl,⟨hvx,hcx⟩,hb1⟩
 have HX1:=Lib.hid hvx
 have HB1:=Lib.hid hb1
 have hbl2 : Below w1.heap.size w1 (w1.alloc (.cells #[.int .u8 (kk : Int)] 5)):=(Below.refl _ _).alloc (Nat.le_refl _) _
 have HO1 : Hid ((Kd.int .u8).R 5 (w1.alloc (.cells #[.int .u8 (kk : Int)] 5)) w1.heap.size (λ _=>True) (.slice (some ⟨w1.heap.size,0,none⟩) 1 1) [(kk : Int)]):=Lib.hid (a2i .u8 5 w1 w1.heap.size (λ _=>True) trivial (Nat.le_refl _) [(kk : Int)] (by simp))
 have HBl2:=Lib.hid hbl2
 clear hvx hcx hb1 hbl2
 go_wp2_with fail
 refine (HLit1.out _).mono ?_
 rintro e w2 ⟨v2,rfl,hv2,hb2⟩
 obtain ⟨A2,c2,rfl⟩:=Kd.R_slice hv2
 have HO2:=Lib.hid (Kd.R_below HO1.out hb2)
 have HD2 : Hid ((Kd.int .u8).C w2 A2 3 e1):=Lib.hid (by have:=(Kd.R_reads' hv2).2.2; rw [HF.out.e1l] at this; exact this)
 have HB2:=Lib.hid (a0g HBl2.out hb2)
 have HS2:=Lib.hid (a0g HBl2.out hb2).size
 have HN2 : Hid (([(kk : Int)].length + 3) * 1 <= 140737488355328):=Lib.hid (by simp)
 have HZ2 : Hid (([(kk : Int)] ++ e1).length = 4):=Lib.hid (by rw [List.length_append,HF.out.e1l]; rfl)
 rw [HF.out.e1l]
 clear hv2 hb2
 go_wp2_with (at_builtin; refine Kd.R_append_rows (Kd.int .u8) (Rr:=(Kd.int .u8).K w2) (w0:=w1) (W:=w2) w1.heap.size rfl (.tmp 31) (.tmp 34) 22 5 (.int .u8 0) 1 rfl Tryz.underlying22 a0w rfl (by decide) (by decide) (.slice (some ⟨w1.heap.size,0,none⟩) 1 1) ([(kk : Int)]) (e1) A2 3 c2 (λ _=>True) (λ _=>False) rfl rfl HO2.out HD2.out (λ _ _ h=>h) (λ _ h=>h.elim) (λ _ _=>trivial) HB2.out HS2.out HN2.out ?_; intro v3 w3 hr3 hb3 hg3 hat3; obtain ⟨A3,c3,rfl⟩:=Kd.R_slice hr3; rw [HZ2.out] at hr3 ⊢; have HR3:=Lib.hid (And.intro hr3 hb3); clear hr3 hb3 hg3 hat3)
 obtain ⟨L1,hL1⟩ : ∃ l,l = [(kk : Int)] ++ e1:=⟨_,rfl⟩
 rw [<- hL1] at HR3 HZ2
 have HL1:=Lib.hid hL1
 clear hL1
 refine (HLit2.out _).mono ?_
 rintro e w4 ⟨v4,rfl,hv4,hb4⟩
 obtain ⟨A4,c4,rfl⟩:=Kd.R_slice hv4
 have HO4:=Lib.hid (Kd.R_below HR3.out.1 hb4)
 have HD4 : Hid ((Kd.int .u8).C w4 A4 3 e2):=Lib.hid (by have:=(Kd.R_reads' hv4).2.2; rw [HF.out.e2l] at this; exact this)
 have HB4:=Lib.hid (HR3.out.2.trans (hb4.mono HR3.out.2.size))
 have HS4:=Lib.hid HB4.out.size
 have HN4 : Hid ((L1.length + 3) * 1 <= 140737488355328):=Lib.hid (by rw [HZ2.out]; decide)
 have HZ4 : Hid ((L1 ++ e2).length = 7):=Lib.hid (by rw [List.length_append,HZ2.out,HF.out.e2l])
 rw [HF.out.e2l]
 clear hv4 hb4
 go_wp2_with (at_builtin; refine Kd.R_append_rows (Kd.int .u8) (Rr:=(Kd.int .u8).K w4) (w0:=w1) (W:=w4) w1.heap.size rfl (.tmp 36) (.tmp 39) 22 5 (.int .u8 0) 1 rfl Tryz.underlying22 a0w rfl (by decide) (by decide) (.slice A3 4 c3) (L1) (e2) A4 3 c4 (λ _=>True) (λ _=>False) rfl rfl HO4.out HD4.out (λ _ _ h=>h) (λ _ h=>h.elim) (λ _ _=>trivial) HB4.out HS4.out HN4.out ?_; intro v5 w5 hr5 hb5 hg5 hat5; obtain ⟨A5,c5,rfl⟩:=Kd.R_slice hr5; rw [HZ4.out] at hr5 ⊢; have HR5:=Lib.hid (And.intro hr5 hb5); clear hr5 hb5 hg5 hat5)
 obtain ⟨L2,hL2⟩ : ∃ l,l = L1 ++ e2:=⟨_,rfl⟩
 rw [<- hL2] at HR5 HZ4
 have HL2:=Lib.hid hL2
 clear hL2
 have HX6:=Lib.hid (Kd.C_below HX1.out HR5.out.2)
 have HCr:=Lib.hid (a9V Ax cx x w5 HX6.out (by have:=HXl.out; omega) HBy.out)
 rw [<- HF.out.sm'] at HCr
 refine HCr.out.mono ?_
 rintro e w6' ⟨rfl,rfl⟩
 go_wp2_with fail
 refine (HLit3.out _).mono ?_
 rintro e w7 ⟨v7,rfl,hv7,hb7⟩
 obtain ⟨A7,c7,rfl⟩:=Kd.R_slice hv7
 have HO7:=Lib.hid (Kd.R_below HR5.out.1 hb7)
 have HD7 : Hid ((Kd.int .u8).C w7 A7 4 e3):=Lib.hid (by have:=(Kd.R_reads' hv7).2.2; rw [HF.out.e3l] at this; exact this)
 have HB7:=Lib.hid (HR5.out.2.trans (hb7.mono HR5.out.2.size))
 have HS7:=Lib.hid HB7.out.size
 have HN7 : Hid ((L2.length + 4) * 1 <= 140737488355328):=Lib.hid (by rw [HZ4.out]; decide)
 have HZ7 : Hid ((L2 ++ e3).length = 11):=Lib.hid (by rw [List.length_append,HZ4.out,HF.out.e3l])
 have HALL : Hid (L2 ++ e3 ++ x = B):=Lib.hid (by rw [HL2.out,HL1.out]; exact HF.out.all.symm)
 rw [HF.out.e3l]
 clear hv7 hb7
 go_wp2_with (at_builtin; first
  | (refine Kd.R_append_rows (Kd.int .u8) (Rr:=(Kd.int .u8).K w7) (w0:=w1) (W:=w7) w1.heap.size rfl (.tmp 41) (.tmp 45) 22 5 (.int .u8 0) 1 rfl Tryz.underlying22 a0w rfl (by decide) (by decide) (.slice A5 7 c5) (L2) (e3) A7 4 c7 (λ _=>True) (λ _=>False) rfl rfl HO7.out HD7.out (λ _ _ h=>h) (λ _ h=>h.elim) (λ _ _=>trivial) HB7.out HS7.out HN7.out ?_; intro v8 w8 hr8 hb8 hg8 hat8; obtain ⟨A8,c8,rfl⟩:=Kd.R_slice hr8; rw [HZ7.out] at hr8 ⊢; have HR8:=Lib.hid (And.intro hr8 hb8); clear hr8 hb8 hg8 hat8; have HS8:=Lib.hid HR8.out.2.size; have HX8:=Lib.hid (Kd.C_below HX1.out HR8.out.2); have HN8 : Hid (((L2 ++ e3).length + x.length) * 1 <= 140737488355328):=Lib.hid (by rw [HZ7.out]; have:=HXl.out; omega))
  | (refine Kd.R_append_rows (Kd.int .u8) (Rr:=(Kd.int .u8).K w8) (w0:=w1) (W:=w8) w1.heap.size rfl (.tmp 47) (.tmp 48) 22 5 (.int .u8 0) 1 rfl Tryz.underlying22 a0w rfl (by decide) (by decide) (.slice A8 11 c8) (L2 ++ e3) x Ax x.length cx (λ _=>True) (λ _=>False) rfl rfl HR8.out.1 HX8.out (λ _ _ h=>h) (λ _ h=>h.elim) (λ _ _=>trivial) HR8.out.2 HS8.out HN8.out ?_; intro v9 w9 hr9 hb9 hg9 hat9; rw [HALL.out] at hr9; obtain ⟨A9,c9,rfl⟩:=Kd.R_slice hr9; have HR9:=Lib.hid (And.intro hr9 hb9); clear hr9 hb9 hg9 hat9))
 go_ret2
 exact ⟨A9,c9,rfl,Kd.R_lower HR9.out.1 HB1.out.size,a0g HB1.out HR9.out.2⟩
set_option maxRecDepth 100000 in
set_option maxHeartbeats 2000000 in
theorem c9f (A : Option Addr) (c : Nat) (b : List Int) (w : World) (hr : (Kd.int .u8).C w A b.length b) (hc : b.length <= c) (hb : Bytes b) (hl : b.length <= 5000) (h20 : ∀ w1,Below w.heap.size w w1 -> E20 A c b w1) (h0 : 0 < b.length) :
    Calls Tryz.prog 34 #[.slice A b.length c,.bool true] w (Told 0 (putM b true) w):=by
 have d1 : decide ((131072 : Int) < (b.length : Int)) = false:=decide_eq_false (by omega)
 have hn0 : ((b.length : Int) == 0) = false:=by simp; intro e; subst e; simp at h0
 have HBest:=Lib.hid (b0M A c b w hr hc hb hl h20)
 have HBy:=Lib.hid (a3L hb)
 have hbl:=a3M b
 obtain ⟨k,kk,sm,hk,hk3,hkk,hsm4,hF⟩:=putF (show b.length <= 40000 by omega) true
 have HF:=Lib.hid hF
 obtain ⟨x,hx⟩ : ∃ x,x = (bestP b).2:=⟨_,rfl⟩
 unfold a5T at HBest
 rw [hk,<- hx] at HBest
 rw [<- hx] at HBy hbl HF
 have hxl : x.length <= 5000:=by omega
 have hw4 : IntKind.i64.wrap (sm : Int) = (sm : Int):=i64_in _ (by omega)
 have hkk7:=hF.kk7
 have hw3 : IntKind.u8.wrap (kk : Int) = (kk : Int):=by rw [IntKind.wrap_u8']; omega
 have HLit1:=Lib.hid (λ W : World=>a3n b.length 3 W (by omega) (by decide))
 have HLit2:=Lib.hid (λ W : World=>a3n x.length 3 W (by omega) (by decide))
 have HLit3:=Lib.hid (λ W : World=>a3n sm 4 W hsm4 (by decide))
 obtain ⟨e1,he1⟩ : ∃ l,l = leN b.length 3:=⟨_,rfl⟩
 obtain ⟨e2,he2⟩ : ∃ l,l = leN x.length 3:=⟨_,rfl⟩
 obtain ⟨e3,he3⟩ : ∃ l,l = leN sm 4:=⟨_,rfl⟩
 rw [<- he1] at HF HLit1
 rw [<- he2] at HF HLit2
 rw [<- he3] at HF HLit3
 have hor : (k : Int) + 4 = (kk : Int):=by rw [hkk]; rfl
 have hw5 : IntKind.i64.wrap (kk : Int) = (kk : Int):=i64_in _ (by omega)
 obtain ⟨B,hB⟩ : ∃ l,l = putM b true:=⟨_,rfl⟩
 rw [<- hB] at HF ⊢
 have HXl:=Lib.hid hxl
 clear hr hc h20 hb hk hk3 hkk hx he1 he2 he3 hl hbl hkk7 hsm4 hF hB
 go_enter Tryz.func34,Tryz.ntmps34
 go_wp2_with fail
 refine HBest.out.mono ?_
 rintro e w1 ⟨Ax,cx,rfl,⟨hvx,hcx⟩,hb1⟩
 have HX1:=Lib.hid hvx
 have HB1:=Lib.hid hb1
 have hbl2 : Below w1.heap.size w1 (w1.alloc (.cells #[.int .u8 (kk : Int)] 5)):=(Below.refl _ _).alloc (Nat.le_refl _) _
 have HO1 : Hid ((Kd.int .u8).R 5 (w1.alloc (.cells #[.int .u8 (kk : Int)] 5)) w1.heap.size (λ _=>True) (.slice (some ⟨w1.heap.size,0,none⟩) 1 1) [(kk : Int)]):=Lib.hid (a2i .u8 5 w1 w1.heap.size (λ _=>True) trivial (Nat.le_refl _) [(kk : Int)] (by simp))
 have HBl2:=Lib.hid hbl2
 clear hvx hcx hb1 hbl2
 go_wp2_with fail
 refine (HLit1.out _).mono ?_
 rintro e w2 ⟨v2,rfl,hv2,hb2⟩
 obtain ⟨A2,c2,rfl⟩:=Kd.R_slice hv2
 have HO2:=Lib.hid (Kd.R_below HO1.out hb2)
 have HD2 : Hid ((Kd.int .u8).C w2 A2 3 e1):=Lib.hid (by have:=(Kd.R_reads' hv2).2.2; rw [HF.out.e1l] at this; exact this)
 have HB2:=Lib.hid (a0g HBl2.out hb2)
 have HS2:=Lib.hid (a0g HBl2.out hb2).size
 have HN2 : Hid (([(kk : Int)].length + 3) * 1 <= 140737488355328):=Lib.hid (by simp)
 have HZ2 : Hid (([(kk : Int)] ++ e1).length = 4):=Lib.hid (by rw [List.length_append,HF.out.e1l]; rfl)
 rw [HF.out.e1l]
 clear hv2 hb2
 go_wp2_with (at_builtin; refine Kd.R_append_rows (Kd.int .u8) (Rr:=(Kd.int .u8).K w2) (w0:=w1) (W:=w2) w1.heap.size rfl (.tmp 31) (.tmp 34) 22 5 (.int .u8 0) 1 rfl Tryz.underlying22 a0w rfl (by decide) (by decide) (.slice (some ⟨w1.heap.size,0,none⟩) 1 1) ([(kk : Int)]) (e1) A2 3 c2 (λ _=>True) (λ _=>False) rfl rfl HO2.out HD2.out (λ _ _ h=>h) (λ _ h=>h.elim) (λ _ _=>trivial) HB2.out HS2.out HN2.out ?_; intro v3 w3 hr3 hb3 hg3 hat3; obtain ⟨A3,c3,rfl⟩:=Kd.R_slice hr3; rw [HZ2.out] at hr3 ⊢; have HR3:=Lib.hid (And.intro hr3 hb3); clear hr3 hb3 hg3 hat3)
 obtain ⟨L1,hL1⟩ : ∃ l,l = [(kk : Int)] ++ e1:=⟨_,rfl⟩
 rw [<- hL1] at HR3 HZ2
 have HL1:=Lib.hid hL1
 clear hL1
 refine (HLit2.out _).mono ?_
 rintro e w4 ⟨v4,rfl,hv4,hb4⟩
 obtain ⟨A4,c4,rfl⟩:=Kd.R_slice hv4
 have HO4:=Lib.hid (Kd.R_below HR3.out.1 hb4)
 have HD4 : Hid ((Kd.int .u8).C w4 A4 3 e2):=Lib.hid (by have:=(Kd.R_reads' hv4).2.2; rw [HF.out.e2l] at this; exact this)
 have HB4:=Lib.hid (HR3.out.2.trans (hb4.mono HR3.out.2.size))
 have HS4:=Lib.hid HB4.out.size
 have HN4 : Hid ((L1.length + 3) * 1 <= 140737488355328):=Lib.hid (by rw [HZ2.out]; decide)
 have HZ4 : Hid ((L1 ++ e2).length = 7):=Lib.hid (by rw [List.length_append,HZ2.out,HF.out.e2l])
 rw [HF.out.e2l]
 clear hv4 hb4
 go_wp2_with (at_builtin; refine Kd.R_append_rows (Kd.int .u8) (Rr:=(Kd.int .u8).K w4) (w0:=w1) (W:=w4) w1.heap.size rfl (.tmp 36) (.tmp 39) 22 5 (.int .u8 0) 1 rfl Tryz.underlying22 a0w rfl (by decide) (by decide) (.slice A3 4 c3) (L1) (e2) A4 3 c4 (λ _=>True) (λ _=>False) rfl rfl HO4.out HD4.out (λ _ _ h=>h) (λ _ h=>h.elim) (λ _ _=>trivial) HB4.out HS4.out HN4.out ?_; intro v5 w5 hr5 hb5 hg5 hat5; obtain ⟨A5,c5,rfl⟩:=Kd.R_slice hr5; rw [HZ4.out] at hr5 ⊢; have HR5:=Lib.hid (And.intro hr5 hb5); clear hr5 hb5 hg5 hat5)
 obtain ⟨L2,hL2⟩ : ∃ l,l = L1 ++ e2:=⟨_,rfl⟩
 rw [<- hL2] at HR5 HZ4
 have HL2:=Lib.hid hL2
 clear hL2
 have HX6:=Lib.hid (Kd.C_below HX1.out HR5.out.2)
 have HCr:=Lib.hid (a9V Ax cx x w5 HX6.out (by have:=HXl.out; omega) HBy.out)
 rw [<- HF.out.sm'] at HCr
 refine HCr.out.mono ?_
 rintro e w6' ⟨rfl,rfl⟩
 go_wp2_with fail
 refine (HLit3.out _).mono ?_
 rintro e w7 ⟨v7,rfl,hv7,hb7⟩
 obtain ⟨A7,c7,rfl⟩:=Kd.R_slice hv7
 have HO7:=Lib.hid (Kd.R_below HR5.out.1 hb7)
 have HD7 : Hid ((Kd.int .u8).C w7 A7 4 e3):=Lib.hid (by have:=(Kd.R_reads' hv7).2.2; rw [HF.out.e3l] at this; exact this)
 have HB7:=Lib.hid (HR5.out.2.trans (hb7.mono HR5.out.2.size))
 have HS7:=Lib.hid HB7.out.size
 have HN7 : Hid ((L2.length + 4) * 1 <= 140737488355328):=Lib.hid (by rw [HZ4.out]; decide)
 have HZ7 : Hid ((L2 ++ e3).length = 11):=Lib.hid (by rw [List.length_append,HZ4.out,HF.out.e3l])
 have HALL : Hid (L2 ++ e3 ++ x = B):=Lib.hid (by rw [HL2.out,HL1.out]; exact HF.out.all.symm)
 rw [HF.out.e3l]
 clear hv7 hb7
 go_wp2_with (at_builtin; first
  | (refine Kd.R_append_rows (Kd.int .u8) (Rr:=(Kd.int .u8).K w7) (w0:=w1) (W:=w7) w1.heap.size rfl (.tmp 41) (.tmp 45) 22 5 (.int .u8 0) 1 rfl Tryz.underlying22 a0w rfl (by decide) (by decide) (.slice A5 7 c5) (L2) (e3) A7 4 c7 (λ _=>True) (λ _=>False) rfl rfl HO7.out HD7.out (λ _ _ h=>h) (λ _ h=>h.elim) (λ _ _=>trivial) HB7.out HS7.out HN7.out ?_; intro v8 w8 hr8 hb8 hg8 hat8; obtain ⟨A8,c8,rfl⟩:=Kd.R_slice hr8; rw [HZ7.out] at hr8 ⊢; have HR8:=Lib.hid (And.intro hr8 hb8); clear hr8 hb8 hg8 hat8; have HS8:=Lib.hid HR8.out.2.size; have HX8:=Lib.hid (Kd.C_below HX1.out HR8.out.2); have HN8 : Hid (((L2 ++ e3).length + x.length) * 1 <= 140737488355328):=Lib.hid (by rw [HZ7.out]; have:=HXl.out; omega))
  | (refine Kd.R_append_rows (Kd.int .u8) (Rr:=(Kd.int .u8).K w8) (w0:=w1) (W:=w8) w1.heap.size rfl (.tmp 47) (.tmp 48) 22 5 (.int .u8 0) 1 rfl Tryz.underlying22 a0w rfl (by decide) (by decide) (.slice A8 11 c8) (L2 ++ e3) x Ax x.length cx (λ _=>True) (λ _=>False) rfl rfl HR8.out.1 HX8.out (λ _ _ h=>h) (λ _ h=>h.elim) (λ _ _=>trivial) HR8.out.2 HS8.out HN8.out ?_; intro v9 w9 hr9 hb9 hg9 hat9; rw [HALL.out] at hr9; obtain ⟨A9,c9,rfl⟩:=Kd.R_slice hr9; have HR9:=Lib.hid (And.intro hr9 hb9); clear hr9 hb9 hg9 hat9))
 go_ret2
 exact ⟨A9,c9,rfl,Kd.R_lower HR9.out.1 HB1.out.size,a0g HB1.out HR9.out.2⟩
set_option maxRecDepth 100000 in
set_option maxHeartbeats 2000000 in
theorem c9g (A : Option Addr) (c : Nat) (b : List Int) (w : World) (hr : (Kd.int .u8).C w A b.length b) (hc : b.length <= c) (hb : Bytes b) (hl : b.length <= 5000) (h20 : ∀ w1,Below w.heap.size w w1 -> E20 A c b w1) (h0 : b = []) :
    Calls Tryz.prog 34 #[.slice A 0 c,.bool true] w (Told 0 (putM b true) w):=by
 have hb0 : b.length = 0:=by rw [h0]; rfl
 have HBest:=Lib.hid (b0M A c b w hr hc hb hl h20)
 have HBy:=Lib.hid (a3L hb)
 have hbl:=a3M b
 obtain ⟨k,kk,sm,hk,hk3,hkk,hsm4,hF⟩:=putF (show b.length <= 40000 by omega) true
 have HF:=Lib.hid hF
 obtain ⟨x,hx⟩ : ∃ x,x = (bestP b).2:=⟨_,rfl⟩
 unfold a5T at HBest
 rw [hb0] at HBest
 rw [hk,<- hx] at HBest
 rw [<- hx] at HBy hbl HF
 have hxl : x.length <= 5000:=by omega
 have hw4 : IntKind.i64.wrap (sm : Int) = (sm : Int):=i64_in _ (by omega)
 have hkk7:=hF.kk7
 have hw3 : IntKind.u8.wrap (kk : Int) = (kk : Int):=by rw [IntKind.wrap_u8']; omega
 have HLit1:=Lib.hid (λ W : World=>a3n b.length 3 W (by omega) (by decide))
 rw [hb0] at HLit1 HF
 have HLit2:=Lib.hid (λ W : World=>a3n x.length 3 W (by omega) (by decide))
 have HLit3:=Lib.hid (λ W : World=>a3n sm 4 W hsm4 (by decide))
 obtain ⟨e1,he1⟩ : ∃ l,l = leN 0 3:=⟨_,rfl⟩
 obtain ⟨e2,he2⟩ : ∃ l,l = leN x.length 3:=⟨_,rfl⟩
 obtain ⟨e3,he3⟩ : ∃ l,l = leN sm 4:=⟨_,rfl⟩
 rw [<- he1] at HF HLit1
 rw [<- he2] at HF HLit2
 rw [<- he3] at HF HLit3
 have hor : (k : Int) + 4 = (kk : Int):=by rw [hkk]; rfl
 have hw5 : IntKind.i64.wrap (kk : Int) = (kk : Int):=i64_in _ (by omega)
 obtain ⟨B,hB⟩ : ∃ l,l = putM b true:=⟨_,rfl⟩
 rw [<- hB] at HF ⊢
 have HXl:=Lib.hid hxl
 clear hr hc h20 hb hk hk3 hkk hx he1 he2 he3 hl hbl hkk7 hsm4 hF hB
 go_enter Tryz.func34,Tryz.ntmps34
 go_wp2_with fail
 refine HBest.out.mono ?_
 rintro e w1 ⟨Ax,cx,rfl,⟨hvx,hcx⟩,hb1⟩
 have HX1:=Lib.hid hvx
 have HB1:=Lib.hid hb1
 have hbl2 : Below w1.heap.size w1 (w1.alloc (.cells #[.int .u8 (kk : Int)] 5)):=(Below.refl _ _).alloc (Nat.le_refl _) _
 have HO1 : Hid ((Kd.int .u8).R 5 (w1.alloc (.cells #[.int .u8 (kk : Int)] 5)) w1.heap.size (λ _=>True) (.slice (some ⟨w1.heap.size,0,none⟩) 1 1) [(kk : Int)]):=Lib.hid (a2i .u8 5 w1 w1.heap.size (λ _=>True) trivial (Nat.le_refl _) [(kk : Int)] (by simp))
 have HBl2:=Lib.hid hbl2
 clear hvx hcx hb1 hbl2
 go_wp2_with fail
 refine (HLit1.out _).mono ?_
 rintro e w2 ⟨v2,rfl,hv2,hb2⟩
 obtain ⟨A2,c2,rfl⟩:=Kd.R_slice hv2
 have HO2:=Lib.hid (Kd.R_below HO1.out hb2)
 have HD2 : Hid ((Kd.int .u8).C w2 A2 3 e1):=Lib.hid (by have:=(Kd.R_reads' hv2).2.2; rw [HF.out.e1l] at this; exact this)
 have HB2:=Lib.hid (a0g HBl2.out hb2)
 have HS2:=Lib.hid (a0g HBl2.out hb2).size
 have HN2 : Hid (([(kk : Int)].length + 3) * 1 <= 140737488355328):=Lib.hid (by simp)
 have HZ2 : Hid (([(kk : Int)] ++ e1).length = 4):=Lib.hid (by rw [List.length_append,HF.out.e1l]; rfl)
 rw [HF.out.e1l]
 clear hv2 hb2
 go_wp2_with (at_builtin; refine Kd.R_append_rows (Kd.int .u8) (Rr:=(Kd.int .u8).K w2) (w0:=w1) (W:=w2) w1.heap.size rfl (.tmp 31) (.tmp 34) 22 5 (.int .u8 0) 1 rfl Tryz.underlying22 a0w rfl (by decide) (by decide) (.slice (some ⟨w1.heap.size,0,none⟩) 1 1) ([(kk : Int)]) (e1) A2 3 c2 (λ _=>True) (λ _=>False) rfl rfl HO2.out HD2.out (λ _ _ h=>h) (λ _ h=>h.elim) (λ _ _=>trivial) HB2.out HS2.out HN2.out ?_; intro v3 w3 hr3 hb3 hg3 hat3; obtain ⟨A3,c3,rfl⟩:=Kd.R_slice hr3; rw [HZ2.out] at hr3 ⊢; have HR3:=Lib.hid (And.intro hr3 hb3); clear hr3 hb3 hg3 hat3)
 obtain ⟨L1,hL1⟩ : ∃ l,l = [(kk : Int)] ++ e1:=⟨_,rfl⟩
 rw [<- hL1] at HR3 HZ2
 have HL1:=Lib.hid hL1
 clear hL1
 refine (HLit2.out _).mono ?_
 rintro e w4 ⟨v4,rfl,hv4,hb4⟩
 obtain ⟨A4,c4,rfl⟩:=Kd.R_slice hv4
 have HO4:=Lib.hid (Kd.R_below HR3.out.1 hb4)
 have HD4 : Hid ((Kd.int .u8).C w4 A4 3 e2):=Lib.hid (by have:=(Kd.R_reads' hv4).2.2; rw [HF.out.e2l] at this; exact this)
 have HB4:=Lib.hid (HR3.out.2.trans (hb4.mono HR3.out.2.size))
 have HS4:=Lib.hid HB4.out.size
 have HN4 : Hid ((L1.length + 3) * 1 <= 140737488355328):=Lib.hid (by rw [HZ2.out]; decide)
 have HZ4 : Hid ((L1 ++ e2).length = 7):=Lib.hid (by rw [List.length_append,HZ2.out,HF.out.e2l])
 rw [HF.out.e2l]
 clear hv4 hb4
 go_wp2_with (at_builtin; refine Kd.R_append_rows (Kd.int .u8) (Rr:=(Kd.int .u8).K w4) (w0:=w1) (W:=w4) w1.heap.size rfl (.tmp 36) (.tmp 39) 22 5 (.int .u8 0) 1 rfl Tryz.underlying22 a0w rfl (by decide) (by decide) (.slice A3 4 c3) (L1) (e2) A4 3 c4 (λ _=>True) (λ _=>False) rfl rfl HO4.out HD4.out (λ _ _ h=>h) (λ _ h=>h.elim) (λ _ _=>trivial) HB4.out HS4.out HN4.out ?_; intro v5 w5 hr5 hb5 hg5 hat5; obtain ⟨A5,c5,rfl⟩:=Kd.R_slice hr5; rw [HZ4.out] at hr5 ⊢; have HR5:=Lib.hid (And.intro hr5 hb5); clear hr5 hb5 hg5 hat5)
 obtain ⟨L2,hL2⟩ : ∃ l,l = L1 ++ e2:=⟨_,rfl⟩
 rw [<- hL2] at HR5 HZ4
 have HL2:=Lib.hid hL2
 clear hL2
 have HX6:=Lib.hid (Kd.C_below HX1.out HR5.out.2)
 have HCr:=Lib.hid (a9V Ax cx x w5 HX6.out (by have:=HXl.out; omega) HBy.out)
 rw [<- HF.out.sm'] at HCr
 refine HCr.out.mono ?_
 rintro e w6' ⟨rfl,rfl⟩
 go_wp2_with fail
 refine (HLit3.out _).mono ?_
 rintro e w7 ⟨v7,rfl,hv7,hb7⟩
 obtain ⟨A7,c7,rfl⟩:=Kd.R_slice hv7
 have HO7:=Lib.hid (Kd.R_below HR5.out.1 hb7)
 have HD7 : Hid ((Kd.int .u8).C w7 A7 4 e3):=Lib.hid (by have:=(Kd.R_reads' hv7).2.2; rw [HF.out.e3l] at this; exact this)
 have HB7:=Lib.hid (HR5.out.2.trans (hb7.mono HR5.out.2.size))
 have HS7:=Lib.hid HB7.out.size
 have HN7 : Hid ((L2.length + 4) * 1 <= 140737488355328):=Lib.hid (by rw [HZ4.out]; decide)
 have HZ7 : Hid ((L2 ++ e3).length = 11):=Lib.hid (by rw [List.length_append,HZ4.out,HF.out.e3l])
 have HALL : Hid (L2 ++ e3 ++ x = B):=Lib.hid (by rw [HL2.out,HL1.out]; exact HF.out.all.symm)
 rw [HF.out.e3l]
 clear hv7 hb7
 go_wp2_with (at_builtin; first
  | (refine Kd.R_append_rows (Kd.int .u8) (Rr:=(Kd.int .u8).K w7) (w0:=w1) (W:=w7) w1.heap.size rfl (.tmp 41) (.tmp 45) 22 5 (.int .u8 0) 1 rfl Tryz.underlying22 a0w rfl (by decide) (by decide) (.slice A5 7 c5) (L2) (e3) A7 4 c7 (λ _=>True) (λ _=>False) rfl rfl HO7.out HD7.out (λ _ _ h=>h) (λ _ h=>h.elim) (λ _ _=>trivial) HB7.out HS7.out HN7.out ?_; intro v8 w8 hr8 hb8 hg8 hat8; obtain ⟨A8,c8,rfl⟩:=Kd.R_slice hr8; rw [HZ7.out] at hr8 ⊢; have HR8:=Lib.hid (And.intro hr8 hb8); clear hr8 hb8 hg8 hat8; have HS8:=Lib.hid HR8.out.2.size; have HX8:=Lib.hid (Kd.C_below HX1.out HR8.out.2); have HN8 : Hid (((L2 ++ e3).length + x.length) * 1 <= 140737488355328):=Lib.hid (by rw [HZ7.out]; have:=HXl.out; omega))
  | (refine Kd.R_append_rows (Kd.int .u8) (Rr:=(Kd.int .u8).K w8) (w0:=w1) (W:=w8) w1.heap.size rfl (.tmp 47) (.tmp 48) 22 5 (.int .u8 0) 1 rfl Tryz.underlying22 a0w rfl (by decide) (by decide) (.slice A8 11 c8) (L2 ++ e3) x Ax x.length cx (λ _=>True) (λ _=>False) rfl rfl HR8.out.1 HX8.out (λ _ _ h=>h) (λ _ h=>h.elim) (λ _ _=>trivial) HR8.out.2 HS8.out HN8.out ?_; intro v9 w9 hr9 hb9 hg9 hat9; rw [HALL.out] at hr9; obtain ⟨A9,c9,rfl⟩:=Kd.R_slice hr9; have HR9:=Lib.hid (And.intro hr9 hb9); clear hr9 hb9 hg9 hat9))
 go_ret2
 exact ⟨A9,c9,rfl,Kd.R_lower HR9.out.1 HB1.out.size,a0g HB1.out HR9.out.2⟩
theorem c9h (A : Option Addr) (c : Nat) (b : List Int) (w : World) (hr : (Kd.int .u8).C w A b.length b) (hc : b.length <= c) (hb : Bytes b) (hl : b.length <= 5000) (h20 : ∀ w1,Below w.heap.size w w1 -> E20 A c b w1) (last : Bool) (h0 : last = true \/ 0 < b.length) :
    Calls Tryz.prog 34 #[.slice A b.length c,.bool last] w (Told 0 (putM b last) w):=by
 rcases Nat.eq_zero_or_pos b.length with hz | hz
 · obtain rfl : last = true:=by rcases h0 with h | h; (· exact h); (· omega)
   have:=c9g A c b w hr hc hb hl h20 (List.eq_nil_of_length_eq_zero hz)
   rw [hz]; exact this
 · cases last with
   | true=>exact c9f A c b w hr hc hb hl h20 hz
   | false=>exact c9e A c b w hr hc hb hl h20 hz
set_option maxRecDepth 100000 in
set_option maxHeartbeats 2000000 in
theorem c9i (A : Option Addr) (c : Nat) (f : List Int) (log : Int) (first : Bool) (room : Int) (w : World) (hr : (Kd.int .u8).C w A f.length f) (hf : Bytes f) (hl : f.length <= 1000000) (hc : f.length <= c) (hPk : ∀ (Ab : Option Addr) (cb : Nat) (n : Int) (ps : List Int) (W : World),(Kd.int .u8).C W Ab ps.length ps -> Bytes ps -> ps.length <= 1000000 -> ps.length <= cb -> (Ab = none -> cb = 0) -> Calls Tryz.prog 28 #[.int .i64 ((scanM f log first room).2.1 : Nat),.slice Ab ps.length cb,.int .i64 n] W (Told (pickD ((scanM f log first room).2.1 : Nat) ps n).1 (pickD ((scanM f log first room).2.1 : Nat) ps n).2 W)) :
    Calls Tryz.prog 36 #[.slice A f.length c,.int .i64 log,.bool first,.int .i64 room] w (OpenPost (openM f log first room) w):=by
 have HSc:=Lib.hid (b7b A c f log first room w hr hf hl hc)
 have hB:=λ h=>b7m hf (log:=log) (room:=room) (first:=first) h
 have HOp : Hid (openM f log first room = (let s:=scanM f log first room
  if s.1 ≠ 0 then (s.1,[],0,false) else
  if f.length < 11 + s.2.2.2.1 then (3,[],0,false) else
  if a0W 0 ((f.drop 11).take s.2.2.2.1) ≠ s.2.2.2.2.2 then (12,[],0,false) else
  if (pickD (s.2.1 : Nat) ((f.drop 11).take s.2.2.2.1) s.2.2.1).1 ≠ 0 then ((pickD (s.2.1 : Nat) ((f.drop 11).take s.2.2.2.1) s.2.2.1).1,[],0,false) else
  (0,(pickD (s.2.1 : Nat) ((f.drop 11).take s.2.2.2.1) s.2.2.1).2,11 + s.2.2.2.1,s.2.2.2.2.1))):=Lib.hid rfl
 obtain ⟨R,hR⟩ : ∃ R,R = openM f log first room:=⟨_,rfl⟩
 rw [<- hR] at HOp ⊢
 obtain ⟨k,kd,N,Len,lb,sm,hS⟩ : ∃ k kd N Len lb sm,scanM f log first room = (k,kd,N,Len,lb,sm):=⟨_,_,_,_,_,_,rfl⟩
 rw [hS] at HSc hB HOp hPk
 dsimp only at hB HOp hPk
 have HPk:=Lib.hid hPk
 clear hPk
 unfold b0F headC at HSc
 dsimp only at HSc
 have HRw:=Lib.hid (And.intro hr (And.intro hf (And.intro hl hc)))
 clear hR hS hr hf hl hc
 by_cases hk : k = 0
 · subst hk
   obtain ⟨b11,bkd,bN,bLen,bsm,bck,brm⟩:=hB rfl
   have HBd:=Lib.hid (And.intro b11 (And.intro bkd (And.intro bN (And.intro bLen (And.intro bsm (And.intro bck brm))))))
   rw [if_neg (λ h=>h rfl)] at HOp
   clear hB bkd bN bck brm
   by_cases hL : f.length < 11 + Len
   · rw [if_pos hL] at HOp
     have hLI : (f.length : Int) < 11 + (Len : Int):=by omega
     clear hL
     go_enter Tryz.func36,Tryz.ntmps36
     go_wp2_with fail
     refine HSc.out.mono ?_
     rintro e w1 ⟨rfl,hb1⟩
     have HB1:=Lib.hid hb1
     clear hb1
     go_wp2_with fail
     refine bodyPost_ret (a2T (fn:=Tryz.f36) (a:=8) (b:=9) (c:=10) (d:=11) rfl _ _) rfl ?_
     rw [HOp.out]
     exact OpenPost.err 3 (HB1.out.alloc HB1.out.size _)
   · rw [if_neg hL] at HOp
     have hLI : ¬ (f.length : Int) < 11 + (Len : Int):=by omega
     obtain ⟨bd,hbd⟩ : ∃ l,l = (f.drop 11).take Len:=⟨_,rfl⟩
     have hdl : (f.drop 11).length = f.length - 11:=List.length_drop
     have hbl : bd.length = Len:=by rw [hbd,List.length_take]; omega
     have HBy:=Lib.hid (show Bytes bd from by rw [hbd]; exact λ x hx=>HRw.out.2.1 x (List.mem_of_mem_drop (List.mem_of_mem_take hx)))
     have hsl : ∀ W : World,(Instr.slice 22 (.slice A f.length c) (some (.int .i64 11)) (some (.int .i64 (11 + (Len : Int)))) none).run Tryz.prog W = .ok (.slice (if c = 11 then A else A.map (·.add (11 * 1))) Len (c - 11)) W:=λ W=>by
      obtain ⟨i0,hi0,hz0,hz1,hz2⟩:=info_parts a0w
      have:=b1t (P:=Tryz.prog) 22 5 .i64 .i64 Tryz.underlying22 hi0 1 hz1 A f.length c (11 : Int) (11 + (Len : Int)) (by decide) (by omega) (by omega) HRw.out.2.2.2 W
      rw [show ((11 : Int) + (Len : Int)).toNat - (11 : Int).toNat = Len by omega,show (11 : Int).toNat = 11 from rfl] at this
      exact this
     obtain ⟨Ab,hAb⟩ : ∃ Ab,Ab = (if c = 11 then A else A.map (·.add (11 * 1))):=⟨_,rfl⟩
     have hnil : Ab ≠ none:=by
      obtain ⟨ad,hA,_⟩:=a0v HRw.out.1 0 (by omega)
      rw [hAb,hA]; split <;> simp
     have HBC : Hid ((Kd.int .u8).C w Ab Len bd):=Lib.hid (by
      have h1:=Kd.C_drop (c:=c) (m:=11) HRw.out.1 b11 HRw.out.2.2.2
      have h2:=Kd.C_take (m:=Len) h1 (by omega)
      rw [<- hbd,hbl] at h2
      rw [hAb]; exact h2)
     rw [<- hAb] at hsl
     rw [<- hbd] at HOp
     have HBl:=Lib.hid (And.intro hbl (show Len <= c - 11 from by have:=HRw.out.2.2.2; omega))
     have HNil:=Lib.hid hnil
     obtain ⟨cs,hcs⟩ : ∃ n,n = a0W 0 bd:=⟨_,rfl⟩
     have HCs:=Lib.hid hcs
     rw [<- hcs] at HOp
     have HLn:=Lib.hid (show bd.length <= 1000000 from by have:=HRw.out.2.2.1; omega)
     clear hL hbd hdl hbl hAb hnil hcs
     go_enter Tryz.func36,Tryz.ntmps36
     go_wp2_with fail
     refine HSc.out.mono ?_
     rintro e w1 ⟨rfl,hb1⟩
     obtain ⟨w2,hw2⟩ : ∃ w2,w2 = w1.alloc (.cells #[.int .i64 kd,.int .i64 N,.int .i64 Len,.bool lb,.int .u32 sm] 114):=⟨_,rfl⟩
     have hb2 : Below w.heap.size w w2:=by rw [hw2]; exact hb1.alloc hb1.size _
     have hk2 : w2.heap[w1.heap.size]? = some (.cells #[.int .i64 kd,.int .i64 N,.int .i64 Len,.bool lb,.int .u32 sm] 114 (0,0)):=by rw [hw2]; exact a0k _ _
     obtain ⟨hh,hhh⟩ : ∃ h,h = w1.heap.size:=⟨_,rfl⟩
     rw [<- hhh] at hk2
     have HB2:=Lib.hid hb2
     have HK2:=Lib.hid hk2
     obtain ⟨⟨c0,c1,c2,c3,c4⟩,-⟩:=cell5 hk2
     have s0 : SLater w2 w2:=Below.refl _ _
     clear hb1 hb2 hk2
     go_wp2_with fail
     rw [<- hw2,<- hhh]
     clear hw2 hhh
     go_wp2_with fail
     have HBC2:=Lib.hid (Kd.C_below HBC.out HB2.out)
     have HOf0 : Hid (∀ (W : World) (p : Nat),SLater w2 W -> TabAt p 256 W -> Calls Tryz.prog 86 #[.pointer (some ⟨p,0,none⟩),.slice Ab Len (c - 11)] W (λ e W'=>e = .returned (.int .u32 cs) /\ W = W')):=Lib.hid (λ W p hW hp=>by
      have h2:=a5I p Ab (c - 11) bd W hp (by rw [HBl.out.1]; exact Kd.C_below HBC2.out hW) (by have:=HLn.out; omega) HBy.out
      rw [HBl.out.1,<- HCs.out] at h2
      exact h2)
     have HPd : Hid (∀ W : World,SLater w2 W -> Calls Tryz.prog 28 #[.int .i64 kd,.slice Ab Len (c - 11),.int .i64 N] W (Told (pickD kd bd N).1 (pickD kd bd N).2 W)):=Lib.hid (λ W hW=>by
      have h:=HPk.out Ab (c - 11) N bd W (by rw [HBl.out.1]; exact Kd.C_below HBC2.out hW) HBy.out HLn.out (by rw [HBl.out.1]; exact HBl.out.2) (λ h=>absurd h HNil.out)
      rw [HBl.out.1] at h
      exact h)
     have HRb:=Lib.hid (b7l (k:=kd) (n:=N) HBy.out)
     obtain ⟨pk,py,hP⟩ : ∃ pk py,pickD kd bd N = (pk,py):=⟨_,_,rfl⟩
     rw [hP] at HPd HOp HRb
     dsimp only at HPd HOp HRb
     clear hP
     by_cases hcm : cs = sm
     · rw [if_neg (λ h=>h hcm)] at HOp
       have hneq : ((cs : Int) != (sm : Int)) = false:=by rw [hcm]; simp
       clear hcm
       go_region_law (first
        | (go_simp; go_at_call 85; refine (a4l _).mono ?_; rintro e w' ⟨p,rfl,hp,ht,hb⟩; have s1:=(by first | exact SLater.keep ‹_› hb | exact SLater.keep (SLater.drew ‹_›) hb : SLater w2 w'); obtain ⟨⟨g0,g1,g2,g3,g4⟩,-⟩:=cell5 (a0i HK2.out s1); clear hp hb)
        | (go_simp; go_at_call 86; refine (HOf0.out _ _ (by first | assumption | exact SLater.drew ‹_›) (by first | assumption)).mono ?_; rintro e w' ⟨rfl,rfl⟩))
       all_goals
        go_wp2_with fail
        refine (HPd.out _ (by first | assumption | exact SLater.drew ‹_›)).mono ?_
        rintro e w5 ⟨Ay,cy,rfl,hvy,hb5⟩
        have HV5 : Hid ((Kd.int .u8).R 5 w5 w.heap.size (λ _=>True) (.slice Ay py.length cy) py):=Lib.hid (Kd.R_lower hvy (Nat.le_trans HB2.out.size (Below.size (B:=w2.heap.size) (w:=w2) (by first | assumption | exact SLater.drew ‹_›))))
        have sX:=(by first | exact SLater.keep ‹_› hb5 | exact SLater.keep (SLater.drew ‹_›) hb5 : SLater w2 w5)
        obtain ⟨⟨g0,g1,g2,g3,g4⟩,-⟩:=cell5 (a0i HK2.out sX)
        have HSX:=Lib.hid sX
        clear hvy hb5
        by_cases hpk : pk = 0
        · subst hpk
          rw [if_neg (λ h=>h rfl)] at HOp
          go_wp2_with fail
          go_quiet (fail)
          all_goals
           go_wp2_with fail
           refine bodyPost_ret (a2T (fn:=Tryz.f36) (a:=8) (b:=9) (c:=10) (d:=11) rfl _ _) rfl ?_
           rw [HOp.out]
           exact ⟨Ay,cy,rfl,Kd.R_below HV5.out (a0b (Below.refl _ _) _),a0b (HB2.out.trans (Below.mono HSX.out HB2.out.size)) _⟩
        · rw [if_pos hpk] at HOp
          have hpk2 : (pk != 0) = true:=by simpa using hpk
          clear hpk
          go_wp2_with fail
          refine bodyPost_ret (a2T (fn:=Tryz.f36) (a:=8) (b:=9) (c:=10) (d:=11) rfl _ _) rfl ?_
          rw [HOp.out]
          exact OpenPost.err pk (HB2.out.trans (Below.mono HSX.out HB2.out.size))
     · rw [if_pos hcm] at HOp
       have hneq : ((cs : Int) != (sm : Int)) = true:=by simp; omega
       clear hcm
       go_region_law (first
        | (go_simp; go_at_call 85; refine (a4l _).mono ?_; rintro e w' ⟨p,rfl,hp,ht,hb⟩; have s1:=(by first | exact SLater.keep ‹_› hb | exact SLater.keep (SLater.drew ‹_›) hb : SLater w2 w'); obtain ⟨⟨g0,g1,g2,g3,g4⟩,-⟩:=cell5 (a0i HK2.out s1); clear hp hb)
        | (go_simp; go_at_call 86; refine (HOf0.out _ _ (by first | assumption | exact SLater.drew ‹_›) (by first | assumption)).mono ?_; rintro e w' ⟨rfl,rfl⟩))
       all_goals
        have sX:=(by first | assumption | exact SLater.drew ‹_› : SLater w2 _)
        go_wp2_with fail
        refine bodyPost_ret (a2T (fn:=Tryz.f36) (a:=8) (b:=9) (c:=10) (d:=11) rfl _ _) rfl ?_
        rw [HOp.out]
        exact OpenPost.err 12 (HB2.out.trans (Below.mono (by first | assumption | exact SLater.drew ‹_›) HB2.out.size))
 · have hk2 : (k != 0) = true:=by simpa using hk
   rw [if_pos hk] at HOp
   clear hB hk
   go_enter Tryz.func36,Tryz.ntmps36
   go_wp2_with fail
   refine HSc.out.mono ?_
   rintro e w1 ⟨rfl,hb1⟩
   have HB1:=Lib.hid hb1
   clear hb1
   go_wp2_with fail
   refine bodyPost_ret (a2T (fn:=Tryz.f36) (a:=8) (b:=9) (c:=10) (d:=11) rfl _ _) rfl ?_
   rw [HOp.out]
   exact OpenPost.err k (HB1.out.alloc HB1.out.size _)
theorem c9j (A : Option Addr) (c : Nat) (n : Int) (ps : List Int) (w : World) (hr : (Kd.int .u8).C w A ps.length ps) :
    Calls Tryz.prog 28 #[.int .i64 1,.slice A ps.length c,.int .i64 n] w (Told (pickD 1 ps n).1 (pickD 1 ps n).2 w):=by
 by_cases h0 : a0H 1 n ps.length = 0
 · obtain ⟨k0,k4,n0,n1,hm⟩:=b0K h0
   have e : pickD 1 ps n = a2D 1 ps n:=by unfold pickD; rw [if_neg (λ h=>h h0),if_pos (by decide)]
   rw [e]
   have hn : 1 < n /\ (ps.length : Int) = 1:=by unfold mayB at hm; rw [if_neg (by decide),if_pos rfl] at hm; exact of_decide_eq_true hm
   obtain ⟨N,rfl⟩ : ∃ N : Nat,n = N:=⟨n.toNat,by omega⟩
   have hl1 : ps.length = 1:=by omega
   have e2 : a2D 1 ps N = (0,List.replicate N (ps.getD 0 0)):=by unfold a2D; rw [if_neg (by omega),if_neg (by omega),if_neg (by decide)]; rfl
   obtain ⟨x,rfl⟩:=List.length_eq_one_iff.1 hl1
   rw [e2]
   exact b7k (x:=(0,List.replicate N x)) A c 1 N w h0 (λ W p q hB _ hq=>b0J (x:=(0,List.replicate N x)) A c q 1 _ _ W hq (b7i A c x N W (Kd.C_below hr hB) (by omega) (by omega)))
 · have e : pickD 1 ps n = (a0H 1 n ps.length,[]):=by unfold pickD; rw [if_pos h0]
   rw [e]
   exact b7j A c ps.length 1 n w h0
theorem OpenPost.out {r : Int × List Int × Nat × Bool} {w : World} {e : Ending} {w' : World} (h : OpenPost r w e w') (hy : Bytes r.2.1) : ∃ A c,e = .returned (.tuple #[.slice A r.2.1.length c,.int .i64 (r.2.2.1 : Nat),.bool r.2.2.2,.int .i64 r.1]) /\ BSl w' A c r.2.1 /\ Below w.heap.size w w':=by
 obtain ⟨A,c,he,hr,hb⟩:=h
 exact ⟨A,c,he,BSl.of hr hy,hb⟩
def blk0 : List Int:=[4,0,0,0,0,0,0,0,0,0,0]
theorem b7s : putM [] true = blk0:=by
 unfold putM
 rw [b7g]
 decide +kernel
theorem b555 : Bytes [5,5,5]:=by intro x hx; simp at hx; omega
theorem b0P : bestP [5,5,5] = (1,[5]):=b7h b555 (by decide) (by decide)
theorem b7t : (putM [5,5,5] true).length = 12:=by rw [a2j,b0P]; rfl
theorem c9r : openM (putM [5,5,5] true) 10 true 3 = (0,[5,5,5],12,true) /\ (scanM (putM [5,5,5] true) 10 true 3).2.1 = 1:=by
 unfold putM
 rw [b0P]
 decide +kernel
theorem c9s (A : Option Addr) (c : Nat) (f : List Int) (w : World) (hr : (Kd.int .u8).C w A f.length f) (hf : Bytes f) (hl : f.length <= 1000000) (hc : f.length <= c) (h : openM f 10 true 3 = (0,[5,5,5],12,true)) (h1 : (scanM f 10 true 3).2.1 = 1) :
    Calls Tryz.prog 36 #[.slice A f.length c,.int .i64 10,.bool true,.int .i64 3] w (λ e w'=>∃ A c,e = .returned (.tuple #[.slice A 3 c,.int .i64 (12 : Nat),.bool true,.int .i64 0]) /\ BSl w' A c [5,5,5] /\ Below w.heap.size w w'):=by
 have:=c9i A c f 10 true 3 w hr hf hl hc (by rw [h1]; exact λ Ab cb n ps W g1 _ _ _ _=>c9j Ab cb n ps W g1)
 rw [h] at this
 exact this.mono λ e w' hp=>hp.out b555
set_option maxRecDepth 100000 in
set_option maxHeartbeats 1000000 in
theorem b7u (w : World) : Calls Tryz.prog 32 #[] w (Ret (.bool true) w):=by
 go_enter Tryz.func32,Tryz.ntmps32
 go_wp2_with fail
 have h1:=a5S none 0 [] true w (Kd.R_reads' (Kd.R_nil (Kd.int .u8) 5 w w.heap.size (λ _=>True))).2.2 (by intro x hx; cases hx) (by decide) (.inl rfl)
 rw [b7s] at h1
 refine h1.mono ?_
 clear h1
 intro e w1 h1
 obtain ⟨A1,c1,rfl,hs1,hb1⟩:=h1.out (by intro x hx; simp [blk0] at hx; omega)
 rw [show blk0.length = 11 from rfl]
 have HB1:=Lib.hid hb1
 have HS1:=Lib.hid hs1
 clear h1 hs1 hb1
 obtain ⟨w2,hw2⟩ : ∃ w2,w2 = w1.alloc (.cells #[.int .u8 5,.int .u8 5,.int .u8 5] 5):=⟨_,rfl⟩
 have HB2 : Hid (Below w.heap.size w w2):=by show Below _ _ _; rw [hw2]; exact HB1.out.alloc HB1.out.size _
 have HS12 : Hid (BSl w2 A1 c1 blk0):=Lib.hid (HS1.out.below (by rw [hw2]; exact (Below.refl _ _).alloc (Nat.le_refl _) _))
 have HS2 : Hid (BSl w2 (some ⟨w1.heap.size,0,none⟩) 3 [5,5,5]):=by show BSl _ _ _ _; rw [hw2]; exact a4V [5,5,5] b555 (by decide)
 go_wp2_with fail
 rw [<- hw2]
 clear hw2
 have h3:=a5S (some ⟨w1.heap.size,0,none⟩) 3 [5,5,5] true w2 HS2.out.row b555 (by decide) (.inl rfl)
 obtain ⟨X,hX⟩ : ∃ X,X = putM [5,5,5] true:=⟨_,rfl⟩
 have HXl : Hid (X.length = 12):=Lib.hid (by rw [hX]; exact b7t)
 have HXo : Hid (openM X 10 true 3 = (0,[5,5,5],12,true) /\ (scanM X 10 true 3).2.1 = 1):=Lib.hid (by rw [hX]; exact c9r)
 have HXb : Hid (Bytes X):=Lib.hid (by rw [hX]; exact b0i b555 (by decide) true)
 rw [<- hX] at h3
 refine h3.mono ?_
 clear h3 hX
 intro e w3 h3
 obtain ⟨A3,c3,rfl,hs3,hb3⟩:=h3.out HXb.out
 have HB3:=Lib.hid (a0g HB2.out hb3)
 have HS3:=Lib.hid hs3
 have HS13:=Lib.hid (HS12.out.below hb3)
 have HOp:=Lib.hid (c9s A3 c3 X w3 hs3.row HXb.out (by rw [HXl.out]; decide) hs3.cap HXo.out.1 HXo.out.2)
 rw [HXl.out] at HOp ⊢
 clear h3 hs3 hb3
 go_wp2_with fail
 refine HOp.out.mono ?_
 rintro e w4 ⟨A4,c4,rfl,hs4,hb4⟩
 have HB4:=Lib.hid (a0g HB3.out hb4)
 have v1 : (convert 22 9 (.slice A1 11 c1)).run Tryz.prog w4 = .ok (.string ⟨#[4,0,0,0,0,0,0,0,0,0,0]⟩) w4:=(HS13.out.below hb4).str
 have v2 : (convert 22 9 (.slice A4 3 c4)).run Tryz.prog w4 = .ok (.string ⟨#[5,5,5]⟩) w4:=hs4.str
 clear hs4 hb4
 go_wp2_with fail
 go_ret
 exact ⟨rfl,HB4.out⟩
set_option maxRecDepth 100000 in
theorem c9t (A : Option Addr) (c : Nat) (w : World) : Calls Tryz.prog 33 #[.slice A 0 c,.bool false] w (Told 1 [] w):=by
 go_enter Tryz.func33,Tryz.ntmps33
 go_wp2_with fail
 go_ret2
 exact Told.nil 1 (Below.refl _ _)
set_option maxRecDepth 100000 in
theorem c9u (A : Option Addr) (c : Nat) (w : World) : Calls Tryz.prog 34 #[.slice A 0 c,.bool false] w (Told 1 [] w):=by
 go_enter Tryz.func34,Tryz.ntmps34
 go_wp2_with fail
 go_ret2
 exact Told.nil 1 (Below.refl _ _)
def Put23 (A : Option Addr) (ca : Nat) (b : List Int) (last : Bool) (w : World) : Prop:=
 ∃ (k : Int) (y : List Int),Bytes y /\ (∀ w1,Below w.heap.size w w1 -> Calls Tryz.prog 33 #[.slice A b.length ca,.bool last] w1 (Told k y w1)) /\ (∀ w1,Below w.heap.size w w1 -> Calls Tryz.prog 34 #[.slice A b.length ca,.bool last] w1 (Told k y w1))
theorem c9v (A : Option Addr) (ca : Nat) (b : List Int) (last : Bool) (w : World) (hr : (Kd.int .u8).C w A b.length b) (hc : b.length <= ca) (hby : Bytes b) (hl : b.length <= 60) (h20 : ∀ w1,Below w.heap.size w w1 -> E20 A ca b w1) : Put23 A ca b last w:=by
 by_cases h : last = true \/ 0 < b.length
 · exact ⟨0,putM b last,b0i hby (by omega) last,λ w1 h1=>a5S A ca b last w1 (Kd.C_below hr h1) hby (by omega) h,λ w1 h1=>c9h A ca b w1 (Kd.C_below hr h1) hc hby (by omega) (λ w2 h2=>h20 w2 (a0g h1 h2)) last h⟩
 · have h0 : b.length = 0:=by omega
   have hl0 : last = false:=by cases last with
    | true=>exact absurd (.inl rfl) h
    | false=>rfl
   subst hl0
   unfold Put23
   rw [h0]
   exact ⟨1,[],(by intro z hz; cases hz),λ w1 _=>c9t A ca w1,λ w1 _=>c9u A ca w1⟩
set_option maxRecDepth 100000 in
theorem c9w (A : Option Addr) (ca : Nat) (b : List Int) (last : Bool) (w : World) (hE : b.length <= 60 -> Put23 A ca b last w) :
    Calls Tryz.prog 5 #[.slice A b.length ca,.bool last] w (Ret (.bool true) w):=by
 by_cases h1 : b.length <= 60
 · obtain ⟨k,y,hy,g1,g2⟩:=hE h1
   have HG:=Lib.hid (And.intro hy (And.intro g1 g2))
   have d1 : decide (60 < (b.length : Int)) = false:=decide_eq_false (by omega)
   clear hy g1 g2 hE h1
   go_enter Tryz.func5,Tryz.ntmps5
   go_wp2_with fail
   refine (b7u w).mono ?_
   rintro e w1 ⟨rfl,hb1⟩
   have HB1:=Lib.hid hb1
   clear hb1
   go_wp2_with fail
   refine (HG.out.2.1 w1 HB1.out).mono ?_
   intro e w2 h2
   obtain ⟨A2,c2,rfl,hs2,hb2⟩:=h2.out HG.out.1
   have HB2:=Lib.hid (a0g HB1.out hb2)
   have HS2:=Lib.hid hs2
   clear h2 hs2 hb2
   go_wp2_with fail
   refine (HG.out.2.2 w2 HB2.out).mono ?_
   intro e w3 h3
   obtain ⟨A3,c3,rfl,hs3,hb3⟩:=h3.out HG.out.1
   have HB3:=Lib.hid (a0g HB2.out hb3)
   have HS3:=Lib.hid (And.intro (HS2.out.below hb3) hs3)
   clear h3 hs3 hb3
   go_wp2_with fail
   refine (b5S A2 A3 c2 c3 y w3 HS3.out.1.row HS3.out.2.row HG.out.1).mono ?_
   rintro e w4 ⟨rfl,rfl⟩
   go_wp2_with fail
   go_ret
   exact ⟨rfl,HB3.out⟩
 · have d1 : decide (60 < (b.length : Int)) = true:=decide_eq_true (by omega)
   clear hE h1
   go_enter Tryz.func5,Tryz.ntmps5
   go_wp2_with fail
   refine (b7u w).mono ?_
   rintro e w1 ⟨rfl,hb1⟩
   have HB1:=Lib.hid hb1
   clear hb1
   go_wp2_with fail
   go_ret
   exact ⟨rfl,HB1.out⟩
theorem c9x (A : Option Addr) (ca : Nat) (b : List Int) (last : Bool) (w : World) (hr : (Kd.int .u8).C w A b.length b) (hc : b.length <= ca) (hby : Bytes b) (_ : b.length * 1 <= 140737488351232) :
    Calls Tryz.prog 5 #[.slice A b.length ca,.bool last] w (Ret (.bool true) w):=c9w A ca b last w (λ hl=>c9v A ca b last w hr hc hby hl (λ w1 h=>c9d A ca b w1 (Kd.C_below hr h) hc hby (by omega)))
end Go.Proofs.YtflfjpkmjnnodaaGreat
