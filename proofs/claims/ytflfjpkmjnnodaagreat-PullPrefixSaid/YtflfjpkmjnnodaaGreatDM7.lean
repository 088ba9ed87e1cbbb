/- The walk of the reference Scan (23). -/
import Derived.Test.YtflfjpkmjnnodaaGreatDS1
import Derived.Test.YtflfjpkmjnnodaaGreatDM1
import Derived.Test.YtflfjpkmjnnodaaGreatDM6
import Derived.Test.YtflfjpkmjnnodaaGreatDM4
import Derived.Test.YtflfjpkmjnnodaaGreatDM5
import Derived.Test.YtflfjpkmjnnodaaGreatDM2
import Derived.Test.YtflfjpkmjnnodaaGreatDM0
namespace Go.Proofs.YtflfjpkmjnnodaaGreat
open Go.RowKit Go.IntWalk Go.Proofs.YtflfjpkmjnnodaaGreatW.PrintWords
theorem d1S : (Tryz.prog.info? 42).map (·.size) = some 5:=by kernel_rfl
theorem a1r {w : World} {g : Nat} {a b c d f : Value} (hg : w.heap[g]? = some (.cells #[a,b,c,d,f] 42 (0,0))) : (loadVar 42 ⟨g,0,none⟩).run Tryz.prog w = .ok (.agg #[a,b,c,d,f]) w:=
 run_loadVar_row w g _ _ _ _ _ hg Tryz.underlying42 rfl d1S
structure S23 (w : World) (r8 h : Nat) (a b c : Nat) (d : Bool) (W : World) : Prop where
 lt : r8 < h
 kh : W.heap[h]? = some (.cells #[.int .i64 a,.int .i64 b,.int .i64 c,.bool d,.int .u32 0] 42 (0,0))
 kr : W.heap[r8]? = some (.cells #[.int .i64 0,.int .i64 0,.int .i64 0,.bool false,.int .u32 0] 42 (0,0))
 on : Below r8 w W
theorem S23.set2 {w : World} {r8 h a b c : Nat} {d : Bool} {W : World} (hs : S23 w r8 h a b c d W) (c' : Nat) : S23 w r8 h a b c' d (W.setCell ⟨h,2,none⟩ (.int .i64 c')):=
 ⟨hs.lt,a0k hs.kh 2 _,a1k hs.kr (p:=⟨h,2,none⟩) (by show r8 ≠ h; have:=hs.lt; omega) _,hs.on.setCell (by show r8 <= h; have:=hs.lt; omega) _⟩
set_option maxRecDepth 100000 in
set_option maxHeartbeats 4000000 in
theorem d1T (A : Option Addr) (c : Nat) (f : List Int) (log : Int) (first : Bool) (room : Int) (w : World) (hr : (Kd.int .u8).C w A f.length f) (hf : Bytes f) (hl : f.length <= 140737488355328) :
    Calls Tryz.prog 35 #[.slice A f.length c,.int .i64 log,.bool first,.int .i64 room] w (a6v (scanM f log first room) w):=by
 obtain ⟨W0,hW0⟩ : ∃ W,W = w.alloc (.cells #[.int .i64 0,.int .i64 0,.int .i64 0,.bool false,.int .u32 0] 42):=⟨_,rfl⟩
 have hk0 : W0.heap[w.heap.size]? = some (.cells #[.int .i64 0,.int .i64 0,.int .i64 0,.bool false,.int .u32 0] 42 (0,0)):=by rw [hW0]; exact a0i _ _
 have hb0 : Below w.heap.size w W0:=by rw [hW0]; exact (Below.refl _ _).alloc (Nat.le_refl _) _
 have hs0 : W0.heap.size = w.heap.size + 1:=by rw [hW0]; simp
 have HK0:=Lib.hid (And.intro hk0 hb0)
 have HR:=Lib.hid (And.intro (Kd.C_below hr hb0) (And.intro hf hl))
 by_cases hg : log < 10 \/ 17 < log \/ room < 0
 · have hE : scanM f log first room = (1,headZ):=by unfold scanM; rw [if_pos hg]
   rw [hE]
   have hd : decide (log < 10) = true \/ (decide (log < 10) = false /\ decide (17 < log) = true) \/ (decide (log < 10) = false /\ decide (17 < log) = false /\ decide (room < 0) = true):=by
    by_cases h1 : log < 10
    · exact .inl (decide_eq_true h1)
    · by_cases h2 : 17 < log
      · exact .inr (.inl ⟨decide_eq_false h1,decide_eq_true h2⟩)
      · exact .inr (.inr ⟨decide_eq_false h1,decide_eq_false h2,decide_eq_true (by omega)⟩)
   clear hr hf hl hk0 hb0 hs0 hg hE
   rcases hd with d1 | ⟨d1,d2⟩ | ⟨d1,d2,d3⟩
   all_goals
    go_enter Tryz.func35,Tryz.ntmps35
    go_wp2_with fail
    rw [<- hW0]
    refine bodyPost_ret (a0H (fn:=Tryz.f35) (p:=8) (u:=9) (ty:=42) rfl _ _ _ _ rfl (a1r HK0.out.1)) rfl ?_
    exact ⟨by rw [a1a]; rfl,HK0.out.2⟩
 have hlr : 10 <= log /\ log <= 17 /\ 0 <= room:=by omega
 have g1 : decide (log < 10) = false:=decide_eq_false (by omega)
 have g2 : decide (17 < log) = false:=decide_eq_false (by omega)
 have g3 : decide (room < 0) = false:=decide_eq_false (by omega)
 obtain ⟨lg,rfl⟩ : ∃ lg : Nat,log = lg:=⟨log.toNat,by omega⟩
 have HLR:=Lib.hid hlr
 have HE1 : Hid (scanM f lg first room = (if f.length < 1 then (3,headZ) else
     if 7 < (f.getD 0 0).toNat then (10,headZ) else
     if f.length < 4 then (3,headZ) else
     if a1h lg first ((f.getD 0 0).toNat % 4) (rdN (f.drop 1) 3) (decide (4 <= (f.getD 0 0).toNat)) = false then (11,headZ) else
     if f.length < 7 then (3,headZ) else
     if a0v ((f.getD 0 0).toNat % 4 : Nat) (rdN (f.drop 1) 3) (rdN (f.drop 4) 3) ≠ 0 then (a0v ((f.getD 0 0).toNat % 4 : Nat) (rdN (f.drop 1) 3) (rdN (f.drop 4) 3),headZ) else
     if room < rdN (f.drop 1) 3 then (7,headZ) else
     if f.length < 11 then (3,headZ) else
     (0,(f.getD 0 0).toNat % 4,rdN (f.drop 1) 3,rdN (f.drop 4) 3,decide (4 <= (f.getD 0 0).toNat),rdN (f.drop 7) 4))):=Lib.hid (by
  show scanM f lg first room = _
  unfold scanM
  rw [if_neg hg])
 clear hg hlr
 by_cases hL1 : f.length < 1
 · have HE:=Lib.hid (show scanM f lg first room = (3,headZ) from by rw [HE1.out,if_pos hL1])
   have hL1I : (f.length : Int) < 1:=by omega
   clear hr hf hl hk0 hb0 hs0 HE1 hL1
   go_enter Tryz.func35,Tryz.ntmps35
   go_wp2_with fail
   rw [<- hW0]
   refine bodyPost_ret (a0H (fn:=Tryz.f35) (p:=8) (u:=9) (ty:=42) rfl _ _ _ _ rfl (a1r HK0.out.1)) rfl ?_
   rw [HE.out]
   exact ⟨by rw [a1a]; rfl,HK0.out.2⟩
 obtain ⟨ad,hA,hcx0⟩:=a0x hr 0 (by omega)
 have e0 : ad.add 0 = ad:=by simp [Addr.add]
 rw [e0] at hcx0
 have hcx : (w.alloc (.cells #[.int .i64 0,.int .i64 0,.int .i64 0,.bool false,.int .u32 0] 42)).cell? ad = some (.int .u8 (f.getD 0 0)):=a0r ((Below.refl _ _).alloc (Nat.le_refl _) _) hcx0
 have hby:=hf.get 0
 obtain ⟨k1,hk1⟩ : ∃ k : Nat,f.getD 0 0 = k:=⟨(f.getD 0 0).toNat,by omega⟩
 rw [hk1] at HE1 hcx hby
 rw [Int.toNat_natCast,if_neg hL1] at HE1
 have hk18 : k1 < 256:=by omega
 have hL1I : ¬ (f.length : Int) < 1:=by omega
 have hfl0 : (0 : Int) < (f.length : Int):=by omega
 subst hA
 clear hby hk1 e0 hcx0 hL1
 by_cases h7 : 7 < k1
 · have HE:=Lib.hid (show scanM f lg first room = (10,headZ) from by rw [HE1.out,if_pos h7])
   have h7I : (7 : Int) < (k1 : Int):=by omega
   clear hr hf hl hk0 hb0 hs0 HE1 h7
   go_enter Tryz.func35,Tryz.ntmps35
   go_wp2_with fail
   rw [<- hW0]
   refine bodyPost_ret (a0H (fn:=Tryz.f35) (p:=8) (u:=9) (ty:=42) rfl _ _ _ _ rfl (a1r HK0.out.1)) rfl ?_
   rw [HE.out]
   exact ⟨by rw [a1a]; rfl,HK0.out.2⟩
 rw [if_neg h7] at HE1
 have h7I : ¬ (7 : Int) < (k1 : Int):=by omega
 have H7:=Lib.hid h7
 clear h7
 by_cases hL4 : f.length < 4
 · have HE:=Lib.hid (show scanM f lg first room = (3,headZ) from by rw [HE1.out,if_pos hL4])
   have hL4I : (f.length : Int) < 4:=by omega
   clear hr hf hl hk0 hb0 hs0 HE1 hL4
   go_enter Tryz.func35,Tryz.ntmps35
   go_wp2_with fail
   rw [<- hW0]
   refine bodyPost_ret (a0H (fn:=Tryz.f35) (p:=8) (u:=9) (ty:=42) rfl _ _ _ _ rfl (a1r HK0.out.1)) rfl ?_
   rw [HE.out]
   exact ⟨by rw [a1a]; rfl,HK0.out.2⟩
 rw [if_neg hL4] at HE1
 have hL4I : ¬ (f.length : Int) < 4:=by omega
 have HL4:=Lib.hid hL4
 have HNu:=Lib.hid (λ (W : World) (fr m : Nat) (hB : Below W0.heap.size W0 W) h1 hm=>d1R (some ad) c f fr m W (Kd.C_below HR.out.1 hB) HR.out.2.1 HR.out.2.2 h1 hm)
 obtain ⟨a,ha⟩ : ∃ a,a = k1 % 4:=⟨_,rfl⟩
 obtain ⟨lb,hlb⟩ : ∃ b,b = decide (4 <= k1):=⟨_,rfl⟩
 obtain ⟨n2,hn2⟩ : ∃ n,n = rdN (f.drop 1) 3:=⟨_,rfl⟩
 obtain ⟨n3,hn3⟩ : ∃ n,n = rdN (f.drop 4) 3:=⟨_,rfl⟩
 obtain ⟨n4,hn4⟩ : ∃ n,n = rdN (f.drop 7) 4:=⟨_,rfl⟩
 have b2:=a2r (λ x hx=>hf x (List.mem_of_mem_drop hx) : Bytes (f.drop 1)) 3
 have b4:=a2r (λ x hx=>hf x (List.mem_of_mem_drop hx) : Bytes (f.drop 7)) 4
 have HNu1:=Lib.hid (HNu.out W0 1 3 (Below.refl _ _) (by omega) (.inl rfl))
 rw [<- hn2] at HNu1 b2
 rw [<- hn4] at b4
 have b2' : n2 < 16777216:=by omega
 have b4' : n4 < 4294967296:=by omega
 rw [<- ha,<- hlb,<- hn2,<- hn3,<- hn4] at HE1
 have ha4 : a < 4:=by omega
 have haI : (k1 : Int) % 4 = (a : Int):=by omega
 have haT : (k1 : Int).tmod 4 = (a : Int):=by rw [Int.tmod_eq_emod_of_nonneg (by omega)]; exact haI
 have hlbI : decide ((4 : Int) <= (k1 : Int)) = lb:=by rw [hlb,Bool.eq_iff_iff]; simp; omega
 have HN3:=Lib.hid (And.intro hn3 hn4)
 obtain ⟨s,hs⟩ : ∃ s : Nat,s = 2 ^ lg:=⟨_,rfl⟩
 have hsI : (2 : Int) ^ lg = (s : Int):=by rw [hs]; simp
 have hs2 : s <= 131072:=by rw [hs]; exact Nat.le_trans (Nat.pow_le_pow_right (by decide : 2 > 0) (show lg <= 17 from by have:=HLR.out; omega)) (by decide)
 have HSz : Hid (a1h lg first a n2 lb = (if lb = false then decide (n2 = s) else if n2 = 0 then first && decide (a = 0) else decide (n2 <= s))):=Lib.hid (by unfold a1h; rw [Int.toNat_natCast,hs])
 obtain ⟨r8,hr8⟩ : ∃ r,r = w.heap.size:=⟨_,rfl⟩
 have hW1 : Hid (∃ W1,W1 = W0.alloc (.cells #[.int .i64 a,.int .i64 n2,.int .i64 0,.bool lb,.int .u32 0] 42)):=Lib.hid ⟨_,rfl⟩
 have HS1 : Hid (S23 w r8 W0.heap.size a n2 0 lb (W0.alloc (.cells #[.int .i64 a,.int .i64 n2,.int .i64 0,.bool lb,.int .u32 0] 42))):=Lib.hid ⟨by omega,a0i _ _,by rw [hr8]; exact a0j hk0 _,by rw [hr8]; exact hb0.alloc hb0.size _⟩
 have HWr:=Lib.hid hr8
 have HK0r : Hid (W0.heap[r8]? = some (.cells #[.int .i64 0,.int .i64 0,.int .i64 0,.bool false,.int .u32 0] 42 (0,0))):=Lib.hid (by rw [hr8]; exact hk0)
 have hfl:=hl
 have hlog : 10 <= lg /\ lg <= 17:=by have:=HLR.out; omega
 clear hr hf hl hk0 hb0 hL4 ha hlb hn2 hn3 hn4 b2 b4 hs hW1
 have HFl:=Lib.hid hfl
 clear hfl
 go_enter Tryz.func35,Tryz.ntmps35
 go_wp2_with fail
 rw [<- hW0,<- hr8]
 clear hcx
 refine HNu1.out.mono ?_
 rintro e w' ⟨rfl,rfl⟩
 obtain ⟨⟨z0,z1,z2,z3,z4⟩,y0,y1,y2,y3,y4⟩:=cell5 HK0r.out
 clear hW0 hr8 hs0
 have hhr : W0.heap.size ≠ r8:=by have:=HS1.out.lt; omega
 have hrh : r8 ≠ W0.heap.size:=by have:=HS1.out.lt; omega
 by_cases hz : a1h lg first a n2 lb = true
 · have hzf : ¬ a1h lg first a n2 lb = false:=by rw [hz]; decide
   rw [if_neg hzf] at HE1
   clear hzf
   by_cases hL7 : f.length < 7
   · have hL7I : (f.length : Int) < 7:=by omega
     have hsz:=hz
     rw [HSz.out] at hsz
     cases lb with
     | false=>
      rw [if_pos rfl] at hsz
      have hq : ((n2 : Int) != (s : Int)) = false:=by have:=of_decide_eq_true hsz; rw [this]; simp
      clear hsz
      have HE:=Lib.hid (show scanM f lg first room = (3,headZ) from by rw [HE1.out,if_pos hL7])
      obtain ⟨⟨p0,p1,p2,p3,p4⟩,q0,q1,q2,q3,q4⟩:=cell5 HS1.out.kh
      obtain ⟨⟨z0,z1,z2,z3,z4⟩,y0,y1,y2,y3,y4⟩:=cell5 HS1.out.kr
      clear HE1 hL7
      go_wp2_with fail
      all_goals
       refine bodyPost_ret (a0H (fn:=Tryz.f35) (p:=8) (u:=9) (ty:=42) rfl _ _ _ _ rfl (a1r (a1c HS1.out.kr _ _ _ _ _))) rfl ?_
       rw [HE.out]
       exact ⟨by rw [a1a]; rfl,by show Below w.heap.size w _; rw [<- HWr.out]; exact a1s HS1.out.on (Nat.le_refl _) _ _ _ _ _⟩
     | true=>
      rw [if_neg (by decide)] at hsz
      by_cases hn0 : n2 = 0
      · rw [if_pos hn0,Bool.and_eq_true] at hsz
        have hq2 : ((n2 : Int) == 0) = true:=by rw [hn0]; rfl
        have hq1 : n2 <= s:=by omega
        have hq3 : ((a : Int) == 0) = true:=by have:=of_decide_eq_true hsz.2; rw [this]; rfl
        obtain rfl:=hsz.1
        clear hsz hn0
        have HE:=Lib.hid (show scanM f lg true room = (3,headZ) from by rw [HE1.out,if_pos hL7])
        obtain ⟨⟨p0,p1,p2,p3,p4⟩,q0,q1,q2,q3,q4⟩:=cell5 HS1.out.kh
        obtain ⟨⟨z0,z1,z2,z3,z4⟩,y0,y1,y2,y3,y4⟩:=cell5 HS1.out.kr
        clear HE1 hL7
        go_wp2_with fail
        all_goals
         refine bodyPost_ret (a0H (fn:=Tryz.f35) (p:=8) (u:=9) (ty:=42) rfl _ _ _ _ rfl (a1r (a1c HS1.out.kr _ _ _ _ _))) rfl ?_
         rw [HE.out]
         exact ⟨by rw [a1a]; rfl,by show Below w.heap.size w _; rw [<- HWr.out]; exact a1s HS1.out.on (Nat.le_refl _) _ _ _ _ _⟩
      · rw [if_neg hn0] at hsz
        have hq2 : ((n2 : Int) == 0) = false:=by simp; omega
        have hq1 : n2 <= s:=of_decide_eq_true hsz
        clear hsz hn0
        have HE:=Lib.hid (show scanM f lg first room = (3,headZ) from by rw [HE1.out,if_pos hL7])
        obtain ⟨⟨p0,p1,p2,p3,p4⟩,q0,q1,q2,q3,q4⟩:=cell5 HS1.out.kh
        obtain ⟨⟨z0,z1,z2,z3,z4⟩,y0,y1,y2,y3,y4⟩:=cell5 HS1.out.kr
        clear HE1 hL7
        go_wp2_with fail
        all_goals
         refine bodyPost_ret (a0H (fn:=Tryz.f35) (p:=8) (u:=9) (ty:=42) rfl _ _ _ _ rfl (a1r (a1c HS1.out.kr _ _ _ _ _))) rfl ?_
         rw [HE.out]
         exact ⟨by rw [a1a]; rfl,by show Below w.heap.size w _; rw [<- HWr.out]; exact a1s HS1.out.on (Nat.le_refl _) _ _ _ _ _⟩
   · have hL7I : ¬ (f.length : Int) < 7:=by omega
     have HL7:=Lib.hid hL7
     rw [if_neg hL7] at HE1
     clear hL7
     have hsz:=hz
     rw [HSz.out] at hsz
     cases lb with
     | false=>
      rw [if_pos rfl] at hsz
      have hq : ((n2 : Int) != (s : Int)) = false:=by have:=of_decide_eq_true hsz; rw [this]; simp
      clear hsz
      obtain ⟨⟨p0,p1,p2,p3,p4⟩,q0,q1,q2,q3,q4⟩:=cell5 HS1.out.kh
      obtain ⟨⟨z0,z1,z2,z3,z4⟩,y0,y1,y2,y3,y4⟩:=cell5 HS1.out.kr
      obtain ⟨W1,hW1⟩ : ∃ W,W = W0.alloc (.cells #[.int .i64 a,.int .i64 n2,.int .i64 0,.bool false,.int .u32 0] 42):=⟨_,rfl⟩
      have HSw : Hid (S23 w r8 W0.heap.size a n2 0 false W1):=Lib.hid (by rw [hW1]; exact HS1.out)
      have HBw : Hid (Below W0.heap.size W0 W1):=Lib.hid (by rw [hW1]; exact (Below.refl _ _).alloc (Nat.le_refl _) _)
      have HN4:=Lib.hid (HNu.out W1 4 3 HBw.out (by have:=HL7.out; omega) (.inl rfl))
      rw [<- HN3.out.1] at HN4
      go_wp2_with fail
      all_goals
       rw [<- hW1]
       clear hW1 p0 p1 p2 p3 p4 q0 q1 q2 q3 q4 z0 z1 z2 z3 z4 y0 y1 y2 y3 y4
       refine HN4.out.mono ?_
       rintro e w' ⟨rfl,rfl⟩
       obtain ⟨⟨p0,p1,p2,p3,p4⟩,q0,q1,q2,q3,q4⟩:=cell5 HSw.out.kh
       obtain ⟨⟨z0,z1,z2,z3,z4⟩,y0,y1,y2,y3,y4⟩:=cell5 HSw.out.kr
       go_wp2_with fail
       refine (b1N a n2 n3 _).mono ?_
       rintro e w' ⟨rfl,rfl⟩
       have HS2:=Lib.hid (HSw.out.set2 n3)
       by_cases hc0 : a0v a n2 n3 = 0
       · rw [if_neg (λ h=>h hc0)] at HE1
         rw [hc0]
         by_cases hrm : room < n2
         · have HE:=Lib.hid (show scanM f lg first room = (7,headZ) from by rw [HE1.out,if_pos hrm])
           have hrmd:=decide_eq_true hrm
           clear HE1 hc0
           go_wp2_with fail
           refine bodyPost_ret (a0H (fn:=Tryz.f35) (p:=8) (u:=9) (ty:=42) rfl _ _ _ _ rfl (a1r (a1c HS2.out.kr _ _ _ _ _))) rfl ?_
           rw [HE.out]
           exact ⟨by rw [a1a]; rfl,by show Below w.heap.size w _; rw [<- HWr.out]; exact a1s HS2.out.on (Nat.le_refl _) _ _ _ _ _⟩
         · rw [if_neg hrm] at HE1
           have hrmd:=decide_eq_false hrm
           by_cases hL11 : f.length < 11
           · have HE:=Lib.hid (show scanM f lg first room = (3,headZ) from by rw [HE1.out,if_pos hL11])
             have hL11I : (f.length : Int) < 11:=by omega
             clear HE1 hc0 hL11
             go_wp2_with fail
             refine bodyPost_ret (a0H (fn:=Tryz.f35) (p:=8) (u:=9) (ty:=42) rfl _ _ _ _ rfl (a1r (a1c HS2.out.kr _ _ _ _ _))) rfl ?_
             rw [HE.out]
             exact ⟨by rw [a1a]; rfl,by show Below w.heap.size w _; rw [<- HWr.out]; exact a1s HS2.out.on (Nat.le_refl _) _ _ _ _ _⟩
           · have HE:=Lib.hid (show scanM f lg first room = (0,a,n2,n3,false,n4) from by rw [HE1.out,if_neg hL11])
             have hL11I : ¬ (f.length : Int) < 11:=by omega
             have HN7:=HNu.out _ 7 4 (HBw.out.setCell (p:=⟨W0.heap.size,2,none⟩) (Nat.le_refl _) (.int .i64 n3)) (by omega) (.inr rfl)
             rw [<- HN3.out.2] at HN7
             have HN7h:=Lib.hid HN7
             have hw4 : IntKind.u32.wrap (n4 : Int) = (n4 : Int):=by rw [IntKind.wrap_u32']; omega
             clear HE1 hc0 hL11 HN7
             go_wp2_with fail
             refine HN7h.out.mono ?_
             rintro e w' ⟨rfl,rfl⟩
             go_wp2_with fail
             refine bodyPost_ret (a0H (fn:=Tryz.f35) (p:=8) (u:=9) (ty:=42) rfl _ _ _ _ rfl (a1r (a1c (a1k HS2.out.kr (p:=⟨W0.heap.size,4,none⟩) hrh _) _ _ _ _ _))) rfl ?_
             rw [HE.out]
             exact ⟨rfl,by show Below w.heap.size w _; rw [<- HWr.out]; exact a1s (HS2.out.on.setCell (p:=⟨W0.heap.size,4,none⟩) (Nat.le_of_lt HS2.out.lt) _) (Nat.le_refl _) _ _ _ _ _⟩
       · have HE:=Lib.hid (show scanM f lg first room = (a0v a n2 n3,headZ) from by rw [HE1.out,if_pos hc0])
         obtain ⟨ck,hck⟩ : ∃ z,z = a0v a n2 n3:=⟨_,rfl⟩
         rw [<- hck] at HE hc0 ⊢
         have hc2 : (ck != 0) = true:=by simpa using hc0
         clear HE1 hc0 hck
         go_wp2_with fail
         refine bodyPost_ret (a0H (fn:=Tryz.f35) (p:=8) (u:=9) (ty:=42) rfl _ _ _ _ rfl (a1r (a1c HS2.out.kr _ _ _ _ _))) rfl ?_
         rw [HE.out]
         exact ⟨by rw [a1a]; rfl,by show Below w.heap.size w _; rw [<- HWr.out]; exact a1s HS2.out.on (Nat.le_refl _) _ _ _ _ _⟩
     | true=>
      rw [if_neg (by decide)] at hsz
      by_cases hn0 : n2 = 0
      · rw [if_pos hn0,Bool.and_eq_true] at hsz
        have hq2 : ((n2 : Int) == 0) = true:=by rw [hn0]; rfl
        have hq1 : n2 <= s:=by omega
        have hq3 : ((a : Int) == 0) = true:=by have:=of_decide_eq_true hsz.2; rw [this]; rfl
        obtain rfl:=hsz.1
        clear hsz hn0
        obtain ⟨⟨p0,p1,p2,p3,p4⟩,q0,q1,q2,q3,q4⟩:=cell5 HS1.out.kh
        obtain ⟨⟨z0,z1,z2,z3,z4⟩,y0,y1,y2,y3,y4⟩:=cell5 HS1.out.kr
        obtain ⟨W1,hW1⟩ : ∃ W,W = W0.alloc (.cells #[.int .i64 a,.int .i64 n2,.int .i64 0,.bool true,.int .u32 0] 42):=⟨_,rfl⟩
        have HSw : Hid (S23 w r8 W0.heap.size a n2 0 true W1):=Lib.hid (by rw [hW1]; exact HS1.out)
        have HBw : Hid (Below W0.heap.size W0 W1):=Lib.hid (by rw [hW1]; exact (Below.refl _ _).alloc (Nat.le_refl _) _)
        have HN4:=Lib.hid (HNu.out W1 4 3 HBw.out (by have:=HL7.out; omega) (.inl rfl))
        rw [<- HN3.out.1] at HN4
        go_wp2_with fail
        all_goals
         rw [<- hW1]
         clear hW1 p0 p1 p2 p3 p4 q0 q1 q2 q3 q4 z0 z1 z2 z3 z4 y0 y1 y2 y3 y4
         refine HN4.out.mono ?_
         rintro e w' ⟨rfl,rfl⟩
         obtain ⟨⟨p0,p1,p2,p3,p4⟩,q0,q1,q2,q3,q4⟩:=cell5 HSw.out.kh
         obtain ⟨⟨z0,z1,z2,z3,z4⟩,y0,y1,y2,y3,y4⟩:=cell5 HSw.out.kr
         go_wp2_with fail
         refine (b1N a n2 n3 _).mono ?_
         rintro e w' ⟨rfl,rfl⟩
         have HS2:=Lib.hid (HSw.out.set2 n3)
         by_cases hc0 : a0v a n2 n3 = 0
         · rw [if_neg (λ h=>h hc0)] at HE1
           rw [hc0]
           by_cases hrm : room < n2
           · have HE:=Lib.hid (show scanM f lg true room = (7,headZ) from by rw [HE1.out,if_pos hrm])
             have hrmd:=decide_eq_true hrm
             clear HE1 hc0
             go_wp2_with fail
             refine bodyPost_ret (a0H (fn:=Tryz.f35) (p:=8) (u:=9) (ty:=42) rfl _ _ _ _ rfl (a1r (a1c HS2.out.kr _ _ _ _ _))) rfl ?_
             rw [HE.out]
             exact ⟨by rw [a1a]; rfl,by show Below w.heap.size w _; rw [<- HWr.out]; exact a1s HS2.out.on (Nat.le_refl _) _ _ _ _ _⟩
           · rw [if_neg hrm] at HE1
             have hrmd:=decide_eq_false hrm
             by_cases hL11 : f.length < 11
             · have HE:=Lib.hid (show scanM f lg true room = (3,headZ) from by rw [HE1.out,if_pos hL11])
               have hL11I : (f.length : Int) < 11:=by omega
               clear HE1 hc0 hL11
               go_wp2_with fail
               refine bodyPost_ret (a0H (fn:=Tryz.f35) (p:=8) (u:=9) (ty:=42) rfl _ _ _ _ rfl (a1r (a1c HS2.out.kr _ _ _ _ _))) rfl ?_
               rw [HE.out]
               exact ⟨by rw [a1a]; rfl,by show Below w.heap.size w _; rw [<- HWr.out]; exact a1s HS2.out.on (Nat.le_refl _) _ _ _ _ _⟩
             · have HE:=Lib.hid (show scanM f lg true room = (0,a,n2,n3,true,n4) from by rw [HE1.out,if_neg hL11])
               have hL11I : ¬ (f.length : Int) < 11:=by omega
               have HN7:=HNu.out _ 7 4 (HBw.out.setCell (p:=⟨W0.heap.size,2,none⟩) (Nat.le_refl _) (.int .i64 n3)) (by omega) (.inr rfl)
               rw [<- HN3.out.2] at HN7
               have HN7h:=Lib.hid HN7
               have hw4 : IntKind.u32.wrap (n4 : Int) = (n4 : Int):=by rw [IntKind.wrap_u32']; omega
               clear HE1 hc0 hL11 HN7
               go_wp2_with fail
               refine HN7h.out.mono ?_
               rintro e w' ⟨rfl,rfl⟩
               go_wp2_with fail
               refine bodyPost_ret (a0H (fn:=Tryz.f35) (p:=8) (u:=9) (ty:=42) rfl _ _ _ _ rfl (a1r (a1c (a1k HS2.out.kr (p:=⟨W0.heap.size,4,none⟩) hrh _) _ _ _ _ _))) rfl ?_
               rw [HE.out]
               exact ⟨rfl,by show Below w.heap.size w _; rw [<- HWr.out]; exact a1s (HS2.out.on.setCell (p:=⟨W0.heap.size,4,none⟩) (Nat.le_of_lt HS2.out.lt) _) (Nat.le_refl _) _ _ _ _ _⟩
         · have HE:=Lib.hid (show scanM f lg true room = (a0v a n2 n3,headZ) from by rw [HE1.out,if_pos hc0])
           obtain ⟨ck,hck⟩ : ∃ z,z = a0v a n2 n3:=⟨_,rfl⟩
           rw [<- hck] at HE hc0 ⊢
           have hc2 : (ck != 0) = true:=by simpa using hc0
           clear HE1 hc0 hck
           go_wp2_with fail
           refine bodyPost_ret (a0H (fn:=Tryz.f35) (p:=8) (u:=9) (ty:=42) rfl _ _ _ _ rfl (a1r (a1c HS2.out.kr _ _ _ _ _))) rfl ?_
           rw [HE.out]
           exact ⟨by rw [a1a]; rfl,by show Below w.heap.size w _; rw [<- HWr.out]; exact a1s HS2.out.on (Nat.le_refl _) _ _ _ _ _⟩
      · rw [if_neg hn0] at hsz
        have hq2 : ((n2 : Int) == 0) = false:=by simp; omega
        have hq1 : n2 <= s:=of_decide_eq_true hsz
        clear hsz hn0
        obtain ⟨⟨p0,p1,p2,p3,p4⟩,q0,q1,q2,q3,q4⟩:=cell5 HS1.out.kh
        obtain ⟨⟨z0,z1,z2,z3,z4⟩,y0,y1,y2,y3,y4⟩:=cell5 HS1.out.kr
        obtain ⟨W1,hW1⟩ : ∃ W,W = W0.alloc (.cells #[.int .i64 a,.int .i64 n2,.int .i64 0,.bool true,.int .u32 0] 42):=⟨_,rfl⟩
        have HSw : Hid (S23 w r8 W0.heap.size a n2 0 true W1):=Lib.hid (by rw [hW1]; exact HS1.out)
        have HBw : Hid (Below W0.heap.size W0 W1):=Lib.hid (by rw [hW1]; exact (Below.refl _ _).alloc (Nat.le_refl _) _)
        have HN4:=Lib.hid (HNu.out W1 4 3 HBw.out (by have:=HL7.out; omega) (.inl rfl))
        rw [<- HN3.out.1] at HN4
        go_wp2_with fail
        all_goals
         rw [<- hW1]
         clear hW1 p0 p1 p2 p3 p4 q0 q1 q2 q3 q4 z0 z1 z2 z3 z4 y0 y1 y2 y3 y4
         refine HN4.out.mono ?_
         rintro e w' ⟨rfl,rfl⟩
         obtain ⟨⟨p0,p1,p2,p3,p4⟩,q0,q1,q2,q3,q4⟩:=cell5 HSw.out.kh
         obtain ⟨⟨z0,z1,z2,z3,z4⟩,y0,y1,y2,y3,y4⟩:=cell5 HSw.out.kr
         go_wp2_with fail
         refine (b1N a n2 n3 _).mono ?_
         rintro e w' ⟨rfl,rfl⟩
         have HS2:=Lib.hid (HSw.out.set2 n3)
         by_cases hc0 : a0v a n2 n3 = 0
         · rw [if_neg (λ h=>h hc0)] at HE1
           rw [hc0]
           by_cases hrm : room < n2
           · have HE:=Lib.hid (show scanM f lg first room = (7,headZ) from by rw [HE1.out,if_pos hrm])
             have hrmd:=decide_eq_true hrm
             clear HE1 hc0
             go_wp2_with fail
             refine bodyPost_ret (a0H (fn:=Tryz.f35) (p:=8) (u:=9) (ty:=42) rfl _ _ _ _ rfl (a1r (a1c HS2.out.kr _ _ _ _ _))) rfl ?_
             rw [HE.out]
             exact ⟨by rw [a1a]; rfl,by show Below w.heap.size w _; rw [<- HWr.out]; exact a1s HS2.out.on (Nat.le_refl _) _ _ _ _ _⟩
           · rw [if_neg hrm] at HE1
             have hrmd:=decide_eq_false hrm
             by_cases hL11 : f.length < 11
             · have HE:=Lib.hid (show scanM f lg first room = (3,headZ) from by rw [HE1.out,if_pos hL11])
               have hL11I : (f.length : Int) < 11:=by omega
               clear HE1 hc0 hL11
               go_wp2_with fail
               refine bodyPost_ret (a0H (fn:=Tryz.f35) (p:=8) (u:=9) (ty:=42) rfl _ _ _ _ rfl (a1r (a1c HS2.out.kr _ _ _ _ _))) rfl ?_
               rw [HE.out]
               exact ⟨by rw [a1a]; rfl,by show Below w.heap.size w _; rw [<- HWr.out]; exact a1s HS2.out.on (Nat.le_refl _) _ _ _ _ _⟩
             · have HE:=Lib.hid (show scanM f lg first room = (0,a,n2,n3,true,n4) from by rw [HE1.out,if_neg hL11])
               have hL11I : ¬ (f.length : Int) < 11:=by omega
               have HN7:=HNu.out _ 7 4 (HBw.out.setCell (p:=⟨W0.heap.size,2,none⟩) (Nat.le_refl _) (.int .i64 n3)) (by omega) (.inr rfl)
               rw [<- HN3.out.2] at HN7
               have HN7h:=Lib.hid HN7
               have hw4 : IntKind.u32.wrap (n4 : Int) = (n4 : Int):=by rw [IntKind.wrap_u32']; omega
               clear HE1 hc0 hL11 HN7
               go_wp2_with fail
               refine HN7h.out.mono ?_
               rintro e w' ⟨rfl,rfl⟩
               go_wp2_with fail
               refine bodyPost_ret (a0H (fn:=Tryz.f35) (p:=8) (u:=9) (ty:=42) rfl _ _ _ _ rfl (a1r (a1c (a1k HS2.out.kr (p:=⟨W0.heap.size,4,none⟩) hrh _) _ _ _ _ _))) rfl ?_
               rw [HE.out]
               exact ⟨rfl,by show Below w.heap.size w _; rw [<- HWr.out]; exact a1s (HS2.out.on.setCell (p:=⟨W0.heap.size,4,none⟩) (Nat.le_of_lt HS2.out.lt) _) (Nat.le_refl _) _ _ _ _ _⟩
         · have HE:=Lib.hid (show scanM f lg first room = (a0v a n2 n3,headZ) from by rw [HE1.out,if_pos hc0])
           obtain ⟨ck,hck⟩ : ∃ z,z = a0v a n2 n3:=⟨_,rfl⟩
           rw [<- hck] at HE hc0 ⊢
           have hc2 : (ck != 0) = true:=by simpa using hc0
           clear HE1 hc0 hck
           go_wp2_with fail
           refine bodyPost_ret (a0H (fn:=Tryz.f35) (p:=8) (u:=9) (ty:=42) rfl _ _ _ _ rfl (a1r (a1c HS2.out.kr _ _ _ _ _))) rfl ?_
           rw [HE.out]
           exact ⟨by rw [a1a]; rfl,by show Below w.heap.size w _; rw [<- HWr.out]; exact a1s HS2.out.on (Nat.le_refl _) _ _ _ _ _⟩
 · have hz' : a1h lg first a n2 lb = false:=by cases h : a1h lg first a n2 lb; (· rfl); (· exact absurd h hz)
   have HE:=Lib.hid (show scanM f lg first room = (11,headZ) from by rw [HE1.out,if_pos hz'])
   have hsz:=hz'
   rw [HSz.out] at hsz
   clear HE1 hz hz'
   cases lb with
   | false=>
    rw [if_pos rfl] at hsz
    have hq : ((n2 : Int) != (s : Int)) = true:=by have:=of_decide_eq_false hsz; simp; omega
    clear hsz
    obtain ⟨⟨p0,p1,p2,p3,p4⟩,q0,q1,q2,q3,q4⟩:=cell5 HS1.out.kh
    obtain ⟨⟨z0,z1,z2,z3,z4⟩,y0,y1,y2,y3,y4⟩:=cell5 HS1.out.kr
    go_wp2_with fail
    all_goals
     refine bodyPost_ret (a0H (fn:=Tryz.f35) (p:=8) (u:=9) (ty:=42) rfl _ _ _ _ rfl (a1r (a1c HS1.out.kr _ _ _ _ _))) rfl ?_
     rw [HE.out]
     exact ⟨by rw [a1a]; rfl,by show Below w.heap.size w _; rw [<- HWr.out]; exact a1s HS1.out.on (Nat.le_refl _) _ _ _ _ _⟩
   | true=>
    rw [if_neg (by decide)] at hsz
    by_cases hn0 : n2 = 0
    · rw [if_pos hn0] at hsz
      have hq2 : ((n2 : Int) == 0) = true:=by rw [hn0]; rfl
      have hq1 : n2 <= s:=by omega
      clear hn0
      cases first with
      | false=>
       clear hsz
       obtain ⟨⟨p0,p1,p2,p3,p4⟩,q0,q1,q2,q3,q4⟩:=cell5 HS1.out.kh
       obtain ⟨⟨z0,z1,z2,z3,z4⟩,y0,y1,y2,y3,y4⟩:=cell5 HS1.out.kr
       go_wp2_with fail
       all_goals
        refine bodyPost_ret (a0H (fn:=Tryz.f35) (p:=8) (u:=9) (ty:=42) rfl _ _ _ _ rfl (a1r (a1c HS1.out.kr _ _ _ _ _))) rfl ?_
        rw [HE.out]
        exact ⟨by rw [a1a]; rfl,by show Below w.heap.size w _; rw [<- HWr.out]; exact a1s HS1.out.on (Nat.le_refl _) _ _ _ _ _⟩
      | true=>
       have hq3 : ((a : Int) == 0) = false:=by
        rw [Bool.true_and] at hsz
        have:=of_decide_eq_false hsz; simp; omega
       clear hsz
       obtain ⟨⟨p0,p1,p2,p3,p4⟩,q0,q1,q2,q3,q4⟩:=cell5 HS1.out.kh
       obtain ⟨⟨z0,z1,z2,z3,z4⟩,y0,y1,y2,y3,y4⟩:=cell5 HS1.out.kr
       go_wp2_with fail
       all_goals
        refine bodyPost_ret (a0H (fn:=Tryz.f35) (p:=8) (u:=9) (ty:=42) rfl _ _ _ _ rfl (a1r (a1c HS1.out.kr _ _ _ _ _))) rfl ?_
        rw [HE.out]
        exact ⟨by rw [a1a]; rfl,by show Below w.heap.size w _; rw [<- HWr.out]; exact a1s HS1.out.on (Nat.le_refl _) _ _ _ _ _⟩
    · rw [if_neg hn0] at hsz
      have hq1 : s < n2:=by have:=of_decide_eq_false hsz; omega
      clear hsz hn0
      obtain ⟨⟨p0,p1,p2,p3,p4⟩,q0,q1,q2,q3,q4⟩:=cell5 HS1.out.kh
      obtain ⟨⟨z0,z1,z2,z3,z4⟩,y0,y1,y2,y3,y4⟩:=cell5 HS1.out.kr
      go_wp2_with fail
      all_goals
       refine bodyPost_ret (a0H (fn:=Tryz.f35) (p:=8) (u:=9) (ty:=42) rfl _ _ _ _ rfl (a1r (a1c HS1.out.kr _ _ _ _ _))) rfl ?_
       rw [HE.out]
       exact ⟨by rw [a1a]; rfl,by show Below w.heap.size w _; rw [<- HWr.out]; exact a1s HS1.out.on (Nat.le_refl _) _ _ _ _ _⟩
def a3H (kd N Len : Nat) (x : Int) : Bool:=!(decide (2 <= kd) && (decide (60 < N) || decide (100 < Len) || decide (9 < x)))
def a3a : Nat -> List Int -> Int -> Bool -> Int -> Nat -> Bool
 | 0,_,_,_,_,_=>true
 | n + 1,f,log,first,limit,sum=>
  if (scanM f log first (limit - sum)).1 ≠ 0 \/ f.length < 11 + (scanM f log first (limit - sum)).2.2.2.1 then true else
  if a3H (scanM f log first (limit - sum)).2.1 (scanM f log first (limit - sum)).2.2.1 (scanM f log first (limit - sum)).2.2.2.1 (f.getD 11 0) = false then false else
  if (scanM f log first (limit - sum)).2.2.2.2.1 = true then true else
  a3a n (f.drop (11 + (scanM f log first (limit - sum)).2.2.2.1)) log false limit (sum + (scanM f log first (limit - sum)).2.2.1)
def a1S (f : List Int) (limit : Int) : Bool:=if headM f ≠ 0 \/ limit < 0 then true else a3a (f.length + 1) (f.drop 8) (f.getD 5 0) true limit 0
theorem b9c {n : Nat} {f : List Int} {log : Int} {first : Bool} {limit : Int} {sum : Nat} {k : Int} {h : HeadT} (hs : scanM f log first (limit - sum) = (k,h)) (h1 : k ≠ 0 \/ f.length < 11 + h.2.2.1) : a3a (n + 1) f log first limit sum = true:=by
 unfold a3a; rw [hs]; exact if_pos h1
theorem d1U {n : Nat} {f : List Int} {log : Int} {first : Bool} {limit : Int} {sum : Nat} {h : HeadT} (hs : scanM f log first (limit - sum) = (0,h)) (h1 : ¬ f.length < 11 + h.2.2.1) (h2 : a3H h.1 h.2.1 h.2.2.1 (f.getD 11 0) = false) : a3a (n + 1) f log first limit sum = false:=by
 unfold a3a; rw [hs]
 rw [if_neg (by rintro (h | h); exact h rfl; exact h1 h)]
 exact if_pos h2
theorem d1V {n : Nat} {f : List Int} {log : Int} {first : Bool} {limit : Int} {sum : Nat} {h : HeadT} (hs : scanM f log first (limit - sum) = (0,h)) (h1 : ¬ f.length < 11 + h.2.2.1) (h2 : a3H h.1 h.2.1 h.2.2.1 (f.getD 11 0) = true) : a3a (n + 1) f log first limit sum = if h.2.2.2.1 = true then true else a3a n (f.drop (11 + h.2.2.1)) log false limit (sum + h.2.1):=by
 conv=>lhs; unfold a3a
 rw [hs]
 rw [if_neg (by rintro (h | h); exact h rfl; exact h1 h)]
 rw [if_neg (by rw [h2]; decide)]
theorem b1O {kd N Len : Nat} (h : a0v (kd : Nat) N Len = 0) (h2 : 2 <= kd) : 1 <= Len:=by
 have hm:=(b1y h).2.2.2.2
 unfold mayB at hm
 rw [if_neg (by omega),if_neg (by omega)] at hm
 have:=of_decide_eq_true hm
 omega
theorem d1W (kd N Len : Nat) (x : Int) :
    (kd < 2 /\ a3H kd N Len x = true) \/ (2 <= kd /\ 60 < N /\ a3H kd N Len x = false) \/ (2 <= kd /\ ¬ 60 < N /\ 100 < Len /\ a3H kd N Len x = false) \/ (2 <= kd /\ ¬ 60 < N /\ ¬ 100 < Len /\ 9 < x /\ a3H kd N Len x = false) \/ (2 <= kd /\ ¬ 60 < N /\ ¬ 100 < Len /\ ¬ 9 < x /\ a3H kd N Len x = true):=by
 unfold a3H
 by_cases h1 : 2 <= kd
 · by_cases h2 : 60 < N
   · exact .inr (.inl ⟨h1,h2,by simp [h1,h2]⟩)
   · by_cases h3 : 100 < Len
     · exact .inr (.inr (.inl ⟨h1,h2,h3,by simp [h1,h2,h3]⟩))
     · by_cases h4 : 9 < x
       · exact .inr (.inr (.inr (.inl ⟨h1,h2,h3,h4,by simp [h1,h2,h3,h4]⟩)))
       · exact .inr (.inr (.inr (.inr ⟨h1,h2,h3,h4,by simp [h1,h2,h3,h4]⟩)))
 · exact .inl ⟨by omega,by simp [h1]⟩
set_option maxRecDepth 100000 in
set_option maxHeartbeats 4000000 in
theorem a8v (A : Option Addr) (c : Nat) (f : List Int) (limit : Int) (w : World) (hf : BSl w A c f) (hl : f.length <= 140737488355328) (hL : limit < 4611686018427387904) :
    Calls Tryz.prog 44 #[.slice A f.length c,.int .i64 limit] w (λ e w'=>e = .returned (.bool (a1S f limit)) /\ Below w.heap.size w w'):=by
 have HHd:=Lib.hid (d1B A c f w hf hl)
 by_cases hh : headM f = 0
 · have h8:=b1B hh
   obtain ⟨hlg,-,-⟩:=b1A hh hf.by'
   obtain ⟨lg,hlg0⟩ : ∃ l,l = a1I f:=⟨_,rfl⟩
   rw [hh,<- hlg0] at HHd
   by_cases hn : limit < 0
   · have HS : Hid (a1S f limit = true):=Lib.hid (by unfold a1S; rw [if_pos (.inr hn)])
     clear hf hh hlg hlg0 h8
     go_enter Tryz.func44,Tryz.ntmps44
     go_wp2_with fail
     refine HHd.out.mono ?_
     rintro e w1 ⟨rfl,hb1⟩
     have HB1:=Lib.hid hb1
     clear hb1
     go_wp2_with fail
     go_ret
     rw [HS.out]
     exact ⟨rfl,HB1.out⟩
   · have HS : Hid (a1S f limit = a3a (f.length + 1) (f.drop 8) lg true limit 0):=Lib.hid (by
       unfold a1S
       rw [if_neg (by rintro (h | h); exact h hh; exact hn h),hlg0,hlg])
     have hnI : ¬ limit < 0:=hn
     obtain ⟨S,hS⟩ : ∃ S,S = a1S f limit:=⟨_,rfl⟩
     rw [<- hS] at HS ⊢
     have HF:=Lib.hid hf
     obtain ⟨n0,hn0⟩ : ∃ n,n = f.length:=⟨_,rfl⟩
     have HN0:=Lib.hid hn0
     rw [<- hn0] at HHd hl h8 ⊢
     have HN8:=Lib.hid h8
     clear hf hh hlg hlg0 hS hn h8 hn0
     go_enter Tryz.func44,Tryz.ntmps44
     go_wp2_with fail
     refine HHd.out.mono ?_
     rintro e w1 ⟨rfl,hb1⟩
     have HB1:=Lib.hid hb1
     clear hb1
     go_wp2_with fail
     go_loopw [7,8,9,10,11] (λ sv av bv _ _ wr=>∃ (n at' sum : Nat) (fb : Bool),sv = .int .i64 sum /\ av = .int .i64 at' /\ bv = .bool fb /\ at' <= n0 /\ Hid (a3a n (f.drop at') lg fb limit sum = S /\ n0 - at' < n /\ Below w.heap.size w wr /\ (sum : Int) <= limit)) (λ _ av _ _ _ _=>n0 - (intOf av).toNat)
     case atStart=>exact ⟨n0 + 1,8,0,true,rfl,rfl,rfl,HN8.out,Lib.hid ⟨by rw [HN0.out]; exact HS.out.symm,by omega,HB1.out,by show (0 : Int) <= limit; omega⟩⟩
     case round=>
      obtain ⟨n,at',sum,fb,rfl,rfl,rfl,hat,H⟩:=hrel
      obtain ⟨n,rfl⟩ : ∃ m,n = m + 1:=⟨n - 1,by have:=H.out.2.1; omega⟩
      have hw1 : IntKind.i64.wrap (limit - (sum : Int)) = limit - (sum : Int):=i64_in _ (by have:=H.out.2.2.2; omega)
      have hfw:=HF.out.below H.out.2.2.1
      have hsf:=a2c A f.length c at' (by have:=HN0.out; omega)
      have hdr:=hfw.from_ (k:=at') (by have:=HN0.out; omega)
      obtain ⟨Ad,hAd⟩ : ∃ Ad,Ad = (if c = at' then A else A.map (·.add (at' * 1))):=⟨_,rfl⟩
      rw [<- hAd] at hdr hsf
      have hdl : (f.drop at').length = n0 - at':=by rw [List.length_drop,<- HN0.out]
      rw [<- HN0.out,<- hdl] at hsf
      have hIn : (at' : Int) <= (n0 : Int):=by omega
      have hIc : (at' : Int) <= (c : Int):=by have:=hfw.cap; have:=HN0.out; omega
      have h11 : (f.drop at').getD 11 0 = f.getD (at' + 11) 0:=by rw [List.getD_eq_getElem?_getD,List.getElem?_drop,<- List.getD_eq_getElem?_getD]
      obtain ⟨r,hr⟩ : ∃ r,r = f.drop at':=⟨_,rfl⟩
      rw [<- hr] at hdr hsf hdl H h11
      have hHr:=Lib.hid hr
      have HSc:=Lib.hid (d1T Ad (c - at') r lg fb (limit - (sum : Int)) wr hdr.row hdr.by' (by omega))
      have hB:=λ h=>a8r hdr.by' (log:=lg) (room:=limit - (sum : Int)) (first:=fb) h
      obtain ⟨k,kd,N,Len,lb,sm,hSc⟩ : ∃ k kd N Len lb sm,scanM r lg fb (limit - (sum : Int)) = (k,kd,N,Len,lb,sm):=⟨_,_,_,_,_,_,rfl⟩
      have HScM:=Lib.hid hSc
      rw [hSc] at HSc hB
      dsimp only at hB
      unfold a6v headC at HSc
      dsimp only at HSc
      have HDl:=Lib.hid hdl
      have HDr:=Lib.hid hdr
      clear hSc hr hAd hdr
      by_cases hk : k = 0
      · subst hk
        obtain ⟨b11,bkd,bN,bLen,bsm,bck,brm⟩:=hB rfl
        have HBd:=Lib.hid (And.intro b11 (And.intro bN (And.intro bLen (And.intro brm (And.intro bck bkd)))))
        obtain ⟨z,hz⟩ : ∃ z,z = at' + 11:=⟨_,rfl⟩
        obtain ⟨v,hv⟩ : ∃ v,v = z + Len:=⟨_,rfl⟩
        have hw2 : IntKind.i64.wrap ((at' : Int) + 11) = (z : Int):=by rw [i64_in _ (by omega)]; omega
        have hw3 : IntKind.i64.wrap ((z : Int) + (Len : Int)) = (v : Int):=by rw [i64_in _ (by omega)]; omega
        have HZ:=Lib.hid (And.intro hz hv)
        have hw4 : IntKind.i64.wrap ((sum : Int) + (N : Int)) = (sum : Int) + (N : Int):=i64_in _ (by have:=H.out.2.2.2; omega)
        clear hB b11 bkd bN bLen bsm bck brm
        by_cases hL2 : r.length < 11 + Len
        · have hLI : (n0 : Int) < (v : Int):=by omega
          have HSt:=Lib.hid (b9c (n:=n) HScM.out (.inr hL2))
          clear hL2 hdl hz hv
          go_wp2_with fail
          refine HSc.out.mono ?_
          rintro e w2 ⟨rfl,hb2⟩
          obtain ⟨w3,hw3⟩ : ∃ w3,w3 = w2.alloc (.cells #[.int .i64 kd,.int .i64 N,.int .i64 Len,.bool lb,.int .u32 sm] 42):=⟨_,rfl⟩
          have hk3 : w3.heap[w2.heap.size]? = some (.cells #[.int .i64 kd,.int .i64 N,.int .i64 Len,.bool lb,.int .u32 sm] 42 (0,0)):=by rw [hw3]; exact a0i _ _
          have HB3 : Hid (Below w.heap.size w w3):=Lib.hid (by rw [hw3]; exact (H.out.2.2.1.trans (hb2.mono H.out.2.2.1.size)).alloc (Nat.le_trans H.out.2.2.1.size hb2.size) _)
          obtain ⟨g,hg⟩ : ∃ h,h = w2.heap.size:=⟨_,rfl⟩
          rw [<- hg] at hk3
          obtain ⟨⟨c0,c1,c2,c3,c4⟩,-⟩:=cell5 hk3
          clear hb2 hk3
          go_wp2_with fail
          rw [<- hw3,<- hg]
          clear hw3 hg
          go_wp2_with fail
          go_ret
          rw [<- H.out.1,HSt.out]
          exact ⟨rfl,HB3.out⟩
        · skip
          have hLI : ¬ (n0 : Int) < (v : Int):=by omega
          have HL2:=Lib.hid hL2
          have hcs:=d1W kd N Len (r.getD 11 0)
          have hx11 : 2 <= kd -> ∃ ad,A = some ad /\ wr.cell? (ad.add (at' + 11)) = some (.int .u8 (f.getD (at' + 11) 0)):=λ h2=>by
           have h1:=b1O HBd.out.2.2.2.2.1 h2
           obtain ⟨ad,hA,hcx⟩:=a0x hfw.row (at' + 11) (by have:=HN0.out; omega)
           exact ⟨ad,hA,hcx⟩
          have HX11:=Lib.hid hx11
          rw [h11] at hcs
          have HGo:=Lib.hid (λ h2=>d1V (n:=n) HScM.out hL2 h2)
          have HNo:=Lib.hid (λ h2=>d1U (n:=n) HScM.out hL2 h2)
          rw [h11] at HGo HNo
          have HRd : Hid (r.drop (11 + Len) = f.drop (at' + 11 + Len)):=Lib.hid (by rw [hHr.out,List.drop_drop]; congr 1; omega)
          clear hL2 hdl hx11 hfw h11 hz hv
          rcases hcs with ⟨h2,hbl⟩ | ⟨h2,h3,hbl⟩ | ⟨h2,h3,h4,hbl⟩ | ⟨h2,h3,h4,h5,hbl⟩ | ⟨h2,h3,h4,h5,hbl⟩
          · have q2 : decide ((2 : Int) <= (kd : Int)) = false:=decide_eq_false (by omega)
            clear h2
            go_wp2_with fail
            refine HSc.out.mono ?_
            rintro e w2 ⟨rfl,hb2⟩
            obtain ⟨w3,hw3⟩ : ∃ w3,w3 = w2.alloc (.cells #[.int .i64 kd,.int .i64 N,.int .i64 Len,.bool lb,.int .u32 sm] 42):=⟨_,rfl⟩
            have hk3 : w3.heap[w2.heap.size]? = some (.cells #[.int .i64 kd,.int .i64 N,.int .i64 Len,.bool lb,.int .u32 sm] 42 (0,0)):=by rw [hw3]; exact a0i _ _
            have hb3 : Below wr.heap.size wr w3:=by rw [hw3]; exact hb2.alloc hb2.size _
            have HB3 : Hid (Below w.heap.size w w3):=Lib.hid (H.out.2.2.1.trans (hb3.mono H.out.2.2.1.size))
            skip
            obtain ⟨g,hg⟩ : ∃ h,h = w2.heap.size:=⟨_,rfl⟩
            rw [<- hg] at hk3
            obtain ⟨⟨c0,c1,c2,c3,c4⟩,-⟩:=cell5 hk3
            clear hb2 hb3 hk3
            cases lb with
            | true=>
             go_wp2_with fail
             rw [<- hw3,<- hg]
             clear hw3 hg
             go_wp2_with fail
             go_ret
             rw [<- H.out.1,HGo.out hbl]
             exact ⟨rfl,HB3.out⟩
            | false=>
             go_wp2_with fail
             rw [<- hw3]
             clear hw3 hg
             go_roundw
             case rel=>exact ⟨n,v,sum + N,false,by go_num,by go_num,rfl,by have:=HZ.out; have:=HL2.out; have:=HDl.out; omega,Lib.hid ⟨by have h1:=H.out.1; rw [HGo.out hbl] at h1; rw [HZ.out.2,HZ.out.1,<- HRd.out]; simpa using h1,by have:=H.out.2.1; have:=HZ.out; have:=HL2.out; have:=HDl.out; omega,HB3.out,by have:=HBd.out; push_cast; omega⟩⟩
             case measure=>have:=HZ.out; have:=HL2.out; have:=HDl.out; simp [intOf]; omega
          · have q2 : decide ((2 : Int) <= (kd : Int)) = true:=decide_eq_true (by omega)
            have q3 : decide ((60 : Int) < (N : Int)) = true:=decide_eq_true (by omega)
            clear h2 h3
            go_wp2_with fail
            refine HSc.out.mono ?_
            rintro e w2 ⟨rfl,hb2⟩
            obtain ⟨w3,hw3⟩ : ∃ w3,w3 = w2.alloc (.cells #[.int .i64 kd,.int .i64 N,.int .i64 Len,.bool lb,.int .u32 sm] 42):=⟨_,rfl⟩
            have hk3 : w3.heap[w2.heap.size]? = some (.cells #[.int .i64 kd,.int .i64 N,.int .i64 Len,.bool lb,.int .u32 sm] 42 (0,0)):=by rw [hw3]; exact a0i _ _
            have hb3 : Below wr.heap.size wr w3:=by rw [hw3]; exact hb2.alloc hb2.size _
            have HB3 : Hid (Below w.heap.size w w3):=Lib.hid (H.out.2.2.1.trans (hb3.mono H.out.2.2.1.size))
            skip
            obtain ⟨g,hg⟩ : ∃ h,h = w2.heap.size:=⟨_,rfl⟩
            rw [<- hg] at hk3
            obtain ⟨⟨c0,c1,c2,c3,c4⟩,-⟩:=cell5 hk3
            clear hb2 hb3 hk3
            go_wp2_with fail
            rw [<- hw3,<- hg]
            clear hw3 hg
            go_wp2_with fail
            go_ret
            rw [<- H.out.1,HNo.out hbl]
            exact ⟨rfl,HB3.out⟩
          · have q2 : decide ((2 : Int) <= (kd : Int)) = true:=decide_eq_true (by omega)
            have q3 : decide ((60 : Int) < (N : Int)) = false:=decide_eq_false (by omega)
            have q4 : decide ((100 : Int) < (Len : Int)) = true:=decide_eq_true (by omega)
            clear h2 h3 h4
            go_wp2_with fail
            refine HSc.out.mono ?_
            rintro e w2 ⟨rfl,hb2⟩
            obtain ⟨w3,hw3⟩ : ∃ w3,w3 = w2.alloc (.cells #[.int .i64 kd,.int .i64 N,.int .i64 Len,.bool lb,.int .u32 sm] 42):=⟨_,rfl⟩
            have hk3 : w3.heap[w2.heap.size]? = some (.cells #[.int .i64 kd,.int .i64 N,.int .i64 Len,.bool lb,.int .u32 sm] 42 (0,0)):=by rw [hw3]; exact a0i _ _
            have hb3 : Below wr.heap.size wr w3:=by rw [hw3]; exact hb2.alloc hb2.size _
            have HB3 : Hid (Below w.heap.size w w3):=Lib.hid (H.out.2.2.1.trans (hb3.mono H.out.2.2.1.size))
            skip
            obtain ⟨g,hg⟩ : ∃ h,h = w2.heap.size:=⟨_,rfl⟩
            rw [<- hg] at hk3
            obtain ⟨⟨c0,c1,c2,c3,c4⟩,-⟩:=cell5 hk3
            clear hb2 hb3 hk3
            go_wp2_with fail
            rw [<- hw3,<- hg]
            clear hw3 hg
            go_wp2_with fail
            go_ret
            rw [<- H.out.1,HNo.out hbl]
            exact ⟨rfl,HB3.out⟩
          · have q2 : decide ((2 : Int) <= (kd : Int)) = true:=decide_eq_true (by omega)
            have q3 : decide ((60 : Int) < (N : Int)) = false:=decide_eq_false (by omega)
            have q4 : decide ((100 : Int) < (Len : Int)) = false:=decide_eq_false (by omega)
            obtain ⟨ad,rfl,hcx⟩:=HX11.out h2
            rw [<- HZ.out.1] at hcx
            have q6 : (z : Int) < (n0 : Int):=by have:=HZ.out; have:=b1O HBd.out.2.2.2.2.1 h2; have:=HL2.out; have:=HDl.out; omega
            rw [<- HZ.out.1] at HGo HNo hbl h5
            obtain ⟨x,hx⟩ : ∃ x,x = f.getD z 0:=⟨_,rfl⟩
            rw [<- hx] at hcx h5 HGo HNo hbl
            have hxb:=HF.out.by'.get z
            rw [<- hx] at hxb
            have q5 : decide ((9 : Int) < x) = true:=decide_eq_true (by omega)
            clear h2 h3 h4 h5 hx
            go_wp2_with fail
            refine HSc.out.mono ?_
            rintro e w2 ⟨rfl,hb2⟩
            obtain ⟨w3,hw3⟩ : ∃ w3,w3 = w2.alloc (.cells #[.int .i64 kd,.int .i64 N,.int .i64 Len,.bool lb,.int .u32 sm] 42):=⟨_,rfl⟩
            have hk3 : w3.heap[w2.heap.size]? = some (.cells #[.int .i64 kd,.int .i64 N,.int .i64 Len,.bool lb,.int .u32 sm] 42 (0,0)):=by rw [hw3]; exact a0i _ _
            have hb3 : Below wr.heap.size wr w3:=by rw [hw3]; exact hb2.alloc hb2.size _
            have HB3 : Hid (Below w.heap.size w w3):=Lib.hid (H.out.2.2.1.trans (hb3.mono H.out.2.2.1.size))
            have hx3 : (w2.alloc (.cells #[.int .i64 kd,.int .i64 N,.int .i64 Len,.bool lb,.int .u32 sm] 42)).cell? (ad.add z) = some (.int .u8 x):=by rw [<- hw3]; exact a0r hb3 hcx
            obtain ⟨g,hg⟩ : ∃ h,h = w2.heap.size:=⟨_,rfl⟩
            rw [<- hg] at hk3
            obtain ⟨⟨c0,c1,c2,c3,c4⟩,-⟩:=cell5 hk3
            clear hb2 hb3 hk3
            go_wp2_with fail
            rw [<- hw3,<- hg]
            clear hw3 hg
            go_wp2_with fail
            go_ret
            rw [<- H.out.1,HNo.out hbl]
            exact ⟨rfl,HB3.out⟩
          · have q2 : decide ((2 : Int) <= (kd : Int)) = true:=decide_eq_true (by omega)
            have q3 : decide ((60 : Int) < (N : Int)) = false:=decide_eq_false (by omega)
            have q4 : decide ((100 : Int) < (Len : Int)) = false:=decide_eq_false (by omega)
            obtain ⟨ad,rfl,hcx⟩:=HX11.out h2
            rw [<- HZ.out.1] at hcx
            have q6 : (z : Int) < (n0 : Int):=by have:=HZ.out; have:=b1O HBd.out.2.2.2.2.1 h2; have:=HL2.out; have:=HDl.out; omega
            rw [<- HZ.out.1] at HGo HNo hbl h5
            obtain ⟨x,hx⟩ : ∃ x,x = f.getD z 0:=⟨_,rfl⟩
            rw [<- hx] at hcx h5 HGo HNo hbl
            have hxb:=HF.out.by'.get z
            rw [<- hx] at hxb
            have q5 : decide ((9 : Int) < x) = false:=decide_eq_false (by omega)
            clear h2 h3 h4 h5 hx
            go_wp2_with fail
            refine HSc.out.mono ?_
            rintro e w2 ⟨rfl,hb2⟩
            obtain ⟨w3,hw3⟩ : ∃ w3,w3 = w2.alloc (.cells #[.int .i64 kd,.int .i64 N,.int .i64 Len,.bool lb,.int .u32 sm] 42):=⟨_,rfl⟩
            have hk3 : w3.heap[w2.heap.size]? = some (.cells #[.int .i64 kd,.int .i64 N,.int .i64 Len,.bool lb,.int .u32 sm] 42 (0,0)):=by rw [hw3]; exact a0i _ _
            have hb3 : Below wr.heap.size wr w3:=by rw [hw3]; exact hb2.alloc hb2.size _
            have HB3 : Hid (Below w.heap.size w w3):=Lib.hid (H.out.2.2.1.trans (hb3.mono H.out.2.2.1.size))
            have hx3 : (w2.alloc (.cells #[.int .i64 kd,.int .i64 N,.int .i64 Len,.bool lb,.int .u32 sm] 42)).cell? (ad.add z) = some (.int .u8 x):=by rw [<- hw3]; exact a0r hb3 hcx
            obtain ⟨g,hg⟩ : ∃ h,h = w2.heap.size:=⟨_,rfl⟩
            rw [<- hg] at hk3
            obtain ⟨⟨c0,c1,c2,c3,c4⟩,-⟩:=cell5 hk3
            clear hb2 hb3 hk3
            cases lb with
            | true=>
             go_wp2_with fail
             rw [<- hw3,<- hg]
             clear hw3 hg
             go_wp2_with fail
             go_ret
             rw [<- H.out.1,HGo.out hbl]
             exact ⟨rfl,HB3.out⟩
            | false=>
             go_wp2_with fail
             rw [<- hw3]
             clear hw3 hg
             go_roundw
             case rel=>exact ⟨n,v,sum + N,false,by go_num,by go_num,rfl,by have:=HZ.out; have:=HL2.out; have:=HDl.out; omega,Lib.hid ⟨by have h1:=H.out.1; rw [HGo.out hbl] at h1; rw [HZ.out.2,HZ.out.1,<- HRd.out]; simpa using h1,by have:=H.out.2.1; have:=HZ.out; have:=HL2.out; have:=HDl.out; omega,HB3.out,by have:=HBd.out; push_cast; omega⟩⟩
             case measure=>have:=HZ.out; have:=HL2.out; have:=HDl.out; simp [intOf]; omega
      · have hk2 : (k != 0) = true:=by simpa using hk
        have HSt:=Lib.hid (b9c (n:=n) HScM.out (.inl hk))
        clear hB hk hdl
        go_wp2_with fail
        refine HSc.out.mono ?_
        rintro e w2 ⟨rfl,hb2⟩
        have HB2:=Lib.hid (H.out.2.2.1.trans (hb2.mono H.out.2.2.1.size))
        clear hb2
        go_wp2_with fail
        go_ret
        rw [<- H.out.1,HSt.out]
        exact ⟨rfl,HB2.out.alloc HB2.out.size _⟩
 · have hk2 : (headM f != 0) = true:=by simpa using hh
   have HS : Hid (a1S f limit = true):=Lib.hid (by unfold a1S; rw [if_pos (.inl hh)])
   obtain ⟨k,hk⟩ : ∃ k,k = headM f:=⟨_,rfl⟩
   rw [<- hk] at HHd hk2
   obtain ⟨lg,hlg⟩ : ∃ k,k = a1I f:=⟨_,rfl⟩
   rw [<- hlg] at HHd
   clear hf hh hk hlg
   go_enter Tryz.func44,Tryz.ntmps44
   go_wp2_with fail
   refine HHd.out.mono ?_
   rintro e w1 ⟨rfl,hb1⟩
   have HB1:=Lib.hid hb1
   clear hb1
   go_wp2_with fail
   go_ret
   rw [HS.out]
   exact ⟨rfl,HB1.out⟩
theorem BSl.none_ (w : World) : BSl w none 0 []:=⟨(Kd.R_reads' (Kd.R_nil (Kd.int .u8) 5 w w.heap.size (λ _=>True))).2.2,Nat.le_refl _,λ _=>rfl,λ x hx=>by cases hx⟩
theorem BSl.apart {w : World} {A : Option Addr} {c p : Nat} {x : List Int} (h : BSl w A c x) (hp : w.heap.size <= p) : Apart p A x:=λ hn ad ha=>by
 have:=a5v h.row hn ha; omega
def kb (w0 : World) : Kd (List Int) where
 sz:=1
 E:=[]
 K:=λ _ x cs=>∃ A c,cs = [.slice A x.length c] /\ BSl w0 A c x
 M:=λ _ _ _ x cs=>∃ A c,cs = [.slice A x.length c] /\ BSl w0 A c x
 K_len:=by rintro w x cs ⟨A,c,rfl,_⟩; rfl
 K_one:=by rintro w x cs ⟨A,c,rfl,_⟩ u hu; rw [List.mem_singleton.1 hu]; rfl
 K_below:=λ _ h=>h
 K_of_M:=λ h=>h
 M_mono:=λ _ h=>h
 M_bound:=λ h=>h
 M_move:=λ _ h=>h
 M_lower:=λ _ h=>h
def cutsL : List Int -> List Nat -> List (List Int)
 | b,[]=>[b]
 | b,n :: l=>b.take (n % (b.length + 1)) :: cutsL (b.drop (n % (b.length + 1))) l
theorem d2k (q : List Int) (m : Nat) (r : List Nat) : cutsL q (m :: r) = q.take (m % (q.length + 1)) :: cutsL (q.drop (m % (q.length + 1))) r:=rfl
theorem b1R : ∀ (l : List Nat) (b : List Int),(cutsL b l).flatten = b
 | [],b=>by simp [cutsL]
 | n :: l,b=>by
  unfold cutsL
  rw [List.flatten_cons,b1R l,List.take_append_drop]
theorem a8x : ∀ (l : List Nat) (b : List Int),(cutsL b l).length = l.length + 1
 | [],_=>rfl
 | n :: l,b=>by unfold cutsL; rw [List.length_cons,a8x l,List.length_cons]
def a0w (L : List (List Int)) (i : Nat) : List Int:=(L.take i).flatten
theorem b1S (L : List (List Int)) {i : Nat} (h : i < L.length) : a0w L (i + 1) = a0w L i ++ L.getD i []:=by
 unfold a0w
 rw [List.take_succ_eq_append_getElem h,List.flatten_append,List.getD_eq_getElem?_getD,List.getElem?_eq_getElem h]
 simp
theorem a8y (L : List (List Int)) (i : Nat) : (a0w L i).length <= L.flatten.length:=by
 unfold a0w
 conv=>rhs; rw [<- List.take_append_drop i L,List.flatten_append,List.length_append]
 omega
theorem a8z {L : List (List Int)} (h : Bytes L.flatten) (i : Nat) : Bytes (a0w L i):=λ x hx=>by
 refine h x ?_
 have e : L.flatten = (L.take i).flatten ++ (L.drop i).flatten:=by rw [<- List.flatten_append,List.take_append_drop]
 rw [e]
 exact List.mem_append_left _ hx
theorem b1T {w0 w : World} {B n c : Nat} {A : Option Addr} {L : List (List Int)} (h : (kb w0).R 22 w B (λ _=>True) (.slice A n c) L) {i : Nat} (hi : i < L.length) :
    ∃ ad Ai ci,A = some ad /\ w.cell? (ad.add i) = some (.slice Ai (L.getD i []).length ci) /\ BSl w0 Ai ci (L.getD i []):=by
 obtain ⟨hn,-,hr⟩:=Kd.R_reads' h
 obtain ⟨ad,cs,ha,-,⟨Ai,ci,rfl,hb⟩,hc⟩:=ReadsRow.get_ hr ([] : List Int) (i : Int) (by omega) (by omega)
 rw [Int.toNat_natCast] at hb hc
 refine ⟨ad,Ai,ci,ha,?_,hb⟩
 have:=hc 0 _ rfl
 rw [show i * (kb w0).sz + 0 = i by show i * 1 + 0 = i; omega] at this
 exact this
theorem b9j : (Tryz.prog.info? 22).map (λ i=>(i.zero,i.size,i.bytes)) = some (some (.slice none 0 0),1,24):=by kernel_rfl
def natL (l : List Int) : List Nat:=l.map Int.toNat
set_option maxRecDepth 100000 in
set_option maxHeartbeats 2000000 in
theorem b9k (A Al : Option Addr) (c cl : Nat) (b l : List Int) (w0 w : World) (hb : BSl w0 A c b) (hl : (Kd.int .u16).C w Al l.length l) (_ : l.length <= cl) (hll : l.length <= 8) (hlw : ∀ x ∈ l,0 <= x /\ x < 65536) (hbl : b.length <= 100000) :
    Calls Tryz.prog 52 #[.slice A b.length c,.slice Al l.length cl] w (λ e w'=>∃ A' c',e = .returned (.slice A' (l.length + 1) c') /\ (kb w0).R 22 w' w.heap.size (λ _=>True) (.slice A' (l.length + 1) c') (cutsL b (natL l)) /\ Below w.heap.size w w'):=by
 have HX:=Lib.hid (And.intro hb (And.intro hl (And.intro hlw hbl)))
 clear hb hl hlw
 go_enter Tryz.func52,Tryz.ntmps52
 go_wp2_with fail
 go_loopw [0,5,6,7] (λ bv ov kv _ wr=>∃ (i : Nat) (Ao Ab : Option Addr) (co cb : Nat) (q : List Int),i <= l.length /\ bv = .slice Ab q.length cb /\ ov = .slice Ao i co /\ kv = .int .i64 i /\ q.length <= 100000 /\ Hid (∃ Lo,(kb w0).R 22 wr w.heap.size (λ _=>True) (.slice Ao i co) Lo /\ Lo.length = i /\ Lo ++ cutsL q (natL (l.drop i)) = cutsL b (natL l) /\ BSl w0 Ab cb q /\ Below w.heap.size w wr)) (λ _ _ kv _ _=>l.length - (intOf kv).toNat)
 case atStart=>exact ⟨0,none,A,0,c,b,by omega,rfl,rfl,rfl,HX.out.2.2.2,Lib.hid ⟨[],Kd.R_nil _ _ _ _ _,rfl,by rw [List.drop_zero]; rfl,HX.out.1,Below.refl _ _⟩⟩
 case round=>
  obtain ⟨i,Ao,Ab,co,cb,q,hi,rfl,rfl,rfl,hql,H⟩:=hrel
  obtain ⟨Lo,hO,hLo,hLT,hQ,hB⟩:=H.out
  by_cases hlt : i < l.length
  · obtain ⟨ad,hA,hci⟩:=a0x HX.out.2.1 i hlt
    subst hA
    have hx:=HX.out.2.2.1 _ (a1K hlt)
    obtain ⟨m,hm⟩ : ∃ m : Nat,l.getD i 0 = (m : Int):=⟨(l.getD i 0).toNat,by omega⟩
    have hnat : natL (l.drop i) = m :: natL (l.drop (i + 1)):=by
     have e : l[i] = (m : Int):=by rw [<- hm,List.getD_eq_getElem?_getD,List.getElem?_eq_getElem hlt]; rfl
     rw [List.drop_eq_getElem_cons hlt,e]
     unfold natL
     rw [List.map_cons,Int.toNat_natCast]
    rw [hm] at hci hx
    obtain ⟨n,hn⟩ : ∃ n,n = m % (q.length + 1):=⟨_,rfl⟩
    have hnq : n <= q.length:=by have:=Nat.mod_lt m (by omega : 0 < q.length + 1); omega
    rw [hnat] at hLT
    rw [d2k,<- hn] at hLT
    have hI : (i : Int) < (l.length : Int):=by omega
    have hwr : IntKind.i64.wrap (m : Int) = (m : Int):=i64_in _ (by omega)
    have hq1 : IntKind.i64.wrap ((q.length : Int) + 1) = (q.length : Int) + 1:=i64_in _ (by omega)
    have hm1 : (m : Int).tmod ((q.length : Int) + 1) = (n : Int):=by rw [Int.tmod_eq_emod_of_nonneg (by omega),hn]; simp
    have hm2 : (m : Int) % ((q.length : Int) + 1) = (n : Int):=by rw [hn]; simp
    have hz : ((q.length : Int) + 1 == 0) = false:=by simp; omega
    have hz2 : ¬ (q.length : Int) + 1 = 0:=by omega
    have hci':=a0r hB hci
    have hsl:=a3E Ab q.length cb n hnq hQ.cap
    have hsf:=a2c Ab q.length cb n hnq
    have htl : (q.take n).length = n:=by rw [List.length_take]; omega
    have hdl : (q.drop n).length = q.length - n:=List.length_drop
    have HT:=Lib.hid (show (kb w0).M wr w.heap.size (λ _=>False) (q.take n) [.slice Ab n cb] from ⟨Ab,cb,by rw [htl],hQ.cut hnq⟩)
    have HD:=Lib.hid (hQ.from_ hnq)
    obtain ⟨Ad,hAd⟩ : ∃ Ad,Ad = (if cb = n then Ab else Ab.map (·.add (n * 1))):=⟨_,rfl⟩
    rw [<- hAd] at HD hsf
    obtain ⟨qd,hqd⟩ : ∃ qd,qd = q.drop n:=⟨_,rfl⟩
    obtain ⟨qt,hqt⟩ : ∃ qt,qt = q.take n:=⟨_,rfl⟩
    rw [<- hqd] at HD hdl hLT
    rw [<- hqt] at HT hLT
    rw [<- hdl] at hsf
    have HO:=Lib.hid hO
    have HB:=Lib.hid hB
    have HN:=Lib.hid (And.intro hLo hLT)
    have HZ : Hid ((Lo.length + 1) * 24 <= 140737488355328):=Lib.hid (by omega)
    have hqd2 : qd.length <= 100000:=by omega
    clear hO hB hLo hLT hQ hci hx hm hn hnq hnat hAd hqd hqt htl hdl hlt H
    go_wp2_with (at_builtin; refine a8T (kb w0) (w0:=w) (W:=wr) rfl _ _ 66 22 (.slice none 0 0) 24 rfl Tryz.underlying66 b9j rfl Nat.one_pos (by decide) (.slice Ao i co) Lo qt [.slice Ab n cb] rfl rfl HT.out HO.out HB.out HZ.out ?_; intro v1 w3 hr3 hb3 _ _; obtain ⟨A3,c3,rfl⟩:=Kd.R_slice hr3; have HR:=Lib.hid (And.intro hr3 hb3); clear hr3 hb3)
    go_roundw
    case rel=>exact ⟨i + 1,A3,Ad,c3,cb - n,qd,by omega,rfl,by rw [HN.out.1],by go_num,hqd2,Lib.hid ⟨Lo ++ [qt],by have:=HR.out.1; rw [List.length_append,HN.out.1] at this; exact this,by rw [List.length_append,HN.out.1]; rfl,by rw [List.append_assoc]; exact HN.out.2,HD.out,HR.out.2⟩⟩
    case measure=>simp [intOf]; omega
  · obtain rfl : i = l.length:=by omega
    rw [List.drop_length] at hLT
    have HT:=Lib.hid (show (kb w0).M wr w.heap.size (λ _=>False) q [.slice Ab q.length cb] from ⟨Ab,cb,rfl,hQ⟩)
    have HO:=Lib.hid hO
    have HB:=Lib.hid hB
    have HN:=Lib.hid (And.intro hLo (show Lo ++ [q] = cutsL b (natL l) from hLT))
    have HZ : Hid ((Lo.length + 1) * 24 <= 140737488355328):=Lib.hid (by omega)
    clear hO hB hLo hLT hQ hlt H
    go_wp2_with (at_builtin; refine a8T (kb w0) (w0:=w) (W:=wr) rfl _ _ 66 22 (.slice none 0 0) 24 rfl Tryz.underlying66 b9j rfl Nat.one_pos (by decide) (.slice Ao l.length co) Lo q [.slice Ab q.length cb] rfl rfl HT.out HO.out HB.out HZ.out ?_; intro v1 w3 hr3 hb3 _ _; obtain ⟨A3,c3,rfl⟩:=Kd.R_slice hr3; have HR:=Lib.hid (And.intro hr3 hb3); clear hr3 hb3)
    go_ret
    have e : (cutsL b (natL l)).length = l.length + 1:=by rw [a8x]; unfold natL; rw [List.length_map]
    refine ⟨A3,c3,?_,?_,HR.out.2⟩
    · rw [<- HN.out.1]; rfl
    · have h3:=HR.out.1
      rw [HN.out.2,e] at h3
      exact h3
theorem a4J {n : Int} (h : (Lit.int .u16 n).wf = true) : 0 <= n /\ n < 65536:=by
 have a : IntKind.u16.min = 0:=rfl
 have b : IntKind.u16.max = 65535:=rfl
 simp only [Lit.wf,a,b,Bool.and_eq_true,decide_eq_true_eq] at h
 omega
open Go.Proofs.YtflfjpkmjnnodaaGreatW.PrintMore
theorem b9m {n : Int} (h : (Lit.int .u32 n).wf = true) : 0 <= n /\ n < 4294967296:=by
 have a : IntKind.u32.min = 0:=rfl
 have b : IntKind.u32.max = 4294967295:=rfl
 simp only [Lit.wf,a,b,Bool.and_eq_true,decide_eq_true_eq] at h
 omega
theorem d2q {p q : Nat} {a b : World} (h : Only (λ k=>k = p) a b) : Only (λ k=>k = p \/ k = q) a b:=h.mono (λ _ _ h=>.inl h)
theorem b9n {p q : Nat} {a b : World} (h : Only (λ k=>k = q) a b) : Only (λ k=>k = p \/ k = q) a b:=h.mono (λ _ _ h=>.inr h)
set_option maxRecDepth 100000 in
set_option maxHeartbeats 4000000 in
theorem d2r (A : Option Addr) (ca : Nat) (f : List Int) (lm at' : Nat) (w : World) (hf : BSl w A ca f) (hl : f.length <= 300) (hlm : lm < 4294967296) (hat : at' < 65536) :
    Calls Tryz.prog 18 #[.slice A f.length ca,.int .u32 lm,.int .u16 at'] w (Ret (.bool true) w):=by
 have d1 : decide (300 < (f.length : Int)) = false:=decide_eq_false (by omega)
 have q0 : IntKind.i64.wrap (lm : Int) = (lm : Int):=i64_in _ (by omega)
 have HLt : Hid (∀ W,Below w.heap.size w W -> Calls Tryz.prog 44 #[.slice A f.length ca,.int .i64 lm] W (λ e w'=>e = .returned (.bool (a1S f lm)) /\ Below W.heap.size W w')):=Lib.hid (λ W hW=>a8v A ca f lm W (hf.below hW) (by omega) (by omega))
 obtain ⟨lt,hlt⟩ : ∃ l,l = a1S f lm:=⟨_,rfl⟩
 rw [<- hlt] at HLt
 cases lt with
 | false=>
  clear hf hl hlm hat hlt
  go_enter Tryz.func18,Tryz.ntmps18
  go_wp2_with fail
  refine (a4I w).mono ?_
  rintro e w1 ⟨rfl,hb1⟩
  have HB1:=Lib.hid hb1
  have H1:=Lib.hid (HLt.out w1 hb1)
  clear hb1
  go_wp2_with fail
  refine H1.out.mono ?_
  rintro e w2 ⟨rfl,hb2⟩
  have HB2:=Lib.hid (a0h HB1.out hb2)
  clear hb2
  go_wp2_with fail
  go_ret
  exact ⟨rfl,HB2.out⟩
 | true=>
  obtain ⟨m,hm⟩ : ∃ m,m = f.length + 1:=⟨_,rfl⟩
  obtain ⟨k,hk⟩ : ∃ k,k = at' % m:=⟨_,rfl⟩
  have hkl : k <= f.length:=by have : k < m:=by rw [hk]; exact Nat.mod_lt _ (by omega)
                               omega
  have q1 : IntKind.i64.wrap ((f.length : Int) + 1) = (m : Int):=by rw [i64_in _ (by omega)]; omega
  have q2 : (at' : Int).tmod (m : Int) = (k : Int):=by rw [Int.tmod_eq_emod_of_nonneg (by omega),hk]; simp
  have q3 : (at' : Int) % (m : Int) = (k : Int):=by rw [hk]; simp
  have q4 : IntKind.i64.wrap (at' : Int) = (at' : Int):=i64_in _ (by omega)
  have q5 : IntKind.i64.wrap (k : Int) = (k : Int):=i64_in _ (by omega)
  have q6 : (m : Int) ≠ 0:=by omega
  have q7 : ((m : Int) == 0) = false:=by simp; omega
  have hsl:=a3E A f.length ca k hkl hf.cap
  have hsf:=a2c A f.length ca k hkl
  have hkI : (k : Int) <= (f.length : Int):=by omega
  have hkc : (k : Int) <= (ca : Int):=by have:=hf.cap; omega
  obtain ⟨Ad,hAd⟩ : ∃ Ad,Ad = (if ca = k then A else A.map (·.add (k * 1))):=⟨_,rfl⟩
  have hdr:=hf.from_ (k:=k) hkl
  have hcu:=hf.cut (k:=k) hkl
  rw [<- hAd] at hsf hdr
  have htl : (f.take k).length = k:=by rw [List.length_take]; omega
  have hdl : f.length - k = (f.drop k).length:=List.length_drop.symm
  have hxr : f.take k ++ f.drop k = f:=List.take_append_drop _ _
  obtain ⟨y2,hy2⟩:=b1L (lim:=(lm : Int)) (by omega) hcu.by' (f.drop k) hdr.by'
  obtain ⟨x0,hx0⟩ : ∃ x,x = f.take k:=⟨_,rfl⟩
  obtain ⟨r0,hr0⟩ : ∃ x,x = f.drop k:=⟨_,rfl⟩
  rw [<- hx0] at hcu htl hxr hy2
  rw [<- hr0] at hdr hdl hxr hy2
  rw [hxr] at hy2
  rw [hdl] at hsf
  obtain ⟨k1,y1,hP1⟩ : ∃ k1 y1,a0o x0 lm = (k1,y1):=⟨_,_,rfl⟩
  obtain ⟨k2,hk2⟩ : ∃ k2,k2 = (a0o f lm).1:=⟨_,rfl⟩
  rw [hP1] at hy2
  dsimp only at hy2
  have hP2 : a0o f lm = (k2,y1 ++ y2):=by rw [<- hy2,hk2]
  obtain ⟨e1,he1⟩ : ∃ e,e = errF k1:=⟨_,rfl⟩
  obtain ⟨e2,he2⟩ : ∃ e,e = errF k2:=⟨_,rfl⟩
  have hyb:=(a5E (lm : Int) hf.by').1
  rw [show (pullR (lm : Int) f).2.x = y1 ++ y2 by rw [a2o (by omega)] at hP2; injection hP2] at hyb
  have HP:=Lib.hid (And.intro hP1 (And.intro hP2 (And.intro htl (And.intro hdl (And.intro hxr (And.intro he1 (And.intro he2 (And.intro hcu (And.intro hdr (And.intro hf hyb))))))))))
  have hN:=λ W : World=>b8Z lm W (by omega)
  have HN:=Lib.hid hN
  have HL:=Lib.hid hl
  have t1 : (e1 == e1) = true:=beq_self_eq_true e1
  have t2 : (e2 == e2) = true:=beq_self_eq_true e2
  have t3 : (k2 == k2) = true:=beq_self_eq_true k2
  clear hf hl hat hlt hm hk hkl hAd hdr hcu htl hdl hxr hy2 hx0 hr0 hP1 hP2 hk2 he1 he2 hyb hN
  go_enter Tryz.func18,Tryz.ntmps18
  go_wp2_with fail
  refine (a4I w).mono ?_
  rintro e w1 ⟨rfl,hb1⟩
  have HB1:=Lib.hid hb1
  have H1:=Lib.hid (HLt.out w1 hb1)
  clear hb1
  go_wp2_with fail
  refine H1.out.mono ?_
  rintro e w2 ⟨rfl,hb2⟩
  have HB2:=Lib.hid (a0h HB1.out hb2)
  clear hb2
  go_wp2_with fail
  refine (HN.out w2).mono ?_
  rintro e w3 ⟨p,tp,rfl,hk3,ht3,hwt3,htp3,hb3⟩
  have H3:=Lib.hid (And.intro hk3 (And.intro ht3 (And.intro hwt3 (And.intro htp3 hb3))))
  clear hk3 ht3 hwt3 htp3 hb3
  go_wp2_with fail
  refine (HN.out w3).mono ?_
  rintro e w4 ⟨q,tq,rfl,hk4,ht4,hwt4,htp4,hb4⟩
  have hp3:=a0f H3.out.1
  have hb24 : Below w2.heap.size w2 w4:=a0h H3.out.2.2.2.2 hb4
  have hb04 : Below w.heap.size w w4:=a0h HB2.out hb24
  have hpw : w.heap.size <= p /\ w.heap.size <= q:=by have:=HB2.out.size; have:=H3.out.2.2.1; have:=H3.out.2.2.2.1; have:=H3.out.2.2.2.2.size; omega
  have hst : PullSt p (p + 1) lm [] w4:=b1J (a0g H3.out.1 hb4) (a0g H3.out.2.1 hb4) H3.out.2.2.2.1 (Nat.lt_succ_self _)
  have H4:=Lib.hid (And.intro hk4 (And.intro ht4 (And.intro hwt4 (And.intro htp4 (And.intro hb04 (And.intro hp3 hpw))))))
  have a1:=HP.out.2.2.2.2.2.2.2.1.off hpw.1
  have a2:=HP.out.2.2.2.2.2.2.2.2.1.off hpw.1
  have a3:=HP.out.2.2.2.2.2.2.2.1.off hpw.2
  have a4:=HP.out.2.2.2.2.2.2.2.2.1.off hpw.2
  have hF1:=a2E p (p + 1) lm [] x0 x0 (k:=k1) (y:=y1) (X:=[]) A ca w4 hst (by omega) (by omega) (λ z hz=>by cases hz) (HP.out.2.2.2.2.2.2.2.1.below hb04) a1 (by rw [HP.out.2.2.1]; simp; have:=HL.out; omega) rfl (by rw [a2o (by omega)]; rfl) (by rw [HP.out.1]; rfl)
  unfold PFed at hF1
  rw [HP.out.2.2.1,<- HP.out.2.2.2.2.2.1] at hF1
  have HF1:=Lib.hid hF1
  have HA:=Lib.hid (And.intro a1 (And.intro a2 (And.intro a3 a4)))
  clear hk4 ht4 hwt4 htp4 hb4 hp3 hb24 hb04 hpw hst a1 a2 a3 a4 hF1
  go_wp2_with fail
  refine HF1.out.mono ?_
  rintro e w5 ⟨A5,c5,rfl,hr5,hs5,ho5⟩
  have hF2:=a2E p w4.heap.size lm x0 r0 f (k:=k2) (y:=y2) (X:=y1) Ad (ca - k) w5 hs5 (by omega) (by omega) HP.out.2.2.2.2.2.2.2.1.by' ((HP.out.2.2.2.2.2.2.2.2.1.below H4.out.2.2.2.2.1).below' ho5 HA.out.2.1) HA.out.2.1 (by have h:=congrArg List.length HP.out.2.2.2.2.1; rw [List.length_append] at h; have:=HL.out; omega) HP.out.2.2.2.2.1 (by rw [HP.out.1]) HP.out.2.1
  unfold PFed at hF2
  rw [<- HP.out.2.2.2.2.2.2.1] at hF2
  have HF2:=Lib.hid hF2
  have H5:=Lib.hid (And.intro hr5 ho5)
  clear hr5 hs5 ho5 hF2
  go_wp2_with fail
  refine HF2.out.mono ?_
  rintro e w6 ⟨A6,c6,rfl,hr6,hs6,ho6⟩
  have ho46 : Only (λ k=>k = p) w4 w6:=H5.out.2.trans ho6
  have hq6 : PullSt q (q + 1) lm [] w6:=by
   have h1:=H4.out.2.2.2.2.2.1
   have h2:=H4.out.2.2.1
   have h3:=H4.out.2.2.2.1
   exact b1J ((ho46.block q (a0f H4.out.1) (by omega)).trans H4.out.1) ((ho46.block tq (a0f H4.out.2.1) (by omega)).trans H4.out.2.1) h3 (Nat.lt_succ_self _)
  obtain ⟨cp,-⟩:=hs6.cells (by omega)
  rw [HP.out.2.1] at cp
  have hF3:=a2E q (q + 1) lm [] [] [] (k:=3) (y:=[]) (X:=[]) none 0 w6 hq6 (by omega) (by omega) (λ z hz=>by cases hz) (BSl.empty_ _) (λ h=>absurd h (Nat.lt_irrefl 0)) (by simp) rfl (by rw [a2o (by omega)]; rfl) (by rw [a2o (by omega)]; rfl)
  have HF3:=Lib.hid (show Calls _ _ #[_,.slice none 0 0] _ _ from hF3)
  have H6:=Lib.hid (And.intro hr6 (And.intro ho46 (And.intro ho6 (And.intro cp (a0f H4.out.1)))))
  clear hr6 hs6 ho6 ho46 hq6 cp hF3
  go_wp2_with fail
  refine HF3.out.mono ?_
  rintro e w7 ⟨A7,c7,rfl,-,hs7,ho7⟩
  have ho47 : Only (λ k=>k = p \/ k = q) w4 w7:=(d2q H6.out.2.1).trans (b9n ho7)
  have hF4:=a2E q w6.heap.size lm [] x0 x0 (k:=k1) (y:=y1) (X:=[]) A ca w7 hs7 (by omega) (by omega) (λ z hz=>by cases hz) (((HP.out.2.2.2.2.2.2.2.1.below H4.out.2.2.2.2.1).below' H6.out.2.1 HA.out.1).below' ho7 HA.out.2.2.1) HA.out.2.2.1 (by rw [HP.out.2.2.1]; simp; have:=HL.out; omega) rfl (by rw [a2o (by omega)]; rfl) (by rw [HP.out.1]; rfl)
  unfold PFed at hF4
  rw [HP.out.2.2.1,<- HP.out.2.2.2.2.2.1] at hF4
  have HF4:=Lib.hid hF4
  have H7:=Lib.hid (And.intro ho7 ho47)
  have l0 : (([] : List Int).length : Int) = 0:=rfl
  clear hs7 ho7 ho47 hF4
  unfold errF
  go_wp2_with fail
  refine HF4.out.mono ?_
  rintro e w8 ⟨A8,c8,rfl,hr8,hs8,ho8⟩
  have hF5:=a2E q w7.heap.size lm x0 [] x0 (k:=k1) (y:=[]) (X:=y1) none 0 w8 hs8 (by omega) (by omega) HP.out.2.2.2.2.2.2.2.1.by' (BSl.empty_ _) (λ h=>absurd h (Nat.lt_irrefl 0)) (by rw [HP.out.2.2.1]; simp; have:=HL.out; have:=HP.out.2.2.2.1; omega) (List.append_nil _) (by rw [HP.out.1]) (by rw [HP.out.1,List.append_nil])
  unfold PFed at hF5
  rw [<- HP.out.2.2.2.2.2.1] at hF5
  have HF5:=Lib.hid (show Calls _ _ #[_,.slice none 0 0] _ _ from hF5)
  have H8:=Lib.hid (And.intro hr8 ho8)
  clear hr8 hs8 ho8 hF5
  go_wp2_with fail
  refine HF5.out.mono ?_
  rintro e w9 ⟨A9,c9,rfl,-,hs9,ho9⟩
  have hF6:=a2E q w8.heap.size lm x0 r0 f (k:=k2) (y:=y2) (X:=y1) Ad (ca - k) w9 hs9 (by omega) (by omega) HP.out.2.2.2.2.2.2.2.1.by' (((((HP.out.2.2.2.2.2.2.2.2.1.below H4.out.2.2.2.2.1).below' H6.out.2.1 HA.out.2.1).below' H7.out.1 HA.out.2.2.2).below' H8.out.2 HA.out.2.2.2).below' ho9 HA.out.2.2.2) HA.out.2.2.2 (by have h:=congrArg List.length HP.out.2.2.2.2.1; rw [List.length_append] at h; have:=HL.out; omega) HP.out.2.2.2.2.1 (by rw [HP.out.1]) HP.out.2.1
  unfold PFed at hF6
  rw [<- HP.out.2.2.2.2.2.2.1] at hF6
  have HF6:=Lib.hid hF6
  have H9:=Lib.hid ho9
  clear hs9 ho9 hF6
  go_wp2_with fail
  refine HF6.out.mono ?_
  rintro e wx ⟨Ax,cx,rfl,hrx,hsx,hox⟩
  obtain ⟨cq,-⟩:=hsx.cells (by omega)
  rw [HP.out.2.1] at cq
  have h1:=H4.out.2.2.2.2.2.1
  have h2:=H4.out.2.2.1
  have h3:=H4.out.2.2.2.1
  have h46:=H6.out.2.1.size
  have hq4:=H6.out.2.2.2.2
  have h67:=H7.out.1.size
  have h78:=H8.out.2.size
  have ho6x : Only (λ k=>k = q) w6 wx:=((H7.out.1.trans H8.out.2).trans H9.out).trans hox
  have ho8x : Only (λ k=>k = q) w8 wx:=H9.out.trans hox
  have hp6 : p < w6.heap.size:=by omega
  have r5 : (Kd.int .u8).R 5 wx w4.heap.size (λ _=>True) (.slice A5 y1.length c5) y1:=a1w (a1w H5.out.1 H6.out.2.2.1 (λ j hj h=>by omega)) ho6x (λ j hj h=>by omega)
  have r6 : (Kd.int .u8).R 5 wx w5.heap.size (λ _=>True) (.slice A6 y2.length c6) y2:=a1w H6.out.1 ho6x (λ j hj h=>by have:=H5.out.2.size; omega)
  have r8 : (Kd.int .u8).R 5 wx w7.heap.size (λ _=>True) (.slice A8 y1.length c8) y1:=a1w H8.out.1 ho8x (λ j hj h=>by omega)
  have hb1 : Bytes y1:=λ z hz=>HP.out.2.2.2.2.2.2.2.2.2.2 z (List.mem_append_left _ hz)
  have hb2 : Bytes y2:=λ z hz=>HP.out.2.2.2.2.2.2.2.2.2.2 z (List.mem_append_right _ hz)
  have HS1:=Lib.hid (a6l A5 A8 c5 c8 y1 wx (Kd.R_reads' r5).2.2 (Kd.R_reads' r8).2.2 hb1)
  have HS2:=Lib.hid (a6l A6 Ax c6 cx y2 wx (Kd.R_reads' r6).2.2 (Kd.R_reads' hrx).2.2 hb2)
  have HFp:=Lib.hid (a5G p k2 wx (by
   have hc:=ho6x.block p hp6 (by omega)
   have:=H6.out.2.2.2.1
   unfold World.cell? at this ⊢
   rw [hc]; exact this))
  have HFq:=Lib.hid (a5G q k2 wx cq)
  have HFin : Hid (Below w.heap.size w wx):=Lib.hid (H4.out.2.2.2.2.1.trans (((H7.out.2.trans (b9n (H8.out.2.trans ho8x)))).below H4.out.2.2.2.2.1.size (λ j hj=>by have:=H4.out.2.2.2.2.2.2; omega)))
  clear hrx hsx hox cq h1 h2 h3 h46 hq4 h67 h78 ho6x ho8x hp6 r5 r6 r8 hb1 hb2
  go_wp2_with fail
  refine HS1.out.mono ?_
  rintro e wy ⟨rfl,rfl⟩
  go_wp2_with fail
  refine HS2.out.mono ?_
  rintro e wy ⟨rfl,rfl⟩
  go_wp2_with fail
  refine HFp.out.mono ?_
  rintro e wy ⟨rfl,rfl⟩
  go_wp2_with fail
  refine HFq.out.mono ?_
  rintro e wy ⟨rfl,rfl⟩
  go_wp2_with fail
  refine HFq.out.mono ?_
  rintro e wy ⟨rfl,rfl⟩
  go_wp2_with fail
  refine HFq.out.mono ?_
  rintro e wy ⟨rfl,rfl⟩
  go_wp2_with fail
  go_ret
  exact ⟨rfl,HFin.out⟩
set_option maxRecDepth 100000 in
theorem d2s (A : Option Addr) (ca : Nat) (f : List Int) (lm at' : Int) (w : World) (hr : (Kd.int .u8).C w A f.length f) (hc : f.length <= ca) (hby : Bytes f) (hbig : f.length * 1 <= 140737488351232) (hnil : A = none -> ca = 0) (hm : (Lit.int .u32 lm).wf = true) (ha : (Lit.int .u16 at').wf = true) :
    Calls Tryz.prog 18 #[.slice A f.length ca,.int .u32 lm,.int .u16 at'] w (Ret (.bool true) w):=by
 have hm2:=b9m hm
 have ha2:=a4J ha
 obtain ⟨k,rfl⟩ : ∃ k : Nat,lm = k:=⟨lm.toNat,by omega⟩
 obtain ⟨g,rfl⟩ : ∃ k : Nat,at' = k:=⟨at'.toNat,by omega⟩
 by_cases h1 : f.length <= 300
 · exact d2r A ca f k g w ⟨hr,hc,hnil,hby⟩ h1 (by omega) (by omega)
 · have d1 : decide (300 < (f.length : Int)) = true:=decide_eq_true (by omega)
   have q1 : IntKind.i64.wrap (k : Int) = (k : Int):=i64_in _ (by omega)
   have HLt : Hid (∀ W,Below w.heap.size w W -> Calls Tryz.prog 44 #[.slice A f.length ca,.int .i64 k] W (λ e w'=>e = .returned (.bool (a1S f k)) /\ Below W.heap.size W w')):=Lib.hid (λ W hW=>a8v A ca f k W (BSl.below ⟨hr,hc,hnil,hby⟩ hW) (by omega) (by omega))
   obtain ⟨lt,hlt⟩ : ∃ l,l = a1S f k:=⟨_,rfl⟩
   rw [<- hlt] at HLt
   clear hr hc hby hbig hnil hm hm2 h1 hlt ha ha2
   go_enter Tryz.func18,Tryz.ntmps18
   go_wp2_with fail
   refine (a4I w).mono ?_
   rintro e w1 ⟨rfl,hb1⟩
   have HB1:=Lib.hid hb1
   have H1:=Lib.hid (HLt.out w1 hb1)
   clear hb1
   go_wp2_with fail
   refine H1.out.mono ?_
   rintro e w2 ⟨rfl,hb2⟩
   have HB2:=Lib.hid (a0h HB1.out hb2)
   clear hb2
   go_wp2_with fail
   go_ret
   exact ⟨rfl,HB2.out⟩
structure PbRel (p : Nat) (lim : Int) (Ls : List (List Int)) (W0 : World) (i : Nat) (Lo : List Int) (Ao : Option Addr) (co : Nat) (W : World) : Prop where
 out : (Kd.int .u8).R 5 W W0.heap.size (λ _=>True) (.slice Ao Lo.length co) Lo
 st : ∃ b0,PullSt p b0 lim (a0w Ls i) W
 lo : Lo = (a0o (a0w Ls i) lim).2
 on : Only (λ k=>k = p) W0 W
theorem PbRel.next {p : Nat} {lim : Int} {Ls : List (List Int)} {W0 W W1 W2 : World} {i : Nat} {Lo y : List Int} {Ao A2 : Option Addr} {co c2 : Nat}
    (hst : PullSt p W.heap.size lim (a0w Ls (i + 1)) W1) (hp : p < W0.heap.size) (h : PbRel p lim Ls W0 i Lo Ao co W) (hon : Only (λ k=>k = p) W W1) (hb : Below W0.heap.size W1 W2) (hg : W1.grownBy W2 (Value.slice Ao Lo.length co).ownBlock)
    (hr : (Kd.int .u8).R 5 W2 W0.heap.size (λ _=>True) (.slice A2 (Lo ++ y).length c2) (Lo ++ y)) (hlo : Lo ++ y = (a0o (a0w Ls (i + 1)) lim).2) : PbRel p lim Ls W0 (i + 1) (Lo ++ y) A2 c2 W2:=
 ⟨hr,⟨W.heap.size,hst.grown hg (λ k hk=>by have:=((Kd.R_bound h.out).1 k hk).2; omega)⟩,hlo,(h.on.trans hon).behind hb (Nat.le_refl _)⟩
theorem b9q (L : List (List Int)) (j : Nat) : L.flatten.take (a0w L j).length = a0w L j:=by
 have e : L.flatten = a0w L j ++ (L.drop j).flatten:=by unfold a0w; rw [<- List.flatten_append,List.take_append_drop]
 conv=>lhs; rw [e]
 rw [List.take_append_of_le_length (Nat.le_refl _),List.take_length]
theorem d2z (f : List Int) (lim : Int) : (a2B f lim).1 = (a0o f lim).1:=by
 by_cases h : (a0o f lim).1 = 0
 · rw [b8S h]
 · rw [b8T h]
theorem b9r {k : Int} (h : k ≠ 3) : errF k = k:=by unfold errF; exact if_neg h
set_option maxRecDepth 100000 in
set_option maxHeartbeats 4000000 in
theorem d2A (A B : Option Addr) (ca cb : Nat) (f cuts : List Int) (lm : Nat) (w : World) (hf : BSl w A ca f) (hc : (Kd.int .u16).C w B cuts.length cuts) (hcc : cuts.length <= cb) (hcw : ∀ x ∈ cuts,0 <= x /\ x < 65536) (hl : f.length <= 300) (hcl : cuts.length <= 8) (hlm : lm < 4294967296) (hlt : a1S f lm = true) :
    Calls Tryz.prog 19 #[.slice A f.length ca,.int .u32 lm,.slice B cuts.length cb] w (Ret (.bool true) w):=by
 have d1 : decide (300 < (f.length : Int)) = false:=decide_eq_false (by omega)
 have d2 : decide (8 < (cuts.length : Int)) = false:=decide_eq_false (by omega)
 have q0 : IntKind.i64.wrap (lm : Int) = (lm : Int):=i64_in _ (by omega)
 have HLt : Hid (∀ W,Below w.heap.size w W -> Calls Tryz.prog 44 #[.slice A f.length ca,.int .i64 lm] W (λ e w'=>e = .returned (.bool true) /\ Below W.heap.size W w')):=Lib.hid (λ W hW=>by
  have h:=a8v A ca f lm W (hf.below hW) (by omega) (by omega)
  rw [hlt] at h; exact h)
 have HX:=Lib.hid (And.intro hf (And.intro hc (And.intro hcw hcc)))
 have HL:=Lib.hid hl
 have hfc:=hf.cap
 clear hf hc hcw hcc hlt
 go_enter Tryz.func19,Tryz.ntmps19
 go_wp2_with fail
 refine (a4I w).mono ?_
 rintro e w1 ⟨rfl,hb1⟩
 have HB1:=Lib.hid hb1
 have H1:=Lib.hid (HLt.out w1 hb1)
 clear hb1
 go_wp2_with fail
 refine H1.out.mono ?_
 rintro e w3 ⟨rfl,hb3⟩
 have HB3:=Lib.hid (a0h HB1.out hb3)
 have HN:=Lib.hid (b1K lm w3 (by omega))
 clear hb3
 go_wp2_with fail
 refine HN.out.mono ?_
 rintro e w4 ⟨p,rfl,hs4,hp4,hb4⟩
 have H4:=Lib.hid (And.intro hs4 (And.intro hp4 (And.intro hb4 (Nat.le_trans HB3.out.size hp4))))
 have HC:=Lib.hid (b9k A B ca cb f cuts w w4 HX.out.1 (Kd.C_below (Kd.C_below HX.out.2.1 HB3.out) hb4) HX.out.2.2.2 hcl HX.out.2.2.1 (by omega))
 clear hs4 hp4 hb4
 go_wp2_with fail
 refine HC.out.mono ?_
 rintro e w5 ⟨A5,c5,rfl,hl5,hb5⟩
 have hLl : (cutsL f (natL cuts)).length = cuts.length + 1:=by rw [a8x]; unfold natL; rw [List.length_map]
 have hjoin:=b1R (natL cuts) f
 obtain ⟨Ls,hLs⟩ : ∃ Ls,Ls = cutsL f (natL cuts):=⟨_,rfl⟩
 rw [<- hLs] at hl5 hLl hjoin
 rw [<- hLl] at hl5 ⊢
 have hst5:=H4.out.1.below hb5
 have hbw5 : Below w.heap.size w w5:=a0h (a0h HB3.out H4.out.2.2.1) hb5
 have HI:=Lib.hid (And.intro hl5 (And.intro hb5 (And.intro hst5.lt hbw5)))
 have HJ:=Lib.hid hjoin
 have HSt:=Lib.hid hst5
 have hLs9 : Ls.length <= 9:=by omega
 clear hl5 hb5 hLl hjoin hLs hst5 hbw5
 go_wp2_with fail
 go_loopw [11,12,14,15,16,17,18] (λ ov av iv _ _ _ _ wr=>∃ (i a : Nat) (Lo : List Int) (Ao : Option Addr) (co : Nat),i <= Ls.length /\ ov = .slice Ao Lo.length co /\ av = .int .i64 a /\ iv = .int .i64 i /\ Hid (PbRel p lm Ls w5 i Lo Ao co wr /\ a = (a0w Ls i).length)) (λ _ _ iv _ _ _ _ _=>Ls.length - (intOf iv).toNat)
 case atStart=>exact ⟨0,0,[],none,0,by omega,rfl,rfl,rfl,Lib.hid ⟨⟨Kd.R_nil _ _ _ _ _,⟨p + 1,HSt.out⟩,by show [] = (a0o [] _).2; rw [a2o (by omega)]; rfl,Only.refl _ _⟩,rfl⟩⟩
 case round=>
  obtain ⟨i,a,Lo,Ao,co,hi,rfl,rfl,rfl,HH⟩:=hrel
  have H:=Lib.hid HH.out.1
  obtain ⟨b0,hst⟩:=H.out.st
  by_cases hlt : i < Ls.length
  · have hrow:=a1w HI.out.1 H.out.on (λ k hk h=>by have:=H4.out.1.lt; omega)
    obtain ⟨ad,Ai,ci,hA,hcell,hpart⟩:=b1T hrow hlt
    subst hA
    have hsucc:=b1S Ls hlt
    obtain ⟨pt,hpt⟩ : ∃ pt,pt = Ls.getD i []:=⟨_,rfl⟩
    rw [<- hpt] at hsucc hcell hpart
    have hap:=hpart.off H4.out.2.2.2
    have hbW : BSl wr Ai ci pt:=(hpart.below HI.out.2.2.2).below' H.out.on hap
    have hhb : Bytes (a0w Ls i):=a8z (by rw [HJ.out]; exact HX.out.1.by') i
    have hle:=a8y Ls (i + 1)
    rw [HJ.out] at hle
    obtain ⟨y,hy⟩:=b1L (lim:=(lm : Int)) (by omega) hhb pt hpart.by'
    rw [<- hsucc] at hy
    obtain ⟨g,hg⟩ : ∃ g,g = a0w Ls (i + 1):=⟨_,rfl⟩
    have hgt:=b9q Ls (i + 1)
    rw [HJ.out,<- hg] at hgt
    rw [<- hg] at hle hy hsucc
    have hgb : Bytes g:=by rw [hg]; exact a8z (by rw [HJ.out]; exact HX.out.1.by') _
    obtain ⟨k,hk⟩ : ∃ k,k = (a0o g lm).1:=⟨_,rfl⟩
    have hpk : a0o g lm = (k,Lo ++ y):=by rw [H.out.lo,<- hy,hk]
    obtain ⟨Z,hZ⟩ : ∃ Z,Z = Lo ++ y:=⟨_,rfl⟩
    have hZl : Lo.length + y.length = Z.length:=by rw [hZ,List.length_append]
    have hgl : g.length = a + pt.length:=by rw [hsucc,List.length_append,HH.out.2]
    have HFd:=a2E p b0 lm (a0w Ls i) pt g (k:=k) (y:=y) (X:=Lo) Ai ci wr hst (by omega) (by omega) hhb hbW hap (by have:=HH.out.2; omega) hsucc.symm H.out.lo.symm hpk
    unfold PFed at HFd
    obtain ⟨e1,he1⟩ : ∃ e,e = errF k:=⟨_,rfl⟩
    rw [<- he1] at HFd
    have HFd:=Lib.hid HFd
    have hyl : Z.length <= 40000000000 /\ Bytes Z:=by
     have h1:=a5E (lm : Int) (f:=g) hgb
     have h2 : (pullR (lm : Int) g).2.x = Lo ++ y:=by rw [a2o (by omega)] at hpk; injection hpk
     rw [h2,<- hZ] at h1
     exact ⟨by have:=h1.2.2.1; omega,h1.1⟩
    have HPx : Hid (∀ W,Below w.heap.size w W -> Calls Tryz.prog 45 #[.slice A g.length ca,.int .i64 lm] W (λ e w'=>∃ A c,e = .returned (.tuple #[.slice A Z.length c,.int .i64 k]) /\ (Kd.int .u8).R 5 w' W.heap.size (λ _=>True) (.slice A Z.length c) Z /\ Below W.heap.size W w')):=Lib.hid (λ W hW=>by
     have h:=b1I A ca g lm W (by have:=(HX.out.1.below hW).cut (k:=g.length) hle; rw [hgt] at this; exact this) (by omega) (by omega)
     rw [hpk,<- hZ] at h
     exact h)
    have HZ : Hid (Lo.length + y.length <= 140737488355328):=Lib.hid (by omega)
    have HN2:=Lib.hid (And.intro hpk (And.intro hZ (And.intro hZl (And.intro hgl (And.intro hyl.2 (And.intro he1 hg))))))
    have hwa : IntKind.i64.wrap ((a : Int) + (pt.length : Int)) = (g.length : Int):=by rw [i64_in _ (by omega)]; omega
    have hsl:=a3E A f.length ca g.length hle hfc
    have hgI : (g.length : Int) <= (f.length : Int):=by omega
    have HRow:=Lib.hid hrow
    have hI : (i : Int) < (Ls.length : Int):=by omega
    clear hst hpart hsucc hbW hhb hle hy hg hgt hgb hk hpk hZ hZl hgl he1 hyl hrow hpt HH
    go_wp2_with fail
    refine HFd.out.mono ?_
    rintro e w6 ⟨A6,c6,rfl,hr6,hs6,ho6⟩
    have hpl:=HI.out.2.2.1
    have HO6:=Lib.hid (a1w H.out.out ho6 (λ k hk h=>by omega))
    have HC6:=Lib.hid (Kd.R_reads' hr6).2.2
    have HB6 : Hid (Below w5.heap.size w6 w6):=Lib.hid (Below.refl _ _)
    have HS6 : Hid (w5.heap.size <= w6.heap.size):=Lib.hid (Nat.le_trans H.out.on.size ho6.size)
    have hcell6 : ∀ w7,Below w5.heap.size w6 w7 -> w7.cell? (ad.add i) = some (.slice Ai pt.length ci):=λ w7 h7=>by
     have hbad : ad.block < w5.heap.size:=((Kd.R_bound HI.out.1).1 ad.block rfl).2.2.1
     have hbp : w4.heap.size <= ad.block:=((Kd.R_bound HI.out.1).1 ad.block rfl).2.1
     have hplt:=H4.out.1.lt
     have e1 : wr.cell? (ad.add i) = w6.cell? (ad.add i):=by
      unfold World.cell?
      rw [a1F,ho6.block ad.block (by have:=H.out.on.size; omega) (by omega)]
     have e2 : w7.cell? (ad.add i) = w6.cell? (ad.add i):=by
      unfold World.cell?
      rw [a1F,h7.block ad.block hbad]
     rw [e2,<- e1]; exact hcell
    have H6:=Lib.hid (And.intro hs6 (And.intro ho6 hcell6))
    clear hr6 hs6 ho6 hpl hcell hcell6
    go_wp2_with (at_builtin; refine app8 rfl rfl rfl rfl HO6 HC6 HB6 HS6.out HZ ?_; intro A7 c7 w7 hr7 hb7 hg7; rw [<- HN2.out.2.1,HN2.out.2.2.1] at hr7; rw [HN2.out.2.2.1]; have HR7:=Lib.hid (And.intro hr7 (And.intro hb7 hg7)); have hc7:=H6.out.2.2 w7 hb7; clear hr7 hb7 hg7)
    have hrel7 : PbRel p lm Ls w5 (i + 1) Z A7 c7 w7:=by
     have h:=PbRel.next (y:=y) (A2:=A7) (c2:=c7) (by rw [<- HN2.out.2.2.2.2.2.2]; exact H6.out.1) HI.out.2.2.1 H.out H6.out.2.1 HR7.out.2.1 HR7.out.2.2 (by rw [<- HN2.out.2.1]; exact HR7.out.1) (by rw [<- HN2.out.2.2.2.2.2.2,HN2.out.1])
     rw [<- HN2.out.2.1] at h
     exact h
    have hbw7 : Below w.heap.size w w7:=by
     have h5:=HI.out.2.2.2
     exact h5.trans (hrel7.on.below h5.size (λ k hk=>by have:=H4.out.2.2.2; omega))
    have HPc:=Lib.hid (HPx.out w7 hbw7)
    have HW7:=Lib.hid (And.intro hrel7 hbw7)
    clear hrel7 hbw7
    refine HPc.out.mono ?_
    rintro e w8 ⟨A8,c8,rfl,hr8,hb8⟩
    have HS8:=Lib.hid (a6l A7 A8 c7 c8 Z w8 (Kd.R_reads' (Kd.R_below HR7.out.1 hb8)).2.2 (Kd.R_reads' hr8).2.2 HN2.out.2.2.2.2.1)
    have HRel8 : Hid (PbRel p lm Ls w5 (i + 1) Z A7 c7 w8):=Lib.hid (by
     obtain ⟨b1,hst7⟩:=HW7.out.1.st
     exact ⟨Kd.R_below HW7.out.1.out hb8,⟨b1,hst7.below hb8⟩,HW7.out.1.lo,HW7.out.1.on.behind hb8 (by have:=HW7.out.1.on.size; exact this)⟩)
    clear hr8 hb8
    go_wp2_with fail
    refine HS8.out.mono ?_
    rintro e w9 ⟨rfl,rfl⟩
    by_cases hk : k = 3
    · have he:=HN2.out.2.2.2.2.2.1
      rw [hk] at he
      obtain rfl : e1 = 0:=he
      have t1 : (k == 3) = true:=by rw [hk]; rfl
      have t2 : (k != 3) = false:=by rw [hk]; rfl
      clear hk
      go_wp2_with fail
      go_roundw
      case rel=>exact ⟨i + 1,g.length,Z,A7,c7,by omega,rfl,rfl,by go_num,Lib.hid ⟨HRel8.out,by rw [HN2.out.2.2.2.2.2.2]⟩⟩
      case measure=>simp [intOf]; omega
    · have he:=HN2.out.2.2.2.2.2.1
      rw [b9r hk] at he
      subst he
      have t1 : (e1 == 3) = false:=by simpa using hk
      have t2 : (e1 != 3) = true:=by simpa using hk
      have t3 : (e1 != e1) = false:=by simp
      clear hk
      go_wp2_with fail
      go_roundw
      case rel=>exact ⟨i + 1,g.length,Z,A7,c7,by omega,rfl,rfl,by go_num,Lib.hid ⟨HRel8.out,by rw [HN2.out.2.2.2.2.2.2]⟩⟩
      case measure=>simp [intOf]; omega
  · obtain rfl : i = Ls.length:=by omega
    have hI : ¬ (Ls.length : Int) < (Ls.length : Int):=by omega
    have hall : a0w Ls Ls.length = f:=by unfold a0w; rw [List.take_length]; exact HJ.out
    rw [hall] at hst
    have hbwr : Below w.heap.size w wr:=by
     have h5:=HI.out.2.2.2
     exact h5.trans (H.out.on.below h5.size (λ k hk=>by have:=H4.out.2.2.2; omega))
    have hD:=b8U A ca f lm wr (HX.out.1.below hbwr) (by omega) (by omega)
    obtain ⟨k,hk⟩ : ∃ k,k = (a0o f lm).1:=⟨_,rfl⟩
    obtain ⟨Y,hY⟩ : ∃ Y,Y = (a0o f lm).2:=⟨_,rfl⟩
    rw [d2z,<- hk] at hD
    obtain ⟨dm,hdm⟩ : ∃ d,d = (a2B f lm).2:=⟨_,rfl⟩
    rw [<- hdm] at hD
    have HD:=Lib.hid hD
    have HK:=Lib.hid (And.intro (show a0o f lm = (k,Y) by rw [hk,hY]) (And.intro hst hbwr))
    clear hst hall hbwr hD hk hY hdm hlt HH
    go_wp2_with fail
    refine HD.out.mono ?_
    rintro e w6 ⟨A6,c6,rfl,-,hb6⟩
    have hF:=a2E p b0 lm f [] f (k:=k) (y:=[]) (X:=Y) none 0 w6 (HK.out.2.1.below hb6) (by omega) (by omega) HX.out.1.by' (BSl.empty_ _) (λ h=>absurd h (Nat.lt_irrefl 0)) (by simp; omega) (List.append_nil _) (by rw [HK.out.1]) (by rw [HK.out.1,List.append_nil])
    unfold PFed at hF
    obtain ⟨e1,he1⟩ : ∃ e,e = errF k:=⟨_,rfl⟩
    rw [<- he1] at hF
    have HF:=Lib.hid (show Calls _ _ #[_,.slice none 0 0] _ _ from hF)
    have HE1:=Lib.hid he1
    have HB6:=Lib.hid (a0h HK.out.2.2 hb6)
    have l0 : (([] : List Int).length : Int) = 0:=rfl
    clear hb6 hF he1
    go_wp2_with fail
    refine HF.out.mono ?_
    rintro e w7 ⟨A7,c7,rfl,-,hs7,ho7⟩
    obtain ⟨cp,-⟩:=hs7.cells (by omega)
    rw [HK.out.1] at cp
    have HFi:=Lib.hid (a5G p k w7 cp)
    have HFin : Hid (Below w.heap.size w w7):=Lib.hid (HB6.out.trans (ho7.below HB6.out.size (λ k hk=>by have:=H4.out.2.2.2; omega)))
    clear hs7 ho7 cp
    by_cases hk : k = 3
    · subst hk
      obtain rfl : e1 = 0:=HE1.out
      go_wp2_with fail
      refine HFi.out.mono ?_
      rintro e w8 ⟨rfl,rfl⟩
      go_wp2_with fail
      go_ret
      exact ⟨rfl,HFin.out⟩
    · have he:=HE1.out
      rw [b9r hk] at he
      subst he
      have t1 : (e1 == 3) = false:=by simpa using hk
      have t2 : (e1 != 3) = true:=by simpa using hk
      have t3 : (e1 == e1) = true:=beq_self_eq_true e1
      clear hk
      go_wp2_with fail
      refine HFi.out.mono ?_
      rintro e w8 ⟨rfl,rfl⟩
      go_wp2_with fail
      go_ret
      exact ⟨rfl,HFin.out⟩
set_option maxRecDepth 100000 in
theorem d2B (A : Option Addr) (ca : Nat) (f : List Int) (lm : Int) (B : Option Addr) (cb : Nat) (cuts : List Int) (w : World) (hr : (Kd.int .u8).C w A f.length f) (hc : f.length <= ca) (hby : Bytes f) (hbig : f.length * 1 <= 140737488351232) (hnil : A = none -> ca = 0) (hm : (Lit.int .u32 lm).wf = true) (hr4 : (Kd.int .u16).C w B cuts.length cuts) (hc4 : cuts.length <= cb) (hw4 : ∀ n ∈ cuts,(Lit.int .u16 n).wf = true) (hbig4 : cuts.length * 2 <= 140737488351232) :
    Calls Tryz.prog 19 #[.slice A f.length ca,.int .u32 lm,.slice B cuts.length cb] w (Ret (.bool true) w):=by
 have hm2:=b9m hm
 obtain ⟨k,rfl⟩ : ∃ k : Nat,lm = k:=⟨lm.toNat,by omega⟩
 have q1 : IntKind.i64.wrap (k : Int) = (k : Int):=i64_in _ (by omega)
 have HLt : Hid (∀ W,Below w.heap.size w W -> Calls Tryz.prog 44 #[.slice A f.length ca,.int .i64 k] W (λ e w'=>e = .returned (.bool (a1S f k)) /\ Below W.heap.size W w')):=Lib.hid (λ W hW=>a8v A ca f k W (BSl.below ⟨hr,hc,hnil,hby⟩ hW) (by omega) (by omega))
 by_cases h1 : f.length <= 300 /\ a1S f k = true /\ cuts.length <= 8
 · exact d2A A B ca cb f cuts k w ⟨hr,hc,hnil,hby⟩ hr4 hc4 (λ x hx=>a4J (hw4 x hx)) h1.1 h1.2.2 (by omega) h1.2.1
 · obtain ⟨lt,hlt⟩ : ∃ l,l = a1S f k:=⟨_,rfl⟩
   rw [<- hlt] at HLt h1
   have hd : decide (300 < (f.length : Int)) = true \/ (decide (300 < (f.length : Int)) = false /\ lt = false) \/ (decide (300 < (f.length : Int)) = false /\ lt = true /\ decide (8 < (cuts.length : Int)) = true):=by
    by_cases a : f.length <= 300
    · cases lt with
      | false=>exact .inr (.inl ⟨decide_eq_false (by omega),rfl⟩)
      | true=>exact .inr (.inr ⟨decide_eq_false (by omega),rfl,decide_eq_true (by
          by_cases b : cuts.length <= 8
          · exact absurd ⟨a,rfl,b⟩ h1
          · omega)⟩)
    · exact .inl (decide_eq_true (by omega))
   clear hr hc hby hbig hnil hm hm2 h1 hlt hr4 hc4 hw4 hbig4
   rcases hd with d1 | ⟨d1,rfl⟩ | ⟨d1,rfl,d2⟩
   all_goals
    go_enter Tryz.func19,Tryz.ntmps19
    go_wp2_with fail
    refine (a4I w).mono ?_
    rintro e w1 ⟨rfl,hb1⟩
    have HB1:=Lib.hid hb1
    have H1:=Lib.hid (HLt.out w1 hb1)
    clear hb1
    go_wp2_with fail
    refine H1.out.mono ?_
    rintro e w2 ⟨rfl,hb2⟩
    have HB2:=Lib.hid (a0h HB1.out hb2)
    clear hb2
    go_wp2_with fail
    go_ret
    exact ⟨rfl,HB2.out⟩
end Go.Proofs.YtflfjpkmjnnodaaGreat
