/- Plain: frames that were encoded: what they tell, whole, cut off, with any limit. -/
import Derived.Test.YtflfjpkmjnnodaaGreatCM1
import Derived.Test.YtflfjpkmjnnodaaGreatCM2
import Derived.Test.YtflfjpkmjnnodaaGreatCM0
import Derived.Test.YtflfjpkmjnnodaaGreatCM4
import Derived.Test.YtflfjpkmjnnodaaGreatCS1
import Derived.Test.YtflfjpkmjnnodaaGreatCM5
import Derived.WalkMore
import Derived.ArgAppend
import Derived.Lib.SlBytesConst
import Derived.BigQuiet
import Derived.RangeFuncRecord
import Derived.RangeFuncSeq
import Derived.WalkKit
import Derived.OwnWalkIn
import Derived.TacticsInMore
import Derived.BigFrameIn
import Derived.LoopNIn
import Derived.LoopIn
import Derived.RangeFuncBox
import Derived.Stop.RegionWithIn
import Derived.RangeFuncLeaves
import Derived.RangeFuncCalls
import Derived.Laws.EntriesVeiled
import Derived.Lib.MinMax
namespace Go.Proofs.YtflfjpkmjnnodaaGreat
open Go.RowKit
theorem b7j (f : List Int) : ∀ (d i : Nat),(∀ k,k < i + d -> headE k (f.getD k 0) = 0) -> i + d <= f.length -> headG f d i = 0
 | 0,_,_,_=>rfl
 | d + 1,i,h,hl=>by
  unfold headG
  rw [if_neg (by omega),if_neg (λ x=>x (h i (by omega)))]
  exact b7j f d (i + 1) (λ k hk=>h k (by omega)) (by omega)
theorem b7l {log : Nat} (h : 10 <= log /\ log <= 17) (m : List Int) : ∀ k,k < 8 -> headE k ((headL log ++ m).getD k 0) = 0:=by
 intro k hk
 have : k = 0 \/ k = 1 \/ k = 2 \/ k = 3 \/ k = 4 \/ k = 5 \/ k = 6 \/ k = 7:=by omega
 rcases this with rfl | rfl | rfl | rfl | rfl | rfl | rfl | rfl
 · rfl
 · rfl
 · rfl
 · rfl
 · rfl
 · show headE 5 (log : Int) = 0
   unfold headE
   rw [if_neg (by omega),if_neg (by omega),if_neg (by omega),if_neg (by omega)]
 · rfl
 · rfl
theorem a3m (log : Nat) : (headL log).length = 8:=rfl
theorem a5q {log : Nat} (h : 10 <= log /\ log <= 17) (m : List Int) : headM (headL log ++ m) = 0:=
 b7j _ 8 0 (λ k hk=>b7l h m k (by omega)) (by rw [List.length_append,a3m]; omega)
theorem a1V (x : List Int) : (tailL x).length = 4:=a1U _ _
theorem c8R (x : List Int) : a1p (tailL x) x = 0:=by
 unfold a1p
 rw [if_neg (by rw [a1V]; omega),List.take_of_length_le (by rw [a1V]; exact Nat.le_refl _),if_neg (λ h=>h rfl),if_neg (by rw [a1V]; omega)]
section
variable {x : List Int} {log : Nat} (hb : Bytes x) (hl : x.length <= 40000) (hlog : 10 <= log /\ log <= 17)
theorem a5r (m : List Int) : encM x log ++ m = headL log ++ (blksM (2 ^ log) x.length x ++ (tailL x ++ m)):=by unfold encM; simp
theorem a8a (m : List Int) : (encM x log ++ m).getD 5 0 = log:=by rw [a5r]; rfl
theorem a6h (m : List Int) : (encM x log ++ m).drop 8 = blksM (2 ^ log) x.length x ++ (tailL x ++ m):=by rw [a5r]; exact a2V rfl
include hb hl hlog in
theorem b7n (m : List Int) {limit : Int} (hL : (x.length : Int) <= limit) : a0C (encM x log ++ m) limit = (a1p (tailL x ++ m) x,x):=by
 have hh : headM (encM x log ++ m) = 0:=by rw [a5r]; exact a5q hlog _
 unfold a0C
 rw [if_neg (by omega),if_neg (λ h=>h hh),a8a,a6h]
 have:=c8K hlog (tailL x ++ m) x.length x true limit [] ((encM x log ++ m).length + 1) hb hl (Nat.le_refl _) (λ _=>rfl) hL (by rw [<- a6h m (x:=x) (log:=log),List.length_drop]; omega)
 rw [this,List.nil_append]
include hb hl hlog in
theorem c8T {limit : Int} (hL : (x.length : Int) <= limit) : a0C (encM x log) limit = (0,x):=by
 have:=b7n hb hl hlog [] hL
 rw [List.append_nil,List.append_nil,c8R] at this
 exact this
include hb hl hlog in
theorem c8U {limit : Int} (hL : (x.length : Int) <= limit) : a3k (encM x log) limit = (0,x):=by
 unfold a3k; rw [c8T hb hl hlog hL,if_neg (λ h=>h rfl)]
include hb hl hlog in
include hb hl hlog in
include hb hl hlog in
end
theorem c8V {log : Nat} (hlog : 10 <= log /\ log <= 17) (tl : List Int) : ∀ (n : Nat) (x : List Int) (first : Bool) (limit : Int) (sum k : Nat),Bytes x -> x.length <= 40000 -> x.length <= n -> (x.length = 0 -> first = true) -> (x.length : Int) + sum <= limit -> (blksM (2 ^ log) n x ++ tl).length < k ->
    sizeG k (blksM (2 ^ log) n x ++ tl) log first limit sum = sum + x.length:=by
 have hp : 0 < 2 ^ log:=Nat.two_pow_pos log
 have lastc : ∀ (x : List Int) (first : Bool) (limit : Int) (sum k : Nat),Bytes x -> x.length <= 40000 -> x.length <= 2 ^ log -> (x.length = 0 -> first = true) -> (x.length : Int) + sum <= limit -> 0 < k -> sizeG k (putM x true ++ tl) log first limit sum = sum + x.length:=by
  intro x first limit sum k hb hl hs h0 hL hk
  obtain ⟨k,rfl⟩ : ∃ j,k = j + 1:=⟨k - 1,by omega⟩
  obtain ⟨c,_,_,e⟩:=a3i (m:=tl) hb hl (log:=(log : Int)) (room:=limit - sum) (by omega) (by omega) (a3D hs h0)
  rw [if_neg (by omega)] at e
  unfold sizeG
  rw [e]
  dsimp only
  rw [if_neg (by rw [List.length_append,a0U]; omega),if_pos rfl]
 intro n
 induction n with
 | zero=>
  intro x first limit sum k hb hl hn h0 hL hk
  exact lastc x first limit sum k hb hl (by omega) h0 hL (by omega)
 | succ n ih=>
  intro x first limit sum k hb hl hn h0 hL hk
  unfold blksM at hk ⊢
  by_cases h : 2 ^ log < x.length
  · rw [if_pos h] at hk ⊢
    rw [List.append_assoc] at hk ⊢
    obtain ⟨k,rfl⟩ : ∃ j,k = j + 1:=⟨k - 1,by omega⟩
    have hlt : (x.take (2 ^ log)).length = 2 ^ log:=by rw [List.length_take]; omega
    obtain ⟨c,_,_,e⟩:=a3i (m:=blksM (2 ^ log) n (x.drop (2 ^ log)) ++ tl) (a2U hb (2 ^ log)) (by omega) (log:=(log : Int)) (room:=limit - sum) (first:=first) (last:=false) (by omega) (by omega) (λ k _ _=>a3l hlt k)
    rw [if_neg (by omega)] at e
    unfold sizeG
    rw [e]
    dsimp only
    rw [if_neg (by rw [List.length_append,a0U]; omega),if_neg (by simp),a2V (by rw [a0U])]
    have hd : (x.drop (2 ^ log)).length = x.length - 2 ^ log:=by rw [List.length_drop]
    rw [ih (x.drop (2 ^ log)) false limit (sum + (x.take (2 ^ log)).length) k (a2x hb _) (by omega) (by omega) (by omega) (by omega) (by rw [List.length_append,a0U] at hk; omega)]
    omega
  · rw [if_neg h] at hk ⊢
    exact lastc x first limit sum k hb hl (by omega) h0 hL (by omega)
section
variable {x : List Int} {log : Nat} (hb : Bytes x) (hl : x.length <= 40000) (hlog : 10 <= log /\ log <= 17)
include hb hl hlog in
theorem c8Y {limit : Int} (hL : (x.length : Int) <= limit) : sizeM (encM x log) limit = x.length:=by
 have e:=a6h (x:=x) (log:=log) []
 have e2:=a8a (x:=x) (log:=log) []
 have hh : headM (encM x log ++ []) = 0:=by rw [a5r]; exact a5q hlog _
 rw [List.append_nil] at e e2 hh
 rw [List.append_nil] at e
 unfold sizeM
 rw [if_neg (λ h=>h.elim (λ h=>h hh) (λ h=>by omega)),e2,e]
 have:=c8V hlog (tailL x) x.length x true limit 0 ((encM x log).length + 1) hb hl (Nat.le_refl _) (λ _=>rfl) (by omega) (by rw [<- e,List.length_drop]; omega)
 rw [this,Nat.zero_add]
include hb hl hlog in
include hb hl hlog in
end
def nBlks (s : Nat) : Nat -> Nat -> Nat
 | 0,_=>1
 | n + 1,l=>if s < l then 1 + nBlks s n (l - s) else 1
theorem a8b (s : Nat) : ∀ (n : Nat) (x : List Int),11 * nBlks s n x.length <= (blksM s n x).length /\ (blksM s n x).length <= x.length + 11 * nBlks s n x.length
 | 0,x=>by
  unfold blksM nBlks
  have:=a2Q x
  rw [a0U]; omega
 | n + 1,x=>by
  unfold blksM nBlks
  by_cases h : s < x.length
  · rw [if_pos h,if_pos h,List.length_append,a0U]
    have h1:=a2Q (x.take s)
    have h2:=a8b s n (x.drop s)
    rw [List.length_drop] at h2
    rw [List.length_take] at h1
    omega
  · rw [if_neg h,if_neg h]
    have:=a2Q x
    rw [a0U]; omega
open Go.IntWalk Go.Proofs.YtflfjpkmjnnodaaGreatW.PrintWords
def logP (log : Int) : Bool:=decide (10 <= log) && decide (log <= 17)
theorem logP_iff {log : Int} : logP log = true ↔ 10 <= log /\ log <= 17:=by unfold logP; rw [Bool.and_eq_true,decide_eq_true_eq,decide_eq_true_eq]
set_option maxRecDepth 100000 in
theorem b0Q (log : Int) (w : World) : Calls Tryz.prog 92 #[.int .i64 log] w (λ e w'=>e = .returned (.bool (logP log)) /\ Drawn0 w w'):=by
 go_enter Tryz.func92,Tryz.ntmps92
 go_wp2_with fail
 all_goals
  go_ret
  refine ⟨a1b ?_,Drawn0.refl _⟩
  unfold logP
  first | rfl | (rw [Bool.eq_iff_iff]; simp; done) | (rw [Bool.eq_iff_iff]; simp; omega)
set_option maxRecDepth 100000 in
set_option maxHeartbeats 1000000 in
theorem c8Z (n : Nat) (w : World) (hn : n < 4294967296) :
    Calls Tryz.prog 93 #[.int .u32 n] w (λ e w'=>∃ A c,e = .returned (.slice A 4 c) /\ (Kd.int .u8).R 5 w' w.heap.size (λ _=>True) (.slice A 4 c) (leN n 4) /\ Below w.heap.size w w'):=by
 have hk : (4 : Nat) <= 4:=by omega
 go_enter Tryz.func93,Tryz.ntmps93
 go_wp2_with fail
 go_loopw [3,4,5] (λ v _ kv wr=>∃ i : Nat,i <= 4 /\ kv = .int .i64 i /\ Hid ((Kd.int .u8).R 5 wr w.heap.size (λ _=>True) v (leN n i) /\ Below w.heap.size w wr)) (λ _ _ kv _=>4 - (intOf kv).toNat)
 case atStart=>exact ⟨0,by omega,rfl,Lib.hid ⟨Kd.R_nil _ _ _ _ _,Below.refl _ _⟩⟩
 case round=>
  obtain ⟨i,hi,rfl,H⟩:=hrel
  by_cases hlt : i < 4
  · obtain ⟨Av,cv,rfl⟩:=Kd.R_slice H.out.1
    have hI : (i : Int) < 4:=by omega
    have HN:=Lib.hid (b0v n i)
    have hLl : (leN n i).length = i:=a1U n i
    obtain ⟨L,hL⟩ : ∃ L,L = leN n i:=⟨_,rfl⟩
    rw [<- hL] at H HN hLl ⊢
    have HLn : Hid (L.length + 1 <= 140737488355328):=Lib.hid (by omega)
    have HO:=Lib.hid H.out.1
    have HB:=Lib.hid H.out.2
    have HE : Hid (∀ y : Int,y = ((n / 256 ^ i % 256 : Nat) : Int) -> leN n (i + 1) = L ++ [y]):=Lib.hid (λ y hy=>by rw [hy]; exact HN.out)
    have hi4 : i = 0 \/ i = 1 \/ i = 2 \/ i = 3:=by omega
    clear hL HN
    rcases hi4 with rfl | rfl | rfl | rfl
    all_goals
     go_wp2_with (at_builtin; refine app8i rfl rfl rfl rfl HO HB HB.out.size HLn ?_; intro A1 c1 w3 hr3 hb3 _; have HA:=Lib.hid (And.intro hr3 hb3); clear hr3 hb3)
     go_roundw
     case rel=>
      have hnn:=hn
      have HV:=HA.out.1
      rw [hLl] at HV
      first
       | exact ⟨0 + 1,by omega,by go_num,Lib.hid ⟨by rw [HE.out ((n : Int) % 256) (by clear HA HV; first | rfl | (simp; done) | (simp; omega))]; exact HV,HA.out.2⟩⟩
       | exact ⟨1 + 1,by omega,by go_num,Lib.hid ⟨by rw [HE.out ((n : Int) / 256 % 256) (by clear HA HV; first | rfl | (simp; done) | (simp; omega))]; exact HV,HA.out.2⟩⟩
       | exact ⟨2 + 1,by omega,by go_num,Lib.hid ⟨by rw [HE.out ((n : Int) / 65536 % 256) (by clear HA HV; first | rfl | (simp; done) | (simp; omega))]; exact HV,HA.out.2⟩⟩
       | exact ⟨3 + 1,by omega,by go_num,Lib.hid ⟨by rw [HE.out ((n : Int) / 16777216) (by clear HA HV; simp; omega)]; exact HV,HA.out.2⟩⟩
     case measure=>first | (simp [intOf]; done) | (simp [intOf]; omega)
  · obtain rfl : i = 4:=by omega
    obtain ⟨Av,cv,rfl⟩:=Kd.R_slice H.out.1
    rw [a1U] at H ⊢
    go_wp2_with fail
    go_ret
    exact ⟨_,_,rfl,H.out.1,H.out.2⟩
set_option maxRecDepth 100000 in
theorem b7p (A : Option Addr) (c : Nat) (b : List Int) (w : World) (hr : (Kd.int .u8).C w A b.length b) (hl : b.length <= 1000000000000) (hb : Bytes b) :
    Calls Tryz.prog 43 #[.slice A b.length c] w (λ e w'=>∃ A c,e = .returned (.slice A 4 c) /\ (Kd.int .u8).R 5 w' w.heap.size (λ _=>True) (.slice A 4 c) (tailL b) /\ Below w.heap.size w w'):=by
 have HR:=Lib.hid hr
 have HX:=Lib.hid hb
 have HS : Hid (a0P 0 b < 4294967296):=Lib.hid (by have:=a5R 0 b; omega)
 clear hr hb
 go_enter Tryz.func43,Tryz.ntmps43
 go_wp2_with fail
 refine (a4t w).mono ?_
 rintro e w1 ⟨p,rfl,hp1,ht1,hb1⟩
 have HC:=Lib.hid (a5Z p A c b w1 ht1 (Kd.C_below HR.out hb1) hl HX.out)
 have HB1:=Lib.hid hb1
 clear hp1 ht1 hb1
 go_wp2_with fail
 refine HC.out.mono ?_
 rintro e w1' ⟨rfl,rfl⟩
 go_wp2_with fail
 refine (c8Z (a0P 0 b) w1 HS.out).mono ?_
 rintro e w2 ⟨A2,c2,rfl,h2,hb2⟩
 have H2:=Lib.hid (And.intro h2 hb2)
 clear h2 hb2
 go_wp2_with fail
 go_ret
 exact ⟨A2,c2,rfl,Kd.R_lower H2.out.1 HB1.out.size,a0k HB1.out H2.out.2⟩
theorem b7r (w : World) (cs : List Value) (e : TypeId) (fr : Nat × Nat) (j : Nat) (u : Value) (h : cs[j]? = some u) : (w.alloc (.cells cs.toArray e fr)).cell? ((⟨w.heap.size,0,none⟩ : Addr).add j) = some u:=by
 have h1 : (w.alloc (.cells cs.toArray e fr)).heap[w.heap.size]? = some (.cells cs.toArray e fr):=World.alloc_heap_new w _
 have e1 : ((⟨w.heap.size,0,none⟩ : Addr).add j) = ⟨w.heap.size,j,none⟩:=by
  unfold Addr.add
  split
  · rename_i h0; rw [h0]
  · simp
 rw [e1]
 unfold World.cell?
 rw [h1]
 simpa using h
set_option maxRecDepth 100000 in
theorem a8c (L : Nat) (w : World) (hL : 10 <= L /\ L <= 17) : Calls Tryz.prog 41 #[.int .i64 L] w (Told 0 (headL L) w):=by
 have h : logP (L : Int) = true:=logP_iff.2 (by omega)
 have hw8 : IntKind.u8.wrap (L : Int) = (L : Int):=by rw [IntKind.wrap_u8']; omega
 go_enter Tryz.func41,Tryz.ntmps41
 go_wp2_with fail
 refine (b0Q L w).mono ?_
 rintro e w1 ⟨rfl,hd⟩
 rw [h]
 have HB:=Lib.hid hd.below
 clear hd
 have hcv:=Lib.run_convert_bytes_const (P:=Tryz.prog) w1 22 5 #[.int .u8 80,.int .u8 78,.int .u8 67,.int .u8 72] 4 4 Tryz.underlying22 Tryz.underlying5
 obtain ⟨w2,hw2⟩ : ∃ w2,w2 = w1.alloc (.cells #[.int .u8 80,.int .u8 78,.int .u8 67,.int .u8 72] 5 (4,5)):=⟨_,rfl⟩
 have hcv2 : (convert 22 22 (.slice (some ⟨w1.heap.size,0,none⟩) 4 4)).run Tryz.prog (w1.alloc (.cells #[.int .u8 80,.int .u8 78,.int .u8 67,.int .u8 72] 5)) = .ok (.slice (some ⟨w1.heap.size,0,none⟩) 4 4) w2:=by rw [hw2]; exact hcv
 have hb2 : Below w1.heap.size w1 w2:=by rw [hw2]; exact (Below.refl _ _).alloc (Nat.le_refl _) _
 have HC1 : Hid (∀ o : Obj,∀ j u,([.int .u8 80,.int .u8 78,.int .u8 67,.int .u8 72] : List Value)[j]? = some u -> (w2.alloc o).cell? ((⟨w1.heap.size,0,none⟩ : Addr).add j) = some u):=Lib.hid (λ o j u h=>a0q ((Below.refl _ _).alloc (Nat.le_refl _) o) (by rw [hw2]; exact b7r w1 _ 5 (4,5) j u h))
 have HC2 : Hid (∀ j u,([.int .u8 1,.int .u8 L,.int .u8 0,.int .u8 0] : List Value)[j]? = some u -> (w2.alloc (.cells #[.int .u8 1,.int .u8 L,.int .u8 0,.int .u8 0] 5)).cell? ((⟨w2.heap.size,0,none⟩ : Addr).add j) = some u):=Lib.hid (λ j u h=>b7r w2 _ 5 (0,0) j u h)
 have HB2 : Hid (Below w1.heap.size w1 (w2.alloc (.cells #[.int .u8 1,.int .u8 L,.int .u8 0,.int .u8 0] 5))):=Lib.hid (hb2.alloc hb2.size _)
 obtain ⟨i0,hi0,hz0,hz1,hz2⟩:=info_parts a0E
 have H0:=Lib.hid (And.intro hi0 (And.intro hz0 (And.intro hz1 hz2)))
 clear hcv hw2 hb2 hi0 hz0 hz1 hz2
 go_wp2_with (at_builtin; refine wpList_append_grows _ rfl (.tmp 8) (.tmp 11) 22 rfl 5 i0 (.int .u8 0) 1 1 Tryz.underlying22 H0.out.1 H0.out.2.1 H0.out.2.2.1 H0.out.2.2.2 rfl (by decide) (some ⟨w1.heap.size,0,none⟩) 4 4 [.int .u8 80,.int .u8 78,.int .u8 67,.int .u8 72] rfl (λ h=>by cases h) rfl (λ b hb j u h=>by injection hb with e; rw [<- e]; exact HC1.out _ j u h) ⟨w2.heap.size,0,none⟩ 4 4 [.int .u8 1,.int .u8 L,.int .u8 0,.int .u8 0] rfl rfl HC2.out (by simp [Value.oneCell']) (by decide) (by decide) (by decide) ?_; intro v4 w4 ho4 hg4; have HR4:=Lib.hid (And.intro ho4 hg4); clear ho4 hg4)
 have hr4 : (Kd.int .u8).R 5 w4 (w2.alloc (.cells #[.int .u8 1,.int .u8 L,.int .u8 0,.int .u8 0] 5)).heap.size (λ _=>True) v4 (headL L):=Kd.R_of_own (h1:=λ _=>rfl) HR4.out.1 (λ _ _=>trivial)
 obtain ⟨A4,c4,rfl⟩:=Kd.R_slice hr4
 have H4:=Lib.hid (Kd.R_lower hr4 (Nat.le_trans HB.out.size HB2.out.size))
 have HB4 : Hid (Below w.heap.size w w4):=Lib.hid (b2y (a0k HB.out HB2.out) HR4.out.2 (λ k hk=>by cases hk) (Nat.le_trans HB.out.size HB2.out.size))
 clear hr4
 go_ret2
 exact ⟨A4,c4,rfl,H4.out,HB4.out⟩
end Go.Proofs.YtflfjpkmjnnodaaGreat
namespace Go.Proofs.YtflfjpkmjnnodaaGreat
open Go.RowKit
theorem a6i (s : Nat) : ∀ n l : Nat,nBlks s n l <= n + 1
 | 0,_=>Nat.le_refl _
 | n + 1,l=>by
  unfold nBlks
  have:=a6i s n (l - s)
  split <;> omega
open Go.IntWalk Go.Proofs.YtflfjpkmjnnodaaGreatW.PrintWords
theorem BSl.from_ {w : World} {A : Option Addr} {c : Nat} {p : List Int} (h : BSl w A c p) {k : Nat} (hk : k <= p.length) : BSl w (if c = k then A else A.map (·.add (k * 1))) (c - k) (p.drop k):=
 ⟨Kd.C_drop h.row hk h.cap,by rw [List.length_drop]; have:=h.cap; omega,λ ha=>by
  have h0 : A = none:=by
   split at ha
   · exact ha
   · exact Option.map_eq_none_iff.1 ha
  have:=h.nil h0; omega,λ x hx=>h.by' x (List.mem_of_mem_drop hx)⟩
def slN : Value -> Nat
 | .slice _ n _=>n
 | _=>0
theorem c9f {s m : Nat} {r : List Int} (hs : 0 < s) (h : r.length <= m) (hl : s < r.length) : ∃ m',blksM s m r = putM (r.take s) false ++ blksM s m' (r.drop s) /\ (r.drop s).length <= m':=by
 obtain ⟨m,rfl⟩ : ∃ j,m = j + 1:=⟨m - 1,by omega⟩
 refine ⟨m,?_,by rw [List.length_drop]; omega⟩
 conv=>lhs; unfold blksM
 rw [if_pos hl]
theorem c9g {s : Nat} {r : List Int} (hl : ¬ s < r.length) : ∀ m,blksM s m r = putM r true
 | 0=>rfl
 | m + 1=>by unfold blksM; rw [if_neg hl]
theorem c9h (s : Nat) {x : List Int} (hl : x.length <= 40000) (L : Nat) : (headL L ++ blksM s x.length x).length <= 1000000:=by
 have h:=(a8b s x.length x).2
 have h2:=a6i s x.length x.length
 rw [List.length_append,a3m]
 omega
set_option maxRecDepth 100000 in
set_option maxHeartbeats 2000000 in
theorem b7x (A : Option Addr) (c : Nat) (x : List Int) (L : Nat) (w : World) (hx : BSl w A c x) (hl : x.length <= 40000) (hL : 10 <= L /\ L <= 17) :
    Calls Tryz.prog 40 #[.slice A x.length c,.int .i64 L] w (Told 0 (encM x L) w):=by
 obtain ⟨s,hs⟩ : ∃ s : Nat,s = 2 ^ L:=⟨_,rfl⟩
 have hsI : (2 : Int) ^ L = (s : Int):=by rw [hs]; simp
 have hL0 : ¬ (L : Int) < 0:=by omega
 have hs2 : s <= 131072:=by rw [hs]; exact Nat.le_trans (Nat.pow_le_pow_right (by decide : 2 > 0) hL.2) (by decide)
 have hs1 : 1024 <= s:=by rw [hs]; exact Nat.le_trans (by decide) (Nat.pow_le_pow_right (by decide : 2 > 0) hL.1)
 have hsw : IntKind.i64.wrap (s : Int) = (s : Int):=i64_in _ (by omega)
 have d1 : decide ((1073741824 : Int) < (x.length : Int)) = false:=decide_eq_false (by omega)
 have hTl:=c9h s hl L
 obtain ⟨T,hT⟩ : ∃ T,T = headL L ++ blksM s x.length x:=⟨_,rfl⟩
 have HE : Hid (encM x L = T ++ tailL x):=Lib.hid (by rw [hT,hs]; unfold encM; rw [List.append_assoc])
 rw [<- hT] at hTl
 have HT:=Lib.hid (And.intro hT hTl)
 have HX:=Lib.hid (And.intro hx hl)
 have HL:=Lib.hid hL
 clear hx hTl hT hs
 go_enter Tryz.func40,Tryz.ntmps40
 go_wp2_with fail
 refine (a8c L w hL).mono ?_
 rintro e w1 ⟨A1,c1,rfl,hr1,hb1⟩
 have H1:=Lib.hid (And.intro hr1 hb1)
 clear hr1 hb1
 go_wp2_with fail
 go_loopw [6,9,10,11] (λ ov rv _ _ wr=>∃ (Lo r : List Int) (m : Nat) (Ao Ar : Option Addr) (co cr : Nat),ov = .slice Ao Lo.length co /\ rv = .slice Ar r.length cr /\ Hid ((Kd.int .u8).R 5 wr w.heap.size (λ _=>True) (.slice Ao Lo.length co) Lo /\ Below w.heap.size w wr /\ BSl w Ar cr r /\ r.length <= m /\ r.length <= 40000 /\ Lo ++ blksM s m r = T)) (λ _ rv _ _ _=>slN rv)
 case atStart=>exact ⟨headL L,x,x.length,A1,A,c1,c,rfl,rfl,Lib.hid ⟨H1.out.1,H1.out.2,HX.out.1,Nat.le_refl _,HX.out.2,HT.out.1.symm⟩⟩
 case round=>
  obtain ⟨Lo,r,m,Ao,Ar,co,cr,rfl,rfl,H⟩:=hrel
  by_cases hlt : s < r.length
  · have hI : (s : Int) < (r.length : Int):=by omega
    obtain ⟨m',hm1,hm2⟩:=c9f (by omega) H.out.2.2.2.1 hlt
    have hsl:=a7N Ar r.length cr s (by omega) H.out.2.2.1.cap
    have hsf:=a2R Ar r.length cr s (by omega)
    have htl : (r.take s).length = s:=by rw [List.length_take]; omega
    have hdl : (r.drop s).length = r.length - s:=List.length_drop
    have HP:=Lib.hid (a5p Ar cr (r.take s) false wr ((H.out.2.2.1.cut (k:=s) (by omega)).below H.out.2.1).row (H.out.2.2.1.cut (k:=s) (by omega)).by' (by rw [htl]; have:=H.out.2.2.2.2.1; omega) (.inr (by omega)))
    rw [htl] at HP
    obtain ⟨y,hy⟩ : ∃ y,y = putM (r.take s) false:=⟨_,rfl⟩
    rw [<- hy] at HP hm1
    have HTl : Hid (Lo.length + y.length <= 1000000):=Lib.hid (by
     have h1:=HT.out.2
     rw [<- H.out.2.2.2.2.2,hm1,List.length_append,List.length_append] at h1
     omega)
    have HM:=Lib.hid (And.intro hm1 hm2)
    have HDr:=Lib.hid (H.out.2.2.1.from_ (k:=s) (by omega))
    obtain ⟨Ad,hAd⟩ : ∃ Ad,Ad = (if cr = s then Ar else Ar.map (·.add (s * 1))):=⟨_,rfl⟩
    rw [<- hAd] at HDr hsf
    obtain ⟨rd,hrd⟩ : ∃ rd,rd = r.drop s:=⟨_,rfl⟩
    rw [<- hrd] at HDr hdl HM
    have hrl : r.length - s = rd.length:=hdl.symm
    rw [hrl] at hsf
    have hrds : rd.length < r.length:=by omega
    clear hm1 hm2 htl hy hAd hrd hlt hrl hdl
    go_wp2_with fail
    refine HP.out.mono ?_
    rintro e w3 ⟨A3,c3,rfl,hr3,hb3⟩
    have HO3:=Lib.hid (Kd.R_below H.out.1 hb3)
    have HC3:=Lib.hid (Kd.R_reads' hr3).2.2
    have HB3:=Lib.hid (H.out.2.1.trans (hb3.mono H.out.2.1.size))
    have HZ3 : Hid (Lo.length + y.length <= 140737488355328):=Lib.hid (by have:=HTl.out; omega)
    clear hr3 hb3
    go_wp2_with (at_builtin; refine app8 rfl rfl rfl rfl HO3 HC3 HB3 HB3.out.size HZ3 ?_; intro A4 c4 w4 hr4 hb4 _; have HR4:=Lib.hid (And.intro hr4 hb4); clear hr4 hb4)
    go_roundw
    case rel=>exact ⟨Lo ++ y,rd,m',A4,Ad,c4,cr - s,by rw [List.length_append],rfl,Lib.hid ⟨by rw [List.length_append]; exact HR4.out.1,HR4.out.2,HDr.out,HM.out.2,by have:=H.out.2.2.2.2.1; omega,by rw [List.append_assoc,<- HM.out.1]; exact H.out.2.2.2.2.2⟩⟩
    case measure=>simp [slN]; omega
  · have hI : ¬ (s : Int) < (r.length : Int):=by omega
    have hm:=c9g hlt m
    have HP:=Lib.hid (a5p Ar cr r true wr (H.out.2.2.1.below H.out.2.1).row H.out.2.2.1.by' (by have:=H.out.2.2.2.2.1; omega) (.inl rfl))
    obtain ⟨y,hy⟩ : ∃ y,y = putM r true:=⟨_,rfl⟩
    rw [<- hy] at HP hm
    have hT2:=H.out.2.2.2.2.2
    rw [hm] at hT2
    have HT2:=Lib.hid hT2
    have HTl : Hid (Lo.length + y.length <= 140737488355328):=Lib.hid (by
     have h1:=HT.out.2
     rw [<- hT2,List.length_append] at h1
     omega)
    have HTm : Hid (Lo.length + y.length + 4 <= 140737488355328):=Lib.hid (by
     have h1:=HT.out.2
     rw [<- hT2,List.length_append] at h1
     omega)
    clear hm hy hlt hT2
    go_wp2_with fail
    refine HP.out.mono ?_
    rintro e w3 ⟨A3,c3,rfl,hr3,hb3⟩
    have HO3:=Lib.hid (Kd.R_below H.out.1 hb3)
    have HC3:=Lib.hid (Kd.R_reads' hr3).2.2
    have HB3:=Lib.hid (H.out.2.1.trans (hb3.mono H.out.2.1.size))
    clear hr3 hb3
    go_wp2_with (at_builtin; refine app8 rfl rfl rfl rfl HO3 HC3 HB3 HB3.out.size HTl ?_; intro A4 c4 w4 hr4 hb4 _; have HR4:=Lib.hid (And.intro hr4 hb4); clear hr4 hb4)
    refine (b7p A c x w4 (HX.out.1.below HR4.out.2).row (by omega) HX.out.1.by').mono ?_
    rintro e w5 ⟨A5,c5,rfl,hr5,hb5⟩
    have HO5:=Lib.hid (Kd.R_below HR4.out.1 hb5)
    have HC5 : Hid ((Kd.int .u8).C w5 A5 4 (tailL x)):=Lib.hid (by have:=(Kd.R_reads' hr5).2.2; rw [a1V] at this; exact this)
    have HB5:=Lib.hid (HR4.out.2.trans (hb5.mono HR4.out.2.size))
    have HL5 : Hid ((Lo ++ y).length + 4 <= 140737488355328):=Lib.hid (by rw [List.length_append]; exact HTm.out)
    clear hr5 hb5
    go_wp2_with (at_builtin; refine app8 rfl rfl rfl rfl HO5 HC5 HB5 HB5.out.size HL5 ?_; intro A6 c6 w6 hr6 hb6 _; have HR6:=Lib.hid (And.intro hr6 hb6); clear hr6 hb6)
    go_ret2
    have hfin : (encM x L).length = Lo.length + y.length + 4:=by rw [HE.out,<- HT2.out,List.length_append,List.length_append,a1V]
    have hT4 : T.length + 4 = (encM x L).length:=by rw [HE.out,List.length_append,a1V]
    refine ⟨A6,c6,?_,?_,HR6.out.2⟩
    · rw [hfin]; rfl
    · have h6:=HR6.out.1
      rw [HT2.out,<- HE.out,hT4] at h6
      exact h6
end Go.Proofs.YtflfjpkmjnnodaaGreat
namespace Go.Proofs.YtflfjpkmjnnodaaGreat
open Go.RowKit
theorem b7z {ps : List Int} {T : Nat} : ∀ (f at_ n most : Nat),(runT ps T f at_ n most).1 ≠ 16
 | 0,_,_,_=>by show (3 : Int) ≠ 16; decide
 | f + 1,at_,n,most=>by
  unfold runT
  split
  · show (3 : Int) ≠ 16; decide
  · split
    · show (13 : Int) ≠ 16; decide
    · split
      · exact b7z f _ _ _
      · show (0 : Int) ≠ 16; decide
theorem b0Y {ps : List Int} {T : Nat} : ∀ (d : Nat) (q : List Int) (s left : Nat) (again : Bool) (at_ : Nat),(hdrT ps T d q s left again at_).1 ≠ 16
 | 0,_,_,_,_,_=>by show (13 : Int) ≠ 16; decide
 | d + 1,q,s,left,again,at_=>by
  unfold hdrT
  repeat' split
  all_goals first
   | (show (13 : Int) ≠ 16; decide)
   | (show (3 : Int) ≠ 16; decide)
   | (show (0 : Int) ≠ 16; decide)
   | exact b7z _ _ _ _
   | exact b0Y d _ _ _ _ _
theorem b7A {one : Bool} {qs : List (List Int)} {ps : List Int} : ∀ (n i : Nat) (la x0 x1 : Int) (left : Nat) (out : List Int),(decGo one qs ps n i la x0 x1 left out).1 ≠ 16
 | 0,i,la,x0,x1,left,out=>by
  unfold decGo
  split
  · show (0 : Int) ≠ 16; decide
  · show (14 : Int) ≠ 16; decide
 | n + 1,i,la,x0,x1,left,out=>by
  unfold decGo
  dsimp only
  split
  · show (13 : Int) ≠ 16; decide
  · split
    · show (3 : Int) ≠ 16; decide
    · exact b7A n _ _ _ _ _ _
theorem b7B {lg : Int} {one : Bool} {qs : List (List Int)} {ps : List Int} {n : Int} : (decM lg one qs ps n).1 ≠ 16:=by
 unfold decM
 repeat' split
 all_goals first
  | (show (1 : Int) ≠ 16; decide)
  | (show (2 : Int) ≠ 16; decide)
  | (show (3 : Int) ≠ 16; decide)
  | exact b7A _ _ _ _ _ _ _
theorem c9k {ps : List Int} : (a0w ps).1 ≠ 16:=by
 unfold a0w
 dsimp only
 repeat' split
 all_goals first
  | (show (3 : Int) ≠ 16; decide)
  | (show (13 : Int) ≠ 16; decide)
  | (show (4 : Int) ≠ 16; decide)
  | (show (0 : Int) ≠ 16; decide)
  | exact b0Y _ _ _ _ _ _
theorem b7C {ps : List Int} {r : Nat} : ∀ (l : List Int) (qs : List (List Int)) (at_ : Nat),(hdrsT ps r l qs at_).1 ≠ 16
 | [],_,_=>by show (0 : Int) ≠ 16; decide
 | c :: l,qs,at_=>by
  unfold hdrsT
  split
  · exact b0Y _ _ _ _ _ _
  · exact b7C l _ _
theorem c9l {ps : List Int} : (dirT ps).1 ≠ 16:=by
 unfold dirT
 repeat' split
 all_goals first
  | (show (3 : Int) ≠ 16; decide)
  | (show (13 : Int) ≠ 16; decide)
  | (show (0 : Int) ≠ 16; decide)
theorem c9m {ps : List Int} : (a0B ps).1 ≠ 16:=by
 unfold a0B
 repeat' split
 all_goals first
  | (show (3 : Int) ≠ 16; decide)
  | (show (13 : Int) ≠ 16; decide)
  | (show (4 : Int) ≠ 16; decide)
  | (show (0 : Int) ≠ 16; decide)
  | exact c9l
  | exact b7C _ _ _
theorem b7D {k n l : Int} : a0u k n l ≠ 16:=by
 unfold a0u
 repeat' split
 all_goals decide
theorem c9n {k : Int} {b : List Int} {n : Int} : (pickD k b n).1 ≠ 16:=by
 unfold pickD
 split
 · exact b7D
 · split
   · unfold a3h
     repeat' split
     all_goals first
      | (show (1 : Int) ≠ 16; decide)
      | (show (11 : Int) ≠ 16; decide)
      | (show (0 : Int) ≠ 16; decide)
   · split
     · unfold dec0M
       split
       · exact c9k
       · exact b7B
     · unfold dec1M
       split
       · exact c9m
       · exact b7B
theorem c9o {f : List Int} {log room : Int} {first : Bool} : (scanM f log first room).1 ≠ 16:=by
 unfold scanM
 repeat' split
 all_goals first
  | (show (1 : Int) ≠ 16; decide)
  | (show (3 : Int) ≠ 16; decide)
  | (show (10 : Int) ≠ 16; decide)
  | (show (11 : Int) ≠ 16; decide)
  | (show (7 : Int) ≠ 16; decide)
  | (show (0 : Int) ≠ 16; decide)
  | exact b7D
theorem c9p {f : List Int} {log room : Int} {first : Bool} : (openM f log first room).1 ≠ 16:=by
 unfold openM
 repeat' split
 all_goals first
  | exact c9o
  | exact c9n
  | (show (3 : Int) ≠ 16; decide)
  | (show (12 : Int) ≠ 16; decide)
  | (show (0 : Int) ≠ 16; decide)
theorem c9q (i : Nat) (c : Int) : headE i c ≠ 16:=by
 unfold headE
 repeat' split
 all_goals decide
theorem b7E {f : List Int} : ∀ (d i : Nat),headG f d i ≠ 16
 | 0,_=>by show (0 : Int) ≠ 16; decide
 | d + 1,i=>by
  unfold headG
  split
  · decide
  · split
    · exact c9q _ _
    · exact b7E d _
theorem c9r {f : List Int} : headM f ≠ 16:=b7E 8 0
open Go.IntWalk Go.Proofs.YtflfjpkmjnnodaaGreatW.PrintWords
theorem b7F {f : List Int} {i : Nat} (d : Nat) (h : i < f.length) : headG f (d + 1) i = if headE i (f.getD i 0) ≠ 0 then headE i (f.getD i 0) else headG f d (i + 1):=by
 conv=>lhs; unfold headG
 rw [if_neg (by omega)]
theorem a2y {f : List Int} {i d : Nat} {k : Int} (h : i < f.length) (he : headE i (f.getD i 0) = k) (hk : k ≠ 0) : headG f (d + 1) i = k:=by
 rw [b7F d h,he,if_pos hk]
theorem a3n {f : List Int} {i d : Nat} (h : i < f.length) (he : headE i (f.getD i 0) = 0) : headG f (d + 1) i = headG f d (i + 1):=by
 rw [b7F d h,he,if_neg (by decide)]
def a1F (f : List Int) : Int:=if headM f = 0 then f.getD 5 0 else 0
theorem a2k {f : List Int} {k : Int} (h : headM f = k) (hk : k ≠ 0) : a1F f = 0:=by unfold a1F; rw [h,if_neg hk]
set_option maxRecDepth 100000 in
set_option maxHeartbeats 4000000 in
theorem b7G (A : Option Addr) (c : Nat) (f : List Int) (w : World) (hf : BSl w A c f) (hl : f.length <= 1000000) :
    Calls Tryz.prog 97 #[.slice A f.length c] w (λ e w'=>e = .returned (.tuple #[.int .i64 (a1F f),.int .i64 (headM f)]) /\ Below w.heap.size w w'):=by
 have HF:=Lib.hid hf
 obtain ⟨n,hn⟩ : ∃ n,n = f.length:=⟨_,rfl⟩
 rw [<- hn] at hl ⊢
 have HN:=Lib.hid hn
 clear hf hn
 go_enter Tryz.func97,Tryz.ntmps97
 go_wp2_with fail
 go_loopw [2,4,5,6,17,26,33,42,49] (λ lv _ _ kv _ _ _ _ _ wr=>∃ i : Nat,i <= 8 /\ kv = .int .i64 i /\ lv = .int .i64 (if 5 < i then f.getD 5 0 else 0) /\ Hid (headG f (8 - i) i = headM f /\ Below w.heap.size w wr /\ i <= f.length)) (λ _ _ _ kv _ _ _ _ _ _=>8 - (intOf kv).toNat)
 case atStart=>exact ⟨0,by omega,rfl,rfl,Lib.hid ⟨rfl,Below.refl _ _,Nat.zero_le _⟩⟩
 case round=>
  obtain ⟨i,hi,rfl,rfl,H⟩:=hrel
  by_cases hlt : i < 8
  · by_cases hle : i < n
    · obtain ⟨ad,hA,hcx⟩:=a0x (Kd.C_below HF.out.row H.out.2.1) i (by have:=HN.out; omega)
      subst hA
      have hbx:=HF.out.by'.get i
      obtain ⟨x,hx⟩ : ∃ x,x = f.getD i 0:=⟨_,rfl⟩
      rw [<- hx] at hcx hbx
      have HX:=Lib.hid hx
      have HL:=Lib.hid (show i < f.length by have:=HN.out; omega)
      have hi8 : i = 0 \/ i = 1 \/ i = 2 \/ i = 3 \/ i = 4 \/ i = 5 \/ i = 6 \/ i = 7:=by omega
      clear hx hi hlt
      rcases hi8 with rfl | rfl | rfl | rfl | rfl | rfl | rfl | rfl
      · have hI : ¬ n = 0:=by omega
        have e0 : ad.add 0 = ad:=by simp [Addr.add]
        rw [e0] at hcx
        have hmg : (((ByteArray.mk #[80,78,67,72])[0]'(by decide)).toNat : Int) = 80:=rfl
        by_cases hx : x = 80
        · have he : headE 0 (f.getD 0 0) = 0:=by rw [<- HX.out,hx]; decide
          have HE:=Lib.hid (a3n (d:=7) HL.out he)
          have hq : (x != 80) = false:=by rw [hx]; rfl
          clear he hle hx
          go_wp2_with fail
          go_roundw
          case rel=>exact ⟨0 + 1,by omega,by go_num,rfl,Lib.hid ⟨by rw [<- HE.out]; exact H.out.1,H.out.2.1,HL.out⟩⟩
          case measure=>first | (simp [intOf]; done) | (simp [intOf]; omega)
        · have he : headE 0 (f.getD 0 0) = 8:=by
            rw [<- HX.out]; unfold headE; rw [if_pos ⟨by decide,hx⟩]
          have HE:=Lib.hid (a2y (d:=7) HL.out he (by decide))
          have hq : (x != 80) = true:=by simpa using hx
          clear he hle hx
          go_wp2_with fail
          go_ret2
          have hM : headM f = 8:=by rw [<- H.out.1]; exact HE.out
          rw [a2k hM (by decide),hM]
          exact ⟨rfl,H.out.2.1⟩
      · have hI : ¬ (n : Int) <= 1:=by omega
        have e1 : ad.add 1 = ⟨ad.block,ad.off + 1,none⟩:=rfl
        rw [e1] at hcx
        have hmg : (((ByteArray.mk #[80,78,67,72])[1]'(by decide)).toNat : Int) = 78:=rfl
        by_cases hx : x = 78
        · have he : headE 1 (f.getD 1 0) = 0:=by rw [<- HX.out,hx]; decide
          have HE:=Lib.hid (a3n (d:=6) HL.out he)
          have hq : (x != 78) = false:=by rw [hx]; rfl
          clear he hle hx
          go_wp2_with fail
          go_roundw
          case rel=>exact ⟨1 + 1,by omega,by go_num,rfl,Lib.hid ⟨by rw [<- HE.out]; exact H.out.1,H.out.2.1,HL.out⟩⟩
          case measure=>first | (simp [intOf]; done) | (simp [intOf]; omega)
        · have he : headE 1 (f.getD 1 0) = 8:=by
            rw [<- HX.out]; unfold headE; rw [if_pos ⟨by decide,hx⟩]
          have HE:=Lib.hid (a2y (d:=6) HL.out he (by decide))
          have hq : (x != 78) = true:=by simpa using hx
          clear he hle hx
          go_wp2_with fail
          go_ret2
          have hM : headM f = 8:=by rw [<- H.out.1]; exact HE.out
          rw [a2k hM (by decide),hM]
          exact ⟨rfl,H.out.2.1⟩
      · have hI : ¬ (n : Int) <= 2:=by omega
        have e1 : ad.add 2 = ⟨ad.block,ad.off + 2,none⟩:=rfl
        rw [e1] at hcx
        have hmg : (((ByteArray.mk #[80,78,67,72])[2]'(by decide)).toNat : Int) = 67:=rfl
        by_cases hx : x = 67
        · have he : headE 2 (f.getD 2 0) = 0:=by rw [<- HX.out,hx]; decide
          have HE:=Lib.hid (a3n (d:=5) HL.out he)
          have hq : (x != 67) = false:=by rw [hx]; rfl
          clear he hle hx
          go_wp2_with fail
          go_roundw
          case rel=>exact ⟨2 + 1,by omega,by go_num,rfl,Lib.hid ⟨by rw [<- HE.out]; exact H.out.1,H.out.2.1,HL.out⟩⟩
          case measure=>first | (simp [intOf]; done) | (simp [intOf]; omega)
        · have he : headE 2 (f.getD 2 0) = 8:=by
            rw [<- HX.out]; unfold headE; rw [if_pos ⟨by decide,hx⟩]
          have HE:=Lib.hid (a2y (d:=5) HL.out he (by decide))
          have hq : (x != 67) = true:=by simpa using hx
          clear he hle hx
          go_wp2_with fail
          go_ret2
          have hM : headM f = 8:=by rw [<- H.out.1]; exact HE.out
          rw [a2k hM (by decide),hM]
          exact ⟨rfl,H.out.2.1⟩
      · have hI : ¬ (n : Int) <= 3:=by omega
        have e1 : ad.add 3 = ⟨ad.block,ad.off + 3,none⟩:=rfl
        rw [e1] at hcx
        have hmg : (((ByteArray.mk #[80,78,67,72])[3]'(by decide)).toNat : Int) = 72:=rfl
        by_cases hx : x = 72
        · have he : headE 3 (f.getD 3 0) = 0:=by rw [<- HX.out,hx]; decide
          have HE:=Lib.hid (a3n (d:=4) HL.out he)
          have hq : (x != 72) = false:=by rw [hx]; rfl
          clear he hle hx
          go_wp2_with fail
          go_roundw
          case rel=>exact ⟨3 + 1,by omega,by go_num,rfl,Lib.hid ⟨by rw [<- HE.out]; exact H.out.1,H.out.2.1,HL.out⟩⟩
          case measure=>first | (simp [intOf]; done) | (simp [intOf]; omega)
        · have he : headE 3 (f.getD 3 0) = 8:=by
            rw [<- HX.out]; unfold headE; rw [if_pos ⟨by decide,hx⟩]
          have HE:=Lib.hid (a2y (d:=4) HL.out he (by decide))
          have hq : (x != 72) = true:=by simpa using hx
          clear he hle hx
          go_wp2_with fail
          go_ret2
          have hM : headM f = 8:=by rw [<- H.out.1]; exact HE.out
          rw [a2k hM (by decide),hM]
          exact ⟨rfl,H.out.2.1⟩
      · have hI : ¬ (n : Int) <= 4:=by omega
        have e1 : ad.add 4 = ⟨ad.block,ad.off + 4,none⟩:=rfl
        rw [e1] at hcx
        by_cases hx : x = 1
        · have he : headE 4 (f.getD 4 0) = 0:=by rw [<- HX.out,hx]; decide
          have HE:=Lib.hid (a3n (d:=3) HL.out he)
          have hq : (x != 1) = false:=by rw [hx]; rfl
          clear he hle hx
          go_wp2_with fail
          go_roundw
          case rel=>exact ⟨4 + 1,by omega,by go_num,rfl,Lib.hid ⟨by rw [<- HE.out]; exact H.out.1,H.out.2.1,HL.out⟩⟩
          case measure=>first | (simp [intOf]; done) | (simp [intOf]; omega)
        · have he : headE 4 (f.getD 4 0) = 9:=by
            rw [<- HX.out]; unfold headE; rw [if_neg (by omega),if_pos ⟨rfl,hx⟩]
          have HE:=Lib.hid (a2y (d:=3) HL.out he (by decide))
          have hq : (x != 1) = true:=by simpa using hx
          clear he hle hx
          go_wp2_with fail
          go_ret2
          have hM : headM f = 9:=by rw [<- H.out.1]; exact HE.out
          rw [a2k hM (by decide),hM]
          exact ⟨rfl,H.out.2.1⟩
      · have hI : ¬ (n : Int) <= 5:=by omega
        have e1 : ad.add 5 = ⟨ad.block,ad.off + 5,none⟩:=rfl
        rw [e1] at hcx
        have hw64 : IntKind.i64.wrap x = x:=i64_in _ (by omega)
        have HG:=Lib.hid (b0Q x wr)
        cases hp : logP x with
        | true=>
         have he : headE 5 (f.getD 5 0) = 0:=by
          rw [<- HX.out]
          have:=logP_iff.1 hp
          simp [headE,this]
         have HE:=Lib.hid (a3n (d:=2) HL.out he)
         clear he hle
         go_wp2_with fail
         refine HG.out.mono ?_
         rintro e w2 ⟨rfl,hd⟩
         rw [hp]
         have HB:=Lib.hid (H.out.2.1.trans (hd.below.mono H.out.2.1.size))
         clear hd
         go_wp2_with fail
         go_roundw
         case rel=>exact ⟨5 + 1,by omega,by go_num,by rw [if_pos (by decide),<- HX.out],Lib.hid ⟨by rw [<- HE.out]; exact H.out.1,HB.out,HL.out⟩⟩
         case measure=>first | (simp [intOf]; done) | (simp [intOf]; omega)
        | false=>
         have he : headE 5 (f.getD 5 0) = 5:=by
          rw [<- HX.out]
          have h5 : ¬ (10 <= x /\ x <= 17):=λ h=>by rw [logP_iff.2 h] at hp; cases hp
          unfold headE
          rw [if_neg (by omega),if_neg (by omega),if_pos ⟨rfl,h5⟩]
         have HE:=Lib.hid (a2y (d:=2) HL.out he (by decide))
         clear he hle
         go_wp2_with fail
         refine HG.out.mono ?_
         rintro e w2 ⟨rfl,hd⟩
         rw [hp]
         have HB:=Lib.hid (H.out.2.1.trans (hd.below.mono H.out.2.1.size))
         clear hd
         go_wp2_with fail
         go_ret2
         have hM : headM f = 5:=by rw [<- H.out.1]; exact HE.out
         rw [a2k hM (by decide),hM]
         exact ⟨rfl,HB.out⟩
      · have hI : ¬ (n : Int) <= 6:=by omega
        have e1 : ad.add 6 = ⟨ad.block,ad.off + 6,none⟩:=rfl
        rw [e1] at hcx
        by_cases hx : x = 0
        · have he : headE 6 (f.getD 6 0) = 0:=by rw [<- HX.out,hx]; decide
          have HE:=Lib.hid (a3n (d:=1) HL.out he)
          have hq : (x != 0) = false:=by rw [hx]; rfl
          clear he hle hx
          go_wp2_with fail
          go_roundw
          case rel=>exact ⟨6 + 1,by omega,by go_num,rfl,Lib.hid ⟨by rw [<- HE.out]; exact H.out.1,H.out.2.1,HL.out⟩⟩
          case measure=>first | (simp [intOf]; done) | (simp [intOf]; omega)
        · have he : headE 6 (f.getD 6 0) = 4:=by
            rw [<- HX.out]; unfold headE; rw [if_neg (by omega),if_neg (by omega),if_neg (by omega),if_pos ⟨by decide,hx⟩]
          have HE:=Lib.hid (a2y (d:=1) HL.out he (by decide))
          have hq : (x != 0) = true:=by simpa using hx
          clear he hle hx
          go_wp2_with fail
          go_ret2
          have hM : headM f = 4:=by rw [<- H.out.1]; exact HE.out
          rw [a2k hM (by decide),hM]
          exact ⟨rfl,H.out.2.1⟩
      · have hI : ¬ (n : Int) <= 7:=by omega
        have e1 : ad.add 7 = ⟨ad.block,ad.off + 7,none⟩:=rfl
        rw [e1] at hcx
        by_cases hx : x = 0
        · have he : headE 7 (f.getD 7 0) = 0:=by rw [<- HX.out,hx]; decide
          have HE:=Lib.hid (a3n (d:=0) HL.out he)
          have hq : (x != 0) = false:=by rw [hx]; rfl
          clear he hle hx
          go_wp2_with fail
          go_roundw
          case rel=>exact ⟨7 + 1,by omega,by go_num,rfl,Lib.hid ⟨by rw [<- HE.out]; exact H.out.1,H.out.2.1,HL.out⟩⟩
          case measure=>first | (simp [intOf]; done) | (simp [intOf]; omega)
        · have he : headE 7 (f.getD 7 0) = 4:=by
            rw [<- HX.out]; unfold headE; rw [if_neg (by omega),if_neg (by omega),if_neg (by omega),if_pos ⟨by decide,hx⟩]
          have HE:=Lib.hid (a2y (d:=0) HL.out he (by decide))
          have hq : (x != 0) = true:=by simpa using hx
          clear he hle hx
          go_wp2_with fail
          go_ret2
          have hM : headM f = 4:=by rw [<- H.out.1]; exact HE.out
          rw [a2k hM (by decide),hM]
          exact ⟨rfl,H.out.2.1⟩
    · have hI : (n : Int) <= (i : Int):=by omega
      have hM : headM f = 3:=by
       rw [<- H.out.1,show 8 - i = (7 - i) + 1 by omega]
       unfold headG
       rw [if_pos (by have:=HN.out; omega)]
      have HM:=Lib.hid hM
      clear hM hle
      go_wp2_with fail
      go_ret2
      rw [a2k HM.out (by decide),HM.out]
      exact ⟨rfl,H.out.2.1⟩
  · obtain rfl : i = 8:=by omega
    have hM : headM f = 0:=by rw [<- H.out.1]; rfl
    have HM:=Lib.hid hM
    clear hM hlt
    go_wp2_with fail
    go_ret2
    unfold a1F
    rw [HM.out,if_pos rfl]
    exact ⟨rfl,H.out.2.1⟩
def wantL : List Int:=[80,78,67,72,1,0,0,0]
theorem c9s {i : Nat} (hi : i < 8) (h5 : i ≠ 5) (x : Int) : headE i x = if x = wantL.getD i 0 then 0 else if i < 4 then 8 else if i = 4 then 9 else 4:=by
 have h : i = 0 \/ i = 1 \/ i = 2 \/ i = 3 \/ i = 4 \/ i = 6 \/ i = 7:=by omega
 rcases h with rfl | rfl | rfl | rfl | rfl | rfl | rfl <;> simp [headE,wantL]
theorem c9t (x : Int) : headE 5 x = if 10 <= x /\ x <= 17 then 0 else 5:=by
 unfold headE
 rw [if_neg (by omega),if_neg (by omega)]
 by_cases h : 10 <= x /\ x <= 17
 · rw [if_neg (λ k=>k.2 h),if_neg (λ k=>by omega),if_pos h]
 · rw [if_pos ⟨rfl,h⟩,if_neg h]
set_option maxRecDepth 100000 in
set_option maxHeartbeats 4000000 in
theorem c9u (A : Option Addr) (c : Nat) (f : List Int) (w : World) (hf : BSl w A c f) (hl : f.length <= 140737488355328) :
    Calls Tryz.prog 94 #[.slice A f.length c] w (λ e w'=>e = .returned (.tuple #[.int .i64 (a1F f),.int .i64 (headM f)]) /\ Below w.heap.size w w'):=by
 have HF:=Lib.hid hf
 obtain ⟨n,hn⟩ : ∃ n,n = f.length:=⟨_,rfl⟩
 rw [<- hn] at hl ⊢
 have HN:=Lib.hid hn
 obtain ⟨W0,hW0⟩ : ∃ W0,W0 = w.alloc (.cells #[.int .u8 80,.int .u8 78,.int .u8 67,.int .u8 72,.int .u8 1,.int .u8 0,.int .u8 0,.int .u8 0] 5):=⟨_,rfl⟩
 have HB0 : Hid (Below w.heap.size w W0):=Lib.hid (by rw [hW0]; exact (Below.refl _ _).alloc (Nat.le_refl _) _)
 have HW0 : Hid ((Kd.int .u8).R 5 W0 w.heap.size (λ _=>True) (.slice (some ⟨w.heap.size,0,none⟩) 8 8) wantL):=Lib.hid (by rw [hW0]; exact a2N .u8 5 w w.heap.size (λ _=>True) trivial (Nat.le_refl _) wantL (by decide))
 clear hf hn
 go_enter Tryz.func94,Tryz.ntmps94
 go_wp2_with fail
 rw [<- hW0]
 obtain ⟨g,hg⟩ : ∃ g,g = w.heap.size:=⟨_,rfl⟩
 rw [<- hg] at HW0 ⊢
 have HG:=Lib.hid hg
 clear hW0 hg
 go_loopw [5,36,39] (λ kv _ _ wr=>∃ i : Nat,i <= 8 /\ kv = .int .i64 i /\ Hid (headG f (8 - i) i = headM f /\ SLater W0 wr /\ i <= f.length /\ (5 < i -> 10 <= f.getD 5 0 /\ f.getD 5 0 <= 17))) (λ kv _ _ _=>8 - (intOf kv).toNat)
 case atStart=>exact ⟨0,by omega,rfl,Lib.hid ⟨rfl,Below.refl _ _,Nat.zero_le _,λ h=>by omega⟩⟩
 case round=>
  obtain ⟨i,hi,rfl,H⟩:=hrel
  by_cases hlt : i < 8
  · by_cases hle : i < n
    · obtain ⟨ad,hA,hcx⟩:=a0x (Kd.C_below (Kd.C_below HF.out.row HB0.out) H.out.2.1) i (by have:=HN.out; omega)
      subst hA
      have hbx:=HF.out.by'.get i
      obtain ⟨x,hx⟩ : ∃ x,x = f.getD i 0:=⟨_,rfl⟩
      rw [<- hx] at hcx hbx
      have HX:=Lib.hid hx
      have HL:=Lib.hid (show i < f.length by have:=HN.out; omega)
      have hI8 : (i : Int) < 8:=by omega
      have hIn : ¬ (n : Int) <= (i : Int):=by omega
      have hIn2 : (i : Int) < (n : Int):=by omega
      by_cases h5 : i = 5
      · subst h5
        have e1 : ad.add 5 = ⟨ad.block,ad.off + 5,none⟩:=rfl
        rw [e1] at hcx
        have hE:=c9t x
        rw [hx] at hE
        by_cases hp : 10 <= x /\ x <= 17
        · rw [<- hx,if_pos hp,hx] at hE
          have HE:=Lib.hid (a3n (d:=2) HL.out hE)
          have q1 : decide (x < 10) = false:=decide_eq_false (by omega)
          have q2 : decide (17 < x) = false:=decide_eq_false (by omega)
          have HP:=Lib.hid hp
          clear hE hle hx hlt hi hp
          go_wp2_with fail
          go_roundw
          case rel=>exact ⟨5 + 1,by omega,by go_num,Lib.hid ⟨by rw [<- HE.out]; exact H.out.1,H.out.2.1,HL.out,λ _=>by rw [<- HX.out]; exact HP.out⟩⟩
          case measure=>first | (simp [intOf]; done) | (simp [intOf]; omega)
        · rw [<- hx,if_neg hp,hx] at hE
          have HE:=Lib.hid (a2y (d:=2) HL.out hE (by decide))
          have hd : decide (x < 10) = true \/ (decide (x < 10) = false /\ decide (17 < x) = true):=by
           by_cases h : x < 10
           · exact .inl (decide_eq_true h)
           · exact .inr ⟨decide_eq_false h,decide_eq_true (by omega)⟩
          clear hE hle hx hlt hi hp
          rcases hd with q1 | ⟨q1,q2⟩
          all_goals
           go_wp2_with fail
           go_ret2
           have hM : headM f = 5:=by rw [<- H.out.1]; exact HE.out
           rw [a2k hM (by decide),hM]
           exact ⟨rfl,a0k HB0.out H.out.2.1⟩
      · have hne5 : ((i : Int) == 5) = false:=by simp; omega
        obtain ⟨wc,wf⟩:=a1G (Kd.R_below HW0.out H.out.2.1) i hlt
        have hE:=c9s hlt h5 x
        obtain ⟨y,hy⟩ : ∃ y,y = wantL.getD i 0:=⟨_,rfl⟩
        rw [<- hy] at wc hE
        by_cases hxy : x = y
        · rw [if_pos hxy,hx] at hE
          have HE:=Lib.hid (a3n (d:=7 - i) HL.out hE)
          have q1 : (x == y) = true:=by simp [hxy]
          have HQ:=Lib.hid (show 8 - i = 7 - i + 1 /\ 8 - (i + 1) = 7 - i by omega)
          clear hE hle hx hlt hy hxy
          go_wp2_with fail
          go_quiet (fail)
          go_wp2_with fail
          go_roundw
          case rel=>exact ⟨i + 1,by omega,by go_num,Lib.hid ⟨by rw [HQ.out.2,<- HE.out,<- HQ.out.1]; exact H.out.1,a0b H.out.2.1 _,HL.out,λ h=>H.out.2.2.2 (by omega)⟩⟩
          case measure=>first | (simp [intOf]; done) | (simp [intOf]; omega)
        · rw [if_neg hxy,hx] at hE
          have q1 : (x == y) = false:=by simp [hxy]
          have HQ:=Lib.hid (show 8 - i = 7 - i + 1 by omega)
          by_cases h4 : i < 4
          · rw [if_pos h4] at hE
            have HE:=Lib.hid (a2y (d:=7 - i) HL.out hE (by decide))
            have hI4 : (i : Int) < 4:=by omega
            clear hE hle hx hlt hy hxy h4
            go_wp2_with fail
            go_quiet (fail)
            go_wp2_with fail
            go_ret2
            have hM : headM f = 8:=by rw [<- H.out.1,HQ.out]; exact HE.out
            rw [a2k hM (by decide),hM]
            exact ⟨rfl,a0k HB0.out (a0b H.out.2.1 _)⟩
          · have hI4 : ¬ (i : Int) < 4:=by omega
            rw [if_neg h4] at hE
            by_cases h44 : i = 4
            · rw [if_pos h44] at hE
              have HE:=Lib.hid (a2y (d:=7 - i) HL.out hE (by decide))
              have hI5 : ((i : Int) == 4) = true:=by simp; omega
              clear hE hle hx hlt hy hxy h4 h44
              go_wp2_with fail
              go_quiet (fail)
              go_wp2_with fail
              go_ret2
              have hM : headM f = 9:=by rw [<- H.out.1,HQ.out]; exact HE.out
              rw [a2k hM (by decide),hM]
              exact ⟨rfl,a0k HB0.out (a0b H.out.2.1 _)⟩
            · rw [if_neg h44] at hE
              have HE:=Lib.hid (a2y (d:=7 - i) HL.out hE (by decide))
              have hI5 : ((i : Int) == 4) = false:=by simp; omega
              clear hE hle hx hlt hy hxy h4 h44
              go_wp2_with fail
              go_quiet (fail)
              go_wp2_with fail
              go_ret2
              have hM : headM f = 4:=by rw [<- H.out.1,HQ.out]; exact HE.out
              rw [a2k hM (by decide),hM]
              exact ⟨rfl,a0k HB0.out (a0b H.out.2.1 _)⟩
    · have hI : (n : Int) <= (i : Int):=by omega
      have hI8 : (i : Int) < 8:=by omega
      have hM : headM f = 3:=by
       rw [<- H.out.1,show 8 - i = (7 - i) + 1 by omega]
       unfold headG
       rw [if_pos (by have:=HN.out; omega)]
      have HM:=Lib.hid hM
      clear hM hle
      go_wp2_with fail
      go_ret2
      rw [a2k HM.out (by decide),HM.out]
      exact ⟨rfl,a0k HB0.out H.out.2.1⟩
  · obtain rfl : i = 8:=by omega
    have hM : headM f = 0:=by rw [<- H.out.1]; rfl
    have HM:=Lib.hid hM
    obtain ⟨ad,hA,hcx⟩:=a0x (Kd.C_below (Kd.C_below HF.out.row HB0.out) H.out.2.1) 5 (by have:=H.out.2.2.1; omega)
    subst hA
    have e1 : ad.add 5 = ⟨ad.block,ad.off + 5,none⟩:=rfl
    rw [e1] at hcx
    have hbx:=HF.out.by'.get 5
    obtain ⟨x,hx⟩ : ∃ x,x = f.getD 5 0:=⟨_,rfl⟩
    rw [<- hx] at hcx hbx
    have HX:=Lib.hid hx
    have hw64 : IntKind.i64.wrap x = x:=i64_in _ (by omega)
    have hI5 : (5 : Int) < (n : Int):=by have:=H.out.2.2.1; have:=HN.out; omega
    clear hM hlt hx
    go_wp2_with fail
    go_ret2
    unfold a1F
    rw [HM.out,if_pos rfl,<- HX.out]
    exact ⟨rfl,a0k HB0.out H.out.2.1⟩
set_option maxRecDepth 100000 in
set_option maxHeartbeats 1000000 in
theorem c9v (A : Option Addr) (c : Nat) (b : List Int) (w : World) (hr : (Kd.int .u8).C w A b.length b) (hl : b.length <= 131072) (hb : Bytes b) :
    Calls Tryz.prog 179 #[.int .i64 0,.slice A b.length c,.int .i64 b.length] w (Told 0 b w):=by
 have HR:=Lib.hid (And.intro hr (And.intro hl hb))
 have d1 : decide ((b.length : Int) < 0) = false:=decide_eq_false (by omega)
 have d2 : decide ((131072 : Int) < (b.length : Int)) = false:=decide_eq_false (by omega)
 clear hr hl hb
 go_enter Tryz.func179,Tryz.ntmps179
 go_wp2_with fail
 refine (a6e 0 w).mono ?_
 rintro e w' ⟨rfl,rfl⟩
 go_wp2_with fail
 go_loopw [8,9,45] (λ v _ kv wr=>∃ i : Nat,i <= b.length /\ kv = .int .i64 i /\ Hid ((Kd.int .u8).R 5 wr w.heap.size (λ _=>True) v (b.take i) /\ Below w.heap.size w wr)) (λ _ _ kv _=>b.length - (intOf kv).toNat)
 case atStart=>exact ⟨0,by omega,rfl,Lib.hid ⟨by rw [List.take_zero]; exact Kd.R_nil _ _ _ _ _,Below.refl _ _⟩⟩
 case round=>
  obtain ⟨i,hi,rfl,H⟩:=hrel
  by_cases hlt : i < b.length
  · obtain ⟨Av,cv,rfl⟩:=Kd.R_slice H.out.1
    obtain ⟨ad,hA,hcx⟩:=a0x (Kd.C_below HR.out.1 H.out.2) i hlt
    subst hA
    obtain ⟨y,hy⟩ : ∃ y,y = b.getD i 0:=⟨_,rfl⟩
    rw [<- hy] at hcx
    have hl6 : b.length <= 131072:=HR.out.2.1
    have hI : (i : Int) < (b.length : Int):=by omega
    have HN : Hid (b.take (i + 1) = b.take i ++ [y]):=Lib.hid (by rw [List.take_succ_eq_append_getElem hlt,hy,List.getD_eq_getElem?_getD,List.getElem?_eq_getElem hlt]; rfl)
    obtain ⟨L,hL⟩ : ∃ L,L = b.take i:=⟨_,rfl⟩
    have hLl : L.length = i:=by rw [hL,List.length_take]; omega
    rw [<- hL] at H HN ⊢
    have HLn : Hid ((L.length + 1) * 1 <= 140737488355328):=Lib.hid (by omega)
    have HS:=Lib.hid H.out.2.size
    clear hy hL
    go_wp2_with (at_builtin; refine Kd.R_append (Kd.int .u8) (w0:=w) (W:=wr) w.heap.size rfl (.tmp 48) (.tmp 56) 22 5 (.int .u8 0) 1 rfl Tryz.underlying22 a0E rfl (by decide) (by decide) _ _ y [.int .u8 y] (λ _=>True) (λ _=>False) rfl rfl rfl (λ _ h=>h.elim) (λ _ _=>trivial) H.out.1 H.out.2 HS.out HLn.out ?_; intro v1 w3 hr3 hb3 hg3 hat3; have HA:=Lib.hid (And.intro hr3 hb3); clear hr3 hb3 hg3 hat3)
    go_roundw
    case rel=>exact ⟨i + 1,by omega,by go_num,Lib.hid ⟨by rw [HN.out]; exact HA.out.1,HA.out.2⟩⟩
    case measure=>simp [intOf]; omega
  · obtain rfl : i = b.length:=by omega
    obtain ⟨Av,cv,rfl⟩:=Kd.R_slice H.out.1
    go_wp2_with fail
    go_ret2
    have h1:=H.out.1
    rw [List.take_length] at h1
    rw [List.take_length]
    exact ⟨Av,cv,rfl,h1,H.out.2⟩
set_option maxRecDepth 100000 in
set_option maxHeartbeats 1000000 in
theorem c9w (A : Option Addr) (c : Nat) (x : Int) (N : Nat) (w : World) (hr : (Kd.int .u8).C w A 1 [x]) (hl : N <= 131072) (h2 : 2 <= N) :
    Calls Tryz.prog 179 #[.int .i64 1,.slice A 1 c,.int .i64 N] w (Told 0 (List.replicate N x) w):=by
 have HR:=Lib.hid (And.intro hr (And.intro hl h2))
 have d3 : decide ((N : Int) < 2) = false:=decide_eq_false (by omega)
 have d1 : decide ((N : Int) < 0) = false:=decide_eq_false (by omega)
 have d2 : decide ((131072 : Int) < (N : Int)) = false:=decide_eq_false (by omega)
 clear hr hl h2
 go_enter Tryz.func179,Tryz.ntmps179
 go_wp2_with fail
 refine (a6e 1 w).mono ?_
 rintro e w' ⟨rfl,rfl⟩
 go_wp2_with fail
 go_loopw [8,9,45] (λ v _ kv wr=>∃ i : Nat,i <= N /\ kv = .int .i64 i /\ Hid ((Kd.int .u8).R 5 wr w.heap.size (λ _=>True) v (List.replicate i x) /\ Below w.heap.size w wr)) (λ _ _ kv _=>N - (intOf kv).toNat)
 case atStart=>exact ⟨0,by omega,rfl,Lib.hid ⟨by exact Kd.R_nil _ _ _ _ _,Below.refl _ _⟩⟩
 case round=>
  obtain ⟨i,hi,rfl,H⟩:=hrel
  by_cases hlt : i < N
  · obtain ⟨Av,cv,rfl⟩:=Kd.R_slice H.out.1
    obtain ⟨ad,hA,hcx⟩:=a0x (Kd.C_below HR.out.1 H.out.2) 0 (by decide)
    subst hA
    have e0 : ad.add 0 = ad:=by simp [Addr.add]
    have hcy : wr.cell? ad = some (.int .u8 x):=by rw [e0] at hcx; exact hcx
    have hl6 : N <= 131072:=HR.out.2.1
    have hI : (i : Int) < (N : Int):=by omega
    have HN : Hid (List.replicate (i + 1) x = List.replicate i x ++ [x]):=Lib.hid List.replicate_succ'
    clear e0
    obtain ⟨L,hL⟩ : ∃ L,L = List.replicate i x:=⟨_,rfl⟩
    have hLl : L.length = i:=by rw [hL,List.length_replicate]
    rw [<- hL] at H HN ⊢
    have HLn : Hid ((L.length + 1) * 1 <= 140737488355328):=Lib.hid (by omega)
    have HS:=Lib.hid H.out.2.size
    clear hL
    go_wp2_with (at_builtin; refine Kd.R_append (Kd.int .u8) (w0:=w) (W:=wr) w.heap.size rfl (.tmp 48) (.tmp 56) 22 5 (.int .u8 0) 1 rfl Tryz.underlying22 a0E rfl (by decide) (by decide) _ _ x [.int .u8 x] (λ _=>True) (λ _=>False) rfl rfl rfl (λ _ h=>h.elim) (λ _ _=>trivial) H.out.1 H.out.2 HS.out HLn.out ?_; intro v1 w3 hr3 hb3 hg3 hat3; have HA:=Lib.hid (And.intro hr3 hb3); clear hr3 hb3 hg3 hat3)
    go_roundw
    case rel=>exact ⟨i + 1,by omega,by go_num,Lib.hid ⟨by rw [HN.out]; exact HA.out.1,HA.out.2⟩⟩
    case measure=>simp [intOf]; omega
  · obtain rfl : i = N:=by omega
    obtain ⟨Av,cv,rfl⟩:=Kd.R_slice H.out.1
    go_wp2_with fail
    go_ret2
    have h1:=H.out.1
    exact ⟨Av,cv,rfl,h1,H.out.2⟩
def c9x (r : Nat) (qs : List (List Int)) (p : List Int) (w : World) (e : Ending) (w' : World) : Prop:=
 ∃ Am cm Ap cp,e = .returned (.tuple #[.agg #[.int .i64 r,.bool false,.slice Am qs.length cm],.slice Ap p.length cp,.int .i64 0]) /\ kq.R 84 w' w.heap.size (λ _=>True) (.slice Am qs.length cm) qs /\ (Kd.int .u8).R 5 w' w.heap.size (λ _=>True) (.slice Ap p.length cp) p /\ Below w.heap.size w w'
theorem c9y (A : Option Addr) (c : Nat) (ps : List Int) {r : Nat} {qs : List (List Int)} {p : List Int} (w : World) (hr : (Kd.int .u8).C w A ps.length ps) (hps : Bytes ps) (hl : ps.length <= 1000000) (hc : ps.length <= c) (h : a0B ps = (0,r,qs,p)) :
    Calls Tryz.prog 21 #[.slice A ps.length c] w (c9x r qs p w):=by
 refine (b6M A c ps w hr hps hl hc).mono ?_
 intro e w' hp
 unfold a6c at hp
 rw [h] at hp
 obtain ⟨vm,vp,rfl,hm,hv⟩:=hp.1 rfl
 obtain ⟨Am,cm,rfl⟩:=Kd.R_slice hm
 obtain ⟨Ap,cp,rfl⟩:=Kd.R_slice hv
 exact ⟨Am,cm,Ap,cp,rfl,hm,hv,hp.2.2⟩
theorem c9z (A : Option Addr) (c : Nat) (ps : List Int) {k : Int} (w : World) (hr : (Kd.int .u8).C w A ps.length ps) (hps : Bytes ps) (hl : ps.length <= 1000000) (hc : ps.length <= c) (h : (a0B ps).1 = k) (hk : k ≠ 0) :
    Calls Tryz.prog 21 #[.slice A ps.length c] w (λ e w'=>e = .returned (.tuple #[.agg #[.int .i64 0,.bool false,.slice none 0 0],.slice none 0 0,.int .i64 k]) /\ Below w.heap.size w w'):=by
 refine (b6M A c ps w hr hps hl hc).mono ?_
 intro e w' hp
 unfold a6c at hp
 rw [h] at hp
 exact ⟨hp.2.1 hk,hp.2.2⟩
set_option maxRecDepth 100000 in
set_option maxHeartbeats 1000000 in
theorem b7H (A : Option Addr) (c : Nat) (ps : List Int) (n : Int) (w : World) (hr : (Kd.int .u8).C w A ps.length ps) (hps : Bytes ps) (hl : ps.length <= 1000000) (hc : ps.length <= c) :
    Calls Tryz.prog 23 #[.slice A ps.length c,.int .i64 n] w (ReadPost (dec1M ps n) w):=by
 obtain ⟨k,r,q,p,hS⟩ : ∃ k r q p,a0B ps = (k,r,q,p):=⟨_,_,_,_,rfl⟩
 have hpb:=b0p hps
 have hpl:=(b6q ps).1
 have hql:=(b6q ps).2
 rw [hS] at hpb hpl hql
 by_cases hk : k = 0
 · subst hk
   have HD : Hid (dec1M ps n = decM (r : Nat) false q p n):=by show _ = _; unfold dec1M; rw [hS,if_neg (λ h=>h rfl)]
   have HS:=Lib.hid (c9y A c ps w hr hps hl hc hS)
   have HP:=Lib.hid (And.intro hpb (And.intro (Nat.le_trans hpl hl) (show q.length <= 256 from hql)))
   rw [HD.out]
   clear hr hps hl hc hS hpb hpl hql
   go_enter Tryz.func23,Tryz.ntmps23
   go_wp2_with fail
   refine HS.out.mono ?_
   rintro e w1 ⟨Am,cm,Ap,cp,rfl,hm,hv,hb1⟩
   obtain ⟨w2,hw2⟩ : ∃ w2,w2 = w1.alloc (.cells #[.int .i64 r,.bool false,.slice Am q.length cm] 26):=⟨_,rfl⟩
   have hb2 : Below w1.heap.size w1 w2:=by rw [hw2]; exact (Below.refl _ _).alloc (Nat.le_refl _) _
   have HB2:=Lib.hid (hb1.trans (hb2.mono hb1.size))
   have HM:=Lib.hid (Kd.C_below (Kd.R_reads' hm).2.2 hb2)
   have HV:=Lib.hid (Kd.C_below (Kd.R_reads' hv).2.2 hb2)
   clear hm hv hb1 hb2
   go_wp2_with fail
   rw [<- hw2]
   clear hw2
   refine (b4b r false Am cm q Ap cp p n w2 HM.out (by have:=HP.out.2.2; omega) HV.out HP.out.1 HP.out.2.1).mono ?_
   rintro e w3 ⟨⟨v,rfl,hv⟩,hb3⟩
   have H3:=Lib.hid (And.intro hv hb3)
   clear hv hb3
   go_wp2_with fail
   go_ret2
   exact ⟨⟨v,rfl,Kd.R_lower H3.out.1 HB2.out.size⟩,HB2.out.trans (H3.out.2.mono HB2.out.size)⟩
 · have HD : Hid (dec1M ps n = (k,[])):=by show _ = _; unfold dec1M; rw [hS,if_pos hk]
   have HS:=Lib.hid (c9z A c ps w hr hps hl hc (by rw [hS]) hk)
   have hkb : (k == 0) = false:=beq_eq_false_iff_ne.2 hk
   have hkn : (k != 0) = true:=by simp [hk]
   rw [HD.out]
   clear hr hps hl hc hS hpb hpl hql
   go_enter Tryz.func23,Tryz.ntmps23
   go_wp2_with fail
   refine HS.out.mono ?_
   rintro e w1 ⟨rfl,hb1⟩
   have HB1:=Lib.hid hb1
   clear hb1
   go_wp2_with fail
   go_ret2
   exact ⟨⟨_,rfl,Kd.R_nil _ _ _ _ _⟩,HB1.out.alloc HB1.out.size _⟩
set_option maxRecDepth 100000 in
theorem b7I {x : Int × List Int} (A : Option Addr) (c p : Nat) (k n : Int) (m : Nat) (w : World) (hp : w.cell? ⟨p,0,none⟩ = some (.int .i64 k)) (h : Calls Tryz.prog 179 #[.int .i64 k,.slice A m c,.int .i64 n] w (Told x.1 x.2 w)) :
    Calls Tryz.prog 178 #[.slice A m c,.int .i64 n,.pointer (some ⟨p,0,none⟩)] w (Told x.1 x.2 w):=by
 have H:=Lib.hid h
 clear h
 go_enter Tryz.func178,Tryz.ntmps178
 go_wp2_with fail
 refine H.out.mono ?_
 rintro e w' ⟨A1,c1,rfl,hv,hb⟩
 have H1:=Lib.hid (And.intro hv hb)
 clear hv hb
 go_wp2_with fail
 go_ret2
 exact ⟨A1,c1,rfl,H1.out.1,H1.out.2⟩
set_option maxRecDepth 100000 in
theorem c9A (A : Option Addr) (c m : Nat) (k n : Int) (w : World) (h : a0u k n m ≠ 0) :
    Calls Tryz.prog 28 #[.int .i64 k,.slice A m c,.int .i64 n] w (Told (a0u k n m) [] w):=by
 have HI:=Lib.hid (a5n k n m w)
 unfold a1C at HI
 obtain ⟨z,hz⟩ : ∃ z,z = a0u k n m:=⟨_,rfl⟩
 rw [<- hz] at HI h ⊢
 have hz2 : (z != 0) = true:=by simpa using h
 clear hz h
 go_enter Tryz.func28,Tryz.ntmps28
 go_wp2_with fail
 refine HI.out.mono ?_
 rintro e w' ⟨rfl,hb⟩
 have HB:=Lib.hid hb
 clear hb
 go_wp2_with fail
 go_ret2
 exact Told.nil z HB.out
set_option maxRecDepth 100000 in
theorem c9B {x : Int × List Int} (A : Option Addr) (c m : Nat) (n : Int) (w : World) (h0 : a0u 0 n m = 0) (h : ∀ (W : World) (p q : Nat),Below w.heap.size w W -> W.cell? ⟨p,0,none⟩ = some (.int .i64 0) -> W.cell? ⟨q,0,none⟩ = some (.int .i64 1) -> Calls Tryz.prog 178 #[.slice A m c,.int .i64 n,.pointer (some ⟨p,0,none⟩)] W (Told x.1 x.2 W)) :
    Calls Tryz.prog 28 #[.int .i64 0,.slice A m c,.int .i64 n] w (Told x.1 x.2 w):=by
 have H:=Lib.hid h
 have HI:=Lib.hid (a5n 0 n m w)
 unfold a1C at HI
 rw [h0] at HI
 clear h h0
 go_enter Tryz.func28,Tryz.ntmps28
 go_wp2_with fail
 refine HI.out.mono ?_
 rintro e w0 ⟨rfl,hb0⟩
 have HB0:=Lib.hid hb0
 clear hb0
 go_wp2_with fail
 refine (a2w w0).mono ?_
 rintro e w1 ⟨p,q,rfl,hp,hq,hb⟩
 have HB:=Lib.hid (a0k HB0.out hb)
 have H1:=Lib.hid (H.out w1 p q HB.out hp hq)
 have hix:=λ W=>b0I p q W
 have hkf:=a7X
 obtain ⟨V,hV⟩ : ∃ V,V = a1v p q:=⟨_,rfl⟩
 rw [<- hV] at hix ⊢
 clear hb hp hq hV
 go_wp2_with fail
 refine H1.out.mono ?_
 rintro e w2 ⟨A1,c1,rfl,hv,hb⟩
 have H2:=Lib.hid (And.intro hv hb)
 clear hv hb hix hkf
 go_wp2_with fail
 go_ret2
 exact ⟨A1,c1,rfl,Kd.R_lower H2.out.1 HB.out.size,a0k HB.out H2.out.2⟩
set_option maxRecDepth 100000 in
theorem c9C {x : Int × List Int} (A : Option Addr) (c m : Nat) (n : Int) (w : World) (h0 : a0u 1 n m = 0) (h : ∀ (W : World) (p q : Nat),Below w.heap.size w W -> W.cell? ⟨p,0,none⟩ = some (.int .i64 0) -> W.cell? ⟨q,0,none⟩ = some (.int .i64 1) -> Calls Tryz.prog 178 #[.slice A m c,.int .i64 n,.pointer (some ⟨q,0,none⟩)] W (Told x.1 x.2 W)) :
    Calls Tryz.prog 28 #[.int .i64 1,.slice A m c,.int .i64 n] w (Told x.1 x.2 w):=by
 have H:=Lib.hid h
 have HI:=Lib.hid (a5n 1 n m w)
 unfold a1C at HI
 rw [h0] at HI
 clear h h0
 go_enter Tryz.func28,Tryz.ntmps28
 go_wp2_with fail
 refine HI.out.mono ?_
 rintro e w0 ⟨rfl,hb0⟩
 have HB0:=Lib.hid hb0
 clear hb0
 go_wp2_with fail
 refine (a2w w0).mono ?_
 rintro e w1 ⟨p,q,rfl,hp,hq,hb⟩
 have HB:=Lib.hid (a0k HB0.out hb)
 have H1:=Lib.hid (H.out w1 p q HB.out hp hq)
 have hix:=λ W=>b0J p q W
 have hkf:=a7X
 obtain ⟨V,hV⟩ : ∃ V,V = a1v p q:=⟨_,rfl⟩
 rw [<- hV] at hix ⊢
 clear hb hp hq hV
 go_wp2_with fail
 refine H1.out.mono ?_
 rintro e w2 ⟨A1,c1,rfl,hv,hb⟩
 have H2:=Lib.hid (And.intro hv hb)
 clear hv hb hix hkf
 go_wp2_with fail
 go_ret2
 exact ⟨A1,c1,rfl,Kd.R_lower H2.out.1 HB.out.size,a0k HB.out H2.out.2⟩
set_option maxRecDepth 100000 in
theorem c9D {x : Int × List Int} (A : Option Addr) (c m : Nat) (n : Int) (w : World) (h0 : a0u 2 n m = 0) (h : ∀ (W : World) (p q : Nat),Below w.heap.size w W -> W.cell? ⟨p,0,none⟩ = some (.int .i64 0) -> W.cell? ⟨q,0,none⟩ = some (.int .i64 1) -> Calls Tryz.prog 131 #[.slice A m c,.int .i64 n] W (Told x.1 x.2 W)) :
    Calls Tryz.prog 28 #[.int .i64 2,.slice A m c,.int .i64 n] w (Told x.1 x.2 w):=by
 have H:=Lib.hid h
 have HI:=Lib.hid (a5n 2 n m w)
 unfold a1C at HI
 rw [h0] at HI
 clear h h0
 go_enter Tryz.func28,Tryz.ntmps28
 go_wp2_with fail
 refine HI.out.mono ?_
 rintro e w0 ⟨rfl,hb0⟩
 have HB0:=Lib.hid hb0
 clear hb0
 go_wp2_with fail
 refine (a2w w0).mono ?_
 rintro e w1 ⟨p,q,rfl,hp,hq,hb⟩
 have HB:=Lib.hid (a0k HB0.out hb)
 have H1:=Lib.hid (H.out w1 p q HB.out hp hq)
 have hix:=λ W=>b0K p q W
 have hkf:=a7X
 obtain ⟨V,hV⟩ : ∃ V,V = a1v p q:=⟨_,rfl⟩
 rw [<- hV] at hix ⊢
 clear hb hp hq hV
 go_wp2_with fail
 refine H1.out.mono ?_
 rintro e w2 ⟨A1,c1,rfl,hv,hb⟩
 have H2:=Lib.hid (And.intro hv hb)
 clear hv hb hix hkf
 go_wp2_with fail
 go_ret2
 exact ⟨A1,c1,rfl,Kd.R_lower H2.out.1 HB.out.size,a0k HB.out H2.out.2⟩
set_option maxRecDepth 100000 in
theorem c9E {x : Int × List Int} (A : Option Addr) (c m : Nat) (n : Int) (w : World) (h0 : a0u 3 n m = 0) (h : ∀ (W : World) (p q : Nat),Below w.heap.size w W -> W.cell? ⟨p,0,none⟩ = some (.int .i64 0) -> W.cell? ⟨q,0,none⟩ = some (.int .i64 1) -> Calls Tryz.prog 23 #[.slice A m c,.int .i64 n] W (Told x.1 x.2 W)) :
    Calls Tryz.prog 28 #[.int .i64 3,.slice A m c,.int .i64 n] w (Told x.1 x.2 w):=by
 have H:=Lib.hid h
 have HI:=Lib.hid (a5n 3 n m w)
 unfold a1C at HI
 rw [h0] at HI
 clear h h0
 go_enter Tryz.func28,Tryz.ntmps28
 go_wp2_with fail
 refine HI.out.mono ?_
 rintro e w0 ⟨rfl,hb0⟩
 have HB0:=Lib.hid hb0
 clear hb0
 go_wp2_with fail
 refine (a2w w0).mono ?_
 rintro e w1 ⟨p,q,rfl,hp,hq,hb⟩
 have HB:=Lib.hid (a0k HB0.out hb)
 have H1:=Lib.hid (H.out w1 p q HB.out hp hq)
 have hix:=λ W=>b0L p q W
 have hkf:=a7X
 obtain ⟨V,hV⟩ : ∃ V,V = a1v p q:=⟨_,rfl⟩
 rw [<- hV] at hix ⊢
 clear hb hp hq hV
 go_wp2_with fail
 refine H1.out.mono ?_
 rintro e w2 ⟨A1,c1,rfl,hv,hb⟩
 have H2:=Lib.hid (And.intro hv hb)
 clear hv hb hix hkf
 go_wp2_with fail
 go_ret2
 exact ⟨A1,c1,rfl,Kd.R_lower H2.out.1 HB.out.size,a0k HB.out H2.out.2⟩
theorem b0Z {k n m : Int} (h : a0u k n m = 0) : 0 <= k /\ k < 4 /\ 0 <= n /\ n <= 131072 /\ mayB k n m = true:=by
 unfold a0u at h
 by_cases h1 : k < 0 \/ 3 < k
 · rw [if_pos h1] at h; cases h
 rw [if_neg h1] at h
 by_cases h2 : n < 0 \/ 131072 < n \/ mayB k n m = false
 · rw [if_pos h2] at h; cases h
 refine ⟨by omega,by omega,by omega,by omega,?_⟩
 cases e : mayB k n m with
 | true=>rfl
 | false=>exact absurd (.inr (.inr e)) h2
theorem c9F (A : Option Addr) (c : Nat) (k n : Int) (ps : List Int) (w : World) (hr : (Kd.int .u8).C w A ps.length ps) (hps : Bytes ps) (hl : ps.length <= 1000000) (hc : ps.length <= c) (hnil : A = none -> c = 0) :
    Calls Tryz.prog 28 #[.int .i64 k,.slice A ps.length c,.int .i64 n] w (Told (pickD k ps n).1 (pickD k ps n).2 w):=by
 by_cases h0 : a0u k n ps.length = 0
 · obtain ⟨k0,k4,n0,n1,hm⟩:=b0Z h0
   have e : pickD k ps n = if k <= 1 then a3h k ps n else if k = 2 then dec0M ps n else dec1M ps n:=by unfold pickD; rw [if_neg (λ h=>h h0)]
   rw [e]
   by_cases e0 : k = 0
   · subst e0
     have hn : n = ps.length:=by unfold mayB at hm; rw [if_pos rfl] at hm; exact of_decide_eq_true hm
     subst hn
     have e2 : a3h 0 ps ps.length = (0,ps):=by unfold a3h; rw [if_neg (by omega),if_neg (by omega),if_pos rfl]
     rw [if_pos (by decide),e2]
     exact c9B (x:=(0,ps)) A c ps.length ps.length w h0 (λ W p q hB hp _=>b7I (x:=(0,ps)) A c p 0 _ _ W hp (c9v A c ps W (Kd.C_below hr hB) (by omega) hps))
   by_cases e1 : k = 1
   · subst e1
     have hn : 1 < n /\ (ps.length : Int) = 1:=by unfold mayB at hm; rw [if_neg (by decide),if_pos rfl] at hm; exact of_decide_eq_true hm
     obtain ⟨N,rfl⟩ : ∃ N : Nat,n = N:=⟨n.toNat,by omega⟩
     have hl1 : ps.length = 1:=by omega
     have e2 : a3h 1 ps N = (0,List.replicate N (ps.getD 0 0)):=by unfold a3h; rw [if_neg (by omega),if_neg (by omega),if_neg (by decide)]; rfl
     obtain ⟨x,rfl⟩:=List.length_eq_one_iff.1 hl1
     rw [if_pos (by decide),e2]
     exact c9C (x:=(0,List.replicate N x)) A c 1 N w h0 (λ W p q hB _ hq=>b7I (x:=(0,List.replicate N x)) A c q 1 _ _ W hq (c9w A c x N W (Kd.C_below hr hB) (by omega) (by omega)))
   rw [if_neg (by omega)]
   by_cases e2 : k = 2
   · subst e2
     rw [if_pos rfl]
     exact c9D (x:=dec0M ps n) A c ps.length n w h0 (λ W p q hB _ _=>c6z A c ps n W (Kd.C_below hr hB) hps hl hc hnil rfl)
   · obtain rfl : k = 3:=by omega
     rw [if_neg (by decide)]
     exact c9E (x:=dec1M ps n) A c ps.length n w h0 (λ W p q hB _ _=>(b7H A c ps n W (Kd.C_below hr hB) hps hl hc).mono λ e w' hp=>hp.told)
 · have e : pickD k ps n = (a0u k n ps.length,[]):=by unfold pickD; rw [if_pos h0]
   rw [e]
   exact c9A A c ps.length k n w h0
theorem b7J {k n : Int} {ps : List Int} (h : Bytes ps) : Bytes (pickD k ps n).2:=by
 unfold pickD
 split
 · intro x hx; cases hx
 · split
   · unfold a3h
     repeat' split
     · intro x hx; cases hx
     · intro x hx; cases hx
     · exact h
     · intro x hx; rw [(List.mem_replicate.1 hx).2]; exact h.get 0
   · split
     · exact c7a h
     · exact c7b h
def OpenPost (r : Int × List Int × Nat × Bool) (w : World) (e : Ending) (w' : World) : Prop:=
 ∃ A c,e = .returned (.tuple #[.slice A r.2.1.length c,.int .i64 (r.2.2.1 : Nat),.bool r.2.2.2,.int .i64 r.1]) /\ (Kd.int .u8).R 5 w' w.heap.size (λ _=>True) (.slice A r.2.1.length c) r.2.1 /\ Below w.heap.size w w'
theorem a5s {f : List Int} (hf : Bytes f) {log room : Int} {first : Bool} (h : (scanM f log first room).1 = 0) : 11 <= f.length /\ (scanM f log first room).2.1 <= 3 /\ (scanM f log first room).2.2.1 <= 131072 /\ (scanM f log first room).2.2.2.1 < 16777216 /\ (scanM f log first room).2.2.2.2.2 < 4294967296 /\ a0u ((scanM f log first room).2.1 : Nat) (scanM f log first room).2.2.1 (scanM f log first room).2.2.2.1 = 0 /\ ((scanM f log first room).2.2.1 : Int) <= room:=by
 unfold scanM at h ⊢
 by_cases a1 : log < 10 \/ 17 < log \/ room < 0
 · rw [if_pos a1] at h; cases h
 rw [if_neg a1] at h ⊢
 by_cases a2 : f.length < 1
 · rw [if_pos a2] at h; cases h
 rw [if_neg a2] at h ⊢
 by_cases a3 : 7 < (f.getD 0 0).toNat
 · rw [if_pos a3] at h; cases h
 rw [if_neg a3] at h ⊢
 by_cases a4 : f.length < 4
 · rw [if_pos a4] at h; cases h
 rw [if_neg a4] at h ⊢
 by_cases a5 : a1h log first ((f.getD 0 0).toNat % 4) (rdN (f.drop 1) 3) (decide (4 <= (f.getD 0 0).toNat)) = false
 · rw [if_pos a5] at h; cases h
 rw [if_neg a5] at h ⊢
 by_cases a6 : f.length < 7
 · rw [if_pos a6] at h; cases h
 rw [if_neg a6] at h ⊢
 by_cases a7 : a0u ((f.getD 0 0).toNat % 4 : Nat) (rdN (f.drop 1) 3) (rdN (f.drop 4) 3) ≠ 0
 · rw [if_pos a7] at h; exact absurd h a7
 rw [if_neg a7] at h ⊢
 by_cases a8 : room < rdN (f.drop 1) 3
 · rw [if_pos a8] at h; cases h
 rw [if_neg a8] at h ⊢
 by_cases a9 : f.length < 11
 · rw [if_pos a9] at h; cases h
 rw [if_neg a9]
 have b1:=a2n (λ x hx=>hf x (List.mem_of_mem_drop hx) : Bytes (f.drop 4)) 3
 have b2:=a2n (λ x hx=>hf x (List.mem_of_mem_drop hx) : Bytes (f.drop 7)) 4
 have b3:=b0Z (Classical.not_not.1 a7)
 dsimp only
 refine ⟨by omega,by omega,by omega,by omega,by omega,Classical.not_not.1 a7,by omega⟩
theorem a6j {fn : Func} {a b c d : Tmp} (h : fn.results = #[.tmp a,.tmp b,.tmp c,.tmp d]) (tmps : Array Value) (w : World) :
    (results fn tmps).run Tryz.prog w = .ok (.tuple #[tmps.getD a undef,tmps.getD b undef,tmps.getD c undef,tmps.getD d undef]) w:=by
 simp [results,h]
theorem OpenPost.err (k : Int) {w w' : World} (hb : Below w.heap.size w w') : OpenPost (k,[],0,false) w (.returned (.tuple #[.slice none 0 0,.int .i64 0,.bool false,.int .i64 k])) w':=⟨none,0,rfl,Kd.R_nil _ _ _ _ _,hb⟩
set_option maxRecDepth 100000 in
set_option maxHeartbeats 2000000 in
theorem b7K (A : Option Addr) (c : Nat) (f : List Int) (log : Int) (first : Bool) (room : Int) (w : World) (hr : (Kd.int .u8).C w A f.length f) (hf : Bytes f) (hl : f.length <= 1000000) (hc : f.length <= c) :
    Calls Tryz.prog 36 #[.slice A f.length c,.int .i64 log,.bool first,.int .i64 room] w (OpenPost (openM f log first room) w):=by
 have HSc:=Lib.hid (b7d A c f log first room w hr hf hl hc)
 have hB:=λ h=>a5s hf (log:=log) (room:=room) (first:=first) h
 have HOp : Hid (openM f log first room = (let s:=scanM f log first room
  if s.1 ≠ 0 then (s.1,[],0,false) else
  if f.length < 11 + s.2.2.2.1 then (3,[],0,false) else
  if a0P 0 ((f.drop 11).take s.2.2.2.1) ≠ s.2.2.2.2.2 then (12,[],0,false) else
  if (pickD (s.2.1 : Nat) ((f.drop 11).take s.2.2.2.1) s.2.2.1).1 ≠ 0 then ((pickD (s.2.1 : Nat) ((f.drop 11).take s.2.2.2.1) s.2.2.1).1,[],0,false) else
  (0,(pickD (s.2.1 : Nat) ((f.drop 11).take s.2.2.2.1) s.2.2.1).2,11 + s.2.2.2.1,s.2.2.2.2.1))):=Lib.hid rfl
 obtain ⟨R,hR⟩ : ∃ R,R = openM f log first room:=⟨_,rfl⟩
 rw [<- hR] at HOp ⊢
 obtain ⟨k,kd,N,Len,lb,sm,hS⟩ : ∃ k kd N Len lb sm,scanM f log first room = (k,kd,N,Len,lb,sm):=⟨_,_,_,_,_,_,rfl⟩
 rw [hS] at HSc hB HOp
 dsimp only at hB HOp
 unfold a6g headC at HSc
 dsimp only at HSc
 have HRw:=Lib.hid (And.intro hr (And.intro hf (And.intro hl hc)))
 clear hR hS hr hf hl hc
 by_cases hk : k = 0
 · subst hk
   obtain ⟨b11,bkd,bN,bLen,bsm,bck,brm⟩:=hB rfl
   have HBd:=Lib.hid (And.intro b11 (And.intro bkd (And.intro bN (And.intro bLen (And.intro bsm (And.intro bck brm))))))
   rw [if_neg (λ h=>h rfl)] at HOp
   clear hB bkd bN bck brm
   by_cases hL : f.length < 11 + Len
   · rw [if_pos hL] at HOp
     have hLI : (f.length : Int) < 11 + (Len : Int):=by omega
     clear hL
     go_enter Tryz.func36,Tryz.ntmps36
     go_wp2_with fail
     refine HSc.out.mono ?_
     rintro e w1 ⟨rfl,hb1⟩
     have HB1:=Lib.hid hb1
     clear hb1
     go_wp2_with fail
     refine bodyPost_ret (a6j (fn:=Tryz.f36) (a:=8) (b:=9) (c:=10) (d:=11) rfl _ _) rfl ?_
     rw [HOp.out]
     exact OpenPost.err 3 (HB1.out.alloc HB1.out.size _)
   · rw [if_neg hL] at HOp
     have hLI : ¬ (f.length : Int) < 11 + (Len : Int):=by omega
     obtain ⟨bd,hbd⟩ : ∃ l,l = (f.drop 11).take Len:=⟨_,rfl⟩
     have hdl : (f.drop 11).length = f.length - 11:=List.length_drop
     have hbl : bd.length = Len:=by rw [hbd,List.length_take]; omega
     have HBy:=Lib.hid (show Bytes bd from by rw [hbd]; exact λ x hx=>HRw.out.2.1 x (List.mem_of_mem_drop (List.mem_of_mem_take hx)))
     have hsl : ∀ W : World,(Instr.slice 22 (.slice A f.length c) (some (.int .i64 11)) (some (.int .i64 (11 + (Len : Int)))) none).run Tryz.prog W = .ok (.slice (if c = 11 then A else A.map (·.add (11 * 1))) Len (c - 11)) W:=λ W=>by
      obtain ⟨i0,hi0,hz0,hz1,hz2⟩:=info_parts a0E
      have:=b9h (P:=Tryz.prog) 22 5 .i64 .i64 Tryz.underlying22 hi0 1 hz1 A f.length c (11 : Int) (11 + (Len : Int)) (by decide) (by omega) (by omega) HRw.out.2.2.2 W
      rw [show ((11 : Int) + (Len : Int)).toNat - (11 : Int).toNat = Len by omega,show (11 : Int).toNat = 11 from rfl] at this
      exact this
     obtain ⟨Ab,hAb⟩ : ∃ Ab,Ab = (if c = 11 then A else A.map (·.add (11 * 1))):=⟨_,rfl⟩
     have hnil : Ab ≠ none:=by
      obtain ⟨ad,hA,_⟩:=a0x HRw.out.1 0 (by omega)
      rw [hAb,hA]; split <;> simp
     have HBC : Hid ((Kd.int .u8).C w Ab Len bd):=Lib.hid (by
      have h1:=Kd.C_drop (c:=c) (m:=11) HRw.out.1 b11 HRw.out.2.2.2
      have h2:=Kd.C_take (m:=Len) h1 (by omega)
      rw [<- hbd,hbl] at h2
      rw [hAb]; exact h2)
     rw [<- hAb] at hsl
     rw [<- hbd] at HOp
     have HBl:=Lib.hid (And.intro hbl (show Len <= c - 11 from by have:=HRw.out.2.2.2; omega))
     have HNil:=Lib.hid hnil
     obtain ⟨cs,hcs⟩ : ∃ n,n = a0P 0 bd:=⟨_,rfl⟩
     have HCs:=Lib.hid hcs
     rw [<- hcs] at HOp
     have HLn:=Lib.hid (show bd.length <= 1000000 from by have:=HRw.out.2.2.1; omega)
     clear hL hbd hdl hbl hAb hnil hcs
     go_enter Tryz.func36,Tryz.ntmps36
     go_wp2_with fail
     refine HSc.out.mono ?_
     rintro e w1 ⟨rfl,hb1⟩
     obtain ⟨w2,hw2⟩ : ∃ w2,w2 = w1.alloc (.cells #[.int .i64 kd,.int .i64 N,.int .i64 Len,.bool lb,.int .u32 sm] 114):=⟨_,rfl⟩
     have hb2 : Below w.heap.size w w2:=by rw [hw2]; exact hb1.alloc hb1.size _
     have hk2 : w2.heap[w1.heap.size]? = some (.cells #[.int .i64 kd,.int .i64 N,.int .i64 Len,.bool lb,.int .u32 sm] 114 (0,0)):=by rw [hw2]; exact a0h _ _
     obtain ⟨hh,hhh⟩ : ∃ h,h = w1.heap.size:=⟨_,rfl⟩
     rw [<- hhh] at hk2
     have HB2:=Lib.hid hb2
     have HK2:=Lib.hid hk2
     obtain ⟨⟨c0,c1,c2,c3,c4⟩,-⟩:=cell5 hk2
     have s0 : SLater w2 w2:=Below.refl _ _
     clear hb1 hb2 hk2
     go_wp2_with fail
     rw [<- hw2,<- hhh]
     clear hw2 hhh
     go_wp2_with fail
     have HBC2:=Lib.hid (Kd.C_below HBC.out HB2.out)
     have HOf0 : Hid (∀ (W : World) (p : Nat),SLater w2 W -> TabAt p 256 W -> Calls Tryz.prog 86 #[.pointer (some ⟨p,0,none⟩),.slice Ab Len (c - 11)] W (λ e W'=>e = .returned (.int .u32 cs) /\ W = W')):=Lib.hid (λ W p hW hp=>by
      have h2:=a5Z p Ab (c - 11) bd W hp (by rw [HBl.out.1]; exact Kd.C_below HBC2.out hW) (by have:=HLn.out; omega) HBy.out
      rw [HBl.out.1,<- HCs.out] at h2
      exact h2)
     have HPd : Hid (∀ W : World,SLater w2 W -> Calls Tryz.prog 28 #[.int .i64 kd,.slice Ab Len (c - 11),.int .i64 N] W (Told (pickD kd bd N).1 (pickD kd bd N).2 W)):=Lib.hid (λ W hW=>by
      have h:=c9F Ab (c - 11) kd N bd W (by rw [HBl.out.1]; exact Kd.C_below HBC2.out hW) HBy.out HLn.out (by rw [HBl.out.1]; exact HBl.out.2) (λ h=>absurd h HNil.out)
      rw [HBl.out.1] at h
      exact h)
     have HRb:=Lib.hid (b7J (k:=kd) (n:=N) HBy.out)
     obtain ⟨pk,py,hP⟩ : ∃ pk py,pickD kd bd N = (pk,py):=⟨_,_,rfl⟩
     rw [hP] at HPd HOp HRb
     dsimp only at HPd HOp HRb
     clear hP
     by_cases hcm : cs = sm
     · rw [if_neg (λ h=>h hcm)] at HOp
       have hneq : ((cs : Int) != (sm : Int)) = false:=by rw [hcm]; simp
       clear hcm
       go_region_law (first
        | (go_simp; go_at_call 85; refine (a4t _).mono ?_; rintro e w' ⟨p,rfl,hp,ht,hb⟩; have s1:=(by first | exact SLater.keep ‹_› hb | exact SLater.keep (SLater.drew ‹_›) hb : SLater w2 w'); obtain ⟨⟨g0,g1,g2,g3,g4⟩,-⟩:=cell5 (a0g HK2.out s1); clear hp hb)
        | (go_simp; go_at_call 86; refine (HOf0.out _ _ (by first | assumption | exact SLater.drew ‹_›) (by first | assumption)).mono ?_; rintro e w' ⟨rfl,rfl⟩))
       all_goals
        go_wp2_with fail
        refine (HPd.out _ (by first | assumption | exact SLater.drew ‹_›)).mono ?_
        rintro e w5 ⟨Ay,cy,rfl,hvy,hb5⟩
        have HV5 : Hid ((Kd.int .u8).R 5 w5 w.heap.size (λ _=>True) (.slice Ay py.length cy) py):=Lib.hid (Kd.R_lower hvy (Nat.le_trans HB2.out.size (Below.size (B:=w2.heap.size) (w:=w2) (by first | assumption | exact SLater.drew ‹_›))))
        have sX:=(by first | exact SLater.keep ‹_› hb5 | exact SLater.keep (SLater.drew ‹_›) hb5 : SLater w2 w5)
        obtain ⟨⟨g0,g1,g2,g3,g4⟩,-⟩:=cell5 (a0g HK2.out sX)
        have HSX:=Lib.hid sX
        clear hvy hb5
        by_cases hpk : pk = 0
        · subst hpk
          rw [if_neg (λ h=>h rfl)] at HOp
          go_wp2_with fail
          go_quiet (fail)
          all_goals
           go_wp2_with fail
           refine bodyPost_ret (a6j (fn:=Tryz.f36) (a:=8) (b:=9) (c:=10) (d:=11) rfl _ _) rfl ?_
           rw [HOp.out]
           exact ⟨Ay,cy,rfl,Kd.R_below HV5.out (a0b (Below.refl _ _) _),a0b (HB2.out.trans (Below.mono HSX.out HB2.out.size)) _⟩
        · rw [if_pos hpk] at HOp
          have hpk2 : (pk != 0) = true:=by simpa using hpk
          clear hpk
          go_wp2_with fail
          refine bodyPost_ret (a6j (fn:=Tryz.f36) (a:=8) (b:=9) (c:=10) (d:=11) rfl _ _) rfl ?_
          rw [HOp.out]
          exact OpenPost.err pk (HB2.out.trans (Below.mono HSX.out HB2.out.size))
     · rw [if_pos hcm] at HOp
       have hneq : ((cs : Int) != (sm : Int)) = true:=by simp; omega
       clear hcm
       go_region_law (first
        | (go_simp; go_at_call 85; refine (a4t _).mono ?_; rintro e w' ⟨p,rfl,hp,ht,hb⟩; have s1:=(by first | exact SLater.keep ‹_› hb | exact SLater.keep (SLater.drew ‹_›) hb : SLater w2 w'); obtain ⟨⟨g0,g1,g2,g3,g4⟩,-⟩:=cell5 (a0g HK2.out s1); clear hp hb)
        | (go_simp; go_at_call 86; refine (HOf0.out _ _ (by first | assumption | exact SLater.drew ‹_›) (by first | assumption)).mono ?_; rintro e w' ⟨rfl,rfl⟩))
       all_goals
        have sX:=(by first | assumption | exact SLater.drew ‹_› : SLater w2 _)
        go_wp2_with fail
        refine bodyPost_ret (a6j (fn:=Tryz.f36) (a:=8) (b:=9) (c:=10) (d:=11) rfl _ _) rfl ?_
        rw [HOp.out]
        exact OpenPost.err 12 (HB2.out.trans (Below.mono (by first | assumption | exact SLater.drew ‹_›) HB2.out.size))
 · have hk2 : (k != 0) = true:=by simpa using hk
   rw [if_pos hk] at HOp
   clear hB hk
   go_enter Tryz.func36,Tryz.ntmps36
   go_wp2_with fail
   refine HSc.out.mono ?_
   rintro e w1 ⟨rfl,hb1⟩
   have HB1:=Lib.hid hb1
   clear hb1
   go_wp2_with fail
   refine bodyPost_ret (a6j (fn:=Tryz.f36) (a:=8) (b:=9) (c:=10) (d:=11) rfl _ _) rfl ?_
   rw [HOp.out]
   exact OpenPost.err k (HB1.out.alloc HB1.out.size _)
theorem c9G {f x : List Int} (h : f.length < 4) : a1p f x = 3:=by unfold a1p; rw [if_pos h]
theorem c9H {f x : List Int} (h : ¬ f.length < 4) (h2 : f.take 4 ≠ tailL x) : a1p f x = 15:=by unfold a1p; rw [if_neg h,if_pos h2]
theorem c9I {f x : List Int} (h : ¬ f.length < 4) (h2 : f.take 4 = tailL x) : a1p f x = if 4 < f.length then 16 else 0:=by unfold a1p; rw [if_neg h,if_neg (λ h=>h h2)]
theorem c9J (x : List Int) : Bytes (tailL x):=a5h _ _
set_option maxRecDepth 100000 in
set_option maxHeartbeats 2000000 in
theorem c9K (A B : Option Addr) (ca cb : Nat) (f x : List Int) (w : World) (hf : BSl w A ca f) (hx : BSl w B cb x) (hl : x.length <= 1000000000000) (hfl : f.length <= 1000000) :
    Calls Tryz.prog 96 #[.slice A f.length ca,.slice B x.length cb] w (λ e w'=>e = .returned (.int .i64 (a1p f x)) /\ Below w.heap.size w w'):=by
 by_cases h4 : f.length < 4
 · have HM:=Lib.hid (c9G (x:=x) h4)
   have h4I : (f.length : Int) < 4:=by omega
   clear hf hx h4
   go_enter Tryz.func96,Tryz.ntmps96
   go_wp2_with fail
   go_ret
   rw [HM.out]
   exact ⟨rfl,Below.refl _ _⟩
 · have h4I : ¬ (f.length : Int) < 4:=by omega
   have hsl:=a7N A f.length ca 4 (by omega) hf.cap
   have htk : (f.take 4).length = 4:=by rw [List.length_take]; omega
   have htb : Bytes (f.take 4):=λ x hx=>hf.by' x (List.mem_of_mem_take hx)
   have hC:=(hf.cut (k:=4) (by omega)).row
   have hc4 : (4 : Int) <= (ca : Int):=by have:=hf.cap; omega
   rw [htk] at hC
   have hcv1 : ∀ W,SLater w W -> (convert 22 9 (.slice A 4 ca)).run Tryz.prog W = .ok (.string (strOfNums (f.take 4))) W:=λ W hW=>by
    have:=Kd.C_string (P:=Tryz.prog) (c:=ca) Tryz.underlying22 Tryz.underlying5 Tryz.underlying9 (Kd.C_below (n:=(f.take 4).length) (by rw [htk]; exact hC) hW)
    rw [htk] at this; exact this
   have HTl : Hid (∀ W,SLater w W -> Calls Tryz.prog 43 #[.slice B x.length cb] W (λ e w'=>∃ A c,e = .returned (.slice A 4 c) /\ (Kd.int .u8).R 5 w' W.heap.size (λ _=>True) (.slice A 4 c) (tailL x) /\ Below W.heap.size W w')):=Lib.hid (λ W hW=>b7p B cb x W (Kd.C_below hx.row hW) hl hx.by')
   have HCv : Hid (∀ (W : World) (T : Option Addr) (c B : Nat),(Kd.int .u8).R 5 W B (λ _=>True) (.slice T 4 c) (tailL x) -> ∀ W',SLater W W' -> (convert 22 9 (.slice T 4 c)).run Tryz.prog W' = .ok (.string (strOfNums (tailL x))) W'):=Lib.hid (λ W T c B h W' hW=>by
    have h2:=(Kd.R_reads' h).2.2
    have:=Kd.C_string (P:=Tryz.prog) (c:=c) Tryz.underlying22 Tryz.underlying5 Tryz.underlying9 (Kd.C_below h2 hW)
    rw [a1V] at this; exact this)
   have hq:=b5l htb (c9J x)
   have HB : Hid (f.take 4 ≠ tailL x -> a1p f x = 15):=Lib.hid (c9H h4)
   have HB2 : Hid (f.take 4 = tailL x -> a1p f x = if 4 < f.length then 16 else 0):=Lib.hid (c9I h4)
   obtain ⟨tk,hk⟩ : ∃ t,t = f.take 4:=⟨_,rfl⟩
   obtain ⟨tl,htl⟩ : ∃ t,t = tailL x:=⟨_,rfl⟩
   obtain ⟨x1,hx1⟩ : ∃ x,x = strOfNums tk:=⟨_,rfl⟩
   obtain ⟨y1,hy1⟩ : ∃ x,x = strOfNums tl:=⟨_,rfl⟩
   obtain ⟨r,hr⟩ : ∃ r,r = a1p f x:=⟨_,rfl⟩
   rw [<- hk,<- htl] at hq HB HB2
   rw [<- hk] at hcv1
   rw [<- htl] at HTl HCv
   rw [<- hx1,<- hy1] at hq
   rw [<- hx1] at hcv1
   rw [<- hy1] at HCv
   rw [<- hr] at HB HB2 ⊢
   have s0 : SLater w w:=Below.refl _ _
   have cv0:=hcv1 w.drew s0.drew
   have HCv1:=Lib.hid hcv1
   clear hcv1 hC htk htb hf hx hk htl hx1 hy1 hr h4
   by_cases hne : tk = tl
   · rw [decide_eq_true hne] at hq
     have hq2 : (x1.toList != y1.toList) = false:=by show (!(x1.toList == y1.toList)) = false; rw [hq]; rfl
     have HR:=Lib.hid (HB2.out hne)
     clear HB HB2 hne
     by_cases h5 : 4 < f.length
     · have h5I : (4 : Int) < (f.length : Int):=by omega
       rw [if_pos h5] at HR
       clear h5
       go_enter Tryz.func96,Tryz.ntmps96
       go_wp2_with fail
       go_region_law (go_simp; go_at_call 43; refine (HTl.out _ (by first | assumption | exact SLater.drew ‹_›)).mono ?_; rintro e w' ⟨T,ct,rfl,hvt,hb⟩; have sx:=(by first | exact SLater.keep ‹_› hb | exact SLater.keep (SLater.drew ‹_›) hb : SLater w w'); have cv1:=HCv1.out _ sx; have cv2:=HCv.out _ _ _ _ hvt _ (Below.refl _ _); clear hvt hb)
       all_goals
        go_wp2_with fail
        go_ret
        rw [HR.out]
        exact ⟨rfl,by first | assumption | exact SLater.drew ‹_›⟩
     · have h5I : ¬ (4 : Int) < (f.length : Int):=by omega
       rw [if_neg h5] at HR
       clear h5
       go_enter Tryz.func96,Tryz.ntmps96
       go_wp2_with fail
       go_region_law (go_simp; go_at_call 43; refine (HTl.out _ (by first | assumption | exact SLater.drew ‹_›)).mono ?_; rintro e w' ⟨T,ct,rfl,hvt,hb⟩; have sx:=(by first | exact SLater.keep ‹_› hb | exact SLater.keep (SLater.drew ‹_›) hb : SLater w w'); have cv1:=HCv1.out _ sx; have cv2:=HCv.out _ _ _ _ hvt _ (Below.refl _ _); clear hvt hb)
       all_goals
        go_wp2_with fail
        go_ret
        rw [HR.out]
        exact ⟨rfl,by first | assumption | exact SLater.drew ‹_›⟩
   · rw [decide_eq_false hne] at hq
     have hq2 : (x1.toList != y1.toList) = true:=by show (!(x1.toList == y1.toList)) = true; rw [hq]; rfl
     have HR:=Lib.hid (HB.out hne)
     clear HB HB2 hne
     go_enter Tryz.func96,Tryz.ntmps96
     go_wp2_with fail
     go_region_law (go_simp; go_at_call 43; refine (HTl.out _ (by first | assumption | exact SLater.drew ‹_›)).mono ?_; rintro e w' ⟨T,ct,rfl,hvt,hb⟩; have sx:=(by first | exact SLater.keep ‹_› hb | exact SLater.keep (SLater.drew ‹_›) hb : SLater w w'); have cv1:=HCv1.out _ sx; have cv2:=HCv.out _ _ _ _ hvt _ (Below.refl _ _); clear hvt hb)
     all_goals
      go_wp2_with fail
      go_ret
      rw [HR.out]
      exact ⟨rfl,by first | assumption | exact SLater.drew ‹_›⟩
theorem b7L {n : Nat} {f : List Int} {log : Int} {first : Bool} {limit : Int} {sum : Nat} {k : Int} {h : HeadT} (hs : scanM f log first (limit - sum) = (k,h)) (h1 : k ≠ 0 \/ f.length < 11 + h.2.2.1) : sizeG (n + 1) f log first limit sum = sum:=by
 unfold sizeG; rw [hs]; exact if_pos h1
theorem b7M {n : Nat} {f : List Int} {log : Int} {first : Bool} {limit : Int} {sum : Nat} {h : HeadT} (hs : scanM f log first (limit - sum) = (0,h)) (h1 : ¬ f.length < 11 + h.2.2.1) : sizeG (n + 1) f log first limit sum = if h.2.2.2.1 = true then sum + h.2.1 else sizeG n (f.drop (11 + h.2.2.1)) log false limit (sum + h.2.1):=by
 conv=>lhs; unfold sizeG
 rw [hs]
 rw [if_neg (by rintro (h | h); exact h rfl; exact h1 h)]
theorem b1a {f : List Int} (h : headM f = 0) (hb : Bytes f) : a1F f = f.getD 5 0 /\ 0 <= a1F f /\ a1F f < 256:=by
 have : a1F f = f.getD 5 0:=by unfold a1F; rw [if_pos h]
 rw [this]; exact ⟨rfl,hb.get 5⟩
theorem b1b {f : List Int} (h : headM f = 0) : 8 <= f.length:=by
 have g : ∀ (d i : Nat),headG f d i = 0 -> i + d <= f.length \/ d = 0:=by
  intro d
  induction d with
  | zero=>intro i _; exact .inr rfl
  | succ d ih=>
   intro i h
   left
   unfold headG at h
   split at h
   · cases h
   · split at h
     · rename_i h1; exact absurd h h1
     · rcases ih (i + 1) h with h | h <;> omega
 have:=g 8 0 h
 omega
set_option maxRecDepth 100000 in
set_option maxHeartbeats 4000000 in
theorem b7N (A : Option Addr) (c : Nat) (f : List Int) (limit : Int) (w : World) (hf : BSl w A c f) (hl : f.length <= 1000000) (hL : limit < 4611686018427387904) :
    Calls Tryz.prog 48 #[.slice A f.length c,.int .i64 limit] w (λ e w'=>e = .returned (.int .i64 (sizeM f limit : Nat)) /\ Below w.heap.size w w'):=by
 have HHd:=Lib.hid (b7G A c f w hf hl)
 by_cases hh : headM f = 0
 · have h8:=b1b hh
   obtain ⟨hlg,-,-⟩:=b1a hh hf.by'
   obtain ⟨lg,hlg0⟩ : ∃ l,l = a1F f:=⟨_,rfl⟩
   rw [hh,<- hlg0] at HHd
   by_cases hn : limit < 0
   · have HS : Hid (sizeM f limit = 0):=Lib.hid (by unfold sizeM; rw [if_pos (.inr hn)])
     clear hf hh hlg hlg0 h8
     go_enter Tryz.func48,Tryz.ntmps48
     go_wp2_with fail
     refine HHd.out.mono ?_
     rintro e w1 ⟨rfl,hb1⟩
     have HB1:=Lib.hid hb1
     clear hb1
     go_wp2_with fail
     go_ret
     rw [HS.out]
     exact ⟨rfl,HB1.out⟩
   · have HS : Hid (sizeM f limit = sizeG (f.length + 1) (f.drop 8) lg true limit 0):=Lib.hid (by
       unfold sizeM
       rw [if_neg (by rintro (h | h); exact h hh; exact hn h),hlg0,hlg])
     have hnI : ¬ limit < 0:=hn
     have hsf:=a2R A f.length c 8 h8
     have HDr:=Lib.hid (hf.from_ (k:=8) h8)
     obtain ⟨Ad,hAd⟩ : ∃ Ad,Ad = (if c = 8 then A else A.map (·.add (8 * 1))):=⟨_,rfl⟩
     rw [<- hAd] at HDr hsf
     obtain ⟨r0,hr0⟩ : ∃ r,r = f.drop 8:=⟨_,rfl⟩
     have hr0l : f.length - 8 = r0.length:=by rw [hr0,List.length_drop]
     rw [<- hr0] at HDr HS
     rw [hr0l] at hsf
     have hsf : ∀ W : World,(Instr.slice 22 (.slice A f.length c) (some (.int .i64 8)) none none).run Tryz.prog W = .ok (.slice Ad r0.length (c - 8)) W:=hsf
     have hc8 : (8 : Int) <= (c : Int):=by have:=hf.cap; omega
     have h8I : (8 : Int) <= (f.length : Int):=by omega
     obtain ⟨S,hS⟩ : ∃ S,S = sizeM f limit:=⟨_,rfl⟩
     rw [<- hS] at HS ⊢
     have HN:=Lib.hid (show r0.length < f.length + 1 /\ r0.length <= 1000000 by omega)
     clear hf hh hlg hlg0 hAd hr0 hS hr0l hn h8
     go_enter Tryz.func48,Tryz.ntmps48
     go_wp2_with fail
     refine HHd.out.mono ?_
     rintro e w1 ⟨rfl,hb1⟩
     have HB1:=Lib.hid hb1
     clear hb1
     go_wp2_with fail
     go_loopw [0,7,8,9,10] (λ fv sv bv _ _ wr=>∃ (n : Nat) (r : List Int) (Ar : Option Addr) (cr sum : Nat) (fb : Bool),fv = .slice Ar r.length cr /\ sv = .int .i64 sum /\ bv = .bool fb /\ Hid (sizeG n r lg fb limit sum = S /\ r.length < n /\ BSl w Ar cr r /\ Below w.heap.size w wr /\ (sum : Int) <= limit /\ r.length <= 1000000)) (λ fv _ _ _ _ _=>slN fv)
     case atStart=>exact ⟨f.length + 1,r0,Ad,c - 8,0,true,rfl,rfl,rfl,Lib.hid ⟨HS.out.symm,HN.out.1,HDr.out,HB1.out,by show (0 : Int) <= limit; omega,HN.out.2⟩⟩
     case round=>
      obtain ⟨n,r,Ar,cr,sum,fb,rfl,rfl,rfl,H⟩:=hrel
      obtain ⟨n,rfl⟩ : ∃ m,n = m + 1:=⟨n - 1,by have:=H.out.2.1; omega⟩
      have hw1 : IntKind.i64.wrap (limit - (sum : Int)) = limit - (sum : Int):=i64_in _ (by have:=H.out.2.2.2.2.1; omega)
      have HBr:=H.out.2.2.1.below H.out.2.2.2.1
      have HSc:=Lib.hid (b7d Ar cr r lg fb (limit - (sum : Int)) wr HBr.row HBr.by' H.out.2.2.2.2.2 HBr.cap)
      have hB:=λ h=>a5s HBr.by' (log:=lg) (room:=limit - (sum : Int)) (first:=fb) h
      obtain ⟨k,kd,N,Len,lb,sm,hSc⟩ : ∃ k kd N Len lb sm,scanM r lg fb (limit - (sum : Int)) = (k,kd,N,Len,lb,sm):=⟨_,_,_,_,_,_,rfl⟩
      have HScM:=Lib.hid hSc
      rw [hSc] at HSc hB
      dsimp only at hB
      unfold a6g headC at HSc
      dsimp only at HSc
      clear hSc HBr
      by_cases hk : k = 0
      · subst hk
        obtain ⟨b11,bkd,bN,bLen,bsm,bck,brm⟩:=hB rfl
        have HBd:=Lib.hid (And.intro b11 (And.intro bN (And.intro bLen brm)))
        clear hB b11 bkd bN bLen bsm bck brm
        by_cases hL2 : r.length < 11 + Len
        · have hLI : (r.length : Int) < 11 + (Len : Int):=by omega
          have hw2 : IntKind.i64.wrap (11 + (Len : Int)) = 11 + (Len : Int):=i64_in _ (by have:=HBd.out; omega)
          have HSt:=Lib.hid (b7L (n:=n) HScM.out (.inr hL2))
          clear hL2
          go_wp2_with fail
          refine HSc.out.mono ?_
          rintro e w2 ⟨rfl,hb2⟩
          have HB2:=Lib.hid hb2
          obtain ⟨w3,hw3⟩ : ∃ w3,w3 = w2.alloc (.cells #[.int .i64 kd,.int .i64 N,.int .i64 Len,.bool lb,.int .u32 sm] 114):=⟨_,rfl⟩
          have hk3 : w3.heap[w2.heap.size]? = some (.cells #[.int .i64 kd,.int .i64 N,.int .i64 Len,.bool lb,.int .u32 sm] 114 (0,0)):=by rw [hw3]; exact a0h _ _
          have HB3 : Hid (Below w.heap.size w w3):=Lib.hid (by rw [hw3]; exact (H.out.2.2.2.1.trans (hb2.mono H.out.2.2.2.1.size)).alloc (Nat.le_trans H.out.2.2.2.1.size hb2.size) _)
          obtain ⟨g,hg⟩ : ∃ h,h = w2.heap.size:=⟨_,rfl⟩
          rw [<- hg] at hk3
          obtain ⟨⟨c0,c1,c2,c3,c4⟩,-⟩:=cell5 hk3
          clear hb2 hk3
          go_wp2_with fail
          rw [<- hw3,<- hg]
          clear hw3 hg
          go_wp2_with fail
          go_ret
          have h1:=H.out.1
          rw [HSt.out] at h1
          rw [<- h1]
          exact ⟨rfl,HB3.out⟩
        · have hLI : ¬ (r.length : Int) < 11 + (Len : Int):=by omega
          have hw2 : IntKind.i64.wrap (11 + (Len : Int)) = 11 + (Len : Int):=i64_in _ (by have:=HBd.out; omega)
          have hw4 : IntKind.i64.wrap ((sum : Int) + (N : Int)) = (sum : Int) + (N : Int):=i64_in _ (by have:=HBd.out; have:=H.out.2.2.2.2.1; omega)
          have HSt:=Lib.hid (b7M (n:=n) HScM.out hL2)
          have HDr2:=Lib.hid (H.out.2.2.1.from_ (k:=11 + Len) (by omega))
          have hsf2:=a2R Ar r.length cr (11 + Len) (by omega)
          obtain ⟨Ad2,hAd2⟩ : ∃ Ad,Ad = (if cr = 11 + Len then Ar else Ar.map (·.add ((11 + Len) * 1))):=⟨_,rfl⟩
          rw [<- hAd2] at HDr2 hsf2
          obtain ⟨r2,hr2⟩ : ∃ r2,r2 = r.drop (11 + Len):=⟨_,rfl⟩
          have hr2l : r.length - (11 + Len) = r2.length:=by rw [hr2,List.length_drop]
          rw [<- hr2] at HDr2
          dsimp only at HSt
          rw [<- hr2] at HSt
          rw [hr2l,show ((11 + Len : Nat) : Int) = 11 + (Len : Int) by omega] at hsf2
          have hcr : (11 : Int) + (Len : Int) <= (cr : Int):=by have:=H.out.2.2.1.cap; omega
          have hcl : (11 : Int) + (Len : Int) <= (r.length : Int):=by omega
          have HLt:=Lib.hid (show r2.length < r.length by omega)
          clear hL2 hAd2 hr2 hr2l
          go_wp2_with fail
          refine HSc.out.mono ?_
          rintro e w2 ⟨rfl,hb2⟩
          have HB2:=Lib.hid hb2
          obtain ⟨w3,hw3⟩ : ∃ w3,w3 = w2.alloc (.cells #[.int .i64 kd,.int .i64 N,.int .i64 Len,.bool lb,.int .u32 sm] 114):=⟨_,rfl⟩
          have hk3 : w3.heap[w2.heap.size]? = some (.cells #[.int .i64 kd,.int .i64 N,.int .i64 Len,.bool lb,.int .u32 sm] 114 (0,0)):=by rw [hw3]; exact a0h _ _
          have HB3 : Hid (Below w.heap.size w w3):=Lib.hid (by rw [hw3]; exact (H.out.2.2.2.1.trans (hb2.mono H.out.2.2.2.1.size)).alloc (Nat.le_trans H.out.2.2.2.1.size hb2.size) _)
          obtain ⟨g,hg⟩ : ∃ h,h = w2.heap.size:=⟨_,rfl⟩
          rw [<- hg] at hk3
          obtain ⟨⟨c0,c1,c2,c3,c4⟩,-⟩:=cell5 hk3
          clear hb2 hk3
          cases lb with
          | true=>
           go_wp2_with fail
           rw [<- hw3,<- hg]
           clear hw3 hg
           go_wp2_with fail
           go_ret
           have h1:=H.out.1
           rw [HSt.out] at h1
           simp only [if_true] at h1
           rw [<- h1]
           exact ⟨by simp,HB3.out⟩
          | false=>
           go_wp2_with fail
           rw [<- hw3]
           clear hw3 hg
           go_roundw
           case rel=>exact ⟨n,r2,Ad2,cr - (11 + Len),sum + N,false,rfl,by simp,rfl,Lib.hid ⟨by have h1:=H.out.1; rw [HSt.out] at h1; simpa using h1,by have:=H.out.2.1; have:=HLt.out; omega,HDr2.out,HB3.out,by have:=HBd.out; omega,by have:=H.out.2.2.2.2.2; have:=HLt.out; omega⟩⟩
           case measure=>have:=HLt.out; simp [slN]; omega
      · have hk2 : (k != 0) = true:=by simpa using hk
        have HSt:=Lib.hid (b7L (n:=n) HScM.out (.inl hk))
        clear hB hk
        go_wp2_with fail
        refine HSc.out.mono ?_
        rintro e w2 ⟨rfl,hb2⟩
        have HB2:=Lib.hid (H.out.2.2.2.1.trans (hb2.mono H.out.2.2.2.1.size))
        clear hb2
        go_wp2_with fail
        go_ret
        have h1:=H.out.1
        rw [HSt.out] at h1
        rw [<- h1]
        exact ⟨rfl,HB2.out.alloc HB2.out.size _⟩
 · have hk2 : (headM f != 0) = true:=by simpa using hh
   have HS : Hid (sizeM f limit = 0):=Lib.hid (by unfold sizeM; rw [if_pos (.inl hh)])
   obtain ⟨k,hk⟩ : ∃ k,k = headM f:=⟨_,rfl⟩
   rw [<- hk] at HHd hk2
   obtain ⟨lg,hlg⟩ : ∃ k,k = a1F f:=⟨_,rfl⟩
   rw [<- hlg] at HHd
   clear hf hh hk hlg
   go_enter Tryz.func48,Tryz.ntmps48
   go_wp2_with fail
   refine HHd.out.mono ?_
   rintro e w1 ⟨rfl,hb1⟩
   have HB1:=Lib.hid hb1
   clear hb1
   go_wp2_with fail
   go_ret
   rw [HS.out]
   exact ⟨rfl,HB1.out⟩
def a0R (k n m : Int) (w : World) (e : Ending) (w' : World) : Prop:=e = .returned (.int .i64 (a0u k n m)) /\ w = w'
set_option maxRecDepth 100000 in
theorem c9L (k n m : Int) (w : World) (h : k < 0) : Calls Tryz.prog 31 #[.int .i64 k,.int .i64 n,.int .i64 m] w (a0R k n m w):=by
 unfold a0R
 rw [b0M (by omega)]
 have d:=decide_eq_true h
 clear h
 go_enter Tryz.func31,Tryz.ntmps31
 go_wp2_with fail
 go_ret
 exact ⟨rfl,rfl⟩
set_option maxRecDepth 100000 in
theorem c9M (k n m : Int) (w : World) (h : 3 < k) : Calls Tryz.prog 31 #[.int .i64 k,.int .i64 n,.int .i64 m] w (a0R k n m w):=by
 unfold a0R
 rw [b0M (by omega)]
 have d0 : decide (k < 0) = false:=decide_eq_false (by omega)
 have d:=decide_eq_true h
 clear h
 go_enter Tryz.func31,Tryz.ntmps31
 go_wp2_with fail
 go_ret
 exact ⟨rfl,rfl⟩
set_option maxRecDepth 100000 in
theorem c9N (k n m : Int) (w : World) (hk : 0 <= k /\ k <= 3) (h : n < 0) : Calls Tryz.prog 31 #[.int .i64 k,.int .i64 n,.int .i64 m] w (a0R k n m w):=by
 unfold a0R
 rw [b0N (by omega) (.inl h)]
 have d0 : decide (k < 0) = false:=decide_eq_false (by omega)
 have d1 : decide (3 < k) = false:=decide_eq_false (by omega)
 have d:=decide_eq_true h
 clear h hk
 go_enter Tryz.func31,Tryz.ntmps31
 go_wp2_with fail
 go_ret
 exact ⟨rfl,rfl⟩
set_option maxRecDepth 100000 in
theorem c9O (k n m : Int) (w : World) (hk : 0 <= k /\ k <= 3) (h : 131072 < n) : Calls Tryz.prog 31 #[.int .i64 k,.int .i64 n,.int .i64 m] w (a0R k n m w):=by
 unfold a0R
 rw [b0N (by omega) (.inr h)]
 have d0 : decide (k < 0) = false:=decide_eq_false (by omega)
 have d1 : decide (3 < k) = false:=decide_eq_false (by omega)
 have d2 : decide (n < 0) = false:=decide_eq_false (by omega)
 have d:=decide_eq_true h
 clear h hk
 go_enter Tryz.func31,Tryz.ntmps31
 go_wp2_with fail
 go_ret
 exact ⟨rfl,rfl⟩
set_option maxRecDepth 100000 in
theorem c9P (k n m : Int) (w : World) (hk : k = 0) (hn : 0 <= n /\ n <= 131072) (h : m = n) : Calls Tryz.prog 31 #[.int .i64 k,.int .i64 n,.int .i64 m] w (a0R k n m w):=by
 unfold a0R
 subst hk
 subst h
 rw [a3V (by omega) hn (by unfold mayB; first | (simp; done) | (simp; omega))]
 have d2 : decide (m < 0) = false:=decide_eq_false (by omega)
 have d3 : decide (131072 < m) = false:=decide_eq_false (by omega)
 have hmm : (m != m) = false:=by simp
 clear hn
 go_enter Tryz.func31,Tryz.ntmps31
 go_wp2_with fail
 go_ret
 exact ⟨rfl,rfl⟩
set_option maxRecDepth 100000 in
theorem c9Q (k n m : Int) (w : World) (hk : k = 0) (hn : 0 <= n /\ n <= 131072) (h : m ≠ n) : Calls Tryz.prog 31 #[.int .i64 k,.int .i64 n,.int .i64 m] w (a0R k n m w):=by
 unfold a0R
 subst hk
 rw [a2T (by omega) (by unfold mayB; first | (simp; done) | (simp; omega))]
 have d2 : decide (n < 0) = false:=decide_eq_false (by omega)
 have d3 : decide (131072 < n) = false:=decide_eq_false (by omega)
 have hmm : (m != n) = true:=by simpa using h
 clear h hn
 go_enter Tryz.func31,Tryz.ntmps31
 go_wp2_with fail
 go_ret
 exact ⟨rfl,rfl⟩
set_option maxRecDepth 100000 in
theorem c9R (k n m : Int) (w : World) (hk : k = 1) (hn : 0 <= n /\ n <= 131072) (h : m ≠ 1) : Calls Tryz.prog 31 #[.int .i64 k,.int .i64 n,.int .i64 m] w (a0R k n m w):=by
 unfold a0R
 subst hk
 rw [a2T (by omega) (by unfold mayB; first | (simp; done) | (simp; omega))]
 have d2 : decide (n < 0) = false:=decide_eq_false (by omega)
 have d3 : decide (131072 < n) = false:=decide_eq_false (by omega)
 have hmm : (m != 1) = true:=by simpa using h
 clear h hn
 go_enter Tryz.func31,Tryz.ntmps31
 go_wp2_with fail
 go_ret
 exact ⟨rfl,rfl⟩
set_option maxRecDepth 100000 in
theorem c9S (k n m : Int) (w : World) (hk : k = 1) (hn : 0 <= n /\ n <= 131072) (h : m = 1) (h2 : n < 2) : Calls Tryz.prog 31 #[.int .i64 k,.int .i64 n,.int .i64 m] w (a0R k n m w):=by
 unfold a0R
 subst hk
 subst h
 rw [a2T (by omega) (by unfold mayB; first | (simp; done) | (simp; omega))]
 have d2 : decide (n < 0) = false:=decide_eq_false (by omega)
 have d3 : decide (131072 < n) = false:=decide_eq_false (by omega)
 have d:=decide_eq_true h2
 clear h2 hn
 go_enter Tryz.func31,Tryz.ntmps31
 go_wp2_with fail
 go_ret
 exact ⟨rfl,rfl⟩
set_option maxRecDepth 100000 in
theorem c9T (k n m : Int) (w : World) (hk : k = 1) (hn : 0 <= n /\ n <= 131072) (h : m = 1) (h2 : ¬ n < 2) : Calls Tryz.prog 31 #[.int .i64 k,.int .i64 n,.int .i64 m] w (a0R k n m w):=by
 unfold a0R
 subst hk
 subst h
 rw [a3V (by omega) hn (by unfold mayB; first | (simp; done) | (simp; omega))]
 have d2 : decide (n < 0) = false:=decide_eq_false (by omega)
 have d3 : decide (131072 < n) = false:=decide_eq_false (by omega)
 have d:=decide_eq_false h2
 clear h2 hn
 go_enter Tryz.func31,Tryz.ntmps31
 go_wp2_with fail
 go_ret
 exact ⟨rfl,rfl⟩
set_option maxRecDepth 100000 in
theorem c9U (k n m : Int) (w : World) (hk : k = 2) (hn : 0 <= n /\ n <= 131072) (h : m < 1) : Calls Tryz.prog 31 #[.int .i64 k,.int .i64 n,.int .i64 m] w (a0R k n m w):=by
 unfold a0R
 subst hk
 rw [a2T (by omega) (by unfold mayB; first | (simp; done) | (simp; omega))]
 have d2 : decide (n < 0) = false:=decide_eq_false (by omega)
 have d3 : decide (131072 < n) = false:=decide_eq_false (by omega)
 have d:=decide_eq_true h
 clear h hn
 go_enter Tryz.func31,Tryz.ntmps31
 go_wp2_with fail
 go_ret
 exact ⟨rfl,rfl⟩
set_option maxRecDepth 100000 in
theorem c9V (k n m : Int) (w : World) (hk : k = 2) (hn : 0 <= n /\ n <= 131072) (h : ¬ m < 1) (h2 : n - 1 < m) : Calls Tryz.prog 31 #[.int .i64 k,.int .i64 n,.int .i64 m] w (a0R k n m w):=by
 unfold a0R
 subst hk
 rw [a2T (by omega) (by unfold mayB; first | (simp; done) | (simp; omega))]
 have d2 : decide (n < 0) = false:=decide_eq_false (by omega)
 have d3 : decide (131072 < n) = false:=decide_eq_false (by omega)
 have d4:=decide_eq_false h
 have d:=decide_eq_true h2
 have hw : IntKind.i64.wrap (n - 1) = n - 1:=i64_in _ (by omega)
 clear h h2
 go_enter Tryz.func31,Tryz.ntmps31
 go_wp2_with fail
 go_ret
 exact ⟨rfl,rfl⟩
set_option maxRecDepth 100000 in
theorem c9W (k n m : Int) (w : World) (hk : k = 2) (hn : 0 <= n /\ n <= 131072) (h : ¬ m < 1) (h2 : ¬ n - 1 < m) : Calls Tryz.prog 31 #[.int .i64 k,.int .i64 n,.int .i64 m] w (a0R k n m w):=by
 unfold a0R
 subst hk
 rw [a3V (by omega) hn (by unfold mayB; first | (simp; done) | (simp; omega))]
 have d2 : decide (n < 0) = false:=decide_eq_false (by omega)
 have d3 : decide (131072 < n) = false:=decide_eq_false (by omega)
 have d4:=decide_eq_false h
 have d:=decide_eq_false h2
 have hw : IntKind.i64.wrap (n - 1) = n - 1:=i64_in _ (by omega)
 clear h h2
 go_enter Tryz.func31,Tryz.ntmps31
 go_wp2_with fail
 go_ret
 exact ⟨rfl,rfl⟩
set_option maxRecDepth 100000 in
theorem c9X (k n m : Int) (w : World) (hk : k = 3) (hn : 0 <= n /\ n <= 131072) (h : m < 1) : Calls Tryz.prog 31 #[.int .i64 k,.int .i64 n,.int .i64 m] w (a0R k n m w):=by
 unfold a0R
 subst hk
 rw [a2T (by omega) (by unfold mayB; first | (simp; done) | (simp; omega))]
 have d2 : decide (n < 0) = false:=decide_eq_false (by omega)
 have d3 : decide (131072 < n) = false:=decide_eq_false (by omega)
 have d:=decide_eq_true h
 clear h hn
 go_enter Tryz.func31,Tryz.ntmps31
 go_wp2_with fail
 go_ret
 exact ⟨rfl,rfl⟩
set_option maxRecDepth 100000 in
theorem c9Y (k n m : Int) (w : World) (hk : k = 3) (hn : 0 <= n /\ n <= 131072) (h : ¬ m < 1) (h2 : n - 1 < m) : Calls Tryz.prog 31 #[.int .i64 k,.int .i64 n,.int .i64 m] w (a0R k n m w):=by
 unfold a0R
 subst hk
 rw [a2T (by omega) (by unfold mayB; first | (simp; done) | (simp; omega))]
 have d2 : decide (n < 0) = false:=decide_eq_false (by omega)
 have d3 : decide (131072 < n) = false:=decide_eq_false (by omega)
 have d4:=decide_eq_false h
 have d:=decide_eq_true h2
 have hw : IntKind.i64.wrap (n - 1) = n - 1:=i64_in _ (by omega)
 clear h h2
 go_enter Tryz.func31,Tryz.ntmps31
 go_wp2_with fail
 go_ret
 exact ⟨rfl,rfl⟩
set_option maxRecDepth 100000 in
theorem c9Z (k n m : Int) (w : World) (hk : k = 3) (hn : 0 <= n /\ n <= 131072) (h : ¬ m < 1) (h2 : ¬ n - 1 < m) : Calls Tryz.prog 31 #[.int .i64 k,.int .i64 n,.int .i64 m] w (a0R k n m w):=by
 unfold a0R
 subst hk
 rw [a3V (by omega) hn (by unfold mayB; first | (simp; done) | (simp; omega))]
 have d2 : decide (n < 0) = false:=decide_eq_false (by omega)
 have d3 : decide (131072 < n) = false:=decide_eq_false (by omega)
 have d4:=decide_eq_false h
 have d:=decide_eq_false h2
 have hw : IntKind.i64.wrap (n - 1) = n - 1:=i64_in _ (by omega)
 clear h h2
 go_enter Tryz.func31,Tryz.ntmps31
 go_wp2_with fail
 go_ret
 exact ⟨rfl,rfl⟩
theorem b1c (k n m : Int) (w : World) : Calls Tryz.prog 31 #[.int .i64 k,.int .i64 n,.int .i64 m] w (a0R k n m w):=by
 by_cases a1 : k < 0
 · exact c9L k n m w a1
 by_cases a2 : 3 < k
 · exact c9M k n m w a2
 by_cases a3 : n < 0
 · exact c9N k n m w (by omega) a3
 by_cases a4 : 131072 < n
 · exact c9O k n m w (by omega) a4
 have hn : 0 <= n /\ n <= 131072:=by omega
 by_cases k0 : k = 0
 · by_cases h : m = n
   · exact c9P k n m w k0 hn h
   · exact c9Q k n m w k0 hn h
 by_cases k1 : k = 1
 · by_cases h : m = 1
   · by_cases h2 : n < 2
     · exact c9S k n m w k1 hn h h2
     · exact c9T k n m w k1 hn h h2
   · exact c9R k n m w k1 hn h
 by_cases h : m < 1
 · by_cases k2 : k = 2
   · exact c9U k n m w k2 hn h
   · exact c9X k n m w (by omega) hn h
 by_cases h2 : n - 1 < m
 · by_cases k2 : k = 2
   · exact c9V k n m w k2 hn h h2
   · exact c9Y k n m w (by omega) hn h h2
 · by_cases k2 : k = 2
   · exact c9W k n m w k2 hn h h2
   · exact c9Z k n m w (by omega) hn h h2
def hv (g : List Int) (m : Nat) : Nat -> Nat
 | 0=>0
 | d + 1=>256 * hv g m d + (g.getD (m - 1 - d) 0).toNat
theorem hv_lt {g : List Int} (hg : Bytes g) (m : Nat) : ∀ d,hv g m d < 256 ^ d
 | 0=>by simp [hv]
 | d + 1=>by
  have h1:=hv_lt hg m d
  have h2:=hg.get (m - 1 - d)
  unfold hv
  rw [Nat.pow_succ]
  omega
theorem hv_3 (g : List Int) : hv g 3 3 = rdN g 3:=by
 simp only [hv,rdN,Nat.reduceSub]; omega
theorem hv_4 (g : List Int) : hv g 4 4 = rdN g 4:=by
 simp only [hv,rdN,Nat.reduceSub]; omega
set_option maxRecDepth 100000 in
set_option maxHeartbeats 1000000 in
theorem d0a (A : Option Addr) (c : Nat) (f : List Int) (fr m : Nat) (w : World) (hr : (Kd.int .u8).C w A f.length f) (hf : Bytes f) (hl : f.length <= 140737488355328) (h1 : fr + m <= f.length) (hm : m = 3 \/ m = 4) :
    Calls Tryz.prog 90 #[.slice A f.length c,.int .i64 fr,.int .i64 m] w (λ e w'=>e = .returned (.int .i64 (rdN (f.drop fr) m : Nat)) /\ w = w'):=by
 have HR:=Lib.hid (And.intro hr hf)
 have hE : rdN (f.drop fr) m = hv (f.drop fr) m m:=by rcases hm with rfl | rfl; (· exact (hv_3 _).symm); (· exact (hv_4 _).symm)
 rw [hE]
 have HG:=Lib.hid (show Bytes (f.drop fr) from λ x hx=>hf x (List.mem_of_mem_drop hx))
 obtain ⟨g,hg⟩ : ∃ g,g = f.drop fr:=⟨_,rfl⟩
 rw [<- hg] at HG ⊢
 have HGe:=Lib.hid hg
 have hm4 : m <= 4:=by omega
 clear hr hf hE hg hm
 go_enter Tryz.func90,Tryz.ntmps90
 go_wp2_with fail
 go_loop [7,8] (λ nv iv=>∃ d : Nat,d <= m /\ nv = .int .i64 (hv g m d : Nat) /\ iv = .int .i64 ((m : Int) - 1 - (d : Int))) (λ _ iv=>((intOf iv) + 1).toNat)
 case atStart=>exact ⟨0,by omega,rfl,by simp⟩
 case round=>
  obtain ⟨d,hd,rfl,rfl⟩:=hrel
  by_cases hlt : d < m
  · have hI : (0 : Int) <= (m : Int) - 1 - (d : Int):=by omega
    obtain ⟨t,ht⟩ : ∃ t,t = m - 1 - d:=⟨_,rfl⟩
    have htI : (m : Int) - 1 - (d : Int) = (t : Int):=by omega
    obtain ⟨r,hr⟩ : ∃ r,r = fr + t:=⟨_,rfl⟩
    have hrI : (fr : Int) + (t : Int) = (r : Int):=by omega
    have hrl : r < f.length:=by omega
    obtain ⟨ad,hA,hcx⟩:=a0x HR.out.1 r hrl
    subst hA
    have hby:=HR.out.2.get r
    obtain ⟨y,hy⟩ : ∃ y : Nat,f.getD r 0 = y:=⟨(f.getD r 0).toNat,by omega⟩
    rw [hy] at hcx hby
    have hlv:=hv_lt HG.out m d
    have hlv2 : hv g m d < 4294967296:=Nat.lt_of_lt_of_le hlv (Nat.le_trans (Nat.pow_le_pow_right (by decide : 256 > 0) (by omega : d <= 4)) (by decide))
    have HN : Hid (hv g m (d + 1) = 256 * hv g m d + y):=Lib.hid (by
     have hgr : g.getD t 0 = y:=by
      rw [HGe.out,<- hy,hr,List.getD_eq_getElem?_getD,List.getElem?_drop,<- List.getD_eq_getElem?_getD]
     show 256 * hv g m d + (g.getD (m - 1 - d) 0).toNat = _
     rw [<- ht,hgr,Int.toNat_natCast])
    obtain ⟨v,hv'⟩ : ∃ v,v = hv g m d:=⟨_,rfl⟩
    rw [<- hv'] at HN hlv2 ⊢
    have hrlI : (r : Int) < (f.length : Int):=by omega
    have hyl : y < 256:=by omega
    rw [htI]
    rw [htI] at hI
    have HTI:=Lib.hid htI
    clear hlv hv' hby hy ht hr htI
    go_wp2_with fail
    go_round
    case rel=>exact ⟨d + 1,by omega,by first | (rw [HN.out]; done) | (rw [HN.out]; go_num),by have:=HTI.out; first | rfl | (congr 1; done) | (congr 1; omega) | go_num⟩
    case measure=>have:=HTI.out; first | (simp [intOf]; done) | (simp [intOf]; omega)
  · obtain rfl : d = m:=by omega
    have hI : ¬ (0 : Int) <= (d : Int) - 1 - (d : Int):=by omega
    go_wp2_with fail
    go_ret
    exact ⟨rfl,rfl⟩
theorem d0b : (Tryz.prog.info? 42).map (·.size) = some 5:=by kernel_rfl
theorem a1q {w : World} {g : Nat} {a b c d f : Value} (hg : w.heap[g]? = some (.cells #[a,b,c,d,f] 42 (0,0))) : (loadVar 42 ⟨g,0,none⟩).run Tryz.prog w = .ok (.agg #[a,b,c,d,f]) w:=
 run_loadVar_row w g _ _ _ _ _ hg Tryz.underlying42 rfl d0b
structure S23 (w : World) (r8 h : Nat) (a b c : Nat) (d : Bool) (W : World) : Prop where
 lt : r8 < h
 kh : W.heap[h]? = some (.cells #[.int .i64 a,.int .i64 b,.int .i64 c,.bool d,.int .u32 0] 42 (0,0))
 kr : W.heap[r8]? = some (.cells #[.int .i64 0,.int .i64 0,.int .i64 0,.bool false,.int .u32 0] 42 (0,0))
 on : Below r8 w W
theorem S23.set2 {w : World} {r8 h a b c : Nat} {d : Bool} {W : World} (hs : S23 w r8 h a b c d W) (c' : Nat) : S23 w r8 h a b c' d (W.setCell ⟨h,2,none⟩ (.int .i64 c')):=
 ⟨hs.lt,a0n hs.kh 2 _,a1i hs.kr (p:=⟨h,2,none⟩) (by show r8 ≠ h; have:=hs.lt; omega) _,hs.on.setCell (by show r8 <= h; have:=hs.lt; omega) _⟩
set_option maxRecDepth 100000 in
set_option maxHeartbeats 4000000 in
theorem d0c (A : Option Addr) (c : Nat) (f : List Int) (log : Int) (first : Bool) (room : Int) (w : World) (hr : (Kd.int .u8).C w A f.length f) (hf : Bytes f) (hl : f.length <= 140737488355328) :
    Calls Tryz.prog 35 #[.slice A f.length c,.int .i64 log,.bool first,.int .i64 room] w (a6g (scanM f log first room) w):=by
 obtain ⟨W0,hW0⟩ : ∃ W,W = w.alloc (.cells #[.int .i64 0,.int .i64 0,.int .i64 0,.bool false,.int .u32 0] 42):=⟨_,rfl⟩
 have hk0 : W0.heap[w.heap.size]? = some (.cells #[.int .i64 0,.int .i64 0,.int .i64 0,.bool false,.int .u32 0] 42 (0,0)):=by rw [hW0]; exact a0h _ _
 have hb0 : Below w.heap.size w W0:=by rw [hW0]; exact (Below.refl _ _).alloc (Nat.le_refl _) _
 have hs0 : W0.heap.size = w.heap.size + 1:=by rw [hW0]; simp
 have HK0:=Lib.hid (And.intro hk0 hb0)
 have HR:=Lib.hid (And.intro (Kd.C_below hr hb0) (And.intro hf hl))
 by_cases hg : log < 10 \/ 17 < log \/ room < 0
 · have hE : scanM f log first room = (1,headZ):=by unfold scanM; rw [if_pos hg]
   rw [hE]
   have hd : decide (log < 10) = true \/ (decide (log < 10) = false /\ decide (17 < log) = true) \/ (decide (log < 10) = false /\ decide (17 < log) = false /\ decide (room < 0) = true):=by
    by_cases h1 : log < 10
    · exact .inl (decide_eq_true h1)
    · by_cases h2 : 17 < log
      · exact .inr (.inl ⟨decide_eq_false h1,decide_eq_true h2⟩)
      · exact .inr (.inr ⟨decide_eq_false h1,decide_eq_false h2,decide_eq_true (by omega)⟩)
   clear hr hf hl hk0 hb0 hs0 hg hE
   rcases hd with d1 | ⟨d1,d2⟩ | ⟨d1,d2,d3⟩
   all_goals
    go_enter Tryz.func35,Tryz.ntmps35
    go_wp2_with fail
    rw [<- hW0]
    refine bodyPost_ret (a0F (fn:=Tryz.f35) (p:=8) (u:=9) (ty:=42) rfl _ _ _ _ rfl (a1q HK0.out.1)) rfl ?_
    exact ⟨by rw [a0X]; rfl,HK0.out.2⟩
 have hlr : 10 <= log /\ log <= 17 /\ 0 <= room:=by omega
 have g1 : decide (log < 10) = false:=decide_eq_false (by omega)
 have g2 : decide (17 < log) = false:=decide_eq_false (by omega)
 have g3 : decide (room < 0) = false:=decide_eq_false (by omega)
 obtain ⟨lg,rfl⟩ : ∃ lg : Nat,log = lg:=⟨log.toNat,by omega⟩
 have HLR:=Lib.hid hlr
 have HE1 : Hid (scanM f lg first room = (if f.length < 1 then (3,headZ) else
     if 7 < (f.getD 0 0).toNat then (10,headZ) else
     if f.length < 4 then (3,headZ) else
     if a1h lg first ((f.getD 0 0).toNat % 4) (rdN (f.drop 1) 3) (decide (4 <= (f.getD 0 0).toNat)) = false then (11,headZ) else
     if f.length < 7 then (3,headZ) else
     if a0u ((f.getD 0 0).toNat % 4 : Nat) (rdN (f.drop 1) 3) (rdN (f.drop 4) 3) ≠ 0 then (a0u ((f.getD 0 0).toNat % 4 : Nat) (rdN (f.drop 1) 3) (rdN (f.drop 4) 3),headZ) else
     if room < rdN (f.drop 1) 3 then (7,headZ) else
     if f.length < 11 then (3,headZ) else
     (0,(f.getD 0 0).toNat % 4,rdN (f.drop 1) 3,rdN (f.drop 4) 3,decide (4 <= (f.getD 0 0).toNat),rdN (f.drop 7) 4))):=Lib.hid (by
  show scanM f lg first room = _
  unfold scanM
  rw [if_neg hg])
 clear hg hlr
 by_cases hL1 : f.length < 1
 · have HE:=Lib.hid (show scanM f lg first room = (3,headZ) from by rw [HE1.out,if_pos hL1])
   have hL1I : (f.length : Int) < 1:=by omega
   clear hr hf hl hk0 hb0 hs0 HE1 hL1
   go_enter Tryz.func35,Tryz.ntmps35
   go_wp2_with fail
   rw [<- hW0]
   refine bodyPost_ret (a0F (fn:=Tryz.f35) (p:=8) (u:=9) (ty:=42) rfl _ _ _ _ rfl (a1q HK0.out.1)) rfl ?_
   rw [HE.out]
   exact ⟨by rw [a0X]; rfl,HK0.out.2⟩
 obtain ⟨ad,hA,hcx0⟩:=a0x hr 0 (by omega)
 have e0 : ad.add 0 = ad:=by simp [Addr.add]
 rw [e0] at hcx0
 have hcx : (w.alloc (.cells #[.int .i64 0,.int .i64 0,.int .i64 0,.bool false,.int .u32 0] 42)).cell? ad = some (.int .u8 (f.getD 0 0)):=a0q ((Below.refl _ _).alloc (Nat.le_refl _) _) hcx0
 have hby:=hf.get 0
 obtain ⟨k1,hk1⟩ : ∃ k : Nat,f.getD 0 0 = k:=⟨(f.getD 0 0).toNat,by omega⟩
 rw [hk1] at HE1 hcx hby
 rw [Int.toNat_natCast,if_neg hL1] at HE1
 have hk18 : k1 < 256:=by omega
 have hL1I : ¬ (f.length : Int) < 1:=by omega
 have hfl0 : (0 : Int) < (f.length : Int):=by omega
 subst hA
 clear hby hk1 e0 hcx0 hL1
 by_cases h7 : 7 < k1
 · have HE:=Lib.hid (show scanM f lg first room = (10,headZ) from by rw [HE1.out,if_pos h7])
   have h7I : (7 : Int) < (k1 : Int):=by omega
   clear hr hf hl hk0 hb0 hs0 HE1 h7
   go_enter Tryz.func35,Tryz.ntmps35
   go_wp2_with fail
   rw [<- hW0]
   refine bodyPost_ret (a0F (fn:=Tryz.f35) (p:=8) (u:=9) (ty:=42) rfl _ _ _ _ rfl (a1q HK0.out.1)) rfl ?_
   rw [HE.out]
   exact ⟨by rw [a0X]; rfl,HK0.out.2⟩
 rw [if_neg h7] at HE1
 have h7I : ¬ (7 : Int) < (k1 : Int):=by omega
 have H7:=Lib.hid h7
 clear h7
 by_cases hL4 : f.length < 4
 · have HE:=Lib.hid (show scanM f lg first room = (3,headZ) from by rw [HE1.out,if_pos hL4])
   have hL4I : (f.length : Int) < 4:=by omega
   clear hr hf hl hk0 hb0 hs0 HE1 hL4
   go_enter Tryz.func35,Tryz.ntmps35
   go_wp2_with fail
   rw [<- hW0]
   refine bodyPost_ret (a0F (fn:=Tryz.f35) (p:=8) (u:=9) (ty:=42) rfl _ _ _ _ rfl (a1q HK0.out.1)) rfl ?_
   rw [HE.out]
   exact ⟨by rw [a0X]; rfl,HK0.out.2⟩
 rw [if_neg hL4] at HE1
 have hL4I : ¬ (f.length : Int) < 4:=by omega
 have HL4:=Lib.hid hL4
 have HNu:=Lib.hid (λ (W : World) (fr m : Nat) (hB : Below W0.heap.size W0 W) h1 hm=>d0a (some ad) c f fr m W (Kd.C_below HR.out.1 hB) HR.out.2.1 HR.out.2.2 h1 hm)
 obtain ⟨a,ha⟩ : ∃ a,a = k1 % 4:=⟨_,rfl⟩
 obtain ⟨lb,hlb⟩ : ∃ b,b = decide (4 <= k1):=⟨_,rfl⟩
 obtain ⟨n2,hn2⟩ : ∃ n,n = rdN (f.drop 1) 3:=⟨_,rfl⟩
 obtain ⟨n3,hn3⟩ : ∃ n,n = rdN (f.drop 4) 3:=⟨_,rfl⟩
 obtain ⟨n4,hn4⟩ : ∃ n,n = rdN (f.drop 7) 4:=⟨_,rfl⟩
 have b2:=a2n (λ x hx=>hf x (List.mem_of_mem_drop hx) : Bytes (f.drop 1)) 3
 have b4:=a2n (λ x hx=>hf x (List.mem_of_mem_drop hx) : Bytes (f.drop 7)) 4
 have HNu1:=Lib.hid (HNu.out W0 1 3 (Below.refl _ _) (by omega) (.inl rfl))
 rw [<- hn2] at HNu1 b2
 rw [<- hn4] at b4
 have b2' : n2 < 16777216:=by omega
 have b4' : n4 < 4294967296:=by omega
 rw [<- ha,<- hlb,<- hn2,<- hn3,<- hn4] at HE1
 have ha4 : a < 4:=by omega
 have haI : (k1 : Int) % 4 = (a : Int):=by omega
 have haT : (k1 : Int).tmod 4 = (a : Int):=by rw [Int.tmod_eq_emod_of_nonneg (by omega)]; exact haI
 have hlbI : decide ((4 : Int) <= (k1 : Int)) = lb:=by rw [hlb,Bool.eq_iff_iff]; simp; omega
 have HN3:=Lib.hid (And.intro hn3 hn4)
 obtain ⟨s,hs⟩ : ∃ s : Nat,s = 2 ^ lg:=⟨_,rfl⟩
 have hsI : (2 : Int) ^ lg = (s : Int):=by rw [hs]; simp
 have hs2 : s <= 131072:=by rw [hs]; exact Nat.le_trans (Nat.pow_le_pow_right (by decide : 2 > 0) (show lg <= 17 from by have:=HLR.out; omega)) (by decide)
 have HSz : Hid (a1h lg first a n2 lb = (if lb = false then decide (n2 = s) else if n2 = 0 then first && decide (a = 0) else decide (n2 <= s))):=Lib.hid (by unfold a1h; rw [Int.toNat_natCast,hs])
 obtain ⟨r8,hr8⟩ : ∃ r,r = w.heap.size:=⟨_,rfl⟩
 have hW1 : Hid (∃ W1,W1 = W0.alloc (.cells #[.int .i64 a,.int .i64 n2,.int .i64 0,.bool lb,.int .u32 0] 42)):=Lib.hid ⟨_,rfl⟩
 have HS1 : Hid (S23 w r8 W0.heap.size a n2 0 lb (W0.alloc (.cells #[.int .i64 a,.int .i64 n2,.int .i64 0,.bool lb,.int .u32 0] 42))):=Lib.hid ⟨by omega,a0h _ _,by rw [hr8]; exact a0i hk0 _,by rw [hr8]; exact hb0.alloc hb0.size _⟩
 have HWr:=Lib.hid hr8
 have HK0r : Hid (W0.heap[r8]? = some (.cells #[.int .i64 0,.int .i64 0,.int .i64 0,.bool false,.int .u32 0] 42 (0,0))):=Lib.hid (by rw [hr8]; exact hk0)
 have hfl:=hl
 have hlog : 10 <= lg /\ lg <= 17:=by have:=HLR.out; omega
 clear hr hf hl hk0 hb0 hL4 ha hlb hn2 hn3 hn4 b2 b4 hs hW1
 have HFl:=Lib.hid hfl
 clear hfl
 go_enter Tryz.func35,Tryz.ntmps35
 go_wp2_with fail
 rw [<- hW0,<- hr8]
 clear hcx
 refine HNu1.out.mono ?_
 rintro e w' ⟨rfl,rfl⟩
 obtain ⟨⟨z0,z1,z2,z3,z4⟩,y0,y1,y2,y3,y4⟩:=cell5 HK0r.out
 clear hW0 hr8 hs0
 have hhr : W0.heap.size ≠ r8:=by have:=HS1.out.lt; omega
 have hrh : r8 ≠ W0.heap.size:=by have:=HS1.out.lt; omega
 by_cases hz : a1h lg first a n2 lb = true
 · have hzf : ¬ a1h lg first a n2 lb = false:=by rw [hz]; decide
   rw [if_neg hzf] at HE1
   clear hzf
   by_cases hL7 : f.length < 7
   · have hL7I : (f.length : Int) < 7:=by omega
     have hsz:=hz
     rw [HSz.out] at hsz
     cases lb with
     | false=>
      rw [if_pos rfl] at hsz
      have hq : ((n2 : Int) != (s : Int)) = false:=by have:=of_decide_eq_true hsz; rw [this]; simp
      clear hsz
      have HE:=Lib.hid (show scanM f lg first room = (3,headZ) from by rw [HE1.out,if_pos hL7])
      obtain ⟨⟨p0,p1,p2,p3,p4⟩,q0,q1,q2,q3,q4⟩:=cell5 HS1.out.kh
      obtain ⟨⟨z0,z1,z2,z3,z4⟩,y0,y1,y2,y3,y4⟩:=cell5 HS1.out.kr
      clear HE1 hL7
      go_wp2_with fail
      all_goals
       refine bodyPost_ret (a0F (fn:=Tryz.f35) (p:=8) (u:=9) (ty:=42) rfl _ _ _ _ rfl (a1q (a1a HS1.out.kr _ _ _ _ _))) rfl ?_
       rw [HE.out]
       exact ⟨by rw [a0X]; rfl,by show Below w.heap.size w _; rw [<- HWr.out]; exact a1r HS1.out.on (Nat.le_refl _) _ _ _ _ _⟩
     | true=>
      rw [if_neg (by decide)] at hsz
      by_cases hn0 : n2 = 0
      · rw [if_pos hn0,Bool.and_eq_true] at hsz
        have hq2 : ((n2 : Int) == 0) = true:=by rw [hn0]; rfl
        have hq1 : n2 <= s:=by omega
        have hq3 : ((a : Int) == 0) = true:=by have:=of_decide_eq_true hsz.2; rw [this]; rfl
        obtain rfl:=hsz.1
        clear hsz hn0
        have HE:=Lib.hid (show scanM f lg true room = (3,headZ) from by rw [HE1.out,if_pos hL7])
        obtain ⟨⟨p0,p1,p2,p3,p4⟩,q0,q1,q2,q3,q4⟩:=cell5 HS1.out.kh
        obtain ⟨⟨z0,z1,z2,z3,z4⟩,y0,y1,y2,y3,y4⟩:=cell5 HS1.out.kr
        clear HE1 hL7
        go_wp2_with fail
        all_goals
         refine bodyPost_ret (a0F (fn:=Tryz.f35) (p:=8) (u:=9) (ty:=42) rfl _ _ _ _ rfl (a1q (a1a HS1.out.kr _ _ _ _ _))) rfl ?_
         rw [HE.out]
         exact ⟨by rw [a0X]; rfl,by show Below w.heap.size w _; rw [<- HWr.out]; exact a1r HS1.out.on (Nat.le_refl _) _ _ _ _ _⟩
      · rw [if_neg hn0] at hsz
        have hq2 : ((n2 : Int) == 0) = false:=by simp; omega
        have hq1 : n2 <= s:=of_decide_eq_true hsz
        clear hsz hn0
        have HE:=Lib.hid (show scanM f lg first room = (3,headZ) from by rw [HE1.out,if_pos hL7])
        obtain ⟨⟨p0,p1,p2,p3,p4⟩,q0,q1,q2,q3,q4⟩:=cell5 HS1.out.kh
        obtain ⟨⟨z0,z1,z2,z3,z4⟩,y0,y1,y2,y3,y4⟩:=cell5 HS1.out.kr
        clear HE1 hL7
        go_wp2_with fail
        all_goals
         refine bodyPost_ret (a0F (fn:=Tryz.f35) (p:=8) (u:=9) (ty:=42) rfl _ _ _ _ rfl (a1q (a1a HS1.out.kr _ _ _ _ _))) rfl ?_
         rw [HE.out]
         exact ⟨by rw [a0X]; rfl,by show Below w.heap.size w _; rw [<- HWr.out]; exact a1r HS1.out.on (Nat.le_refl _) _ _ _ _ _⟩
   · have hL7I : ¬ (f.length : Int) < 7:=by omega
     have HL7:=Lib.hid hL7
     rw [if_neg hL7] at HE1
     clear hL7
     have hsz:=hz
     rw [HSz.out] at hsz
     cases lb with
     | false=>
      rw [if_pos rfl] at hsz
      have hq : ((n2 : Int) != (s : Int)) = false:=by have:=of_decide_eq_true hsz; rw [this]; simp
      clear hsz
      obtain ⟨⟨p0,p1,p2,p3,p4⟩,q0,q1,q2,q3,q4⟩:=cell5 HS1.out.kh
      obtain ⟨⟨z0,z1,z2,z3,z4⟩,y0,y1,y2,y3,y4⟩:=cell5 HS1.out.kr
      obtain ⟨W1,hW1⟩ : ∃ W,W = W0.alloc (.cells #[.int .i64 a,.int .i64 n2,.int .i64 0,.bool false,.int .u32 0] 42):=⟨_,rfl⟩
      have HSw : Hid (S23 w r8 W0.heap.size a n2 0 false W1):=Lib.hid (by rw [hW1]; exact HS1.out)
      have HBw : Hid (Below W0.heap.size W0 W1):=Lib.hid (by rw [hW1]; exact (Below.refl _ _).alloc (Nat.le_refl _) _)
      have HN4:=Lib.hid (HNu.out W1 4 3 HBw.out (by have:=HL7.out; omega) (.inl rfl))
      rw [<- HN3.out.1] at HN4
      go_wp2_with fail
      all_goals
       rw [<- hW1]
       clear hW1 p0 p1 p2 p3 p4 q0 q1 q2 q3 q4 z0 z1 z2 z3 z4 y0 y1 y2 y3 y4
       refine HN4.out.mono ?_
       rintro e w' ⟨rfl,rfl⟩
       obtain ⟨⟨p0,p1,p2,p3,p4⟩,q0,q1,q2,q3,q4⟩:=cell5 HSw.out.kh
       obtain ⟨⟨z0,z1,z2,z3,z4⟩,y0,y1,y2,y3,y4⟩:=cell5 HSw.out.kr
       go_wp2_with fail
       refine (b1c a n2 n3 _).mono ?_
       rintro e w' ⟨rfl,rfl⟩
       have HS2:=Lib.hid (HSw.out.set2 n3)
       by_cases hc0 : a0u a n2 n3 = 0
       · rw [if_neg (λ h=>h hc0)] at HE1
         rw [hc0]
         by_cases hrm : room < n2
         · have HE:=Lib.hid (show scanM f lg first room = (7,headZ) from by rw [HE1.out,if_pos hrm])
           have hrmd:=decide_eq_true hrm
           clear HE1 hc0
           go_wp2_with fail
           refine bodyPost_ret (a0F (fn:=Tryz.f35) (p:=8) (u:=9) (ty:=42) rfl _ _ _ _ rfl (a1q (a1a HS2.out.kr _ _ _ _ _))) rfl ?_
           rw [HE.out]
           exact ⟨by rw [a0X]; rfl,by show Below w.heap.size w _; rw [<- HWr.out]; exact a1r HS2.out.on (Nat.le_refl _) _ _ _ _ _⟩
         · rw [if_neg hrm] at HE1
           have hrmd:=decide_eq_false hrm
           by_cases hL11 : f.length < 11
           · have HE:=Lib.hid (show scanM f lg first room = (3,headZ) from by rw [HE1.out,if_pos hL11])
             have hL11I : (f.length : Int) < 11:=by omega
             clear HE1 hc0 hL11
             go_wp2_with fail
             refine bodyPost_ret (a0F (fn:=Tryz.f35) (p:=8) (u:=9) (ty:=42) rfl _ _ _ _ rfl (a1q (a1a HS2.out.kr _ _ _ _ _))) rfl ?_
             rw [HE.out]
             exact ⟨by rw [a0X]; rfl,by show Below w.heap.size w _; rw [<- HWr.out]; exact a1r HS2.out.on (Nat.le_refl _) _ _ _ _ _⟩
           · have HE:=Lib.hid (show scanM f lg first room = (0,a,n2,n3,false,n4) from by rw [HE1.out,if_neg hL11])
             have hL11I : ¬ (f.length : Int) < 11:=by omega
             have HN7:=HNu.out _ 7 4 (HBw.out.setCell (p:=⟨W0.heap.size,2,none⟩) (Nat.le_refl _) (.int .i64 n3)) (by omega) (.inr rfl)
             rw [<- HN3.out.2] at HN7
             have HN7h:=Lib.hid HN7
             have hw4 : IntKind.u32.wrap (n4 : Int) = (n4 : Int):=by rw [IntKind.wrap_u32']; omega
             clear HE1 hc0 hL11 HN7
             go_wp2_with fail
             refine HN7h.out.mono ?_
             rintro e w' ⟨rfl,rfl⟩
             go_wp2_with fail
             refine bodyPost_ret (a0F (fn:=Tryz.f35) (p:=8) (u:=9) (ty:=42) rfl _ _ _ _ rfl (a1q (a1a (a1i HS2.out.kr (p:=⟨W0.heap.size,4,none⟩) hrh _) _ _ _ _ _))) rfl ?_
             rw [HE.out]
             exact ⟨rfl,by show Below w.heap.size w _; rw [<- HWr.out]; exact a1r (HS2.out.on.setCell (p:=⟨W0.heap.size,4,none⟩) (Nat.le_of_lt HS2.out.lt) _) (Nat.le_refl _) _ _ _ _ _⟩
       · have HE:=Lib.hid (show scanM f lg first room = (a0u a n2 n3,headZ) from by rw [HE1.out,if_pos hc0])
         obtain ⟨ck,hck⟩ : ∃ z,z = a0u a n2 n3:=⟨_,rfl⟩
         rw [<- hck] at HE hc0 ⊢
         have hc2 : (ck != 0) = true:=by simpa using hc0
         clear HE1 hc0 hck
         go_wp2_with fail
         refine bodyPost_ret (a0F (fn:=Tryz.f35) (p:=8) (u:=9) (ty:=42) rfl _ _ _ _ rfl (a1q (a1a HS2.out.kr _ _ _ _ _))) rfl ?_
         rw [HE.out]
         exact ⟨by rw [a0X]; rfl,by show Below w.heap.size w _; rw [<- HWr.out]; exact a1r HS2.out.on (Nat.le_refl _) _ _ _ _ _⟩
     | true=>
      rw [if_neg (by decide)] at hsz
      by_cases hn0 : n2 = 0
      · rw [if_pos hn0,Bool.and_eq_true] at hsz
        have hq2 : ((n2 : Int) == 0) = true:=by rw [hn0]; rfl
        have hq1 : n2 <= s:=by omega
        have hq3 : ((a : Int) == 0) = true:=by have:=of_decide_eq_true hsz.2; rw [this]; rfl
        obtain rfl:=hsz.1
        clear hsz hn0
        obtain ⟨⟨p0,p1,p2,p3,p4⟩,q0,q1,q2,q3,q4⟩:=cell5 HS1.out.kh
        obtain ⟨⟨z0,z1,z2,z3,z4⟩,y0,y1,y2,y3,y4⟩:=cell5 HS1.out.kr
        obtain ⟨W1,hW1⟩ : ∃ W,W = W0.alloc (.cells #[.int .i64 a,.int .i64 n2,.int .i64 0,.bool true,.int .u32 0] 42):=⟨_,rfl⟩
        have HSw : Hid (S23 w r8 W0.heap.size a n2 0 true W1):=Lib.hid (by rw [hW1]; exact HS1.out)
        have HBw : Hid (Below W0.heap.size W0 W1):=Lib.hid (by rw [hW1]; exact (Below.refl _ _).alloc (Nat.le_refl _) _)
        have HN4:=Lib.hid (HNu.out W1 4 3 HBw.out (by have:=HL7.out; omega) (.inl rfl))
        rw [<- HN3.out.1] at HN4
        go_wp2_with fail
        all_goals
         rw [<- hW1]
         clear hW1 p0 p1 p2 p3 p4 q0 q1 q2 q3 q4 z0 z1 z2 z3 z4 y0 y1 y2 y3 y4
         refine HN4.out.mono ?_
         rintro e w' ⟨rfl,rfl⟩
         obtain ⟨⟨p0,p1,p2,p3,p4⟩,q0,q1,q2,q3,q4⟩:=cell5 HSw.out.kh
         obtain ⟨⟨z0,z1,z2,z3,z4⟩,y0,y1,y2,y3,y4⟩:=cell5 HSw.out.kr
         go_wp2_with fail
         refine (b1c a n2 n3 _).mono ?_
         rintro e w' ⟨rfl,rfl⟩
         have HS2:=Lib.hid (HSw.out.set2 n3)
         by_cases hc0 : a0u a n2 n3 = 0
         · rw [if_neg (λ h=>h hc0)] at HE1
           rw [hc0]
           by_cases hrm : room < n2
           · have HE:=Lib.hid (show scanM f lg true room = (7,headZ) from by rw [HE1.out,if_pos hrm])
             have hrmd:=decide_eq_true hrm
             clear HE1 hc0
             go_wp2_with fail
             refine bodyPost_ret (a0F (fn:=Tryz.f35) (p:=8) (u:=9) (ty:=42) rfl _ _ _ _ rfl (a1q (a1a HS2.out.kr _ _ _ _ _))) rfl ?_
             rw [HE.out]
             exact ⟨by rw [a0X]; rfl,by show Below w.heap.size w _; rw [<- HWr.out]; exact a1r HS2.out.on (Nat.le_refl _) _ _ _ _ _⟩
           · rw [if_neg hrm] at HE1
             have hrmd:=decide_eq_false hrm
             by_cases hL11 : f.length < 11
             · have HE:=Lib.hid (show scanM f lg true room = (3,headZ) from by rw [HE1.out,if_pos hL11])
               have hL11I : (f.length : Int) < 11:=by omega
               clear HE1 hc0 hL11
               go_wp2_with fail
               refine bodyPost_ret (a0F (fn:=Tryz.f35) (p:=8) (u:=9) (ty:=42) rfl _ _ _ _ rfl (a1q (a1a HS2.out.kr _ _ _ _ _))) rfl ?_
               rw [HE.out]
               exact ⟨by rw [a0X]; rfl,by show Below w.heap.size w _; rw [<- HWr.out]; exact a1r HS2.out.on (Nat.le_refl _) _ _ _ _ _⟩
             · have HE:=Lib.hid (show scanM f lg true room = (0,a,n2,n3,true,n4) from by rw [HE1.out,if_neg hL11])
               have hL11I : ¬ (f.length : Int) < 11:=by omega
               have HN7:=HNu.out _ 7 4 (HBw.out.setCell (p:=⟨W0.heap.size,2,none⟩) (Nat.le_refl _) (.int .i64 n3)) (by omega) (.inr rfl)
               rw [<- HN3.out.2] at HN7
               have HN7h:=Lib.hid HN7
               have hw4 : IntKind.u32.wrap (n4 : Int) = (n4 : Int):=by rw [IntKind.wrap_u32']; omega
               clear HE1 hc0 hL11 HN7
               go_wp2_with fail
               refine HN7h.out.mono ?_
               rintro e w' ⟨rfl,rfl⟩
               go_wp2_with fail
               refine bodyPost_ret (a0F (fn:=Tryz.f35) (p:=8) (u:=9) (ty:=42) rfl _ _ _ _ rfl (a1q (a1a (a1i HS2.out.kr (p:=⟨W0.heap.size,4,none⟩) hrh _) _ _ _ _ _))) rfl ?_
               rw [HE.out]
               exact ⟨rfl,by show Below w.heap.size w _; rw [<- HWr.out]; exact a1r (HS2.out.on.setCell (p:=⟨W0.heap.size,4,none⟩) (Nat.le_of_lt HS2.out.lt) _) (Nat.le_refl _) _ _ _ _ _⟩
         · have HE:=Lib.hid (show scanM f lg true room = (a0u a n2 n3,headZ) from by rw [HE1.out,if_pos hc0])
           obtain ⟨ck,hck⟩ : ∃ z,z = a0u a n2 n3:=⟨_,rfl⟩
           rw [<- hck] at HE hc0 ⊢
           have hc2 : (ck != 0) = true:=by simpa using hc0
           clear HE1 hc0 hck
           go_wp2_with fail
           refine bodyPost_ret (a0F (fn:=Tryz.f35) (p:=8) (u:=9) (ty:=42) rfl _ _ _ _ rfl (a1q (a1a HS2.out.kr _ _ _ _ _))) rfl ?_
           rw [HE.out]
           exact ⟨by rw [a0X]; rfl,by show Below w.heap.size w _; rw [<- HWr.out]; exact a1r HS2.out.on (Nat.le_refl _) _ _ _ _ _⟩
      · rw [if_neg hn0] at hsz
        have hq2 : ((n2 : Int) == 0) = false:=by simp; omega
        have hq1 : n2 <= s:=of_decide_eq_true hsz
        clear hsz hn0
        obtain ⟨⟨p0,p1,p2,p3,p4⟩,q0,q1,q2,q3,q4⟩:=cell5 HS1.out.kh
        obtain ⟨⟨z0,z1,z2,z3,z4⟩,y0,y1,y2,y3,y4⟩:=cell5 HS1.out.kr
        obtain ⟨W1,hW1⟩ : ∃ W,W = W0.alloc (.cells #[.int .i64 a,.int .i64 n2,.int .i64 0,.bool true,.int .u32 0] 42):=⟨_,rfl⟩
        have HSw : Hid (S23 w r8 W0.heap.size a n2 0 true W1):=Lib.hid (by rw [hW1]; exact HS1.out)
        have HBw : Hid (Below W0.heap.size W0 W1):=Lib.hid (by rw [hW1]; exact (Below.refl _ _).alloc (Nat.le_refl _) _)
        have HN4:=Lib.hid (HNu.out W1 4 3 HBw.out (by have:=HL7.out; omega) (.inl rfl))
        rw [<- HN3.out.1] at HN4
        go_wp2_with fail
        all_goals
         rw [<- hW1]
         clear hW1 p0 p1 p2 p3 p4 q0 q1 q2 q3 q4 z0 z1 z2 z3 z4 y0 y1 y2 y3 y4
         refine HN4.out.mono ?_
         rintro e w' ⟨rfl,rfl⟩
         obtain ⟨⟨p0,p1,p2,p3,p4⟩,q0,q1,q2,q3,q4⟩:=cell5 HSw.out.kh
         obtain ⟨⟨z0,z1,z2,z3,z4⟩,y0,y1,y2,y3,y4⟩:=cell5 HSw.out.kr
         go_wp2_with fail
         refine (b1c a n2 n3 _).mono ?_
         rintro e w' ⟨rfl,rfl⟩
         have HS2:=Lib.hid (HSw.out.set2 n3)
         by_cases hc0 : a0u a n2 n3 = 0
         · rw [if_neg (λ h=>h hc0)] at HE1
           rw [hc0]
           by_cases hrm : room < n2
           · have HE:=Lib.hid (show scanM f lg first room = (7,headZ) from by rw [HE1.out,if_pos hrm])
             have hrmd:=decide_eq_true hrm
             clear HE1 hc0
             go_wp2_with fail
             refine bodyPost_ret (a0F (fn:=Tryz.f35) (p:=8) (u:=9) (ty:=42) rfl _ _ _ _ rfl (a1q (a1a HS2.out.kr _ _ _ _ _))) rfl ?_
             rw [HE.out]
             exact ⟨by rw [a0X]; rfl,by show Below w.heap.size w _; rw [<- HWr.out]; exact a1r HS2.out.on (Nat.le_refl _) _ _ _ _ _⟩
           · rw [if_neg hrm] at HE1
             have hrmd:=decide_eq_false hrm
             by_cases hL11 : f.length < 11
             · have HE:=Lib.hid (show scanM f lg first room = (3,headZ) from by rw [HE1.out,if_pos hL11])
               have hL11I : (f.length : Int) < 11:=by omega
               clear HE1 hc0 hL11
               go_wp2_with fail
               refine bodyPost_ret (a0F (fn:=Tryz.f35) (p:=8) (u:=9) (ty:=42) rfl _ _ _ _ rfl (a1q (a1a HS2.out.kr _ _ _ _ _))) rfl ?_
               rw [HE.out]
               exact ⟨by rw [a0X]; rfl,by show Below w.heap.size w _; rw [<- HWr.out]; exact a1r HS2.out.on (Nat.le_refl _) _ _ _ _ _⟩
             · have HE:=Lib.hid (show scanM f lg first room = (0,a,n2,n3,true,n4) from by rw [HE1.out,if_neg hL11])
               have hL11I : ¬ (f.length : Int) < 11:=by omega
               have HN7:=HNu.out _ 7 4 (HBw.out.setCell (p:=⟨W0.heap.size,2,none⟩) (Nat.le_refl _) (.int .i64 n3)) (by omega) (.inr rfl)
               rw [<- HN3.out.2] at HN7
               have HN7h:=Lib.hid HN7
               have hw4 : IntKind.u32.wrap (n4 : Int) = (n4 : Int):=by rw [IntKind.wrap_u32']; omega
               clear HE1 hc0 hL11 HN7
               go_wp2_with fail
               refine HN7h.out.mono ?_
               rintro e w' ⟨rfl,rfl⟩
               go_wp2_with fail
               refine bodyPost_ret (a0F (fn:=Tryz.f35) (p:=8) (u:=9) (ty:=42) rfl _ _ _ _ rfl (a1q (a1a (a1i HS2.out.kr (p:=⟨W0.heap.size,4,none⟩) hrh _) _ _ _ _ _))) rfl ?_
               rw [HE.out]
               exact ⟨rfl,by show Below w.heap.size w _; rw [<- HWr.out]; exact a1r (HS2.out.on.setCell (p:=⟨W0.heap.size,4,none⟩) (Nat.le_of_lt HS2.out.lt) _) (Nat.le_refl _) _ _ _ _ _⟩
         · have HE:=Lib.hid (show scanM f lg first room = (a0u a n2 n3,headZ) from by rw [HE1.out,if_pos hc0])
           obtain ⟨ck,hck⟩ : ∃ z,z = a0u a n2 n3:=⟨_,rfl⟩
           rw [<- hck] at HE hc0 ⊢
           have hc2 : (ck != 0) = true:=by simpa using hc0
           clear HE1 hc0 hck
           go_wp2_with fail
           refine bodyPost_ret (a0F (fn:=Tryz.f35) (p:=8) (u:=9) (ty:=42) rfl _ _ _ _ rfl (a1q (a1a HS2.out.kr _ _ _ _ _))) rfl ?_
           rw [HE.out]
           exact ⟨by rw [a0X]; rfl,by show Below w.heap.size w _; rw [<- HWr.out]; exact a1r HS2.out.on (Nat.le_refl _) _ _ _ _ _⟩
 · have hz' : a1h lg first a n2 lb = false:=by cases h : a1h lg first a n2 lb; (· rfl); (· exact absurd h hz)
   have HE:=Lib.hid (show scanM f lg first room = (11,headZ) from by rw [HE1.out,if_pos hz'])
   have hsz:=hz'
   rw [HSz.out] at hsz
   clear HE1 hz hz'
   cases lb with
   | false=>
    rw [if_pos rfl] at hsz
    have hq : ((n2 : Int) != (s : Int)) = true:=by have:=of_decide_eq_false hsz; simp; omega
    clear hsz
    obtain ⟨⟨p0,p1,p2,p3,p4⟩,q0,q1,q2,q3,q4⟩:=cell5 HS1.out.kh
    obtain ⟨⟨z0,z1,z2,z3,z4⟩,y0,y1,y2,y3,y4⟩:=cell5 HS1.out.kr
    go_wp2_with fail
    all_goals
     refine bodyPost_ret (a0F (fn:=Tryz.f35) (p:=8) (u:=9) (ty:=42) rfl _ _ _ _ rfl (a1q (a1a HS1.out.kr _ _ _ _ _))) rfl ?_
     rw [HE.out]
     exact ⟨by rw [a0X]; rfl,by show Below w.heap.size w _; rw [<- HWr.out]; exact a1r HS1.out.on (Nat.le_refl _) _ _ _ _ _⟩
   | true=>
    rw [if_neg (by decide)] at hsz
    by_cases hn0 : n2 = 0
    · rw [if_pos hn0] at hsz
      have hq2 : ((n2 : Int) == 0) = true:=by rw [hn0]; rfl
      have hq1 : n2 <= s:=by omega
      clear hn0
      cases first with
      | false=>
       clear hsz
       obtain ⟨⟨p0,p1,p2,p3,p4⟩,q0,q1,q2,q3,q4⟩:=cell5 HS1.out.kh
       obtain ⟨⟨z0,z1,z2,z3,z4⟩,y0,y1,y2,y3,y4⟩:=cell5 HS1.out.kr
       go_wp2_with fail
       all_goals
        refine bodyPost_ret (a0F (fn:=Tryz.f35) (p:=8) (u:=9) (ty:=42) rfl _ _ _ _ rfl (a1q (a1a HS1.out.kr _ _ _ _ _))) rfl ?_
        rw [HE.out]
        exact ⟨by rw [a0X]; rfl,by show Below w.heap.size w _; rw [<- HWr.out]; exact a1r HS1.out.on (Nat.le_refl _) _ _ _ _ _⟩
      | true=>
       have hq3 : ((a : Int) == 0) = false:=by
        rw [Bool.true_and] at hsz
        have:=of_decide_eq_false hsz; simp; omega
       clear hsz
       obtain ⟨⟨p0,p1,p2,p3,p4⟩,q0,q1,q2,q3,q4⟩:=cell5 HS1.out.kh
       obtain ⟨⟨z0,z1,z2,z3,z4⟩,y0,y1,y2,y3,y4⟩:=cell5 HS1.out.kr
       go_wp2_with fail
       all_goals
        refine bodyPost_ret (a0F (fn:=Tryz.f35) (p:=8) (u:=9) (ty:=42) rfl _ _ _ _ rfl (a1q (a1a HS1.out.kr _ _ _ _ _))) rfl ?_
        rw [HE.out]
        exact ⟨by rw [a0X]; rfl,by show Below w.heap.size w _; rw [<- HWr.out]; exact a1r HS1.out.on (Nat.le_refl _) _ _ _ _ _⟩
    · rw [if_neg hn0] at hsz
      have hq1 : s < n2:=by have:=of_decide_eq_false hsz; omega
      clear hsz hn0
      obtain ⟨⟨p0,p1,p2,p3,p4⟩,q0,q1,q2,q3,q4⟩:=cell5 HS1.out.kh
      obtain ⟨⟨z0,z1,z2,z3,z4⟩,y0,y1,y2,y3,y4⟩:=cell5 HS1.out.kr
      go_wp2_with fail
      all_goals
       refine bodyPost_ret (a0F (fn:=Tryz.f35) (p:=8) (u:=9) (ty:=42) rfl _ _ _ _ rfl (a1q (a1a HS1.out.kr _ _ _ _ _))) rfl ?_
       rw [HE.out]
       exact ⟨by rw [a0X]; rfl,by show Below w.heap.size w _; rw [<- HWr.out]; exact a1r HS1.out.on (Nat.le_refl _) _ _ _ _ _⟩
def a3E (kd N Len : Nat) (x : Int) : Bool:=!(decide (2 <= kd) && (decide (60 < N) || decide (100 < Len) || decide (9 < x)))
def a2W : Nat -> List Int -> Int -> Bool -> Int -> Nat -> Bool
 | 0,_,_,_,_,_=>true
 | n + 1,f,log,first,limit,sum=>
  if (scanM f log first (limit - sum)).1 ≠ 0 \/ f.length < 11 + (scanM f log first (limit - sum)).2.2.2.1 then true else
  if a3E (scanM f log first (limit - sum)).2.1 (scanM f log first (limit - sum)).2.2.1 (scanM f log first (limit - sum)).2.2.2.1 (f.getD 11 0) = false then false else
  if (scanM f log first (limit - sum)).2.2.2.2.1 = true then true else
  a2W n (f.drop (11 + (scanM f log first (limit - sum)).2.2.2.1)) log false limit (sum + (scanM f log first (limit - sum)).2.2.1)
def a2z (f : List Int) (limit : Int) : Bool:=if headM f ≠ 0 \/ limit < 0 then true else a2W (f.length + 1) (f.drop 8) (f.getD 5 0) true limit 0
theorem b7O {n : Nat} {f : List Int} {log : Int} {first : Bool} {limit : Int} {sum : Nat} {k : Int} {h : HeadT} (hs : scanM f log first (limit - sum) = (k,h)) (h1 : k ≠ 0 \/ f.length < 11 + h.2.2.1) : a2W (n + 1) f log first limit sum = true:=by
 unfold a2W; rw [hs]; exact if_pos h1
theorem d0d {n : Nat} {f : List Int} {log : Int} {first : Bool} {limit : Int} {sum : Nat} {h : HeadT} (hs : scanM f log first (limit - sum) = (0,h)) (h1 : ¬ f.length < 11 + h.2.2.1) (h2 : a3E h.1 h.2.1 h.2.2.1 (f.getD 11 0) = false) : a2W (n + 1) f log first limit sum = false:=by
 unfold a2W; rw [hs]
 rw [if_neg (by rintro (h | h); exact h rfl; exact h1 h)]
 exact if_pos h2
theorem d0e {n : Nat} {f : List Int} {log : Int} {first : Bool} {limit : Int} {sum : Nat} {h : HeadT} (hs : scanM f log first (limit - sum) = (0,h)) (h1 : ¬ f.length < 11 + h.2.2.1) (h2 : a3E h.1 h.2.1 h.2.2.1 (f.getD 11 0) = true) : a2W (n + 1) f log first limit sum = if h.2.2.2.1 = true then true else a2W n (f.drop (11 + h.2.2.1)) log false limit (sum + h.2.1):=by
 conv=>lhs; unfold a2W
 rw [hs]
 rw [if_neg (by rintro (h | h); exact h rfl; exact h1 h)]
 rw [if_neg (by rw [h2]; decide)]
theorem b1d {kd N Len : Nat} (h : a0u (kd : Nat) N Len = 0) (h2 : 2 <= kd) : 1 <= Len:=by
 have hm:=(b0Z h).2.2.2.2
 unfold mayB at hm
 rw [if_neg (by omega),if_neg (by omega)] at hm
 have:=of_decide_eq_true hm
 omega
theorem d0f (kd N Len : Nat) (x : Int) :
    (kd < 2 /\ a3E kd N Len x = true) \/ (2 <= kd /\ 60 < N /\ a3E kd N Len x = false) \/ (2 <= kd /\ ¬ 60 < N /\ 100 < Len /\ a3E kd N Len x = false) \/ (2 <= kd /\ ¬ 60 < N /\ ¬ 100 < Len /\ 9 < x /\ a3E kd N Len x = false) \/ (2 <= kd /\ ¬ 60 < N /\ ¬ 100 < Len /\ ¬ 9 < x /\ a3E kd N Len x = true):=by
 unfold a3E
 by_cases h1 : 2 <= kd
 · by_cases h2 : 60 < N
   · exact .inr (.inl ⟨h1,h2,by simp [h1,h2]⟩)
   · by_cases h3 : 100 < Len
     · exact .inr (.inr (.inl ⟨h1,h2,h3,by simp [h1,h2,h3]⟩))
     · by_cases h4 : 9 < x
       · exact .inr (.inr (.inr (.inl ⟨h1,h2,h3,h4,by simp [h1,h2,h3,h4]⟩)))
       · exact .inr (.inr (.inr (.inr ⟨h1,h2,h3,h4,by simp [h1,h2,h3,h4]⟩)))
 · exact .inl ⟨by omega,by simp [h1]⟩
set_option maxRecDepth 100000 in
set_option maxHeartbeats 4000000 in
theorem b7P (A : Option Addr) (c : Nat) (f : List Int) (limit : Int) (w : World) (hf : BSl w A c f) (hl : f.length <= 140737488355328) (hL : limit < 4611686018427387904) :
    Calls Tryz.prog 44 #[.slice A f.length c,.int .i64 limit] w (λ e w'=>e = .returned (.bool (a2z f limit)) /\ Below w.heap.size w w'):=by
 have HHd:=Lib.hid (c9u A c f w hf hl)
 by_cases hh : headM f = 0
 · have h8:=b1b hh
   obtain ⟨hlg,-,-⟩:=b1a hh hf.by'
   obtain ⟨lg,hlg0⟩ : ∃ l,l = a1F f:=⟨_,rfl⟩
   rw [hh,<- hlg0] at HHd
   by_cases hn : limit < 0
   · have HS : Hid (a2z f limit = true):=Lib.hid (by unfold a2z; rw [if_pos (.inr hn)])
     clear hf hh hlg hlg0 h8
     go_enter Tryz.func44,Tryz.ntmps44
     go_wp2_with fail
     refine HHd.out.mono ?_
     rintro e w1 ⟨rfl,hb1⟩
     have HB1:=Lib.hid hb1
     clear hb1
     go_wp2_with fail
     go_ret
     rw [HS.out]
     exact ⟨rfl,HB1.out⟩
   · have HS : Hid (a2z f limit = a2W (f.length + 1) (f.drop 8) lg true limit 0):=Lib.hid (by
       unfold a2z
       rw [if_neg (by rintro (h | h); exact h hh; exact hn h),hlg0,hlg])
     have hnI : ¬ limit < 0:=hn
     obtain ⟨S,hS⟩ : ∃ S,S = a2z f limit:=⟨_,rfl⟩
     rw [<- hS] at HS ⊢
     have HF:=Lib.hid hf
     obtain ⟨n0,hn0⟩ : ∃ n,n = f.length:=⟨_,rfl⟩
     have HN0:=Lib.hid hn0
     rw [<- hn0] at HHd hl h8 ⊢
     have HN8:=Lib.hid h8
     clear hf hh hlg hlg0 hS hn h8 hn0
     go_enter Tryz.func44,Tryz.ntmps44
     go_wp2_with fail
     refine HHd.out.mono ?_
     rintro e w1 ⟨rfl,hb1⟩
     have HB1:=Lib.hid hb1
     clear hb1
     go_wp2_with fail
     go_loopw [7,8,9,10,11] (λ sv av bv _ _ wr=>∃ (n at' sum : Nat) (fb : Bool),sv = .int .i64 sum /\ av = .int .i64 at' /\ bv = .bool fb /\ at' <= n0 /\ Hid (a2W n (f.drop at') lg fb limit sum = S /\ n0 - at' < n /\ Below w.heap.size w wr /\ (sum : Int) <= limit)) (λ _ av _ _ _ _=>n0 - (intOf av).toNat)
     case atStart=>exact ⟨n0 + 1,8,0,true,rfl,rfl,rfl,HN8.out,Lib.hid ⟨by rw [HN0.out]; exact HS.out.symm,by omega,HB1.out,by show (0 : Int) <= limit; omega⟩⟩
     case round=>
      obtain ⟨n,at',sum,fb,rfl,rfl,rfl,hat,H⟩:=hrel
      obtain ⟨n,rfl⟩ : ∃ m,n = m + 1:=⟨n - 1,by have:=H.out.2.1; omega⟩
      have hw1 : IntKind.i64.wrap (limit - (sum : Int)) = limit - (sum : Int):=i64_in _ (by have:=H.out.2.2.2; omega)
      have hfw:=HF.out.below H.out.2.2.1
      have hsf:=a2R A f.length c at' (by have:=HN0.out; omega)
      have hdr:=hfw.from_ (k:=at') (by have:=HN0.out; omega)
      obtain ⟨Ad,hAd⟩ : ∃ Ad,Ad = (if c = at' then A else A.map (·.add (at' * 1))):=⟨_,rfl⟩
      rw [<- hAd] at hdr hsf
      have hdl : (f.drop at').length = n0 - at':=by rw [List.length_drop,<- HN0.out]
      rw [<- HN0.out,<- hdl] at hsf
      have hIn : (at' : Int) <= (n0 : Int):=by omega
      have hIc : (at' : Int) <= (c : Int):=by have:=hfw.cap; have:=HN0.out; omega
      have h11 : (f.drop at').getD 11 0 = f.getD (at' + 11) 0:=by rw [List.getD_eq_getElem?_getD,List.getElem?_drop,<- List.getD_eq_getElem?_getD]
      obtain ⟨r,hr⟩ : ∃ r,r = f.drop at':=⟨_,rfl⟩
      rw [<- hr] at hdr hsf hdl H h11
      have hHr:=Lib.hid hr
      have HSc:=Lib.hid (d0c Ad (c - at') r lg fb (limit - (sum : Int)) wr hdr.row hdr.by' (by omega))
      have hB:=λ h=>a5s hdr.by' (log:=lg) (room:=limit - (sum : Int)) (first:=fb) h
      obtain ⟨k,kd,N,Len,lb,sm,hSc⟩ : ∃ k kd N Len lb sm,scanM r lg fb (limit - (sum : Int)) = (k,kd,N,Len,lb,sm):=⟨_,_,_,_,_,_,rfl⟩
      have HScM:=Lib.hid hSc
      rw [hSc] at HSc hB
      dsimp only at hB
      unfold a6g headC at HSc
      dsimp only at HSc
      have HDl:=Lib.hid hdl
      have HDr:=Lib.hid hdr
      clear hSc hr hAd hdr
      by_cases hk : k = 0
      · subst hk
        obtain ⟨b11,bkd,bN,bLen,bsm,bck,brm⟩:=hB rfl
        have HBd:=Lib.hid (And.intro b11 (And.intro bN (And.intro bLen (And.intro brm (And.intro bck bkd)))))
        obtain ⟨z,hz⟩ : ∃ z,z = at' + 11:=⟨_,rfl⟩
        obtain ⟨v,hv⟩ : ∃ v,v = z + Len:=⟨_,rfl⟩
        have hw2 : IntKind.i64.wrap ((at' : Int) + 11) = (z : Int):=by rw [i64_in _ (by omega)]; omega
        have hw3 : IntKind.i64.wrap ((z : Int) + (Len : Int)) = (v : Int):=by rw [i64_in _ (by omega)]; omega
        have HZ:=Lib.hid (And.intro hz hv)
        have hw4 : IntKind.i64.wrap ((sum : Int) + (N : Int)) = (sum : Int) + (N : Int):=i64_in _ (by have:=H.out.2.2.2; omega)
        clear hB b11 bkd bN bLen bsm bck brm
        by_cases hL2 : r.length < 11 + Len
        · have hLI : (n0 : Int) < (v : Int):=by omega
          have HSt:=Lib.hid (b7O (n:=n) HScM.out (.inr hL2))
          clear hL2 hdl hz hv
          go_wp2_with fail
          refine HSc.out.mono ?_
          rintro e w2 ⟨rfl,hb2⟩
          obtain ⟨w3,hw3⟩ : ∃ w3,w3 = w2.alloc (.cells #[.int .i64 kd,.int .i64 N,.int .i64 Len,.bool lb,.int .u32 sm] 42):=⟨_,rfl⟩
          have hk3 : w3.heap[w2.heap.size]? = some (.cells #[.int .i64 kd,.int .i64 N,.int .i64 Len,.bool lb,.int .u32 sm] 42 (0,0)):=by rw [hw3]; exact a0h _ _
          have HB3 : Hid (Below w.heap.size w w3):=Lib.hid (by rw [hw3]; exact (H.out.2.2.1.trans (hb2.mono H.out.2.2.1.size)).alloc (Nat.le_trans H.out.2.2.1.size hb2.size) _)
          obtain ⟨g,hg⟩ : ∃ h,h = w2.heap.size:=⟨_,rfl⟩
          rw [<- hg] at hk3
          obtain ⟨⟨c0,c1,c2,c3,c4⟩,-⟩:=cell5 hk3
          clear hb2 hk3
          go_wp2_with fail
          rw [<- hw3,<- hg]
          clear hw3 hg
          go_wp2_with fail
          go_ret
          rw [<- H.out.1,HSt.out]
          exact ⟨rfl,HB3.out⟩
        · skip
          have hLI : ¬ (n0 : Int) < (v : Int):=by omega
          have HL2:=Lib.hid hL2
          have hcs:=d0f kd N Len (r.getD 11 0)
          have hx11 : 2 <= kd -> ∃ ad,A = some ad /\ wr.cell? (ad.add (at' + 11)) = some (.int .u8 (f.getD (at' + 11) 0)):=λ h2=>by
           have h1:=b1d HBd.out.2.2.2.2.1 h2
           obtain ⟨ad,hA,hcx⟩:=a0x hfw.row (at' + 11) (by have:=HN0.out; omega)
           exact ⟨ad,hA,hcx⟩
          have HX11:=Lib.hid hx11
          rw [h11] at hcs
          have HGo:=Lib.hid (λ h2=>d0e (n:=n) HScM.out hL2 h2)
          have HNo:=Lib.hid (λ h2=>d0d (n:=n) HScM.out hL2 h2)
          rw [h11] at HGo HNo
          have HRd : Hid (r.drop (11 + Len) = f.drop (at' + 11 + Len)):=Lib.hid (by rw [hHr.out,List.drop_drop]; congr 1; omega)
          clear hL2 hdl hx11 hfw h11 hz hv
          rcases hcs with ⟨h2,hbl⟩ | ⟨h2,h3,hbl⟩ | ⟨h2,h3,h4,hbl⟩ | ⟨h2,h3,h4,h5,hbl⟩ | ⟨h2,h3,h4,h5,hbl⟩
          · have q2 : decide ((2 : Int) <= (kd : Int)) = false:=decide_eq_false (by omega)
            clear h2
            go_wp2_with fail
            refine HSc.out.mono ?_
            rintro e w2 ⟨rfl,hb2⟩
            obtain ⟨w3,hw3⟩ : ∃ w3,w3 = w2.alloc (.cells #[.int .i64 kd,.int .i64 N,.int .i64 Len,.bool lb,.int .u32 sm] 42):=⟨_,rfl⟩
            have hk3 : w3.heap[w2.heap.size]? = some (.cells #[.int .i64 kd,.int .i64 N,.int .i64 Len,.bool lb,.int .u32 sm] 42 (0,0)):=by rw [hw3]; exact a0h _ _
            have hb3 : Below wr.heap.size wr w3:=by rw [hw3]; exact hb2.alloc hb2.size _
            have HB3 : Hid (Below w.heap.size w w3):=Lib.hid (H.out.2.2.1.trans (hb3.mono H.out.2.2.1.size))
            skip
            obtain ⟨g,hg⟩ : ∃ h,h = w2.heap.size:=⟨_,rfl⟩
            rw [<- hg] at hk3
            obtain ⟨⟨c0,c1,c2,c3,c4⟩,-⟩:=cell5 hk3
            clear hb2 hb3 hk3
            cases lb with
            | true=>
             go_wp2_with fail
             rw [<- hw3,<- hg]
             clear hw3 hg
             go_wp2_with fail
             go_ret
             rw [<- H.out.1,HGo.out hbl]
             exact ⟨rfl,HB3.out⟩
            | false=>
             go_wp2_with fail
             rw [<- hw3]
             clear hw3 hg
             go_roundw
             case rel=>exact ⟨n,v,sum + N,false,by go_num,by go_num,rfl,by have:=HZ.out; have:=HL2.out; have:=HDl.out; omega,Lib.hid ⟨by have h1:=H.out.1; rw [HGo.out hbl] at h1; rw [HZ.out.2,HZ.out.1,<- HRd.out]; simpa using h1,by have:=H.out.2.1; have:=HZ.out; have:=HL2.out; have:=HDl.out; omega,HB3.out,by have:=HBd.out; push_cast; omega⟩⟩
             case measure=>have:=HZ.out; have:=HL2.out; have:=HDl.out; simp [intOf]; omega
          · have q2 : decide ((2 : Int) <= (kd : Int)) = true:=decide_eq_true (by omega)
            have q3 : decide ((60 : Int) < (N : Int)) = true:=decide_eq_true (by omega)
            clear h2 h3
            go_wp2_with fail
            refine HSc.out.mono ?_
            rintro e w2 ⟨rfl,hb2⟩
            obtain ⟨w3,hw3⟩ : ∃ w3,w3 = w2.alloc (.cells #[.int .i64 kd,.int .i64 N,.int .i64 Len,.bool lb,.int .u32 sm] 42):=⟨_,rfl⟩
            have hk3 : w3.heap[w2.heap.size]? = some (.cells #[.int .i64 kd,.int .i64 N,.int .i64 Len,.bool lb,.int .u32 sm] 42 (0,0)):=by rw [hw3]; exact a0h _ _
            have hb3 : Below wr.heap.size wr w3:=by rw [hw3]; exact hb2.alloc hb2.size _
            have HB3 : Hid (Below w.heap.size w w3):=Lib.hid (H.out.2.2.1.trans (hb3.mono H.out.2.2.1.size))
            skip
            obtain ⟨g,hg⟩ : ∃ h,h = w2.heap.size:=⟨_,rfl⟩
            rw [<- hg] at hk3
            obtain ⟨⟨c0,c1,c2,c3,c4⟩,-⟩:=cell5 hk3
            clear hb2 hb3 hk3
            go_wp2_with fail
            rw [<- hw3,<- hg]
            clear hw3 hg
            go_wp2_with fail
            go_ret
            rw [<- H.out.1,HNo.out hbl]
            exact ⟨rfl,HB3.out⟩
          · have q2 : decide ((2 : Int) <= (kd : Int)) = true:=decide_eq_true (by omega)
            have q3 : decide ((60 : Int) < (N : Int)) = false:=decide_eq_false (by omega)
            have q4 : decide ((100 : Int) < (Len : Int)) = true:=decide_eq_true (by omega)
            clear h2 h3 h4
            go_wp2_with fail
            refine HSc.out.mono ?_
            rintro e w2 ⟨rfl,hb2⟩
            obtain ⟨w3,hw3⟩ : ∃ w3,w3 = w2.alloc (.cells #[.int .i64 kd,.int .i64 N,.int .i64 Len,.bool lb,.int .u32 sm] 42):=⟨_,rfl⟩
            have hk3 : w3.heap[w2.heap.size]? = some (.cells #[.int .i64 kd,.int .i64 N,.int .i64 Len,.bool lb,.int .u32 sm] 42 (0,0)):=by rw [hw3]; exact a0h _ _
            have hb3 : Below wr.heap.size wr w3:=by rw [hw3]; exact hb2.alloc hb2.size _
            have HB3 : Hid (Below w.heap.size w w3):=Lib.hid (H.out.2.2.1.trans (hb3.mono H.out.2.2.1.size))
            skip
            obtain ⟨g,hg⟩ : ∃ h,h = w2.heap.size:=⟨_,rfl⟩
            rw [<- hg] at hk3
            obtain ⟨⟨c0,c1,c2,c3,c4⟩,-⟩:=cell5 hk3
            clear hb2 hb3 hk3
            go_wp2_with fail
            rw [<- hw3,<- hg]
            clear hw3 hg
            go_wp2_with fail
            go_ret
            rw [<- H.out.1,HNo.out hbl]
            exact ⟨rfl,HB3.out⟩
          · have q2 : decide ((2 : Int) <= (kd : Int)) = true:=decide_eq_true (by omega)
            have q3 : decide ((60 : Int) < (N : Int)) = false:=decide_eq_false (by omega)
            have q4 : decide ((100 : Int) < (Len : Int)) = false:=decide_eq_false (by omega)
            obtain ⟨ad,rfl,hcx⟩:=HX11.out h2
            rw [<- HZ.out.1] at hcx
            have q6 : (z : Int) < (n0 : Int):=by have:=HZ.out; have:=b1d HBd.out.2.2.2.2.1 h2; have:=HL2.out; have:=HDl.out; omega
            rw [<- HZ.out.1] at HGo HNo hbl h5
            obtain ⟨x,hx⟩ : ∃ x,x = f.getD z 0:=⟨_,rfl⟩
            rw [<- hx] at hcx h5 HGo HNo hbl
            have hxb:=HF.out.by'.get z
            rw [<- hx] at hxb
            have q5 : decide ((9 : Int) < x) = true:=decide_eq_true (by omega)
            clear h2 h3 h4 h5 hx
            go_wp2_with fail
            refine HSc.out.mono ?_
            rintro e w2 ⟨rfl,hb2⟩
            obtain ⟨w3,hw3⟩ : ∃ w3,w3 = w2.alloc (.cells #[.int .i64 kd,.int .i64 N,.int .i64 Len,.bool lb,.int .u32 sm] 42):=⟨_,rfl⟩
            have hk3 : w3.heap[w2.heap.size]? = some (.cells #[.int .i64 kd,.int .i64 N,.int .i64 Len,.bool lb,.int .u32 sm] 42 (0,0)):=by rw [hw3]; exact a0h _ _
            have hb3 : Below wr.heap.size wr w3:=by rw [hw3]; exact hb2.alloc hb2.size _
            have HB3 : Hid (Below w.heap.size w w3):=Lib.hid (H.out.2.2.1.trans (hb3.mono H.out.2.2.1.size))
            have hx3 : (w2.alloc (.cells #[.int .i64 kd,.int .i64 N,.int .i64 Len,.bool lb,.int .u32 sm] 42)).cell? (ad.add z) = some (.int .u8 x):=by rw [<- hw3]; exact a0q hb3 hcx
            obtain ⟨g,hg⟩ : ∃ h,h = w2.heap.size:=⟨_,rfl⟩
            rw [<- hg] at hk3
            obtain ⟨⟨c0,c1,c2,c3,c4⟩,-⟩:=cell5 hk3
            clear hb2 hb3 hk3
            go_wp2_with fail
            rw [<- hw3,<- hg]
            clear hw3 hg
            go_wp2_with fail
            go_ret
            rw [<- H.out.1,HNo.out hbl]
            exact ⟨rfl,HB3.out⟩
          · have q2 : decide ((2 : Int) <= (kd : Int)) = true:=decide_eq_true (by omega)
            have q3 : decide ((60 : Int) < (N : Int)) = false:=decide_eq_false (by omega)
            have q4 : decide ((100 : Int) < (Len : Int)) = false:=decide_eq_false (by omega)
            obtain ⟨ad,rfl,hcx⟩:=HX11.out h2
            rw [<- HZ.out.1] at hcx
            have q6 : (z : Int) < (n0 : Int):=by have:=HZ.out; have:=b1d HBd.out.2.2.2.2.1 h2; have:=HL2.out; have:=HDl.out; omega
            rw [<- HZ.out.1] at HGo HNo hbl h5
            obtain ⟨x,hx⟩ : ∃ x,x = f.getD z 0:=⟨_,rfl⟩
            rw [<- hx] at hcx h5 HGo HNo hbl
            have hxb:=HF.out.by'.get z
            rw [<- hx] at hxb
            have q5 : decide ((9 : Int) < x) = false:=decide_eq_false (by omega)
            clear h2 h3 h4 h5 hx
            go_wp2_with fail
            refine HSc.out.mono ?_
            rintro e w2 ⟨rfl,hb2⟩
            obtain ⟨w3,hw3⟩ : ∃ w3,w3 = w2.alloc (.cells #[.int .i64 kd,.int .i64 N,.int .i64 Len,.bool lb,.int .u32 sm] 42):=⟨_,rfl⟩
            have hk3 : w3.heap[w2.heap.size]? = some (.cells #[.int .i64 kd,.int .i64 N,.int .i64 Len,.bool lb,.int .u32 sm] 42 (0,0)):=by rw [hw3]; exact a0h _ _
            have hb3 : Below wr.heap.size wr w3:=by rw [hw3]; exact hb2.alloc hb2.size _
            have HB3 : Hid (Below w.heap.size w w3):=Lib.hid (H.out.2.2.1.trans (hb3.mono H.out.2.2.1.size))
            have hx3 : (w2.alloc (.cells #[.int .i64 kd,.int .i64 N,.int .i64 Len,.bool lb,.int .u32 sm] 42)).cell? (ad.add z) = some (.int .u8 x):=by rw [<- hw3]; exact a0q hb3 hcx
            obtain ⟨g,hg⟩ : ∃ h,h = w2.heap.size:=⟨_,rfl⟩
            rw [<- hg] at hk3
            obtain ⟨⟨c0,c1,c2,c3,c4⟩,-⟩:=cell5 hk3
            clear hb2 hb3 hk3
            cases lb with
            | true=>
             go_wp2_with fail
             rw [<- hw3,<- hg]
             clear hw3 hg
             go_wp2_with fail
             go_ret
             rw [<- H.out.1,HGo.out hbl]
             exact ⟨rfl,HB3.out⟩
            | false=>
             go_wp2_with fail
             rw [<- hw3]
             clear hw3 hg
             go_roundw
             case rel=>exact ⟨n,v,sum + N,false,by go_num,by go_num,rfl,by have:=HZ.out; have:=HL2.out; have:=HDl.out; omega,Lib.hid ⟨by have h1:=H.out.1; rw [HGo.out hbl] at h1; rw [HZ.out.2,HZ.out.1,<- HRd.out]; simpa using h1,by have:=H.out.2.1; have:=HZ.out; have:=HL2.out; have:=HDl.out; omega,HB3.out,by have:=HBd.out; push_cast; omega⟩⟩
             case measure=>have:=HZ.out; have:=HL2.out; have:=HDl.out; simp [intOf]; omega
      · have hk2 : (k != 0) = true:=by simpa using hk
        have HSt:=Lib.hid (b7O (n:=n) HScM.out (.inl hk))
        clear hB hk hdl
        go_wp2_with fail
        refine HSc.out.mono ?_
        rintro e w2 ⟨rfl,hb2⟩
        have HB2:=Lib.hid (H.out.2.2.1.trans (hb2.mono H.out.2.2.1.size))
        clear hb2
        go_wp2_with fail
        go_ret
        rw [<- H.out.1,HSt.out]
        exact ⟨rfl,HB2.out.alloc HB2.out.size _⟩
 · have hk2 : (headM f != 0) = true:=by simpa using hh
   have HS : Hid (a2z f limit = true):=Lib.hid (by unfold a2z; rw [if_pos (.inl hh)])
   obtain ⟨k,hk⟩ : ∃ k,k = headM f:=⟨_,rfl⟩
   rw [<- hk] at HHd hk2
   obtain ⟨lg,hlg⟩ : ∃ k,k = a1F f:=⟨_,rfl⟩
   rw [<- hlg] at HHd
   clear hf hh hk hlg
   go_enter Tryz.func44,Tryz.ntmps44
   go_wp2_with fail
   refine HHd.out.mono ?_
   rintro e w1 ⟨rfl,hb1⟩
   have HB1:=Lib.hid hb1
   clear hb1
   go_wp2_with fail
   go_ret
   rw [HS.out]
   exact ⟨rfl,HB1.out⟩
end Go.Proofs.YtflfjpkmjnnodaaGreat
namespace Go.Proofs.YtflfjpkmjnnodaaGreat
open Go.RowKit Go.IntWalk Go.Proofs.YtflfjpkmjnnodaaGreatW.PrintWords
attribute [local go_sem] Oper.semAt_some
def a3W : Code := ((Code.region 3 #[{ dst := some 7, op := Op.assign (Operand.tmp 12), type := 22, pos := "frame.go:133", after := #[], guard := none }] false).seq (Code.region 4 #[{ dst := some 8, op := Op.assign (Operand.tmp 13), type := 27, pos := "frame.go:133", after := #[], guard := none }] false))
def a3X : Code := (Code.block 1 ((Code.region 5 #[{ dst := some 14, op := Op.move (Operand.tmp 8), type := 27, pos := "frame.go:134", after := #[], guard := none }] false).seq (Code.block 2 ((Code.region 7 #[{ dst := some 18, op := Op.binOp BinOp.eql 27 (Operand.tmp 14) (Operand.const (Value.int IntKind.i64 0)) 27, type := 4, pos := "frame.go:135", after := #[], guard := none }, { dst := some 17, op := Op.assign (Operand.tmp 18), type := 4, pos := "frame.go:135", after := #[{ on := 0, ground := Ground.data }], guard := none }] false).seq (Code.cond (Operand.tmp 17) (Code.region 8 #[{ dst := some 19, op := Op.load 22 (Operand.tmp 6), type := 22, pos := "frame.go:136", after := #[], guard := none }, { dst := some 20, op := Op.move (Operand.tmp 7), type := 22, pos := "frame.go:136", after := #[], guard := none }, { dst := some 21, op := Op.call { callee := Callee.builtin Builtin.append, args := #[Operand.tmp 19, Operand.tmp 20], argTypes := #[22, 22] }, type := 22, pos := "frame.go:136", after := #[{ on := 0, ground := Ground.data }, { on := 1, ground := Ground.data }], guard := none }, { dst := none, op := Op.store 22 (Operand.tmp 6) (Operand.tmp 21), type := 0, pos := "frame.go:136", after := #[{ on := 2, ground := Ground.data }, { on := 2, ground := Ground.chain }, { on := 0, ground := Ground.phase }, { on := 1, ground := Ground.phase }, { on := 2, ground := Ground.phase }], guard := none }] false) ((Code.region 9 #[{ dst := some 23, op := Op.binOp BinOp.eql 27 (Operand.tmp 14) (Operand.const (Value.int IntKind.i64 16)) 27, type := 4, pos := "frame.go:137", after := #[], guard := none }, { dst := some 22, op := Op.assign (Operand.tmp 23), type := 4, pos := "frame.go:137", after := #[{ on := 0, ground := Ground.data }], guard := none }] false).seq (Code.cond (Operand.tmp 22) ((Code.region 10 #[{ dst := some 24, op := Op.load 22 (Operand.tmp 6), type := 22, pos := "frame.go:138", after := #[], guard := none }, { dst := some 25, op := Op.move (Operand.tmp 7), type := 22, pos := "frame.go:138", after := #[], guard := none }, { dst := some 26, op := Op.load 22 (Operand.tmp 6), type := 22, pos := "frame.go:138", after := #[], guard := none }, { dst := some 27, op := Op.call { callee := Callee.value (Operand.func 96), args := #[Operand.tmp 25, Operand.tmp 26], argTypes := #[22, 22] }, type := 27, pos := "frame.go:138", after := #[{ on := 1, ground := Ground.data }, { on := 2, ground := Ground.data }], guard := none }, { dst := none, op := Op.store 22 (Operand.tmp 4) (Operand.tmp 24), type := 0, pos := "frame.go:138", after := #[{ on := 0, ground := Ground.data }, { on := 3, ground := Ground.chain }, { on := 0, ground := Ground.phase }, { on := 1, ground := Ground.textOnly Departure.lateStores }, { on := 2, ground := Ground.textOnly Departure.inlinedCapture }, { on := 3, ground := Ground.textOnly Departure.lateStoresUnsure }], guard := none }, { dst := none, op := Op.store 27 (Operand.tmp 5) (Operand.tmp 27), type := 0, pos := "frame.go:138", after := #[{ on := 3, ground := Ground.data }, { on := 4, ground := Ground.chain }, { on := 0, ground := Ground.phase }, { on := 1, ground := Ground.phase }, { on := 2, ground := Ground.phase }, { on := 3, ground := Ground.phase }, { on := 4, ground := Ground.phase }], guard := none }] true).seq Code.ret) ((Code.region 6 #[{ dst := some 15, op := Op.load 22 (Operand.tmp 6), type := 22, pos := "frame.go:140", after := #[], guard := none }, { dst := some 16, op := Op.move (Operand.tmp 8), type := 27, pos := "frame.go:140", after := #[{ on := 2, ground := Ground.gcOnly Departure.lateStores }], guard := none }, { dst := none, op := Op.store 22 (Operand.tmp 4) (Operand.tmp 15), type := 0, pos := "frame.go:140", after := #[{ on := 0, ground := Ground.data }, { on := 0, ground := Ground.phase }, { on := 1, ground := Ground.textOnly Departure.lateStores }], guard := none }, { dst := none, op := Op.store 27 (Operand.tmp 5) (Operand.tmp 16), type := 0, pos := "frame.go:140", after := #[{ on := 1, ground := Ground.data }, { on := 2, ground := Ground.chain }, { on := 0, ground := Ground.phase }, { on := 1, ground := Ground.phase }, { on := 2, ground := Ground.phase }], guard := none }] false).seq Code.ret))))))))
set_option maxRecDepth 100000 in
theorem d0g {w0 W : World} {v : Value} {xs ys : List Int} {B : Nat} {A : Option Addr} {n c : Nat} (ty : TypeId) (HO : (Kd.int .u8).R 5 W B (λ _=>True) v xs) (HC : (Kd.int .u8).C W A n ys) (HB : Below B w0 W) (hB : B <= W.heap.size) (hl : xs.length + n <= 140737488355328) :
    ∃ A1 c1 w1,(Builtin.append_ #[22,22] ty #[v,.slice A n c]).run Tryz.prog W = .ok (.slice A1 (xs.length + n) c1) w1 /\ (Kd.int .u8).R 5 w1 B (λ _=>True) (.slice A1 (xs.length + n) c1) (xs ++ ys) /\ Below B w0 w1 /\ W.grownBy w1 v.ownBlock:=by
 have h := app8 (ops := #[{ dst := some 2, op := .call { callee := .builtin .append, args := #[.tmp 0, .tmp 1], argTypes := #[22, 22] }, type := ty, pos := "", after := #[], guard := none }])
  (o := { dst := some 2, op := .call { callee := .builtin .append, args := #[.tmp 0, .tmp 1], argTypes := #[22, 22] }, type := ty, pos := "", after := #[], guard := none }) (rest := [])
  (a:={ tmps:=#[v,.slice A n c,undef],defers:=[] }) (Q:=λ e a w1=>e = .normal /\ ∃ A1 c1,a.tmps[2]? = some (.slice A1 (xs.length + n) c1) /\ (Kd.int .u8).R 5 w1 B (λ _=>True) (.slice A1 (xs.length + n) c1) (xs ++ ys) /\ Below B w0 w1 /\ W.grownBy w1 v.ownBlock)
  (w0:=w0) (W:=W) (s:=.tmp 0) (x:=.tmp 1) (v:=v) rfl rfl rfl rfl (Lib.hid HO) (Lib.hid HC) (Lib.hid HB) hB (Lib.hid hl) (λ A1 c1 w1 h1 h2 h3=>wpList_nil ⟨rfl,A1,c1,rfl,h1,h2,h3⟩)
 simp only [wpList,Region.wanted,if_true] at h
 unfold Oper.wp execOp at h
 simp only [resolve,invoke,builtin,Sem.run_bind,Sem.run_pure,Result.andThen_ok,List.map_toArray,List.map_cons,List.map_nil] at h
 rcases h with h | ⟨_,a',w',h',_⟩
 · rw [show (Act.eval { tmps:=#[v,.slice A n c,undef],defers:=[] } (Operand.tmp 0)) = v from rfl,show (Act.eval { tmps:=#[v,.slice A n c,undef],defers:=[] } (Operand.tmp 1)) = .slice A n c from rfl] at h
   cases hr : (Builtin.append_ #[22,22] ty #[v,.slice A n c]).run Tryz.prog W with
   | ok v' w'=>
    rw [hr] at h
    simp only [Result.andThen_ok,Oper.upon_value] at h
    obtain ⟨_,A1,c1,e,h1,h2,h3⟩:=h
    have : v' = .slice A1 (xs.length + n) c1:=by simpa [Act.put] using e
    subst this
    exact ⟨A1,c1,w',rfl,h1,h2,h3⟩
   | halt s w'=>
    rw [hr] at h
    simp only [Result.andThen] at h
    cases s <;> first | exact h.elim | exact absurd h.1 (by intro e; cases e)
 · cases h'
set_option maxRecDepth 100000 in
theorem d0h {F : Fence} {nF : Nat} {ops : Array Oper} {o : Oper} {rest : List Oper} {a : Act} {Q : Exit -> Act -> World -> Prop} {w0 W : World} {s x : Operand} {v : Value} {xs ys : List Int} {B : Nat} {A : Option Addr} {n c : Nat} (hgd : o.guard = none) (ho : o.op = .call { callee:=.builtin .append,args:=#[s,x],argTypes:=#[22,22] })
    (hs : a.eval s = v) (hx : a.eval x = .slice A n c) (HO : Hid ((Kd.int .u8).R 5 W B (λ _=>True) v xs)) (HC : Hid ((Kd.int .u8).C W A n ys)) (HB : Hid (Below B w0 W)) (hB : B <= W.heap.size) (hl : Hid (xs.length + n <= 140737488355328))
    (h : ∀ A1 c1 w1,(Kd.int .u8).R 5 w1 B (λ _=>True) (.slice A1 (xs.length + n) c1) (xs ++ ys) -> Below B w0 w1 -> W.grownBy w1 v.ownBlock -> wpListIn F nF Tryz.prog ops Q rest (a.put o.dst (.slice A1 (xs.length + n) c1)) w1) :
    wpListIn F nF Tryz.prog ops Q (o :: rest) a W:=by
 refine wpListIn_plain hgd λ K hK=>?_
 obtain ⟨A1,c1,w1,hr,h1,h2,h3⟩:=d0g o.type HO.out HC.out HB.out hB hl.out
 unfold Oper.wpIn
 refine ⟨by simp [Oper.about,ho,resolve,Target.leads,Sem.run_pure],?_⟩
 rw [Oper.semAt_plain F _ _ (by rw [ho]; intro c hc'; cases hc')]
 simp only [execOp,ho,resolve,invoke,builtin,Sem.run_bind,Sem.run_pure,Result.andThen_ok,List.map_toArray,List.map_cons,List.map_nil,hs,hx]
 rw [hr]
 exact hK _ _ (h A1 c1 w1 h1 h2 h3)
def pfRec (fn : FuncId) (tm : Array Value) (D : Nat) (st : LoopState) (pend : Option Code) : Loop:={ state:=st,pending:=pend,fn,tmps:=tm,params:=#[12,13],assign:=a3W,body:=a3X,defers:=D }
def pfTm (A : Option Addr) (n c : Nat) (lim : Int) (rb eb ob : Nat) (v9 v10 f y e : Value) : Array Value:=#[.slice A n c,.int .i64 lim,undef,undef,.pointer (some ⟨rb,0,none⟩),.pointer (some ⟨eb,0,none⟩),.pointer (some ⟨ob,0,none⟩),undef,undef,v9,v10,f,y,e,undef,undef,undef,undef,undef,undef,undef,undef,undef,undef,undef,undef,undef,undef,undef]
structure Lay (s rb eb ob fb lb D l B1 : Nat) : Prop where
 h0 : s <= rb
 h1 : rb < eb
 h2 : eb < ob
 h3 : ob < fb
 h4 : fb < lb
 h5 : lb < D
 h6 : D < l
 h7 : l < B1
structure Pf (fn : FuncId) (tm : Array Value) (s rb eb ob fb lb D l B1 : Nat) (w : World) (r : List Int) (lim : Int) (out : List Int) (W : World) : Prop where
 fc : ∃ Ar cr,W.heap[fb]? = some (.cells #[.slice Ar r.length cr] 22 (0,0)) /\ BSl w Ar cr r
 lc : W.heap[lb]? = some (.cells #[.int .i64 lim] 3 (0,0))
 v : ∃ A c,W.heap[ob]? = some (.cells #[.slice A out.length c] 22 (0,0)) /\ (Kd.int .u8).R 5 W B1 (λ _=>True) (.slice A out.length c) out
 rc : W.heap[rb]? = some (.cells #[.slice none 0 0] 22 (0,0))
 ec : W.heap[eb]? = some (.cells #[.int .i64 0] 27 (0,0))
 lp : W.heap[l]? = some (.loop (pfRec fn tm D .ready none))
 dc : W.heap[D]? = some (.deferred (some []))
 on : Below s w W
 sz : B1 <= W.heap.size
structure PfX (fn : FuncId) (tm : Array Value) (s rb eb D l B1 : Nat) (w : World) (k : Int) (out : List Int) (W : World) : Prop where
 rc : ∃ A c,W.heap[rb]? = some (.cells #[.slice A out.length c] 22 (0,0)) /\ (Kd.int .u8).R 5 W B1 (λ _=>True) (.slice A out.length c) out
 ec : W.heap[eb]? = some (.cells #[.int .i64 k] 27 (0,0))
 lp : W.heap[l]? = some (.loop (pfRec fn tm D .done (some .ret)))
 dc : W.heap[D]? = some (.deferred (some []))
 on : Below s w W
theorem _root_.Go.RowKit.Below.putObj {B : Nat} {a b : World} (h : Below B a b) {l : Nat} (hl : B <= l) (o : Obj) : Below B a (b.putObj l o):=
 ⟨h.os,h.tape,h.output,by simpa using h.size,λ k hk=>(World.putObj_heap_other (by omega)).trans (h.block k hk)⟩
theorem R_put {W : World} {B : Nat} {v : Value} {xs : List Int} (h : (Kd.int .u8).R 5 W B (λ _=>True) v xs) {l : Nat} (hl : l < B) (o : Obj) : (Kd.int .u8).R 5 (W.putObj l o) B (λ _=>True) v xs:=
 a4J (S:=λ k=>k = l) h ⟨rfl,rfl,rfl,by simp,λ k _ hk=>World.putObj_heap_other hk⟩ (λ k hk e=>by omega)
theorem a6k {W : World} {B : Nat} {v : Value} {xs : List Int} (h : (Kd.int .u8).R 5 W B (λ _=>True) v xs) {l : Nat} (hl : l < B) (u : Value) : (Kd.int .u8).R 5 (W.setCell ⟨l,0,none⟩ u) B (λ _=>True) v xs:=
 a4J (S:=λ k=>k = l) h (Only.setCell (S:=λ k=>k = l) (p:=⟨l,0,none⟩) (Only.refl _ W) rfl u) (λ k hk e=>by omega)
theorem a1y {W : World} {l k : Nat} {u : Value} {o : Obj} (h : W.heap[k]? = some o) (hk : k ≠ l) : (W.setCell ⟨l,0,none⟩ u).heap[k]? = some o:=(Below.heap_setCell _ ⟨l,0,none⟩ _ k hk).trans h
theorem b7Q {W : World} {A : Option Addr} {n l : Nat} {xs : List Int} {lo : Loop} (h : (Kd.int .u8).C W A n xs) (hl : W.heap[l]? = some (.loop lo)) (hn : 0 < n) {ad : Addr} (ha : A = some ad) : ad.block ≠ l:=by
 intro e
 obtain ⟨ad',ha',hc⟩:=h.2.2 hn
 rw [ha] at ha'; injection ha' with e2; subst e2
 obtain ⟨c,h1,h2,h3⟩:=hc 0 _ (List.getElem?_eq_getElem (by have:=h.1; omega))
 have hc1 : c[0]? = some (c[0]'(by rw [h1]; decide)):=List.getElem?_eq_getElem _
 have h4:=h3 0 _ hc1
 unfold World.cell? at h4
 rw [a1Z,e,hl] at h4
 cases h4
section
variable {fn : FuncId} {A : Option Addr} {n c : Nat} {lim0 : Int} {s rb eb ob fb lb D l B1 : Nat} {v9 v10 f : Value} {w : World} {r : List Int} {lim : Int} {out : List Int} {W : World}
set_option maxRecDepth 100000 in
set_option maxHeartbeats 2000000 in
theorem d0i (m : Nat) (L : Lay s rb eb ob fb lb D l B1) (h : Pf fn (pfTm A n c lim0 rb eb ob v9 v10 f undef undef) s rb eb ob fb lb D l B1 w r lim out W) {y : List Int} {Ay : Option Addr} {cy : Nat} (hy : (Kd.int .u8).C W Ay y.length y) (hl : out.length + y.length <= 140737488355328) :
    RoundIn Fence.wide m Tryz.prog l fn (pfTm A n c lim0 rb eb ob v9 v10 f (.slice Ay y.length cy) (.int .i64 0)) a3W a3X W
     λ e W'=>e = .returned (.bool true) /\ Pf fn (pfTm A n c lim0 rb eb ob v9 v10 f undef undef) s rb eb ob fb lb D l B1 w r lim (out ++ y) W':=by
 obtain ⟨tm,htm⟩ : ∃ tm,tm = pfTm A n c lim0 rb eb ob v9 v10 f undef undef:=⟨_,rfl⟩
 rw [<- htm] at h ⊢
 refine roundIn_of_wpIn trivial ?_
 have hll : l < W.heap.size:=a0f h.lp
 have hbr:=run_beginRound (P:=Tryz.prog) h.lp rfl
 obtain ⟨lo,hlo⟩ : ∃ lo,lo = { pfRec fn tm D .ready none with state:=.busy }:=⟨_,rfl⟩
 obtain ⟨W2,hW2⟩ : ∃ W2,W.putObj l (.loop { pfRec fn tm D .ready none with state:=.busy }) = W2:=⟨_,rfl⟩
 have hbr2 : (Instr.beginRound l).run Tryz.prog W = .ok () W2:=by rw [<- hW2]; exact hbr
 obtain ⟨Ao,co,hv,hR⟩:=h.v
 have L0:=L.h0; have L1:=L.h1; have L2:=L.h2; have L3:=L.h3; have L4:=L.h4; have L5:=L.h5; have L6:=L.h6; have L7:=L.h7
 have hv2 : W2.heap[ob]? = some (.cells #[.slice Ao out.length co] 22 (0,0)):=by rw [<- hW2]; exact (World.putObj_heap_other (by omega)).trans hv
 have hR2 : Hid ((Kd.int .u8).R 5 W2 B1 (λ _=>True) (.slice Ao out.length co) out):=Lib.hid (by rw [<- hW2]; exact R_put hR L7 _)
 have hlp2 : W2.heap[l]? = some (.loop { pfRec fn tm D .ready none with state:=.busy }):=by rw [<- hW2]; exact World.putObj_heap_same hll
 have hon2 : Below s w W2:=by rw [<- hW2]; exact h.on.putObj (by omega) _
 have hC2 : Hid ((Kd.int .u8).C W2 Ay y.length y):=Lib.hid (a6I hy (λ hn ad ha=>by
  rw [<- hW2]; exact World.putObj_heap_other (b7Q hy h.lp hn ha)))
 have hB2 : Hid (Below B1 W2 W2):=Lib.hid (Below.refl _ _)
 have hl2 : Hid (out.length + y.length <= 140737488355328):=Lib.hid hl
 have hc2 : W2.cell? ⟨ob,0,none⟩ = some (.slice Ao out.length co):=(a0a hv2 0).trans rfl
 have hf2 : W2.frozen? ⟨ob,0,none⟩ = false:=a0e hv2 0
 have hs2 : B1 <= W2.heap.size:=by rw [<- hW2]; simpa using h.sz
 have HF:=Lib.hid (And.intro hv2 (And.intro hlp2 hon2))
 have HP:=Lib.hid h
 have HL:=Lib.hid L
 clear hv2 hlp2 hon2 hR hv h L hy hl hbr hlo htm
 unfold a3W pfTm
 gi_wp2
 clear hbr2
 unfold a3X
 gi_wp2_with (gi_at_builtin; (refine d0h rfl rfl rfl rfl hR2 hC2 hB2 hs2 hl2 ?_; intro A4 c4 w4 hr4 hb4 hg4; have HR4:=Lib.hid (And.intro hr4 (And.intro hb4 hg4)); have hv4:=(hb4.block ob (by have:=HL.out.h7; have:=HL.out.h6; have:=HL.out.h5; have:=HL.out.h4; have:=HL.out.h3; omega)).trans HF.out.1; have hc4:=(a0a hv4 0).trans rfl; have hf4:=a0e hv4 0; clear hr4 hb4 hg4 hv4))
 have L:=HL.out
 have L0:=L.h0; have L1:=L.h1; have L2:=L.h2; have L3:=L.h3; have L4:=L.h4; have L5:=L.h5; have L6:=L.h6; have L7:=L.h7
 have hb4:=HR4.out.2.1
 have hl4 : w4.heap[l]? = some (.loop { pfRec fn tm D .ready none with state:=.busy }):=(hb4.block l L7).trans HF.out.2.1
 have hl5 : (w4.setCell ⟨ob,0,none⟩ (.slice A4 (out.length + y.length) c4)).heap[l]? = some (.loop { pfRec fn tm D .ready none with state:=.busy }):=a1y hl4 (by omega)
 have hW2k : ∀ k,k ≠ l -> W2.heap[k]? = W.heap[k]?:=λ k hk=>by rw [<- hW2]; exact World.putObj_heap_other hk
 have hB5 : Below s w (w4.setCell ⟨ob,0,none⟩ (.slice A4 (out.length + y.length) c4)):=(HF.out.2.2.trans (hb4.mono (Nat.le_trans (Nat.le_trans L0 (by omega)) (Nat.le_of_lt L7)))).setCell (p:=⟨ob,0,none⟩) (by show s <= ob; omega) _
 obtain ⟨W5,hW5⟩ : ∃ W5,W5 = w4.setCell ⟨ob,0,none⟩ (.slice A4 (out.length + y.length) c4):=⟨_,rfl⟩
 have h5k : ∀ k,k < B1 -> k ≠ l -> k ≠ ob -> W5.heap[k]? = W.heap[k]?:=λ k h1 h2 h3=>by
  rw [hW5]; exact (Below.heap_setCell _ ⟨ob,0,none⟩ _ k h3).trans ((hb4.block k h1).trans (hW2k k h2))
 have hv5 : W5.heap[ob]? = some (.cells #[.slice A4 (out.length + y.length) c4] 22 (0,0)):=by
  rw [hW5]; exact (a0n ((hb4.block ob (by omega)).trans HF.out.1) 0 _).trans rfl
 have hR5 : (Kd.int .u8).R 5 W5 B1 (λ _=>True) (.slice A4 (out.length + y.length) c4) (out ++ y):=by rw [hW5]; exact a6k HR4.out.1 (by omega) _
 have hs5 : B1 <= W5.heap.size:=by rw [hW5]; simpa [World.setCell] using Nat.le_trans hs2 hb4.size
 rw [<- hW5] at hl5 hB5 ⊢
 obtain ⟨⟨Ar,cr,hfc,hbs⟩,hlc,-,hrc,hec,-,hdc,-,-⟩:=HP.out
 clear hW5
 refine ⟨_,_,run_endRound none hl5,rfl,⟨⟨Ar,cr,(World.putObj_heap_other (by omega)).trans ((h5k fb (by omega) (by omega) (by omega)).trans hfc),hbs⟩,(World.putObj_heap_other (by omega)).trans ((h5k lb (by omega) (by omega) (by omega)).trans hlc),
  ⟨A4,c4,by rw [List.length_append]; exact (World.putObj_heap_other (by omega)).trans hv5,by rw [List.length_append]; exact R_put hR5 L7 _⟩,(World.putObj_heap_other (by omega)).trans ((h5k rb (by omega) (by omega) (by omega)).trans hrc),
  (World.putObj_heap_other (by omega)).trans ((h5k eb (by omega) (by omega) (by omega)).trans hec),World.putObj_heap_same (a0f hl5),(World.putObj_heap_other (by omega)).trans ((h5k D (by omega) (by omega) (by omega)).trans hdc),hB5.putObj (by omega) _,by simpa using hs5⟩⟩
theorem b7R {tm : Array Value} (L : Lay s rb eb ob fb lb D l B1) (h : Pf fn tm s rb eb ob fb lb D l B1 w r lim out W) {W2 W' : World} {Ao : Option Addr} {co : Nat} (hW2 : W.putObj l (.loop { pfRec fn tm D .ready none with state:=.busy }) = W2) (hR : (Kd.int .u8).R 5 W2 B1 (λ _=>True) (.slice Ao out.length co) out) (hW : SLater W2 W') (k : Int) :
    ∃ v w',(Instr.endRound l (some .ret)).run Tryz.prog ((W'.setCell ⟨rb,0,none⟩ (.slice Ao out.length co)).setCell ⟨eb,0,none⟩ (.int .i64 k)) = .ok v w' /\ (Ending.returned v = .returned (.bool false) /\ PfX fn tm s rb eb D l B1 w k out w'):=by
 have L0:=L.h0; have L1:=L.h1; have L2:=L.h2; have L3:=L.h3; have L4:=L.h4; have L5:=L.h5; have L6:=L.h6; have L7:=L.h7
 have hll : l < W.heap.size:=a0f h.lp
 have hs2 : B1 <= W2.heap.size:=by rw [<- hW2]; simpa using h.sz
 have hlp2 : W2.heap[l]? = some (.loop { pfRec fn tm D .ready none with state:=.busy }):=by rw [<- hW2]; exact World.putObj_heap_same hll
 have hW2k : ∀ k,k ≠ l -> W2.heap[k]? = W.heap[k]?:=λ k hk=>by rw [<- hW2]; exact World.putObj_heap_other hk
 have hon2 : Below s w W2:=by rw [<- hW2]; exact h.on.putObj (by omega) _
 have hk' : ∀ k,k < B1 -> W'.heap[k]? = W2.heap[k]?:=λ k hk=>hW.block k (by omega)
 have hR':=a6k (a6k (Kd.R_below hR hW) (show rb < B1 by omega) (.slice Ao out.length co)) (show eb < B1 by omega) (.int .i64 k)
 have hB5 : Below s w ((W'.setCell ⟨rb,0,none⟩ (.slice Ao out.length co)).setCell ⟨eb,0,none⟩ (.int .i64 k)):=
  ((hon2.trans (hW.mono (by omega))).setCell (p:=⟨rb,0,none⟩) (by show s <= rb; omega) _).setCell (p:=⟨eb,0,none⟩) (by show s <= eb; omega) _
 have hl5 : ((W'.setCell ⟨rb,0,none⟩ (.slice Ao out.length co)).setCell ⟨eb,0,none⟩ (.int .i64 k)).heap[l]? = some (.loop { pfRec fn tm D .ready none with state:=.busy }):=a1y (a1y ((hk' l L7).trans hlp2) (by omega)) (by omega)
 have hd5 : ((W'.setCell ⟨rb,0,none⟩ (.slice Ao out.length co)).setCell ⟨eb,0,none⟩ (.int .i64 k)).heap[D]? = some (.deferred (some [])):=a1y (a1y ((hk' D (by omega)).trans ((hW2k D (by omega)).trans h.dc)) (by omega)) (by omega)
 have hr5 : ((W'.setCell ⟨rb,0,none⟩ (.slice Ao out.length co)).setCell ⟨eb,0,none⟩ (.int .i64 k)).heap[rb]? = some (.cells #[.slice Ao out.length co] 22 (0,0)):=a1y ((a0n ((hk' rb (by omega)).trans ((hW2k rb (by omega)).trans h.rc)) 0 _).trans rfl) (by omega)
 have he5 : ((W'.setCell ⟨rb,0,none⟩ (.slice Ao out.length co)).setCell ⟨eb,0,none⟩ (.int .i64 k)).heap[eb]? = some (.cells #[.int .i64 k] 27 (0,0)):=(a0n (a1y ((hk' eb (by omega)).trans ((hW2k eb (by omega)).trans h.ec)) (by omega)) 0 _).trans rfl
 exact ⟨_,_,run_endRound (some .ret) hl5,rfl,⟨Ao,co,(World.putObj_heap_other (by omega)).trans hr5,R_put hR' L7 _⟩,(World.putObj_heap_other (by omega)).trans he5,World.putObj_heap_same (a0f hl5),(World.putObj_heap_other (by omega)).trans hd5,hB5.putObj (by omega) _⟩
set_option maxRecDepth 100000 in
set_option maxHeartbeats 2000000 in
theorem b1e (m : Nat) (L : Lay s rb eb ob fb lb D l B1) (h : Pf fn (pfTm A n c lim0 rb eb ob v9 v10 f undef undef) s rb eb ob fb lb D l B1 w r lim out W) (y : Value) (k : Int) (hk0 : k ≠ 0) (hk16 : k ≠ 16) :
    RoundIn Fence.wide m Tryz.prog l fn (pfTm A n c lim0 rb eb ob v9 v10 f y (.int .i64 k)) a3W a3X W
     λ e W'=>e = .returned (.bool false) /\ PfX fn (pfTm A n c lim0 rb eb ob v9 v10 f undef undef) s rb eb D l B1 w k out W':=by
 obtain ⟨tm,htm⟩ : ∃ tm,tm = pfTm A n c lim0 rb eb ob v9 v10 f undef undef:=⟨_,rfl⟩
 rw [<- htm] at h ⊢
 refine roundIn_of_wpIn trivial ?_
 have hbr:=run_beginRound (P:=Tryz.prog) h.lp rfl
 obtain ⟨W2,hW2⟩ : ∃ W2,W.putObj l (.loop { pfRec fn tm D .ready none with state:=.busy }) = W2:=⟨_,rfl⟩
 have hbr2 : (Instr.beginRound l).run Tryz.prog W = .ok () W2:=by rw [<- hW2]; exact hbr
 obtain ⟨Ao,co,hv,hR⟩:=h.v
 have hc2 : W2.cell? ⟨ob,0,none⟩ = some (.slice Ao out.length co):=by rw [<- hW2]; exact (a0a ((World.putObj_heap_other (by have:=L.h7; have:=L.h6; have:=L.h5; have:=L.h4; have:=L.h3; omega)).trans hv) 0).trans rfl
 have hR2 : Hid ((Kd.int .u8).R 5 W2 B1 (λ _=>True) (.slice Ao out.length co) out):=Lib.hid (by rw [<- hW2]; exact R_put hR L.h7 _)
 have hcr : W2.cell? ⟨rb,0,none⟩ = some (.slice none 0 0):=by rw [<- hW2]; exact (a0a ((World.putObj_heap_other (by have:=L.h7; have:=L.h6; have:=L.h5; have:=L.h4; have:=L.h3; have:=L.h2; have:=L.h1; omega)).trans h.rc) 0).trans rfl
 have hce : W2.cell? ⟨eb,0,none⟩ = some (.int .i64 0):=by rw [<- hW2]; exact (a0a ((World.putObj_heap_other (by have:=L.h7; have:=L.h6; have:=L.h5; have:=L.h4; have:=L.h3; have:=L.h2; have:=L.h1; omega)).trans h.ec) 0).trans rfl
 have hfr : W2.frozen? ⟨rb,0,none⟩ = false:=by rw [<- hW2]; exact a0e ((World.putObj_heap_other (by have:=L.h7; have:=L.h6; have:=L.h5; have:=L.h4; have:=L.h3; have:=L.h2; have:=L.h1; omega)).trans h.rc) 0
 have hfe : W2.frozen? ⟨eb,0,none⟩ = false:=by rw [<- hW2]; exact a0e ((World.putObj_heap_other (by have:=L.h7; have:=L.h6; have:=L.h5; have:=L.h4; have:=L.h3; have:=L.h2; have:=L.h1; omega)).trans h.ec) 0
 have hre : rb ≠ eb:=by have:=L.h1; omega
 have hk0' : (k == 0) = false:=by simpa using hk0
 have hk16' : (k == 16) = false:=by simpa using hk16
 have HE:=Lib.hid (b7R L h hW2 hR2.out (Below.refl _ _ : SLater W2 W2) k)
 clear hbr hv hR h hW2 htm hR2 hk0 hk16
 unfold a3W pfTm
 gi_wp2
 refine ⟨W2,hbr2,?_⟩
 clear hbr2
 unfold a3X
 gi_wp2
 exact HE.out
set_option maxRecDepth 100000 in
set_option maxHeartbeats 2000000 in
theorem d0j (m : Nat) (L : Lay s rb eb ob fb lb D l B1) (h : Pf fn (pfTm A n c lim0 rb eb ob v9 v10 f undef undef) s rb eb ob fb lb D l B1 w r lim out W) {q : List Int} {Ay : Option Addr} {cy : Nat} (hy : BSl W Ay cy q) (hob : Bytes out) (hl : out.length <= 1000000000000) (hql : q.length <= 1000000) :
    RoundIn Fence.wide m Tryz.prog l fn (pfTm A n c lim0 rb eb ob v9 v10 f (.slice Ay q.length cy) (.int .i64 16)) a3W a3X W
     λ e W'=>e = .returned (.bool false) /\ PfX fn (pfTm A n c lim0 rb eb ob v9 v10 f undef undef) s rb eb D l B1 w (a1p q out) out W':=by
 obtain ⟨tm,htm⟩ : ∃ tm,tm = pfTm A n c lim0 rb eb ob v9 v10 f undef undef:=⟨_,rfl⟩
 rw [<- htm] at h ⊢
 refine roundIn_of_wpIn trivial ?_
 have hbr:=run_beginRound (P:=Tryz.prog) h.lp rfl
 obtain ⟨W2,hW2⟩ : ∃ W2,W.putObj l (.loop { pfRec fn tm D .ready none with state:=.busy }) = W2:=⟨_,rfl⟩
 have hbr2 : (Instr.beginRound l).run Tryz.prog W = .ok () W2:=by rw [<- hW2]; exact hbr
 obtain ⟨Ao,co,hv,hR⟩:=h.v
 have hv2 : W2.heap[ob]? = some (.cells #[.slice Ao out.length co] 22 (0,0)):=by rw [<- hW2]; exact (World.putObj_heap_other (by have:=L.h7; have:=L.h6; have:=L.h5; have:=L.h4; have:=L.h3; omega)).trans hv
 have hR2 : Hid ((Kd.int .u8).R 5 W2 B1 (λ _=>True) (.slice Ao out.length co) out):=Lib.hid (by rw [<- hW2]; exact R_put hR L.h7 _)
 have hr2 : W2.heap[rb]? = some (.cells #[.slice none 0 0] 22 (0,0)):=by rw [<- hW2]; exact (World.putObj_heap_other (by have:=L.h7; have:=L.h6; have:=L.h5; have:=L.h4; have:=L.h3; have:=L.h2; have:=L.h1; omega)).trans h.rc
 have he2 : W2.heap[eb]? = some (.cells #[.int .i64 0] 27 (0,0)):=by rw [<- hW2]; exact (World.putObj_heap_other (by have:=L.h7; have:=L.h6; have:=L.h5; have:=L.h4; have:=L.h3; have:=L.h2; have:=L.h1; omega)).trans h.ec
 have hy2 : BSl W2 Ay cy q:=⟨a6I hy.row (λ hn ad ha=>by rw [<- hW2]; exact World.putObj_heap_other (b7Q hy.row h.lp hn ha)),hy.cap,hy.nil,hy.by'⟩
 have HBe : Hid (∀ W',SLater W2 W' -> Calls Tryz.prog 96 #[.slice Ay q.length cy,.slice Ao out.length co] W' (λ e w'=>e = .returned (.int .i64 (a1p q out)) /\ Below W'.heap.size W' w')):=Lib.hid (λ W' hW'=>
  c9K Ay Ao cy co q out W' (hy2.below hW') ((BSl.of hR2.out hob).below hW') hl hql)
 obtain ⟨k,hk⟩ : ∃ k,k = a1p q out:=⟨_,rfl⟩
 rw [<- hk] at HBe
 have HC : Hid (∀ W',SLater W2 W' -> (W'.cell? ⟨ob,0,none⟩ = some (.slice Ao out.length co) /\ W'.cell? ⟨rb,0,none⟩ = some (.slice none 0 0) /\ W'.cell? ⟨eb,0,none⟩ = some (.int .i64 0)) /\ (W'.frozen? ⟨rb,0,none⟩ = false /\ W'.frozen? ⟨eb,0,none⟩ = false)):=Lib.hid (λ W' hW'=>
  ⟨⟨(a0a (a0g hv2 hW') 0).trans rfl,(a0a (a0g hr2 hW') 0).trans rfl,(a0a (a0g he2 hW') 0).trans rfl⟩,a0e (a0g hr2 hW') 0,a0e (a0g he2 hW') 0⟩)
 have hre : rb ≠ eb:=by have:=L.h1; omega
 have HE : Hid (∀ W',SLater W2 W' -> _):=Lib.hid (λ W' (hW' : SLater W2 W')=>b7R L h hW2 hR2.out hW' k)
 have s0 : SLater W2 W2:=Below.refl _ _
 obtain ⟨⟨g1,g2,g3⟩,g4,g5⟩:=HC.out W2 s0
 rw [<- hk]
 clear hbr hv hR h hW2 htm hR2 hv2 hr2 he2 hy2 hy hob hk
 unfold a3W pfTm
 gi_wp2
 refine ⟨W2,hbr2,?_⟩
 clear hbr2
 unfold a3X
 gi_wp2
 gi_region_with (refine ⟨trivial,λ h=>(by cases h),(CallsIn.inRound l (callsIn_wide.2 (HBe.out _ (by first | assumption | exact SLater.drew ‹_›)))).mono ?_⟩; rintro e w' ⟨rfl,hb⟩; have sx:=(by first | exact SLater.keep ‹_› hb | exact SLater.keep (SLater.drew ‹_›) hb : SLater W2 w'); obtain ⟨⟨x1,x2,x3⟩,x4,x5⟩:=HC.out w' sx; clear hb)
 all_goals
  gi_wp2
  exact HE.out _ (by first | assumption | exact SLater.drew ‹_›)
end
end Go.Proofs.YtflfjpkmjnnodaaGreat
namespace Go.Proofs.YtflfjpkmjnnodaaGreat
open Go.RowKit Go.IntWalk Go.Proofs.YtflfjpkmjnnodaaGreatW.PrintWords
attribute [local go_sem] Oper.semAt_some
theorem b7S {one : Bool} {qs : List (List Int)} {ps : List Int} : ∀ (n i : Nat) (la x0 x1 : Int) (left : Nat) (out : List Int),(decGo one qs ps n i la x0 x1 left out).1 = 0 -> (decGo one qs ps n i la x0 x1 left out).2.length = out.length + n
 | 0,i,la,x0,x1,left,out=>by
  unfold decGo
  split
  · intro _; rfl
  · intro h; cases h
 | n + 1,i,la,x0,x1,left,out=>by
  unfold decGo
  dsimp only
  split
  · intro h; cases h
  · split
    · intro h; cases h
    · intro h
      rw [b7S n _ _ _ _ _ _ h,List.length_append]
      simp; omega
theorem b7T {lg : Int} {one : Bool} {qs : List (List Int)} {ps : List Int} {n : Int} (h : (decM lg one qs ps n).1 = 0) : (decM lg one qs ps n).2.length = n.toNat:=by
 unfold decM at h ⊢
 split at h
 · cases h
 · rename_i a1
   rw [if_neg a1]
   split at h
   · cases h
   · rename_i a2
     rw [if_neg a2]
     split at h
     · cases h
     · rename_i a3
       rw [if_neg a3,b7S _ _ _ _ _ _ _ h]
       simp
theorem b7U {k n : Int} {b : List Int} (h : (pickD k b n).1 = 0) : (pickD k b n).2.length = n.toNat:=by
 unfold pickD at h ⊢
 split at h
 · rename_i a1; exact absurd h a1
 · rename_i a1
   rw [if_neg a1]
   split at h
   · rename_i a2
     rw [if_pos a2]
     unfold a3h at h ⊢
     split at h
     · cases h
     · rename_i b1
       rw [if_neg b1]
       split at h
       · cases h
       · rename_i b2
         rw [if_neg b2]
         dsimp only
         split
         · omega
         · rw [List.length_replicate]
   · rename_i a2
     rw [if_neg a2]
     split at h
     · rename_i a3
       rw [if_pos a3]
       unfold dec0M at h ⊢
       split at h
       · rename_i c1; exact absurd h c1
       · rename_i c1; rw [if_neg c1]; exact b7T h
     · rename_i a3
       rw [if_neg a3]
       unfold dec1M at h ⊢
       split at h
       · rename_i c1; exact absurd h c1
       · rename_i c1; rw [if_neg c1]; exact b7T h
theorem d0k {f : List Int} (hf : Bytes f) {log room : Int} {first : Bool} (h : (openM f log first room).1 = 0) : (openM f log first room).2.1.length <= 131072 /\ ((openM f log first room).2.1.length : Int) <= room /\ Bytes (openM f log first room).2.1:=by
 unfold openM at h ⊢
 split at h
 · rename_i a1; exact absurd h a1
 · rename_i a1
   rw [if_neg a1]
   split at h
   · cases h
   · rename_i a2
     rw [if_neg a2]
     split at h
     · cases h
     · rename_i a3
       rw [if_neg a3]
       split at h
       · rename_i a4; exact absurd h a4
       · rename_i a4
         rw [if_neg a4]
         have hb:=a5s hf (Classical.not_not.1 a1)
         have hp:=b7U (Classical.not_not.1 a4)
         dsimp only
         exact ⟨by omega,by omega,b7J (λ x hx=>hf x (List.mem_of_mem_drop (List.mem_of_mem_take hx)))⟩
theorem b7V {n : Nat} {f : List Int} {log : Int} {first : Bool} {limit : Int} {out : List Int} {k : Int} {y : List Int} {u : Nat} {lt : Bool} (h : openM f log first limit = (k,y,u,lt)) (hk : k ≠ 0) : preG (n + 1) f log first limit out = (k,out):=by
 unfold preG; rw [h]; exact if_pos hk
theorem b7W {n : Nat} {f : List Int} {log : Int} {first : Bool} {limit : Int} {out y : List Int} {u : Nat} (h : openM f log first limit = (0,y,u,true)) : preG (n + 1) f log first limit out = (a1p (f.drop u) (out ++ y),out ++ y):=by
 unfold preG; rw [h]; dsimp only; rw [if_neg (λ h=>h rfl),if_pos rfl]
theorem b7X {n : Nat} {f : List Int} {log : Int} {first : Bool} {limit : Int} {out y : List Int} {u : Nat} (h : openM f log first limit = (0,y,u,false)) : preG (n + 1) f log first limit out = preG n (f.drop u) log false (limit - y.length) (out ++ y):=by
 conv=>lhs; unfold preG
 rw [h]; dsimp only; rw [if_neg (λ h=>h rfl),if_neg (by simp)]
section
variable {fn : FuncId} {A : Option Addr} {n c : Nat} {lim0 : Int} {s rb eb ob fb lb D l B1 : Nat} {v9 v10 fv : Value} {w : World} {r : List Int} {lim : Int} {out : List Int} {W W' : World} {tm : Array Value}
theorem Pf.later (L : Lay s rb eb ob fb lb D l B1) (h : Pf fn tm s rb eb ob fb lb D l B1 w r lim out W) (hb : Below W.heap.size W W') : Pf fn tm s rb eb ob fb lb D l B1 w r lim out W':=by
 obtain ⟨⟨Ar,cr,h1,h2⟩,h3,⟨Ao,co,h4,h5⟩,h6,h7,h8,h9,h10,h11⟩:=h
 have hs : s <= W.heap.size:=by have:=L.h0; have:=L.h1; have:=L.h2; have:=L.h3; have:=L.h4; have:=L.h5; have:=L.h6; have:=L.h7; omega
 exact ⟨⟨Ar,cr,a0g h1 hb,h2⟩,a0g h3 hb,⟨Ao,co,a0g h4 hb,Kd.R_below h5 hb⟩,a0g h6 hb,a0g h7 hb,a0g h8 hb,a0g h9 hb,h10.trans (hb.mono hs),Nat.le_trans h11 hb.size⟩
theorem Pf.setF (L : Lay s rb eb ob fb lb D l B1) (h : Pf fn tm s rb eb ob fb lb D l B1 w r lim out W) {r' : List Int} {Ad : Option Addr} {cd : Nat} (hb : BSl w Ad cd r') : Pf fn tm s rb eb ob fb lb D l B1 w r' lim out (W.setCell ⟨fb,0,none⟩ (.slice Ad r'.length cd)):=by
 obtain ⟨⟨Ar,cr,h1,h2⟩,h3,⟨Ao,co,h4,h5⟩,h6,h7,h8,h9,h10,h11⟩:=h
 have L0:=L.h0; have L1:=L.h1; have L2:=L.h2; have L3:=L.h3; have L4:=L.h4; have L5:=L.h5; have L6:=L.h6; have L7:=L.h7
 exact ⟨⟨Ad,cd,(a0n h1 0 _).trans rfl,hb⟩,a1y h3 (by omega),⟨Ao,co,a1y h4 (by omega),a6k h5 (by omega) _⟩,a1y h6 (by omega),a1y h7 (by omega),a1y h8 (by omega),a1y h9 (by omega),h10.setCell (p:=⟨fb,0,none⟩) (by show s <= fb; omega) _,by simpa [World.setCell] using h11⟩
theorem Pf.setL (L : Lay s rb eb ob fb lb D l B1) (h : Pf fn tm s rb eb ob fb lb D l B1 w r lim out W) (lim' : Int) : Pf fn tm s rb eb ob fb lb D l B1 w r lim' out (W.setCell ⟨lb,0,none⟩ (.int .i64 lim')):=by
 obtain ⟨⟨Ar,cr,h1,h2⟩,h3,⟨Ao,co,h4,h5⟩,h6,h7,h8,h9,h10,h11⟩:=h
 have L0:=L.h0; have L1:=L.h1; have L2:=L.h2; have L3:=L.h3; have L4:=L.h4; have L5:=L.h5; have L6:=L.h6; have L7:=L.h7
 exact ⟨⟨Ar,cr,a1y h1 (by omega),h2⟩,(a0n h3 0 _).trans rfl,⟨Ao,co,a1y h4 (by omega),a6k h5 (by omega) _⟩,a1y h6 (by omega),a1y h7 (by omega),a1y h8 (by omega),a1y h9 (by omega),h10.setCell (p:=⟨lb,0,none⟩) (by show s <= lb; omega) _,by simpa [World.setCell] using h11⟩
def d0l (fn : FuncId) (tm : Array Value) (s rb eb D l B1 : Nat) (w : World) (R : Int × List Int) (e : Ending) (W' : World) : Prop:=(∃ v,e = .returned v) /\ PfX fn tm s rb eb D l B1 w R.1 R.2 W'
set_option maxRecDepth 100000 in
theorem a6l (W : World) (y e : Value) (h : W.heap[l]? = some (.loop (pfRec fn (pfTm A n c lim0 rb eb ob v9 v10 fv undef undef) D .ready none))) :
    (Instr.yield l #[y,e]).run Tryz.prog W = .ok (.round l fn (pfTm A n c lim0 rb eb ob v9 v10 fv y e) a3W a3X) W:=by
 simpa [pfRec,pfTm] using run_yield (P:=Tryz.prog) (args:=#[y,e]) h rfl
set_option maxRecDepth 100000 in
set_option maxHeartbeats 4000000 in
theorem d0m (m : Nat) (L : Lay s rb eb ob fb lb D l B1) (hs : s = w.heap.size) {f : List Int} {limit : Int} (h : Pf fn (pfTm A n c lim0 rb eb ob v9 v10 fv undef undef) s rb eb ob fb lb D l B1 w f limit [] W) (hl : f.length <= 1000000) (hL : limit < 4611686018427387904) :
    CallsIn Fence.wide m Tryz.prog 139 #[.func (.yield l) #[] #[],.pointer (some ⟨fb,0,none⟩),.pointer (some ⟨lb,0,none⟩)] W (d0l fn (pfTm A n c lim0 rb eb ob v9 v10 fv undef undef) s rb eb D l B1 w (a0C f limit)):=by
 obtain ⟨Af,cf,hfc,hbs⟩:=h.fc
 have hbsW:=hbs.below (by rw [<- hs]; exact h.on)
 have HHd:=Lib.hid (b7G Af cf f W hbsW hl)
 have hcf : W.cell? ⟨fb,0,none⟩ = some (.slice Af f.length cf):=(a0a hfc 0).trans rfl
 have HP:=Lib.hid h
 have HL:=Lib.hid L
 obtain ⟨tm,htm⟩ : ∃ tm,tm = pfTm A n c lim0 rb eb ob v9 v10 fv undef undef:=⟨_,rfl⟩
 have hbf:=hbs.by'
 by_cases hn : limit < 0
 · have HR : Hid (a0C f limit = (1,[])):=Lib.hid (by unfold a0C; rw [if_pos hn])
   obtain ⟨lg,hlg⟩ : ∃ k,k = a1F f:=⟨_,rfl⟩
   obtain ⟨hm,hhm⟩ : ∃ k,k = headM f:=⟨_,rfl⟩
   rw [<- hlg,<- hhm] at HHd
   clear h L hfc hbs hbsW htm hlg hhm
   refine callsIn_of_wp Tryz.func139 rfl trivial ?_ rfl
   simp only [Tryz.ntmps139,List.size_toArray,List.length_cons,List.length_nil,Nat.reduceAdd,Nat.reduceSub,Array.replicate_succ,Array.replicate_zero,List.push_toArray,List.append_toArray,List.nil_append,List.cons_append]
   gi_wp2
   refine ⟨trivial,λ h=>(by cases h),(callsIn_wide.2 HHd.out).mono ?_⟩
   rintro e w1 ⟨rfl,hb1⟩
   have HP1:=Lib.hid (HP.out.later HL.out hb1)
   have hcl : w1.cell? ⟨lb,0,none⟩ = some (.int .i64 limit):=(a0a HP1.out.lc 0).trans rfl
   have hy:=a6l w1 (.slice none 0 0) (.int .i64 1) HP1.out.lp
   clear hb1
   gi_wp2
   refine ⟨λ h=>(by cases h),(b1e (m - 1) HL.out HP1.out (.slice none 0 0) 1 (by decide) (by decide)).mono ?_⟩
   rintro e w2 ⟨rfl,hX⟩
   have HX:=Lib.hid hX
   clear hX hy
   gi_wp2
   go_end0
   rw [HR.out]
   exact ⟨⟨_,rfl⟩,HX.out⟩
 · by_cases hh : headM f = 0
   · have h8:=b1b hh
     obtain ⟨hlg,-,-⟩:=b1a hh hbf
     obtain ⟨lg,hlg0⟩ : ∃ l,l = a1F f:=⟨_,rfl⟩
     have HR : Hid (a0C f limit = preG (f.length + 1) (f.drop 8) lg true limit []):=Lib.hid (by
      unfold a0C
      rw [if_neg hn,if_neg (λ h=>h hh),hlg0,hlg])
     rw [hh,<- hlg0] at HHd
     have hnI : ¬ limit < 0:=hn
     have hsf:=a2R Af f.length cf 8 h8
     have HDr:=Lib.hid (hbs.from_ (k:=8) h8)
     obtain ⟨Ad,hAd⟩ : ∃ Ad,Ad = (if cf = 8 then Af else Af.map (·.add (8 * 1))):=⟨_,rfl⟩
     rw [<- hAd] at HDr hsf
     obtain ⟨r0,hr0⟩ : ∃ r,r = f.drop 8:=⟨_,rfl⟩
     have hr0l : f.length - 8 = r0.length:=by rw [hr0,List.length_drop]
     rw [<- hr0] at HDr HR
     rw [hr0l] at hsf
     have hsf : ∀ W : World,(Instr.slice 22 (.slice Af f.length cf) (some (.int .i64 8)) none none).run Tryz.prog W = .ok (.slice Ad r0.length (cf - 8)) W:=hsf
     have hc8 : (8 : Int) <= (cf : Int):=by have:=hbs.cap; omega
     have h8I : (8 : Int) <= (f.length : Int):=by omega
     obtain ⟨PR,hPR⟩ : ∃ S,S = a0C f limit:=⟨_,rfl⟩
     rw [<- hPR] at HR ⊢
     have HN:=Lib.hid (show r0.length < f.length + 1 /\ r0.length <= 1000000 by omega)
     have hne1 : fb ≠ lb:=by have:=L.h4; omega
     have hne2 : lb ≠ fb:=by have:=L.h4; omega
     clear h L hfc hbs hbsW htm hh hlg hlg0 hAd hr0 hPR hr0l hn h8 hbf
     refine callsIn_of_wp Tryz.func139 rfl trivial ?_ rfl
     simp only [Tryz.ntmps139,List.size_toArray,List.length_cons,List.length_nil,Nat.reduceAdd,Nat.reduceSub,Array.replicate_succ,Array.replicate_zero,List.push_toArray,List.append_toArray,List.nil_append,List.cons_append]
     gi_wp2
     refine ⟨trivial,λ h=>(by cases h),(callsIn_wide.2 HHd.out).mono ?_⟩
     rintro e w1 ⟨rfl,hb1⟩
     have HP1:=Lib.hid (HP.out.later HL.out hb1)
     have hcl : w1.cell? ⟨lb,0,none⟩ = some (.int .i64 limit):=(a0a HP1.out.lc 0).trans rfl
     have hcf1 : w1.cell? ⟨fb,0,none⟩ = some (.slice Af f.length cf):=a0q hb1 hcf
     have hff1 : w1.frozen? ⟨fb,0,none⟩ = false:=by obtain ⟨_,_,h,_⟩:=HP1.out.fc; exact a0e h 0
     have HP2:=Lib.hid (HP1.out.setF HL.out HDr.out)
     clear hb1
     gi_wp2
     gi_loopw [6,7,8,9,10] (λ bv _ _ _ _ wr=>∃ (n' : Nat) (r : List Int) (lim : Int) (out : List Int) (fb' : Bool),bv = .bool fb' /\ Hid (preG n' r lg fb' lim out = PR /\ r.length < n' /\ Pf fn (pfTm A n c lim0 rb eb ob v9 v10 fv undef undef) s rb eb ob fb lb D l B1 w r lim out wr /\ Bytes out /\ out.length + 131072 * r.length <= 131072000000 /\ 0 <= lim /\ lim <= limit /\ r.length <= 1000000)) (λ _ _ _ _ _ wr=>slN ((wr.cell? ⟨fb,0,none⟩).getD undef))
     case atStart=>exact ⟨f.length + 1,r0,limit,[],true,rfl,Lib.hid ⟨HR.out.symm,HN.out.1,HP2.out,(λ x h=>by cases h),by have:=HN.out.2; simp; omega,by omega,Int.le_refl _,HN.out.2⟩⟩
     case round=>
      obtain ⟨n',r,lim,out,fb',rfl,H⟩:=hrel
      obtain ⟨n',rfl⟩ : ∃ m,n' = m + 1:=⟨n' - 1,by have:=H.out.2.1; omega⟩
      obtain ⟨Ar,cr,hrc,hbr⟩:=H.out.2.2.1.fc
      have hcr : wr.cell? ⟨fb,0,none⟩ = some (.slice Ar r.length cr):=(a0a hrc 0).trans rfl
      have hcl2 : wr.cell? ⟨lb,0,none⟩ = some (.int .i64 lim):=(a0a H.out.2.2.1.lc 0).trans rfl
      have hbw:=hbr.below (by rw [<- hs]; exact H.out.2.2.1.on)
      have HOp:=Lib.hid (b7K Ar cr r lg fb' lim wr hbw.row hbw.by' H.out.2.2.2.2.2.2.2 hbw.cap)
      have HUse:=Lib.hid (λ h=>b6y (f:=r) (log:=lg) (room:=lim) (first:=fb') h)
      have HLen:=Lib.hid (λ h=>d0k hbw.by' (log:=lg) (room:=lim) (first:=fb') h)
      have h16:=c9p (f:=r) (log:=lg) (room:=lim) (first:=fb')
      obtain ⟨k,y,u,lt,hO⟩ : ∃ k y u lt,openM r lg fb' lim = (k,y,u,lt):=⟨_,_,_,_,rfl⟩
      have HO:=Lib.hid hO
      rw [hO] at HOp HUse HLen h16
      dsimp only at HUse HLen h16
      unfold OpenPost at HOp
      dsimp only at HOp
      have HBr:=Lib.hid hbr
      clear hO hbw hbr hrc
      gi_wp2
      refine ⟨trivial,λ h=>(by cases h),(callsIn_wide.2 HOp.out).mono ?_⟩
      rintro e w2 ⟨Ay,cy,rfl,hRy,hb2⟩
      have HPw:=Lib.hid (H.out.2.2.1.later HL.out hb2)
      by_cases hk : k = 0
      · subst hk
        have hU:=HUse.out rfl
        have hLe:=HLen.out rfl
        have hy:=a6l w2 (.slice Ay y.length cy) (.int .i64 0) HPw.out.lp
        have HRd:=Lib.hid (d0i (cy:=cy) (m - 1) HL.out HPw.out (Kd.R_reads' hRy).2.2 (by have:=H.out.2.2.2.2.1; have:=hLe.1; omega))
        have HUL:=Lib.hid (And.intro hU hLe)
        have hcr2 : w2.cell? ⟨fb,0,none⟩ = some (.slice Ar r.length cr):=a0q hb2 hcr
        clear hRy hb2 h16
        gi_wp2
        refine ⟨λ h=>(by cases h),HRd.out.mono ?_⟩
        rintro e w3 ⟨rfl,hP3⟩
        obtain ⟨A3,c3,hf3,hb3⟩:=hP3.fc
        have hc3 : w3.cell? ⟨fb,0,none⟩ = some (.slice A3 r.length c3):=(a0a hf3 0).trans rfl
        have hfz3 : w3.frozen? ⟨fb,0,none⟩ = false:=a0e hf3 0
        have hcl3 : w3.cell? ⟨lb,0,none⟩ = some (.int .i64 lim):=(a0a hP3.lc 0).trans rfl
        have hfl3 : w3.frozen? ⟨lb,0,none⟩ = false:=a0e hP3.lc 0
        have hsf3:=a2R A3 r.length c3 u HUL.out.1.2
        have HDr3:=Lib.hid (hb3.from_ (k:=u) HUL.out.1.2)
        obtain ⟨Ad3,hAd3⟩ : ∃ Ad,Ad = (if c3 = u then A3 else A3.map (·.add (u * 1))):=⟨_,rfl⟩
        rw [<- hAd3] at HDr3 hsf3
        obtain ⟨r3,hr3⟩ : ∃ r3,r3 = r.drop u:=⟨_,rfl⟩
        have hr3l : r.length - u = r3.length:=by rw [hr3,List.length_drop]
        have HR3:=Lib.hid hr3
        rw [<- hr3] at HDr3
        rw [hr3l] at hsf3
        have hcu : (u : Int) <= (c3 : Int):=by have:=hb3.cap; have:=HUL.out.1.2; omega
        have hru : (u : Int) <= (r.length : Int):=by have:=HUL.out.1.2; omega
        have hu0 : (0 : Int) <= (u : Int):=by omega
        have hwl : IntKind.i64.wrap (lim - (y.length : Int)) = lim - (y.length : Int):=i64_in _ (by have:=HUL.out.2; have:=H.out.2.2.2.2.2; omega)
        have HP3:=Lib.hid hP3
        have HP4:=Lib.hid ((hP3.setF HL.out HDr3.out).setL HL.out (lim - (y.length : Int)))
        have HLt:=Lib.hid (show r3.length + 11 <= r.length by have:=HUL.out.1; omega)
        have hf4 : ((w3.setCell ⟨fb,0,none⟩ (.slice Ad3 r3.length (c3 - u))).setCell ⟨lb,0,none⟩ (.int .i64 (lim - (y.length : Int)))).heap[fb]? = some (.cells #[.slice Ad3 r3.length (c3 - u)] 22 (0,0)):=a1y ((a0n hf3 0 _).trans rfl) hne1
        have hc4 : ((w3.setCell ⟨fb,0,none⟩ (.slice Ad3 r3.length (c3 - u))).setCell ⟨lb,0,none⟩ (.int .i64 (lim - (y.length : Int)))).cell? ⟨fb,0,none⟩ = some (.slice Ad3 r3.length (c3 - u)):=(a0a hf4 0).trans rfl
        clear hP3 hf3 hf4 hb3 hAd3 hr3 hr3l
        cases lt with
        | true=>
         have hy4:=a6l _ (.slice Ad3 r3.length (c3 - u)) (.int .i64 16) HP4.out.lp
         have HSt:=Lib.hid (d0j (m - 1) HL.out HP4.out (q:=r3) (Ay:=Ad3) (cy:=c3 - u) (HDr3.out.below (by rw [<- hs]; exact HP4.out.on)) (λ x hx=>(List.mem_append.1 hx).elim (H.out.2.2.2.1 x) (HUL.out.2.2.2 x)) (by rw [List.length_append]; have:=HUL.out.2.1; have:=H.out.2.2.2.2.1; omega) (by have:=HLt.out; have:=H.out.2.2.2.2.2.2.2; omega))
         gi_wp2
         refine ⟨λ h=>(by cases h),HSt.out.mono ?_⟩
         rintro e w5 ⟨rfl,hX⟩
         have HX:=Lib.hid hX
         clear hX hy4
         gi_wp2
         go_end0
         have h1:=H.out.1
         rw [b7W HO.out,<- HR3.out] at h1
         rw [<- h1]
         exact ⟨⟨_,rfl⟩,HX.out⟩
        | false=>
         gi_wp2
         go_roundw
         case rel=>exact ⟨n',r3,lim - (y.length : Int),out ++ y,false,rfl,Lib.hid ⟨by have h1:=H.out.1; rw [b7X HO.out,<- HR3.out] at h1; exact h1,by have:=H.out.2.1; have:=HLt.out; omega,HP4.out,(λ x hx=>(List.mem_append.1 hx).elim (H.out.2.2.2.1 x) (HUL.out.2.2.2 x)),by rw [List.length_append]; have:=HUL.out.2.1; have:=H.out.2.2.2.2.1; have:=HLt.out; omega,by have:=HUL.out.2; omega,by have:=H.out.2.2.2.2.2; omega,by have:=HLt.out; have:=H.out.2.2.2.2.2.2.2; omega⟩⟩
         case measure=>rw [hc4,hcr]; have:=HLt.out; simp [slN]; omega
      · have hk2 : (k != 0) = true:=by simpa using hk
        have hy:=a6l w2 (.slice Ay y.length cy) (.int .i64 k) HPw.out.lp
        have HSt:=Lib.hid (b1e (m - 1) HL.out HPw.out (.slice Ay y.length cy) k hk h16)
        have HE:=Lib.hid (b7V (n:=n') (out:=out) HO.out hk)
        clear hRy hb2 h16 hk
        gi_wp2
        refine ⟨λ h=>(by cases h),HSt.out.mono ?_⟩
        rintro e w3 ⟨rfl,hX⟩
        have HX:=Lib.hid hX
        clear hX hy
        gi_wp2
        go_end0
        have h1:=H.out.1
        rw [HE.out] at h1
        rw [<- h1]
        exact ⟨⟨_,rfl⟩,HX.out⟩
   · have HR : Hid (a0C f limit = (headM f,[])):=Lib.hid (by unfold a0C; rw [if_neg hn,if_pos hh])
     obtain ⟨lg,hlg⟩ : ∃ k,k = a1F f:=⟨_,rfl⟩
     have hm16:=c9r (f:=f)
     obtain ⟨k,hk⟩ : ∃ k,k = headM f:=⟨_,rfl⟩
     rw [<- hlg,<- hk] at HHd
     rw [<- hk] at hh hm16 HR
     have hk2 : (k != 0) = true:=by simpa using hh
     clear h L hfc hbs hbsW htm hlg hk
     refine callsIn_of_wp Tryz.func139 rfl trivial ?_ rfl
     simp only [Tryz.ntmps139,List.size_toArray,List.length_cons,List.length_nil,Nat.reduceAdd,Nat.reduceSub,Array.replicate_succ,Array.replicate_zero,List.push_toArray,List.append_toArray,List.nil_append,List.cons_append]
     gi_wp2
     refine ⟨trivial,λ h=>(by cases h),(callsIn_wide.2 HHd.out).mono ?_⟩
     rintro e w1 ⟨rfl,hb1⟩
     have HP1:=Lib.hid (HP.out.later HL.out hb1)
     have hcl : w1.cell? ⟨lb,0,none⟩ = some (.int .i64 limit):=(a0a HP1.out.lc 0).trans rfl
     have hy:=a6l w1 (.slice none 0 0) (.int .i64 k) HP1.out.lp
     have HSt:=Lib.hid (b1e (m - 1) HL.out HP1.out (.slice none 0 0) k hh hm16)
     clear hb1 hh hm16
     gi_wp2
     refine ⟨λ h=>(by cases h),HSt.out.mono ?_⟩
     rintro e w2 ⟨rfl,hX⟩
     have HX:=Lib.hid hX
     clear hX hy
     gi_wp2
     go_end0
     rw [HR.out]
     exact ⟨⟨_,rfl⟩,HX.out⟩
end
end Go.Proofs.YtflfjpkmjnnodaaGreat
namespace Go.Proofs.YtflfjpkmjnnodaaGreat
open Go.RowKit Go.IntWalk Go.Proofs.YtflfjpkmjnnodaaGreatW.PrintWords
attribute [local go_sem] Oper.semAt_some
set_option maxRecDepth 100000 in
theorem d0n (A : Option Addr) (n c : Nat) (lim : Int) (w : World) :
    Calls Tryz.prog 95 #[.slice A n c,.int .i64 lim] w λ e w'=>e = .returned (.func (.func 139) #[] #[.pointer (some ⟨w.heap.size,0,none⟩),.pointer (some ⟨w.heap.size + 1,0,none⟩)]) /\ w' = (w.alloc (.cells #[.slice A n c] 22)).alloc (.cells #[.int .i64 lim] 3):=by
 have hmf : ∀ (fn : Fn) (first cap : Array Value) (w : World),(Instr.makeFunc fn first cap).run Tryz.prog w = .ok (.func fn first cap) w:=λ _ _ _ _=>rfl
 go_enter Tryz.func95,Tryz.ntmps95
 go_wp2_with fail
 go_ret
 exact ⟨by simp,rfl⟩
theorem d0o {w : World} {g : Nat} {v : Value} (h : w.heap[g]? = some (.cells #[v] 22 (0,0))) : (loadVar 22 ⟨g,0,none⟩).run Tryz.prog w = .ok v w:=by
 have hc : w.cell? ⟨g,0,none⟩ = some v:=(a0a h 0).trans rfl
 simp [go_sem,hc]
theorem pfEnd {w W : World} {L : List Int} {A : Option Addr} {c : Nat} {x : Int} {D B1 : Nat} {tmps : Array Value} (hD : w.heap.size + 1 < D) (hB : Below w.heap.size w W) (kr : W.heap[w.heap.size]? = some (.cells #[.slice A L.length c] 22 (0,0))) (ke : W.heap[w.heap.size + 1]? = some (.cells #[.int .i64 x] 27 (0,0)))
    (kd : W.heap[D]? = some (.deferred (some []))) (hR : (Kd.int .u8).R 5 W B1 (λ _=>True) (.slice A L.length c) L) (hDB : D < B1)
    (h2 : tmps.getD 4 undef = .pointer (some ⟨w.heap.size,0,none⟩)) (h3 : tmps.getD 5 undef = .pointer (some ⟨w.heap.size + 1,0,none⟩)) :
    LeavesInM Fence.wide 3 Tryz.prog Tryz.f45 tmps (Told x L w) [{ target:=.collected D,args:=#[] }] .returning W:=by
 refine ⟨by simp,.inl ⟨_,_,rfl,run_takeDeferred kd,?_⟩⟩
 refine ⟨_,b0A (fn:=Tryz.f45) (p:=4) (q:=5) (t:=22) (u:=27) rfl _ _ _ _ _ _ h2 h3 (d0o ((World.putObj_heap_other (by omega)).trans kr)) (b0B ((World.putObj_heap_other (by omega)).trans ke)),?_⟩
 exact ⟨A,c,rfl,Kd.R_lower (R_put hR hDB _) (by omega),hB.putObj (by omega) _⟩
set_option maxRecDepth 100000 in
set_option maxHeartbeats 2000000 in
theorem b7Y (A : Option Addr) (c : Nat) (f : List Int) (limit : Int) (w : World) (hf : BSl w A c f) (hl : f.length <= 1000000) (hL : limit < 4611686018427387904) :
    Calls Tryz.prog 45 #[.slice A f.length c,.int .i64 limit] w (Told (a0C f limit).1 (a0C f limit).2 w):=by
 refine (callsIn_wide (n:=3)).1 ?_
 refine callsIn_of_wp_marks Tryz.func45 rfl trivial ?_ rfl
 simp only [Tryz.ntmps45,List.size_toArray,List.length_cons,List.length_nil,Nat.reduceAdd,Nat.reduceSub,Array.replicate_succ,Array.replicate_zero,List.push_toArray,List.append_toArray,List.nil_append,List.cons_append]
 obtain ⟨W0,hW0⟩ : ∃ W0,W0 = ((w.alloc (.cells #[.slice none 0 0] 22)).alloc (.cells #[.int .i64 0] 27)).alloc (.cells #[.slice none 0 0] 22):=⟨_,rfl⟩
 have HX:=Lib.hid (And.intro hf hl)
 clear hf hl
 gi_wp2
 rw [<- hW0]
 have hs0 : W0.heap.size = w.heap.size + 1 + 1 + 1:=by rw [hW0]; simp
 have hB0 : Below w.heap.size w W0:=by rw [hW0]; exact (((Below.refl w.heap.size w).alloc (Nat.le_refl _) _).alloc (by simp) _).alloc (by simp; omega) _
 have kr0 : W0.heap[w.heap.size]? = some (.cells #[.slice none 0 0] 22 (0,0)):=by rw [hW0]; exact a0i (a0i (a0h _ _) _) _
 have ke0 : W0.heap[w.heap.size + 1]? = some (.cells #[.int .i64 0] 27 (0,0)):=by rw [hW0]; exact a0i (a2m _ _ _) _
 have ko0 : W0.heap[w.heap.size + 1 + 1]? = some (.cells #[.slice none 0 0] 22 (0,0)):=by
  have:=a0h ((w.alloc (.cells #[.slice none 0 0] 22)).alloc (.cells #[.int .i64 0] 27)) (.cells #[.slice none 0 0] 22)
  simp only [World.size_alloc] at this
  rw [hW0]; exact this
 have H0:=Lib.hid (And.intro hs0 (And.intro hB0 (And.intro kr0 (And.intro ke0 ko0))))
 clear hW0 hs0 hB0 kr0 ke0 ko0
 refine ⟨trivial,(callsIn_wide.2 (d0n A f.length c limit W0)).mono ?_⟩
 rintro e w1 ⟨rfl,rfl⟩
 obtain ⟨Wb,hWb⟩ : ∃ Wb,Wb = (W0.alloc (.cells #[.slice A f.length c] 22)).alloc (.cells #[.int .i64 limit] 3):=⟨_,rfl⟩
 obtain ⟨pb,hpb⟩ : ∃ pb,pb = W0.heap.size:=⟨_,rfl⟩
 rw [<- hWb,<- hpb]
 have hsb : Wb.heap.size = pb + 1 + 1:=by rw [hWb,hpb]; simp
 have hps : pb = w.heap.size + 1 + 1 + 1:=by rw [hpb]; exact H0.out.1
 have hBb : Below w.heap.size w Wb:=by rw [hWb]; exact (H0.out.2.1.alloc (by have:=H0.out.1; omega) _).alloc (by have:=H0.out.1; simp; omega) _
 have kr : Wb.heap[w.heap.size]? = some (.cells #[.slice none 0 0] 22 (0,0)):=by rw [hWb]; exact a0i (a0i H0.out.2.2.1 _) _
 have ke : Wb.heap[w.heap.size + 1]? = some (.cells #[.int .i64 0] 27 (0,0)):=by rw [hWb]; exact a0i (a0i H0.out.2.2.2.1 _) _
 have ko : Wb.heap[w.heap.size + 1 + 1]? = some (.cells #[.slice none 0 0] 22 (0,0)):=by rw [hWb]; exact a0i (a0i H0.out.2.2.2.2 _) _
 have kf : Wb.heap[pb]? = some (.cells #[.slice A f.length c] 22 (0,0)):=by rw [hWb,hpb]; exact a0i (a0h W0 _) _
 have kl : Wb.heap[pb + 1]? = some (.cells #[.int .i64 limit] 3 (0,0)):=by rw [hWb,hpb]; exact a2m _ _ _
 have HWb:=Lib.hid (And.intro hsb (And.intro hps (And.intro hBb (And.intro kr (And.intro ke (And.intro ko (And.intro kf kl)))))))
 clear hWb hpb hsb hps hBb kr ke ko kf kl
 gi_wp2
 refine wpIn_rangeFunc ?_
 intro fn hfn
 obtain ⟨hsb,hps,hBb,kr,ke,ko,kf,kl⟩:=HWb.out
 obtain ⟨fv,hfv⟩ : ∃ fv,fv = Value.func (.func 139) #[] #[.pointer (some ⟨pb,0,none⟩),.pointer (some ⟨pb + 1,0,none⟩)]:=⟨_,rfl⟩
 obtain ⟨tm,htm⟩ : ∃ tm,tm = pfTm A f.length c limit w.heap.size (w.heap.size + 1) (w.heap.size + 1 + 1) (.slice A f.length c) (.int .i64 limit) fv undef undef:=⟨_,rfl⟩
 obtain ⟨W1,hW1⟩ : ∃ W1,(Wb.alloc (.deferred (some []))).alloc (.loop (pfRec fn tm Wb.heap.size .ready none)) = W1:=⟨_,rfl⟩
 have hs1 : W1.heap.size = Wb.heap.size + 1 + 1:=by rw [<- hW1]; simp
 have hold : ∀ k,k < Wb.heap.size -> W1.heap[k]? = Wb.heap[k]?:=λ k hk=>by
  rw [<- hW1]; exact (Below.heap_alloc _ _ k (by simp; omega)).trans (Below.heap_alloc _ _ k hk)
 have klp : W1.heap[Wb.heap.size + 1]? = some (.loop (pfRec fn tm Wb.heap.size .ready none)):=by
  rw [<- hW1]; have:=World.alloc_heap_new (Wb.alloc (.deferred (some []))) (.loop (pfRec fn tm Wb.heap.size .ready none)); rwa [World.size_alloc] at this
 have kd : W1.heap[Wb.heap.size]? = some (.deferred (some [])):=by
  rw [<- hW1]; exact (Below.heap_alloc _ _ _ (by simp)).trans (World.alloc_heap_new Wb _)
 have hB1 : Below w.heap.size w W1:=by rw [<- hW1]; exact (hBb.alloc (by omega) _).alloc (by simp; omega) _
 have hLay : Lay w.heap.size w.heap.size (w.heap.size + 1) (w.heap.size + 1 + 1) pb (pb + 1) Wb.heap.size (Wb.heap.size + 1) W1.heap.size:=⟨by omega,by omega,by omega,by omega,by omega,by omega,by omega,by omega⟩
 have hPf : Pf fn tm w.heap.size w.heap.size (w.heap.size + 1) (w.heap.size + 1 + 1) pb (pb + 1) Wb.heap.size (Wb.heap.size + 1) W1.heap.size w f limit [] W1:=
  ⟨⟨A,c,(hold _ (by omega)).trans kf,HX.out.1⟩,(hold _ (by omega)).trans kl,⟨none,0,(hold _ (by omega)).trans ko,Kd.R_nil _ _ _ _ _⟩,(hold _ (by omega)).trans kr,(hold _ (by omega)).trans ke,klp,kd,hB1,Nat.le_refl _⟩
 rw [htm] at hPf
 have hIt:=d0m 2 hLay rfl hPf HX.out.2 hL
 rw [<- htm] at hIt
 have HIt:=Lib.hid hIt
 have HK:=Lib.hid (And.intro hs1 (And.intro hsb hps))
 clear hIt hPf hLay kr ke ko kf kl klp kd hBb hold
 refine ⟨Wb.heap.size + 1,[{ target:=.collected Wb.heap.size,args:=#[] }],W1,{ target:=.fn (.func 139) #[.pointer (some ⟨pb,0,none⟩),.pointer (some ⟨pb + 1,0,none⟩)],args:=#[.func (.yield (Wb.heap.size + 1)) #[] #[]] },W1,139,
  #[.func (.yield (Wb.heap.size + 1)) #[] #[],.pointer (some ⟨pb,0,none⟩),.pointer (some ⟨pb + 1,0,none⟩)],W1,?_,?_,?_,?_,λ h=>(by cases h),?_⟩
 · rw [<- hW1,htm,hfv]; exact run_enterLoop_outer _ _ _ _ _
 · simp [resolve,go_sem]
 · intro f' hf'; exact trivial
 · simp [invoke,go_sem]
 · clear hW1 htm hfv
   refine HIt.out.mono ?_
   rintro e W2 ⟨⟨v,rfl⟩,hX⟩
   obtain ⟨hs1,hsb,hps⟩:=HK.out
   have hend:=run_endLoop (P:=Tryz.prog) hX.lp (by simp [pfRec])
   have hend2 : (Instr.endLoop (Wb.heap.size + 1)).run Tryz.prog W2 = .ok (some .ret) (W2.putObj (Wb.heap.size + 1) (.loop { pfRec fn tm Wb.heap.size .done (some .ret) with state:=.exhausted })):=hend
   obtain ⟨W3,hW3⟩ : ∃ W3,W2.putObj (Wb.heap.size + 1) (.loop { pfRec fn tm Wb.heap.size .done (some .ret) with state:=.exhausted }) = W3:=⟨_,rfl⟩
   rw [hW3] at hend2
   obtain ⟨⟨Ao,co,krr,hRR⟩,kee,-,kdd,hBB⟩:=hX
   have hB3 : Below w.heap.size w W3:=by rw [<- hW3]; exact hBB.putObj (by omega) _
   have kd3 : W3.heap[Wb.heap.size]? = some (.deferred (some [])):=by rw [<- hW3]; exact (World.putObj_heap_other (by omega)).trans kdd
   have kr3 : W3.heap[w.heap.size]? = some (.cells #[.slice Ao (a0C f limit).2.length co] 22 (0,0)):=by rw [<- hW3]; exact (World.putObj_heap_other (by omega)).trans krr
   have ke3 : W3.heap[w.heap.size + 1]? = some (.cells #[.int .i64 (a0C f limit).1] 27 (0,0)):=by rw [<- hW3]; exact (World.putObj_heap_other (by omega)).trans kee
   have hR3 : (Kd.int .u8).R 5 W3 W1.heap.size (λ _=>True) (.slice Ao (a0C f limit).2.length co) (a0C f limit).2:=by rw [<- hW3]; exact R_put hRR (by omega) _
   have hWbs : Wb.heap.size = w.heap.size + 1 + 1 + 1 + 1 + 1:=by omega
   rw [hWbs] at kd3
   have HZ:=Lib.hid (And.intro hB3 (And.intro kd3 (And.intro kr3 (And.intro ke3 hR3))))
   have HD:=Lib.hid (show w.heap.size + 1 < w.heap.size + 1 + 1 + 1 + 1 + 1 /\ w.heap.size + 1 + 1 + 1 + 1 + 1 < W1.heap.size by omega)
   refine ⟨some .ret,W3,hend2,?_⟩
   clear hW3 hend hend2 hBB krr hRR kee kdd hB3 kd3 kr3 ke3 hR3 hs1 hsb hps hWbs HIt HK
   gi_wp2
   exact pfEnd HD.out.1 HZ.out.1 HZ.out.2.2.1 HZ.out.2.2.2.1 HZ.out.2.1 HZ.out.2.2.2.2 HD.out.2 rfl rfl
theorem d0p {f : List Int} {limit : Int} (h : (a0C f limit).1 = 0) : a3k f limit = a0C f limit:=by unfold a3k; rw [if_neg (λ h2=>h2 h)]
theorem d0q {f : List Int} {limit : Int} (h : (a0C f limit).1 ≠ 0) : a3k f limit = ((a0C f limit).1,[]):=by unfold a3k; rw [if_pos h]
set_option maxRecDepth 100000 in
theorem d0r (A : Option Addr) (c : Nat) (f : List Int) (limit : Int) (w : World) (hf : BSl w A c f) (hl : f.length <= 1000000) (hL : limit < 4611686018427387904) :
    Calls Tryz.prog 47 #[.slice A f.length c,.int .i64 limit] w (Told (a3k f limit).1 (a3k f limit).2 w):=by
 have HPr:=Lib.hid (b7Y A c f limit w hf hl hL)
 have HE : Hid (_ /\ _):=Lib.hid (And.intro (d0p (f:=f) (limit:=limit)) (d0q (f:=f) (limit:=limit)))
 obtain ⟨P,hP⟩ : ∃ P,P = a0C f limit:=⟨_,rfl⟩
 obtain ⟨Q,hQ⟩ : ∃ Q,Q = a3k f limit:=⟨_,rfl⟩
 rw [<- hP,<- hQ] at HE
 rw [<- hP] at HPr
 rw [<- hQ]
 clear hf hP hQ
 obtain ⟨k,y⟩:=P
 dsimp only at HE HPr
 by_cases hk : k = 0
 · subst hk
   obtain rfl:=HE.out.1 rfl
   clear HE
   go_enter Tryz.func47,Tryz.ntmps47
   go_wp2_with fail
   refine HPr.out.mono ?_
   rintro e w1 ⟨A1,c1,rfl,hr1,hb1⟩
   have H1:=Lib.hid (And.intro hr1 hb1)
   clear hr1 hb1
   go_wp2_with fail
   go_ret2
   exact ⟨A1,c1,rfl,H1.out.1,H1.out.2⟩
 · obtain rfl:=HE.out.2 hk
   have hk2 : (k != 0) = true:=by simpa using hk
   clear HE hk
   go_enter Tryz.func47,Tryz.ntmps47
   go_wp2_with fail
   refine HPr.out.mono ?_
   rintro e w1 ⟨A1,c1,rfl,hr1,hb1⟩
   have H1:=Lib.hid hb1
   clear hr1 hb1
   go_wp2_with fail
   go_ret2
   exact ⟨none,0,rfl,Kd.R_nil _ _ _ _ _,H1.out⟩
end Go.Proofs.YtflfjpkmjnnodaaGreat
namespace Go.Proofs.YtflfjpkmjnnodaaGreat
open Go.RowKit Go.IntWalk Go.Proofs.YtflfjpkmjnnodaaGreatW.PrintWords
theorem Only.behind {S : Nat -> Prop} {a b c : World} {B : Nat} (h : Only S a b) (k : Below B b c) (hB : a.heap.size <= B) : Only S a c:=
 ⟨k.os.trans h.os,k.tape.trans h.tape,k.output.trans h.output,Nat.le_trans h.size k.size,λ i hi hs=>(k.block i (Nat.lt_of_lt_of_le hi hB)).trans (h.block i hi hs)⟩
theorem BSl.only {w w' : World} {A : Option Addr} {c : Nat} {p : List Int} {S : Nat -> Prop} (h : BSl w A c p) (ho : Only S w w') (hs : 0 < p.length -> ∀ ad,A = some ad -> ¬ S ad.block) : BSl w' A c p:=
 ⟨a6I h.row (λ hn ad ha=>ho.block _ (a8J h.row hn ha) (hs hn ad ha)),h.cap,h.nil,h.by'⟩
def Apart (p : Nat) (A : Option Addr) (x : List Int) : Prop:=0 < x.length -> ∀ ad,A = some ad -> ad.block ≠ p
theorem BSl.none_ (w : World) : BSl w none 0 []:=⟨(Kd.R_reads' (Kd.R_nil (Kd.int .u8) 5 w w.heap.size (λ _=>True))).2.2,Nat.le_refl _,λ _=>rfl,λ x hx=>by cases hx⟩
theorem OpenPost.out {r : Int × List Int × Nat × Bool} {w : World} {e : Ending} {w' : World} (h : OpenPost r w e w') (hy : Bytes r.2.1) : ∃ A c,e = .returned (.tuple #[.slice A r.2.1.length c,.int .i64 (r.2.2.1 : Nat),.bool r.2.2.2,.int .i64 r.1]) /\ BSl w' A c r.2.1 /\ Below w.heap.size w w':=by
 obtain ⟨A,c,he,hr,hb⟩:=h
 exact ⟨A,c,he,BSl.of hr hy,hb⟩
theorem BSl.apart {w : World} {A : Option Addr} {c p : Nat} {x : List Int} (h : BSl w A c x) (hp : w.heap.size <= p) : Apart p A x:=λ hn ad ha=>by
 have:=a8J h.row hn ha; omega
def kb (w0 : World) : Kd (List Int) where
 sz:=1
 E:=[]
 K:=λ _ x cs=>∃ A c,cs = [.slice A x.length c] /\ BSl w0 A c x
 M:=λ _ _ _ x cs=>∃ A c,cs = [.slice A x.length c] /\ BSl w0 A c x
 K_len:=by rintro w x cs ⟨A,c,rfl,_⟩; rfl
 K_one:=by rintro w x cs ⟨A,c,rfl,_⟩ u hu; rw [List.mem_singleton.1 hu]; rfl
 K_below:=λ _ h=>h
 K_of_M:=λ h=>h
 M_mono:=λ _ h=>h
 M_bound:=λ h=>h
 M_move:=λ _ h=>h
 M_lower:=λ _ h=>h
end Go.Proofs.YtflfjpkmjnnodaaGreat
namespace Go.Proofs.YtflfjpkmjnnodaaGreat
open Go.RowKit Go.IntWalk Go.Proofs.YtflfjpkmjnnodaaGreatW.PrintWords Go.Proofs.YtflfjpkmjnnodaaGreatW.PrintMore
attribute [local go_sem] a2e
theorem d0O : encM [] 10 = [80,78,67,72,1,10,0,0,4,0,0,0,0,0,0,0,0,0,0,0,0,0,0]:=by
 have h : putM [] true = [4,0,0,0,0,0,0,0,0,0,0]:=by
  unfold putM
  rw [best_nilP.1,best_nilP.2]
  rfl
 show headL 10 ++ (blksM (2 ^ 10) 0 [] ++ tailL []) = _
 rw [show blksM (2 ^ 10) 0 ([] : List Int) = putM [] true from rfl,h]
 rfl
theorem d0P : Bytes [80,78,67,72,1,10,0,0,4,0,0,0,0,0,0,0,0,0,0,0,0,0,0]:=by intro x hx; simp at hx; omega
set_option maxRecDepth 100000 in
set_option maxHeartbeats 1000000 in
theorem a6m (w : World) : Calls Tryz.prog 38 #[] w (Ret (.bool true) w):=by
 have HE:=b7x none 0 [] 10 w (BSl.none_ w) (by decide) (by decide)
 rw [show ((10 : Nat) : Int) = 10 from rfl,show ([] : List Int).length = 0 from rfl] at HE
 have hd : a3k (encM [] 10) 0 = (0,[]):=c8U (log:=10) (x:=[]) (λ x h=>by cases h) (by decide) (by decide) (Int.le_refl _)
 have hsz : sizeM (encM [] 10) 0 = 0:=c8Y (log:=10) (x:=[]) (λ x h=>by cases h) (by decide) (by decide) (Int.le_refl _)
 rw [d0O] at HE hd hsz
 obtain ⟨f,hf⟩ : ∃ f : List Int,f = [80,78,67,72,1,10,0,0,4,0,0,0,0,0,0,0,0,0,0,0,0,0,0]:=⟨_,rfl⟩
 have hfb : Bytes f:=by rw [hf]; exact d0P
 have hfl : f.length = 23:=by rw [hf]; rfl
 have hst : strOfNums f = ⟨#[80,78,67,72,1,10,0,0,4,0,0,0,0,0,0,0,0,0,0,0,0,0,0]⟩:=by rw [hf]; rfl
 rw [<- hf] at HE hd hsz
 have HF:=Lib.hid (And.intro hfb (And.intro hfl (And.intro hst (And.intro hd hsz))))
 clear hf hfb hfl hst hd hsz
 go_enter Tryz.func38,Tryz.ntmps38
 go_wp2_with fail
 refine HE.mono ?_
 rintro e w1 ⟨A1,c1,rfl,hr1,hb1⟩
 have hB:=BSl.of hr1 HF.out.1
 have HD:=d0r A1 c1 f 0 w1 hB (by have:=HF.out.2.1; omega) (by decide)
 rw [HF.out.2.2.2.1] at HD
 have HD:=Lib.hid HD
 have H1:=Lib.hid (And.intro hB hb1)
 clear hr1 hb1 hB HE
 go_wp2_with fail
 refine HD.out.mono ?_
 rintro e w2 ⟨A2,c2,rfl,-,hb2⟩
 have hcv:=(H1.out.1.below hb2).str
 rw [HF.out.2.2.1] at hcv
 have HSz:=b7N A1 c1 f 0 w2 (H1.out.1.below hb2) (by have:=HF.out.2.1; omega) (by decide)
 rw [HF.out.2.2.2.2] at HSz
 have HSz:=Lib.hid HSz
 have HB2:=Lib.hid (a0k H1.out.2 hb2)
 clear hb2
 go_wp2_with fail
 refine HSz.out.mono ?_
 rintro e w3 ⟨rfl,hb3⟩
 have HB3:=Lib.hid (a0k HB2.out hb3)
 clear hb3
 go_wp2_with fail
 go_ret
 exact ⟨rfl,HB3.out⟩
end Go.Proofs.YtflfjpkmjnnodaaGreat
namespace Go.Proofs.YtflfjpkmjnnodaaGreat
open Go.RowKit Go.IntWalk Go.Proofs.YtflfjpkmjnnodaaGreatW.PrintWords Go.Proofs.YtflfjpkmjnnodaaGreatW.PrintMore
theorem d0T {f : List Int} {log room : Int} {first : Bool} (h : (openM f log first room).1 = 0) : (scanM f log first room).1 = 0 /\ ¬ f.length < 11 + (scanM f log first room).2.2.2.1 /\ (openM f log first room).2.1.length = (scanM f log first room).2.2.1 /\ (openM f log first room).2.2.1 = 11 + (scanM f log first room).2.2.2.1 /\ (openM f log first room).2.2.2 = (scanM f log first room).2.2.2.2.1:=by
 unfold openM at h ⊢
 by_cases a1 : (scanM f log first room).1 ≠ 0
 · rw [if_pos a1] at h; exact absurd h a1
 rw [if_neg a1] at h ⊢
 by_cases a2 : f.length < 11 + (scanM f log first room).2.2.2.1
 · rw [if_pos a2] at h; cases h
 rw [if_neg a2] at h ⊢
 by_cases a3 : a0P 0 ((f.drop 11).take (scanM f log first room).2.2.2.1) ≠ (scanM f log first room).2.2.2.2.2
 · rw [if_pos a3] at h; cases h
 rw [if_neg a3] at h ⊢
 by_cases a4 : (pickD ((scanM f log first room).2.1 : Nat) ((f.drop 11).take (scanM f log first room).2.2.2.1) (scanM f log first room).2.2.1).1 ≠ 0
 · rw [if_pos a4] at h; exact absurd h a4
 rw [if_neg a4]
 have hl:=b7U (Classical.not_not.1 a4)
 rw [Int.toNat_natCast] at hl
 exact ⟨Classical.not_not.1 a1,a2,hl,rfl,rfl⟩
theorem b1i (limit : Int) : ∀ (n : Nat) (f : List Int) (log : Int) (first : Bool) (sum : Nat),Bytes f -> (sum : Int) <= limit -> sum <= sizeG n f log first limit sum /\ (sizeG n f log first limit sum : Int) <= limit /\ sizeG n f log first limit sum <= sum + 131072 * (f.length / 11)
 | 0,f,log,first,sum,hf,hs=>by unfold sizeG; exact ⟨Nat.le_refl _,hs,Nat.le_add_right _ _⟩
 | n + 1,f,log,first,sum,hf,hs=>by
  unfold sizeG
  have hB:=λ h=>a5s hf (log:=log) (room:=limit - (sum : Int)) (first:=first) h
  obtain ⟨k,h⟩ : ∃ k,scanM f log first (limit - (sum : Int)) = k:=⟨_,rfl⟩
  rw [h] at hB ⊢
  by_cases a : k.1 ≠ 0 \/ f.length < 11 + k.2.2.2.1
  · rw [if_pos a]; exact ⟨Nat.le_refl _,hs,Nat.le_add_right _ _⟩
  rw [if_neg a]
  obtain ⟨a0,a1⟩:=not_or.1 a
  obtain ⟨b1,b2,b3,b4,b5,b6,b7⟩:=hB (Classical.not_not.1 a0)
  have hd : 1 <= f.length / 11:=by omega
  by_cases c : k.2.2.2.2.1 = true
  · rw [if_pos c]
    exact ⟨Nat.le_add_right _ _,by push_cast; omega,by omega⟩
  · rw [if_neg c]
    obtain ⟨i1,i2,i3⟩:=b1i limit n (f.drop (11 + k.2.2.2.1)) log false (sum + k.2.2.1) (a2x hf _) (by push_cast; omega)
    rw [List.length_drop] at i3
    refine ⟨by omega,i2,?_⟩
    have : (f.length - (11 + k.2.2.2.1)) / 11 + 1 <= f.length / 11:=by omega
    omega
theorem b8k (limit : Int) : ∀ (n : Nat) (f : List Int) (log : Int) (first : Bool) (sum : Nat) (out : List Int),Bytes f -> out.length = sum -> (sum : Int) <= limit -> (preG n f log first (limit - sum) out).2.length <= sizeG n f log first limit sum /\ ((preG n f log first (limit - sum) out).1 = 0 -> (preG n f log first (limit - sum) out).2.length = sizeG n f log first limit sum)
 | 0,f,log,first,sum,out,hf,ho,hs=>by unfold preG sizeG; exact ⟨Nat.le_of_eq ho,(λ h=>by cases h)⟩
 | n + 1,f,log,first,sum,out,hf,ho,hs=>by
  by_cases a1 : (openM f log first (limit - (sum : Int))).1 = 0
  · obtain ⟨s1,s2,s3,s4,s5⟩:=d0T a1
    have hbd:=(a5s hf s1).2.2.2.2.2.2
    obtain ⟨k,y,u,l,hO⟩ : ∃ k y u l,openM f log first (limit - (sum : Int)) = (k,y,u,l):=⟨_,_,_,_,rfl⟩
    obtain ⟨k',h,hS⟩ : ∃ k h,scanM f log first (limit - (sum : Int)) = (k,h):=⟨_,_,rfl⟩
    rw [hO] at a1 s3 s4 s5
    rw [hS] at s1 s2 s3 s4 s5 hbd
    dsimp only at a1 s1 s2 s3 s4 s5 hbd
    subst a1 s1
    rw [b7M hS s2]
    by_cases c : l = true
    · subst c
      rw [b7W hO,if_pos s5.symm]
      rw [List.length_append,ho,s3]
      exact ⟨Nat.le_refl _,λ _=>rfl⟩
    · have c' : l = false:=by simpa using c
      subst c'
      rw [b7X hO,if_neg (by rw [<- s5]; decide),s4]
      have e : limit - (sum : Int) - (y.length : Int) = limit - ((sum + h.2.1 : Nat) : Int):=by rw [s3]; push_cast; omega
      rw [e]
      exact b8k limit n (f.drop (11 + h.2.2.1)) log false (sum + h.2.1) (out ++ y) (a2x hf _) (by rw [List.length_append,ho,s3]) (by push_cast; omega)
  · obtain ⟨k,y,u,l,hO⟩ : ∃ k y u l,openM f log first (limit - (sum : Int)) = (k,y,u,l):=⟨_,_,_,_,rfl⟩
    rw [hO] at a1
    rw [b7V hO a1]
    exact ⟨by rw [ho]; exact (b1i limit (n + 1) f log first sum hf hs).1,λ h=>absurd h a1⟩
theorem d0U {f : List Int} (hf : Bytes f) {limit : Int} (hL : 0 <= limit) : (sizeM f limit : Int) <= limit /\ sizeM f limit <= 131072 * (f.length / 11) /\ (a0C f limit).2.length <= sizeM f limit /\ ((a0C f limit).1 = 0 -> (a0C f limit).2.length = sizeM f limit):=by
 unfold sizeM a0C
 rw [if_neg (show ¬ limit < 0 by omega)]
 by_cases h : headM f ≠ 0
 · rw [if_pos h,if_pos (.inl h)]
   exact ⟨hL,Nat.zero_le _,Nat.le_refl _,λ h2=>absurd h2 h⟩
 · rw [if_neg h,if_neg (by rintro (h2 | h2); exact h h2; omega)]
   obtain ⟨-,b2,b3⟩:=b1i limit (f.length + 1) (f.drop 8) (f.getD 5 0) true 0 (a2x hf 8) hL
   obtain ⟨p1,p2⟩:=b8k limit (f.length + 1) (f.drop 8) (f.getD 5 0) true 0 [] (a2x hf 8) rfl hL
   rw [show limit - ((0 : Nat) : Int) = limit by omega] at p1 p2
   rw [List.length_drop] at b3
   exact ⟨b2,by omega,p1,p2⟩
set_option maxRecDepth 100000 in
set_option maxHeartbeats 2000000 in
theorem d0V (A : Option Addr) (ca : Nat) (f : List Int) (lm : Nat) (w : World) (hf : BSl w A ca f) (hl : f.length <= 300) (hlm : lm < 4294967296) :
    Calls Tryz.prog 12 #[.slice A f.length ca,.int .u32 lm] w (Ret (.bool true) w):=by
 have d1 : decide (300 < (f.length : Int)) = false:=decide_eq_false (by omega)
 have q1 : IntKind.i64.wrap (lm : Int) = (lm : Int):=i64_in _ (by omega)
 obtain ⟨z1,z2,z3,z4⟩:=d0U hf.by' (limit:=(lm : Int)) (by omega)
 have HLt : Hid (∀ W,Below w.heap.size w W -> Calls Tryz.prog 44 #[.slice A f.length ca,.int .i64 lm] W (λ e w'=>e = .returned (.bool (a2z f lm)) /\ Below W.heap.size W w')):=Lib.hid (λ W hW=>b7P A ca f lm W (hf.below hW) (by omega) (by omega))
 have HSz : Hid (∀ W,Below w.heap.size w W -> Calls Tryz.prog 48 #[.slice A f.length ca,.int .i64 lm] W (λ e w'=>e = .returned (.int .i64 (sizeM f lm : Nat)) /\ Below W.heap.size W w')):=Lib.hid (λ W hW=>b7N A ca f lm W (hf.below hW) (by omega) (by omega))
 have HPf : Hid (∀ W,Below w.heap.size w W -> Calls Tryz.prog 45 #[.slice A f.length ca,.int .i64 lm] W (Told (a0C f lm).1 (a0C f lm).2 W)):=Lib.hid (λ W hW=>b7Y A ca f lm W (hf.below hW) (by omega) (by omega))
 obtain ⟨k,y,hP⟩ : ∃ k y,a0C f lm = (k,y):=⟨_,_,rfl⟩
 obtain ⟨n,hn⟩ : ∃ n,n = sizeM f lm:=⟨_,rfl⟩
 obtain ⟨lt,hlt⟩ : ∃ l,l = a2z f lm:=⟨_,rfl⟩
 rw [hP] at z3 z4 HPf
 rw [<- hn] at z1 z2 z3 z4 HSz
 rw [<- hlt] at HLt
 dsimp only at z3 z4 HPf
 unfold Told at HPf
 obtain ⟨d,hd⟩ : ∃ d,d = f.length / 11:=⟨_,rfl⟩
 rw [<- hd] at z2
 have hdl : d <= 300:=by omega
 have q2 : (f.length : Int) / 11 = (d : Int):=by rw [hd]; simp
 have q2' : (f.length : Int).tdiv 11 = (d : Int):=by rw [Int.tdiv_eq_ediv_of_nonneg (by omega),q2]
 have q3 : IntKind.i64.wrap (d : Int) = (d : Int):=i64_in _ (by omega)
 obtain ⟨m,hm⟩ : ∃ m,m = d * 131072:=⟨_,rfl⟩
 have q4 : (d : Int) * 131072 = (m : Int):=by rw [hm]; simp
 have q5 : IntKind.i64.wrap (m : Int) = (m : Int):=i64_in _ (by omega)
 have c1 : n <= lm:=by omega
 have c2 : n <= m:=by omega
 have c3 : y.length <= n:=z3
 have HZ:=Lib.hid z4
 clear hf hl hP hn hlt hd hm z1 z2 z3 z4 hdl hlm
 cases lt with
 | false=>
  go_enter Tryz.func12,Tryz.ntmps12
  go_wp2_with fail
  refine (a6m w).mono ?_
  rintro e w1 ⟨rfl,hb1⟩
  have HB1:=Lib.hid hb1
  have H1:=Lib.hid (HLt.out w1 hb1)
  clear hb1
  go_wp2_with fail
  refine H1.out.mono ?_
  rintro e w2 ⟨rfl,hb2⟩
  have HB2:=Lib.hid (a0k HB1.out hb2)
  clear hb2
  go_wp2_with fail
  go_ret
  exact ⟨rfl,HB2.out⟩
 | true=>
  go_enter Tryz.func12,Tryz.ntmps12
  go_wp2_with fail
  refine (a6m w).mono ?_
  rintro e w1 ⟨rfl,hb1⟩
  have HB1:=Lib.hid hb1
  have H1:=Lib.hid (HLt.out w1 hb1)
  clear hb1
  go_wp2_with fail
  refine H1.out.mono ?_
  rintro e w2 ⟨rfl,hb2⟩
  have HB2:=Lib.hid (a0k HB1.out hb2)
  have H2:=Lib.hid (HSz.out w2 HB2.out)
  clear hb2
  go_wp2_with fail
  refine H2.out.mono ?_
  rintro e w3 ⟨rfl,hb3⟩
  have HB3:=Lib.hid (a0k HB2.out hb3)
  have H3:=Lib.hid (HPf.out w3 HB3.out)
  clear hb3
  go_wp2_with fail
  refine H3.out.mono ?_
  rintro e w4 ⟨A4,c4,rfl,-,hb4⟩
  have HB4:=Lib.hid (a0k HB3.out hb4)
  clear hb4
  by_cases hk : k = 0
  · subst hk
    have c4':=HZ.out rfl
    have c5 : (y.length == n) = true:=by rw [c4']; simp
    have c6 : ((y.length : Int) == (n : Int)) = true:=by rw [c4']; simp
    have c7 : decide (y.length = n) = true:=decide_eq_true c4'
    clear c4'
    go_wp2_with fail
    go_ret
    exact ⟨rfl,HB4.out⟩
  · have c5 : (k != 0) = true:=by simpa using hk
    clear hk
    go_wp2_with fail
    go_ret
    exact ⟨rfl,HB4.out⟩
set_option maxRecDepth 100000 in
theorem d0W (A : Option Addr) (ca : Nat) (f : List Int) (lm : Int) (w : World) (hr : (Kd.int .u8).C w A f.length f) (hc : f.length <= ca) (hby : Bytes f) (hbig : f.length * 1 <= 140737488351232) (hnil : A = none -> ca = 0) (hm : (Lit.int .u32 lm).wf = true) :
    Calls Tryz.prog 12 #[.slice A f.length ca,.int .u32 lm] w (Ret (.bool true) w):=by
 have hm2 : 0 <= lm /\ lm < 4294967296:=by
  have a : IntKind.u32.min = 0:=rfl
  have b : IntKind.u32.max = 4294967295:=rfl
  simp only [Lit.wf,a,b,Bool.and_eq_true,decide_eq_true_eq] at hm
  omega
 obtain ⟨k,rfl⟩ : ∃ k : Nat,lm = k:=⟨lm.toNat,by omega⟩
 by_cases h1 : f.length <= 300
 · exact d0V A ca f k w ⟨hr,hc,hnil,hby⟩ h1 (by omega)
 · have d1 : decide (300 < (f.length : Int)) = true:=decide_eq_true (by omega)
   have q1 : IntKind.i64.wrap (k : Int) = (k : Int):=i64_in _ (by omega)
   have HLt : Hid (∀ W,Below w.heap.size w W -> Calls Tryz.prog 44 #[.slice A f.length ca,.int .i64 k] W (λ e w'=>e = .returned (.bool (a2z f k)) /\ Below W.heap.size W w')):=Lib.hid (λ W hW=>b7P A ca f k W (BSl.below ⟨hr,hc,hnil,hby⟩ hW) (by omega) (by omega))
   obtain ⟨lt,hlt⟩ : ∃ l,l = a2z f k:=⟨_,rfl⟩
   rw [<- hlt] at HLt
   clear hr hc hby hbig hnil hm hm2 h1 hlt
   go_enter Tryz.func12,Tryz.ntmps12
   go_wp2_with fail
   refine (a6m w).mono ?_
   rintro e w1 ⟨rfl,hb1⟩
   have HB1:=Lib.hid hb1
   have H1:=Lib.hid (HLt.out w1 hb1)
   clear hb1
   go_wp2_with fail
   refine H1.out.mono ?_
   rintro e w2 ⟨rfl,hb2⟩
   have HB2:=Lib.hid (a0k HB1.out hb2)
   clear hb2
   go_wp2_with fail
   go_ret
   exact ⟨rfl,HB2.out⟩
end Go.Proofs.YtflfjpkmjnnodaaGreat
