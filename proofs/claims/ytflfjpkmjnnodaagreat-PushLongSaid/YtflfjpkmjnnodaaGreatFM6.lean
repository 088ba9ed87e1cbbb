/- Plain: frames: their heads, blocks and tails; what they tell. -/
import Derived.Test.YtflfjpkmjnnodaaGreatFM4
import Derived.Test.YtflfjpkmjnnodaaGreatFM1
import Derived.Test.YtflfjpkmjnnodaaGreatFM2
import Derived.Test.YtflfjpkmjnnodaaGreatFS1
import Derived.Test.YtflfjpkmjnnodaaGreatFM0
import Derived.WalkMore
import Derived.ArgAppend
import Derived.Lib.SlBytesConst
import Derived.Test.YtflfjpkmjnnodaaGreatFM5
import Derived.RangeFuncRecord
import Derived.RangeFuncSeq
import Derived.WalkKit
import Derived.OwnWalkIn
import Derived.TacticsInMore
import Derived.BigFrameIn
import Derived.LoopNIn
import Derived.LoopIn
import Derived.RangeFuncBox
import Derived.Stop.RegionWithIn
import Derived.RangeFuncLeaves
import Derived.RangeFuncCalls
import Derived.Laws.EntriesVeiled
namespace Go.Proofs.YtflfjpkmjnnodaaGreat
open Go.RowKit
def headL (log : Nat) : List Int:=[80,78,67,72,1,(log : Int),0,0]
def tailL (x : List Int) : List Int:=leN (a0S 0 x) 4
def blksM (s : Nat) : Nat -> List Int -> List Int
 | 0,x=>putM x true
 | n + 1,x=>if s < x.length then putM (x.take s) false ++ blksM s n (x.drop s) else putM x true
def encM (x : List Int) (log : Nat) : List Int:=headL log ++ (blksM (2 ^ log) x.length x ++ tailL x)
def headE (i : Nat) (c : Int) : Int:=
 if i < 4 /\ c ≠ ([80,78,67,72] : List Int).getD i 0 then 8 else if i = 4 /\ c ≠ 1 then 9 else if i = 5 /\ ¬ (10 <= c /\ c <= 17) then 5 else if 5 < i /\ c ≠ 0 then 4 else 0
def headG (f : List Int) : Nat -> Nat -> Int
 | 0,_=>0
 | d + 1,i=>if f.length <= i then 3 else if headE i (f.getD i 0) ≠ 0 then headE i (f.getD i 0) else headG f d (i + 1)
def headM (f : List Int) : Int:=headG f 8 0
def a1k (f x : List Int) : Int:=if f.length < 4 then 3 else if f.take 4 ≠ tailL x then 15 else if 4 < f.length then 16 else 0
def preG : Nat -> List Int -> Int -> Bool -> Int -> List Int -> Int × List Int
 | 0,_,_,_,_,out=>(3,out)
 | n + 1,f,log,first,limit,out=>
  if (openM f log first limit).1 ≠ 0 then ((openM f log first limit).1,out) else
  if (openM f log first limit).2.2.2 = true then (a1k (f.drop (openM f log first limit).2.2.1) (out ++ (openM f log first limit).2.1),out ++ (openM f log first limit).2.1) else
  preG n (f.drop (openM f log first limit).2.2.1) log false (limit - (openM f log first limit).2.1.length) (out ++ (openM f log first limit).2.1)
def a0C (f : List Int) (limit : Int) : Int × List Int:=
 if limit < 0 then (1,[]) else if headM f ≠ 0 then (headM f,[]) else preG (f.length + 1) (f.drop 8) (f.getD 5 0) true limit []
def a1L (f : List Int) (limit : Int) : Int × List Int:=if (a0C f limit).1 ≠ 0 then ((a0C f limit).1,[]) else a0C f limit
theorem best_nilP : (bestP ([] : List Int)).1 = 0 /\ (bestP ([] : List Int)).2 = []:=by
 have h : bestP ([] : List Int) = (0,[]):=by
  unfold bestP a0X
  simp
 rw [h]; exact ⟨rfl,rfl⟩
theorem a3b {b : List Int} {log : Nat} {first : Bool} (h : b.length = 2 ^ log) (k : Nat) : a1z (log : Int) first k b.length false = true:=by
 unfold a1z; rw [if_pos rfl,Int.toNat_natCast]; exact decide_eq_true h
theorem a3v {b : List Int} {log : Nat} {first : Bool} (h : b.length <= 2 ^ log) (h0 : b.length = 0 -> first = true) : ∀ k : Nat,k <= 3 -> (bestP b).1 = (k : Nat) -> a1z (log : Int) first k b.length true = true:=by
 intro k _ hk
 unfold a1z
 rw [if_neg (by simp)]
 by_cases e : b.length = 0
 · have hb : b = []:=List.eq_nil_of_length_eq_zero e
   rw [if_pos e,h0 e]
   subst hb
   rw [best_nilP.1] at hk
   have : k = 0:=by omega
   rw [this]; rfl
 · rw [if_neg e,Int.toNat_natCast]; exact decide_eq_true h
theorem a2K {b : List Int} (h : Bytes b) (k : Nat) : Bytes (b.take k):=λ x hx=>h x (List.mem_of_mem_take hx)
theorem a3O {b : List Int} (h : Bytes b) (k : Nat) : Bytes (b.drop k):=λ x hx=>h x (List.mem_of_mem_drop hx)
theorem a2L {a b : List Int} {n : Nat} (h : n = a.length) : (a ++ b).drop n = b:=by
 rw [h,List.drop_append_of_le_length (Nat.le_refl _),List.drop_of_length_le (Nat.le_refl _),List.nil_append]
def cutN (s : Nat) : Nat -> List Int -> Nat -> Nat
 | 0,x,j=>if j < (putM x true).length then 0 else x.length
 | n + 1,x,j=>if s < x.length then (if j < (putM (x.take s) false).length then 0 else s + cutN s n (x.drop s) (j - (putM (x.take s) false).length)) else if j < (putM x true).length then 0 else x.length
theorem c8R {log : Nat} (hlog : 10 <= log /\ log <= 17) (tl : List Int) (htl : tl.length = 4) : ∀ (n : Nat) (x : List Int) (first : Bool) (limit : Int) (out : List Int) (j k : Nat),Bytes x -> x.length <= 40000 -> x.length <= n -> (x.length = 0 -> first = true) -> (x.length : Int) <= limit -> j < (blksM (2 ^ log) n x ++ tl).length -> j < k ->
    preG k ((blksM (2 ^ log) n x ++ tl).take j) log first limit out = (3,out ++ x.take (cutN (2 ^ log) n x j)):=by
 have hp : 0 < 2 ^ log:=Nat.two_pow_pos log
 have short : ∀ (b m : List Int) (first last : Bool) (limit : Int) (out : List Int) (j k : Nat),Bytes b -> b.length <= 40000 -> (b.length : Int) <= limit -> (∀ k,k <= 3 -> (bestP b).1 = (k : Nat) -> a1z (log : Int) first k b.length last = true) -> j < (putM b last).length -> 0 < k -> preG k ((putM b last ++ m).take j) log first limit out = (3,out):=by
  intro b m first last limit out j k hb hl hL hs hj hk
  obtain ⟨k,rfl⟩ : ∃ j,k = j + 1:=⟨k - 1,by omega⟩
  have ho:=(c7i (log:=(log : Int)) hb hl (by omega) hL hs hj).1
  rw [List.take_append_of_le_length (by omega)]
  unfold preG
  rw [ho,if_pos (by show (3 : Int) ≠ 0; decide)]
 have lastc : ∀ (x : List Int) (first : Bool) (limit : Int) (out : List Int) (j k : Nat),Bytes x -> x.length <= 40000 -> x.length <= 2 ^ log -> (x.length = 0 -> first = true) -> (x.length : Int) <= limit -> j < (putM x true ++ tl).length -> 0 < k ->
     preG k ((putM x true ++ tl).take j) log first limit out = (3,out ++ x.take (if j < (putM x true).length then 0 else x.length)):=by
  intro x first limit out j k hb hl hs h0 hL hj hk
  by_cases h : j < (putM x true).length
  · rw [short x tl first true limit out j k hb hl hL (a3v hs h0) h hk,if_pos h,List.take_zero,List.append_nil]
  · rw [if_neg h]
    obtain ⟨k,rfl⟩ : ∃ j,k = j + 1:=⟨k - 1,by omega⟩
    have ho:=a5f (m:=tl.take (j - (putM x true).length)) hb hl (log:=(log : Int)) (by omega) hL (a3v hs h0)
    rw [List.take_append,List.take_of_length_le (by omega)]
    unfold preG
    rw [ho]
    dsimp only
    rw [if_neg (λ h=>h rfl),if_pos rfl,a2L (by rw [a0T]),List.take_length]
    unfold a1k
    rw [if_pos (by rw [List.length_append] at hj; rw [List.length_take]; omega)]
 intro n
 induction n with
 | zero=>
  intro x first limit out j k hb hl hn h0 hL hj hk
  exact lastc x first limit out j k hb hl (by omega) h0 hL hj (by omega)
 | succ n ih=>
  intro x first limit out j k hb hl hn h0 hL hj hk
  unfold blksM at hj ⊢
  unfold cutN
  by_cases h : 2 ^ log < x.length
  · rw [if_pos h] at hj ⊢
    rw [if_pos h]
    rw [List.append_assoc] at hj ⊢
    have hlt : (x.take (2 ^ log)).length = 2 ^ log:=by rw [List.length_take]; omega
    by_cases hj2 : j < (putM (x.take (2 ^ log)) false).length
    · rw [if_pos hj2,List.take_zero,List.append_nil]
      exact short (x.take (2 ^ log)) _ first false limit out j k (a2K hb _) (by omega) (by omega) (λ k _ _=>a3b hlt k) hj2 (by omega)
    · rw [if_neg hj2]
      obtain ⟨k,rfl⟩ : ∃ j,k = j + 1:=⟨k - 1,by omega⟩
      rw [List.take_append,List.take_of_length_le (by omega)]
      have ho:=a5f (m:=(blksM (2 ^ log) n (x.drop (2 ^ log)) ++ tl).take (j - (putM (x.take (2 ^ log)) false).length)) (a2K hb (2 ^ log)) (by omega) (log:=(log : Int)) (room:=limit) (first:=first) (last:=false) (by omega) (by omega) (λ k _ _=>a3b hlt k)
      unfold preG
      rw [ho]
      dsimp only
      rw [if_neg (λ h=>h rfl),if_neg (by simp),a2L (by rw [a0T])]
      have hd : (x.drop (2 ^ log)).length = x.length - 2 ^ log:=by rw [List.length_drop]
      have hpl:=a0T (x.take (2 ^ log)) false
      rw [ih (x.drop (2 ^ log)) false (limit - ((x.take (2 ^ log)).length : Int)) (out ++ x.take (2 ^ log)) (j - (putM (x.take (2 ^ log)) false).length) k (a3O hb _) (by omega) (by omega) (by omega) (by omega) (by rw [List.length_append] at hj; omega) (by omega)]
      rw [List.append_assoc]
      congr 2
      rw [List.take_add]
  · rw [if_neg h] at hj ⊢
    rw [if_neg h]
    exact lastc x first limit out j k hb hl (by omega) h0 hL hj (by omega)
theorem b7i (f : List Int) : ∀ (d i : Nat),(∀ k,k < i + d -> headE k (f.getD k 0) = 0) -> i + d <= f.length -> headG f d i = 0
 | 0,_,_,_=>rfl
 | d + 1,i,h,hl=>by
  unfold headG
  rw [if_neg (by omega),if_neg (λ x=>x (h i (by omega)))]
  exact b7i f d (i + 1) (λ k hk=>h k (by omega)) (by omega)
theorem b7j (f : List Int) : ∀ (d i : Nat),(∀ k,k < f.length -> headE k (f.getD k 0) = 0) -> i <= f.length -> f.length < i + d -> headG f d i = 3
 | 0,i,_,h1,h2=>by omega
 | d + 1,i,h,h1,h2=>by
  unfold headG
  by_cases e : f.length <= i
  · rw [if_pos e]
  · rw [if_neg e,if_neg (λ x=>x (h i (by omega)))]
    exact b7j f d (i + 1) h (by omega) (by omega)
theorem b7k {log : Nat} (h : 10 <= log /\ log <= 17) (m : List Int) : ∀ k,k < 8 -> headE k ((headL log ++ m).getD k 0) = 0:=by
 intro k hk
 have : k = 0 \/ k = 1 \/ k = 2 \/ k = 3 \/ k = 4 \/ k = 5 \/ k = 6 \/ k = 7:=by omega
 rcases this with rfl | rfl | rfl | rfl | rfl | rfl | rfl | rfl
 · rfl
 · rfl
 · rfl
 · rfl
 · rfl
 · show headE 5 (log : Int) = 0
   unfold headE
   rw [if_neg (by omega),if_neg (by omega),if_neg (by omega),if_neg (by omega)]
 · rfl
 · rfl
theorem a3c (log : Nat) : (headL log).length = 8:=rfl
theorem a5n {log : Nat} (h : 10 <= log /\ log <= 17) (m : List Int) : headM (headL log ++ m) = 0:=
 b7i _ 8 0 (λ k hk=>b7k h m k (by omega)) (by rw [List.length_append,a3c]; omega)
theorem c8S (f : List Int) {j k : Nat} (h : k < j) : (f.take j).getD k 0 = f.getD k 0:=by
 rw [List.getD_eq_getElem?_getD,List.getElem?_take,if_pos h,<- List.getD_eq_getElem?_getD]
theorem b7l {log : Nat} (h : 10 <= log /\ log <= 17) (m : List Int) {j : Nat} (hj : j < 8) : headM ((headL log ++ m).take j) = 3:=by
 have hl : ((headL log ++ m).take j).length = j:=by rw [List.length_take,List.length_append,a3c]; omega
 refine b7j _ 8 0 (λ k hk=>?_) (by omega) (by omega)
 rw [hl] at hk
 rw [c8S _ hk]; exact b7k h m k (by omega)
theorem a1M (x : List Int) : (tailL x).length = 4:=a1T _ _
section
variable {x : List Int} {log : Nat} (hb : Bytes x) (hl : x.length <= 40000) (hlog : 10 <= log /\ log <= 17)
include hb hl hlog in
include hb hl hlog in
include hb hl hlog in
include hb hl hlog in
include hb hl hlog in
include hb hl hlog in
theorem c8X {j : Nat} (hj : j < (encM x log).length) {limit : Int} (hL : (x.length : Int) <= limit) : a0C ((encM x log).take j) limit = (3,x.take (if j < 8 then 0 else cutN (2 ^ log) x.length x (j - 8))):=by
 have hlen : (encM x log).length = 8 + (blksM (2 ^ log) x.length x ++ tailL x).length:=by unfold encM; rw [List.length_append,a3c]
 by_cases h8 : j < 8
 · rw [if_pos h8,List.take_zero]
   have hh:=b7l hlog (blksM (2 ^ log) x.length x ++ tailL x) h8
   have hh' : headM ((encM x log).take j) = 3:=hh
   unfold a0C
   rw [if_neg (by omega),if_pos (by rw [hh']; decide),hh']
 · rw [if_neg h8]
   have e : (encM x log).take j = headL log ++ (blksM (2 ^ log) x.length x ++ tailL x).take (j - 8):=by
    unfold encM
    rw [List.take_append,a3c,List.take_of_length_le (by rw [a3c]; omega)]
   have hh : headM ((encM x log).take j) = 0:=by rw [e]; exact a5n hlog _
   have e2 : ((encM x log).take j).getD 5 0 = log:=by rw [e]; rfl
   have e3 : ((encM x log).take j).drop 8 = (blksM (2 ^ log) x.length x ++ tailL x).take (j - 8):=by rw [e]; exact a2L rfl
   have hlj : ((encM x log).take j).length = j:=by rw [List.length_take]; omega
   unfold a0C
   rw [if_neg (by omega),if_neg (λ h=>h hh),e2,e3,hlj]
   have:=c8R hlog (tailL x) (a1M x) x.length x true limit [] (j - 8) (j + 1) hb hl (Nat.le_refl _) (λ _=>rfl) hL (by omega) (by omega)
   rw [this,List.nil_append]
end
def nBlks (s : Nat) : Nat -> Nat -> Nat
 | 0,_=>1
 | n + 1,l=>if s < l then 1 + nBlks s n (l - s) else 1
theorem a8a (s : Nat) : ∀ (n : Nat) (x : List Int),11 * nBlks s n x.length <= (blksM s n x).length /\ (blksM s n x).length <= x.length + 11 * nBlks s n x.length
 | 0,x=>by
  unfold blksM nBlks
  have:=a2H x
  rw [a0T]; omega
 | n + 1,x=>by
  unfold blksM nBlks
  by_cases h : s < x.length
  · rw [if_pos h,if_pos h,List.length_append,a0T]
    have h1:=a2H (x.take s)
    have h2:=a8a s n (x.drop s)
    rw [List.length_drop] at h2
    rw [List.length_take] at h1
    omega
  · rw [if_neg h,if_neg h]
    have:=a2H x
    rw [a0T]; omega
theorem a5p (x : List Int) (log : Nat) : 12 + 11 * nBlks (2 ^ log) x.length x.length <= (encM x log).length /\ (encM x log).length <= 12 + x.length + 11 * nBlks (2 ^ log) x.length x.length:=by
 have:=a8a (2 ^ log) x.length x
 unfold encM
 rw [List.length_append,List.length_append,a3c,a1M]; omega
open Go.IntWalk Go.Proofs.YtflfjpkmjnnodaaGreatW.PrintWords
def logP (log : Int) : Bool:=decide (10 <= log) && decide (log <= 17)
theorem logP_iff {log : Int} : logP log = true ↔ 10 <= log /\ log <= 17:=by unfold logP; rw [Bool.and_eq_true,decide_eq_true_eq,decide_eq_true_eq]
set_option maxRecDepth 100000 in
theorem b0S (log : Int) (w : World) : Calls Tryz.prog 92 #[.int .i64 log] w (λ e w'=>e = .returned (.bool (logP log)) /\ Drawn0 w w'):=by
 go_enter Tryz.func92,Tryz.ntmps92
 go_wp2_with fail
 all_goals
  go_ret
  refine ⟨a0Y ?_,Drawn0.refl _⟩
  unfold logP
  first | rfl | (rw [Bool.eq_iff_iff]; simp; done) | (rw [Bool.eq_iff_iff]; simp; omega)
set_option maxRecDepth 100000 in
set_option maxHeartbeats 1000000 in
theorem c9c (n : Nat) (w : World) (hn : n < 4294967296) :
    Calls Tryz.prog 93 #[.int .u32 n] w (λ e w'=>∃ A c,e = .returned (.slice A 4 c) /\ (Kd.int .u8).R 5 w' w.heap.size (λ _=>True) (.slice A 4 c) (leN n 4) /\ Below w.heap.size w w'):=by
 have hk : (4 : Nat) <= 4:=by omega
 go_enter Tryz.func93,Tryz.ntmps93
 go_wp2_with fail
 go_loopw [3,4,5] (λ v _ kv wr=>∃ i : Nat,i <= 4 /\ kv = .int .i64 i /\ Hid ((Kd.int .u8).R 5 wr w.heap.size (λ _=>True) v (leN n i) /\ Below w.heap.size w wr)) (λ _ _ kv _=>4 - (intOf kv).toNat)
 case atStart=>exact ⟨0,by omega,rfl,Lib.hid ⟨Kd.R_nil _ _ _ _ _,Below.refl _ _⟩⟩
 case round=>
  obtain ⟨i,hi,rfl,H⟩:=hrel
  by_cases hlt : i < 4
  · obtain ⟨Av,cv,rfl⟩:=Kd.R_slice H.out.1
    have hI : (i : Int) < 4:=by omega
    have HN:=Lib.hid (b0y n i)
    have hLl : (leN n i).length = i:=a1T n i
    obtain ⟨L,hL⟩ : ∃ L,L = leN n i:=⟨_,rfl⟩
    rw [<- hL] at H HN hLl ⊢
    have HLn : Hid (L.length + 1 <= 140737488355328):=Lib.hid (by omega)
    have HO:=Lib.hid H.out.1
    have HB:=Lib.hid H.out.2
    have HE : Hid (∀ y : Int,y = ((n / 256 ^ i % 256 : Nat) : Int) -> leN n (i + 1) = L ++ [y]):=Lib.hid (λ y hy=>by rw [hy]; exact HN.out)
    have hi4 : i = 0 \/ i = 1 \/ i = 2 \/ i = 3:=by omega
    clear hL HN
    rcases hi4 with rfl | rfl | rfl | rfl
    all_goals
     go_wp2_with (at_builtin; refine app8i rfl rfl rfl rfl HO HB HB.out.size HLn ?_; intro A1 c1 w3 hr3 hb3 _; have HA:=Lib.hid (And.intro hr3 hb3); clear hr3 hb3)
     go_roundw
     case rel=>
      have hnn:=hn
      have HV:=HA.out.1
      rw [hLl] at HV
      first
       | exact ⟨0 + 1,by omega,by go_num,Lib.hid ⟨by rw [HE.out ((n : Int) % 256) (by clear HA HV; first | rfl | (simp; done) | (simp; omega))]; exact HV,HA.out.2⟩⟩
       | exact ⟨1 + 1,by omega,by go_num,Lib.hid ⟨by rw [HE.out ((n : Int) / 256 % 256) (by clear HA HV; first | rfl | (simp; done) | (simp; omega))]; exact HV,HA.out.2⟩⟩
       | exact ⟨2 + 1,by omega,by go_num,Lib.hid ⟨by rw [HE.out ((n : Int) / 65536 % 256) (by clear HA HV; first | rfl | (simp; done) | (simp; omega))]; exact HV,HA.out.2⟩⟩
       | exact ⟨3 + 1,by omega,by go_num,Lib.hid ⟨by rw [HE.out ((n : Int) / 16777216) (by clear HA HV; simp; omega)]; exact HV,HA.out.2⟩⟩
     case measure=>first | (simp [intOf]; done) | (simp [intOf]; omega)
  · obtain rfl : i = 4:=by omega
    obtain ⟨Av,cv,rfl⟩:=Kd.R_slice H.out.1
    rw [a1T] at H ⊢
    go_wp2_with fail
    go_ret
    exact ⟨_,_,rfl,H.out.1,H.out.2⟩
set_option maxRecDepth 100000 in
theorem b7r (A : Option Addr) (c : Nat) (b : List Int) (w : World) (hr : (Kd.int .u8).C w A b.length b) (hl : b.length <= 1000000000000) (hb : Bytes b) :
    Calls Tryz.prog 43 #[.slice A b.length c] w (λ e w'=>∃ A c,e = .returned (.slice A 4 c) /\ (Kd.int .u8).R 5 w' w.heap.size (λ _=>True) (.slice A 4 c) (tailL b) /\ Below w.heap.size w w'):=by
 have HR:=Lib.hid hr
 have HX:=Lib.hid hb
 have HS : Hid (a0S 0 b < 4294967296):=Lib.hid (by have:=a5O 0 b; omega)
 clear hr hb
 go_enter Tryz.func43,Tryz.ntmps43
 go_wp2_with fail
 refine (a4p w).mono ?_
 rintro e w1 ⟨p,rfl,hp1,ht1,hb1⟩
 have HC:=Lib.hid (a5X p A c b w1 ht1 (Kd.C_below HR.out hb1) hl HX.out)
 have HB1:=Lib.hid hb1
 clear hp1 ht1 hb1
 go_wp2_with fail
 refine HC.out.mono ?_
 rintro e w1' ⟨rfl,rfl⟩
 go_wp2_with fail
 refine (c9c (a0S 0 b) w1 HS.out).mono ?_
 rintro e w2 ⟨A2,c2,rfl,h2,hb2⟩
 have H2:=Lib.hid (And.intro h2 hb2)
 clear h2 hb2
 go_wp2_with fail
 go_ret
 exact ⟨A2,c2,rfl,Kd.R_lower H2.out.1 HB1.out.size,a0h HB1.out H2.out.2⟩
theorem b7t (w : World) (cs : List Value) (e : TypeId) (fr : Nat × Nat) (j : Nat) (u : Value) (h : cs[j]? = some u) : (w.alloc (.cells cs.toArray e fr)).cell? ((⟨w.heap.size,0,none⟩ : Addr).add j) = some u:=by
 have h1 : (w.alloc (.cells cs.toArray e fr)).heap[w.heap.size]? = some (.cells cs.toArray e fr):=World.alloc_heap_new w _
 have e1 : ((⟨w.heap.size,0,none⟩ : Addr).add j) = ⟨w.heap.size,j,none⟩:=by
  unfold Addr.add
  split
  · rename_i h0; rw [h0]
  · simp
 rw [e1]
 unfold World.cell?
 rw [h1]
 simpa using h
set_option maxRecDepth 100000 in
theorem a8b (L : Nat) (w : World) (hL : 10 <= L /\ L <= 17) : Calls Tryz.prog 41 #[.int .i64 L] w (Told 0 (headL L) w):=by
 have h : logP (L : Int) = true:=logP_iff.2 (by omega)
 have hw8 : IntKind.u8.wrap (L : Int) = (L : Int):=by rw [IntKind.wrap_u8']; omega
 go_enter Tryz.func41,Tryz.ntmps41
 go_wp2_with fail
 refine (b0S L w).mono ?_
 rintro e w1 ⟨rfl,hd⟩
 rw [h]
 have HB:=Lib.hid hd.below
 clear hd
 have hcv:=Lib.run_convert_bytes_const (P:=Tryz.prog) w1 22 5 #[.int .u8 80,.int .u8 78,.int .u8 67,.int .u8 72] 4 4 Tryz.underlying22 Tryz.underlying5
 obtain ⟨w2,hw2⟩ : ∃ w2,w2 = w1.alloc (.cells #[.int .u8 80,.int .u8 78,.int .u8 67,.int .u8 72] 5 (4,5)):=⟨_,rfl⟩
 have hcv2 : (convert 22 22 (.slice (some ⟨w1.heap.size,0,none⟩) 4 4)).run Tryz.prog (w1.alloc (.cells #[.int .u8 80,.int .u8 78,.int .u8 67,.int .u8 72] 5)) = .ok (.slice (some ⟨w1.heap.size,0,none⟩) 4 4) w2:=by rw [hw2]; exact hcv
 have hb2 : Below w1.heap.size w1 w2:=by rw [hw2]; exact (Below.refl _ _).alloc (Nat.le_refl _) _
 have HC1 : Hid (∀ o : Obj,∀ j u,([.int .u8 80,.int .u8 78,.int .u8 67,.int .u8 72] : List Value)[j]? = some u -> (w2.alloc o).cell? ((⟨w1.heap.size,0,none⟩ : Addr).add j) = some u):=Lib.hid (λ o j u h=>a0s ((Below.refl _ _).alloc (Nat.le_refl _) o) (by rw [hw2]; exact b7t w1 _ 5 (4,5) j u h))
 have HC2 : Hid (∀ j u,([.int .u8 1,.int .u8 L,.int .u8 0,.int .u8 0] : List Value)[j]? = some u -> (w2.alloc (.cells #[.int .u8 1,.int .u8 L,.int .u8 0,.int .u8 0] 5)).cell? ((⟨w2.heap.size,0,none⟩ : Addr).add j) = some u):=Lib.hid (λ j u h=>b7t w2 _ 5 (0,0) j u h)
 have HB2 : Hid (Below w1.heap.size w1 (w2.alloc (.cells #[.int .u8 1,.int .u8 L,.int .u8 0,.int .u8 0] 5))):=Lib.hid (hb2.alloc hb2.size _)
 obtain ⟨i0,hi0,hz0,hz1,hz2⟩:=info_parts a0E
 have H0:=Lib.hid (And.intro hi0 (And.intro hz0 (And.intro hz1 hz2)))
 clear hcv hw2 hb2 hi0 hz0 hz1 hz2
 go_wp2_with (at_builtin; refine wpList_append_grows _ rfl (.tmp 8) (.tmp 11) 22 rfl 5 i0 (.int .u8 0) 1 1 Tryz.underlying22 H0.out.1 H0.out.2.1 H0.out.2.2.1 H0.out.2.2.2 rfl (by decide) (some ⟨w1.heap.size,0,none⟩) 4 4 [.int .u8 80,.int .u8 78,.int .u8 67,.int .u8 72] rfl (λ h=>by cases h) rfl (λ b hb j u h=>by injection hb with e; rw [<- e]; exact HC1.out _ j u h) ⟨w2.heap.size,0,none⟩ 4 4 [.int .u8 1,.int .u8 L,.int .u8 0,.int .u8 0] rfl rfl HC2.out (by simp [Value.oneCell']) (by decide) (by decide) (by decide) ?_; intro v4 w4 ho4 hg4; have HR4:=Lib.hid (And.intro ho4 hg4); clear ho4 hg4)
 have hr4 : (Kd.int .u8).R 5 w4 (w2.alloc (.cells #[.int .u8 1,.int .u8 L,.int .u8 0,.int .u8 0] 5)).heap.size (λ _=>True) v4 (headL L):=Kd.R_of_own (h1:=λ _=>rfl) HR4.out.1 (λ _ _=>trivial)
 obtain ⟨A4,c4,rfl⟩:=Kd.R_slice hr4
 have H4:=Lib.hid (Kd.R_lower hr4 (Nat.le_trans HB.out.size HB2.out.size))
 have HB4 : Hid (Below w.heap.size w w4):=Lib.hid (b2x (a0h HB.out HB2.out) HR4.out.2 (λ k hk=>by cases hk) (Nat.le_trans HB.out.size HB2.out.size))
 clear hr4
 go_ret2
 exact ⟨A4,c4,rfl,H4.out,HB4.out⟩
end Go.Proofs.YtflfjpkmjnnodaaGreat
namespace Go.Proofs.YtflfjpkmjnnodaaGreat
open Go.RowKit
def fullL (s : Nat) : Nat -> List Int -> List Int
 | 0,_=>[]
 | n + 1,x=>if s < x.length then putM (x.take s) false ++ fullL s n (x.drop s) else []
def endL (s : Nat) : Nat -> List Int -> List Int
 | 0,x=>x
 | n + 1,x=>if s < x.length then endL s n (x.drop s) else x
theorem b0T (s : Nat) : ∀ (n : Nat) (x : List Int),blksM s n x = fullL s n x ++ putM (endL s n x) true
 | 0,_=>rfl
 | n + 1,x=>by
  unfold blksM fullL endL
  by_cases h : s < x.length
  · rw [if_pos h,if_pos h,if_pos h,b0T s n,List.append_assoc]
  · rw [if_neg h,if_neg h,if_neg h,List.nil_append]
theorem b0U {s : Nat} (hs : 0 < s) : ∀ (n m : Nat) (x : List Int),x.length <= n -> x.length <= m -> fullL s n x = fullL s m x /\ endL s n x = endL s m x /\ blksM s n x = blksM s m x
 | 0,0,_,_,_=>⟨rfl,rfl,rfl⟩
 | 0,m + 1,x,h,_=>by unfold fullL endL blksM; rw [if_neg (by omega),if_neg (by omega),if_neg (by omega)]; exact ⟨rfl,rfl,rfl⟩
 | n + 1,0,x,_,h=>by unfold fullL endL blksM; rw [if_neg (by omega),if_neg (by omega),if_neg (by omega)]; exact ⟨rfl,rfl,rfl⟩
 | n + 1,m + 1,x,h1,h2=>by
  unfold fullL endL blksM
  by_cases h : s < x.length
  · rw [if_pos h,if_pos h,if_pos h,if_pos h,if_pos h,if_pos h]
    obtain ⟨a,b,c⟩:=b0U hs n m (x.drop s) (by rw [List.length_drop]; omega) (by rw [List.length_drop]; omega)
    rw [a,b,c]; exact ⟨rfl,rfl,rfl⟩
  · rw [if_neg h,if_neg h,if_neg h,if_neg h,if_neg h,if_neg h]; exact ⟨rfl,rfl,rfl⟩
theorem b7u {s : Nat} (hs : 0 < s) : ∀ (n : Nat) (x : List Int),x.length <= n -> (endL s n x).length <= s /\ (endL s n x).length <= x.length /\ (0 < x.length -> 0 < (endL s n x).length)
 | 0,x,h=>by unfold endL; omega
 | n + 1,x,h=>by
  unfold endL
  by_cases h1 : s < x.length
  · rw [if_pos h1]
    obtain ⟨a,b,c⟩:=b7u hs n (x.drop s) (by rw [List.length_drop]; omega)
    rw [List.length_drop] at b c
    exact ⟨a,by omega,λ _=>c (by omega)⟩
  · rw [if_neg h1]; omega
theorem b7v (s : Nat) : ∀ (n : Nat) {x : List Int},Bytes x -> Bytes (endL s n x)
 | 0,_,h=>h
 | n + 1,x,h=>by
  unfold endL
  split
  · exact b7v s n (a3O h s)
  · exact h
theorem b0V (s : Nat) : ∀ (n : Nat) {x : List Int},Bytes x -> x.length <= 131072 -> Bytes (fullL s n x)
 | 0,_,_,_=>λ _ h=>by cases h
 | n + 1,x,h,hl=>by
  unfold fullL
  split
  · exact a1K (a7M (a2K h s) (by rw [List.length_take]; omega) false) (b0V s n (a3O h s) (by rw [List.length_drop]; omega))
  · intro y hy; cases hy
theorem b7w {s : Nat} (hs : 0 < s) (b : List Int) : ∀ (n m k : Nat) (x : List Int),x.length + b.length <= n -> x.length <= m -> (endL s m x).length + b.length <= k ->
    fullL s n (x ++ b) = fullL s m x ++ fullL s k (endL s m x ++ b) /\ endL s n (x ++ b) = endL s k (endL s m x ++ b)
 | n,0,k,x,h1,h2,h3=>by
  have hx : x = []:=List.eq_nil_of_length_eq_zero (by omega)
  subst hx
  have e1 : fullL s 0 [] = []:=rfl
  have e2 : endL s 0 [] = []:=rfl
  rw [e2] at h3 ⊢
  rw [e1,List.nil_append,List.nil_append]
  obtain ⟨a,c,_⟩:=b0U hs n k b (by simp at h1; omega) (by simp at h3; omega)
  exact ⟨a,c⟩
 | n,m + 1,k,x,h1,h2,h3=>by
  by_cases h : s < x.length
  · have e1 : fullL s (m + 1) x = putM (x.take s) false ++ fullL s m (x.drop s):=by rw [fullL,if_pos h]
    have e2 : endL s (m + 1) x = endL s m (x.drop s):=by rw [endL,if_pos h]
    obtain ⟨n,rfl⟩ : ∃ j,n = j + 1:=⟨n - 1,by omega⟩
    have e3 : fullL s (n + 1) (x ++ b) = putM (x.take s) false ++ fullL s n (x.drop s ++ b):=by
     rw [fullL,if_pos (by rw [List.length_append]; omega),List.take_append_of_le_length (by omega),List.drop_append_of_le_length (by omega)]
    have e4 : endL s (n + 1) (x ++ b) = endL s n (x.drop s ++ b):=by
     rw [endL,if_pos (by rw [List.length_append]; omega),List.drop_append_of_le_length (by omega)]
    rw [e2] at h3
    obtain ⟨a,c⟩:=b7w hs b n m k (x.drop s) (by rw [List.length_drop]; omega) (by rw [List.length_drop]; omega) h3
    rw [e1,e2,e3,e4,a,c,List.append_assoc]; exact ⟨rfl,rfl⟩
  · have e1 : fullL s (m + 1) x = []:=by rw [fullL,if_neg h]
    have e2 : endL s (m + 1) x = x:=by rw [endL,if_neg h]
    rw [e2] at h3
    obtain ⟨a,c,_⟩:=b0U hs n k (x ++ b) (by rw [List.length_append]; omega) (by rw [List.length_append]; omega)
    rw [e1,e2,List.nil_append]; exact ⟨a,c⟩
def goneL (log : Nat) (x : List Int) : List Int:=headL log ++ fullL (2 ^ log) x.length x
def leftL (log : Nat) (x : List Int) : List Int:=endL (2 ^ log) x.length x
theorem b0W (log : Nat) (x b : List Int) : goneL log (x ++ b) = goneL log x ++ fullL (2 ^ log) (leftL log x ++ b).length (leftL log x ++ b) /\ leftL log (x ++ b) = endL (2 ^ log) (leftL log x ++ b).length (leftL log x ++ b):=by
 obtain ⟨a,c⟩:=b7w (Nat.two_pow_pos log) b (x ++ b).length x.length (leftL log x ++ b).length x (by rw [List.length_append]; omega) (Nat.le_refl _) (by rw [List.length_append]; exact Nat.le_refl _)
 unfold goneL
 rw [List.append_assoc]
 exact ⟨congrArg (headL log ++ ·) a,c⟩
theorem a8c (log : Nat) (x : List Int) : encM x log = goneL log x ++ (putM (leftL log x) true ++ tailL x):=by
 unfold encM goneL leftL
 rw [b0T,List.append_assoc,List.append_assoc]
theorem c9d (log : Nat) : goneL log [] = headL log /\ leftL log [] = []:=⟨List.append_nil _,rfl⟩
theorem a4v (s : Nat) : ∀ n l : Nat,nBlks s n l <= n + 1
 | 0,_=>Nat.le_refl _
 | n + 1,l=>by
  unfold nBlks
  have:=a4v s n (l - s)
  split <;> omega
def wentL (L ph : Nat) (x : List Int) : List Int:=if ph = 0 then [] else goneL L x
def feedY (L ph : Nat) (x b : List Int) (last : Bool) : List Int:=
 (if ph = 0 then headL L else []) ++ (fullL (2 ^ L) (leftL L x ++ b).length (leftL L x ++ b) ++ (if last = true then putM (leftL L (x ++ b)) true ++ tailL (x ++ b) else []))
theorem b0X {L ph : Nat} {x : List Int} (h : ph = 0 -> x = []) (b : List Int) : wentL L ph x ++ feedY L ph x b false = goneL L (x ++ b):=by
 unfold wentL feedY
 rw [if_neg (by decide : ¬ (false = true)),List.append_nil]
 by_cases h0 : ph = 0
 · rw [if_pos h0,if_pos h0,h h0,(b0W L [] b).1,(c9d L).1]; rfl
 · rw [if_neg h0,if_neg h0,List.nil_append,(b0W L x b).1]
theorem c9e {s n : Nat} {r : List Int} (h : r.length <= n) (hl : s < r.length) (hs : 0 < s) : ∃ n',fullL s n r = putM (r.take s) false ++ fullL s n' (r.drop s) /\ endL s n r = endL s n' (r.drop s) /\ (r.drop s).length <= n':=by
 obtain ⟨m,rfl⟩ : ∃ j,n = j + 1:=⟨n - 1,by omega⟩
 refine ⟨m,?_,?_,by rw [List.length_drop]; omega⟩
 · conv=>lhs; unfold fullL
   rw [if_pos hl]
 · conv=>lhs; unfold endL
   rw [if_pos hl]
theorem b7x {s : Nat} {r : List Int} (hl : ¬ s < r.length) : ∀ n,fullL s n r = [] /\ endL s n r = r
 | 0=>⟨rfl,rfl⟩
 | n + 1=>by unfold fullL endL; rw [if_neg hl,if_neg hl]; exact ⟨rfl,rfl⟩
theorem c9f {L : Nat} (hL : L <= 17) {x : List Int} (hb : Bytes x) (hl : x.length <= 131072) : Bytes (goneL L x):=by
 unfold goneL
 refine a1K (λ y hy=>?_) (b0V _ _ hb hl)
 simp [headL] at hy; omega
theorem a4w (L : Nat) (x : List Int) : (leftL L x).length <= x.length:=(b7u (Nat.two_pow_pos L) x.length x (Nat.le_refl _)).2.1
theorem b0Y (L : Nat) {x : List Int} (h : Bytes x) : Bytes (leftL L x):=b7v _ _ h
theorem c9g (L : Nat) {x : List Int} (h : x.length <= 100000) : (goneL L x).length <= 2000000:=by
 have h1 : (goneL L x).length <= (encM x L).length:=by rw [a8c]; simp
 have h2:=(a5p x L).2
 have h3 : nBlks (2 ^ L) x.length x.length <= x.length + 1:=a4v _ _ _
 omega
theorem b0Z {s : Nat} (n : Nat) (r : List Int) : (fullL s n r).length <= r.length + 11 * (n + 1):=by
 have h1 : (fullL s n r).length <= (blksM s n r).length:=by rw [b0T]; simp
 have h2:=(a8a s n r).2
 have h3:=a4v s n r.length
 omega
theorem b7y {L ph : Nat} {x b : List Int} {last : Bool} (h : x.length + b.length <= 100000) : (feedY L ph x b last).length <= 100000000:=by
 unfold feedY
 have h1:=b0Z (s:=2 ^ L) (leftL L x ++ b).length (leftL L x ++ b)
 have h2:=a4w L x
 have h3:=a4w L (x ++ b)
 have h4:=a0T (leftL L (x ++ b)) true
 have h5:=a2H (leftL L (x ++ b))
 have hlen : (leftL L x ++ b).length = (leftL L x).length + b.length:=List.length_append
 rw [List.length_append] at h3
 have h6 : (if ph = 0 then headL L else []).length <= 8:=by split <;> simp [headL]
 have h7 : (if last = true then putM (leftL L (x ++ b)) true ++ tailL (x ++ b) else []).length <= 200000:=by
  split
  · rw [List.length_append,a1M]; omega
  · simp
 rw [List.length_append,List.length_append]
 omega
theorem b1a {L : Nat} (hL : L <= 17) {x : List Int} (hb : Bytes x) (hl : x.length <= 40000) : Bytes (encM x L):=by
 rw [a8c]
 exact a1K (c9f hL hb (by omega)) (a1K (a7M (b0Y L hb) (by have:=a4w L x; omega) true) (a5e _ _))
theorem b7z {L ph : Nat} {x : List Int} (h : x.length <= 100000) : (wentL L ph x).length <= 2000000:=by
 unfold wentL
 split
 · exact Nat.zero_le _
 · exact c9g L h
open Go.IntWalk Go.Proofs.YtflfjpkmjnnodaaGreatW.PrintWords
theorem BSl.from_ {w : World} {A : Option Addr} {c : Nat} {p : List Int} (h : BSl w A c p) {k : Nat} (hk : k <= p.length) : BSl w (if c = k then A else A.map (·.add (k * 1))) (c - k) (p.drop k):=
 ⟨Kd.C_drop h.row hk h.cap,by rw [List.length_drop]; have:=h.cap; omega,λ ha=>by
  have h0 : A = none:=by
   split at ha
   · exact ha
   · exact Option.map_eq_none_iff.1 ha
  have:=h.nil h0; omega,λ x hx=>h.by' x (List.mem_of_mem_drop hx)⟩
def slN : Value -> Nat
 | .slice _ n _=>n
 | _=>0
theorem c9i {s m : Nat} {r : List Int} (hs : 0 < s) (h : r.length <= m) (hl : s < r.length) : ∃ m',blksM s m r = putM (r.take s) false ++ blksM s m' (r.drop s) /\ (r.drop s).length <= m':=by
 obtain ⟨m,rfl⟩ : ∃ j,m = j + 1:=⟨m - 1,by omega⟩
 refine ⟨m,?_,by rw [List.length_drop]; omega⟩
 conv=>lhs; unfold blksM
 rw [if_pos hl]
theorem c9j {s : Nat} {r : List Int} (hl : ¬ s < r.length) : ∀ m,blksM s m r = putM r true
 | 0=>rfl
 | m + 1=>by unfold blksM; rw [if_neg hl]
theorem c9k (s : Nat) {x : List Int} (hl : x.length <= 40000) (L : Nat) : (headL L ++ blksM s x.length x).length <= 1000000:=by
 have h:=(a8a s x.length x).2
 have h2:=a4v s x.length x.length
 rw [List.length_append,a3c]
 omega
set_option maxRecDepth 100000 in
set_option maxHeartbeats 2000000 in
theorem a6f (A : Option Addr) (c : Nat) (x : List Int) (L : Nat) (w : World) (hx : BSl w A c x) (hl : x.length <= 40000) (hL : 10 <= L /\ L <= 17) :
    Calls Tryz.prog 40 #[.slice A x.length c,.int .i64 L] w (Told 0 (encM x L) w):=by
 obtain ⟨s,hs⟩ : ∃ s : Nat,s = 2 ^ L:=⟨_,rfl⟩
 have hsI : (2 : Int) ^ L = (s : Int):=by rw [hs]; simp
 have hL0 : ¬ (L : Int) < 0:=by omega
 have hs2 : s <= 131072:=by rw [hs]; exact Nat.le_trans (Nat.pow_le_pow_right (by decide : 2 > 0) hL.2) (by decide)
 have hs1 : 1024 <= s:=by rw [hs]; exact Nat.le_trans (by decide) (Nat.pow_le_pow_right (by decide : 2 > 0) hL.1)
 have hsw : IntKind.i64.wrap (s : Int) = (s : Int):=i64_in _ (by omega)
 have d1 : decide ((1073741824 : Int) < (x.length : Int)) = false:=decide_eq_false (by omega)
 have hTl:=c9k s hl L
 obtain ⟨T,hT⟩ : ∃ T,T = headL L ++ blksM s x.length x:=⟨_,rfl⟩
 have HE : Hid (encM x L = T ++ tailL x):=Lib.hid (by rw [hT,hs]; unfold encM; rw [List.append_assoc])
 rw [<- hT] at hTl
 have HT:=Lib.hid (And.intro hT hTl)
 have HX:=Lib.hid (And.intro hx hl)
 have HL:=Lib.hid hL
 clear hx hTl hT hs
 go_enter Tryz.func40,Tryz.ntmps40
 go_wp2_with fail
 refine (a8b L w hL).mono ?_
 rintro e w1 ⟨A1,c1,rfl,hr1,hb1⟩
 have H1:=Lib.hid (And.intro hr1 hb1)
 clear hr1 hb1
 go_wp2_with fail
 go_loopw [6,9,10,11] (λ ov rv _ _ wr=>∃ (Lo r : List Int) (m : Nat) (Ao Ar : Option Addr) (co cr : Nat),ov = .slice Ao Lo.length co /\ rv = .slice Ar r.length cr /\ Hid ((Kd.int .u8).R 5 wr w.heap.size (λ _=>True) (.slice Ao Lo.length co) Lo /\ Below w.heap.size w wr /\ BSl w Ar cr r /\ r.length <= m /\ r.length <= 40000 /\ Lo ++ blksM s m r = T)) (λ _ rv _ _ _=>slN rv)
 case atStart=>exact ⟨headL L,x,x.length,A1,A,c1,c,rfl,rfl,Lib.hid ⟨H1.out.1,H1.out.2,HX.out.1,Nat.le_refl _,HX.out.2,HT.out.1.symm⟩⟩
 case round=>
  obtain ⟨Lo,r,m,Ao,Ar,co,cr,rfl,rfl,H⟩:=hrel
  by_cases hlt : s < r.length
  · have hI : (s : Int) < (r.length : Int):=by omega
    obtain ⟨m',hm1,hm2⟩:=c9i (by omega) H.out.2.2.2.1 hlt
    have hsl:=a3M Ar r.length cr s (by omega) H.out.2.2.1.cap
    have hsf:=a2Z Ar r.length cr s (by omega)
    have htl : (r.take s).length = s:=by rw [List.length_take]; omega
    have hdl : (r.drop s).length = r.length - s:=List.length_drop
    have HP:=Lib.hid (a5m Ar cr (r.take s) false wr ((H.out.2.2.1.cut (k:=s) (by omega)).below H.out.2.1).row (H.out.2.2.1.cut (k:=s) (by omega)).by' (by rw [htl]; have:=H.out.2.2.2.2.1; omega) (.inr (by omega)))
    rw [htl] at HP
    obtain ⟨y,hy⟩ : ∃ y,y = putM (r.take s) false:=⟨_,rfl⟩
    rw [<- hy] at HP hm1
    have HTl : Hid (Lo.length + y.length <= 1000000):=Lib.hid (by
     have h1:=HT.out.2
     rw [<- H.out.2.2.2.2.2,hm1,List.length_append,List.length_append] at h1
     omega)
    have HM:=Lib.hid (And.intro hm1 hm2)
    have HDr:=Lib.hid (H.out.2.2.1.from_ (k:=s) (by omega))
    obtain ⟨Ad,hAd⟩ : ∃ Ad,Ad = (if cr = s then Ar else Ar.map (·.add (s * 1))):=⟨_,rfl⟩
    rw [<- hAd] at HDr hsf
    obtain ⟨rd,hrd⟩ : ∃ rd,rd = r.drop s:=⟨_,rfl⟩
    rw [<- hrd] at HDr hdl HM
    have hrl : r.length - s = rd.length:=hdl.symm
    rw [hrl] at hsf
    have hrds : rd.length < r.length:=by omega
    clear hm1 hm2 htl hy hAd hrd hlt hrl hdl
    go_wp2_with fail
    refine HP.out.mono ?_
    rintro e w3 ⟨A3,c3,rfl,hr3,hb3⟩
    have HO3:=Lib.hid (Kd.R_below H.out.1 hb3)
    have HC3:=Lib.hid (Kd.R_reads' hr3).2.2
    have HB3:=Lib.hid (H.out.2.1.trans (hb3.mono H.out.2.1.size))
    have HZ3 : Hid (Lo.length + y.length <= 140737488355328):=Lib.hid (by have:=HTl.out; omega)
    clear hr3 hb3
    go_wp2_with (at_builtin; refine app8 rfl rfl rfl rfl HO3 HC3 HB3 HB3.out.size HZ3 ?_; intro A4 c4 w4 hr4 hb4 _; have HR4:=Lib.hid (And.intro hr4 hb4); clear hr4 hb4)
    go_roundw
    case rel=>exact ⟨Lo ++ y,rd,m',A4,Ad,c4,cr - s,by rw [List.length_append],rfl,Lib.hid ⟨by rw [List.length_append]; exact HR4.out.1,HR4.out.2,HDr.out,HM.out.2,by have:=H.out.2.2.2.2.1; omega,by rw [List.append_assoc,<- HM.out.1]; exact H.out.2.2.2.2.2⟩⟩
    case measure=>simp [slN]; omega
  · have hI : ¬ (s : Int) < (r.length : Int):=by omega
    have hm:=c9j hlt m
    have HP:=Lib.hid (a5m Ar cr r true wr (H.out.2.2.1.below H.out.2.1).row H.out.2.2.1.by' (by have:=H.out.2.2.2.2.1; omega) (.inl rfl))
    obtain ⟨y,hy⟩ : ∃ y,y = putM r true:=⟨_,rfl⟩
    rw [<- hy] at HP hm
    have hT2:=H.out.2.2.2.2.2
    rw [hm] at hT2
    have HT2:=Lib.hid hT2
    have HTl : Hid (Lo.length + y.length <= 140737488355328):=Lib.hid (by
     have h1:=HT.out.2
     rw [<- hT2,List.length_append] at h1
     omega)
    have HTm : Hid (Lo.length + y.length + 4 <= 140737488355328):=Lib.hid (by
     have h1:=HT.out.2
     rw [<- hT2,List.length_append] at h1
     omega)
    clear hm hy hlt hT2
    go_wp2_with fail
    refine HP.out.mono ?_
    rintro e w3 ⟨A3,c3,rfl,hr3,hb3⟩
    have HO3:=Lib.hid (Kd.R_below H.out.1 hb3)
    have HC3:=Lib.hid (Kd.R_reads' hr3).2.2
    have HB3:=Lib.hid (H.out.2.1.trans (hb3.mono H.out.2.1.size))
    clear hr3 hb3
    go_wp2_with (at_builtin; refine app8 rfl rfl rfl rfl HO3 HC3 HB3 HB3.out.size HTl ?_; intro A4 c4 w4 hr4 hb4 _; have HR4:=Lib.hid (And.intro hr4 hb4); clear hr4 hb4)
    refine (b7r A c x w4 (HX.out.1.below HR4.out.2).row (by omega) HX.out.1.by').mono ?_
    rintro e w5 ⟨A5,c5,rfl,hr5,hb5⟩
    have HO5:=Lib.hid (Kd.R_below HR4.out.1 hb5)
    have HC5 : Hid ((Kd.int .u8).C w5 A5 4 (tailL x)):=Lib.hid (by have:=(Kd.R_reads' hr5).2.2; rw [a1M] at this; exact this)
    have HB5:=Lib.hid (HR4.out.2.trans (hb5.mono HR4.out.2.size))
    have HL5 : Hid ((Lo ++ y).length + 4 <= 140737488355328):=Lib.hid (by rw [List.length_append]; exact HTm.out)
    clear hr5 hb5
    go_wp2_with (at_builtin; refine app8 rfl rfl rfl rfl HO5 HC5 HB5 HB5.out.size HL5 ?_; intro A6 c6 w6 hr6 hb6 _; have HR6:=Lib.hid (And.intro hr6 hb6); clear hr6 hb6)
    go_ret2
    have hfin : (encM x L).length = Lo.length + y.length + 4:=by rw [HE.out,<- HT2.out,List.length_append,List.length_append,a1M]
    have hT4 : T.length + 4 = (encM x L).length:=by rw [HE.out,List.length_append,a1M]
    refine ⟨A6,c6,?_,?_,HR6.out.2⟩
    · rw [hfin]; rfl
    · have h6:=HR6.out.1
      rw [HT2.out,<- HE.out,hT4] at h6
      exact h6
def someL (b : List Int) (fill : Int) (k : Nat) : List Int:=b ++ List.replicate k fill
theorem a4x (b : List Int) (fill : Int) (k : Nat) : (someL b fill k).length = b.length + k:=by simp [someL]
theorem a6g {b : List Int} (h : Bytes b) {fill : Int} (hf : 0 <= fill /\ fill < 256) (k : Nat) : Bytes (someL b fill k):=λ x hx=>by
 rcases List.mem_append.1 hx with h1 | h1
 · exact h x h1
 · rw [List.eq_of_mem_replicate h1]; exact hf
theorem c9l (b : List Int) (fill : Int) (k : Nat) : someL b fill (k + 1) = someL b fill k ++ [fill]:=by unfold someL; rw [List.replicate_succ',List.append_assoc]
set_option maxRecDepth 100000 in
set_option maxHeartbeats 1000000 in
theorem a8d (A : Option Addr) (c : Nat) (b : List Int) (fill : Int) (more : Nat) (w : World) (hb : BSl w A c b) (hl : b.length <= 60) (hf : 0 <= fill /\ fill < 256) (hm : more < 65536) :
    Calls Tryz.prog 39 #[.slice A b.length c,.int .u8 fill,.int .u16 more] w (λ e w'=>∃ A' c',e = .returned (.slice A' (b.length + more % 2600) c') /\ BSl w' A' c' (someL b fill (more % 2600)) /\ Below w.heap.size w w'):=by
 have HX:=Lib.hid hb
 have HF:=Lib.hid hf
 have hw1 : IntKind.i64.wrap (more : Int) = (more : Int):=i64_in _ (by omega)
 obtain ⟨N,hN⟩ : ∃ N,N = more % 2600:=⟨_,rfl⟩
 have hm1 : (more : Int).tmod 2600 = (N : Int):=by rw [Int.tmod_eq_emod_of_nonneg (by omega),hN]; simp
 have hm2 : (more : Int) % 2600 = (N : Int):=by rw [hN]; simp
 have hNl : N < 2600:=by rw [hN]; exact Nat.mod_lt _ (by decide)
 rw [<- hN]
 have HE0 : Hid ((Kd.int .u8).R 5 (w.alloc (.cells #[] 5)) w.heap.size (λ _=>True) (.slice (some ⟨w.heap.size,0,none⟩) 0 0) []):=a2E .u8 5 w w.heap.size (λ _=>True) trivial (Nat.le_refl _) [] (by decide)
 have HB0 : Hid (Below w.heap.size w (w.alloc (.cells #[] 5))):=(Below.refl _ _).alloc (Nat.le_refl _) _
 have HRow0 : Hid ((Kd.int .u8).C (w.alloc (.cells #[] 5)) A b.length b):=Kd.C_alloc hb.row _
 have HL0 : Hid (([] : List Int).length + b.length <= 140737488355328):=Lib.hid (by simp; omega)
 have HN:=Lib.hid hN
 clear hb hf hN
 go_enter Tryz.func39,Tryz.ntmps39
 go_wp2_with (at_builtin; refine app8 rfl rfl rfl rfl HE0 HRow0 HB0 HB0.out.size HL0 ?_; intro A4 c4 w4 hr4 hb4 _; have HR4:=Lib.hid (And.intro hr4 hb4); clear hr4 hb4)
 go_loopw [7,8] (λ ov kv wr=>∃ (i : Nat) (Ao : Option Addr) (co : Nat),i <= N /\ ov = .slice Ao (b.length + i) co /\ kv = .int .i64 i /\ Hid ((Kd.int .u8).R 5 wr w.heap.size (λ _=>True) (.slice Ao (b.length + i) co) (someL b fill i) /\ Below w.heap.size w wr)) (λ _ kv _=>N - (intOf kv).toNat)
 case atStart=>exact ⟨0,A4,c4,by omega,by simp,rfl,Lib.hid ⟨by have:=HR4.out.1; simpa [someL] using this,HR4.out.2⟩⟩
 case round=>
  obtain ⟨i,Ao,co,hi,rfl,rfl,H⟩:=hrel
  by_cases hlt : i < N
  · have hI : (i : Int) < (N : Int):=by omega
    have HO:=Lib.hid H.out.1
    have HB:=Lib.hid H.out.2
    have HLn : Hid ((someL b fill i).length + 1 <= 140737488355328):=Lib.hid (by rw [a4x]; omega)
    have HNx:=Lib.hid (c9l b fill i)
    clear hlt
    go_wp2_with (at_builtin; refine app8i rfl rfl rfl rfl HO HB HB.out.size HLn ?_; intro A1 c1 w3 hr3 hb3 _; have HA:=Lib.hid (And.intro hr3 hb3); clear hr3 hb3)
    go_roundw
    case rel=>exact ⟨i + 1,A1,c1,by omega,by rw [a4x]; rfl,by go_num,Lib.hid ⟨by have:=HA.out.1; rw [a4x] at this; rw [HNx.out]; exact this,HA.out.2⟩⟩
    case measure=>simp [intOf]; omega
  · obtain rfl : i = N:=by omega
    go_wp2_with fail
    go_ret
    exact ⟨Ao,co,rfl,BSl.of H.out.1 (a6g HX.out.by' HF.out _),H.out.2⟩
end Go.Proofs.YtflfjpkmjnnodaaGreat
namespace Go.Proofs.YtflfjpkmjnnodaaGreat
open Go.RowKit
theorem b7A {ps : List Int} {T : Nat} : ∀ (f at_ n most : Nat),(runT ps T f at_ n most).1 ≠ 16
 | 0,_,_,_=>by show (3 : Int) ≠ 16; decide
 | f + 1,at_,n,most=>by
  unfold runT
  split
  · show (3 : Int) ≠ 16; decide
  · split
    · show (13 : Int) ≠ 16; decide
    · split
      · exact b7A f _ _ _
      · show (0 : Int) ≠ 16; decide
theorem b1b {ps : List Int} {T : Nat} : ∀ (d : Nat) (q : List Int) (s left : Nat) (again : Bool) (at_ : Nat),(hdrT ps T d q s left again at_).1 ≠ 16
 | 0,_,_,_,_,_=>by show (13 : Int) ≠ 16; decide
 | d + 1,q,s,left,again,at_=>by
  unfold hdrT
  repeat' split
  all_goals first
   | (show (13 : Int) ≠ 16; decide)
   | (show (3 : Int) ≠ 16; decide)
   | (show (0 : Int) ≠ 16; decide)
   | exact b7A _ _ _ _
   | exact b1b d _ _ _ _ _
theorem b7B {one : Bool} {qs : List (List Int)} {ps : List Int} : ∀ (n i : Nat) (la x0 x1 : Int) (left : Nat) (out : List Int),(decGo one qs ps n i la x0 x1 left out).1 ≠ 16
 | 0,i,la,x0,x1,left,out=>by
  unfold decGo
  split
  · show (0 : Int) ≠ 16; decide
  · show (14 : Int) ≠ 16; decide
 | n + 1,i,la,x0,x1,left,out=>by
  unfold decGo
  dsimp only
  split
  · show (13 : Int) ≠ 16; decide
  · split
    · show (3 : Int) ≠ 16; decide
    · exact b7B n _ _ _ _ _ _
theorem b7C {lg : Int} {one : Bool} {qs : List (List Int)} {ps : List Int} {n : Int} : (decM lg one qs ps n).1 ≠ 16:=by
 unfold decM
 repeat' split
 all_goals first
  | (show (1 : Int) ≠ 16; decide)
  | (show (2 : Int) ≠ 16; decide)
  | (show (3 : Int) ≠ 16; decide)
  | exact b7B _ _ _ _ _ _ _
theorem c9m {ps : List Int} : (a0v ps).1 ≠ 16:=by
 unfold a0v
 dsimp only
 repeat' split
 all_goals first
  | (show (3 : Int) ≠ 16; decide)
  | (show (13 : Int) ≠ 16; decide)
  | (show (4 : Int) ≠ 16; decide)
  | (show (0 : Int) ≠ 16; decide)
  | exact b1b _ _ _ _ _ _
theorem b7D {ps : List Int} {r : Nat} : ∀ (l : List Int) (qs : List (List Int)) (at_ : Nat),(hdrsT ps r l qs at_).1 ≠ 16
 | [],_,_=>by show (0 : Int) ≠ 16; decide
 | c :: l,qs,at_=>by
  unfold hdrsT
  split
  · exact b1b _ _ _ _ _ _
  · exact b7D l _ _
theorem c9n {ps : List Int} : (dirT ps).1 ≠ 16:=by
 unfold dirT
 repeat' split
 all_goals first
  | (show (3 : Int) ≠ 16; decide)
  | (show (13 : Int) ≠ 16; decide)
  | (show (0 : Int) ≠ 16; decide)
theorem c9o {ps : List Int} : (a0A ps).1 ≠ 16:=by
 unfold a0A
 repeat' split
 all_goals first
  | (show (3 : Int) ≠ 16; decide)
  | (show (13 : Int) ≠ 16; decide)
  | (show (4 : Int) ≠ 16; decide)
  | (show (0 : Int) ≠ 16; decide)
  | exact c9n
  | exact b7D _ _ _
theorem b7E {k n l : Int} : a0B k n l ≠ 16:=by
 unfold a0B
 repeat' split
 all_goals decide
theorem c9p {k : Int} {b : List Int} {n : Int} : (pickD k b n).1 ≠ 16:=by
 unfold pickD
 split
 · exact b7E
 · split
   · unfold a2X
     repeat' split
     all_goals first
      | (show (1 : Int) ≠ 16; decide)
      | (show (11 : Int) ≠ 16; decide)
      | (show (0 : Int) ≠ 16; decide)
   · split
     · unfold dec0M
       split
       · exact c9m
       · exact b7C
     · unfold dec1M
       split
       · exact c9o
       · exact b7C
theorem c9q {f : List Int} {log room : Int} {first : Bool} : (scanM f log first room).1 ≠ 16:=by
 unfold scanM
 repeat' split
 all_goals first
  | (show (1 : Int) ≠ 16; decide)
  | (show (3 : Int) ≠ 16; decide)
  | (show (10 : Int) ≠ 16; decide)
  | (show (11 : Int) ≠ 16; decide)
  | (show (7 : Int) ≠ 16; decide)
  | (show (0 : Int) ≠ 16; decide)
  | exact b7E
theorem c9r {f : List Int} {log room : Int} {first : Bool} : (openM f log first room).1 ≠ 16:=by
 unfold openM
 repeat' split
 all_goals first
  | exact c9q
  | exact c9p
  | (show (3 : Int) ≠ 16; decide)
  | (show (12 : Int) ≠ 16; decide)
  | (show (0 : Int) ≠ 16; decide)
theorem c9s (i : Nat) (c : Int) : headE i c ≠ 16:=by
 unfold headE
 repeat' split
 all_goals decide
theorem b7F {f : List Int} : ∀ (d i : Nat),headG f d i ≠ 16
 | 0,_=>by show (0 : Int) ≠ 16; decide
 | d + 1,i=>by
  unfold headG
  split
  · decide
  · split
    · exact c9s _ _
    · exact b7F d _
theorem c9t {f : List Int} : headM f ≠ 16:=b7F 8 0
open Go.IntWalk Go.Proofs.YtflfjpkmjnnodaaGreatW.PrintWords
theorem b7G {f : List Int} {i : Nat} (d : Nat) (h : i < f.length) : headG f (d + 1) i = if headE i (f.getD i 0) ≠ 0 then headE i (f.getD i 0) else headG f d (i + 1):=by
 conv=>lhs; unfold headG
 rw [if_neg (by omega)]
theorem a3P {f : List Int} {i d : Nat} {k : Int} (h : i < f.length) (he : headE i (f.getD i 0) = k) (hk : k ≠ 0) : headG f (d + 1) i = k:=by
 rw [b7G d h,he,if_pos hk]
theorem a3Q {f : List Int} {i d : Nat} (h : i < f.length) (he : headE i (f.getD i 0) = 0) : headG f (d + 1) i = headG f d (i + 1):=by
 rw [b7G d h,he,if_neg (by decide)]
def a2f (f : List Int) : Int:=if headM f = 0 then f.getD 5 0 else 0
theorem a3w {f : List Int} {k : Int} (h : headM f = k) (hk : k ≠ 0) : a2f f = 0:=by unfold a2f; rw [h,if_neg hk]
set_option maxRecDepth 100000 in
set_option maxHeartbeats 4000000 in
theorem b7H (A : Option Addr) (c : Nat) (f : List Int) (w : World) (hf : BSl w A c f) (hl : f.length <= 1000000) :
    Calls Tryz.prog 97 #[.slice A f.length c] w (λ e w'=>e = .returned (.tuple #[.int .i64 (a2f f),.int .i64 (headM f)]) /\ Below w.heap.size w w'):=by
 have HF:=Lib.hid hf
 obtain ⟨n,hn⟩ : ∃ n,n = f.length:=⟨_,rfl⟩
 rw [<- hn] at hl ⊢
 have HN:=Lib.hid hn
 clear hf hn
 go_enter Tryz.func97,Tryz.ntmps97
 go_wp2_with fail
 go_loopw [2,4,5,6,17,26,33,42,49] (λ lv _ _ kv _ _ _ _ _ wr=>∃ i : Nat,i <= 8 /\ kv = .int .i64 i /\ lv = .int .i64 (if 5 < i then f.getD 5 0 else 0) /\ Hid (headG f (8 - i) i = headM f /\ Below w.heap.size w wr /\ i <= f.length)) (λ _ _ _ kv _ _ _ _ _ _=>8 - (intOf kv).toNat)
 case atStart=>exact ⟨0,by omega,rfl,rfl,Lib.hid ⟨rfl,Below.refl _ _,Nat.zero_le _⟩⟩
 case round=>
  obtain ⟨i,hi,rfl,rfl,H⟩:=hrel
  by_cases hlt : i < 8
  · by_cases hle : i < n
    · obtain ⟨ad,hA,hcx⟩:=a0w (Kd.C_below HF.out.row H.out.2.1) i (by have:=HN.out; omega)
      subst hA
      have hbx:=HF.out.by'.get i
      obtain ⟨x,hx⟩ : ∃ x,x = f.getD i 0:=⟨_,rfl⟩
      rw [<- hx] at hcx hbx
      have HX:=Lib.hid hx
      have HL:=Lib.hid (show i < f.length by have:=HN.out; omega)
      have hi8 : i = 0 \/ i = 1 \/ i = 2 \/ i = 3 \/ i = 4 \/ i = 5 \/ i = 6 \/ i = 7:=by omega
      clear hx hi hlt
      rcases hi8 with rfl | rfl | rfl | rfl | rfl | rfl | rfl | rfl
      · have hI : ¬ n = 0:=by omega
        have e0 : ad.add 0 = ad:=by simp [Addr.add]
        rw [e0] at hcx
        have hmg : (((ByteArray.mk #[80,78,67,72])[0]'(by decide)).toNat : Int) = 80:=rfl
        by_cases hx : x = 80
        · have he : headE 0 (f.getD 0 0) = 0:=by rw [<- HX.out,hx]; decide
          have HE:=Lib.hid (a3Q (d:=7) HL.out he)
          have hq : (x != 80) = false:=by rw [hx]; rfl
          clear he hle hx
          go_wp2_with fail
          go_roundw
          case rel=>exact ⟨0 + 1,by omega,by go_num,rfl,Lib.hid ⟨by rw [<- HE.out]; exact H.out.1,H.out.2.1,HL.out⟩⟩
          case measure=>first | (simp [intOf]; done) | (simp [intOf]; omega)
        · have he : headE 0 (f.getD 0 0) = 8:=by
            rw [<- HX.out]; unfold headE; rw [if_pos ⟨by decide,hx⟩]
          have HE:=Lib.hid (a3P (d:=7) HL.out he (by decide))
          have hq : (x != 80) = true:=by simpa using hx
          clear he hle hx
          go_wp2_with fail
          go_ret2
          have hM : headM f = 8:=by rw [<- H.out.1]; exact HE.out
          rw [a3w hM (by decide),hM]
          exact ⟨rfl,H.out.2.1⟩
      · have hI : ¬ (n : Int) <= 1:=by omega
        have e1 : ad.add 1 = ⟨ad.block,ad.off + 1,none⟩:=rfl
        rw [e1] at hcx
        have hmg : (((ByteArray.mk #[80,78,67,72])[1]'(by decide)).toNat : Int) = 78:=rfl
        by_cases hx : x = 78
        · have he : headE 1 (f.getD 1 0) = 0:=by rw [<- HX.out,hx]; decide
          have HE:=Lib.hid (a3Q (d:=6) HL.out he)
          have hq : (x != 78) = false:=by rw [hx]; rfl
          clear he hle hx
          go_wp2_with fail
          go_roundw
          case rel=>exact ⟨1 + 1,by omega,by go_num,rfl,Lib.hid ⟨by rw [<- HE.out]; exact H.out.1,H.out.2.1,HL.out⟩⟩
          case measure=>first | (simp [intOf]; done) | (simp [intOf]; omega)
        · have he : headE 1 (f.getD 1 0) = 8:=by
            rw [<- HX.out]; unfold headE; rw [if_pos ⟨by decide,hx⟩]
          have HE:=Lib.hid (a3P (d:=6) HL.out he (by decide))
          have hq : (x != 78) = true:=by simpa using hx
          clear he hle hx
          go_wp2_with fail
          go_ret2
          have hM : headM f = 8:=by rw [<- H.out.1]; exact HE.out
          rw [a3w hM (by decide),hM]
          exact ⟨rfl,H.out.2.1⟩
      · have hI : ¬ (n : Int) <= 2:=by omega
        have e1 : ad.add 2 = ⟨ad.block,ad.off + 2,none⟩:=rfl
        rw [e1] at hcx
        have hmg : (((ByteArray.mk #[80,78,67,72])[2]'(by decide)).toNat : Int) = 67:=rfl
        by_cases hx : x = 67
        · have he : headE 2 (f.getD 2 0) = 0:=by rw [<- HX.out,hx]; decide
          have HE:=Lib.hid (a3Q (d:=5) HL.out he)
          have hq : (x != 67) = false:=by rw [hx]; rfl
          clear he hle hx
          go_wp2_with fail
          go_roundw
          case rel=>exact ⟨2 + 1,by omega,by go_num,rfl,Lib.hid ⟨by rw [<- HE.out]; exact H.out.1,H.out.2.1,HL.out⟩⟩
          case measure=>first | (simp [intOf]; done) | (simp [intOf]; omega)
        · have he : headE 2 (f.getD 2 0) = 8:=by
            rw [<- HX.out]; unfold headE; rw [if_pos ⟨by decide,hx⟩]
          have HE:=Lib.hid (a3P (d:=5) HL.out he (by decide))
          have hq : (x != 67) = true:=by simpa using hx
          clear he hle hx
          go_wp2_with fail
          go_ret2
          have hM : headM f = 8:=by rw [<- H.out.1]; exact HE.out
          rw [a3w hM (by decide),hM]
          exact ⟨rfl,H.out.2.1⟩
      · have hI : ¬ (n : Int) <= 3:=by omega
        have e1 : ad.add 3 = ⟨ad.block,ad.off + 3,none⟩:=rfl
        rw [e1] at hcx
        have hmg : (((ByteArray.mk #[80,78,67,72])[3]'(by decide)).toNat : Int) = 72:=rfl
        by_cases hx : x = 72
        · have he : headE 3 (f.getD 3 0) = 0:=by rw [<- HX.out,hx]; decide
          have HE:=Lib.hid (a3Q (d:=4) HL.out he)
          have hq : (x != 72) = false:=by rw [hx]; rfl
          clear he hle hx
          go_wp2_with fail
          go_roundw
          case rel=>exact ⟨3 + 1,by omega,by go_num,rfl,Lib.hid ⟨by rw [<- HE.out]; exact H.out.1,H.out.2.1,HL.out⟩⟩
          case measure=>first | (simp [intOf]; done) | (simp [intOf]; omega)
        · have he : headE 3 (f.getD 3 0) = 8:=by
            rw [<- HX.out]; unfold headE; rw [if_pos ⟨by decide,hx⟩]
          have HE:=Lib.hid (a3P (d:=4) HL.out he (by decide))
          have hq : (x != 72) = true:=by simpa using hx
          clear he hle hx
          go_wp2_with fail
          go_ret2
          have hM : headM f = 8:=by rw [<- H.out.1]; exact HE.out
          rw [a3w hM (by decide),hM]
          exact ⟨rfl,H.out.2.1⟩
      · have hI : ¬ (n : Int) <= 4:=by omega
        have e1 : ad.add 4 = ⟨ad.block,ad.off + 4,none⟩:=rfl
        rw [e1] at hcx
        by_cases hx : x = 1
        · have he : headE 4 (f.getD 4 0) = 0:=by rw [<- HX.out,hx]; decide
          have HE:=Lib.hid (a3Q (d:=3) HL.out he)
          have hq : (x != 1) = false:=by rw [hx]; rfl
          clear he hle hx
          go_wp2_with fail
          go_roundw
          case rel=>exact ⟨4 + 1,by omega,by go_num,rfl,Lib.hid ⟨by rw [<- HE.out]; exact H.out.1,H.out.2.1,HL.out⟩⟩
          case measure=>first | (simp [intOf]; done) | (simp [intOf]; omega)
        · have he : headE 4 (f.getD 4 0) = 9:=by
            rw [<- HX.out]; unfold headE; rw [if_neg (by omega),if_pos ⟨rfl,hx⟩]
          have HE:=Lib.hid (a3P (d:=3) HL.out he (by decide))
          have hq : (x != 1) = true:=by simpa using hx
          clear he hle hx
          go_wp2_with fail
          go_ret2
          have hM : headM f = 9:=by rw [<- H.out.1]; exact HE.out
          rw [a3w hM (by decide),hM]
          exact ⟨rfl,H.out.2.1⟩
      · have hI : ¬ (n : Int) <= 5:=by omega
        have e1 : ad.add 5 = ⟨ad.block,ad.off + 5,none⟩:=rfl
        rw [e1] at hcx
        have hw64 : IntKind.i64.wrap x = x:=i64_in _ (by omega)
        have HG:=Lib.hid (b0S x wr)
        cases hp : logP x with
        | true=>
         have he : headE 5 (f.getD 5 0) = 0:=by
          rw [<- HX.out]
          have:=logP_iff.1 hp
          simp [headE,this]
         have HE:=Lib.hid (a3Q (d:=2) HL.out he)
         clear he hle
         go_wp2_with fail
         refine HG.out.mono ?_
         rintro e w2 ⟨rfl,hd⟩
         rw [hp]
         have HB:=Lib.hid (H.out.2.1.trans (hd.below.mono H.out.2.1.size))
         clear hd
         go_wp2_with fail
         go_roundw
         case rel=>exact ⟨5 + 1,by omega,by go_num,by rw [if_pos (by decide),<- HX.out],Lib.hid ⟨by rw [<- HE.out]; exact H.out.1,HB.out,HL.out⟩⟩
         case measure=>first | (simp [intOf]; done) | (simp [intOf]; omega)
        | false=>
         have he : headE 5 (f.getD 5 0) = 5:=by
          rw [<- HX.out]
          have h5 : ¬ (10 <= x /\ x <= 17):=λ h=>by rw [logP_iff.2 h] at hp; cases hp
          unfold headE
          rw [if_neg (by omega),if_neg (by omega),if_pos ⟨rfl,h5⟩]
         have HE:=Lib.hid (a3P (d:=2) HL.out he (by decide))
         clear he hle
         go_wp2_with fail
         refine HG.out.mono ?_
         rintro e w2 ⟨rfl,hd⟩
         rw [hp]
         have HB:=Lib.hid (H.out.2.1.trans (hd.below.mono H.out.2.1.size))
         clear hd
         go_wp2_with fail
         go_ret2
         have hM : headM f = 5:=by rw [<- H.out.1]; exact HE.out
         rw [a3w hM (by decide),hM]
         exact ⟨rfl,HB.out⟩
      · have hI : ¬ (n : Int) <= 6:=by omega
        have e1 : ad.add 6 = ⟨ad.block,ad.off + 6,none⟩:=rfl
        rw [e1] at hcx
        by_cases hx : x = 0
        · have he : headE 6 (f.getD 6 0) = 0:=by rw [<- HX.out,hx]; decide
          have HE:=Lib.hid (a3Q (d:=1) HL.out he)
          have hq : (x != 0) = false:=by rw [hx]; rfl
          clear he hle hx
          go_wp2_with fail
          go_roundw
          case rel=>exact ⟨6 + 1,by omega,by go_num,rfl,Lib.hid ⟨by rw [<- HE.out]; exact H.out.1,H.out.2.1,HL.out⟩⟩
          case measure=>first | (simp [intOf]; done) | (simp [intOf]; omega)
        · have he : headE 6 (f.getD 6 0) = 4:=by
            rw [<- HX.out]; unfold headE; rw [if_neg (by omega),if_neg (by omega),if_neg (by omega),if_pos ⟨by decide,hx⟩]
          have HE:=Lib.hid (a3P (d:=1) HL.out he (by decide))
          have hq : (x != 0) = true:=by simpa using hx
          clear he hle hx
          go_wp2_with fail
          go_ret2
          have hM : headM f = 4:=by rw [<- H.out.1]; exact HE.out
          rw [a3w hM (by decide),hM]
          exact ⟨rfl,H.out.2.1⟩
      · have hI : ¬ (n : Int) <= 7:=by omega
        have e1 : ad.add 7 = ⟨ad.block,ad.off + 7,none⟩:=rfl
        rw [e1] at hcx
        by_cases hx : x = 0
        · have he : headE 7 (f.getD 7 0) = 0:=by rw [<- HX.out,hx]; decide
          have HE:=Lib.hid (a3Q (d:=0) HL.out he)
          have hq : (x != 0) = false:=by rw [hx]; rfl
          clear he hle hx
          go_wp2_with fail
          go_roundw
          case rel=>exact ⟨7 + 1,by omega,by go_num,rfl,Lib.hid ⟨by rw [<- HE.out]; exact H.out.1,H.out.2.1,HL.out⟩⟩
          case measure=>first | (simp [intOf]; done) | (simp [intOf]; omega)
        · have he : headE 7 (f.getD 7 0) = 4:=by
            rw [<- HX.out]; unfold headE; rw [if_neg (by omega),if_neg (by omega),if_neg (by omega),if_pos ⟨by decide,hx⟩]
          have HE:=Lib.hid (a3P (d:=0) HL.out he (by decide))
          have hq : (x != 0) = true:=by simpa using hx
          clear he hle hx
          go_wp2_with fail
          go_ret2
          have hM : headM f = 4:=by rw [<- H.out.1]; exact HE.out
          rw [a3w hM (by decide),hM]
          exact ⟨rfl,H.out.2.1⟩
    · have hI : (n : Int) <= (i : Int):=by omega
      have hM : headM f = 3:=by
       rw [<- H.out.1,show 8 - i = (7 - i) + 1 by omega]
       unfold headG
       rw [if_pos (by have:=HN.out; omega)]
      have HM:=Lib.hid hM
      clear hM hle
      go_wp2_with fail
      go_ret2
      rw [a3w HM.out (by decide),HM.out]
      exact ⟨rfl,H.out.2.1⟩
  · obtain rfl : i = 8:=by omega
    have hM : headM f = 0:=by rw [<- H.out.1]; rfl
    have HM:=Lib.hid hM
    clear hM hlt
    go_wp2_with fail
    go_ret2
    unfold a2f
    rw [HM.out,if_pos rfl]
    exact ⟨rfl,H.out.2.1⟩
set_option maxRecDepth 100000 in
set_option maxHeartbeats 1000000 in
theorem c9u (A : Option Addr) (c : Nat) (b : List Int) (w : World) (hr : (Kd.int .u8).C w A b.length b) (hl : b.length <= 131072) (hb : Bytes b) :
    Calls Tryz.prog 179 #[.int .i64 0,.slice A b.length c,.int .i64 b.length] w (Told 0 b w):=by
 have HR:=Lib.hid (And.intro hr (And.intro hl hb))
 have d1 : decide ((b.length : Int) < 0) = false:=decide_eq_false (by omega)
 have d2 : decide ((131072 : Int) < (b.length : Int)) = false:=decide_eq_false (by omega)
 clear hr hl hb
 go_enter Tryz.func179,Tryz.ntmps179
 go_wp2_with fail
 refine (a6c 0 w).mono ?_
 rintro e w' ⟨rfl,rfl⟩
 go_wp2_with fail
 go_loopw [8,9,45] (λ v _ kv wr=>∃ i : Nat,i <= b.length /\ kv = .int .i64 i /\ Hid ((Kd.int .u8).R 5 wr w.heap.size (λ _=>True) v (b.take i) /\ Below w.heap.size w wr)) (λ _ _ kv _=>b.length - (intOf kv).toNat)
 case atStart=>exact ⟨0,by omega,rfl,Lib.hid ⟨by rw [List.take_zero]; exact Kd.R_nil _ _ _ _ _,Below.refl _ _⟩⟩
 case round=>
  obtain ⟨i,hi,rfl,H⟩:=hrel
  by_cases hlt : i < b.length
  · obtain ⟨Av,cv,rfl⟩:=Kd.R_slice H.out.1
    obtain ⟨ad,hA,hcx⟩:=a0w (Kd.C_below HR.out.1 H.out.2) i hlt
    subst hA
    obtain ⟨y,hy⟩ : ∃ y,y = b.getD i 0:=⟨_,rfl⟩
    rw [<- hy] at hcx
    have hl6 : b.length <= 131072:=HR.out.2.1
    have hI : (i : Int) < (b.length : Int):=by omega
    have HN : Hid (b.take (i + 1) = b.take i ++ [y]):=Lib.hid (by rw [List.take_succ_eq_append_getElem hlt,hy,List.getD_eq_getElem?_getD,List.getElem?_eq_getElem hlt]; rfl)
    obtain ⟨L,hL⟩ : ∃ L,L = b.take i:=⟨_,rfl⟩
    have hLl : L.length = i:=by rw [hL,List.length_take]; omega
    rw [<- hL] at H HN ⊢
    have HLn : Hid ((L.length + 1) * 1 <= 140737488355328):=Lib.hid (by omega)
    have HS:=Lib.hid H.out.2.size
    clear hy hL
    go_wp2_with (at_builtin; refine Kd.R_append (Kd.int .u8) (w0:=w) (W:=wr) w.heap.size rfl (.tmp 48) (.tmp 56) 22 5 (.int .u8 0) 1 rfl Tryz.underlying22 a0E rfl (by decide) (by decide) _ _ y [.int .u8 y] (λ _=>True) (λ _=>False) rfl rfl rfl (λ _ h=>h.elim) (λ _ _=>trivial) H.out.1 H.out.2 HS.out HLn.out ?_; intro v1 w3 hr3 hb3 hg3 hat3; have HA:=Lib.hid (And.intro hr3 hb3); clear hr3 hb3 hg3 hat3)
    go_roundw
    case rel=>exact ⟨i + 1,by omega,by go_num,Lib.hid ⟨by rw [HN.out]; exact HA.out.1,HA.out.2⟩⟩
    case measure=>simp [intOf]; omega
  · obtain rfl : i = b.length:=by omega
    obtain ⟨Av,cv,rfl⟩:=Kd.R_slice H.out.1
    go_wp2_with fail
    go_ret2
    have h1:=H.out.1
    rw [List.take_length] at h1
    rw [List.take_length]
    exact ⟨Av,cv,rfl,h1,H.out.2⟩
set_option maxRecDepth 100000 in
set_option maxHeartbeats 1000000 in
theorem c9v (A : Option Addr) (c : Nat) (x : Int) (N : Nat) (w : World) (hr : (Kd.int .u8).C w A 1 [x]) (hl : N <= 131072) (h2 : 2 <= N) :
    Calls Tryz.prog 179 #[.int .i64 1,.slice A 1 c,.int .i64 N] w (Told 0 (List.replicate N x) w):=by
 have HR:=Lib.hid (And.intro hr (And.intro hl h2))
 have d3 : decide ((N : Int) < 2) = false:=decide_eq_false (by omega)
 have d1 : decide ((N : Int) < 0) = false:=decide_eq_false (by omega)
 have d2 : decide ((131072 : Int) < (N : Int)) = false:=decide_eq_false (by omega)
 clear hr hl h2
 go_enter Tryz.func179,Tryz.ntmps179
 go_wp2_with fail
 refine (a6c 1 w).mono ?_
 rintro e w' ⟨rfl,rfl⟩
 go_wp2_with fail
 go_loopw [8,9,45] (λ v _ kv wr=>∃ i : Nat,i <= N /\ kv = .int .i64 i /\ Hid ((Kd.int .u8).R 5 wr w.heap.size (λ _=>True) v (List.replicate i x) /\ Below w.heap.size w wr)) (λ _ _ kv _=>N - (intOf kv).toNat)
 case atStart=>exact ⟨0,by omega,rfl,Lib.hid ⟨by exact Kd.R_nil _ _ _ _ _,Below.refl _ _⟩⟩
 case round=>
  obtain ⟨i,hi,rfl,H⟩:=hrel
  by_cases hlt : i < N
  · obtain ⟨Av,cv,rfl⟩:=Kd.R_slice H.out.1
    obtain ⟨ad,hA,hcx⟩:=a0w (Kd.C_below HR.out.1 H.out.2) 0 (by decide)
    subst hA
    have e0 : ad.add 0 = ad:=by simp [Addr.add]
    have hcy : wr.cell? ad = some (.int .u8 x):=by rw [e0] at hcx; exact hcx
    have hl6 : N <= 131072:=HR.out.2.1
    have hI : (i : Int) < (N : Int):=by omega
    have HN : Hid (List.replicate (i + 1) x = List.replicate i x ++ [x]):=Lib.hid List.replicate_succ'
    clear e0
    obtain ⟨L,hL⟩ : ∃ L,L = List.replicate i x:=⟨_,rfl⟩
    have hLl : L.length = i:=by rw [hL,List.length_replicate]
    rw [<- hL] at H HN ⊢
    have HLn : Hid ((L.length + 1) * 1 <= 140737488355328):=Lib.hid (by omega)
    have HS:=Lib.hid H.out.2.size
    clear hL
    go_wp2_with (at_builtin; refine Kd.R_append (Kd.int .u8) (w0:=w) (W:=wr) w.heap.size rfl (.tmp 48) (.tmp 56) 22 5 (.int .u8 0) 1 rfl Tryz.underlying22 a0E rfl (by decide) (by decide) _ _ x [.int .u8 x] (λ _=>True) (λ _=>False) rfl rfl rfl (λ _ h=>h.elim) (λ _ _=>trivial) H.out.1 H.out.2 HS.out HLn.out ?_; intro v1 w3 hr3 hb3 hg3 hat3; have HA:=Lib.hid (And.intro hr3 hb3); clear hr3 hb3 hg3 hat3)
    go_roundw
    case rel=>exact ⟨i + 1,by omega,by go_num,Lib.hid ⟨by rw [HN.out]; exact HA.out.1,HA.out.2⟩⟩
    case measure=>simp [intOf]; omega
  · obtain rfl : i = N:=by omega
    obtain ⟨Av,cv,rfl⟩:=Kd.R_slice H.out.1
    go_wp2_with fail
    go_ret2
    have h1:=H.out.1
    exact ⟨Av,cv,rfl,h1,H.out.2⟩
def c9w (r : Nat) (qs : List (List Int)) (p : List Int) (w : World) (e : Ending) (w' : World) : Prop:=
 ∃ Am cm Ap cp,e = .returned (.tuple #[.agg #[.int .i64 r,.bool false,.slice Am qs.length cm],.slice Ap p.length cp,.int .i64 0]) /\ kq.R 84 w' w.heap.size (λ _=>True) (.slice Am qs.length cm) qs /\ (Kd.int .u8).R 5 w' w.heap.size (λ _=>True) (.slice Ap p.length cp) p /\ Below w.heap.size w w'
theorem c9x (A : Option Addr) (c : Nat) (ps : List Int) {r : Nat} {qs : List (List Int)} {p : List Int} (w : World) (hr : (Kd.int .u8).C w A ps.length ps) (hps : Bytes ps) (hl : ps.length <= 1000000) (hc : ps.length <= c) (h : a0A ps = (0,r,qs,p)) :
    Calls Tryz.prog 21 #[.slice A ps.length c] w (c9w r qs p w):=by
 refine (b6L A c ps w hr hps hl hc).mono ?_
 intro e w' hp
 unfold a6a at hp
 rw [h] at hp
 obtain ⟨vm,vp,rfl,hm,hv⟩:=hp.1 rfl
 obtain ⟨Am,cm,rfl⟩:=Kd.R_slice hm
 obtain ⟨Ap,cp,rfl⟩:=Kd.R_slice hv
 exact ⟨Am,cm,Ap,cp,rfl,hm,hv,hp.2.2⟩
theorem c9y (A : Option Addr) (c : Nat) (ps : List Int) {k : Int} (w : World) (hr : (Kd.int .u8).C w A ps.length ps) (hps : Bytes ps) (hl : ps.length <= 1000000) (hc : ps.length <= c) (h : (a0A ps).1 = k) (hk : k ≠ 0) :
    Calls Tryz.prog 21 #[.slice A ps.length c] w (λ e w'=>e = .returned (.tuple #[.agg #[.int .i64 0,.bool false,.slice none 0 0],.slice none 0 0,.int .i64 k]) /\ Below w.heap.size w w'):=by
 refine (b6L A c ps w hr hps hl hc).mono ?_
 intro e w' hp
 unfold a6a at hp
 rw [h] at hp
 exact ⟨hp.2.1 hk,hp.2.2⟩
set_option maxRecDepth 100000 in
set_option maxHeartbeats 1000000 in
theorem b7I (A : Option Addr) (c : Nat) (ps : List Int) (n : Int) (w : World) (hr : (Kd.int .u8).C w A ps.length ps) (hps : Bytes ps) (hl : ps.length <= 1000000) (hc : ps.length <= c) :
    Calls Tryz.prog 23 #[.slice A ps.length c,.int .i64 n] w (ReadPost (dec1M ps n) w):=by
 obtain ⟨k,r,q,p,hS⟩ : ∃ k r q p,a0A ps = (k,r,q,p):=⟨_,_,_,_,rfl⟩
 have hpb:=b0s hps
 have hpl:=(b6p ps).1
 have hql:=(b6p ps).2
 rw [hS] at hpb hpl hql
 by_cases hk : k = 0
 · subst hk
   have HD : Hid (dec1M ps n = decM (r : Nat) false q p n):=by show _ = _; unfold dec1M; rw [hS,if_neg (λ h=>h rfl)]
   have HS:=Lib.hid (c9x A c ps w hr hps hl hc hS)
   have HP:=Lib.hid (And.intro hpb (And.intro (Nat.le_trans hpl hl) (show q.length <= 256 from hql)))
   rw [HD.out]
   clear hr hps hl hc hS hpb hpl hql
   go_enter Tryz.func23,Tryz.ntmps23
   go_wp2_with fail
   refine HS.out.mono ?_
   rintro e w1 ⟨Am,cm,Ap,cp,rfl,hm,hv,hb1⟩
   obtain ⟨w2,hw2⟩ : ∃ w2,w2 = w1.alloc (.cells #[.int .i64 r,.bool false,.slice Am q.length cm] 26):=⟨_,rfl⟩
   have hb2 : Below w1.heap.size w1 w2:=by rw [hw2]; exact (Below.refl _ _).alloc (Nat.le_refl _) _
   have HB2:=Lib.hid (hb1.trans (hb2.mono hb1.size))
   have HM:=Lib.hid (Kd.C_below (Kd.R_reads' hm).2.2 hb2)
   have HV:=Lib.hid (Kd.C_below (Kd.R_reads' hv).2.2 hb2)
   clear hm hv hb1 hb2
   go_wp2_with fail
   rw [<- hw2]
   clear hw2
   refine (b4a r false Am cm q Ap cp p n w2 HM.out (by have:=HP.out.2.2; omega) HV.out HP.out.1 HP.out.2.1).mono ?_
   rintro e w3 ⟨⟨v,rfl,hv⟩,hb3⟩
   have H3:=Lib.hid (And.intro hv hb3)
   clear hv hb3
   go_wp2_with fail
   go_ret2
   exact ⟨⟨v,rfl,Kd.R_lower H3.out.1 HB2.out.size⟩,HB2.out.trans (H3.out.2.mono HB2.out.size)⟩
 · have HD : Hid (dec1M ps n = (k,[])):=by show _ = _; unfold dec1M; rw [hS,if_pos hk]
   have HS:=Lib.hid (c9y A c ps w hr hps hl hc (by rw [hS]) hk)
   have hkb : (k == 0) = false:=beq_eq_false_iff_ne.2 hk
   have hkn : (k != 0) = true:=by simp [hk]
   rw [HD.out]
   clear hr hps hl hc hS hpb hpl hql
   go_enter Tryz.func23,Tryz.ntmps23
   go_wp2_with fail
   refine HS.out.mono ?_
   rintro e w1 ⟨rfl,hb1⟩
   have HB1:=Lib.hid hb1
   clear hb1
   go_wp2_with fail
   go_ret2
   exact ⟨⟨_,rfl,Kd.R_nil _ _ _ _ _⟩,HB1.out.alloc HB1.out.size _⟩
set_option maxRecDepth 100000 in
theorem b7J {x : Int × List Int} (A : Option Addr) (c p : Nat) (k n : Int) (m : Nat) (w : World) (hp : w.cell? ⟨p,0,none⟩ = some (.int .i64 k)) (h : Calls Tryz.prog 179 #[.int .i64 k,.slice A m c,.int .i64 n] w (Told x.1 x.2 w)) :
    Calls Tryz.prog 178 #[.slice A m c,.int .i64 n,.pointer (some ⟨p,0,none⟩)] w (Told x.1 x.2 w):=by
 have H:=Lib.hid h
 clear h
 go_enter Tryz.func178,Tryz.ntmps178
 go_wp2_with fail
 refine H.out.mono ?_
 rintro e w' ⟨A1,c1,rfl,hv,hb⟩
 have H1:=Lib.hid (And.intro hv hb)
 clear hv hb
 go_wp2_with fail
 go_ret2
 exact ⟨A1,c1,rfl,H1.out.1,H1.out.2⟩
set_option maxRecDepth 100000 in
theorem c9z (A : Option Addr) (c m : Nat) (k n : Int) (w : World) (h : a0B k n m ≠ 0) :
    Calls Tryz.prog 28 #[.int .i64 k,.slice A m c,.int .i64 n] w (Told (a0B k n m) [] w):=by
 have HI:=Lib.hid (a5k k n m w)
 unfold a1w at HI
 obtain ⟨z,hz⟩ : ∃ z,z = a0B k n m:=⟨_,rfl⟩
 rw [<- hz] at HI h ⊢
 have hz2 : (z != 0) = true:=by simpa using h
 clear hz h
 go_enter Tryz.func28,Tryz.ntmps28
 go_wp2_with fail
 refine HI.out.mono ?_
 rintro e w' ⟨rfl,hb⟩
 have HB:=Lib.hid hb
 clear hb
 go_wp2_with fail
 go_ret2
 exact Told.nil z HB.out
set_option maxRecDepth 100000 in
theorem c9A {x : Int × List Int} (A : Option Addr) (c m : Nat) (n : Int) (w : World) (h0 : a0B 0 n m = 0) (h : ∀ (W : World) (p q : Nat),Below w.heap.size w W -> W.cell? ⟨p,0,none⟩ = some (.int .i64 0) -> W.cell? ⟨q,0,none⟩ = some (.int .i64 1) -> Calls Tryz.prog 178 #[.slice A m c,.int .i64 n,.pointer (some ⟨p,0,none⟩)] W (Told x.1 x.2 W)) :
    Calls Tryz.prog 28 #[.int .i64 0,.slice A m c,.int .i64 n] w (Told x.1 x.2 w):=by
 have H:=Lib.hid h
 have HI:=Lib.hid (a5k 0 n m w)
 unfold a1w at HI
 rw [h0] at HI
 clear h h0
 go_enter Tryz.func28,Tryz.ntmps28
 go_wp2_with fail
 refine HI.out.mono ?_
 rintro e w0 ⟨rfl,hb0⟩
 have HB0:=Lib.hid hb0
 clear hb0
 go_wp2_with fail
 refine (a2q w0).mono ?_
 rintro e w1 ⟨p,q,rfl,hp,hq,hb⟩
 have HB:=Lib.hid (a0h HB0.out hb)
 have H1:=Lib.hid (H.out w1 p q HB.out hp hq)
 have hix:=λ W=>b0L p q W
 have hkf:=a7U
 obtain ⟨V,hV⟩ : ∃ V,V = a1o p q:=⟨_,rfl⟩
 rw [<- hV] at hix ⊢
 clear hb hp hq hV
 go_wp2_with fail
 refine H1.out.mono ?_
 rintro e w2 ⟨A1,c1,rfl,hv,hb⟩
 have H2:=Lib.hid (And.intro hv hb)
 clear hv hb hix hkf
 go_wp2_with fail
 go_ret2
 exact ⟨A1,c1,rfl,Kd.R_lower H2.out.1 HB.out.size,a0h HB.out H2.out.2⟩
set_option maxRecDepth 100000 in
theorem c9B {x : Int × List Int} (A : Option Addr) (c m : Nat) (n : Int) (w : World) (h0 : a0B 1 n m = 0) (h : ∀ (W : World) (p q : Nat),Below w.heap.size w W -> W.cell? ⟨p,0,none⟩ = some (.int .i64 0) -> W.cell? ⟨q,0,none⟩ = some (.int .i64 1) -> Calls Tryz.prog 178 #[.slice A m c,.int .i64 n,.pointer (some ⟨q,0,none⟩)] W (Told x.1 x.2 W)) :
    Calls Tryz.prog 28 #[.int .i64 1,.slice A m c,.int .i64 n] w (Told x.1 x.2 w):=by
 have H:=Lib.hid h
 have HI:=Lib.hid (a5k 1 n m w)
 unfold a1w at HI
 rw [h0] at HI
 clear h h0
 go_enter Tryz.func28,Tryz.ntmps28
 go_wp2_with fail
 refine HI.out.mono ?_
 rintro e w0 ⟨rfl,hb0⟩
 have HB0:=Lib.hid hb0
 clear hb0
 go_wp2_with fail
 refine (a2q w0).mono ?_
 rintro e w1 ⟨p,q,rfl,hp,hq,hb⟩
 have HB:=Lib.hid (a0h HB0.out hb)
 have H1:=Lib.hid (H.out w1 p q HB.out hp hq)
 have hix:=λ W=>b0M p q W
 have hkf:=a7U
 obtain ⟨V,hV⟩ : ∃ V,V = a1o p q:=⟨_,rfl⟩
 rw [<- hV] at hix ⊢
 clear hb hp hq hV
 go_wp2_with fail
 refine H1.out.mono ?_
 rintro e w2 ⟨A1,c1,rfl,hv,hb⟩
 have H2:=Lib.hid (And.intro hv hb)
 clear hv hb hix hkf
 go_wp2_with fail
 go_ret2
 exact ⟨A1,c1,rfl,Kd.R_lower H2.out.1 HB.out.size,a0h HB.out H2.out.2⟩
set_option maxRecDepth 100000 in
theorem c9C {x : Int × List Int} (A : Option Addr) (c m : Nat) (n : Int) (w : World) (h0 : a0B 2 n m = 0) (h : ∀ (W : World) (p q : Nat),Below w.heap.size w W -> W.cell? ⟨p,0,none⟩ = some (.int .i64 0) -> W.cell? ⟨q,0,none⟩ = some (.int .i64 1) -> Calls Tryz.prog 131 #[.slice A m c,.int .i64 n] W (Told x.1 x.2 W)) :
    Calls Tryz.prog 28 #[.int .i64 2,.slice A m c,.int .i64 n] w (Told x.1 x.2 w):=by
 have H:=Lib.hid h
 have HI:=Lib.hid (a5k 2 n m w)
 unfold a1w at HI
 rw [h0] at HI
 clear h h0
 go_enter Tryz.func28,Tryz.ntmps28
 go_wp2_with fail
 refine HI.out.mono ?_
 rintro e w0 ⟨rfl,hb0⟩
 have HB0:=Lib.hid hb0
 clear hb0
 go_wp2_with fail
 refine (a2q w0).mono ?_
 rintro e w1 ⟨p,q,rfl,hp,hq,hb⟩
 have HB:=Lib.hid (a0h HB0.out hb)
 have H1:=Lib.hid (H.out w1 p q HB.out hp hq)
 have hix:=λ W=>b0N p q W
 have hkf:=a7U
 obtain ⟨V,hV⟩ : ∃ V,V = a1o p q:=⟨_,rfl⟩
 rw [<- hV] at hix ⊢
 clear hb hp hq hV
 go_wp2_with fail
 refine H1.out.mono ?_
 rintro e w2 ⟨A1,c1,rfl,hv,hb⟩
 have H2:=Lib.hid (And.intro hv hb)
 clear hv hb hix hkf
 go_wp2_with fail
 go_ret2
 exact ⟨A1,c1,rfl,Kd.R_lower H2.out.1 HB.out.size,a0h HB.out H2.out.2⟩
set_option maxRecDepth 100000 in
theorem c9D {x : Int × List Int} (A : Option Addr) (c m : Nat) (n : Int) (w : World) (h0 : a0B 3 n m = 0) (h : ∀ (W : World) (p q : Nat),Below w.heap.size w W -> W.cell? ⟨p,0,none⟩ = some (.int .i64 0) -> W.cell? ⟨q,0,none⟩ = some (.int .i64 1) -> Calls Tryz.prog 23 #[.slice A m c,.int .i64 n] W (Told x.1 x.2 W)) :
    Calls Tryz.prog 28 #[.int .i64 3,.slice A m c,.int .i64 n] w (Told x.1 x.2 w):=by
 have H:=Lib.hid h
 have HI:=Lib.hid (a5k 3 n m w)
 unfold a1w at HI
 rw [h0] at HI
 clear h h0
 go_enter Tryz.func28,Tryz.ntmps28
 go_wp2_with fail
 refine HI.out.mono ?_
 rintro e w0 ⟨rfl,hb0⟩
 have HB0:=Lib.hid hb0
 clear hb0
 go_wp2_with fail
 refine (a2q w0).mono ?_
 rintro e w1 ⟨p,q,rfl,hp,hq,hb⟩
 have HB:=Lib.hid (a0h HB0.out hb)
 have H1:=Lib.hid (H.out w1 p q HB.out hp hq)
 have hix:=λ W=>b0O p q W
 have hkf:=a7U
 obtain ⟨V,hV⟩ : ∃ V,V = a1o p q:=⟨_,rfl⟩
 rw [<- hV] at hix ⊢
 clear hb hp hq hV
 go_wp2_with fail
 refine H1.out.mono ?_
 rintro e w2 ⟨A1,c1,rfl,hv,hb⟩
 have H2:=Lib.hid (And.intro hv hb)
 clear hv hb hix hkf
 go_wp2_with fail
 go_ret2
 exact ⟨A1,c1,rfl,Kd.R_lower H2.out.1 HB.out.size,a0h HB.out H2.out.2⟩
theorem b7K {k n m : Int} (h : a0B k n m = 0) : 0 <= k /\ k < 4 /\ 0 <= n /\ n <= 131072 /\ mayB k n m = true:=by
 unfold a0B at h
 by_cases h1 : k < 0 \/ 3 < k
 · rw [if_pos h1] at h; cases h
 rw [if_neg h1] at h
 by_cases h2 : n < 0 \/ 131072 < n \/ mayB k n m = false
 · rw [if_pos h2] at h; cases h
 refine ⟨by omega,by omega,by omega,by omega,?_⟩
 cases e : mayB k n m with
 | true=>rfl
 | false=>exact absurd (.inr (.inr e)) h2
theorem c9E (A : Option Addr) (c : Nat) (k n : Int) (ps : List Int) (w : World) (hr : (Kd.int .u8).C w A ps.length ps) (hps : Bytes ps) (hl : ps.length <= 1000000) (hc : ps.length <= c) (hnil : A = none -> c = 0) :
    Calls Tryz.prog 28 #[.int .i64 k,.slice A ps.length c,.int .i64 n] w (Told (pickD k ps n).1 (pickD k ps n).2 w):=by
 by_cases h0 : a0B k n ps.length = 0
 · obtain ⟨k0,k4,n0,n1,hm⟩:=b7K h0
   have e : pickD k ps n = if k <= 1 then a2X k ps n else if k = 2 then dec0M ps n else dec1M ps n:=by unfold pickD; rw [if_neg (λ h=>h h0)]
   rw [e]
   by_cases e0 : k = 0
   · subst e0
     have hn : n = ps.length:=by unfold mayB at hm; rw [if_pos rfl] at hm; exact of_decide_eq_true hm
     subst hn
     have e2 : a2X 0 ps ps.length = (0,ps):=by unfold a2X; rw [if_neg (by omega),if_neg (by omega),if_pos rfl]
     rw [if_pos (by decide),e2]
     exact c9A (x:=(0,ps)) A c ps.length ps.length w h0 (λ W p q hB hp _=>b7J (x:=(0,ps)) A c p 0 _ _ W hp (c9u A c ps W (Kd.C_below hr hB) (by omega) hps))
   by_cases e1 : k = 1
   · subst e1
     have hn : 1 < n /\ (ps.length : Int) = 1:=by unfold mayB at hm; rw [if_neg (by decide),if_pos rfl] at hm; exact of_decide_eq_true hm
     obtain ⟨N,rfl⟩ : ∃ N : Nat,n = N:=⟨n.toNat,by omega⟩
     have hl1 : ps.length = 1:=by omega
     have e2 : a2X 1 ps N = (0,List.replicate N (ps.getD 0 0)):=by unfold a2X; rw [if_neg (by omega),if_neg (by omega),if_neg (by decide)]; rfl
     obtain ⟨x,rfl⟩:=List.length_eq_one_iff.1 hl1
     rw [if_pos (by decide),e2]
     exact c9B (x:=(0,List.replicate N x)) A c 1 N w h0 (λ W p q hB _ hq=>b7J (x:=(0,List.replicate N x)) A c q 1 _ _ W hq (c9v A c x N W (Kd.C_below hr hB) (by omega) (by omega)))
   rw [if_neg (by omega)]
   by_cases e2 : k = 2
   · subst e2
     rw [if_pos rfl]
     exact c9C (x:=dec0M ps n) A c ps.length n w h0 (λ W p q hB _ _=>c6A A c ps n W (Kd.C_below hr hB) hps hl hc hnil rfl)
   · obtain rfl : k = 3:=by omega
     rw [if_neg (by decide)]
     exact c9D (x:=dec1M ps n) A c ps.length n w h0 (λ W p q hB _ _=>(b7I A c ps n W (Kd.C_below hr hB) hps hl hc).mono λ e w' hp=>hp.told)
 · have e : pickD k ps n = (a0B k n ps.length,[]):=by unfold pickD; rw [if_pos h0]
   rw [e]
   exact c9z A c ps.length k n w h0
theorem b7L {k n : Int} {ps : List Int} (h : Bytes ps) : Bytes (pickD k ps n).2:=by
 unfold pickD
 split
 · intro x hx; cases hx
 · split
   · unfold a2X
     repeat' split
     · intro x hx; cases hx
     · intro x hx; cases hx
     · exact h
     · intro x hx; rw [(List.mem_replicate.1 hx).2]; exact h.get 0
   · split
     · exact c7a h
     · exact c7b h
def OpenPost (r : Int × List Int × Nat × Bool) (w : World) (e : Ending) (w' : World) : Prop:=
 ∃ A c,e = .returned (.tuple #[.slice A r.2.1.length c,.int .i64 (r.2.2.1 : Nat),.bool r.2.2.2,.int .i64 r.1]) /\ (Kd.int .u8).R 5 w' w.heap.size (λ _=>True) (.slice A r.2.1.length c) r.2.1 /\ Below w.heap.size w w'
theorem b1c {f : List Int} (hf : Bytes f) {log room : Int} {first : Bool} (h : (scanM f log first room).1 = 0) : 11 <= f.length /\ (scanM f log first room).2.1 <= 3 /\ (scanM f log first room).2.2.1 <= 131072 /\ (scanM f log first room).2.2.2.1 < 16777216 /\ (scanM f log first room).2.2.2.2.2 < 4294967296 /\ a0B ((scanM f log first room).2.1 : Nat) (scanM f log first room).2.2.1 (scanM f log first room).2.2.2.1 = 0 /\ ((scanM f log first room).2.2.1 : Int) <= room:=by
 unfold scanM at h ⊢
 by_cases a1 : log < 10 \/ 17 < log \/ room < 0
 · rw [if_pos a1] at h; cases h
 rw [if_neg a1] at h ⊢
 by_cases a2 : f.length < 1
 · rw [if_pos a2] at h; cases h
 rw [if_neg a2] at h ⊢
 by_cases a3 : 7 < (f.getD 0 0).toNat
 · rw [if_pos a3] at h; cases h
 rw [if_neg a3] at h ⊢
 by_cases a4 : f.length < 4
 · rw [if_pos a4] at h; cases h
 rw [if_neg a4] at h ⊢
 by_cases a5 : a1z log first ((f.getD 0 0).toNat % 4) (rdN (f.drop 1) 3) (decide (4 <= (f.getD 0 0).toNat)) = false
 · rw [if_pos a5] at h; cases h
 rw [if_neg a5] at h ⊢
 by_cases a6 : f.length < 7
 · rw [if_pos a6] at h; cases h
 rw [if_neg a6] at h ⊢
 by_cases a7 : a0B ((f.getD 0 0).toNat % 4 : Nat) (rdN (f.drop 1) 3) (rdN (f.drop 4) 3) ≠ 0
 · rw [if_pos a7] at h; exact absurd h a7
 rw [if_neg a7] at h ⊢
 by_cases a8 : room < rdN (f.drop 1) 3
 · rw [if_pos a8] at h; cases h
 rw [if_neg a8] at h ⊢
 by_cases a9 : f.length < 11
 · rw [if_pos a9] at h; cases h
 rw [if_neg a9]
 have b1:=a2I (λ x hx=>hf x (List.mem_of_mem_drop hx) : Bytes (f.drop 4)) 3
 have b2:=a2I (λ x hx=>hf x (List.mem_of_mem_drop hx) : Bytes (f.drop 7)) 4
 have b3:=b7K (Classical.not_not.1 a7)
 dsimp only
 refine ⟨by omega,by omega,by omega,by omega,by omega,Classical.not_not.1 a7,by omega⟩
theorem a6h {fn : Func} {a b c d : Tmp} (h : fn.results = #[.tmp a,.tmp b,.tmp c,.tmp d]) (tmps : Array Value) (w : World) :
    (results fn tmps).run Tryz.prog w = .ok (.tuple #[tmps.getD a undef,tmps.getD b undef,tmps.getD c undef,tmps.getD d undef]) w:=by
 simp [results,h]
theorem OpenPost.err (k : Int) {w w' : World} (hb : Below w.heap.size w w') : OpenPost (k,[],0,false) w (.returned (.tuple #[.slice none 0 0,.int .i64 0,.bool false,.int .i64 k])) w':=⟨none,0,rfl,Kd.R_nil _ _ _ _ _,hb⟩
set_option maxRecDepth 100000 in
set_option maxHeartbeats 2000000 in
theorem b7M (A : Option Addr) (c : Nat) (f : List Int) (log : Int) (first : Bool) (room : Int) (w : World) (hr : (Kd.int .u8).C w A f.length f) (hf : Bytes f) (hl : f.length <= 1000000) (hc : f.length <= c) :
    Calls Tryz.prog 36 #[.slice A f.length c,.int .i64 log,.bool first,.int .i64 room] w (OpenPost (openM f log first room) w):=by
 have HSc:=Lib.hid (b7c A c f log first room w hr hf hl hc)
 have hB:=λ h=>b1c hf (log:=log) (room:=room) (first:=first) h
 have HOp : Hid (openM f log first room = (let s:=scanM f log first room
  if s.1 ≠ 0 then (s.1,[],0,false) else
  if f.length < 11 + s.2.2.2.1 then (3,[],0,false) else
  if a0S 0 ((f.drop 11).take s.2.2.2.1) ≠ s.2.2.2.2.2 then (12,[],0,false) else
  if (pickD (s.2.1 : Nat) ((f.drop 11).take s.2.2.2.1) s.2.2.1).1 ≠ 0 then ((pickD (s.2.1 : Nat) ((f.drop 11).take s.2.2.2.1) s.2.2.1).1,[],0,false) else
  (0,(pickD (s.2.1 : Nat) ((f.drop 11).take s.2.2.2.1) s.2.2.1).2,11 + s.2.2.2.1,s.2.2.2.2.1))):=Lib.hid rfl
 obtain ⟨R,hR⟩ : ∃ R,R = openM f log first room:=⟨_,rfl⟩
 rw [<- hR] at HOp ⊢
 obtain ⟨k,kd,N,Len,lb,sm,hS⟩ : ∃ k kd N Len lb sm,scanM f log first room = (k,kd,N,Len,lb,sm):=⟨_,_,_,_,_,_,rfl⟩
 rw [hS] at HSc hB HOp
 dsimp only at hB HOp
 unfold b0Q headC at HSc
 dsimp only at HSc
 have HRw:=Lib.hid (And.intro hr (And.intro hf (And.intro hl hc)))
 clear hR hS hr hf hl hc
 by_cases hk : k = 0
 · subst hk
   obtain ⟨b11,bkd,bN,bLen,bsm,bck,brm⟩:=hB rfl
   have HBd:=Lib.hid (And.intro b11 (And.intro bkd (And.intro bN (And.intro bLen (And.intro bsm (And.intro bck brm))))))
   rw [if_neg (λ h=>h rfl)] at HOp
   clear hB bkd bN bck brm
   by_cases hL : f.length < 11 + Len
   · rw [if_pos hL] at HOp
     have hLI : (f.length : Int) < 11 + (Len : Int):=by omega
     clear hL
     go_enter Tryz.func36,Tryz.ntmps36
     go_wp2_with fail
     refine HSc.out.mono ?_
     rintro e w1 ⟨rfl,hb1⟩
     have HB1:=Lib.hid hb1
     clear hb1
     go_wp2_with fail
     refine bodyPost_ret (a6h (fn:=Tryz.f36) (a:=8) (b:=9) (c:=10) (d:=11) rfl _ _) rfl ?_
     rw [HOp.out]
     exact OpenPost.err 3 (HB1.out.alloc HB1.out.size _)
   · rw [if_neg hL] at HOp
     have hLI : ¬ (f.length : Int) < 11 + (Len : Int):=by omega
     obtain ⟨bd,hbd⟩ : ∃ l,l = (f.drop 11).take Len:=⟨_,rfl⟩
     have hdl : (f.drop 11).length = f.length - 11:=List.length_drop
     have hbl : bd.length = Len:=by rw [hbd,List.length_take]; omega
     have HBy:=Lib.hid (show Bytes bd from by rw [hbd]; exact λ x hx=>HRw.out.2.1 x (List.mem_of_mem_drop (List.mem_of_mem_take hx)))
     have hsl : ∀ W : World,(Instr.slice 22 (.slice A f.length c) (some (.int .i64 11)) (some (.int .i64 (11 + (Len : Int)))) none).run Tryz.prog W = .ok (.slice (if c = 11 then A else A.map (·.add (11 * 1))) Len (c - 11)) W:=λ W=>by
      obtain ⟨i0,hi0,hz0,hz1,hz2⟩:=info_parts a0E
      have:=b9i (P:=Tryz.prog) 22 5 .i64 .i64 Tryz.underlying22 hi0 1 hz1 A f.length c (11 : Int) (11 + (Len : Int)) (by decide) (by omega) (by omega) HRw.out.2.2.2 W
      rw [show ((11 : Int) + (Len : Int)).toNat - (11 : Int).toNat = Len by omega,show (11 : Int).toNat = 11 from rfl] at this
      exact this
     obtain ⟨Ab,hAb⟩ : ∃ Ab,Ab = (if c = 11 then A else A.map (·.add (11 * 1))):=⟨_,rfl⟩
     have hnil : Ab ≠ none:=by
      obtain ⟨ad,hA,_⟩:=a0w HRw.out.1 0 (by omega)
      rw [hAb,hA]; split <;> simp
     have HBC : Hid ((Kd.int .u8).C w Ab Len bd):=Lib.hid (by
      have h1:=Kd.C_drop (c:=c) (m:=11) HRw.out.1 b11 HRw.out.2.2.2
      have h2:=Kd.C_take (m:=Len) h1 (by omega)
      rw [<- hbd,hbl] at h2
      rw [hAb]; exact h2)
     rw [<- hAb] at hsl
     rw [<- hbd] at HOp
     have HBl:=Lib.hid (And.intro hbl (show Len <= c - 11 from by have:=HRw.out.2.2.2; omega))
     have HNil:=Lib.hid hnil
     obtain ⟨cs,hcs⟩ : ∃ n,n = a0S 0 bd:=⟨_,rfl⟩
     have HCs:=Lib.hid hcs
     rw [<- hcs] at HOp
     have HLn:=Lib.hid (show bd.length <= 1000000 from by have:=HRw.out.2.2.1; omega)
     clear hL hbd hdl hbl hAb hnil hcs
     go_enter Tryz.func36,Tryz.ntmps36
     go_wp2_with fail
     refine HSc.out.mono ?_
     rintro e w1 ⟨rfl,hb1⟩
     obtain ⟨w2,hw2⟩ : ∃ w2,w2 = w1.alloc (.cells #[.int .i64 kd,.int .i64 N,.int .i64 Len,.bool lb,.int .u32 sm] 114):=⟨_,rfl⟩
     have hb2 : Below w.heap.size w w2:=by rw [hw2]; exact hb1.alloc hb1.size _
     have hk2 : w2.heap[w1.heap.size]? = some (.cells #[.int .i64 kd,.int .i64 N,.int .i64 Len,.bool lb,.int .u32 sm] 114 (0,0)):=by rw [hw2]; exact a0k _ _
     obtain ⟨hh,hhh⟩ : ∃ h,h = w1.heap.size:=⟨_,rfl⟩
     rw [<- hhh] at hk2
     have HB2:=Lib.hid hb2
     have HK2:=Lib.hid hk2
     obtain ⟨⟨c0,c1,c2,c3,c4⟩,-⟩:=cell5 hk2
     have s0 : SLater w2 w2:=Below.refl _ _
     clear hb1 hb2 hk2
     go_wp2_with fail
     rw [<- hw2,<- hhh]
     clear hw2 hhh
     go_wp2_with fail
     have HBC2:=Lib.hid (Kd.C_below HBC.out HB2.out)
     have HOf0 : Hid (∀ (W : World) (p : Nat),SLater w2 W -> TabAt p 256 W -> Calls Tryz.prog 86 #[.pointer (some ⟨p,0,none⟩),.slice Ab Len (c - 11)] W (λ e W'=>e = .returned (.int .u32 cs) /\ W = W')):=Lib.hid (λ W p hW hp=>by
      have h2:=a5X p Ab (c - 11) bd W hp (by rw [HBl.out.1]; exact Kd.C_below HBC2.out hW) (by have:=HLn.out; omega) HBy.out
      rw [HBl.out.1,<- HCs.out] at h2
      exact h2)
     have HPd : Hid (∀ W : World,SLater w2 W -> Calls Tryz.prog 28 #[.int .i64 kd,.slice Ab Len (c - 11),.int .i64 N] W (Told (pickD kd bd N).1 (pickD kd bd N).2 W)):=Lib.hid (λ W hW=>by
      have h:=c9E Ab (c - 11) kd N bd W (by rw [HBl.out.1]; exact Kd.C_below HBC2.out hW) HBy.out HLn.out (by rw [HBl.out.1]; exact HBl.out.2) (λ h=>absurd h HNil.out)
      rw [HBl.out.1] at h
      exact h)
     have HRb:=Lib.hid (b7L (k:=kd) (n:=N) HBy.out)
     obtain ⟨pk,py,hP⟩ : ∃ pk py,pickD kd bd N = (pk,py):=⟨_,_,rfl⟩
     rw [hP] at HPd HOp HRb
     dsimp only at HPd HOp HRb
     clear hP
     by_cases hcm : cs = sm
     · rw [if_neg (λ h=>h hcm)] at HOp
       have hneq : ((cs : Int) != (sm : Int)) = false:=by rw [hcm]; simp
       clear hcm
       go_region_law (first
        | (go_simp; go_at_call 85; refine (a4p _).mono ?_; rintro e w' ⟨p,rfl,hp,ht,hb⟩; have s1:=(by first | exact SLater.keep ‹_› hb | exact SLater.keep (SLater.drew ‹_›) hb : SLater w2 w'); obtain ⟨⟨g0,g1,g2,g3,g4⟩,-⟩:=cell5 (a0g HK2.out s1); clear hp hb)
        | (go_simp; go_at_call 86; refine (HOf0.out _ _ (by first | assumption | exact SLater.drew ‹_›) (by first | assumption)).mono ?_; rintro e w' ⟨rfl,rfl⟩))
       all_goals
        go_wp2_with fail
        refine (HPd.out _ (by first | assumption | exact SLater.drew ‹_›)).mono ?_
        rintro e w5 ⟨Ay,cy,rfl,hvy,hb5⟩
        have HV5 : Hid ((Kd.int .u8).R 5 w5 w.heap.size (λ _=>True) (.slice Ay py.length cy) py):=Lib.hid (Kd.R_lower hvy (Nat.le_trans HB2.out.size (Below.size (B:=w2.heap.size) (w:=w2) (by first | assumption | exact SLater.drew ‹_›))))
        have sX:=(by first | exact SLater.keep ‹_› hb5 | exact SLater.keep (SLater.drew ‹_›) hb5 : SLater w2 w5)
        obtain ⟨⟨g0,g1,g2,g3,g4⟩,-⟩:=cell5 (a0g HK2.out sX)
        have HSX:=Lib.hid sX
        clear hvy hb5
        by_cases hpk : pk = 0
        · subst hpk
          rw [if_neg (λ h=>h rfl)] at HOp
          go_wp2_with fail
          go_quiet (fail)
          all_goals
           go_wp2_with fail
           refine bodyPost_ret (a6h (fn:=Tryz.f36) (a:=8) (b:=9) (c:=10) (d:=11) rfl _ _) rfl ?_
           rw [HOp.out]
           exact ⟨Ay,cy,rfl,Kd.R_below HV5.out (a0b (Below.refl _ _) _),a0b (HB2.out.trans (Below.mono HSX.out HB2.out.size)) _⟩
        · rw [if_pos hpk] at HOp
          have hpk2 : (pk != 0) = true:=by simpa using hpk
          clear hpk
          go_wp2_with fail
          refine bodyPost_ret (a6h (fn:=Tryz.f36) (a:=8) (b:=9) (c:=10) (d:=11) rfl _ _) rfl ?_
          rw [HOp.out]
          exact OpenPost.err pk (HB2.out.trans (Below.mono HSX.out HB2.out.size))
     · rw [if_pos hcm] at HOp
       have hneq : ((cs : Int) != (sm : Int)) = true:=by simp; omega
       clear hcm
       go_region_law (first
        | (go_simp; go_at_call 85; refine (a4p _).mono ?_; rintro e w' ⟨p,rfl,hp,ht,hb⟩; have s1:=(by first | exact SLater.keep ‹_› hb | exact SLater.keep (SLater.drew ‹_›) hb : SLater w2 w'); obtain ⟨⟨g0,g1,g2,g3,g4⟩,-⟩:=cell5 (a0g HK2.out s1); clear hp hb)
        | (go_simp; go_at_call 86; refine (HOf0.out _ _ (by first | assumption | exact SLater.drew ‹_›) (by first | assumption)).mono ?_; rintro e w' ⟨rfl,rfl⟩))
       all_goals
        have sX:=(by first | assumption | exact SLater.drew ‹_› : SLater w2 _)
        go_wp2_with fail
        refine bodyPost_ret (a6h (fn:=Tryz.f36) (a:=8) (b:=9) (c:=10) (d:=11) rfl _ _) rfl ?_
        rw [HOp.out]
        exact OpenPost.err 12 (HB2.out.trans (Below.mono (by first | assumption | exact SLater.drew ‹_›) HB2.out.size))
 · have hk2 : (k != 0) = true:=by simpa using hk
   rw [if_pos hk] at HOp
   clear hB hk
   go_enter Tryz.func36,Tryz.ntmps36
   go_wp2_with fail
   refine HSc.out.mono ?_
   rintro e w1 ⟨rfl,hb1⟩
   have HB1:=Lib.hid hb1
   clear hb1
   go_wp2_with fail
   refine bodyPost_ret (a6h (fn:=Tryz.f36) (a:=8) (b:=9) (c:=10) (d:=11) rfl _ _) rfl ?_
   rw [HOp.out]
   exact OpenPost.err k (HB1.out.alloc HB1.out.size _)
theorem c9F {f x : List Int} (h : f.length < 4) : a1k f x = 3:=by unfold a1k; rw [if_pos h]
theorem c9G {f x : List Int} (h : ¬ f.length < 4) (h2 : f.take 4 ≠ tailL x) : a1k f x = 15:=by unfold a1k; rw [if_neg h,if_pos h2]
theorem c9H {f x : List Int} (h : ¬ f.length < 4) (h2 : f.take 4 = tailL x) : a1k f x = if 4 < f.length then 16 else 0:=by unfold a1k; rw [if_neg h,if_neg (λ h=>h h2)]
theorem c9I (x : List Int) : Bytes (tailL x):=a5e _ _
set_option maxRecDepth 100000 in
set_option maxHeartbeats 2000000 in
theorem c9J (A B : Option Addr) (ca cb : Nat) (f x : List Int) (w : World) (hf : BSl w A ca f) (hx : BSl w B cb x) (hl : x.length <= 1000000000000) (hfl : f.length <= 1000000) :
    Calls Tryz.prog 96 #[.slice A f.length ca,.slice B x.length cb] w (λ e w'=>e = .returned (.int .i64 (a1k f x)) /\ Below w.heap.size w w'):=by
 by_cases h4 : f.length < 4
 · have HM:=Lib.hid (c9F (x:=x) h4)
   have h4I : (f.length : Int) < 4:=by omega
   clear hf hx h4
   go_enter Tryz.func96,Tryz.ntmps96
   go_wp2_with fail
   go_ret
   rw [HM.out]
   exact ⟨rfl,Below.refl _ _⟩
 · have h4I : ¬ (f.length : Int) < 4:=by omega
   have hsl:=a3M A f.length ca 4 (by omega) hf.cap
   have htk : (f.take 4).length = 4:=by rw [List.length_take]; omega
   have htb : Bytes (f.take 4):=λ x hx=>hf.by' x (List.mem_of_mem_take hx)
   have hC:=(hf.cut (k:=4) (by omega)).row
   have hc4 : (4 : Int) <= (ca : Int):=by have:=hf.cap; omega
   rw [htk] at hC
   have hcv1 : ∀ W,SLater w W -> (convert 22 9 (.slice A 4 ca)).run Tryz.prog W = .ok (.string (strOfNums (f.take 4))) W:=λ W hW=>by
    have:=Kd.C_string (P:=Tryz.prog) (c:=ca) Tryz.underlying22 Tryz.underlying5 Tryz.underlying9 (Kd.C_below (n:=(f.take 4).length) (by rw [htk]; exact hC) hW)
    rw [htk] at this; exact this
   have HTl : Hid (∀ W,SLater w W -> Calls Tryz.prog 43 #[.slice B x.length cb] W (λ e w'=>∃ A c,e = .returned (.slice A 4 c) /\ (Kd.int .u8).R 5 w' W.heap.size (λ _=>True) (.slice A 4 c) (tailL x) /\ Below W.heap.size W w')):=Lib.hid (λ W hW=>b7r B cb x W (Kd.C_below hx.row hW) hl hx.by')
   have HCv : Hid (∀ (W : World) (T : Option Addr) (c B : Nat),(Kd.int .u8).R 5 W B (λ _=>True) (.slice T 4 c) (tailL x) -> ∀ W',SLater W W' -> (convert 22 9 (.slice T 4 c)).run Tryz.prog W' = .ok (.string (strOfNums (tailL x))) W'):=Lib.hid (λ W T c B h W' hW=>by
    have h2:=(Kd.R_reads' h).2.2
    have:=Kd.C_string (P:=Tryz.prog) (c:=c) Tryz.underlying22 Tryz.underlying5 Tryz.underlying9 (Kd.C_below h2 hW)
    rw [a1M] at this; exact this)
   have hq:=b5k htb (c9I x)
   have HB : Hid (f.take 4 ≠ tailL x -> a1k f x = 15):=Lib.hid (c9G h4)
   have HB2 : Hid (f.take 4 = tailL x -> a1k f x = if 4 < f.length then 16 else 0):=Lib.hid (c9H h4)
   obtain ⟨tk,hk⟩ : ∃ t,t = f.take 4:=⟨_,rfl⟩
   obtain ⟨tl,htl⟩ : ∃ t,t = tailL x:=⟨_,rfl⟩
   obtain ⟨x1,hx1⟩ : ∃ x,x = strOfNums tk:=⟨_,rfl⟩
   obtain ⟨y1,hy1⟩ : ∃ x,x = strOfNums tl:=⟨_,rfl⟩
   obtain ⟨r,hr⟩ : ∃ r,r = a1k f x:=⟨_,rfl⟩
   rw [<- hk,<- htl] at hq HB HB2
   rw [<- hk] at hcv1
   rw [<- htl] at HTl HCv
   rw [<- hx1,<- hy1] at hq
   rw [<- hx1] at hcv1
   rw [<- hy1] at HCv
   rw [<- hr] at HB HB2 ⊢
   have s0 : SLater w w:=Below.refl _ _
   have cv0:=hcv1 w.drew s0.drew
   have HCv1:=Lib.hid hcv1
   clear hcv1 hC htk htb hf hx hk htl hx1 hy1 hr h4
   by_cases hne : tk = tl
   · rw [decide_eq_true hne] at hq
     have hq2 : (x1.toList != y1.toList) = false:=by show (!(x1.toList == y1.toList)) = false; rw [hq]; rfl
     have HR:=Lib.hid (HB2.out hne)
     clear HB HB2 hne
     by_cases h5 : 4 < f.length
     · have h5I : (4 : Int) < (f.length : Int):=by omega
       rw [if_pos h5] at HR
       clear h5
       go_enter Tryz.func96,Tryz.ntmps96
       go_wp2_with fail
       go_region_law (go_simp; go_at_call 43; refine (HTl.out _ (by first | assumption | exact SLater.drew ‹_›)).mono ?_; rintro e w' ⟨T,ct,rfl,hvt,hb⟩; have sx:=(by first | exact SLater.keep ‹_› hb | exact SLater.keep (SLater.drew ‹_›) hb : SLater w w'); have cv1:=HCv1.out _ sx; have cv2:=HCv.out _ _ _ _ hvt _ (Below.refl _ _); clear hvt hb)
       all_goals
        go_wp2_with fail
        go_ret
        rw [HR.out]
        exact ⟨rfl,by first | assumption | exact SLater.drew ‹_›⟩
     · have h5I : ¬ (4 : Int) < (f.length : Int):=by omega
       rw [if_neg h5] at HR
       clear h5
       go_enter Tryz.func96,Tryz.ntmps96
       go_wp2_with fail
       go_region_law (go_simp; go_at_call 43; refine (HTl.out _ (by first | assumption | exact SLater.drew ‹_›)).mono ?_; rintro e w' ⟨T,ct,rfl,hvt,hb⟩; have sx:=(by first | exact SLater.keep ‹_› hb | exact SLater.keep (SLater.drew ‹_›) hb : SLater w w'); have cv1:=HCv1.out _ sx; have cv2:=HCv.out _ _ _ _ hvt _ (Below.refl _ _); clear hvt hb)
       all_goals
        go_wp2_with fail
        go_ret
        rw [HR.out]
        exact ⟨rfl,by first | assumption | exact SLater.drew ‹_›⟩
   · rw [decide_eq_false hne] at hq
     have hq2 : (x1.toList != y1.toList) = true:=by show (!(x1.toList == y1.toList)) = true; rw [hq]; rfl
     have HR:=Lib.hid (HB.out hne)
     clear HB HB2 hne
     go_enter Tryz.func96,Tryz.ntmps96
     go_wp2_with fail
     go_region_law (go_simp; go_at_call 43; refine (HTl.out _ (by first | assumption | exact SLater.drew ‹_›)).mono ?_; rintro e w' ⟨T,ct,rfl,hvt,hb⟩; have sx:=(by first | exact SLater.keep ‹_› hb | exact SLater.keep (SLater.drew ‹_›) hb : SLater w w'); have cv1:=HCv1.out _ sx; have cv2:=HCv.out _ _ _ _ hvt _ (Below.refl _ _); clear hvt hb)
     all_goals
      go_wp2_with fail
      go_ret
      rw [HR.out]
      exact ⟨rfl,by first | assumption | exact SLater.drew ‹_›⟩
theorem b7O {f : List Int} (h : headM f = 0) (hb : Bytes f) : a2f f = f.getD 5 0 /\ 0 <= a2f f /\ a2f f < 256:=by
 have : a2f f = f.getD 5 0:=by unfold a2f; rw [if_pos h]
 rw [this]; exact ⟨rfl,hb.get 5⟩
theorem b7P {f : List Int} (h : headM f = 0) : 8 <= f.length:=by
 have g : ∀ (d i : Nat),headG f d i = 0 -> i + d <= f.length \/ d = 0:=by
  intro d
  induction d with
  | zero=>intro i _; exact .inr rfl
  | succ d ih=>
   intro i h
   left
   unfold headG at h
   split at h
   · cases h
   · split at h
     · rename_i h1; exact absurd h h1
     · rcases ih (i + 1) h with h | h <;> omega
 have:=g 8 0 h
 omega
end Go.Proofs.YtflfjpkmjnnodaaGreat
namespace Go.Proofs.YtflfjpkmjnnodaaGreat
open Go.RowKit Go.IntWalk Go.Proofs.YtflfjpkmjnnodaaGreatW.PrintWords
attribute [local go_sem] Oper.semAt_some
def a3R : Code := ((Code.region 3 #[{ dst := some 7, op := Op.assign (Operand.tmp 12), type := 22, pos := "frame.go:133", after := #[], guard := none }] false).seq (Code.region 4 #[{ dst := some 8, op := Op.assign (Operand.tmp 13), type := 27, pos := "frame.go:133", after := #[], guard := none }] false))
def a3S : Code := (Code.block 1 ((Code.region 5 #[{ dst := some 14, op := Op.move (Operand.tmp 8), type := 27, pos := "frame.go:134", after := #[], guard := none }] false).seq (Code.block 2 ((Code.region 7 #[{ dst := some 18, op := Op.binOp BinOp.eql 27 (Operand.tmp 14) (Operand.const (Value.int IntKind.i64 0)) 27, type := 4, pos := "frame.go:135", after := #[], guard := none }, { dst := some 17, op := Op.assign (Operand.tmp 18), type := 4, pos := "frame.go:135", after := #[{ on := 0, ground := Ground.data }], guard := none }] false).seq (Code.cond (Operand.tmp 17) (Code.region 8 #[{ dst := some 19, op := Op.load 22 (Operand.tmp 6), type := 22, pos := "frame.go:136", after := #[], guard := none }, { dst := some 20, op := Op.move (Operand.tmp 7), type := 22, pos := "frame.go:136", after := #[], guard := none }, { dst := some 21, op := Op.call { callee := Callee.builtin Builtin.append, args := #[Operand.tmp 19, Operand.tmp 20], argTypes := #[22, 22] }, type := 22, pos := "frame.go:136", after := #[{ on := 0, ground := Ground.data }, { on := 1, ground := Ground.data }], guard := none }, { dst := none, op := Op.store 22 (Operand.tmp 6) (Operand.tmp 21), type := 0, pos := "frame.go:136", after := #[{ on := 2, ground := Ground.data }, { on := 2, ground := Ground.chain }, { on := 0, ground := Ground.phase }, { on := 1, ground := Ground.phase }, { on := 2, ground := Ground.phase }], guard := none }] false) ((Code.region 9 #[{ dst := some 23, op := Op.binOp BinOp.eql 27 (Operand.tmp 14) (Operand.const (Value.int IntKind.i64 16)) 27, type := 4, pos := "frame.go:137", after := #[], guard := none }, { dst := some 22, op := Op.assign (Operand.tmp 23), type := 4, pos := "frame.go:137", after := #[{ on := 0, ground := Ground.data }], guard := none }] false).seq (Code.cond (Operand.tmp 22) ((Code.region 10 #[{ dst := some 24, op := Op.load 22 (Operand.tmp 6), type := 22, pos := "frame.go:138", after := #[], guard := none }, { dst := some 25, op := Op.move (Operand.tmp 7), type := 22, pos := "frame.go:138", after := #[], guard := none }, { dst := some 26, op := Op.load 22 (Operand.tmp 6), type := 22, pos := "frame.go:138", after := #[], guard := none }, { dst := some 27, op := Op.call { callee := Callee.value (Operand.func 96), args := #[Operand.tmp 25, Operand.tmp 26], argTypes := #[22, 22] }, type := 27, pos := "frame.go:138", after := #[{ on := 1, ground := Ground.data }, { on := 2, ground := Ground.data }], guard := none }, { dst := none, op := Op.store 22 (Operand.tmp 4) (Operand.tmp 24), type := 0, pos := "frame.go:138", after := #[{ on := 0, ground := Ground.data }, { on := 3, ground := Ground.chain }, { on := 0, ground := Ground.phase }, { on := 1, ground := Ground.textOnly Departure.lateStores }, { on := 2, ground := Ground.textOnly Departure.inlinedCapture }, { on := 3, ground := Ground.textOnly Departure.lateStoresUnsure }], guard := none }, { dst := none, op := Op.store 27 (Operand.tmp 5) (Operand.tmp 27), type := 0, pos := "frame.go:138", after := #[{ on := 3, ground := Ground.data }, { on := 4, ground := Ground.chain }, { on := 0, ground := Ground.phase }, { on := 1, ground := Ground.phase }, { on := 2, ground := Ground.phase }, { on := 3, ground := Ground.phase }, { on := 4, ground := Ground.phase }], guard := none }] true).seq Code.ret) ((Code.region 6 #[{ dst := some 15, op := Op.load 22 (Operand.tmp 6), type := 22, pos := "frame.go:140", after := #[], guard := none }, { dst := some 16, op := Op.move (Operand.tmp 8), type := 27, pos := "frame.go:140", after := #[{ on := 2, ground := Ground.gcOnly Departure.lateStores }], guard := none }, { dst := none, op := Op.store 22 (Operand.tmp 4) (Operand.tmp 15), type := 0, pos := "frame.go:140", after := #[{ on := 0, ground := Ground.data }, { on := 0, ground := Ground.phase }, { on := 1, ground := Ground.textOnly Departure.lateStores }], guard := none }, { dst := none, op := Op.store 27 (Operand.tmp 5) (Operand.tmp 16), type := 0, pos := "frame.go:140", after := #[{ on := 1, ground := Ground.data }, { on := 2, ground := Ground.chain }, { on := 0, ground := Ground.phase }, { on := 1, ground := Ground.phase }, { on := 2, ground := Ground.phase }], guard := none }] false).seq Code.ret))))))))
set_option maxRecDepth 100000 in
theorem c9L {w0 W : World} {v : Value} {xs ys : List Int} {B : Nat} {A : Option Addr} {n c : Nat} (ty : TypeId) (HO : (Kd.int .u8).R 5 W B (λ _=>True) v xs) (HC : (Kd.int .u8).C W A n ys) (HB : Below B w0 W) (hB : B <= W.heap.size) (hl : xs.length + n <= 140737488355328) :
    ∃ A1 c1 w1,(Builtin.append_ #[22,22] ty #[v,.slice A n c]).run Tryz.prog W = .ok (.slice A1 (xs.length + n) c1) w1 /\ (Kd.int .u8).R 5 w1 B (λ _=>True) (.slice A1 (xs.length + n) c1) (xs ++ ys) /\ Below B w0 w1 /\ W.grownBy w1 v.ownBlock:=by
 have h := app8 (ops := #[{ dst := some 2, op := .call { callee := .builtin .append, args := #[.tmp 0, .tmp 1], argTypes := #[22, 22] }, type := ty, pos := "", after := #[], guard := none }])
  (o := { dst := some 2, op := .call { callee := .builtin .append, args := #[.tmp 0, .tmp 1], argTypes := #[22, 22] }, type := ty, pos := "", after := #[], guard := none }) (rest := [])
  (a:={ tmps:=#[v,.slice A n c,undef],defers:=[] }) (Q:=λ e a w1=>e = .normal /\ ∃ A1 c1,a.tmps[2]? = some (.slice A1 (xs.length + n) c1) /\ (Kd.int .u8).R 5 w1 B (λ _=>True) (.slice A1 (xs.length + n) c1) (xs ++ ys) /\ Below B w0 w1 /\ W.grownBy w1 v.ownBlock)
  (w0:=w0) (W:=W) (s:=.tmp 0) (x:=.tmp 1) (v:=v) rfl rfl rfl rfl (Lib.hid HO) (Lib.hid HC) (Lib.hid HB) hB (Lib.hid hl) (λ A1 c1 w1 h1 h2 h3=>wpList_nil ⟨rfl,A1,c1,rfl,h1,h2,h3⟩)
 simp only [wpList,Region.wanted,if_true] at h
 unfold Oper.wp execOp at h
 simp only [resolve,invoke,builtin,Sem.run_bind,Sem.run_pure,Result.andThen_ok,List.map_toArray,List.map_cons,List.map_nil] at h
 rcases h with h | ⟨_,a',w',h',_⟩
 · rw [show (Act.eval { tmps:=#[v,.slice A n c,undef],defers:=[] } (Operand.tmp 0)) = v from rfl,show (Act.eval { tmps:=#[v,.slice A n c,undef],defers:=[] } (Operand.tmp 1)) = .slice A n c from rfl] at h
   cases hr : (Builtin.append_ #[22,22] ty #[v,.slice A n c]).run Tryz.prog W with
   | ok v' w'=>
    rw [hr] at h
    simp only [Result.andThen_ok,Oper.upon_value] at h
    obtain ⟨_,A1,c1,e,h1,h2,h3⟩:=h
    have : v' = .slice A1 (xs.length + n) c1:=by simpa [Act.put] using e
    subst this
    exact ⟨A1,c1,w',rfl,h1,h2,h3⟩
   | halt s w'=>
    rw [hr] at h
    simp only [Result.andThen] at h
    cases s <;> first | exact h.elim | exact absurd h.1 (by intro e; cases e)
 · cases h'
set_option maxRecDepth 100000 in
theorem c9M {F : Fence} {nF : Nat} {ops : Array Oper} {o : Oper} {rest : List Oper} {a : Act} {Q : Exit -> Act -> World -> Prop} {w0 W : World} {s x : Operand} {v : Value} {xs ys : List Int} {B : Nat} {A : Option Addr} {n c : Nat} (hgd : o.guard = none) (ho : o.op = .call { callee:=.builtin .append,args:=#[s,x],argTypes:=#[22,22] })
    (hs : a.eval s = v) (hx : a.eval x = .slice A n c) (HO : Hid ((Kd.int .u8).R 5 W B (λ _=>True) v xs)) (HC : Hid ((Kd.int .u8).C W A n ys)) (HB : Hid (Below B w0 W)) (hB : B <= W.heap.size) (hl : Hid (xs.length + n <= 140737488355328))
    (h : ∀ A1 c1 w1,(Kd.int .u8).R 5 w1 B (λ _=>True) (.slice A1 (xs.length + n) c1) (xs ++ ys) -> Below B w0 w1 -> W.grownBy w1 v.ownBlock -> wpListIn F nF Tryz.prog ops Q rest (a.put o.dst (.slice A1 (xs.length + n) c1)) w1) :
    wpListIn F nF Tryz.prog ops Q (o :: rest) a W:=by
 refine wpListIn_plain hgd λ K hK=>?_
 obtain ⟨A1,c1,w1,hr,h1,h2,h3⟩:=c9L o.type HO.out HC.out HB.out hB hl.out
 unfold Oper.wpIn
 refine ⟨by simp [Oper.about,ho,resolve,Target.leads,Sem.run_pure],?_⟩
 rw [Oper.semAt_plain F _ _ (by rw [ho]; intro c hc'; cases hc')]
 simp only [execOp,ho,resolve,invoke,builtin,Sem.run_bind,Sem.run_pure,Result.andThen_ok,List.map_toArray,List.map_cons,List.map_nil,hs,hx]
 rw [hr]
 exact hK _ _ (h A1 c1 w1 h1 h2 h3)
def pfRec (fn : FuncId) (tm : Array Value) (D : Nat) (st : LoopState) (pend : Option Code) : Loop:={ state:=st,pending:=pend,fn,tmps:=tm,params:=#[12,13],assign:=a3R,body:=a3S,defers:=D }
def pfTm (A : Option Addr) (n c : Nat) (lim : Int) (rb eb ob : Nat) (v9 v10 f y e : Value) : Array Value:=#[.slice A n c,.int .i64 lim,undef,undef,.pointer (some ⟨rb,0,none⟩),.pointer (some ⟨eb,0,none⟩),.pointer (some ⟨ob,0,none⟩),undef,undef,v9,v10,f,y,e,undef,undef,undef,undef,undef,undef,undef,undef,undef,undef,undef,undef,undef,undef,undef]
structure Lay (s rb eb ob fb lb D l B1 : Nat) : Prop where
 h0 : s <= rb
 h1 : rb < eb
 h2 : eb < ob
 h3 : ob < fb
 h4 : fb < lb
 h5 : lb < D
 h6 : D < l
 h7 : l < B1
structure Pf (fn : FuncId) (tm : Array Value) (s rb eb ob fb lb D l B1 : Nat) (w : World) (r : List Int) (lim : Int) (out : List Int) (W : World) : Prop where
 fc : ∃ Ar cr,W.heap[fb]? = some (.cells #[.slice Ar r.length cr] 22 (0,0)) /\ BSl w Ar cr r
 lc : W.heap[lb]? = some (.cells #[.int .i64 lim] 3 (0,0))
 v : ∃ A c,W.heap[ob]? = some (.cells #[.slice A out.length c] 22 (0,0)) /\ (Kd.int .u8).R 5 W B1 (λ _=>True) (.slice A out.length c) out
 rc : W.heap[rb]? = some (.cells #[.slice none 0 0] 22 (0,0))
 ec : W.heap[eb]? = some (.cells #[.int .i64 0] 27 (0,0))
 lp : W.heap[l]? = some (.loop (pfRec fn tm D .ready none))
 dc : W.heap[D]? = some (.deferred (some []))
 on : Below s w W
 sz : B1 <= W.heap.size
structure PfX (fn : FuncId) (tm : Array Value) (s rb eb D l B1 : Nat) (w : World) (k : Int) (out : List Int) (W : World) : Prop where
 rc : ∃ A c,W.heap[rb]? = some (.cells #[.slice A out.length c] 22 (0,0)) /\ (Kd.int .u8).R 5 W B1 (λ _=>True) (.slice A out.length c) out
 ec : W.heap[eb]? = some (.cells #[.int .i64 k] 27 (0,0))
 lp : W.heap[l]? = some (.loop (pfRec fn tm D .done (some .ret)))
 dc : W.heap[D]? = some (.deferred (some []))
 on : Below s w W
theorem _root_.Go.RowKit.Below.putObj {B : Nat} {a b : World} (h : Below B a b) {l : Nat} (hl : B <= l) (o : Obj) : Below B a (b.putObj l o):=
 ⟨h.os,h.tape,h.output,by simpa using h.size,λ k hk=>(World.putObj_heap_other (by omega)).trans (h.block k hk)⟩
theorem R_put {W : World} {B : Nat} {v : Value} {xs : List Int} (h : (Kd.int .u8).R 5 W B (λ _=>True) v xs) {l : Nat} (hl : l < B) (o : Obj) : (Kd.int .u8).R 5 (W.putObj l o) B (λ _=>True) v xs:=
 a3l (S:=λ k=>k = l) h ⟨rfl,rfl,rfl,by simp,λ k _ hk=>World.putObj_heap_other hk⟩ (λ k hk e=>by omega)
theorem a6i {W : World} {B : Nat} {v : Value} {xs : List Int} (h : (Kd.int .u8).R 5 W B (λ _=>True) v xs) {l : Nat} (hl : l < B) (u : Value) : (Kd.int .u8).R 5 (W.setCell ⟨l,0,none⟩ u) B (λ _=>True) v xs:=
 a3l (S:=λ k=>k = l) h (Only.setCell (S:=λ k=>k = l) (p:=⟨l,0,none⟩) (Only.refl _ W) rfl u) (λ k hk e=>by omega)
theorem a1s {W : World} {l k : Nat} {u : Value} {o : Obj} (h : W.heap[k]? = some o) (hk : k ≠ l) : (W.setCell ⟨l,0,none⟩ u).heap[k]? = some o:=(Below.heap_setCell _ ⟨l,0,none⟩ _ k hk).trans h
theorem b7R {W : World} {A : Option Addr} {n l : Nat} {xs : List Int} {lo : Loop} (h : (Kd.int .u8).C W A n xs) (hl : W.heap[l]? = some (.loop lo)) (hn : 0 < n) {ad : Addr} (ha : A = some ad) : ad.block ≠ l:=by
 intro e
 obtain ⟨ad',ha',hc⟩:=h.2.2 hn
 rw [ha] at ha'; injection ha' with e2; subst e2
 obtain ⟨c,h1,h2,h3⟩:=hc 0 _ (List.getElem?_eq_getElem (by have:=h.1; omega))
 have hc1 : c[0]? = some (c[0]'(by rw [h1]; decide)):=List.getElem?_eq_getElem _
 have h4:=h3 0 _ hc1
 unfold World.cell? at h4
 rw [a1B,e,hl] at h4
 cases h4
section
variable {fn : FuncId} {A : Option Addr} {n c : Nat} {lim0 : Int} {s rb eb ob fb lb D l B1 : Nat} {v9 v10 f : Value} {w : World} {r : List Int} {lim : Int} {out : List Int} {W : World}
set_option maxRecDepth 100000 in
set_option maxHeartbeats 2000000 in
theorem c9N (m : Nat) (L : Lay s rb eb ob fb lb D l B1) (h : Pf fn (pfTm A n c lim0 rb eb ob v9 v10 f undef undef) s rb eb ob fb lb D l B1 w r lim out W) {y : List Int} {Ay : Option Addr} {cy : Nat} (hy : (Kd.int .u8).C W Ay y.length y) (hl : out.length + y.length <= 140737488355328) :
    RoundIn Fence.wide m Tryz.prog l fn (pfTm A n c lim0 rb eb ob v9 v10 f (.slice Ay y.length cy) (.int .i64 0)) a3R a3S W
     λ e W'=>e = .returned (.bool true) /\ Pf fn (pfTm A n c lim0 rb eb ob v9 v10 f undef undef) s rb eb ob fb lb D l B1 w r lim (out ++ y) W':=by
 obtain ⟨tm,htm⟩ : ∃ tm,tm = pfTm A n c lim0 rb eb ob v9 v10 f undef undef:=⟨_,rfl⟩
 rw [<- htm] at h ⊢
 refine roundIn_of_wpIn trivial ?_
 have hll : l < W.heap.size:=a0f h.lp
 have hbr:=run_beginRound (P:=Tryz.prog) h.lp rfl
 obtain ⟨lo,hlo⟩ : ∃ lo,lo = { pfRec fn tm D .ready none with state:=.busy }:=⟨_,rfl⟩
 obtain ⟨W2,hW2⟩ : ∃ W2,W.putObj l (.loop { pfRec fn tm D .ready none with state:=.busy }) = W2:=⟨_,rfl⟩
 have hbr2 : (Instr.beginRound l).run Tryz.prog W = .ok () W2:=by rw [<- hW2]; exact hbr
 obtain ⟨Ao,co,hv,hR⟩:=h.v
 have L0:=L.h0; have L1:=L.h1; have L2:=L.h2; have L3:=L.h3; have L4:=L.h4; have L5:=L.h5; have L6:=L.h6; have L7:=L.h7
 have hv2 : W2.heap[ob]? = some (.cells #[.slice Ao out.length co] 22 (0,0)):=by rw [<- hW2]; exact (World.putObj_heap_other (by omega)).trans hv
 have hR2 : Hid ((Kd.int .u8).R 5 W2 B1 (λ _=>True) (.slice Ao out.length co) out):=Lib.hid (by rw [<- hW2]; exact R_put hR L7 _)
 have hlp2 : W2.heap[l]? = some (.loop { pfRec fn tm D .ready none with state:=.busy }):=by rw [<- hW2]; exact World.putObj_heap_same hll
 have hon2 : Below s w W2:=by rw [<- hW2]; exact h.on.putObj (by omega) _
 have hC2 : Hid ((Kd.int .u8).C W2 Ay y.length y):=Lib.hid (a6G hy (λ hn ad ha=>by
  rw [<- hW2]; exact World.putObj_heap_other (b7R hy h.lp hn ha)))
 have hB2 : Hid (Below B1 W2 W2):=Lib.hid (Below.refl _ _)
 have hl2 : Hid (out.length + y.length <= 140737488355328):=Lib.hid hl
 have hc2 : W2.cell? ⟨ob,0,none⟩ = some (.slice Ao out.length co):=(a0a hv2 0).trans rfl
 have hf2 : W2.frozen? ⟨ob,0,none⟩ = false:=a0e hv2 0
 have hs2 : B1 <= W2.heap.size:=by rw [<- hW2]; simpa using h.sz
 have HF:=Lib.hid (And.intro hv2 (And.intro hlp2 hon2))
 have HP:=Lib.hid h
 have HL:=Lib.hid L
 clear hv2 hlp2 hon2 hR hv h L hy hl hbr hlo htm
 unfold a3R pfTm
 gi_wp2
 clear hbr2
 unfold a3S
 gi_wp2_with (gi_at_builtin; (refine c9M rfl rfl rfl rfl hR2 hC2 hB2 hs2 hl2 ?_; intro A4 c4 w4 hr4 hb4 hg4; have HR4:=Lib.hid (And.intro hr4 (And.intro hb4 hg4)); have hv4:=(hb4.block ob (by have:=HL.out.h7; have:=HL.out.h6; have:=HL.out.h5; have:=HL.out.h4; have:=HL.out.h3; omega)).trans HF.out.1; have hc4:=(a0a hv4 0).trans rfl; have hf4:=a0e hv4 0; clear hr4 hb4 hg4 hv4))
 have L:=HL.out
 have L0:=L.h0; have L1:=L.h1; have L2:=L.h2; have L3:=L.h3; have L4:=L.h4; have L5:=L.h5; have L6:=L.h6; have L7:=L.h7
 have hb4:=HR4.out.2.1
 have hl4 : w4.heap[l]? = some (.loop { pfRec fn tm D .ready none with state:=.busy }):=(hb4.block l L7).trans HF.out.2.1
 have hl5 : (w4.setCell ⟨ob,0,none⟩ (.slice A4 (out.length + y.length) c4)).heap[l]? = some (.loop { pfRec fn tm D .ready none with state:=.busy }):=a1s hl4 (by omega)
 have hW2k : ∀ k,k ≠ l -> W2.heap[k]? = W.heap[k]?:=λ k hk=>by rw [<- hW2]; exact World.putObj_heap_other hk
 have hB5 : Below s w (w4.setCell ⟨ob,0,none⟩ (.slice A4 (out.length + y.length) c4)):=(HF.out.2.2.trans (hb4.mono (Nat.le_trans (Nat.le_trans L0 (by omega)) (Nat.le_of_lt L7)))).setCell (p:=⟨ob,0,none⟩) (by show s <= ob; omega) _
 obtain ⟨W5,hW5⟩ : ∃ W5,W5 = w4.setCell ⟨ob,0,none⟩ (.slice A4 (out.length + y.length) c4):=⟨_,rfl⟩
 have h5k : ∀ k,k < B1 -> k ≠ l -> k ≠ ob -> W5.heap[k]? = W.heap[k]?:=λ k h1 h2 h3=>by
  rw [hW5]; exact (Below.heap_setCell _ ⟨ob,0,none⟩ _ k h3).trans ((hb4.block k h1).trans (hW2k k h2))
 have hv5 : W5.heap[ob]? = some (.cells #[.slice A4 (out.length + y.length) c4] 22 (0,0)):=by
  rw [hW5]; exact (a0n ((hb4.block ob (by omega)).trans HF.out.1) 0 _).trans rfl
 have hR5 : (Kd.int .u8).R 5 W5 B1 (λ _=>True) (.slice A4 (out.length + y.length) c4) (out ++ y):=by rw [hW5]; exact a6i HR4.out.1 (by omega) _
 have hs5 : B1 <= W5.heap.size:=by rw [hW5]; simpa [World.setCell] using Nat.le_trans hs2 hb4.size
 rw [<- hW5] at hl5 hB5 ⊢
 obtain ⟨⟨Ar,cr,hfc,hbs⟩,hlc,-,hrc,hec,-,hdc,-,-⟩:=HP.out
 clear hW5
 refine ⟨_,_,run_endRound none hl5,rfl,⟨⟨Ar,cr,(World.putObj_heap_other (by omega)).trans ((h5k fb (by omega) (by omega) (by omega)).trans hfc),hbs⟩,(World.putObj_heap_other (by omega)).trans ((h5k lb (by omega) (by omega) (by omega)).trans hlc),
  ⟨A4,c4,by rw [List.length_append]; exact (World.putObj_heap_other (by omega)).trans hv5,by rw [List.length_append]; exact R_put hR5 L7 _⟩,(World.putObj_heap_other (by omega)).trans ((h5k rb (by omega) (by omega) (by omega)).trans hrc),
  (World.putObj_heap_other (by omega)).trans ((h5k eb (by omega) (by omega) (by omega)).trans hec),World.putObj_heap_same (a0f hl5),(World.putObj_heap_other (by omega)).trans ((h5k D (by omega) (by omega) (by omega)).trans hdc),hB5.putObj (by omega) _,by simpa using hs5⟩⟩
theorem b7S {tm : Array Value} (L : Lay s rb eb ob fb lb D l B1) (h : Pf fn tm s rb eb ob fb lb D l B1 w r lim out W) {W2 W' : World} {Ao : Option Addr} {co : Nat} (hW2 : W.putObj l (.loop { pfRec fn tm D .ready none with state:=.busy }) = W2) (hR : (Kd.int .u8).R 5 W2 B1 (λ _=>True) (.slice Ao out.length co) out) (hW : SLater W2 W') (k : Int) :
    ∃ v w',(Instr.endRound l (some .ret)).run Tryz.prog ((W'.setCell ⟨rb,0,none⟩ (.slice Ao out.length co)).setCell ⟨eb,0,none⟩ (.int .i64 k)) = .ok v w' /\ (Ending.returned v = .returned (.bool false) /\ PfX fn tm s rb eb D l B1 w k out w'):=by
 have L0:=L.h0; have L1:=L.h1; have L2:=L.h2; have L3:=L.h3; have L4:=L.h4; have L5:=L.h5; have L6:=L.h6; have L7:=L.h7
 have hll : l < W.heap.size:=a0f h.lp
 have hs2 : B1 <= W2.heap.size:=by rw [<- hW2]; simpa using h.sz
 have hlp2 : W2.heap[l]? = some (.loop { pfRec fn tm D .ready none with state:=.busy }):=by rw [<- hW2]; exact World.putObj_heap_same hll
 have hW2k : ∀ k,k ≠ l -> W2.heap[k]? = W.heap[k]?:=λ k hk=>by rw [<- hW2]; exact World.putObj_heap_other hk
 have hon2 : Below s w W2:=by rw [<- hW2]; exact h.on.putObj (by omega) _
 have hk' : ∀ k,k < B1 -> W'.heap[k]? = W2.heap[k]?:=λ k hk=>hW.block k (by omega)
 have hR':=a6i (a6i (Kd.R_below hR hW) (show rb < B1 by omega) (.slice Ao out.length co)) (show eb < B1 by omega) (.int .i64 k)
 have hB5 : Below s w ((W'.setCell ⟨rb,0,none⟩ (.slice Ao out.length co)).setCell ⟨eb,0,none⟩ (.int .i64 k)):=
  ((hon2.trans (hW.mono (by omega))).setCell (p:=⟨rb,0,none⟩) (by show s <= rb; omega) _).setCell (p:=⟨eb,0,none⟩) (by show s <= eb; omega) _
 have hl5 : ((W'.setCell ⟨rb,0,none⟩ (.slice Ao out.length co)).setCell ⟨eb,0,none⟩ (.int .i64 k)).heap[l]? = some (.loop { pfRec fn tm D .ready none with state:=.busy }):=a1s (a1s ((hk' l L7).trans hlp2) (by omega)) (by omega)
 have hd5 : ((W'.setCell ⟨rb,0,none⟩ (.slice Ao out.length co)).setCell ⟨eb,0,none⟩ (.int .i64 k)).heap[D]? = some (.deferred (some [])):=a1s (a1s ((hk' D (by omega)).trans ((hW2k D (by omega)).trans h.dc)) (by omega)) (by omega)
 have hr5 : ((W'.setCell ⟨rb,0,none⟩ (.slice Ao out.length co)).setCell ⟨eb,0,none⟩ (.int .i64 k)).heap[rb]? = some (.cells #[.slice Ao out.length co] 22 (0,0)):=a1s ((a0n ((hk' rb (by omega)).trans ((hW2k rb (by omega)).trans h.rc)) 0 _).trans rfl) (by omega)
 have he5 : ((W'.setCell ⟨rb,0,none⟩ (.slice Ao out.length co)).setCell ⟨eb,0,none⟩ (.int .i64 k)).heap[eb]? = some (.cells #[.int .i64 k] 27 (0,0)):=(a0n (a1s ((hk' eb (by omega)).trans ((hW2k eb (by omega)).trans h.ec)) (by omega)) 0 _).trans rfl
 exact ⟨_,_,run_endRound (some .ret) hl5,rfl,⟨Ao,co,(World.putObj_heap_other (by omega)).trans hr5,R_put hR' L7 _⟩,(World.putObj_heap_other (by omega)).trans he5,World.putObj_heap_same (a0f hl5),(World.putObj_heap_other (by omega)).trans hd5,hB5.putObj (by omega) _⟩
set_option maxRecDepth 100000 in
set_option maxHeartbeats 2000000 in
theorem b1d (m : Nat) (L : Lay s rb eb ob fb lb D l B1) (h : Pf fn (pfTm A n c lim0 rb eb ob v9 v10 f undef undef) s rb eb ob fb lb D l B1 w r lim out W) (y : Value) (k : Int) (hk0 : k ≠ 0) (hk16 : k ≠ 16) :
    RoundIn Fence.wide m Tryz.prog l fn (pfTm A n c lim0 rb eb ob v9 v10 f y (.int .i64 k)) a3R a3S W
     λ e W'=>e = .returned (.bool false) /\ PfX fn (pfTm A n c lim0 rb eb ob v9 v10 f undef undef) s rb eb D l B1 w k out W':=by
 obtain ⟨tm,htm⟩ : ∃ tm,tm = pfTm A n c lim0 rb eb ob v9 v10 f undef undef:=⟨_,rfl⟩
 rw [<- htm] at h ⊢
 refine roundIn_of_wpIn trivial ?_
 have hbr:=run_beginRound (P:=Tryz.prog) h.lp rfl
 obtain ⟨W2,hW2⟩ : ∃ W2,W.putObj l (.loop { pfRec fn tm D .ready none with state:=.busy }) = W2:=⟨_,rfl⟩
 have hbr2 : (Instr.beginRound l).run Tryz.prog W = .ok () W2:=by rw [<- hW2]; exact hbr
 obtain ⟨Ao,co,hv,hR⟩:=h.v
 have hc2 : W2.cell? ⟨ob,0,none⟩ = some (.slice Ao out.length co):=by rw [<- hW2]; exact (a0a ((World.putObj_heap_other (by have:=L.h7; have:=L.h6; have:=L.h5; have:=L.h4; have:=L.h3; omega)).trans hv) 0).trans rfl
 have hR2 : Hid ((Kd.int .u8).R 5 W2 B1 (λ _=>True) (.slice Ao out.length co) out):=Lib.hid (by rw [<- hW2]; exact R_put hR L.h7 _)
 have hcr : W2.cell? ⟨rb,0,none⟩ = some (.slice none 0 0):=by rw [<- hW2]; exact (a0a ((World.putObj_heap_other (by have:=L.h7; have:=L.h6; have:=L.h5; have:=L.h4; have:=L.h3; have:=L.h2; have:=L.h1; omega)).trans h.rc) 0).trans rfl
 have hce : W2.cell? ⟨eb,0,none⟩ = some (.int .i64 0):=by rw [<- hW2]; exact (a0a ((World.putObj_heap_other (by have:=L.h7; have:=L.h6; have:=L.h5; have:=L.h4; have:=L.h3; have:=L.h2; have:=L.h1; omega)).trans h.ec) 0).trans rfl
 have hfr : W2.frozen? ⟨rb,0,none⟩ = false:=by rw [<- hW2]; exact a0e ((World.putObj_heap_other (by have:=L.h7; have:=L.h6; have:=L.h5; have:=L.h4; have:=L.h3; have:=L.h2; have:=L.h1; omega)).trans h.rc) 0
 have hfe : W2.frozen? ⟨eb,0,none⟩ = false:=by rw [<- hW2]; exact a0e ((World.putObj_heap_other (by have:=L.h7; have:=L.h6; have:=L.h5; have:=L.h4; have:=L.h3; have:=L.h2; have:=L.h1; omega)).trans h.ec) 0
 have hre : rb ≠ eb:=by have:=L.h1; omega
 have hk0' : (k == 0) = false:=by simpa using hk0
 have hk16' : (k == 16) = false:=by simpa using hk16
 have HE:=Lib.hid (b7S L h hW2 hR2.out (Below.refl _ _ : SLater W2 W2) k)
 clear hbr hv hR h hW2 htm hR2 hk0 hk16
 unfold a3R pfTm
 gi_wp2
 refine ⟨W2,hbr2,?_⟩
 clear hbr2
 unfold a3S
 gi_wp2
 exact HE.out
set_option maxRecDepth 100000 in
set_option maxHeartbeats 2000000 in
theorem c9O (m : Nat) (L : Lay s rb eb ob fb lb D l B1) (h : Pf fn (pfTm A n c lim0 rb eb ob v9 v10 f undef undef) s rb eb ob fb lb D l B1 w r lim out W) {q : List Int} {Ay : Option Addr} {cy : Nat} (hy : BSl W Ay cy q) (hob : Bytes out) (hl : out.length <= 1000000000000) (hql : q.length <= 1000000) :
    RoundIn Fence.wide m Tryz.prog l fn (pfTm A n c lim0 rb eb ob v9 v10 f (.slice Ay q.length cy) (.int .i64 16)) a3R a3S W
     λ e W'=>e = .returned (.bool false) /\ PfX fn (pfTm A n c lim0 rb eb ob v9 v10 f undef undef) s rb eb D l B1 w (a1k q out) out W':=by
 obtain ⟨tm,htm⟩ : ∃ tm,tm = pfTm A n c lim0 rb eb ob v9 v10 f undef undef:=⟨_,rfl⟩
 rw [<- htm] at h ⊢
 refine roundIn_of_wpIn trivial ?_
 have hbr:=run_beginRound (P:=Tryz.prog) h.lp rfl
 obtain ⟨W2,hW2⟩ : ∃ W2,W.putObj l (.loop { pfRec fn tm D .ready none with state:=.busy }) = W2:=⟨_,rfl⟩
 have hbr2 : (Instr.beginRound l).run Tryz.prog W = .ok () W2:=by rw [<- hW2]; exact hbr
 obtain ⟨Ao,co,hv,hR⟩:=h.v
 have hv2 : W2.heap[ob]? = some (.cells #[.slice Ao out.length co] 22 (0,0)):=by rw [<- hW2]; exact (World.putObj_heap_other (by have:=L.h7; have:=L.h6; have:=L.h5; have:=L.h4; have:=L.h3; omega)).trans hv
 have hR2 : Hid ((Kd.int .u8).R 5 W2 B1 (λ _=>True) (.slice Ao out.length co) out):=Lib.hid (by rw [<- hW2]; exact R_put hR L.h7 _)
 have hr2 : W2.heap[rb]? = some (.cells #[.slice none 0 0] 22 (0,0)):=by rw [<- hW2]; exact (World.putObj_heap_other (by have:=L.h7; have:=L.h6; have:=L.h5; have:=L.h4; have:=L.h3; have:=L.h2; have:=L.h1; omega)).trans h.rc
 have he2 : W2.heap[eb]? = some (.cells #[.int .i64 0] 27 (0,0)):=by rw [<- hW2]; exact (World.putObj_heap_other (by have:=L.h7; have:=L.h6; have:=L.h5; have:=L.h4; have:=L.h3; have:=L.h2; have:=L.h1; omega)).trans h.ec
 have hy2 : BSl W2 Ay cy q:=⟨a6G hy.row (λ hn ad ha=>by rw [<- hW2]; exact World.putObj_heap_other (b7R hy.row h.lp hn ha)),hy.cap,hy.nil,hy.by'⟩
 have HBe : Hid (∀ W',SLater W2 W' -> Calls Tryz.prog 96 #[.slice Ay q.length cy,.slice Ao out.length co] W' (λ e w'=>e = .returned (.int .i64 (a1k q out)) /\ Below W'.heap.size W' w')):=Lib.hid (λ W' hW'=>
  c9J Ay Ao cy co q out W' (hy2.below hW') ((BSl.of hR2.out hob).below hW') hl hql)
 obtain ⟨k,hk⟩ : ∃ k,k = a1k q out:=⟨_,rfl⟩
 rw [<- hk] at HBe
 have HC : Hid (∀ W',SLater W2 W' -> (W'.cell? ⟨ob,0,none⟩ = some (.slice Ao out.length co) /\ W'.cell? ⟨rb,0,none⟩ = some (.slice none 0 0) /\ W'.cell? ⟨eb,0,none⟩ = some (.int .i64 0)) /\ (W'.frozen? ⟨rb,0,none⟩ = false /\ W'.frozen? ⟨eb,0,none⟩ = false)):=Lib.hid (λ W' hW'=>
  ⟨⟨(a0a (a0g hv2 hW') 0).trans rfl,(a0a (a0g hr2 hW') 0).trans rfl,(a0a (a0g he2 hW') 0).trans rfl⟩,a0e (a0g hr2 hW') 0,a0e (a0g he2 hW') 0⟩)
 have hre : rb ≠ eb:=by have:=L.h1; omega
 have HE : Hid (∀ W',SLater W2 W' -> _):=Lib.hid (λ W' (hW' : SLater W2 W')=>b7S L h hW2 hR2.out hW' k)
 have s0 : SLater W2 W2:=Below.refl _ _
 obtain ⟨⟨g1,g2,g3⟩,g4,g5⟩:=HC.out W2 s0
 rw [<- hk]
 clear hbr hv hR h hW2 htm hR2 hv2 hr2 he2 hy2 hy hob hk
 unfold a3R pfTm
 gi_wp2
 refine ⟨W2,hbr2,?_⟩
 clear hbr2
 unfold a3S
 gi_wp2
 gi_region_with (refine ⟨trivial,λ h=>(by cases h),(CallsIn.inRound l (callsIn_wide.2 (HBe.out _ (by first | assumption | exact SLater.drew ‹_›)))).mono ?_⟩; rintro e w' ⟨rfl,hb⟩; have sx:=(by first | exact SLater.keep ‹_› hb | exact SLater.keep (SLater.drew ‹_›) hb : SLater W2 w'); obtain ⟨⟨x1,x2,x3⟩,x4,x5⟩:=HC.out w' sx; clear hb)
 all_goals
  gi_wp2
  exact HE.out _ (by first | assumption | exact SLater.drew ‹_›)
end
end Go.Proofs.YtflfjpkmjnnodaaGreat
namespace Go.Proofs.YtflfjpkmjnnodaaGreat
open Go.RowKit Go.IntWalk Go.Proofs.YtflfjpkmjnnodaaGreatW.PrintWords
attribute [local go_sem] Oper.semAt_some
theorem b7T {one : Bool} {qs : List (List Int)} {ps : List Int} : ∀ (n i : Nat) (la x0 x1 : Int) (left : Nat) (out : List Int),(decGo one qs ps n i la x0 x1 left out).1 = 0 -> (decGo one qs ps n i la x0 x1 left out).2.length = out.length + n
 | 0,i,la,x0,x1,left,out=>by
  unfold decGo
  split
  · intro _; rfl
  · intro h; cases h
 | n + 1,i,la,x0,x1,left,out=>by
  unfold decGo
  dsimp only
  split
  · intro h; cases h
  · split
    · intro h; cases h
    · intro h
      rw [b7T n _ _ _ _ _ _ h,List.length_append]
      simp; omega
theorem b7U {lg : Int} {one : Bool} {qs : List (List Int)} {ps : List Int} {n : Int} (h : (decM lg one qs ps n).1 = 0) : (decM lg one qs ps n).2.length = n.toNat:=by
 unfold decM at h ⊢
 split at h
 · cases h
 · rename_i a1
   rw [if_neg a1]
   split at h
   · cases h
   · rename_i a2
     rw [if_neg a2]
     split at h
     · cases h
     · rename_i a3
       rw [if_neg a3,b7T _ _ _ _ _ _ _ h]
       simp
theorem c9P {k n : Int} {b : List Int} (h : (pickD k b n).1 = 0) : (pickD k b n).2.length = n.toNat:=by
 unfold pickD at h ⊢
 split at h
 · rename_i a1; exact absurd h a1
 · rename_i a1
   rw [if_neg a1]
   split at h
   · rename_i a2
     rw [if_pos a2]
     unfold a2X at h ⊢
     split at h
     · cases h
     · rename_i b1
       rw [if_neg b1]
       split at h
       · cases h
       · rename_i b2
         rw [if_neg b2]
         dsimp only
         split
         · omega
         · rw [List.length_replicate]
   · rename_i a2
     rw [if_neg a2]
     split at h
     · rename_i a3
       rw [if_pos a3]
       unfold dec0M at h ⊢
       split at h
       · rename_i c1; exact absurd h c1
       · rename_i c1; rw [if_neg c1]; exact b7U h
     · rename_i a3
       rw [if_neg a3]
       unfold dec1M at h ⊢
       split at h
       · rename_i c1; exact absurd h c1
       · rename_i c1; rw [if_neg c1]; exact b7U h
theorem c9Q {f : List Int} (hf : Bytes f) {log room : Int} {first : Bool} (h : (openM f log first room).1 = 0) : (openM f log first room).2.1.length <= 131072 /\ ((openM f log first room).2.1.length : Int) <= room /\ Bytes (openM f log first room).2.1:=by
 unfold openM at h ⊢
 split at h
 · rename_i a1; exact absurd h a1
 · rename_i a1
   rw [if_neg a1]
   split at h
   · cases h
   · rename_i a2
     rw [if_neg a2]
     split at h
     · cases h
     · rename_i a3
       rw [if_neg a3]
       split at h
       · rename_i a4; exact absurd h a4
       · rename_i a4
         rw [if_neg a4]
         have hb:=b1c hf (Classical.not_not.1 a1)
         have hp:=c9P (Classical.not_not.1 a4)
         dsimp only
         exact ⟨by omega,by omega,b7L (λ x hx=>hf x (List.mem_of_mem_drop (List.mem_of_mem_take hx)))⟩
theorem c9R {n : Nat} {f : List Int} {log : Int} {first : Bool} {limit : Int} {out : List Int} {k : Int} {y : List Int} {u : Nat} {lt : Bool} (h : openM f log first limit = (k,y,u,lt)) (hk : k ≠ 0) : preG (n + 1) f log first limit out = (k,out):=by
 unfold preG; rw [h]; exact if_pos hk
theorem c9S {n : Nat} {f : List Int} {log : Int} {first : Bool} {limit : Int} {out y : List Int} {u : Nat} (h : openM f log first limit = (0,y,u,true)) : preG (n + 1) f log first limit out = (a1k (f.drop u) (out ++ y),out ++ y):=by
 unfold preG; rw [h]; dsimp only; rw [if_neg (λ h=>h rfl),if_pos rfl]
theorem c9T {n : Nat} {f : List Int} {log : Int} {first : Bool} {limit : Int} {out y : List Int} {u : Nat} (h : openM f log first limit = (0,y,u,false)) : preG (n + 1) f log first limit out = preG n (f.drop u) log false (limit - y.length) (out ++ y):=by
 conv=>lhs; unfold preG
 rw [h]; dsimp only; rw [if_neg (λ h=>h rfl),if_neg (by simp)]
section
variable {fn : FuncId} {A : Option Addr} {n c : Nat} {lim0 : Int} {s rb eb ob fb lb D l B1 : Nat} {v9 v10 fv : Value} {w : World} {r : List Int} {lim : Int} {out : List Int} {W W' : World} {tm : Array Value}
theorem Pf.later (L : Lay s rb eb ob fb lb D l B1) (h : Pf fn tm s rb eb ob fb lb D l B1 w r lim out W) (hb : Below W.heap.size W W') : Pf fn tm s rb eb ob fb lb D l B1 w r lim out W':=by
 obtain ⟨⟨Ar,cr,h1,h2⟩,h3,⟨Ao,co,h4,h5⟩,h6,h7,h8,h9,h10,h11⟩:=h
 have hs : s <= W.heap.size:=by have:=L.h0; have:=L.h1; have:=L.h2; have:=L.h3; have:=L.h4; have:=L.h5; have:=L.h6; have:=L.h7; omega
 exact ⟨⟨Ar,cr,a0g h1 hb,h2⟩,a0g h3 hb,⟨Ao,co,a0g h4 hb,Kd.R_below h5 hb⟩,a0g h6 hb,a0g h7 hb,a0g h8 hb,a0g h9 hb,h10.trans (hb.mono hs),Nat.le_trans h11 hb.size⟩
theorem Pf.setF (L : Lay s rb eb ob fb lb D l B1) (h : Pf fn tm s rb eb ob fb lb D l B1 w r lim out W) {r' : List Int} {Ad : Option Addr} {cd : Nat} (hb : BSl w Ad cd r') : Pf fn tm s rb eb ob fb lb D l B1 w r' lim out (W.setCell ⟨fb,0,none⟩ (.slice Ad r'.length cd)):=by
 obtain ⟨⟨Ar,cr,h1,h2⟩,h3,⟨Ao,co,h4,h5⟩,h6,h7,h8,h9,h10,h11⟩:=h
 have L0:=L.h0; have L1:=L.h1; have L2:=L.h2; have L3:=L.h3; have L4:=L.h4; have L5:=L.h5; have L6:=L.h6; have L7:=L.h7
 exact ⟨⟨Ad,cd,(a0n h1 0 _).trans rfl,hb⟩,a1s h3 (by omega),⟨Ao,co,a1s h4 (by omega),a6i h5 (by omega) _⟩,a1s h6 (by omega),a1s h7 (by omega),a1s h8 (by omega),a1s h9 (by omega),h10.setCell (p:=⟨fb,0,none⟩) (by show s <= fb; omega) _,by simpa [World.setCell] using h11⟩
theorem Pf.setL (L : Lay s rb eb ob fb lb D l B1) (h : Pf fn tm s rb eb ob fb lb D l B1 w r lim out W) (lim' : Int) : Pf fn tm s rb eb ob fb lb D l B1 w r lim' out (W.setCell ⟨lb,0,none⟩ (.int .i64 lim')):=by
 obtain ⟨⟨Ar,cr,h1,h2⟩,h3,⟨Ao,co,h4,h5⟩,h6,h7,h8,h9,h10,h11⟩:=h
 have L0:=L.h0; have L1:=L.h1; have L2:=L.h2; have L3:=L.h3; have L4:=L.h4; have L5:=L.h5; have L6:=L.h6; have L7:=L.h7
 exact ⟨⟨Ar,cr,a1s h1 (by omega),h2⟩,(a0n h3 0 _).trans rfl,⟨Ao,co,a1s h4 (by omega),a6i h5 (by omega) _⟩,a1s h6 (by omega),a1s h7 (by omega),a1s h8 (by omega),a1s h9 (by omega),h10.setCell (p:=⟨lb,0,none⟩) (by show s <= lb; omega) _,by simpa [World.setCell] using h11⟩
def c9U (fn : FuncId) (tm : Array Value) (s rb eb D l B1 : Nat) (w : World) (R : Int × List Int) (e : Ending) (W' : World) : Prop:=(∃ v,e = .returned v) /\ PfX fn tm s rb eb D l B1 w R.1 R.2 W'
set_option maxRecDepth 100000 in
theorem a6j (W : World) (y e : Value) (h : W.heap[l]? = some (.loop (pfRec fn (pfTm A n c lim0 rb eb ob v9 v10 fv undef undef) D .ready none))) :
    (Instr.yield l #[y,e]).run Tryz.prog W = .ok (.round l fn (pfTm A n c lim0 rb eb ob v9 v10 fv y e) a3R a3S) W:=by
 simpa [pfRec,pfTm] using run_yield (P:=Tryz.prog) (args:=#[y,e]) h rfl
set_option maxRecDepth 100000 in
set_option maxHeartbeats 4000000 in
theorem c9V (m : Nat) (L : Lay s rb eb ob fb lb D l B1) (hs : s = w.heap.size) {f : List Int} {limit : Int} (h : Pf fn (pfTm A n c lim0 rb eb ob v9 v10 fv undef undef) s rb eb ob fb lb D l B1 w f limit [] W) (hl : f.length <= 1000000) (hL : limit < 4611686018427387904) :
    CallsIn Fence.wide m Tryz.prog 139 #[.func (.yield l) #[] #[],.pointer (some ⟨fb,0,none⟩),.pointer (some ⟨lb,0,none⟩)] W (c9U fn (pfTm A n c lim0 rb eb ob v9 v10 fv undef undef) s rb eb D l B1 w (a0C f limit)):=by
 obtain ⟨Af,cf,hfc,hbs⟩:=h.fc
 have hbsW:=hbs.below (by rw [<- hs]; exact h.on)
 have HHd:=Lib.hid (b7H Af cf f W hbsW hl)
 have hcf : W.cell? ⟨fb,0,none⟩ = some (.slice Af f.length cf):=(a0a hfc 0).trans rfl
 have HP:=Lib.hid h
 have HL:=Lib.hid L
 obtain ⟨tm,htm⟩ : ∃ tm,tm = pfTm A n c lim0 rb eb ob v9 v10 fv undef undef:=⟨_,rfl⟩
 have hbf:=hbs.by'
 by_cases hn : limit < 0
 · have HR : Hid (a0C f limit = (1,[])):=Lib.hid (by unfold a0C; rw [if_pos hn])
   obtain ⟨lg,hlg⟩ : ∃ k,k = a2f f:=⟨_,rfl⟩
   obtain ⟨hm,hhm⟩ : ∃ k,k = headM f:=⟨_,rfl⟩
   rw [<- hlg,<- hhm] at HHd
   clear h L hfc hbs hbsW htm hlg hhm
   refine callsIn_of_wp Tryz.func139 rfl trivial ?_ rfl
   simp only [Tryz.ntmps139,List.size_toArray,List.length_cons,List.length_nil,Nat.reduceAdd,Nat.reduceSub,Array.replicate_succ,Array.replicate_zero,List.push_toArray,List.append_toArray,List.nil_append,List.cons_append]
   gi_wp2
   refine ⟨trivial,λ h=>(by cases h),(callsIn_wide.2 HHd.out).mono ?_⟩
   rintro e w1 ⟨rfl,hb1⟩
   have HP1:=Lib.hid (HP.out.later HL.out hb1)
   have hcl : w1.cell? ⟨lb,0,none⟩ = some (.int .i64 limit):=(a0a HP1.out.lc 0).trans rfl
   have hy:=a6j w1 (.slice none 0 0) (.int .i64 1) HP1.out.lp
   clear hb1
   gi_wp2
   refine ⟨λ h=>(by cases h),(b1d (m - 1) HL.out HP1.out (.slice none 0 0) 1 (by decide) (by decide)).mono ?_⟩
   rintro e w2 ⟨rfl,hX⟩
   have HX:=Lib.hid hX
   clear hX hy
   gi_wp2
   go_end0
   rw [HR.out]
   exact ⟨⟨_,rfl⟩,HX.out⟩
 · by_cases hh : headM f = 0
   · have h8:=b7P hh
     obtain ⟨hlg,-,-⟩:=b7O hh hbf
     obtain ⟨lg,hlg0⟩ : ∃ l,l = a2f f:=⟨_,rfl⟩
     have HR : Hid (a0C f limit = preG (f.length + 1) (f.drop 8) lg true limit []):=Lib.hid (by
      unfold a0C
      rw [if_neg hn,if_neg (λ h=>h hh),hlg0,hlg])
     rw [hh,<- hlg0] at HHd
     have hnI : ¬ limit < 0:=hn
     have hsf:=a2Z Af f.length cf 8 h8
     have HDr:=Lib.hid (hbs.from_ (k:=8) h8)
     obtain ⟨Ad,hAd⟩ : ∃ Ad,Ad = (if cf = 8 then Af else Af.map (·.add (8 * 1))):=⟨_,rfl⟩
     rw [<- hAd] at HDr hsf
     obtain ⟨r0,hr0⟩ : ∃ r,r = f.drop 8:=⟨_,rfl⟩
     have hr0l : f.length - 8 = r0.length:=by rw [hr0,List.length_drop]
     rw [<- hr0] at HDr HR
     rw [hr0l] at hsf
     have hsf : ∀ W : World,(Instr.slice 22 (.slice Af f.length cf) (some (.int .i64 8)) none none).run Tryz.prog W = .ok (.slice Ad r0.length (cf - 8)) W:=hsf
     have hc8 : (8 : Int) <= (cf : Int):=by have:=hbs.cap; omega
     have h8I : (8 : Int) <= (f.length : Int):=by omega
     obtain ⟨PR,hPR⟩ : ∃ S,S = a0C f limit:=⟨_,rfl⟩
     rw [<- hPR] at HR ⊢
     have HN:=Lib.hid (show r0.length < f.length + 1 /\ r0.length <= 1000000 by omega)
     have hne1 : fb ≠ lb:=by have:=L.h4; omega
     have hne2 : lb ≠ fb:=by have:=L.h4; omega
     clear h L hfc hbs hbsW htm hh hlg hlg0 hAd hr0 hPR hr0l hn h8 hbf
     refine callsIn_of_wp Tryz.func139 rfl trivial ?_ rfl
     simp only [Tryz.ntmps139,List.size_toArray,List.length_cons,List.length_nil,Nat.reduceAdd,Nat.reduceSub,Array.replicate_succ,Array.replicate_zero,List.push_toArray,List.append_toArray,List.nil_append,List.cons_append]
     gi_wp2
     refine ⟨trivial,λ h=>(by cases h),(callsIn_wide.2 HHd.out).mono ?_⟩
     rintro e w1 ⟨rfl,hb1⟩
     have HP1:=Lib.hid (HP.out.later HL.out hb1)
     have hcl : w1.cell? ⟨lb,0,none⟩ = some (.int .i64 limit):=(a0a HP1.out.lc 0).trans rfl
     have hcf1 : w1.cell? ⟨fb,0,none⟩ = some (.slice Af f.length cf):=a0s hb1 hcf
     have hff1 : w1.frozen? ⟨fb,0,none⟩ = false:=by obtain ⟨_,_,h,_⟩:=HP1.out.fc; exact a0e h 0
     have HP2:=Lib.hid (HP1.out.setF HL.out HDr.out)
     clear hb1
     gi_wp2
     gi_loopw [6,7,8,9,10] (λ bv _ _ _ _ wr=>∃ (n' : Nat) (r : List Int) (lim : Int) (out : List Int) (fb' : Bool),bv = .bool fb' /\ Hid (preG n' r lg fb' lim out = PR /\ r.length < n' /\ Pf fn (pfTm A n c lim0 rb eb ob v9 v10 fv undef undef) s rb eb ob fb lb D l B1 w r lim out wr /\ Bytes out /\ out.length + 131072 * r.length <= 131072000000 /\ 0 <= lim /\ lim <= limit /\ r.length <= 1000000)) (λ _ _ _ _ _ wr=>slN ((wr.cell? ⟨fb,0,none⟩).getD undef))
     case atStart=>exact ⟨f.length + 1,r0,limit,[],true,rfl,Lib.hid ⟨HR.out.symm,HN.out.1,HP2.out,(λ x h=>by cases h),by have:=HN.out.2; simp; omega,by omega,Int.le_refl _,HN.out.2⟩⟩
     case round=>
      obtain ⟨n',r,lim,out,fb',rfl,H⟩:=hrel
      obtain ⟨n',rfl⟩ : ∃ m,n' = m + 1:=⟨n' - 1,by have:=H.out.2.1; omega⟩
      obtain ⟨Ar,cr,hrc,hbr⟩:=H.out.2.2.1.fc
      have hcr : wr.cell? ⟨fb,0,none⟩ = some (.slice Ar r.length cr):=(a0a hrc 0).trans rfl
      have hcl2 : wr.cell? ⟨lb,0,none⟩ = some (.int .i64 lim):=(a0a H.out.2.2.1.lc 0).trans rfl
      have hbw:=hbr.below (by rw [<- hs]; exact H.out.2.2.1.on)
      have HOp:=Lib.hid (b7M Ar cr r lg fb' lim wr hbw.row hbw.by' H.out.2.2.2.2.2.2.2 hbw.cap)
      have HUse:=Lib.hid (λ h=>b6x (f:=r) (log:=lg) (room:=lim) (first:=fb') h)
      have HLen:=Lib.hid (λ h=>c9Q hbw.by' (log:=lg) (room:=lim) (first:=fb') h)
      have h16:=c9r (f:=r) (log:=lg) (room:=lim) (first:=fb')
      obtain ⟨k,y,u,lt,hO⟩ : ∃ k y u lt,openM r lg fb' lim = (k,y,u,lt):=⟨_,_,_,_,rfl⟩
      have HO:=Lib.hid hO
      rw [hO] at HOp HUse HLen h16
      dsimp only at HUse HLen h16
      unfold OpenPost at HOp
      dsimp only at HOp
      have HBr:=Lib.hid hbr
      clear hO hbw hbr hrc
      gi_wp2
      refine ⟨trivial,λ h=>(by cases h),(callsIn_wide.2 HOp.out).mono ?_⟩
      rintro e w2 ⟨Ay,cy,rfl,hRy,hb2⟩
      have HPw:=Lib.hid (H.out.2.2.1.later HL.out hb2)
      by_cases hk : k = 0
      · subst hk
        have hU:=HUse.out rfl
        have hLe:=HLen.out rfl
        have hy:=a6j w2 (.slice Ay y.length cy) (.int .i64 0) HPw.out.lp
        have HRd:=Lib.hid (c9N (cy:=cy) (m - 1) HL.out HPw.out (Kd.R_reads' hRy).2.2 (by have:=H.out.2.2.2.2.1; have:=hLe.1; omega))
        have HUL:=Lib.hid (And.intro hU hLe)
        have hcr2 : w2.cell? ⟨fb,0,none⟩ = some (.slice Ar r.length cr):=a0s hb2 hcr
        clear hRy hb2 h16
        gi_wp2
        refine ⟨λ h=>(by cases h),HRd.out.mono ?_⟩
        rintro e w3 ⟨rfl,hP3⟩
        obtain ⟨A3,c3,hf3,hb3⟩:=hP3.fc
        have hc3 : w3.cell? ⟨fb,0,none⟩ = some (.slice A3 r.length c3):=(a0a hf3 0).trans rfl
        have hfz3 : w3.frozen? ⟨fb,0,none⟩ = false:=a0e hf3 0
        have hcl3 : w3.cell? ⟨lb,0,none⟩ = some (.int .i64 lim):=(a0a hP3.lc 0).trans rfl
        have hfl3 : w3.frozen? ⟨lb,0,none⟩ = false:=a0e hP3.lc 0
        have hsf3:=a2Z A3 r.length c3 u HUL.out.1.2
        have HDr3:=Lib.hid (hb3.from_ (k:=u) HUL.out.1.2)
        obtain ⟨Ad3,hAd3⟩ : ∃ Ad,Ad = (if c3 = u then A3 else A3.map (·.add (u * 1))):=⟨_,rfl⟩
        rw [<- hAd3] at HDr3 hsf3
        obtain ⟨r3,hr3⟩ : ∃ r3,r3 = r.drop u:=⟨_,rfl⟩
        have hr3l : r.length - u = r3.length:=by rw [hr3,List.length_drop]
        have HR3:=Lib.hid hr3
        rw [<- hr3] at HDr3
        rw [hr3l] at hsf3
        have hcu : (u : Int) <= (c3 : Int):=by have:=hb3.cap; have:=HUL.out.1.2; omega
        have hru : (u : Int) <= (r.length : Int):=by have:=HUL.out.1.2; omega
        have hu0 : (0 : Int) <= (u : Int):=by omega
        have hwl : IntKind.i64.wrap (lim - (y.length : Int)) = lim - (y.length : Int):=i64_in _ (by have:=HUL.out.2; have:=H.out.2.2.2.2.2; omega)
        have HP3:=Lib.hid hP3
        have HP4:=Lib.hid ((hP3.setF HL.out HDr3.out).setL HL.out (lim - (y.length : Int)))
        have HLt:=Lib.hid (show r3.length + 11 <= r.length by have:=HUL.out.1; omega)
        have hf4 : ((w3.setCell ⟨fb,0,none⟩ (.slice Ad3 r3.length (c3 - u))).setCell ⟨lb,0,none⟩ (.int .i64 (lim - (y.length : Int)))).heap[fb]? = some (.cells #[.slice Ad3 r3.length (c3 - u)] 22 (0,0)):=a1s ((a0n hf3 0 _).trans rfl) hne1
        have hc4 : ((w3.setCell ⟨fb,0,none⟩ (.slice Ad3 r3.length (c3 - u))).setCell ⟨lb,0,none⟩ (.int .i64 (lim - (y.length : Int)))).cell? ⟨fb,0,none⟩ = some (.slice Ad3 r3.length (c3 - u)):=(a0a hf4 0).trans rfl
        clear hP3 hf3 hf4 hb3 hAd3 hr3 hr3l
        cases lt with
        | true=>
         have hy4:=a6j _ (.slice Ad3 r3.length (c3 - u)) (.int .i64 16) HP4.out.lp
         have HSt:=Lib.hid (c9O (m - 1) HL.out HP4.out (q:=r3) (Ay:=Ad3) (cy:=c3 - u) (HDr3.out.below (by rw [<- hs]; exact HP4.out.on)) (λ x hx=>(List.mem_append.1 hx).elim (H.out.2.2.2.1 x) (HUL.out.2.2.2 x)) (by rw [List.length_append]; have:=HUL.out.2.1; have:=H.out.2.2.2.2.1; omega) (by have:=HLt.out; have:=H.out.2.2.2.2.2.2.2; omega))
         gi_wp2
         refine ⟨λ h=>(by cases h),HSt.out.mono ?_⟩
         rintro e w5 ⟨rfl,hX⟩
         have HX:=Lib.hid hX
         clear hX hy4
         gi_wp2
         go_end0
         have h1:=H.out.1
         rw [c9S HO.out,<- HR3.out] at h1
         rw [<- h1]
         exact ⟨⟨_,rfl⟩,HX.out⟩
        | false=>
         gi_wp2
         go_roundw
         case rel=>exact ⟨n',r3,lim - (y.length : Int),out ++ y,false,rfl,Lib.hid ⟨by have h1:=H.out.1; rw [c9T HO.out,<- HR3.out] at h1; exact h1,by have:=H.out.2.1; have:=HLt.out; omega,HP4.out,(λ x hx=>(List.mem_append.1 hx).elim (H.out.2.2.2.1 x) (HUL.out.2.2.2 x)),by rw [List.length_append]; have:=HUL.out.2.1; have:=H.out.2.2.2.2.1; have:=HLt.out; omega,by have:=HUL.out.2; omega,by have:=H.out.2.2.2.2.2; omega,by have:=HLt.out; have:=H.out.2.2.2.2.2.2.2; omega⟩⟩
         case measure=>rw [hc4,hcr]; have:=HLt.out; simp [slN]; omega
      · have hk2 : (k != 0) = true:=by simpa using hk
        have hy:=a6j w2 (.slice Ay y.length cy) (.int .i64 k) HPw.out.lp
        have HSt:=Lib.hid (b1d (m - 1) HL.out HPw.out (.slice Ay y.length cy) k hk h16)
        have HE:=Lib.hid (c9R (n:=n') (out:=out) HO.out hk)
        clear hRy hb2 h16 hk
        gi_wp2
        refine ⟨λ h=>(by cases h),HSt.out.mono ?_⟩
        rintro e w3 ⟨rfl,hX⟩
        have HX:=Lib.hid hX
        clear hX hy
        gi_wp2
        go_end0
        have h1:=H.out.1
        rw [HE.out] at h1
        rw [<- h1]
        exact ⟨⟨_,rfl⟩,HX.out⟩
   · have HR : Hid (a0C f limit = (headM f,[])):=Lib.hid (by unfold a0C; rw [if_neg hn,if_pos hh])
     obtain ⟨lg,hlg⟩ : ∃ k,k = a2f f:=⟨_,rfl⟩
     have hm16:=c9t (f:=f)
     obtain ⟨k,hk⟩ : ∃ k,k = headM f:=⟨_,rfl⟩
     rw [<- hlg,<- hk] at HHd
     rw [<- hk] at hh hm16 HR
     have hk2 : (k != 0) = true:=by simpa using hh
     clear h L hfc hbs hbsW htm hlg hk
     refine callsIn_of_wp Tryz.func139 rfl trivial ?_ rfl
     simp only [Tryz.ntmps139,List.size_toArray,List.length_cons,List.length_nil,Nat.reduceAdd,Nat.reduceSub,Array.replicate_succ,Array.replicate_zero,List.push_toArray,List.append_toArray,List.nil_append,List.cons_append]
     gi_wp2
     refine ⟨trivial,λ h=>(by cases h),(callsIn_wide.2 HHd.out).mono ?_⟩
     rintro e w1 ⟨rfl,hb1⟩
     have HP1:=Lib.hid (HP.out.later HL.out hb1)
     have hcl : w1.cell? ⟨lb,0,none⟩ = some (.int .i64 limit):=(a0a HP1.out.lc 0).trans rfl
     have hy:=a6j w1 (.slice none 0 0) (.int .i64 k) HP1.out.lp
     have HSt:=Lib.hid (b1d (m - 1) HL.out HP1.out (.slice none 0 0) k hh hm16)
     clear hb1 hh hm16
     gi_wp2
     refine ⟨λ h=>(by cases h),HSt.out.mono ?_⟩
     rintro e w2 ⟨rfl,hX⟩
     have HX:=Lib.hid hX
     clear hX hy
     gi_wp2
     go_end0
     rw [HR.out]
     exact ⟨⟨_,rfl⟩,HX.out⟩
end
end Go.Proofs.YtflfjpkmjnnodaaGreat
namespace Go.Proofs.YtflfjpkmjnnodaaGreat
open Go.RowKit Go.IntWalk Go.Proofs.YtflfjpkmjnnodaaGreatW.PrintWords
attribute [local go_sem] Oper.semAt_some
set_option maxRecDepth 100000 in
theorem c9W (A : Option Addr) (n c : Nat) (lim : Int) (w : World) :
    Calls Tryz.prog 95 #[.slice A n c,.int .i64 lim] w λ e w'=>e = .returned (.func (.func 139) #[] #[.pointer (some ⟨w.heap.size,0,none⟩),.pointer (some ⟨w.heap.size + 1,0,none⟩)]) /\ w' = (w.alloc (.cells #[.slice A n c] 22)).alloc (.cells #[.int .i64 lim] 3):=by
 have hmf : ∀ (fn : Fn) (first cap : Array Value) (w : World),(Instr.makeFunc fn first cap).run Tryz.prog w = .ok (.func fn first cap) w:=λ _ _ _ _=>rfl
 go_enter Tryz.func95,Tryz.ntmps95
 go_wp2_with fail
 go_ret
 exact ⟨by simp,rfl⟩
theorem c9X {w : World} {g : Nat} {v : Value} (h : w.heap[g]? = some (.cells #[v] 22 (0,0))) : (loadVar 22 ⟨g,0,none⟩).run Tryz.prog w = .ok v w:=by
 have hc : w.cell? ⟨g,0,none⟩ = some v:=(a0a h 0).trans rfl
 simp [go_sem,hc]
theorem pfEnd {w W : World} {L : List Int} {A : Option Addr} {c : Nat} {x : Int} {D B1 : Nat} {tmps : Array Value} (hD : w.heap.size + 1 < D) (hB : Below w.heap.size w W) (kr : W.heap[w.heap.size]? = some (.cells #[.slice A L.length c] 22 (0,0))) (ke : W.heap[w.heap.size + 1]? = some (.cells #[.int .i64 x] 27 (0,0)))
    (kd : W.heap[D]? = some (.deferred (some []))) (hR : (Kd.int .u8).R 5 W B1 (λ _=>True) (.slice A L.length c) L) (hDB : D < B1)
    (h2 : tmps.getD 4 undef = .pointer (some ⟨w.heap.size,0,none⟩)) (h3 : tmps.getD 5 undef = .pointer (some ⟨w.heap.size + 1,0,none⟩)) :
    LeavesInM Fence.wide 3 Tryz.prog Tryz.f45 tmps (Told x L w) [{ target:=.collected D,args:=#[] }] .returning W:=by
 refine ⟨by simp,.inl ⟨_,_,rfl,run_takeDeferred kd,?_⟩⟩
 refine ⟨_,b0D (fn:=Tryz.f45) (p:=4) (q:=5) (t:=22) (u:=27) rfl _ _ _ _ _ _ h2 h3 (c9X ((World.putObj_heap_other (by omega)).trans kr)) (b0E ((World.putObj_heap_other (by omega)).trans ke)),?_⟩
 exact ⟨A,c,rfl,Kd.R_lower (R_put hR hDB _) (by omega),hB.putObj (by omega) _⟩
set_option maxRecDepth 100000 in
set_option maxHeartbeats 2000000 in
theorem b7V (A : Option Addr) (c : Nat) (f : List Int) (limit : Int) (w : World) (hf : BSl w A c f) (hl : f.length <= 1000000) (hL : limit < 4611686018427387904) :
    Calls Tryz.prog 45 #[.slice A f.length c,.int .i64 limit] w (Told (a0C f limit).1 (a0C f limit).2 w):=by
 refine (callsIn_wide (n:=3)).1 ?_
 refine callsIn_of_wp_marks Tryz.func45 rfl trivial ?_ rfl
 simp only [Tryz.ntmps45,List.size_toArray,List.length_cons,List.length_nil,Nat.reduceAdd,Nat.reduceSub,Array.replicate_succ,Array.replicate_zero,List.push_toArray,List.append_toArray,List.nil_append,List.cons_append]
 obtain ⟨W0,hW0⟩ : ∃ W0,W0 = ((w.alloc (.cells #[.slice none 0 0] 22)).alloc (.cells #[.int .i64 0] 27)).alloc (.cells #[.slice none 0 0] 22):=⟨_,rfl⟩
 have HX:=Lib.hid (And.intro hf hl)
 clear hf hl
 gi_wp2
 rw [<- hW0]
 have hs0 : W0.heap.size = w.heap.size + 1 + 1 + 1:=by rw [hW0]; simp
 have hB0 : Below w.heap.size w W0:=by rw [hW0]; exact (((Below.refl w.heap.size w).alloc (Nat.le_refl _) _).alloc (by simp) _).alloc (by simp; omega) _
 have kr0 : W0.heap[w.heap.size]? = some (.cells #[.slice none 0 0] 22 (0,0)):=by rw [hW0]; exact a0i (a0i (a0k _ _) _) _
 have ke0 : W0.heap[w.heap.size + 1]? = some (.cells #[.int .i64 0] 27 (0,0)):=by rw [hW0]; exact a0i (a2h _ _ _) _
 have ko0 : W0.heap[w.heap.size + 1 + 1]? = some (.cells #[.slice none 0 0] 22 (0,0)):=by
  have:=a0k ((w.alloc (.cells #[.slice none 0 0] 22)).alloc (.cells #[.int .i64 0] 27)) (.cells #[.slice none 0 0] 22)
  simp only [World.size_alloc] at this
  rw [hW0]; exact this
 have H0:=Lib.hid (And.intro hs0 (And.intro hB0 (And.intro kr0 (And.intro ke0 ko0))))
 clear hW0 hs0 hB0 kr0 ke0 ko0
 refine ⟨trivial,(callsIn_wide.2 (c9W A f.length c limit W0)).mono ?_⟩
 rintro e w1 ⟨rfl,rfl⟩
 obtain ⟨Wb,hWb⟩ : ∃ Wb,Wb = (W0.alloc (.cells #[.slice A f.length c] 22)).alloc (.cells #[.int .i64 limit] 3):=⟨_,rfl⟩
 obtain ⟨pb,hpb⟩ : ∃ pb,pb = W0.heap.size:=⟨_,rfl⟩
 rw [<- hWb,<- hpb]
 have hsb : Wb.heap.size = pb + 1 + 1:=by rw [hWb,hpb]; simp
 have hps : pb = w.heap.size + 1 + 1 + 1:=by rw [hpb]; exact H0.out.1
 have hBb : Below w.heap.size w Wb:=by rw [hWb]; exact (H0.out.2.1.alloc (by have:=H0.out.1; omega) _).alloc (by have:=H0.out.1; simp; omega) _
 have kr : Wb.heap[w.heap.size]? = some (.cells #[.slice none 0 0] 22 (0,0)):=by rw [hWb]; exact a0i (a0i H0.out.2.2.1 _) _
 have ke : Wb.heap[w.heap.size + 1]? = some (.cells #[.int .i64 0] 27 (0,0)):=by rw [hWb]; exact a0i (a0i H0.out.2.2.2.1 _) _
 have ko : Wb.heap[w.heap.size + 1 + 1]? = some (.cells #[.slice none 0 0] 22 (0,0)):=by rw [hWb]; exact a0i (a0i H0.out.2.2.2.2 _) _
 have kf : Wb.heap[pb]? = some (.cells #[.slice A f.length c] 22 (0,0)):=by rw [hWb,hpb]; exact a0i (a0k W0 _) _
 have kl : Wb.heap[pb + 1]? = some (.cells #[.int .i64 limit] 3 (0,0)):=by rw [hWb,hpb]; exact a2h _ _ _
 have HWb:=Lib.hid (And.intro hsb (And.intro hps (And.intro hBb (And.intro kr (And.intro ke (And.intro ko (And.intro kf kl)))))))
 clear hWb hpb hsb hps hBb kr ke ko kf kl
 gi_wp2
 refine wpIn_rangeFunc ?_
 intro fn hfn
 obtain ⟨hsb,hps,hBb,kr,ke,ko,kf,kl⟩:=HWb.out
 obtain ⟨fv,hfv⟩ : ∃ fv,fv = Value.func (.func 139) #[] #[.pointer (some ⟨pb,0,none⟩),.pointer (some ⟨pb + 1,0,none⟩)]:=⟨_,rfl⟩
 obtain ⟨tm,htm⟩ : ∃ tm,tm = pfTm A f.length c limit w.heap.size (w.heap.size + 1) (w.heap.size + 1 + 1) (.slice A f.length c) (.int .i64 limit) fv undef undef:=⟨_,rfl⟩
 obtain ⟨W1,hW1⟩ : ∃ W1,(Wb.alloc (.deferred (some []))).alloc (.loop (pfRec fn tm Wb.heap.size .ready none)) = W1:=⟨_,rfl⟩
 have hs1 : W1.heap.size = Wb.heap.size + 1 + 1:=by rw [<- hW1]; simp
 have hold : ∀ k,k < Wb.heap.size -> W1.heap[k]? = Wb.heap[k]?:=λ k hk=>by
  rw [<- hW1]; exact (Below.heap_alloc _ _ k (by simp; omega)).trans (Below.heap_alloc _ _ k hk)
 have klp : W1.heap[Wb.heap.size + 1]? = some (.loop (pfRec fn tm Wb.heap.size .ready none)):=by
  rw [<- hW1]; have:=World.alloc_heap_new (Wb.alloc (.deferred (some []))) (.loop (pfRec fn tm Wb.heap.size .ready none)); rwa [World.size_alloc] at this
 have kd : W1.heap[Wb.heap.size]? = some (.deferred (some [])):=by
  rw [<- hW1]; exact (Below.heap_alloc _ _ _ (by simp)).trans (World.alloc_heap_new Wb _)
 have hB1 : Below w.heap.size w W1:=by rw [<- hW1]; exact (hBb.alloc (by omega) _).alloc (by simp; omega) _
 have hLay : Lay w.heap.size w.heap.size (w.heap.size + 1) (w.heap.size + 1 + 1) pb (pb + 1) Wb.heap.size (Wb.heap.size + 1) W1.heap.size:=⟨by omega,by omega,by omega,by omega,by omega,by omega,by omega,by omega⟩
 have hPf : Pf fn tm w.heap.size w.heap.size (w.heap.size + 1) (w.heap.size + 1 + 1) pb (pb + 1) Wb.heap.size (Wb.heap.size + 1) W1.heap.size w f limit [] W1:=
  ⟨⟨A,c,(hold _ (by omega)).trans kf,HX.out.1⟩,(hold _ (by omega)).trans kl,⟨none,0,(hold _ (by omega)).trans ko,Kd.R_nil _ _ _ _ _⟩,(hold _ (by omega)).trans kr,(hold _ (by omega)).trans ke,klp,kd,hB1,Nat.le_refl _⟩
 rw [htm] at hPf
 have hIt:=c9V 2 hLay rfl hPf HX.out.2 hL
 rw [<- htm] at hIt
 have HIt:=Lib.hid hIt
 have HK:=Lib.hid (And.intro hs1 (And.intro hsb hps))
 clear hIt hPf hLay kr ke ko kf kl klp kd hBb hold
 refine ⟨Wb.heap.size + 1,[{ target:=.collected Wb.heap.size,args:=#[] }],W1,{ target:=.fn (.func 139) #[.pointer (some ⟨pb,0,none⟩),.pointer (some ⟨pb + 1,0,none⟩)],args:=#[.func (.yield (Wb.heap.size + 1)) #[] #[]] },W1,139,
  #[.func (.yield (Wb.heap.size + 1)) #[] #[],.pointer (some ⟨pb,0,none⟩),.pointer (some ⟨pb + 1,0,none⟩)],W1,?_,?_,?_,?_,λ h=>(by cases h),?_⟩
 · rw [<- hW1,htm,hfv]; exact run_enterLoop_outer _ _ _ _ _
 · simp [resolve,go_sem]
 · intro f' hf'; exact trivial
 · simp [invoke,go_sem]
 · clear hW1 htm hfv
   refine HIt.out.mono ?_
   rintro e W2 ⟨⟨v,rfl⟩,hX⟩
   obtain ⟨hs1,hsb,hps⟩:=HK.out
   have hend:=run_endLoop (P:=Tryz.prog) hX.lp (by simp [pfRec])
   have hend2 : (Instr.endLoop (Wb.heap.size + 1)).run Tryz.prog W2 = .ok (some .ret) (W2.putObj (Wb.heap.size + 1) (.loop { pfRec fn tm Wb.heap.size .done (some .ret) with state:=.exhausted })):=hend
   obtain ⟨W3,hW3⟩ : ∃ W3,W2.putObj (Wb.heap.size + 1) (.loop { pfRec fn tm Wb.heap.size .done (some .ret) with state:=.exhausted }) = W3:=⟨_,rfl⟩
   rw [hW3] at hend2
   obtain ⟨⟨Ao,co,krr,hRR⟩,kee,-,kdd,hBB⟩:=hX
   have hB3 : Below w.heap.size w W3:=by rw [<- hW3]; exact hBB.putObj (by omega) _
   have kd3 : W3.heap[Wb.heap.size]? = some (.deferred (some [])):=by rw [<- hW3]; exact (World.putObj_heap_other (by omega)).trans kdd
   have kr3 : W3.heap[w.heap.size]? = some (.cells #[.slice Ao (a0C f limit).2.length co] 22 (0,0)):=by rw [<- hW3]; exact (World.putObj_heap_other (by omega)).trans krr
   have ke3 : W3.heap[w.heap.size + 1]? = some (.cells #[.int .i64 (a0C f limit).1] 27 (0,0)):=by rw [<- hW3]; exact (World.putObj_heap_other (by omega)).trans kee
   have hR3 : (Kd.int .u8).R 5 W3 W1.heap.size (λ _=>True) (.slice Ao (a0C f limit).2.length co) (a0C f limit).2:=by rw [<- hW3]; exact R_put hRR (by omega) _
   have hWbs : Wb.heap.size = w.heap.size + 1 + 1 + 1 + 1 + 1:=by omega
   rw [hWbs] at kd3
   have HZ:=Lib.hid (And.intro hB3 (And.intro kd3 (And.intro kr3 (And.intro ke3 hR3))))
   have HD:=Lib.hid (show w.heap.size + 1 < w.heap.size + 1 + 1 + 1 + 1 + 1 /\ w.heap.size + 1 + 1 + 1 + 1 + 1 < W1.heap.size by omega)
   refine ⟨some .ret,W3,hend2,?_⟩
   clear hW3 hend hend2 hBB krr hRR kee kdd hB3 kd3 kr3 ke3 hR3 hs1 hsb hps hWbs HIt HK
   gi_wp2
   exact pfEnd HD.out.1 HZ.out.1 HZ.out.2.2.1 HZ.out.2.2.2.1 HZ.out.2.1 HZ.out.2.2.2.2 HD.out.2 rfl rfl
theorem c9Y {f : List Int} {limit : Int} (h : (a0C f limit).1 = 0) : a1L f limit = a0C f limit:=by unfold a1L; rw [if_neg (λ h2=>h2 h)]
theorem a8e {f : List Int} {limit : Int} (h : (a0C f limit).1 ≠ 0) : a1L f limit = ((a0C f limit).1,[]):=by unfold a1L; rw [if_pos h]
set_option maxRecDepth 100000 in
theorem a6k (A : Option Addr) (c : Nat) (f : List Int) (limit : Int) (w : World) (hf : BSl w A c f) (hl : f.length <= 1000000) (hL : limit < 4611686018427387904) :
    Calls Tryz.prog 47 #[.slice A f.length c,.int .i64 limit] w (Told (a1L f limit).1 (a1L f limit).2 w):=by
 have HPr:=Lib.hid (b7V A c f limit w hf hl hL)
 have HE : Hid (_ /\ _):=Lib.hid (And.intro (c9Y (f:=f) (limit:=limit)) (a8e (f:=f) (limit:=limit)))
 obtain ⟨P,hP⟩ : ∃ P,P = a0C f limit:=⟨_,rfl⟩
 obtain ⟨Q,hQ⟩ : ∃ Q,Q = a1L f limit:=⟨_,rfl⟩
 rw [<- hP,<- hQ] at HE
 rw [<- hP] at HPr
 rw [<- hQ]
 clear hf hP hQ
 obtain ⟨k,y⟩:=P
 dsimp only at HE HPr
 by_cases hk : k = 0
 · subst hk
   obtain rfl:=HE.out.1 rfl
   clear HE
   go_enter Tryz.func47,Tryz.ntmps47
   go_wp2_with fail
   refine HPr.out.mono ?_
   rintro e w1 ⟨A1,c1,rfl,hr1,hb1⟩
   have H1:=Lib.hid (And.intro hr1 hb1)
   clear hr1 hb1
   go_wp2_with fail
   go_ret2
   exact ⟨A1,c1,rfl,H1.out.1,H1.out.2⟩
 · obtain rfl:=HE.out.2 hk
   have hk2 : (k != 0) = true:=by simpa using hk
   clear HE hk
   go_enter Tryz.func47,Tryz.ntmps47
   go_wp2_with fail
   refine HPr.out.mono ?_
   rintro e w1 ⟨A1,c1,rfl,hr1,hb1⟩
   have H1:=Lib.hid hb1
   clear hr1 hb1
   go_wp2_with fail
   go_ret2
   exact ⟨none,0,rfl,Kd.R_nil _ _ _ _ _,H1.out⟩
end Go.Proofs.YtflfjpkmjnnodaaGreat
namespace Go.Proofs.YtflfjpkmjnnodaaGreat
open Go.RowKit Go.IntWalk Go.Proofs.YtflfjpkmjnnodaaGreatW.PrintWords
theorem Only.behind {S : Nat -> Prop} {a b c : World} {B : Nat} (h : Only S a b) (k : Below B b c) (hB : a.heap.size <= B) : Only S a c:=
 ⟨k.os.trans h.os,k.tape.trans h.tape,k.output.trans h.output,Nat.le_trans h.size k.size,λ i hi hs=>(k.block i (Nat.lt_of_lt_of_le hi hB)).trans (h.block i hi hs)⟩
theorem BSl.only {w w' : World} {A : Option Addr} {c : Nat} {p : List Int} {S : Nat -> Prop} (h : BSl w A c p) (ho : Only S w w') (hs : 0 < p.length -> ∀ ad,A = some ad -> ¬ S ad.block) : BSl w' A c p:=
 ⟨a6G h.row (λ hn ad ha=>ho.block _ (a8M h.row hn ha) (hs hn ad ha)),h.cap,h.nil,h.by'⟩
theorem cell7 {w : World} {g : Nat} {a b c d e f n : Value} {t : Nat} (h : w.heap[g]? = some (.cells #[a,b,c,d,e,f,n] t (0,0))) :
    (w.cell? ⟨g,0,none⟩ = some a /\ w.cell? ⟨g,1,none⟩ = some b /\ w.cell? ⟨g,2,none⟩ = some c /\ w.cell? ⟨g,3,none⟩ = some d /\ w.cell? ⟨g,4,none⟩ = some e /\ w.cell? ⟨g,5,none⟩ = some f /\ w.cell? ⟨g,6,none⟩ = some n) /\
    (w.frozen? ⟨g,0,none⟩ = false /\ w.frozen? ⟨g,1,none⟩ = false /\ w.frozen? ⟨g,2,none⟩ = false /\ w.frozen? ⟨g,3,none⟩ = false /\ w.frozen? ⟨g,4,none⟩ = false /\ w.frozen? ⟨g,5,none⟩ = false /\ w.frozen? ⟨g,6,none⟩ = false):=
 ⟨⟨(a0a h 0).trans rfl,(a0a h 1).trans rfl,(a0a h 2).trans rfl,(a0a h 3).trans rfl,(a0a h 4).trans rfl,(a0a h 5).trans rfl,(a0a h 6).trans rfl⟩,a0e h 0,a0e h 1,a0e h 2,a0e h 3,a0e h 4,a0e h 5,a0e h 6⟩
def CompC (p : Nat) (L most fed sm : Int) (tb : Value) (rest nx : Value) (W : World) : Prop:=W.heap[p]? = some (.cells #[.int .i64 L,.int .i64 most,.int .i64 fed,.int .u32 sm,tb,rest,nx] 125 (0,0))
def Apart (p : Nat) (A : Option Addr) (x : List Int) : Prop:=0 < x.length -> ∀ ad,A = some ad -> ad.block ≠ p
def Above (r : Nat) (A : Option Addr) (x : List Int) : Prop:=0 < x.length -> ∀ ad,A = some ad -> r <= ad.block
theorem Above.from_ {r : Nat} {A : Option Addr} {c k : Nat} {x : List Int} (h : Above r A x) (hk : k <= x.length) : Above r (if c = k then A else A.map (·.add (k * 1))) (x.drop k):=by
 intro hn ad ha
 rw [List.length_drop] at hn
 split at ha
 · exact h (by omega) ad ha
 · obtain ⟨ad',h1,h2⟩:=Option.map_eq_some_iff.1 ha
   have:=h (by omega) ad' h1
   rw [<- h2]
   show r <= (ad'.add (k * 1)).block
   rw [a1B]; exact this
theorem Above.apart {r p : Nat} {A : Option Addr} {x : List Int} (h : Above r A x) (hp : p < r) : Apart p A x:=λ hn ad ha=>by
 have:=h hn ad ha; omega
def c9Z (p b0 : Nat) (L most fed sm : Int) (tb nx : Value) (y r : List Int) (w : World) (e : Ending) (w' : World) : Prop:=
 ∃ A c Ar cr,e = .returned (.slice A y.length c) /\ (Kd.int .u8).R 5 w' w.heap.size (λ _=>True) (.slice A y.length c) y /\ CompC p L most fed sm tb (.slice Ar r.length cr) nx w' /\ BSl w' Ar cr r /\ Above b0 Ar r /\ Only (λ k=>k = p) w w'
theorem d0a {a b c : World} {B g : Nat} {o : Obj} (_ : b.heap[g]? = some o) (_ : Below B a b) (h2 : Below B a c) (hg : g < B) (h0 : a.heap[g]? = some o) : c.heap[g]? = some o:=(h2.block g hg).trans h0
set_option maxRecDepth 100000 in
set_option maxHeartbeats 2000000 in
theorem d0b (p b0 L : Nat) (most fed sm : Int) (tb nx : Value) (Ar : Option Addr) (cr : Nat) (r : List Int) (w : World) (hk : CompC p L most fed sm tb (.slice Ar r.length cr) nx w) (hr : BSl w Ar cr r) (ha : Above b0 Ar r) (hpb : p < b0) (hl : r.length <= 40000) (hL : 10 <= L /\ L <= 17) :
    Calls Tryz.prog 187 #[.pointer (some ⟨p,0,none⟩)] w (c9Z p b0 L most fed sm tb nx (fullL (2 ^ L) r.length r) (endL (2 ^ L) r.length r) w):=by
 obtain ⟨s,hs⟩ : ∃ s : Nat,s = 2 ^ L:=⟨_,rfl⟩
 have hsI : (2 : Int) ^ L = (s : Int):=by rw [hs]; simp
 have hL0 : ¬ (L : Int) < 0:=by omega
 have hs2 : s <= 131072:=by rw [hs]; exact Nat.le_trans (Nat.pow_le_pow_right (by decide : 2 > 0) hL.2) (by decide)
 have hs1 : 1024 <= s:=by rw [hs]; exact Nat.le_trans (by decide) (Nat.pow_le_pow_right (by decide : 2 > 0) hL.1)
 have hsw : IntKind.i64.wrap (s : Int) = (s : Int):=i64_in _ (by omega)
 rw [<- hs]
 obtain ⟨T,hT⟩ : ∃ T,T = fullL s r.length r:=⟨_,rfl⟩
 obtain ⟨E,hE⟩ : ∃ E,E = endL s r.length r:=⟨_,rfl⟩
 have hTl : T.length <= 1000000:=by rw [hT]; have:=b0Z (s:=s) r.length r; omega
 rw [<- hT,<- hE]
 have HX:=Lib.hid (And.intro hr (And.intro ha (And.intro hl (And.intro hT (And.intro hE hTl)))))
 have HK:=Lib.hid hk
 have HP:=Lib.hid (a0f hk)
 obtain ⟨⟨c0,c1,c2,c3,c4,c5,c6⟩,-⟩:=cell7 hk
 clear hk hr ha hl hT hE hTl hs
 go_enter Tryz.func187,Tryz.ntmps187
 go_wp2_with fail
 go_loopw [3,5,6] (λ ov _ _ wr=>∃ (Lo : List Int) (Ao : Option Addr) (co : Nat),ov = .slice Ao Lo.length co /\ Hid (∃ (q : List Int) (m : Nat) (Aq : Option Addr) (cq : Nat),(Kd.int .u8).R 5 wr w.heap.size (λ _=>True) (.slice Ao Lo.length co) Lo /\ CompC p L most fed sm tb (.slice Aq q.length cq) nx wr /\ BSl w Aq cq q /\ Above b0 Aq q /\ Only (λ k=>k = p) w wr /\ q.length <= m /\ q.length <= 40000 /\ Lo ++ fullL s m q = T /\ endL s m q = E)) (λ _ _ _ wr=>slN ((wr.cell? ⟨p,5,none⟩).getD undef))
 case atStart=>exact ⟨[],none,0,rfl,Lib.hid ⟨r,r.length,Ar,cr,Kd.R_nil _ _ _ _ _,HK.out,HX.out.1,HX.out.2.1,Only.refl _ _,Nat.le_refl _,HX.out.2.2.1,HX.out.2.2.2.1.symm,HX.out.2.2.2.2.1.symm⟩⟩
 case round=>
  obtain ⟨Lo,Ao,co,rfl,H⟩:=hrel
  obtain ⟨q,m,Aq,cq,hO,hK,hQ,hA,hon,hm,hq4,hLT,hEE⟩:=H.out
  obtain ⟨⟨d0,d1,d2,d3,d4,d5,d6⟩,f0,f1,f2,f3,f4,f5,f6⟩:=cell7 hK
  by_cases hlt : s < q.length
  · have hI : (s : Int) < (q.length : Int):=by omega
    obtain ⟨m',hm1,hm2,hm3⟩:=c9e hm hlt (by omega)
    have hsl:=a3M Aq q.length cq s (by omega) hQ.cap
    have hsf:=a2Z Aq q.length cq s (by omega)
    have htl : (q.take s).length = s:=by rw [List.length_take]; omega
    have hdl : (q.drop s).length = q.length - s:=List.length_drop
    have hQw : BSl wr Aq cq q:=hQ.only hon (hA.apart hpb)
    have HP2:=Lib.hid (a5m Aq cq (q.take s) false wr (hQw.cut (k:=s) (by omega)).row (hQ.cut (k:=s) (by omega)).by' (by omega) (.inr (by omega)))
    rw [htl] at HP2
    obtain ⟨y,hy⟩ : ∃ y,y = putM (q.take s) false:=⟨_,rfl⟩
    rw [<- hy] at HP2 hm1
    rw [hm1] at hLT
    rw [hm2] at hEE
    have hyl : Lo.length + y.length <= 1000000:=by
     have h1:=HX.out.2.2.2.2.2
     rw [<- hLT,List.length_append,List.length_append] at h1
     omega
    have HDr:=Lib.hid (hQ.from_ (k:=s) (by omega))
    have HAp:=Lib.hid (hA.from_ (c:=cq) (k:=s) (by omega))
    obtain ⟨Ad,hAd⟩ : ∃ Ad,Ad = (if cq = s then Aq else Aq.map (·.add (s * 1))):=⟨_,rfl⟩
    rw [<- hAd] at HDr hsf HAp
    obtain ⟨rd,hrd⟩ : ∃ rd,rd = q.drop s:=⟨_,rfl⟩
    rw [<- hrd] at HDr hdl HAp hm3 hLT hEE
    have hrl : q.length - s = rd.length:=hdl.symm
    rw [hrl] at hsf
    have HN:=Lib.hid (And.intro hO (And.intro hK (And.intro hon (And.intro hm3 (And.intro hLT (And.intro hEE hq4))))))
    have HZ : Hid (Lo.length + y.length <= 140737488355328):=Lib.hid (by omega)
    have hrds : rd.length < q.length:=by omega
    clear hm1 hm2 hm3 htl hy hAd hrd hlt hQw hO hK hQ hA hon hm hq4 hLT hEE hyl H hrl hdl
    go_wp2_with fail
    refine HP2.out.mono ?_
    rintro e w3 ⟨A3,c3',rfl,hr3,hb3⟩
    have HO3:=Lib.hid (Kd.R_below HN.out.1 hb3)
    have HC3:=Lib.hid (Kd.R_reads' hr3).2.2
    have HK3:=Lib.hid (show CompC p L most fed sm tb (.slice Aq q.length cq) nx w3 from a0g HN.out.2.1 hb3)
    have HB3 : Hid (Below w.heap.size wr w3):=Lib.hid (hb3.mono HN.out.2.2.1.size)
    have HS3 : Hid (w.heap.size <= w3.heap.size):=Lib.hid (Nat.le_trans HN.out.2.2.1.size hb3.size)
    clear hr3 hb3 d0 d1 d2 d3 d4 d5 d6 f0 f1 f2 f3 f4 f5 f6
    go_wp2_with (at_builtin; refine app8 rfl rfl rfl rfl HO3 HC3 HB3 HS3.out HZ ?_; intro A4 c4' w4 hr4 hb4 _; have hk4:=d0a HK3.out HB3.out hb4 HP.out HN.out.2.1; have HR4:=Lib.hid (And.intro hr4 (And.intro hb4 hk4)); obtain ⟨⟨d0,d1,d2,d3,d4,d5,d6⟩,f0,f1,f2,f3,f4,f5,f6⟩:=cell7 hk4; clear hr4 hb4 hk4)
    go_roundw
    case rel=>exact ⟨Lo ++ y,A4,c4',by rw [List.length_append],Lib.hid ⟨rd,_,Ad,cq - s,by
     rw [List.length_append]
     exact a3l HR4.out.1 ((Only.refl (λ k=>k = p) w4).setCell (p:=⟨p,5,none⟩) rfl _) (λ k hk h=>by have:=HP.out; omega),(a0n HR4.out.2.2 5 _).trans rfl,HDr.out,HAp.out,(HN.out.2.2.1.behind HR4.out.2.1 (Nat.le_refl _)).setCell (p:=⟨p,5,none⟩) rfl _,HN.out.2.2.2.1,by have:=HN.out.2.2.2.2.2.2; omega,by rw [List.append_assoc]; exact HN.out.2.2.2.2.1,HN.out.2.2.2.2.2.1⟩⟩
    case measure=>
     have e1 : (w4.setCell ⟨p,5,none⟩ (.slice Ad rd.length (cq - s))).cell? ⟨p,5,none⟩ = some (.slice Ad rd.length (cq - s)):=(a0a ((a0n HR4.out.2.2 5 _).trans rfl) 5).trans rfl
     have e2 : wr.cell? ⟨p,5,none⟩ = some (.slice Aq q.length cq):=(a0a HN.out.2.1 5).trans rfl
     rw [e1,e2]
     exact hrds
  · have hI : ¬ (s : Int) < (q.length : Int):=by omega
    obtain ⟨e1,e2⟩:=b7x hlt m
    rw [e1,List.append_nil] at hLT
    rw [e2] at hEE
    subst hLT hEE
    have HF:=Lib.hid (And.intro hO (And.intro hK (And.intro (hQ.only hon (hA.apart hpb)) (And.intro hA hon))))
    clear hO hK hQ hA hon H e1 e2
    go_wp2_with fail
    go_ret
    exact ⟨Ao,co,Aq,cq,rfl,HF.out⟩
set_option maxRecDepth 100000 in
set_option maxHeartbeats 2000000 in
theorem d0c (p : Nat) (L most fed : Int) (sm : Nat) (tb nx : Value) (Ar : Option Addr) (cr : Nat) (r : List Int) (w : World) (hk : CompC p L most fed sm tb (.slice Ar r.length cr) nx w) (hr : BSl w Ar cr r) (hl : r.length <= 40000) (hsm : sm < 4294967296) :
    Calls Tryz.prog 188 #[.pointer (some ⟨p,0,none⟩)] w (λ e w'=>∃ A c,e = .returned (.slice A ((putM r true).length + 4) c) /\ (Kd.int .u8).R 5 w' w.heap.size (λ _=>True) (.slice A ((putM r true).length + 4) c) (putM r true ++ leN sm 4) /\ Below w.heap.size w w'):=by
 have HP:=Lib.hid (a5m Ar cr r true w hr.row hr.by' hl (.inl rfl))
 have hyl : (putM r true).length <= 100000:=by
  have h1:=a0T r true
  have h2:=a2H r
  omega
 obtain ⟨y,hy⟩ : ∃ y,y = putM r true:=⟨_,rfl⟩
 rw [<- hy] at HP hyl ⊢
 have HK:=Lib.hid hk
 obtain ⟨⟨c0,c1,c2,c3,c4,c5,c6⟩,-⟩:=cell7 hk
 clear hk hr hl hy
 go_enter Tryz.func188,Tryz.ntmps188
 go_wp2_with fail
 refine HP.out.mono ?_
 rintro e w1 ⟨A1,c1',rfl,hr1,hb1⟩
 have H1:=Lib.hid (And.intro hr1 hb1)
 have HK1:=Lib.hid (show CompC p L most fed sm tb (.slice Ar r.length cr) nx w1 from a0g HK.out hb1)
 clear hr1 hb1 c0 c1 c2 c3 c4 c5 c6
 go_wp2_with fail
 go_loopw [3,5,14] (λ v _ kv wr=>∃ (i : Nat) (Ao : Option Addr) (co : Nat),i <= 4 /\ v = .slice Ao (y.length + i) co /\ kv = .int .i64 i /\ Hid ((Kd.int .u8).R 5 wr w.heap.size (λ _=>True) (.slice Ao (y.length + i) co) (y ++ leN sm i) /\ Below w.heap.size w wr)) (λ _ _ kv _=>4 - (intOf kv).toNat)
 case atStart=>exact ⟨0,A1,c1',by omega,rfl,rfl,Lib.hid ⟨by show (Kd.int .u8).R _ _ _ _ _ (y ++ []); rw [List.append_nil]; exact H1.out.1,H1.out.2⟩⟩
 case round=>
  obtain ⟨i,Ao,co,hi,rfl,rfl,H⟩:=hrel
  by_cases hlt : i < 4
  · have hI : (i : Int) < 4:=by omega
    have HN:=Lib.hid (b0y sm i)
    have hLl : (y ++ leN sm i).length = y.length + i:=by rw [List.length_append,a1T]
    obtain ⟨Lo,hLo⟩ : ∃ Lo,Lo = y ++ leN sm i:=⟨_,rfl⟩
    rw [<- hLo] at H hLl
    have HLn : Hid (Lo.length + 1 <= 140737488355328):=Lib.hid (by omega)
    have HLl:=Lib.hid hLl
    have HO:=Lib.hid H.out.1
    have HB:=Lib.hid H.out.2
    have hk2 : CompC p L most fed sm tb (.slice Ar r.length cr) nx wr:=a0g HK.out H.out.2
    obtain ⟨⟨c0,c1,c2,c3,c4,c5,c6⟩,-⟩:=cell7 hk2
    have hcA : ∀ o : Obj,(wr.alloc o).cell? ⟨p,3,none⟩ = some (.int .u32 sm):=λ o=>a0s ((Below.refl _ _).alloc (Nat.le_refl _) o) c3
    have HE : Hid (∀ z : Int,z = ((sm / 256 ^ i % 256 : Nat) : Int) -> y ++ leN sm (i + 1) = Lo ++ [z]):=Lib.hid (λ z hz=>by rw [hz,HN.out,hLo,List.append_assoc])
    have hi4 : i = 0 \/ i = 1 \/ i = 2 \/ i = 3:=by omega
    clear hLo hLl HN hk2
    rcases hi4 with rfl | rfl | rfl | rfl
    all_goals
     go_wp2_with (at_builtin; refine app8i rfl rfl rfl rfl HO HB HB.out.size HLn ?_; intro A1 c1 w3 hr3 hb3 _; have HA:=Lib.hid (And.intro hr3 hb3); clear hr3 hb3)
     go_roundw
     case rel=>
      have hnn:=hsm
      have HV:=HA.out.1
      rw [HLl.out] at HV ⊢
      first
       | exact ⟨0 + 1,_,_,by omega,rfl,by go_num,Lib.hid ⟨by rw [HE.out ((sm : Int) % 256) (by clear HA HV; first | rfl | (simp; done) | (simp; omega))]; exact HV,HA.out.2⟩⟩
       | exact ⟨1 + 1,_,_,by omega,rfl,by go_num,Lib.hid ⟨by rw [HE.out ((sm : Int) / 256 % 256) (by clear HA HV; first | rfl | (simp; done) | (simp; omega))]; exact HV,HA.out.2⟩⟩
       | exact ⟨2 + 1,_,_,by omega,rfl,by go_num,Lib.hid ⟨by rw [HE.out ((sm : Int) / 65536 % 256) (by clear HA HV; first | rfl | (simp; done) | (simp; omega))]; exact HV,HA.out.2⟩⟩
       | exact ⟨3 + 1,_,_,by omega,rfl,by go_num,Lib.hid ⟨by rw [HE.out ((sm : Int) / 16777216) (by clear HA HV; simp; omega)]; exact HV,HA.out.2⟩⟩
     case measure=>first | (simp [intOf]; done) | (simp [intOf]; omega)
  · obtain rfl : i = 4:=by omega
    go_wp2_with fail
    go_ret
    exact ⟨Ao,co,rfl,H.out.1,H.out.2⟩
set_option maxRecDepth 100000 in
theorem b7W (k : Int) (w : World) :
    Calls Tryz.prog 186 #[.int .i64 k] w (λ e w'=>e = .returned (.func (.func 232) #[] #[.pointer (some ⟨w.heap.size,0,none⟩)]) /\ w' = w.alloc (.cells #[.int .i64 k] 27)):=by
 have hmf : ∀ (fn : Fn) (first cap : Array Value) (w : World),(Instr.makeFunc fn first cap).run Tryz.prog w = .ok (.func fn first cap) w:=λ _ _ _ _=>rfl
 go_enter Tryz.func186,Tryz.ntmps186
 go_wp2_with fail
 go_ret
 exact ⟨rfl,rfl⟩
set_option maxRecDepth 100000 in
theorem b7X (k : Int) (q : Nat) (A : Option Addr) (n c : Nat) (l : Bool) (w : World) (hq : w.heap[q]? = some (.cells #[.int .i64 k] 27 (0,0))) :
    Calls Tryz.prog 232 #[.slice A n c,.bool l,.pointer (some ⟨q,0,none⟩)] w (λ e w'=>e = .returned (.tuple #[.slice none 0 0,.int .i64 k]) /\ Below w.heap.size w w'):=by
 have hc : w.cell? ⟨q,0,none⟩ = some (.int .i64 k):=(a0a hq 0).trans rfl
 go_enter Tryz.func232,Tryz.ntmps232
 go_wp2_with fail
 go_quiet (fail)
 all_goals
  go_wp2_with fail
  go_ret2
  exact ⟨rfl,a0b (Below.refl _ _) _⟩
def d0d (p ph : Nat) (k : Int) (nx : Value) (W : World) : Prop:=
 (ph = 0 /\ nx = .func (.func 98) #[.pointer (some ⟨p,0,none⟩)] #[]) \/
 (ph = 1 /\ nx = .func (.func 140) #[.pointer (some ⟨p,0,none⟩)] #[]) \/
 (ph = 2 /\ ∃ q,q ≠ p /\ nx = .func (.func 232) #[] #[.pointer (some ⟨q,0,none⟩)] /\ W.heap[q]? = some (.cells #[.int .i64 k] 27 (0,0)))
def CompAt (p b0 L most : Nat) (x : List Int) (nx : Value) (W : World) : Prop:=
 ∃ (t : Nat) (Ar : Option Addr) (cr : Nat),CompC p L most x.length (a0S 0 x : Nat) (.pointer (some ⟨t,0,none⟩)) (.slice Ar (leftL L x).length cr) nx W /\ TabAt t 256 W /\ t < p /\ BSl W Ar cr (leftL L x) /\ Above b0 Ar (leftL L x) /\ p < b0
def DoneAt (p : Nat) (L : Int) (n : Nat) (k : Int) (W : World) : Prop:=
 ∃ (b c tb r nx : Value),W.heap[p]? = some (.cells #[.int .i64 L,b,.int .i64 n,c,tb,r,nx] 125 (0,0)) /\ d0d p 2 k nx W
theorem DoneAt.mk_ {p n q : Nat} {k L most sm : Int} {tb r : Value} {W : World} (h : CompC p L most (n : Int) sm tb r (.func (.func 232) #[] #[.pointer (some ⟨q,0,none⟩)]) W) (hq : q ≠ p) (hk : W.heap[q]? = some (.cells #[.int .i64 k] 27 (0,0))) : DoneAt p L n k W:=
 ⟨_,_,_,_,_,h,.inr (.inr ⟨rfl,q,hq,rfl,hk⟩)⟩
set_option maxRecDepth 100000 in
set_option maxHeartbeats 1000000 in
theorem b7Y (p b0 L most : Nat) (x : List Int) (nx : Value) (A : Option Addr) (n c : Nat) (l : Bool) (w : World) (h : CompAt p b0 L most x nx w) (hn : most < x.length + n) (hm : most <= 1073741824 /\ x.length <= 1073741824) :
    Calls Tryz.prog 140 #[.pointer (some ⟨p,0,none⟩),.slice A n c,.bool l] w (λ e w'=>e = .returned (.tuple #[.slice none 0 0,.int .i64 6]) /\ DoneAt p L x.length 6 w' /\ Only (λ k=>k = p) w w'):=by
 obtain ⟨t,Ar,cr,hk,-⟩:=h
 have HK:=Lib.hid hk
 have HP:=a0f hk
 obtain ⟨⟨c0,c1,c2,c3,c4,c5,c6⟩,f0,f1,f2,f3,f4,f5,f6⟩:=cell7 hk
 have hw1 : IntKind.i64.wrap ((most : Int) - (x.length : Int)) = (most : Int) - (x.length : Int):=i64_in _ (by omega)
 have hd : decide ((most : Int) - (x.length : Int) < (n : Int)) = true:=decide_eq_true (by omega)
 have hf6 : ∀ (m : Nat) (o : Obj),((w.drewN m).alloc o).frozen? ⟨p,6,none⟩ = false:=λ m o=>a4s ((a0b (Below.refl _ _) m).alloc (Nat.le_refl _) o) c6 f6
 have hc6 : ∀ (m : Nat) (o : Obj),((w.drewN m).alloc o).cell? ⟨p,6,none⟩ = some nx:=λ m o=>a0s ((a0b (Below.refl _ _) m).alloc (Nat.le_refl _) o) c6
 clear hk
 go_enter Tryz.func140,Tryz.ntmps140
 go_wp2_with fail
 go_quiet (fail)
 all_goals
  go_wp2_with fail
  refine (b7W 6 _).mono ?_
  rintro e w1 ⟨rfl,rfl⟩
  go_wp2_with fail
  go_ret2
  refine ⟨rfl,DoneAt.mk_ (q:=w.heap.size) ((a0n (a0i (a0g HK.out (a0b (Below.refl _ _) _)) _) 6 _).trans rfl) (by omega) (a1p (a0k _ _) (p:=⟨p,6,none⟩) (by show w.heap.size ≠ p; omega) _),(((Only.refl (λ k=>k = p) w).drewN _).alloc _).setCell (p:=⟨p,6,none⟩) rfl _⟩
theorem d0e {W : World} {B n c : Nat} {A : Option Addr} {xs : List Int} (h : (Kd.int .u8).R 5 W B (λ _=>True) (.slice A n c) xs) : Above B A xs:=by
 intro _ ad ha
 subst ha
 exact ((Kd.R_bound h).1 ad.block rfl).2.1
def CTakePost (p L most : Nat) (x b : List Int) (nx : Value) (l : Bool) (y : List Int) (w : World) (e : Ending) (w' : World) : Prop:=
 ∃ A c,e = .returned (.tuple #[.slice A y.length c,.int .i64 0]) /\ (Kd.int .u8).R 5 w' w.heap.size (λ _=>True) (.slice A y.length c) y /\ (l = false -> CompAt p w.heap.size L most (x ++ b) nx w') /\ (l = true -> DoneAt p L (x ++ b).length 18 w') /\ Only (λ k=>k = p) w w'
set_option maxRecDepth 100000 in
set_option maxHeartbeats 4000000 in
theorem b1e (p b0 L most : Nat) (x : List Int) (nx : Value) (A : Option Addr) (c : Nat) (b : List Int) (l : Bool) (w : World) (h : CompAt p b0 L most x nx w) (hb : BSl w A c b) (hap : Apart p A b) (hn : x.length + b.length <= most) (hm : most <= 1073741824) (hl : x.length + b.length <= 20000) (hL : 10 <= L /\ L <= 17) (hxb : Bytes x) :
    Calls Tryz.prog 140 #[.pointer (some ⟨p,0,none⟩),.slice A b.length c,.bool l] w (CTakePost p L most x b nx l (feedY L 1 x b l) w):=by
 obtain ⟨t,Ar,cr,hk,htab,htp,hrest,hrap0,hpb⟩:=h
 have hll:=a4w L x
 obtain ⟨r0,hr0⟩ : ∃ r0,r0 = leftL L x:=⟨_,rfl⟩
 rw [<- hr0] at hk hrest hrap0 hll
 have hrap:=hrap0.apart hpb
 obtain ⟨s0,hs0⟩ : ∃ s0,s0 = a0S 0 x:=⟨_,rfl⟩
 obtain ⟨s1,hs1⟩ : ∃ s1,s1 = a0S s0 b:=⟨_,rfl⟩
 have hs0l : s0 <= 4294967295:=by rw [hs0]; exact a5O _ _
 have hs1l : s1 < 4294967296:=by rw [hs1]; have:=a5O s0 b; omega
 have HCrc:=Lib.hid (show a0S 0 (x ++ b) = s1 by rw [hs1,hs0]; exact c3M (by decide) hxb)
 rw [<- hs0] at hk
 obtain ⟨⟨c0,c1,c2,c3,c4,c5,c6⟩,f0,f1,f2,f3,f4,f5,f6⟩:=cell7 hk
 have hwa : IntKind.i64.wrap ((most : Int) - (x.length : Int)) = (most : Int) - (x.length : Int):=i64_in _ (by omega)
 have hwb : IntKind.i64.wrap ((x.length : Int) + (b.length : Int)) = (x.length : Int) + (b.length : Int):=i64_in _ (by omega)
 have hd : decide ((most : Int) - (x.length : Int) < (b.length : Int)) = false:=decide_eq_false (by omega)
 have H0:=Lib.hid (And.intro hk (And.intro htab (And.intro htp (And.intro hrest (And.intro hrap (And.intro hb (And.intro hap (And.intro hll hs1))))))))
 have HR0:=Lib.hid hr0
 clear hk htab htp hrest hrap0 hpb hrap hb hap hll hs0 hs1 hr0 hxb
 go_enter Tryz.func140,Tryz.ntmps140
 go_wp2_with fail
 go_quiet (fail)
 go_wp2_with fail
 obtain ⟨w1,hw1⟩ : ∃ w1,w1 = (w.drewN nq).setCell ⟨p,2,none⟩ (.int .i64 ((x.length : Int) + (b.length : Int))):=⟨_,rfl⟩
 rw [<- hw1]
 have ho1 : Only (λ k=>k = p) w w1:=by rw [hw1]; exact ((Only.refl (λ k=>k = p) w).drewN nq).setCell (p:=⟨p,2,none⟩) rfl _
 have hk1 : CompC p L most ((x.length : Int) + (b.length : Int)) s0 (.pointer (some ⟨t,0,none⟩)) (.slice Ar r0.length cr) nx w1:=by rw [hw1]; exact (a0n (a0g H0.out.1 (a0b (Below.refl _ _) nq)) 2 _).trans rfl
 have ht1 : TabAt t 256 w1:=(ho1.block t (a0f H0.out.2.1) (by have:=H0.out.2.2.1; omega)).trans H0.out.2.1
 have hb1:=H0.out.2.2.2.2.2.1.only ho1 H0.out.2.2.2.2.2.2.1
 have HAd : Hid (∀ W : World,SLater w1 W -> Calls Tryz.prog 134 #[.pointer (some ⟨t,0,none⟩),.int .u32 s0,.slice A b.length c] W (λ e W'=>e = .returned (.int .u32 s1) /\ W = W')):=Lib.hid (λ W hW=>by
  have h2:=b6g t s0 A c b W (ht1.later hW) hs0l (Kd.C_below hb1.row hW) (by omega) hb1.by'
  rw [<- H0.out.2.2.2.2.2.2.2.2] at h2
  exact h2)
 clear c0 c1 c2 c3 c4 c5 c6 f0 f1 f2 f3 f4 f5 f6
 obtain ⟨⟨c0,c1,c2,c3,c4,c5,c6⟩,f0,f1,f2,f3,f4,f5,f6⟩:=cell7 hk1
 have s0' : SLater w1 w1:=Below.refl _ _
 have H1:=Lib.hid (And.intro ho1 (And.intro hk1 ht1))
 clear hw1 ho1 hk1 ht1 hb1
 go_cut [] (λ wx=>Hid (∃ W,SLater w1 W /\ SLater (W.setCell ⟨p,3,none⟩ (.int .u32 s1)) wx))
 case first=>
  go_region_law (go_simp; go_at_call 134; refine (HAd.out _ (by first | assumption | exact SLater.drew ‹_›)).mono ?_; rintro e w' ⟨rfl,rfl⟩)
  all_goals
   go_wp2_with fail
   go_meet
   first | exact Lib.hid ⟨w1,Below.refl _ _,Below.refl _ _⟩ | exact Lib.hid ⟨w1,Below.refl _ _,(Below.refl _ _).drew⟩ | exact Lib.hid ⟨w1,Below.refl _ _,(Below.refl _ _).drew.drew⟩
 case rest=>
  obtain ⟨W,hW,hB⟩:=hcut.out
  have hoW : Only (λ k=>k = p) w W:=H1.out.1.trans (Only.of_below hW)
  have ho2 : Only (λ k=>k = p) w wc:=(hoW.setCell (p:=⟨p,3,none⟩) rfl (.int .u32 s1)).trans (Only.of_below hB)
  have hk2 : CompC p L most ((x.length : Int) + (b.length : Int)) s1 (.pointer (some ⟨t,0,none⟩)) (.slice Ar r0.length cr) nx wc:=a0g ((a0n (a0g H1.out.2.1 hW) 3 _).trans rfl) hB
  have hp2 : p < wc.heap.size:=a0f hk2
  have ht2 : TabAt t 256 wc:=(ho2.block t (a0f H0.out.2.1) (by have:=H0.out.2.2.1; omega)).trans H0.out.2.1
  have hrest2:=H0.out.2.2.2.1.only ho2 H0.out.2.2.2.2.1
  have hb2:=H0.out.2.2.2.2.2.1.only ho2 H0.out.2.2.2.2.2.2.1
  have HE0 : Hid ((Kd.int .u8).R 5 (wc.alloc (.cells #[] 5)) wc.heap.size (λ _=>True) (.slice (some ⟨wc.heap.size,0,none⟩) 0 0) []):=a2E .u8 5 wc wc.heap.size (λ _=>True) trivial (Nat.le_refl _) [] (by decide)
  have HB0 : Hid (Below wc.heap.size wc (wc.alloc (.cells #[] 5))):=(Below.refl _ _).alloc (Nat.le_refl _) _
  have HRow0 : Hid ((Kd.int .u8).C (wc.alloc (.cells #[] 5)) Ar r0.length r0):=Kd.C_alloc hrest2.row _
  have HL1 : Hid (([] : List Int).length + r0.length <= 140737488355328):=Lib.hid (by simp; have:=H0.out.2.2.2.2.2.2.2.1; omega)
  have HL2 : Hid (r0.length + b.length <= 140737488355328):=Lib.hid (by have:=H0.out.2.2.2.2.2.2.2.1; omega)
  have hcA : ∀ o : Obj,(wc.alloc o).cell? ⟨p,5,none⟩ = some (.slice Ar r0.length cr):=λ o=>a0s ((Below.refl _ _).alloc (Nat.le_refl _) o) (cell7 hk2).1.2.2.2.2.2.1
  have HK:=Lib.hid (And.intro hk2 (And.intro ho2 (And.intro ht2 (And.intro hb2 hp2))))
  clear hoW ho2 hk2 hp2 ht2 hrest2 hb2 hW hB hcut c0 c1 c2 c3 c4 c5 c6 f0 f1 f2 f3 f4 f5 f6
  go_wp2_with (at_builtin; first
   | (refine app8 rfl rfl rfl rfl HE0 HRow0 HB0 HB0.out.size HL1 ?_
      intro A4 c4 w4 hr4 hb4 _
      rw [List.nil_append] at hr4
      have e4 : ([] : List Int).length + r0.length = r0.length:=by simp
      rw [e4] at hr4 ⊢
      have HO4:=Lib.hid hr4
      have HB4:=Lib.hid hb4
      have HC4:=Lib.hid (Kd.C_below HK.out.2.2.2.1.row hb4)
      have hk4:=a0g HK.out.1 hb4
      obtain ⟨⟨c0,c1,c2,c3,c4',c5,c6⟩,f0,f1,f2,f3,f4,f5,f6⟩:=cell7 hk4
      clear hr4 hb4 hk4 e4)
   | (refine app8 rfl rfl rfl rfl HO4 HC4 HB4 HB4.out.size HL2 ?_
      intro A5 e5 w5 hr5 hb5 _
      have HR5:=Lib.hid (And.intro hr5 hb5)
      have hk5:=a0g HK.out.1 hb5
      clear c0 c1 c2 c3 c4' c5 c6 f0 f1 f2 f3 f4 f5 f6
      obtain ⟨⟨c0,c1,c2,c3,c4',c5,c6⟩,f0,f1,f2,f3,f4,f5,f6⟩:=cell7 hk5
      clear hr5 hb5 hk5))
  obtain ⟨w6,hw6⟩ : ∃ w6,w6 = w5.setCell ⟨p,5,none⟩ (.slice A5 (r0.length + b.length) e5):=⟨_,rfl⟩
  rw [<- hw6]
  clear c0 c1 c2 c3 c4' c5 c6 f0 f1 f2 f3 f4 f5 f6
  have hle0 : w.heap.size <= wc.heap.size:=HK.out.2.1.size
  have ho5 : Only (λ k=>k = p) w w5:=HK.out.2.1.behind HR5.out.2 hle0
  have hs56 : Only (λ k=>k = p) w5 w6:=by rw [hw6]; exact (Only.refl (λ k=>k = p) w5).setCell (p:=⟨p,5,none⟩) rfl _
  have ho6:=ho5.trans hs56
  have hk6 : CompC p L most ((x.length : Int) + (b.length : Int)) s1 (.pointer (some ⟨t,0,none⟩)) (.slice A5 (r0 ++ b).length e5) nx w6:=by rw [hw6,List.length_append]; exact (a0n (a0g HK.out.1 HR5.out.2) 5 _).trans rfl
  have hab : Above wc.heap.size A5 (r0 ++ b):=d0e HR5.out.1
  have hS6 : BSl w6 A5 e5 (r0 ++ b):=(BSl.of HR5.out.1 (a1K H0.out.2.2.2.1.by' HK.out.2.2.2.1.by')).only hs56 (hab.apart HK.out.2.2.2.2)
  have HBl:=d0b p wc.heap.size L most ((x.length : Int) + (b.length : Int)) s1 (.pointer (some ⟨t,0,none⟩)) nx A5 e5 (r0 ++ b) w6 hk6 hS6 hab HK.out.2.2.2.2 (by rw [List.length_append]; have:=H0.out.2.2.2.2.2.2.2.1; omega) hL
  have hg:=b0W L x b
  rw [<- HR0.out] at hg
  rw [<- hg.2] at HBl
  have HY : Hid (feedY L 1 x b l = fullL (2 ^ L) (r0 ++ b).length (r0 ++ b) ++ (if l = true then putM (leftL L (x ++ b)) true ++ tailL (x ++ b) else [])):=Lib.hid (by unfold feedY; rw [if_neg (by decide),List.nil_append,HR0.out])
  have hYl:=b0Z (s:=2 ^ L) (r0 ++ b).length (r0 ++ b)
  have hrl : (r0 ++ b).length <= 40000:=by rw [List.length_append]; have:=H0.out.2.2.2.2.2.2.2.1; omega
  have hql:=a4w L (x ++ b)
  rw [List.length_append] at hql
  obtain ⟨Y,hY⟩ : ∃ Y,Y = fullL (2 ^ L) (r0 ++ b).length (r0 ++ b):=⟨_,rfl⟩
  obtain ⟨q,hq⟩ : ∃ q,q = leftL L (x ++ b):=⟨_,rfl⟩
  rw [<- hY,<- hq] at HBl
  rw [<- hY,<- hq] at HY
  rw [<- hY] at hYl
  rw [<- hq] at hql
  have hYl2 : Y.length <= 1000000:=by omega
  have HBl:=Lib.hid HBl
  have H6:=Lib.hid (And.intro ho6 (And.intro hle0 hq))
  have ht6 : TabAt t 256 w6:=(hs56.block t (by have:=a0f HK.out.2.2.1; have:=HR5.out.2.size; omega) (by have:=H0.out.2.2.1; omega)).trans ((HR5.out.2.block t (a0f HK.out.2.2.1)).trans HK.out.2.2.1)
  have HT6:=Lib.hid ht6
  have hxb : ((x ++ b).length : Int) = (x.length : Int) + (b.length : Int):=by rw [List.length_append]; omega
  clear hw6 ho5 hs56 ho6 hk6 hab hS6 hg hY hq hYl hrl ht6
  refine HBl.out.mono ?_
  rintro e w7 ⟨A7,c7,A8,c8,rfl,hr7,hk7,hS7,hab7,ho7⟩
  have H7:=Lib.hid (And.intro hr7 (And.intro hk7 (And.intro hS7 (And.intro hab7 ho7))))
  have hle6 : w.heap.size <= w6.heap.size:=H6.out.1.size
  clear hr7 hk7 hS7 hab7 ho7
  have ho67:=H6.out.1.trans H7.out.2.2.2.2
  cases l with
  | false=>
   have HO:=Lib.hid ho67
   clear ho67
   go_wp2_with fail
   go_ret2
   have hYf : feedY L 1 x b false = Y:=by rw [HY.out,if_neg (by decide),List.append_nil]
   rw [hYf]
   refine ⟨A7,c7,rfl,Kd.R_lower H7.out.1 hle6,λ _=>?_,(λ h=>by cases h),HO.out⟩
   refine ⟨t,A8,c8,?_,(H7.out.2.2.2.2.block t (a0f HT6.out) (by have:=H0.out.2.2.1; omega)).trans HT6.out,H0.out.2.2.1,by rw [<- H6.out.2.2]; exact H7.out.2.2.1,λ hn ad h0=>by rw [<- H6.out.2.2] at hn; exact Nat.le_trans H6.out.2.1 (H7.out.2.2.2.1 hn ad h0),a0f H0.out.1⟩
   rw [hxb,HCrc.out,<- H6.out.2.2]
   exact H7.out.2.1
  | true=>
   have hk8 : ∀ o : Obj,CompC p L most ((x.length : Int) + (b.length : Int)) s1 (.pointer (some ⟨t,0,none⟩)) (.slice A8 q.length c8) nx (w7.alloc o):=λ o=>a0i H7.out.2.1 o
   have hc6 : ∀ o : Obj,(w7.alloc o).cell? ⟨p,6,none⟩ = some nx:=λ o=>(cell7 (hk8 o)).1.2.2.2.2.2.2
   have hf6 : ∀ o : Obj,(w7.alloc o).frozen? ⟨p,6,none⟩ = false:=λ o=>(cell7 (hk8 o)).2.2.2.2.2.2.2
   have HO:=Lib.hid (And.intro ho67 hk8)
   clear ho67 hk8
   go_wp2_with fail
   refine (b7W 18 w7).mono ?_
   rintro e w8 ⟨rfl,rfl⟩
   go_wp2_with fail
   obtain ⟨w9,hw9⟩ : ∃ w9,w9 = (w7.alloc (.cells #[.int .i64 18] 27)).setCell ⟨p,6,none⟩ (.func (.func 232) #[] #[.pointer (some ⟨w7.heap.size,0,none⟩)]):=⟨_,rfl⟩
   rw [<- hw9]
   have hk9 : CompC p L most ((x.length : Int) + (b.length : Int)) s1 (.pointer (some ⟨t,0,none⟩)) (.slice A8 q.length c8) (.func (.func 232) #[] #[.pointer (some ⟨w7.heap.size,0,none⟩)]) w9:=by rw [hw9]; exact (a0n (HO.out.2 _) 6 _).trans rfl
   have ho79 : Only (λ k=>k = p) w7 w9:=by rw [hw9]; exact ((Only.refl (λ k=>k = p) w7).alloc _).setCell (p:=⟨p,6,none⟩) rfl _
   have hq9 : w9.heap[w7.heap.size]? = some (.cells #[.int .i64 18] 27 (0,0)):=by rw [hw9]; exact a1p (a0k _ _) (p:=⟨p,6,none⟩) (by show w7.heap.size ≠ p; have:=a0f H7.out.2.1; omega) _
   have hp6 : p < w6.heap.size:=by have:=a0f H0.out.1; omega
   have hS9:=H7.out.2.2.1.only ho79 (H7.out.2.2.2.1.apart HK.out.2.2.2.2)
   have HEn:=Lib.hid (d0c p L most ((x.length : Int) + (b.length : Int)) s1 _ _ A8 c8 q w9 hk9 hS9 (by omega) hs1l)
   have hpl:=a0T q true
   have hbl:=a2H q
   obtain ⟨z,hz⟩ : ∃ z,z = putM q true:=⟨_,rfl⟩
   rw [<- hz] at HEn hpl
   have H9:=Lib.hid (And.intro hk9 (And.intro ho79 (And.intro hq9 (And.intro hp6 hz))))
   have HZ : Hid (Y.length + (z.length + 4) <= 140737488355328):=Lib.hid (by omega)
   clear hw9 hk9 ho79 hq9 hp6 hS9 hpl hbl hz hc6 hf6
   refine HEn.out.mono ?_
   rintro e w10 ⟨A10,c10,rfl,hr10,hb10⟩
   have HO10 : Hid ((Kd.int .u8).R 5 w10 w6.heap.size (λ _=>True) (.slice A7 Y.length c7) Y):=Lib.hid (Kd.R_below (a3l H7.out.1 H9.out.2.1 (λ k hk h=>by have:=H9.out.2.2.2.1; omega)) hb10)
   have HC10 : Hid ((Kd.int .u8).C w10 A10 (z.length + 4) (z ++ leN s1 4)):=Lib.hid (by have:=(Kd.R_reads' hr10).2.2; rw [List.length_append,a1T] at this; exact this)
   have HB10 : Hid (Below w6.heap.size w10 w10):=Lib.hid (Below.refl _ _)
   have HS10 : Hid (w6.heap.size <= w10.heap.size):=Lib.hid (Nat.le_trans H7.out.2.2.2.2.size (Nat.le_trans H9.out.2.1.size hb10.size))
   have HBt:=Lib.hid hb10
   have HOb : Hid (∀ k,(Value.slice A7 Y.length c7).ownBlock = some k -> k < w7.heap.size /\ w6.heap.size <= k):=Lib.hid (λ k hk=>by have:=((Kd.R_bound H7.out.1).1 k hk).2; exact ⟨this.2.1,this.1⟩)
   clear hr10 hb10
   go_wp2_with (at_builtin; refine app8 rfl rfl rfl rfl HO10 HC10 HB10 HS10.out HZ ?_; intro A11 c11 w11 hr11 hb11 hg11; have HR11:=Lib.hid (And.intro hr11 (And.intro hb11 hg11)); clear hr11 hb11 hg11)
   go_ret2
   have hYt : feedY L 1 x b true = Y ++ (z ++ leN s1 4):=by rw [HY.out,if_pos trivial,H9.out.2.2.2.2]; unfold tailL; rw [HCrc.out]
   have hlen : (feedY L 1 x b true).length = Y.length + (z.length + 4):=by rw [hYt,List.length_append,List.length_append,a1T]
   have hk11:=(HR11.out.2.1.block p H9.out.2.2.2.1).trans (a0g H9.out.1 HBt.out)
   have hq11:=a0W (a0g H9.out.2.2.1 HBt.out) HR11.out.2.2 (λ e=>by have:=(HOb.out _ e.symm).1; omega)
   refine ⟨A11,c11,?_,by rw [hlen,hYt]; exact Kd.R_lower HR11.out.1 hle6,(λ h=>by cases h),λ _=>?_,?_⟩
   · rw [hlen]; rfl
   · have hk12 : CompC p L most (((x ++ b).length : Nat) : Int) s1 (.pointer (some ⟨t,0,none⟩)) (.slice A8 q.length c8) (.func (.func 232) #[] #[.pointer (some ⟨w7.heap.size,0,none⟩)]) w11:=by rw [hxb]; exact hk11
     exact DoneAt.mk_ hk12 (by have:=a0f H7.out.2.1; omega) hq11
   · exact ((HO.out.1.trans H9.out.2.1).trans (Only.of_below HBt.out)).behind HR11.out.2.1 hle6
def bgV (p : Nat) : Value:=.func (.func 98) #[.pointer (some ⟨p,0,none⟩)] #[]
def tkV (p : Nat) : Value:=.func (.func 140) #[.pointer (some ⟨p,0,none⟩)] #[]
theorem CompAt.next {p b0 L most : Nat} {x : List Int} {nx : Value} {W : World} (h : CompAt p b0 L most x nx W) (v : Value) : CompAt p b0 L most x v (W.setCell ⟨p,6,none⟩ v):=by
 obtain ⟨t,Ar,cr,hk,ht,htp,hr,ha,hpb⟩:=h
 have ho : Only (λ k=>k = p) W (W.setCell ⟨p,6,none⟩ v):=(Only.refl (λ k=>k = p) W).setCell (p:=⟨p,6,none⟩) rfl _
 exact ⟨t,Ar,cr,(a0n hk 6 _).trans rfl,(ho.block t (a0f ht) (by omega)).trans ht,htp,hr.only ho (ha.apart hpb),ha,hpb⟩
theorem CompAt.cells {p b0 L most : Nat} {x : List Int} {nx : Value} {W : World} (h : CompAt p b0 L most x nx W) : (W.cell? ⟨p,0,none⟩ = some (.int .i64 L) /\ W.cell? ⟨p,2,none⟩ = some (.int .i64 x.length) /\ W.cell? ⟨p,6,none⟩ = some nx) /\ W.frozen? ⟨p,6,none⟩ = false /\ p < W.heap.size:=by
 obtain ⟨t,Ar,cr,hk,-⟩:=h
 obtain ⟨⟨c0,c1,c2,c3,c4,c5,c6⟩,f0,f1,f2,f3,f4,f5,f6⟩:=cell7 hk
 exact ⟨⟨c0,c2,c6⟩,f6,a0f hk⟩
theorem CompAt.below {p b0 L most : Nat} {x : List Int} {nx : Value} {W W' : World} (h : CompAt p b0 L most x nx W) (hb : Below W.heap.size W W') : CompAt p b0 L most x nx W':=by
 obtain ⟨t,Ar,cr,hk,ht,htp,hr,ha,hpb⟩:=h
 exact ⟨t,Ar,cr,a0g hk hb,a0g ht hb,htp,hr.below hb,ha,hpb⟩
theorem CompAt.low {p b0 b1 L most : Nat} {x : List Int} {nx : Value} {W : World} (h : CompAt p b0 L most x nx W) (hb : b1 <= b0) (hp : p < b1) : CompAt p b1 L most x nx W:=by
 obtain ⟨t,Ar,cr,hk,ht,htp,hr,ha,hpb⟩:=h
 exact ⟨t,Ar,cr,hk,ht,htp,hr,λ hn ad h0=>Nat.le_trans hb (ha hn ad h0),hp⟩
theorem CompAt.grown {p b0 L most : Nat} {x : List Int} {nx : Value} {W W' : World} {row : Option Nat} (h : CompAt p b0 L most x nx W) (hg : W.grownBy W' row) (hr0 : ∀ k,row = some k -> p < k /\ k < b0) : CompAt p b0 L most x nx W':=by
 obtain ⟨t,Ar,cr,hk,ht,htp,hr,ha,hpb⟩:=h
 have hne : ∀ k,k <= p \/ b0 <= k -> some k ≠ row:=λ k hk e=>by have:=hr0 k e.symm; omega
 exact ⟨t,Ar,cr,a0W hk hg (hne p (by omega)),a0W ht hg (hne t (by omega)),htp,
  ⟨a6G hr.row (λ hn ad h0=>hg.block _ (a8M hr.row hn h0) (hne _ (.inr (ha hn ad h0)))),hr.cap,hr.nil,hr.by'⟩,ha,hpb⟩
theorem DoneAt.below {p n : Nat} {L k : Int} {W W' : World} (h : DoneAt p L n k W) (hb : Below W.heap.size W W') : DoneAt p L n k W':=by
 obtain ⟨b,c,tb,r,nx,hk,hn⟩:=h
 refine ⟨b,c,tb,r,nx,a0g hk hb,?_⟩
 rcases hn with ⟨h,_⟩ | ⟨h,_⟩ | ⟨_,q,hq,e,hc⟩
 · omega
 · omega
 · exact .inr (.inr ⟨rfl,q,hq,e,a0g hc hb⟩)
set_option maxRecDepth 100000 in
set_option maxHeartbeats 1000000 in
theorem b7Z (p b0 L most : Nat) (A : Option Addr) (c : Nat) (b : List Int) (l : Bool) (nx : Value) (w : World) (h : CompAt p b0 L most [] nx w) (hb : BSl w A c b) (hap : Apart p A b) (hn : b.length <= most) (hm : most <= 1073741824) (hl : b.length <= 20000) (hL : 10 <= L /\ L <= 17) :
    Calls Tryz.prog 98 #[.pointer (some ⟨p,0,none⟩),.slice A b.length c,.bool l] w (CTakePost p L most [] b (tkV p) l (feedY L 0 [] b l) w):=by
 have hmf : ∀ (fn : Fn) (first cap : Array Value) (w : World),(Instr.makeFunc fn first cap).run Tryz.prog w = .ok (.func fn first cap) w:=λ _ _ _ _=>rfl
 obtain ⟨⟨c0,c2,c6⟩,f6,hp⟩:=h.cells
 obtain ⟨w1,hw1⟩ : ∃ w1,w1 = w.setCell ⟨p,6,none⟩ (tkV p):=⟨_,rfl⟩
 have h1 : CompAt p b0 L most [] (tkV p) w1:=by rw [hw1]; exact h.next _
 have ho1 : Only (λ k=>k = p) w w1:=by rw [hw1]; exact (Only.refl (λ k=>k = p) w).setCell (p:=⟨p,6,none⟩) rfl _
 have HT:=Lib.hid (b1e p b0 L most [] (tkV p) A c b l w1 h1 (hb.only ho1 hap) hap (by simpa using hn) hm (by simpa using hl) hL (λ x hx=>by cases hx))
 obtain ⟨y,hy⟩ : ∃ y,y = feedY L 1 [] b l:=⟨_,rfl⟩
 have HY : Hid (feedY L 0 [] b l = headL L ++ y):=Lib.hid (by rw [hy]; rfl)
 have HYl : Hid (y.length <= 100000000):=Lib.hid (by rw [hy]; exact b7y (by simp; omega))
 rw [<- hy] at HT
 have HP:=Lib.hid (And.intro hp ho1)
 have HLL:=Lib.hid hL
 unfold tkV at hw1
 clear h h1 ho1 hb hap hy hn hm hl hp
 go_enter Tryz.func98,Tryz.ntmps98
 go_wp2_with fail
 rw [<- hw1]
 clear hw1 c0 c2 c6 f6
 refine HT.out.mono ?_
 rintro e w2 ⟨A2,c2,rfl,hr2,hc2,hd2,ho2⟩
 have hL2 : w2.cell? ⟨p,0,none⟩ = some (.int .i64 L):=by
  cases l with
  | false=>exact (hc2 rfl).cells.1.1
  | true=>
   obtain ⟨b',c',tb,r,nx',hk,hn⟩:=hd2 rfl
   exact (a0a hk 0).trans rfl
 have H2:=Lib.hid (And.intro hr2 (And.intro hc2 (And.intro hd2 ho2)))
 have HH:=Lib.hid (a8b L w2 HLL.out)
 clear hr2 hc2 hd2 ho2
 go_wp2_with fail
 refine HH.out.mono ?_
 rintro e w3 ⟨A3,c3,rfl,hr3,hb3⟩
 have HO3:=Lib.hid hr3
 have HC3:=Lib.hid (Kd.R_reads' (Kd.R_below H2.out.1 hb3)).2.2
 have HS3 : Hid (w2.heap.size <= w3.heap.size):=Lib.hid hb3.size
 have HB3:=Lib.hid hb3
 have HZ3 : Hid ((headL L).length + y.length <= 140737488355328):=Lib.hid (by rw [a3c]; have:=HYl.out; omega)
 clear hr3 hb3
 go_wp2_with (at_builtin; refine app8 rfl rfl rfl rfl HO3 HC3 HB3 HS3.out HZ3 ?_; intro A4 c4 w4 hr4 hb4 _; have HR4:=Lib.hid (And.intro hr4 hb4); clear hr4 hb4)
 go_ret2
 have ho4 : Only (λ k=>k = p) w w4:=(HP.out.2.trans H2.out.2.2.2).behind HR4.out.2 (Nat.le_trans HP.out.2.size H2.out.2.2.2.size)
 rw [HY.out]
 refine ⟨A4,c4,by rw [List.length_append]; rfl,?_,λ e=>((H2.out.2.1 e).below HR4.out.2).low HP.out.2.size HP.out.1,λ e=>(H2.out.2.2.1 e).below HR4.out.2,ho4⟩
 rw [List.length_append]
 exact Kd.R_lower HR4.out.1 (Nat.le_trans HP.out.2.size H2.out.2.2.2.size)
set_option maxRecDepth 100000 in
theorem d0f (p b0 L most : Nat) (nx : Value) (A : Option Addr) (n c : Nat) (l : Bool) (w : World) (h : CompAt p b0 L most [] nx w) (hn : most < n) (hm : most <= 1073741824) :
    Calls Tryz.prog 98 #[.pointer (some ⟨p,0,none⟩),.slice A n c,.bool l] w (λ e w'=>e = .returned (.tuple #[.slice none 0 0,.int .i64 6]) /\ DoneAt p L 0 6 w' /\ Only (λ k=>k = p) w w'):=by
 have hmf : ∀ (fn : Fn) (first cap : Array Value) (w : World),(Instr.makeFunc fn first cap).run Tryz.prog w = .ok (.func fn first cap) w:=λ _ _ _ _=>rfl
 obtain ⟨⟨c0,c2,c6⟩,f6,hp⟩:=h.cells
 obtain ⟨w1,hw1⟩ : ∃ w1,w1 = w.setCell ⟨p,6,none⟩ (tkV p):=⟨_,rfl⟩
 have h1 : CompAt p b0 L most [] (tkV p) w1:=by rw [hw1]; exact h.next _
 have HO:=Lib.hid (show Only (λ k=>k = p) w w1 by rw [hw1]; exact (Only.refl (λ k=>k = p) w).setCell (p:=⟨p,6,none⟩) rfl _)
 have HT:=Lib.hid (b7Y p b0 L most [] (tkV p) A n c l w1 h1 (by simpa using hn) ⟨hm,by simp⟩)
 unfold tkV at hw1
 clear h h1 hn hm hp
 go_enter Tryz.func98,Tryz.ntmps98
 go_wp2_with fail
 rw [<- hw1]
 clear hw1 c0 c2 c6 f6
 refine HT.out.mono ?_
 rintro e w2 ⟨rfl,hd,ho⟩
 have H2:=Lib.hid (And.intro hd ho)
 clear hd ho
 go_wp2_with fail
 go_ret2
 exact ⟨rfl,H2.out.1,HO.out.trans H2.out.2⟩
def PushSt (p b0 L most ph : Nat) (x : List Int) (W : World) : Prop:=(ph = 0 /\ x = [] /\ CompAt p b0 L most [] (bgV p) W) \/ (ph = 1 /\ CompAt p b0 L most x (tkV p) W)
def a8f (p L most : Nat) (x b : List Int) (l : Bool) (y : List Int) (w : World) (e : Ending) (w' : World) : Prop:=
 ∃ A c,e = .returned (.tuple #[.slice A y.length c,.int .i64 0]) /\ (Kd.int .u8).R 5 w' w.heap.size (λ _=>True) (.slice A y.length c) y /\ (l = false -> PushSt p w.heap.size L most 1 (x ++ b) w') /\ (l = true -> DoneAt p L (x ++ b).length 18 w') /\ Only (λ k=>k = p) w w'
theorem CTakePost.feed {p L most : Nat} {x b : List Int} {l : Bool} {y : List Int} {w w' : World} {e : Ending} (h : CTakePost p L most x b (tkV p) l y w e w') : a8f p L most x b l y w e w':=by
 obtain ⟨A,c,h1,h2,h3,h4,h5⟩:=h
 exact ⟨A,c,h1,h2,λ e=>.inr ⟨rfl,h3 e⟩,h4,h5⟩
set_option maxRecDepth 100000 in
theorem b1f (p b0 L most ph : Nat) (x : List Int) (A : Option Addr) (c : Nat) (b : List Int) (w : World) (h : PushSt p b0 L most ph x w) (hb : BSl w A c b) (hap : Apart p A b) (hn : x.length + b.length <= most) (hm : most <= 1073741824) (hl : x.length + b.length <= 20000) (hL : 10 <= L /\ L <= 17) (hxb : Bytes x) :
    Calls Tryz.prog 53 #[.pointer (some ⟨p,0,none⟩),.slice A b.length c] w (a8f p L most x b false (feedY L ph x b false) w):=by
 rcases h with ⟨rfl,rfl,h⟩ | ⟨rfl,h⟩
 · obtain ⟨⟨c0,c2,c6⟩,f6,hp⟩:=h.cells
   have HT:=Lib.hid (b7Z p b0 L most A c b false (bgV p) w h hb hap (by simpa using hn) hm (by simpa using hl) hL)
   unfold bgV at c6
   clear h hb hap hn hm hl hp
   go_enter Tryz.func53,Tryz.ntmps53
   go_wp2_with fail
   refine HT.out.mono ?_
   intro e w2 h2
   obtain ⟨A2,c2,rfl,h3⟩:=h2.feed
   have H3:=Lib.hid h3
   clear h2 h3
   go_wp2_with fail
   go_ret2
   exact ⟨A2,c2,rfl,H3.out.1,λ _=>H3.out.2.1 (by first | rfl | trivial),(λ h=>by cases h),H3.out.2.2.2⟩
 · obtain ⟨⟨c0,c2,c6⟩,f6,hp⟩:=h.cells
   have HT:=Lib.hid (b1e p b0 L most x (tkV p) A c b false w h hb hap hn hm hl hL hxb)
   unfold tkV at c6
   clear h hb hap hn hm hl hp hxb
   go_enter Tryz.func53,Tryz.ntmps53
   go_wp2_with fail
   refine HT.out.mono ?_
   intro e w2 h2
   obtain ⟨A2,c2,rfl,h3⟩:=h2.feed
   have H3:=Lib.hid h3
   clear h2 h3
   go_wp2_with fail
   go_ret2
   exact ⟨A2,c2,rfl,H3.out.1,λ _=>H3.out.2.1 (by first | rfl | trivial),(λ h=>by cases h),H3.out.2.2.2⟩
def d0g (p L n : Nat) (k : Int) (w : World) (e : Ending) (w' : World) : Prop:=e = .returned (.tuple #[.slice none 0 0,.int .i64 k]) /\ DoneAt p L n k w' /\ Only (λ k=>k = p) w w'
set_option maxRecDepth 100000 in
theorem d0h (p b0 L most ph : Nat) (x : List Int) (A : Option Addr) (n c : Nat) (w : World) (h : PushSt p b0 L most ph x w) (hn : most < x.length + n) (hm : most <= 1073741824 /\ x.length <= 1073741824) :
    Calls Tryz.prog 53 #[.pointer (some ⟨p,0,none⟩),.slice A n c] w (d0g p L x.length 6 w):=by
 rcases h with ⟨rfl,rfl,h⟩ | ⟨rfl,h⟩
 · obtain ⟨⟨c0,c2,c6⟩,f6,hp⟩:=h.cells
   have HT:=Lib.hid (d0f p b0 L most (bgV p) A n c false w h (by simpa using hn) hm.1)
   unfold bgV at c6
   clear h hn hm hp
   go_enter Tryz.func53,Tryz.ntmps53
   go_wp2_with fail
   refine HT.out.mono ?_
   rintro e w2 ⟨rfl,h2⟩
   have H2:=Lib.hid h2
   clear h2
   go_wp2_with fail
   go_ret2
   exact ⟨rfl,H2.out⟩
 · obtain ⟨⟨c0,c2,c6⟩,f6,hp⟩:=h.cells
   have HT:=Lib.hid (b7Y p b0 L most x (tkV p) A n c false w h hn hm)
   unfold tkV at c6
   clear h hn hm hp
   go_enter Tryz.func53,Tryz.ntmps53
   go_wp2_with fail
   refine HT.out.mono ?_
   rintro e w2 ⟨rfl,h2⟩
   have H2:=Lib.hid h2
   clear h2
   go_wp2_with fail
   go_ret2
   exact ⟨rfl,H2.out⟩
theorem DoneAt.cells {p n : Nat} {L k : Int} {w : World} (h : DoneAt p L n k w) : ∃ q,w.cell? ⟨p,6,none⟩ = some (.func (.func 232) #[] #[.pointer (some ⟨q,0,none⟩)]) /\ w.heap[q]? = some (.cells #[.int .i64 k] 27 (0,0)) /\ w.cell? ⟨p,2,none⟩ = some (.int .i64 n):=by
 obtain ⟨b,c,tb,r,nx,hk,hn⟩:=h
 obtain ⟨⟨c0,c1,c2,c3,c4,c5,c6⟩,-⟩:=cell7 hk
 rcases hn with ⟨h,_⟩ | ⟨h,_⟩ | ⟨_,q,hq,e,hc⟩
 · omega
 · omega
 · exact ⟨q,by rw [c6,e],hc,c2⟩
set_option maxRecDepth 100000 in
theorem b8a (p n m c : Nat) (L k : Int) (A : Option Addr) (w : World) (h : DoneAt p L n k w) :
    Calls Tryz.prog 53 #[.pointer (some ⟨p,0,none⟩),.slice A m c] w (λ e w'=>e = .returned (.tuple #[.slice none 0 0,.int .i64 k]) /\ Below w.heap.size w w'):=by
 obtain ⟨q,c6,hq,-⟩:=h.cells
 have HT:=Lib.hid (b7X k q A m c false w hq)
 clear h hq
 go_enter Tryz.func53,Tryz.ntmps53
 go_wp2_with fail
 refine HT.out.mono ?_
 rintro e w2 ⟨rfl,hb⟩
 have HB:=Lib.hid hb
 clear hb
 go_wp2_with fail
 go_ret2
 exact ⟨rfl,HB.out⟩
set_option maxRecDepth 100000 in
theorem d0i (p n : Nat) (L k : Int) (w : World) (h : DoneAt p L n k w) :
    Calls Tryz.prog 54 #[.pointer (some ⟨p,0,none⟩)] w (λ e w'=>e = .returned (.tuple #[.slice none 0 0,.int .i64 k]) /\ Below w.heap.size w w'):=by
 obtain ⟨q,c6,hq,-⟩:=h.cells
 have HT:=Lib.hid (b7X k q none 0 0 true w hq)
 clear h hq
 go_enter Tryz.func54,Tryz.ntmps54
 go_wp2_with fail
 refine HT.out.mono ?_
 rintro e w2 ⟨rfl,hb⟩
 have HB:=Lib.hid hb
 clear hb
 go_wp2_with fail
 go_ret2
 exact ⟨rfl,HB.out⟩
theorem BSl.none_ (w : World) : BSl w none 0 []:=⟨(Kd.R_reads' (Kd.R_nil (Kd.int .u8) 5 w w.heap.size (λ _=>True))).2.2,Nat.le_refl _,λ _=>rfl,λ x hx=>by cases hx⟩
set_option maxRecDepth 100000 in
theorem d0j (p b0 L most ph : Nat) (x : List Int) (w : World) (h : PushSt p b0 L most ph x w) (hn : x.length <= most) (hm : most <= 1073741824) (hl : x.length <= 20000) (hL : 10 <= L /\ L <= 17) (hxb : Bytes x) :
    Calls Tryz.prog 54 #[.pointer (some ⟨p,0,none⟩)] w (a8f p L most x [] true (feedY L ph x [] true) w):=by
 rcases h with ⟨rfl,rfl,h⟩ | ⟨rfl,h⟩
 · obtain ⟨⟨c0,c2,c6⟩,f6,hp⟩:=h.cells
   have HT:=Lib.hid (b7Z p b0 L most none 0 [] true (bgV p) w h (BSl.none_ w) (λ h=>absurd h (Nat.lt_irrefl 0)) (by simp) hm (by simp) hL)
   unfold bgV at c6
   clear h hn hm hl hp
   go_enter Tryz.func54,Tryz.ntmps54
   go_wp2_with fail
   refine HT.out.mono ?_
   intro e w2 h2
   obtain ⟨A2,c2,rfl,h3⟩:=h2.feed
   have H3:=Lib.hid h3
   clear h2 h3
   go_wp2_with fail
   go_ret2
   exact ⟨A2,c2,rfl,H3.out.1,(λ h=>by cases h),λ _=>H3.out.2.2.1 (by first | rfl | trivial),H3.out.2.2.2⟩
 · obtain ⟨⟨c0,c2,c6⟩,f6,hp⟩:=h.cells
   have HT:=Lib.hid (b1e p b0 L most x (tkV p) none 0 [] true w h (BSl.none_ w) (λ h=>absurd h (Nat.lt_irrefl 0)) (by simpa using hn) hm (by simpa using hl) hL hxb)
   unfold tkV at c6
   clear h hn hm hl hp hxb
   go_enter Tryz.func54,Tryz.ntmps54
   go_wp2_with fail
   refine HT.out.mono ?_
   intro e w2 h2
   obtain ⟨A2,c2,rfl,h3⟩:=h2.feed
   have H3:=Lib.hid h3
   clear h2 h3
   go_wp2_with fail
   go_ret2
   exact ⟨A2,c2,rfl,H3.out.1,(λ h=>by cases h),λ _=>H3.out.2.2.1 (by first | rfl | trivial),H3.out.2.2.2⟩
set_option maxRecDepth 100000 in
theorem b8b (p : Nat) (n : Int) (w : World) (h : w.cell? ⟨p,2,none⟩ = some (.int .i64 n)) :
    Calls Tryz.prog 55 #[.pointer (some ⟨p,0,none⟩)] w (λ e w'=>e = .returned (.int .i64 n) /\ w = w'):=by
 go_enter Tryz.func55,Tryz.ntmps55
 go_wp2_with fail
 go_ret
 exact ⟨rfl,rfl⟩
theorem PushSt.fed {p b0 L most ph : Nat} {x : List Int} {w : World} (h : PushSt p b0 L most ph x w) : w.cell? ⟨p,2,none⟩ = some (.int .i64 x.length):=by
 rcases h with ⟨rfl,rfl,h⟩ | ⟨rfl,h⟩
 · exact h.cells.1.2.1
 · exact h.cells.1.2.1
theorem PushSt.below {p b0 L most ph : Nat} {x : List Int} {w w' : World} (h : PushSt p b0 L most ph x w) (hb : Below w.heap.size w w') : PushSt p b0 L most ph x w':=by
 rcases h with ⟨e1,e2,h⟩ | ⟨e1,h⟩
 · exact .inl ⟨e1,e2,h.below hb⟩
 · exact .inr ⟨e1,h.below hb⟩
theorem PushSt.low {p b0 b1 L most ph : Nat} {x : List Int} {w : World} (h : PushSt p b0 L most ph x w) (hb : b1 <= b0) (hp : p < b1) : PushSt p b1 L most ph x w:=by
 rcases h with ⟨e1,e2,h⟩ | ⟨e1,h⟩
 · exact .inl ⟨e1,e2,h.low hb hp⟩
 · exact .inr ⟨e1,h.low hb hp⟩
theorem PushSt.grown {p b0 L most ph : Nat} {x : List Int} {w w' : World} {row : Option Nat} (h : PushSt p b0 L most ph x w) (hg : w.grownBy w' row) (hr : ∀ k,row = some k -> p < k /\ k < b0) : PushSt p b0 L most ph x w':=by
 rcases h with ⟨e1,e2,h⟩ | ⟨e1,h⟩
 · exact .inl ⟨e1,e2,h.grown hg hr⟩
 · exact .inr ⟨e1,h.grown hg hr⟩
theorem PushSt.lt {p b0 L most ph : Nat} {x : List Int} {w : World} (h : PushSt p b0 L most ph x w) : p < w.heap.size:=by
 rcases h with ⟨e1,e2,h⟩ | ⟨e1,h⟩
 · exact h.cells.2.2
 · exact h.cells.2.2
def d0k (L most : Nat) (w : World) (e : Ending) (w' : World) : Prop:=∃ p,e = .returned (.tuple #[.pointer (some ⟨p,0,none⟩),.int .i64 0]) /\ PushSt p (p + 1) L most 0 [] w' /\ w.heap.size <= p /\ Below w.heap.size w w'
set_option maxRecDepth 100000 in
set_option maxHeartbeats 1000000 in
theorem b8c (L most : Nat) (w : World) (hL : 10 <= L /\ L <= 17) (hm : most <= 1073741824) :
    Calls Tryz.prog 51 #[.int .i64 L,.int .i64 most] w (d0k L most w):=by
 have hmf : ∀ (fn : Fn) (first cap : Array Value) (w : World),(Instr.makeFunc fn first cap).run Tryz.prog w = .ok (.func fn first cap) w:=λ _ _ _ _=>rfl
 have d1 : decide ((most : Int) < 0) = false:=decide_eq_false (by omega)
 have d2 : decide ((1073741824 : Int) < (most : Int)) = false:=decide_eq_false (by omega)
 have HH:=Lib.hid (a8b L w hL)
 clear hL hm
 go_enter Tryz.func51,Tryz.ntmps51
 go_wp2_with fail
 refine HH.out.mono ?_
 rintro e w1 ⟨A1,c1,rfl,hr1,hb1⟩
 have HB1:=Lib.hid hb1
 clear hr1 hb1
 go_wp2_with fail
 refine (a4p w1).mono ?_
 rintro e w2 ⟨t,rfl,ht1,ht2,hb2⟩
 have H2:=Lib.hid (And.intro ht1 (And.intro ht2 hb2))
 clear ht1 ht2 hb2
 go_wp2_with fail
 go_ret2
 have hb3:=(Below.refl w2.heap.size w2).alloc (Nat.le_refl _) (.cells #[.int .i64 L,.int .i64 most,.int .i64 0,.int .u32 0,.pointer (some ⟨t,0,none⟩),.slice none 0 0,bgV w2.heap.size] 125)
 refine ⟨w2.heap.size,rfl,.inl ⟨rfl,rfl,t,none,0,?_,H2.out.2.1.later hb3,a0f H2.out.2.1,BSl.none_ _,λ h=>absurd h (Nat.lt_irrefl 0),Nat.lt_succ_self _⟩,Nat.le_trans HB1.out.size H2.out.2.2.size,a0h (a0h HB1.out H2.out.2.2) hb3⟩
 exact a0k w2 _
theorem OpenPost.out {r : Int × List Int × Nat × Bool} {w : World} {e : Ending} {w' : World} (h : OpenPost r w e w') (hy : Bytes r.2.1) : ∃ A c,e = .returned (.tuple #[.slice A r.2.1.length c,.int .i64 (r.2.2.1 : Nat),.bool r.2.2.2,.int .i64 r.1]) /\ BSl w' A c r.2.1 /\ Below w.heap.size w w':=by
 obtain ⟨A,c,he,hr,hb⟩:=h
 exact ⟨A,c,he,BSl.of hr hy,hb⟩
theorem b555 : Bytes [5,5,5]:=by intro x hx; simp at hx; omega
theorem b8d : bestP [5,5,5] = (1,[5]):=b7h b555 (by decide) (by decide)
theorem b8e : (putM [5,5,5] true).length = 12:=by rw [a0T,b8d]; rfl
theorem a8g {s n : Nat} {x : List Int} (h : x.length <= s) : fullL s n x = [] /\ endL s n x = x:=b7x (by omega) n
theorem b8f {L : Nat} {x : List Int} (h : x.length <= 2 ^ L) : leftL L x = x:=(a8g h).2
theorem d0p : feedY 10 0 [] [] false = [80,78,67,72,1,10,0,0]:=by
 unfold feedY
 rw [(a8g (by show 0 <= 2 ^ 10; exact Nat.zero_le _)).1]
 rfl
theorem d0q : feedY 10 1 [] [5,5,5] false = []:=by
 unfold feedY
 rw [(a8g (by show 3 <= 2 ^ 10; decide)).1]
 rfl
theorem d0r : (feedY 10 1 [5,5,5] [] true).length = 16:=by
 unfold feedY
 rw [b8f (by show 3 <= 2 ^ 10; decide),(a8g (by show 3 <= 2 ^ 10; decide)).1,List.append_nil,b8f (by show 3 <= 2 ^ 10; decide),if_pos rfl,if_neg (by decide),List.nil_append,List.nil_append,List.length_append,b8e,a1M]
theorem d0s (p : Nat) (A : Option Addr) : Apart p A []:=λ h=>absurd h (Nat.lt_irrefl 0)
theorem BSl.apart {w : World} {A : Option Addr} {c p : Nat} {x : List Int} (h : BSl w A c x) (hp : w.heap.size <= p) : Apart p A x:=λ hn ad ha=>by
 have:=a8M h.row hn ha; omega
set_option maxRecDepth 100000 in
set_option maxHeartbeats 2000000 in
theorem b8g (w : World) : Calls Tryz.prog 50 #[] w (Ret (.bool true) w):=by
 have HNew:=b8c 10 100 w (by decide) (by decide)
 rw [show ((10 : Nat) : Int) = 10 from rfl,show ((100 : Nat) : Int) = 100 from rfl] at HNew
 go_enter Tryz.func50,Tryz.ntmps50
 go_wp2_with fail
 refine HNew.mono ?_
 rintro e w1 ⟨p,rfl,hs1,hp1,hb1⟩
 have HF:=Lib.hid (b1f p (p + 1) 10 100 0 [] none 0 [] w1 hs1 (BSl.none_ w1) (d0s _ _) (by decide) (by decide) (by decide) (by decide) (λ x hx=>by cases hx))
 rw [d0p] at HF
 have H1:=Lib.hid (And.intro hp1 (And.intro hb1 hs1.lt))
 clear hs1 hp1 hb1 HNew
 go_wp2_with fail
 refine HF.out.mono ?_
 rintro e w2 ⟨A2,c2,rfl,hr2,hs2,-,ho2⟩
 obtain ⟨w3,hw3⟩ : ∃ w3,w3 = w2.alloc (.cells #[.int .u8 5,.int .u8 5,.int .u8 5] 5):=⟨_,rfl⟩
 have hb23 : Below w2.heap.size w2 w3:=by rw [hw3]; exact (Below.refl _ _).alloc (Nat.le_refl _) _
 have hS3 : BSl w3 (some ⟨w2.heap.size,0,none⟩) 3 [5,5,5]:=by rw [hw3]; exact a5d [5,5,5] b555 (by decide)
 have hs3:=(hs2 rfl).below hb23
 have HF2:=Lib.hid (b1f p w1.heap.size 10 100 1 ([] ++ []) (some ⟨w2.heap.size,0,none⟩) 3 [5,5,5] w3 hs3 hS3 (λ _ ad ha=>by injection ha with e; rw [<- e]; show w2.heap.size ≠ p; have:=(hs2 rfl).lt; omega) (by decide) (by decide) (by decide) (by decide) (λ x hx=>by cases hx))
 rw [show ([] ++ [] : List Int) = [] from rfl,d0q] at HF2
 have H3:=Lib.hid (And.intro (Kd.R_below hr2 hb23) (And.intro ho2 hb23))
 clear hr2 hs2 ho2 hb23 hS3 hs3
 go_wp2_with fail
 rw [<- hw3]
 clear hw3
 refine HF2.out.mono ?_
 rintro e w4 ⟨A4,c4,rfl,-,hs4,-,ho4⟩
 have HFi:=d0j p w3.heap.size 10 100 1 [5,5,5] w4 (hs4 rfl) (by decide) (by decide) (by decide) (by decide) b555
 have hyl:=d0r
 obtain ⟨y,hy⟩ : ∃ y,y = feedY 10 1 [5,5,5] [] true:=⟨_,rfl⟩
 rw [<- hy] at HFi hyl
 have HFi:=Lib.hid HFi
 have HY:=Lib.hid hyl
 have H4:=Lib.hid ho4
 clear hs4 ho4 hy hyl
 go_wp2_with fail
 refine HFi.out.mono ?_
 rintro e w5 ⟨A5,c5,rfl,hr5,-,hd5,ho5⟩
 have hp:=H1.out.2.2
 have hr25 : (Kd.int .u8).R 5 w5 w1.heap.size (λ _=>True) (.slice A2 8 c2) [80,78,67,72,1,10,0,0]:=a3l (a3l H3.out.1 H4.out (λ k hk h=>by omega)) ho5 (λ k hk h=>by omega)
 have v1 : (convert 22 9 (.slice A2 8 c2)).run Tryz.prog w5 = .ok (.string ⟨#[80,78,67,72,1,10,0,0]⟩) w5:=(BSl.of hr25 (by intro x hx; simp at hx; omega)).str
 obtain ⟨q,-,-,c2f⟩:=(hd5 rfl).cells
 have HFed:=Lib.hid (b8b p _ w5 c2f)
 have hBf : Below w.heap.size w w5:=by
  have hO : Only (λ k=>k = p) w1 w5:=(((H3.out.2.1.behind H3.out.2.2 H3.out.2.1.size).trans H4.out).trans ho5)
  exact H1.out.2.1.trans (hO.below H1.out.2.1.size (λ k hk=>by have:=H1.out.1; omega))
 have HBf:=Lib.hid hBf
 rw [HY.out]
 clear hr5 hd5 ho5 hr25 hBf c2f
 go_wp2_with fail
 refine HFed.out.mono ?_
 rintro e w6 ⟨rfl,rfl⟩
 go_wp2_with fail
 go_ret
 exact ⟨rfl,HBf.out⟩
def kb (w0 : World) : Kd (List Int) where
 sz:=1
 E:=[]
 K:=λ _ x cs=>∃ A c,cs = [.slice A x.length c] /\ BSl w0 A c x
 M:=λ _ _ _ x cs=>∃ A c,cs = [.slice A x.length c] /\ BSl w0 A c x
 K_len:=by rintro w x cs ⟨A,c,rfl,_⟩; rfl
 K_one:=by rintro w x cs ⟨A,c,rfl,_⟩ u hu; rw [List.mem_singleton.1 hu]; rfl
 K_below:=λ _ h=>h
 K_of_M:=λ h=>h
 M_mono:=λ _ h=>h
 M_bound:=λ h=>h
 M_move:=λ _ h=>h
 M_lower:=λ _ h=>h
def cutsL : List Int -> List Nat -> List (List Int)
 | b,[]=>[b]
 | b,n :: l=>b.take (n % (b.length + 1)) :: cutsL (b.drop (n % (b.length + 1))) l
theorem d0t (q : List Int) (m : Nat) (r : List Nat) : cutsL q (m :: r) = q.take (m % (q.length + 1)) :: cutsL (q.drop (m % (q.length + 1))) r:=rfl
theorem b8h : ∀ (l : List Nat) (b : List Int),(cutsL b l).flatten = b
 | [],b=>by simp [cutsL]
 | n :: l,b=>by
  unfold cutsL
  rw [List.flatten_cons,b8h l,List.take_append_drop]
theorem b1h : ∀ (l : List Nat) (b : List Int),(cutsL b l).length = l.length + 1
 | [],_=>rfl
 | n :: l,b=>by unfold cutsL; rw [List.length_cons,b1h l,List.length_cons]
def a0L (L : List (List Int)) (i : Nat) : List Int:=(L.take i).flatten
theorem d0u (L : List (List Int)) {i : Nat} (h : i < L.length) : a0L L (i + 1) = a0L L i ++ L.getD i []:=by
 unfold a0L
 rw [List.take_succ_eq_append_getElem h,List.flatten_append,List.getD_eq_getElem?_getD,List.getElem?_eq_getElem h]
 simp
theorem d0v (L : List (List Int)) (i : Nat) : (a0L L i).length <= L.flatten.length:=by
 unfold a0L
 conv=>rhs; rw [<- List.take_append_drop i L,List.flatten_append,List.length_append]
 omega
theorem d0w {L : List (List Int)} (h : Bytes L.flatten) (i : Nat) : Bytes (a0L L i):=λ x hx=>by
 refine h x ?_
 have e : L.flatten = (L.take i).flatten ++ (L.drop i).flatten:=by rw [<- List.flatten_append,List.take_append_drop]
 rw [e]
 exact List.mem_append_left _ hx
theorem d0x {w0 w : World} {B n c : Nat} {A : Option Addr} {L : List (List Int)} (h : (kb w0).R 22 w B (λ _=>True) (.slice A n c) L) {i : Nat} (hi : i < L.length) :
    ∃ ad Ai ci,A = some ad /\ w.cell? (ad.add i) = some (.slice Ai (L.getD i []).length ci) /\ BSl w0 Ai ci (L.getD i []):=by
 obtain ⟨hn,-,hr⟩:=Kd.R_reads' h
 obtain ⟨ad,cs,ha,-,⟨Ai,ci,rfl,hb⟩,hc⟩:=ReadsRow.get_ hr ([] : List Int) (i : Int) (by omega) (by omega)
 rw [Int.toNat_natCast] at hb hc
 refine ⟨ad,Ai,ci,ha,?_,hb⟩
 have:=hc 0 _ rfl
 rw [show i * (kb w0).sz + 0 = i by show i * 1 + 0 = i; omega] at this
 exact this
theorem b8i : (Tryz.prog.info? 22).map (λ i=>(i.zero,i.size,i.bytes)) = some (some (.slice none 0 0),1,24):=by kernel_rfl
def natL (l : List Int) : List Nat:=l.map Int.toNat
set_option maxRecDepth 100000 in
set_option maxHeartbeats 2000000 in
theorem d0y (A Al : Option Addr) (c cl : Nat) (b l : List Int) (w0 w : World) (hb : BSl w0 A c b) (hl : (Kd.int .u16).C w Al l.length l) (_ : l.length <= cl) (hll : l.length <= 8) (hlw : ∀ x ∈ l,0 <= x /\ x < 65536) (hbl : b.length <= 100000) :
    Calls Tryz.prog 52 #[.slice A b.length c,.slice Al l.length cl] w (λ e w'=>∃ A' c',e = .returned (.slice A' (l.length + 1) c') /\ (kb w0).R 22 w' w.heap.size (λ _=>True) (.slice A' (l.length + 1) c') (cutsL b (natL l)) /\ Below w.heap.size w w'):=by
 have HX:=Lib.hid (And.intro hb (And.intro hl (And.intro hlw hbl)))
 clear hb hl hlw
 go_enter Tryz.func52,Tryz.ntmps52
 go_wp2_with fail
 go_loopw [0,5,6,7] (λ bv ov kv _ wr=>∃ (i : Nat) (Ao Ab : Option Addr) (co cb : Nat) (q : List Int),i <= l.length /\ bv = .slice Ab q.length cb /\ ov = .slice Ao i co /\ kv = .int .i64 i /\ q.length <= 100000 /\ Hid (∃ Lo,(kb w0).R 22 wr w.heap.size (λ _=>True) (.slice Ao i co) Lo /\ Lo.length = i /\ Lo ++ cutsL q (natL (l.drop i)) = cutsL b (natL l) /\ BSl w0 Ab cb q /\ Below w.heap.size w wr)) (λ _ _ kv _ _=>l.length - (intOf kv).toNat)
 case atStart=>exact ⟨0,none,A,0,c,b,by omega,rfl,rfl,rfl,HX.out.2.2.2,Lib.hid ⟨[],Kd.R_nil _ _ _ _ _,rfl,by rw [List.drop_zero]; rfl,HX.out.1,Below.refl _ _⟩⟩
 case round=>
  obtain ⟨i,Ao,Ab,co,cb,q,hi,rfl,rfl,rfl,hql,H⟩:=hrel
  obtain ⟨Lo,hO,hLo,hLT,hQ,hB⟩:=H.out
  by_cases hlt : i < l.length
  · obtain ⟨ad,hA,hci⟩:=a0w HX.out.2.1 i hlt
    subst hA
    have hx:=HX.out.2.2.1 _ (a1A hlt)
    obtain ⟨m,hm⟩ : ∃ m : Nat,l.getD i 0 = (m : Int):=⟨(l.getD i 0).toNat,by omega⟩
    have hnat : natL (l.drop i) = m :: natL (l.drop (i + 1)):=by
     have e : l[i] = (m : Int):=by rw [<- hm,List.getD_eq_getElem?_getD,List.getElem?_eq_getElem hlt]; rfl
     rw [List.drop_eq_getElem_cons hlt,e]
     unfold natL
     rw [List.map_cons,Int.toNat_natCast]
    rw [hm] at hci hx
    obtain ⟨n,hn⟩ : ∃ n,n = m % (q.length + 1):=⟨_,rfl⟩
    have hnq : n <= q.length:=by have:=Nat.mod_lt m (by omega : 0 < q.length + 1); omega
    rw [hnat] at hLT
    rw [d0t,<- hn] at hLT
    have hI : (i : Int) < (l.length : Int):=by omega
    have hwr : IntKind.i64.wrap (m : Int) = (m : Int):=i64_in _ (by omega)
    have hq1 : IntKind.i64.wrap ((q.length : Int) + 1) = (q.length : Int) + 1:=i64_in _ (by omega)
    have hm1 : (m : Int).tmod ((q.length : Int) + 1) = (n : Int):=by rw [Int.tmod_eq_emod_of_nonneg (by omega),hn]; simp
    have hm2 : (m : Int) % ((q.length : Int) + 1) = (n : Int):=by rw [hn]; simp
    have hz : ((q.length : Int) + 1 == 0) = false:=by simp; omega
    have hz2 : ¬ (q.length : Int) + 1 = 0:=by omega
    have hci':=a0s hB hci
    have hsl:=a3M Ab q.length cb n hnq hQ.cap
    have hsf:=a2Z Ab q.length cb n hnq
    have htl : (q.take n).length = n:=by rw [List.length_take]; omega
    have hdl : (q.drop n).length = q.length - n:=List.length_drop
    have HT:=Lib.hid (show (kb w0).M wr w.heap.size (λ _=>False) (q.take n) [.slice Ab n cb] from ⟨Ab,cb,by rw [htl],hQ.cut hnq⟩)
    have HD:=Lib.hid (hQ.from_ hnq)
    obtain ⟨Ad,hAd⟩ : ∃ Ad,Ad = (if cb = n then Ab else Ab.map (·.add (n * 1))):=⟨_,rfl⟩
    rw [<- hAd] at HD hsf
    obtain ⟨qd,hqd⟩ : ∃ qd,qd = q.drop n:=⟨_,rfl⟩
    obtain ⟨qt,hqt⟩ : ∃ qt,qt = q.take n:=⟨_,rfl⟩
    rw [<- hqd] at HD hdl hLT
    rw [<- hqt] at HT hLT
    rw [<- hdl] at hsf
    have HO:=Lib.hid hO
    have HB:=Lib.hid hB
    have HN:=Lib.hid (And.intro hLo hLT)
    have HZ : Hid ((Lo.length + 1) * 24 <= 140737488355328):=Lib.hid (by omega)
    have hqd2 : qd.length <= 100000:=by omega
    clear hO hB hLo hLT hQ hci hx hm hn hnq hnat hAd hqd hqt htl hdl hlt H
    go_wp2_with (at_builtin; refine a8B (kb w0) (w0:=w) (W:=wr) rfl _ _ 66 22 (.slice none 0 0) 24 rfl Tryz.underlying66 b8i rfl Nat.one_pos (by decide) (.slice Ao i co) Lo qt [.slice Ab n cb] rfl rfl HT.out HO.out HB.out HZ.out ?_; intro v1 w3 hr3 hb3 _ _; obtain ⟨A3,c3,rfl⟩:=Kd.R_slice hr3; have HR:=Lib.hid (And.intro hr3 hb3); clear hr3 hb3)
    go_roundw
    case rel=>exact ⟨i + 1,A3,Ad,c3,cb - n,qd,by omega,rfl,by rw [HN.out.1],by go_num,hqd2,Lib.hid ⟨Lo ++ [qt],by have:=HR.out.1; rw [List.length_append,HN.out.1] at this; exact this,by rw [List.length_append,HN.out.1]; rfl,by rw [List.append_assoc]; exact HN.out.2,HD.out,HR.out.2⟩⟩
    case measure=>simp [intOf]; omega
  · obtain rfl : i = l.length:=by omega
    rw [List.drop_length] at hLT
    have HT:=Lib.hid (show (kb w0).M wr w.heap.size (λ _=>False) q [.slice Ab q.length cb] from ⟨Ab,cb,rfl,hQ⟩)
    have HO:=Lib.hid hO
    have HB:=Lib.hid hB
    have HN:=Lib.hid (And.intro hLo (show Lo ++ [q] = cutsL b (natL l) from hLT))
    have HZ : Hid ((Lo.length + 1) * 24 <= 140737488355328):=Lib.hid (by omega)
    clear hO hB hLo hLT hQ hlt H
    go_wp2_with (at_builtin; refine a8B (kb w0) (w0:=w) (W:=wr) rfl _ _ 66 22 (.slice none 0 0) 24 rfl Tryz.underlying66 b8i rfl Nat.one_pos (by decide) (.slice Ao l.length co) Lo q [.slice Ab q.length cb] rfl rfl HT.out HO.out HB.out HZ.out ?_; intro v1 w3 hr3 hb3 _ _; obtain ⟨A3,c3,rfl⟩:=Kd.R_slice hr3; have HR:=Lib.hid (And.intro hr3 hb3); clear hr3 hb3)
    go_ret
    have e : (cutsL b (natL l)).length = l.length + 1:=by rw [b1h]; unfold natL; rw [List.length_map]
    refine ⟨A3,c3,?_,?_,HR.out.2⟩
    · rw [<- HN.out.1]; rfl
    · have h3:=HR.out.1
      rw [HN.out.2,e] at h3
      exact h3
theorem u8_in {n : Int} (h : (Lit.int .u8 n).wf = true) : 0 <= n /\ n < 256:=by
 have a : IntKind.u8.min = 0:=rfl
 have b : IntKind.u8.max = 255:=rfl
 simp only [Lit.wf,a,b,Bool.and_eq_true,decide_eq_true_eq] at h
 omega
theorem a2M {n : Int} (h : (Lit.int .u16 n).wf = true) : 0 <= n /\ n < 65536:=by
 have a : IntKind.u16.min = 0:=rfl
 have b : IntKind.u16.max = 65535:=rfl
 simp only [Lit.wf,a,b,Bool.and_eq_true,decide_eq_true_eq] at h
 omega
theorem d0z {a b m n : Nat} (h : ¬ (a <= m /\ b <= n)) : decide ((m : Int) < (a : Int)) = true \/ (decide ((m : Int) < (a : Int)) = false /\ decide ((n : Int) < (b : Int)) = true):=by
 by_cases h2 : a <= m
 · exact .inr ⟨decide_eq_false (by omega),decide_eq_true (by omega)⟩
 · exact .inl (decide_eq_true (by omega))
open Go.Proofs.YtflfjpkmjnnodaaGreatW.PrintMore
theorem b8k {x : List Int} (hb : Bytes x) (hl : x.length <= 40000) {log : Nat} (hlog : 10 <= log /\ log <= 17) {j : Nat} (hj : j < (encM x log).length) {limit : Int} (hL : (x.length : Int) <= limit) : a1L ((encM x log).take j) limit = (3,[]):=by
 have hp:=c8X hb hl hlog hj hL
 rw [a8e (by rw [hp]; show (3 : Int) ≠ 0; decide),hp]
end Go.Proofs.YtflfjpkmjnnodaaGreat
namespace Go.Proofs.YtflfjpkmjnnodaaGreat
open Go.RowKit Go.IntWalk Go.Proofs.YtflfjpkmjnnodaaGreatW.PrintWords Go.Proofs.YtflfjpkmjnnodaaGreatW.PrintMore
attribute [local go_sem] a1F
theorem d0H (L : List (List Int)) (j : Nat) : L.flatten.take (a0L L j).length = a0L L j:=by
 have e : L.flatten = a0L L j ++ (L.drop j).flatten:=by unfold a0L; rw [<- List.flatten_append,List.take_append_drop]
 conv=>lhs; rw [e]
 rw [List.take_append_of_le_length (Nat.le_refl _),List.take_length]
theorem d0I {X : List Int} (hb : Bytes X) (hl : X.length <= 2660) (ph : Nat) : (wentL 10 ph X).length < (encM X 10).length /\ (encM X 10).take (wentL 10 ph X).length = wentL 10 ph X /\ a1L (wentL 10 ph X) 3000 = (3,[]):=by
 have h1 : (wentL 10 ph X).length < (encM X 10).length /\ (encM X 10).take (wentL 10 ph X).length = wentL 10 ph X:=by
  unfold wentL
  split
  · have:=(a5p X 10).1
    exact ⟨by simp; omega,rfl⟩
  · rw [a8c]
    refine ⟨?_,?_⟩
    · rw [List.length_append,List.length_append,a1M]; omega
    · rw [List.take_append_of_le_length (Nat.le_refl _),List.take_length]
 refine ⟨h1.1,h1.2,?_⟩
 have h2:=b8k hb (by omega) (log:=10) (by decide) h1.1 (limit:=3000) (by omega)
 rw [h1.2] at h2
 exact h2
structure PlRel (p top : Nat) (x : List Int) (Ls : List (List Int)) (W0 : World) (i fd : Nat) (lg : Bool) (Lo : List Int) (Ao : Option Addr) (co : Nat) (W : World) : Prop where
 out : (Kd.int .u8).R 5 W W0.heap.size (λ _=>True) (.slice Ao Lo.length co) Lo
 no : lg = false -> fd = (a0L Ls i).length /\ ∃ b0 ph,PushSt p b0 10 top ph (a0L Ls i) W /\ (ph = 0 -> a0L Ls i = []) /\ Lo = wentL 10 ph (a0L Ls i)
 yes : lg = true -> DoneAt p 10 fd 6 W /\ ∃ ph,Lo = wentL 10 ph (x.take fd)
 le : fd <= top
 on : Only (λ k=>k = p) W0 W
set_option maxRecDepth 100000 in
set_option maxHeartbeats 4000000 in
theorem d0J (A B : Option Addr) (ca cb : Nat) (b cuts : List Int) (fill : Int) (more ov : Nat) (w : World) (hb : BSl w A ca b) (hc : (Kd.int .u16).C w B cuts.length cuts) (hcc : cuts.length <= cb) (hcw : ∀ x ∈ cuts,0 <= x /\ x < 65536) (hl : b.length <= 60) (hcl : cuts.length <= 8) (hf : 0 <= fill /\ fill < 256) (hm : more < 65536) (hov : ov < 256) :
    Calls Tryz.prog 14 #[.slice A b.length ca,.int .u8 fill,.int .u16 more,.slice B cuts.length cb,.int .u8 ov] w (Ret (.bool true) w):=by
 have d1 : decide (60 < (b.length : Int)) = false:=decide_eq_false (by omega)
 have d2 : decide (8 < (cuts.length : Int)) = false:=decide_eq_false (by omega)
 have HX:=Lib.hid (And.intro hb (And.intro hc (And.intro hcw (And.intro hf (And.intro hm hcc)))))
 have hlen:=a4x b fill (more % 2600)
 have hNl : more % 2600 < 2600:=Nat.mod_lt _ (by decide)
 have HBy:=Lib.hid (a6g hb.by' hf (more % 2600))
 clear hb hc hcw hf hm hcc
 go_enter Tryz.func14,Tryz.ntmps14
 go_wp2_with fail
 refine (b8g w).mono ?_
 rintro e w1 ⟨rfl,hb1⟩
 have HS:=Lib.hid (a8d A ca b fill more w1 (HX.out.1.below hb1) hl HX.out.2.2.2.1 HX.out.2.2.2.2.1)
 obtain ⟨x,hx⟩ : ∃ x,x = someL b fill (more % 2600):=⟨_,rfl⟩
 rw [<- hx] at HS HBy hlen
 rw [<- hlen] at HS
 have hxl : x.length <= 2660:=by omega
 have HB1:=Lib.hid hb1
 clear hb1 hx hlen hNl
 go_wp2_with fail
 refine HS.out.mono ?_
 rintro e w2 ⟨A2,c2,rfl,hx2,hb2⟩
 have HX2:=Lib.hid hx2
 have HB2:=Lib.hid (a0h HB1.out hb2)
 clear hx2 hb2
 by_cases hx0 : x.length = 0
 · have z0 : ((x.length : Int) == 0) = true:=by rw [hx0]; rfl
   clear hx0
   go_wp2_with fail
   go_ret
   exact ⟨rfl,HB2.out⟩
 have z0 : ((x.length : Int) == 0) = false:=by simp; intro e; rw [e] at hx0; simp at hx0
 obtain ⟨top,htop⟩ : ∃ top : Nat,(top : Int) = max 0 ((x.length : Int) - 1 - (ov : Int)):=⟨(max 0 ((x.length : Int) - 1 - (ov : Int))).toNat,by omega⟩
 have hw1 : IntKind.i64.wrap ((x.length : Int) - 1) = (x.length : Int) - 1:=i64_in _ (by omega)
 have hw2 : IntKind.i64.wrap ((x.length : Int) - 1 - (ov : Int)) = (x.length : Int) - 1 - (ov : Int):=i64_in _ (by omega)
 have hw3 : IntKind.i64.wrap (ov : Int) = (ov : Int):=i64_in _ (by omega)
 have hmx : Builtin.max2 (.int .i64 0) (.int .i64 ((x.length : Int) - 1 - (ov : Int))) = pure (.int .i64 (top : Int)):=by
  rw [a1E]; congr 2; rw [htop]; split <;> omega
 have HT:=Lib.hid (show top < x.length by omega)
 have HN:=Lib.hid (b8c 10 top w2 (by decide) (by omega))
 rw [show ((10 : Nat) : Int) = 10 from rfl] at HN
 have htl : top <= 2660:=by omega
 clear hx0 htop
 go_wp2_with fail
 refine HN.out.mono ?_
 rintro e w3 ⟨p,rfl,hs3,hp3,hb3⟩
 have H3:=Lib.hid (And.intro hs3 (And.intro hp3 hb3))
 have HC:=Lib.hid (d0y A2 B c2 cb x cuts w2 w3 HX2.out (Kd.C_below (Kd.C_below HX.out.2.1 HB2.out) hb3) HX.out.2.2.2.2.2 hcl HX.out.2.2.1 (by omega))
 clear hs3 hp3 hb3
 go_wp2_with fail
 refine HC.out.mono ?_
 rintro e w5 ⟨A5,c5,rfl,hl5,hb5⟩
 have hLl : (cutsL x (natL cuts)).length = cuts.length + 1:=by rw [b1h]; unfold natL; rw [List.length_map]
 have hjoin:=b8h (natL cuts) x
 obtain ⟨Ls,hLs⟩ : ∃ Ls,Ls = cutsL x (natL cuts):=⟨_,rfl⟩
 rw [<- hLs] at hl5 hLl hjoin
 rw [<- hLl] at hl5 ⊢
 have hst5:=H3.out.1.below hb5
 have hbw5 : Below w.heap.size w w5:=a0h (a0h HB2.out H3.out.2.2) hb5
 have HI:=Lib.hid (And.intro hl5 (And.intro hb5 (And.intro hst5.lt hbw5)))
 have HJ:=Lib.hid hjoin
 have HSt:=Lib.hid hst5
 have hLs9 : Ls.length <= 9:=by omega
 clear hl5 hb5 hLl hjoin hLs hst5 hbw5
 go_wp2_with fail
 go_loopw [16,18,19,20,21,22] (λ uv fv lv iv _ _ wr=>∃ (i fd : Nat) (lg : Bool) (Lo : List Int) (Ao : Option Addr) (co : Nat),i <= Ls.length /\ uv = .slice Ao Lo.length co /\ fv = .int .i64 fd /\ lv = .bool lg /\ iv = .int .i64 i /\ Hid (PlRel p top x Ls w5 i fd lg Lo Ao co wr)) (λ _ _ _ iv _ _ _=>Ls.length - (intOf iv).toNat)
 case atStart=>exact ⟨0,0,false,[],none,0,by omega,rfl,rfl,rfl,rfl,Lib.hid ⟨Kd.R_nil _ _ _ _ _,λ _=>⟨rfl,p + 1,0,HSt.out,λ _=>rfl,rfl⟩,(λ h=>by cases h),Nat.zero_le _,Only.refl _ _⟩⟩
 case round=>
  obtain ⟨i,fd,lg,Lo,Ao,co,hi,rfl,rfl,rfl,rfl,H⟩:=hrel
  by_cases hlt : i < Ls.length
  · have hrow:=a3l HI.out.1 H.out.on (λ k hk h=>by have:=H3.out.1.lt; omega)
    obtain ⟨ad,Ai,ci,hA,hcell,hpart⟩:=d0x hrow hlt
    subst hA
    obtain ⟨pt,hpt⟩ : ∃ pt,pt = Ls.getD i []:=⟨_,rfl⟩
    rw [<- hpt] at hcell hpart
    have hap:=hpart.apart H3.out.2.1
    have hon2 : Only (λ k=>k = p) w2 wr:=(Only.of_below (H3.out.2.2.trans (HI.out.2.1.mono H3.out.2.2.size))).trans H.out.on
    have hI : (i : Int) < (Ls.length : Int):=by omega
    have hcell6 : ∀ w6,Only (λ k=>k = p) wr w6 -> ∀ w7,Below w5.heap.size w6 w7 -> w7.cell? (ad.add i) = some (.slice Ai pt.length ci):=λ w6 h6 w7 h7=>by
     have hbad : ad.block < w5.heap.size:=((Kd.R_bound HI.out.1).1 ad.block rfl).2.2.1
     have hbp : w3.heap.size <= ad.block:=((Kd.R_bound HI.out.1).1 ad.block rfl).2.1
     have hplt:=H3.out.1.lt
     have e1 : wr.cell? (ad.add i) = w6.cell? (ad.add i):=by
      unfold World.cell?
      rw [a1B,h6.block ad.block (by have:=H.out.on.size; omega) (by omega)]
     have e2 : w7.cell? (ad.add i) = w6.cell? (ad.add i):=by
      unfold World.cell?
      rw [a1B,h7.block ad.block hbad]
     rw [e2,<- e1]; exact hcell
    have HCl:=Lib.hid hcell6
    have hsucc:=d0u Ls hlt
    rw [<- hpt] at hsucc
    have hle:=d0v Ls (i + 1)
    rw [HJ.out] at hle
    cases lg with
    | true=>
     obtain ⟨hd,ph,hLo⟩:=H.out.yes rfl
     have HFd:=Lib.hid (b8a p fd pt.length ci 10 6 Ai wr hd)
     have HD:=Lib.hid (And.intro hd hLo)
     have l0 : (([] : List Int).length : Int) = 0:=rfl
     clear hrow hpart hap hon2 hcell6 hsucc hle hpt hd hLo
     go_wp2_with fail
     refine HFd.out.mono ?_
     rintro e w6 ⟨rfl,hb6⟩
     have HR : Hid (PlRel p top x Ls w5 (i + 1) fd true Lo Ao co w6):=Lib.hid ⟨Kd.R_below H.out.out hb6,(λ h=>by cases h),λ _=>⟨HD.out.1.below hb6,ph,HD.out.2⟩,H.out.le,H.out.on.trans (Only.of_below hb6)⟩
     clear hb6 hcell
     go_wp2_with fail
     go_roundw
     case rel=>exact ⟨i + 1,fd,true,Lo,Ao,co,by omega,rfl,rfl,rfl,by go_num,HR⟩
     case measure=>simp [intOf]; omega
    | false=>
     obtain ⟨hfd,b0,ph,hst,hph,hLo⟩:=H.out.no rfl
     have hfdl:=H.out.le
     have hw5 : IntKind.i64.wrap ((fd : Int) + (pt.length : Int)) = (fd : Int) + (pt.length : Int):=i64_in _ (by rw [hsucc,List.length_append] at hle; omega)
     by_cases hlong : top < fd + pt.length
     · have hF:=d0h p b0 10 top ph (a0L Ls i) Ai pt.length ci wr hst (by omega) (by omega)
       rw [<- hfd] at hF
       have HFd:=Lib.hid hF
       have hJt:=d0H Ls i
       rw [HJ.out,<- hfd] at hJt
       have HD:=Lib.hid (show Lo = wentL 10 ph (x.take fd) by rw [hJt]; exact hLo)
       have hcm : (top : Int) < (fd : Int) + (pt.length : Int):=by omega
       clear hrow hpart hap hon2 hcell6 hsucc hle hpt hfd hst hph hLo hF hJt
       go_wp2_with fail
       refine HFd.out.mono ?_
       rintro e w6 ⟨rfl,hd6,ho6⟩
       have hc6:=HCl.out w6 ho6 w6 (Below.refl _ _)
       have HR : Hid (PlRel p top x Ls w5 (i + 1) fd true Lo Ao co w6):=Lib.hid ⟨a3l H.out.out ho6 (λ k hk h=>by have:=HI.out.2.2.1; omega),(λ h=>by cases h),λ _=>⟨hd6,ph,HD.out⟩,H.out.le,H.out.on.trans ho6⟩
       clear hd6 ho6 hcell hlong
       go_wp2_with fail
       go_roundw
       case rel=>exact ⟨i + 1,fd,true,Lo,Ao,co,by omega,rfl,rfl,by first | rfl | simp,by go_num,HR⟩
       case measure=>simp [intOf]; omega
     · have hpl : (a0L Ls i).length + pt.length <= top:=by omega
       have hhb : Bytes (a0L Ls i):=d0w (by rw [HJ.out]; exact HBy.out) i
       have HF1:=b1f p b0 10 top ph (a0L Ls i) Ai ci pt wr hst (hpart.only hon2 hap) hap hpl (by omega) (by omega) (by decide) hhb
       unfold a8f at HF1
       rw [<- hsucc] at HF1
       have hyl:=b7y (L:=10) (ph:=ph) (x:=a0L Ls i) (b:=pt) (last:=false) (by omega)
       have hmore:=b0X (L:=10) hph pt
       rw [<- hLo,<- hsucc] at hmore
       obtain ⟨y,hy⟩ : ∃ y,y = feedY 10 ph (a0L Ls i) pt false:=⟨_,rfl⟩
       rw [<- hy] at HF1 hyl hmore
       have HFd:=Lib.hid HF1
       have hlw:=b7z (L:=10) (ph:=ph) (x:=a0L Ls i) (by omega)
       rw [<- hLo] at hlw
       have HZ : Hid (Lo.length + y.length <= 140737488355328):=Lib.hid (by omega)
       have HM:=Lib.hid (And.intro hmore (show fd + pt.length = (a0L Ls (i + 1)).length by rw [hsucc,List.length_append,hfd]))
       have hcm : ¬ (top : Int) < (fd : Int) + (pt.length : Int):=by omega
       clear hrow hpart hap hon2 hcell6 hle hpt hfd hst hph hLo hpl hhb HF1 hyl hmore hy hlw hsucc
       go_wp2_with fail
       refine HFd.out.mono ?_
       rintro e w6 ⟨A6,c6,rfl,hr6,hs6,-,ho6⟩
       have hc6:=HCl.out w6 ho6 w6 (Below.refl _ _)
       have HO6:=Lib.hid (a3l H.out.out ho6 (λ k hk h=>by have:=HI.out.2.2.1; omega))
       have HC6:=Lib.hid (Kd.R_reads' hr6).2.2
       have HB6 : Hid (Below w5.heap.size w6 w6):=Lib.hid (Below.refl _ _)
       have HS6 : Hid (w5.heap.size <= w6.heap.size):=Lib.hid (Nat.le_trans H.out.on.size ho6.size)
       have H6:=Lib.hid (And.intro (hs6 (by first | rfl | trivial)) ho6)
       have hc7:=HCl.out w6 ho6
       clear hr6 hs6 ho6 hcell hlong
       go_wp2_with (at_builtin; refine app8 rfl rfl rfl rfl HO6 HC6 HB6 HS6.out HZ ?_; intro A7 c7 w7 hr7 hb7 hg7; have HR7:=Lib.hid (And.intro hr7 (And.intro hb7 hg7)); have hc8:=hc7 w7 hb7; clear hr7 hb7 hg7)
       go_roundw
       case rel=>exact ⟨i + 1,fd + pt.length,false,Lo ++ y,A7,c7,by omega,by rw [List.length_append],by go_num,by first | rfl | simp; omega,by go_num,Lib.hid ⟨by rw [List.length_append]; exact HR7.out.1,λ _=>⟨HM.out.2,wr.heap.size,1,H6.out.1.grown HR7.out.2.2 (λ k hk=>by have:=((Kd.R_bound H.out.out).1 k hk).2; have:=HI.out.2.2.1; omega),(λ h=>by cases h),HM.out.1⟩,(λ h=>by cases h),by omega,(H.out.on.trans H6.out.2).behind HR7.out.2.1 (Nat.le_refl _)⟩⟩
       case measure=>simp [intOf]; omega
  · obtain rfl : i = Ls.length:=by omega
    have hI : ¬ (Ls.length : Int) < (Ls.length : Int):=by omega
    have hall : a0L Ls Ls.length = x:=by unfold a0L; rw [List.take_length]; exact HJ.out
    cases lg with
    | false=>
     have:=(H.out.no rfl).1
     rw [hall] at this
     have:=H.out.le
     have:=HT.out
     omega
    | true=>
     obtain ⟨hd,ph,hLo⟩:=H.out.yes rfl
     have hfdl:=H.out.le
     have hfx : fd <= x.length:=by have:=HT.out; omega
     have hXl : (x.take fd).length = fd:=by rw [List.length_take]; omega
     have hXb : Bytes (x.take fd):=λ z hz=>HBy.out z (List.mem_of_mem_take hz)
     obtain ⟨g1,g2,g3⟩:=d0I hXb (by omega) ph
     rw [<- hLo] at g1 g2 g3
     have HFi:=Lib.hid (d0i p fd 10 6 wr hd)
     have hbw : Below w.heap.size w wr:=HI.out.2.2.2.trans (H.out.on.below HI.out.2.2.2.size (λ k hk=>by have:=H3.out.2.1; have:=HB2.out.size; omega))
     have hxw : BSl wr A2 c2 x:=(HX2.out.below (a0h H3.out.2.2 HI.out.2.1)).only H.out.on (HX2.out.apart H3.out.2.1)
     have hlw:=b7z (L:=10) (ph:=ph) (x:=x.take fd) (by omega)
     rw [<- hLo] at hlw
     obtain ⟨f,hf⟩ : ∃ f,f = encM (x.take fd) 10:=⟨_,rfl⟩
     have hfl : f.length <= 40000:=by rw [hf]; have:=a5p (x.take fd) 10; have:=a4v (2 ^ 10) (x.take fd).length (x.take fd).length; omega
     have hfb : Bytes f:=by rw [hf]; exact b1a (by decide) hXb (by omega)
     rw [<- hf] at g1 g2
     have HD:=Lib.hid (And.intro hd (And.intro hbw (And.intro hxw (And.intro g1 (And.intro g2 (And.intro g3 (And.intro hfb (And.intro hXl (And.intro hf hfx)))))))))
     have hsl:=a3M A2 x.length c2 fd hfx HX2.out.cap
     have l0 : (([] : List Int).length : Int) = 0:=rfl
     have hg1 : ¬ f.length <= Lo.length:=by omega
     have hfxI : (fd : Int) <= (x.length : Int):=by omega
     clear hall hd hLo hXl hXb g1 g2 g3 hbw hxw hlw hf hfb hlt hfx
     go_wp2_with fail
     refine HFi.out.mono ?_
     rintro e w6 ⟨rfl,hb6⟩
     have HFd:=Lib.hid (b8a p fd 0 0 10 6 none w6 (HD.out.1.below hb6))
     have HB6:=Lib.hid hb6
     clear hb6
     go_wp2_with fail
     refine HFd.out.mono ?_
     rintro e w7 ⟨rfl,hb7⟩
     have hbr7 : Below wr.heap.size wr w7:=a0h HB6.out hb7
     have HE:=a6f A2 c2 (x.take fd) 10 w7 ((HD.out.2.2.1.below hbr7).cut HD.out.2.2.2.2.2.2.2.2.2) (by rw [HD.out.2.2.2.2.2.2.2.1]; omega) (by decide)
     rw [show ((10 : Nat) : Int) = 10 from rfl,HD.out.2.2.2.2.2.2.2.1,<- HD.out.2.2.2.2.2.2.2.2.1] at HE
     have HE:=Lib.hid HE
     have HB7:=Lib.hid hbr7
     clear hb7 hbr7
     go_wp2_with fail
     refine HE.out.mono ?_
     rintro e w8 ⟨A8,c8,rfl,hr8,hb8⟩
     have hbr8 : Below wr.heap.size wr w8:=a0h HB7.out hb8
     have hOut:=Kd.R_below H.out.out hbr8
     have hLb : Bytes Lo:=by rw [<- HD.out.2.2.2.2.1]; exact λ z hz=>HD.out.2.2.2.2.2.2.1 z (List.mem_of_mem_take hz)
     have hD:=a6k Ao co Lo 3000 w8 (BSl.of hOut hLb) (by omega) (by decide)
     rw [HD.out.2.2.2.2.2.1] at hD
     have HDc:=Lib.hid hD
     have hf8:=BSl.of hr8 HD.out.2.2.2.2.2.2.1
     have hsl8:=a3M A8 f.length c8 Lo.length (by omega) hf8.cap
     have hcu:=hf8.cut (k:=Lo.length) (by omega)
     rw [HD.out.2.2.2.2.1] at hcu
     have H8:=Lib.hid (And.intro hbr8 (And.intro hOut (And.intro hLb hcu)))
     have hLI : (Lo.length : Int) <= (f.length : Int):=by omega
     have hLc : (Lo.length : Int) <= (c8 : Int):=by have:=hf8.cap; omega
     clear hr8 hb8 hbr8 hOut hLb hD hf8 hcu
     go_wp2_with fail
     refine HDc.out.mono ?_
     rintro e w9 ⟨A9,c9,rfl,-,hb9⟩
     have hbr9 : Below wr.heap.size wr w9:=a0h H8.out.1 hb9
     obtain ⟨qq,-,-,hc2⟩:=(HD.out.1.below hbr9).cells
     have HFe:=Lib.hid (b8b p fd w9 hc2)
     have HSm:=Lib.hid (a5W Ao A8 co c8 Lo w9 (Kd.R_reads' (Kd.R_below H8.out.2.1 hb9)).2.2 (H8.out.2.2.2.below hb9).row H8.out.2.2.1)
     have HFin:=Lib.hid (a0h HD.out.2.1 hbr9)
     clear hb9 hbr9 hc2
     go_wp2_with fail
     refine HFe.out.mono ?_
     rintro e wx ⟨rfl,rfl⟩
     go_wp2_with fail
     refine HSm.out.mono ?_
     rintro e wx ⟨rfl,rfl⟩
     go_wp2_with fail
     go_ret
     exact ⟨rfl,HFin.out⟩
set_option maxRecDepth 100000 in
theorem d0K (A : Option Addr) (ca : Nat) (b : List Int) (fill more : Int) (B : Option Addr) (cb : Nat) (cuts : List Int) (ov : Int) (w : World) (hr : (Kd.int .u8).C w A b.length b) (hc : b.length <= ca) (hby : Bytes b) (_ : b.length * 1 <= 140737488351232) (hnil : A = none -> ca = 0) (hf : (Lit.int .u8 fill).wf = true) (hm : (Lit.int .u16 more).wf = true) (hr4 : (Kd.int .u16).C w B cuts.length cuts) (hc4 : cuts.length <= cb) (hw4 : ∀ n ∈ cuts,(Lit.int .u16 n).wf = true) (_ : cuts.length * 2 <= 140737488351232) (ho : (Lit.int .u8 ov).wf = true) :
    Calls Tryz.prog 14 #[.slice A b.length ca,.int .u8 fill,.int .u16 more,.slice B cuts.length cb,.int .u8 ov] w (Ret (.bool true) w):=by
 obtain ⟨k,rfl⟩ : ∃ k : Nat,more = k:=⟨more.toNat,by have:=a2M hm; omega⟩
 obtain ⟨g,rfl⟩ : ∃ k : Nat,ov = k:=⟨ov.toNat,by have:=u8_in ho; omega⟩
 have hk:=a2M hm
 have hg:=u8_in ho
 by_cases h1 : b.length <= 60 /\ cuts.length <= 8
 · exact d0J A B ca cb b cuts fill k g w ⟨hr,hc,hnil,hby⟩ hr4 hc4 (λ x hx=>a2M (hw4 x hx)) h1.1 h1.2 (u8_in hf) (by omega) (by omega)
 · have hd:=d0z h1
   rw [show ((60 : Nat) : Int) = 60 from rfl,show ((8 : Nat) : Int) = 8 from rfl] at hd
   clear h1 hr hc hby hnil hf hm hr4 hc4 hw4 ho hk hg
   rcases hd with d1 | ⟨d1,d2⟩
   all_goals
    go_enter Tryz.func14,Tryz.ntmps14
    go_wp2_with fail
    refine (b8g w).mono ?_
    rintro e w1 ⟨rfl,hb1⟩
    have HB1:=Lib.hid hb1
    clear hb1
    go_wp2_with fail
    go_ret
    exact ⟨rfl,HB1.out⟩
end Go.Proofs.YtflfjpkmjnnodaaGreat
