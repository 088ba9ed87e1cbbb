/- Plain: frames: their heads, blocks and tails; what they tell. -/
import Derived.Test.YtflfjpkmjnnodaaGreatAS1
import Derived.Test.YtflfjpkmjnnodaaGreatAM4
import Derived.Test.YtflfjpkmjnnodaaGreatAM2
import Derived.Test.YtflfjpkmjnnodaaGreatAM1
import Derived.Test.YtflfjpkmjnnodaaGreatAM0
import Derived.WalkMore
import Derived.ArgAppend
import Derived.Lib.SlBytesConst
import Derived.Test.YtflfjpkmjnnodaaGreatAM5
import Derived.RangeFuncRecord
import Derived.RangeFuncSeq
import Derived.WalkKit
import Derived.OwnWalkIn
import Derived.TacticsInMore
import Derived.BigFrameIn
import Derived.LoopNIn
import Derived.LoopIn
import Derived.RangeFuncBox
import Derived.Stop.RegionWithIn
import Derived.RangeFuncLeaves
import Derived.RangeFuncCalls
import Derived.Laws.EntriesVeiled
import Derived.Lib.MinMax
namespace Go.Proofs.YtflfjpkmjnnodaaGreat
open Go.RowKit
def headL (log : Nat) : List Int:=[80,78,67,72,1,(log : Int),0,0]
def tailL (x : List Int) : List Int:=leN (a0R 0 x) 4
def blksM (s : Nat) : Nat -> List Int -> List Int
 | 0,x=>putM x true
 | n + 1,x=>if s < x.length then putM (x.take s) false ++ blksM s n (x.drop s) else putM x true
def encM (x : List Int) (log : Nat) : List Int:=headL log ++ (blksM (2 ^ log) x.length x ++ tailL x)
def headE (i : Nat) (c : Int) : Int:=
 if i < 4 /\ c ≠ ([80,78,67,72] : List Int).getD i 0 then 8 else if i = 4 /\ c ≠ 1 then 9 else if i = 5 /\ ¬ (10 <= c /\ c <= 17) then 5 else if 5 < i /\ c ≠ 0 then 4 else 0
def headG (f : List Int) : Nat -> Nat -> Int
 | 0,_=>0
 | d + 1,i=>if f.length <= i then 3 else if headE i (f.getD i 0) ≠ 0 then headE i (f.getD i 0) else headG f d (i + 1)
def headM (f : List Int) : Int:=headG f 8 0
def a1j (f x : List Int) : Int:=if f.length < 4 then 3 else if f.take 4 ≠ tailL x then 15 else if 4 < f.length then 16 else 0
def preG : Nat -> List Int -> Int -> Bool -> Int -> List Int -> Int × List Int
 | 0,_,_,_,_,out=>(3,out)
 | n + 1,f,log,first,limit,out=>
  if (openM f log first limit).1 ≠ 0 then ((openM f log first limit).1,out) else
  if (openM f log first limit).2.2.2 = true then (a1j (f.drop (openM f log first limit).2.2.1) (out ++ (openM f log first limit).2.1),out ++ (openM f log first limit).2.1) else
  preG n (f.drop (openM f log first limit).2.2.1) log false (limit - (openM f log first limit).2.1.length) (out ++ (openM f log first limit).2.1)
def a0C (f : List Int) (limit : Int) : Int × List Int:=
 if limit < 0 then (1,[]) else if headM f ≠ 0 then (headM f,[]) else preG (f.length + 1) (f.drop 8) (f.getD 5 0) true limit []
def a1Q (f : List Int) (limit : Int) : Int × List Int:=if (a0C f limit).1 ≠ 0 then ((a0C f limit).1,[]) else a0C f limit
def sizeG : Nat -> List Int -> Int -> Bool -> Int -> Nat -> Nat
 | 0,_,_,_,_,sum=>sum
 | n + 1,f,log,first,limit,sum=>
  if (scanM f log first (limit - sum)).1 ≠ 0 \/ f.length < 11 + (scanM f log first (limit - sum)).2.2.2.1 then sum else
  if (scanM f log first (limit - sum)).2.2.2.2.1 = true then sum + (scanM f log first (limit - sum)).2.2.1 else
  sizeG n (f.drop (11 + (scanM f log first (limit - sum)).2.2.2.1)) log false limit (sum + (scanM f log first (limit - sum)).2.2.1)
def sizeM (f : List Int) (limit : Int) : Nat:=if headM f ≠ 0 \/ limit < 0 then 0 else sizeG (f.length + 1) (f.drop 8) (f.getD 5 0) true limit 0
theorem best_nilP : (bestP ([] : List Int)).1 = 0 /\ (bestP ([] : List Int)).2 = []:=by
 have h : bestP ([] : List Int) = (0,[]):=by
  unfold bestP a0W
  simp
 rw [h]; exact ⟨rfl,rfl⟩
theorem a3c {b : List Int} {log : Nat} {first : Bool} (h : b.length = 2 ^ log) (k : Nat) : a1y (log : Int) first k b.length false = true:=by
 unfold a1y; rw [if_pos rfl,Int.toNat_natCast]; exact decide_eq_true h
theorem a3w {b : List Int} {log : Nat} {first : Bool} (h : b.length <= 2 ^ log) (h0 : b.length = 0 -> first = true) : ∀ k : Nat,k <= 3 -> (bestP b).1 = (k : Nat) -> a1y (log : Int) first k b.length true = true:=by
 intro k _ hk
 unfold a1y
 rw [if_neg (by simp)]
 by_cases e : b.length = 0
 · have hb : b = []:=List.eq_nil_of_length_eq_zero e
   rw [if_pos e,h0 e]
   subst hb
   rw [best_nilP.1] at hk
   have : k = 0:=by omega
   rw [this]; rfl
 · rw [if_neg e,Int.toNat_natCast]; exact decide_eq_true h
theorem a2L {b : List Int} (h : Bytes b) (k : Nat) : Bytes (b.take k):=λ x hx=>h x (List.mem_of_mem_take hx)
theorem a3O {b : List Int} (h : Bytes b) (k : Nat) : Bytes (b.drop k):=λ x hx=>h x (List.mem_of_mem_drop hx)
theorem a2M {a b : List Int} {n : Nat} (h : n = a.length) : (a ++ b).drop n = b:=by
 rw [h,List.drop_append_of_le_length (Nat.le_refl _),List.drop_of_length_le (Nat.le_refl _),List.nil_append]
theorem c8L {log : Nat} (hlog : 10 <= log /\ log <= 17) (tl : List Int) : ∀ (n : Nat) (x : List Int) (first : Bool) (limit : Int) (out : List Int) (k : Nat),Bytes x -> x.length <= 40000 -> x.length <= n -> (x.length = 0 -> first = true) -> (x.length : Int) <= limit -> (blksM (2 ^ log) n x ++ tl).length < k ->
    preG k (blksM (2 ^ log) n x ++ tl) log first limit out = (a1j tl (out ++ x),out ++ x):=by
 have lastc : ∀ (x : List Int) (first : Bool) (limit : Int) (out : List Int) (k : Nat),Bytes x -> x.length <= 40000 -> x.length <= 2 ^ log -> (x.length = 0 -> first = true) -> (x.length : Int) <= limit -> 0 < k -> preG k (putM x true ++ tl) log first limit out = (a1j tl (out ++ x),out ++ x):=by
  intro x first limit out k hb hl hs h0 hL hk
  obtain ⟨k,rfl⟩ : ∃ j,k = j + 1:=⟨k - 1,by omega⟩
  have ho:=a5f (m:=tl) hb hl (log:=(log : Int)) (by omega) hL (a3w hs h0)
  unfold preG
  rw [ho]
  dsimp only
  rw [if_neg (λ h=>h rfl),if_pos rfl,a2M (by rw [a0S])]
 have hp : 0 < 2 ^ log:=Nat.two_pow_pos log
 intro n
 induction n with
 | zero=>
  intro x first limit out k hb hl hn h0 hL hk
  exact lastc x first limit out k hb hl (by omega) h0 hL (by omega)
 | succ n ih=>
  intro x first limit out k hb hl hn h0 hL hk
  unfold blksM at hk ⊢
  by_cases h : 2 ^ log < x.length
  · rw [if_pos h] at hk ⊢
    rw [List.append_assoc] at hk ⊢
    obtain ⟨k,rfl⟩ : ∃ j,k = j + 1:=⟨k - 1,by omega⟩
    have hlt : (x.take (2 ^ log)).length = 2 ^ log:=by rw [List.length_take]; omega
    have ho:=a5f (m:=blksM (2 ^ log) n (x.drop (2 ^ log)) ++ tl) (a2L hb (2 ^ log)) (by omega) (log:=(log : Int)) (room:=limit) (first:=first) (last:=false) (by omega) (by omega) (λ k _ _=>a3c hlt k)
    unfold preG
    rw [ho]
    dsimp only
    rw [if_neg (λ h=>h rfl),if_neg (by simp),a2M (by rw [a0S])]
    have hd : (x.drop (2 ^ log)).length = x.length - 2 ^ log:=by rw [List.length_drop]
    rw [ih (x.drop (2 ^ log)) false (limit - ((x.take (2 ^ log)).length : Int)) (out ++ x.take (2 ^ log)) k (a3O hb _) (by omega) (by omega) (by omega) (by omega) (by rw [List.length_append,a0S] at hk; omega)]
    rw [List.append_assoc,List.take_append_drop]
  · rw [if_neg h] at hk ⊢
    exact lastc x first limit out k hb hl (by omega) h0 hL (by omega)
theorem c8M {log : Nat} (hlog : 10 <= log /\ log <= 17) (tl : List Int) : ∀ (n : Nat) (x : List Int) (first : Bool) (limit : Nat) (out : List Int) (k : Nat),Bytes x -> x.length <= 40000 -> x.length <= n -> limit < x.length -> (blksM (2 ^ log) n x ++ tl).length < k ->
    preG k (blksM (2 ^ log) n x ++ tl) log first limit out = (7,out ++ x.take (limit / 2 ^ log * 2 ^ log)):=by
 have hp : 0 < 2 ^ log:=Nat.two_pow_pos log
 have stop : ∀ (b m : List Int) (first last : Bool) (limit : Nat) (out : List Int) (k : Nat),Bytes b -> b.length <= 40000 -> limit < b.length -> (∀ k,k <= 3 -> (bestP b).1 = (k : Nat) -> a1y (log : Int) first k b.length last = true) -> 0 < k -> preG k (putM b last ++ m) log first limit out = (7,out):=by
  intro b m first last limit out k hb hl hlt hs hk
  obtain ⟨k,rfl⟩ : ∃ j,k = j + 1:=⟨k - 1,by omega⟩
  obtain ⟨c,_,_,e⟩:=a2Z (m:=m) hb hl (log:=(log : Int)) (room:=limit) (by omega) (by omega) hs
  rw [if_pos (by omega)] at e
  have ho : openM (putM b last ++ m) log first limit = (7,[],0,false):=by
   unfold openM
   rw [e,if_pos (by show (7 : Int) ≠ 0; decide)]
  unfold preG
  rw [ho,if_pos (by show (7 : Int) ≠ 0; decide)]
 intro n
 induction n with
 | zero=>intro x first limit out k hb hl hn hL hk; omega
 | succ n ih=>
  intro x first limit out k hb hl hn hL hk
  unfold blksM at hk ⊢
  by_cases h : 2 ^ log < x.length
  · rw [if_pos h] at hk ⊢
    rw [List.append_assoc] at hk ⊢
    have hlt : (x.take (2 ^ log)).length = 2 ^ log:=by rw [List.length_take]; omega
    by_cases hL2 : limit < 2 ^ log
    · rw [stop (x.take (2 ^ log)) _ first false limit out k (a2L hb _) (by omega) (by omega) (λ k _ _=>a3c hlt k) (by omega)]
      rw [Nat.div_eq_of_lt hL2,Nat.zero_mul,List.take_zero,List.append_nil]
    · obtain ⟨k,rfl⟩ : ∃ j,k = j + 1:=⟨k - 1,by omega⟩
      have ho:=a5f (m:=blksM (2 ^ log) n (x.drop (2 ^ log)) ++ tl) (a2L hb (2 ^ log)) (by omega) (log:=(log : Int)) (room:=limit) (first:=first) (last:=false) (by omega) (by omega) (λ k _ _=>a3c hlt k)
      unfold preG
      rw [ho]
      dsimp only
      rw [if_neg (λ h=>h rfl),if_neg (by simp),a2M (by rw [a0S])]
      have hd : (x.drop (2 ^ log)).length = x.length - 2 ^ log:=by rw [List.length_drop]
      rw [show ((limit : Int) - ((x.take (2 ^ log)).length : Int)) = ((limit - 2 ^ log : Nat) : Int) by rw [hlt]; omega]
      rw [ih (x.drop (2 ^ log)) false (limit - 2 ^ log) (out ++ x.take (2 ^ log)) k (a3O hb _) (by omega) (by omega) (by omega) (by rw [List.length_append,a0S] at hk; omega)]
      have e1 : limit / 2 ^ log = (limit - 2 ^ log) / 2 ^ log + 1:=by
       have h2 : limit = (limit - 2 ^ log) + 2 ^ log:=by omega
       conv=>lhs; rw [h2]
       rw [Nat.add_div_right _ hp]
      rw [e1,Nat.add_mul,Nat.one_mul,Nat.add_comm ((limit - 2 ^ log) / 2 ^ log * 2 ^ log),List.append_assoc]
      congr 2
      rw [List.take_add]
  · rw [if_neg h] at hk ⊢
    rw [stop x tl first true limit out k hb hl hL (a3w (by omega) (by omega)) (by omega)]
    rw [Nat.div_eq_of_lt (by omega),Nat.zero_mul,List.take_zero,List.append_nil]
def cutN (s : Nat) : Nat -> List Int -> Nat -> Nat
 | 0,x,j=>if j < (putM x true).length then 0 else x.length
 | n + 1,x,j=>if s < x.length then (if j < (putM (x.take s) false).length then 0 else s + cutN s n (x.drop s) (j - (putM (x.take s) false).length)) else if j < (putM x true).length then 0 else x.length
theorem b7k (s : Nat) : ∀ (n : Nat) (x : List Int) (j : Nat),cutN s n x j <= x.length
 | 0,x,j=>by unfold cutN; split <;> omega
 | n + 1,x,j=>by
  unfold cutN
  split
  · split
    · omega
    · have:=b7k s n (x.drop s) (j - (putM (x.take s) false).length)
      rw [List.length_drop] at this; omega
  · split <;> omega
theorem b7l (s : Nat) : ∀ (n : Nat) (x : List Int) (i j : Nat),i <= j -> cutN s n x i <= cutN s n x j
 | 0,x,i,j,h=>by unfold cutN; split <;> split <;> omega
 | n + 1,x,i,j,h=>by
  unfold cutN
  by_cases h1 : s < x.length
  · rw [if_pos h1,if_pos h1]
    have:=b7l s n (x.drop s) (i - (putM (x.take s) false).length) (j - (putM (x.take s) false).length) (by omega)
    split <;> split <;> omega
  · rw [if_neg h1,if_neg h1]
    split <;> split <;> omega
theorem b7m (s : Nat) : ∀ (n : Nat) (x : List Int) (j : Nat),cutN s n x j % s = 0 \/ cutN s n x j = x.length
 | 0,x,j=>by
  unfold cutN; split
  · exact .inl (Nat.zero_mod _)
  · exact .inr rfl
 | n + 1,x,j=>by
  unfold cutN
  split
  · rename_i h1
    split
    · exact .inl (Nat.zero_mod _)
    · rcases b7m s n (x.drop s) (j - (putM (x.take s) false).length) with h | h
      · left; rw [Nat.add_mod_left]; exact h
      · right; rw [h,List.length_drop]; omega
  · split
    · exact .inl (Nat.zero_mod _)
    · exact .inr rfl
theorem c8N {log : Nat} (hlog : 10 <= log /\ log <= 17) (tl : List Int) (htl : tl.length = 4) : ∀ (n : Nat) (x : List Int) (first : Bool) (limit : Int) (out : List Int) (j k : Nat),Bytes x -> x.length <= 40000 -> x.length <= n -> (x.length = 0 -> first = true) -> (x.length : Int) <= limit -> j < (blksM (2 ^ log) n x ++ tl).length -> j < k ->
    preG k ((blksM (2 ^ log) n x ++ tl).take j) log first limit out = (3,out ++ x.take (cutN (2 ^ log) n x j)):=by
 have hp : 0 < 2 ^ log:=Nat.two_pow_pos log
 have short : ∀ (b m : List Int) (first last : Bool) (limit : Int) (out : List Int) (j k : Nat),Bytes b -> b.length <= 40000 -> (b.length : Int) <= limit -> (∀ k,k <= 3 -> (bestP b).1 = (k : Nat) -> a1y (log : Int) first k b.length last = true) -> j < (putM b last).length -> 0 < k -> preG k ((putM b last ++ m).take j) log first limit out = (3,out):=by
  intro b m first last limit out j k hb hl hL hs hj hk
  obtain ⟨k,rfl⟩ : ∃ j,k = j + 1:=⟨k - 1,by omega⟩
  have ho:=(c7h (log:=(log : Int)) hb hl (by omega) hL hs hj).1
  rw [List.take_append_of_le_length (by omega)]
  unfold preG
  rw [ho,if_pos (by show (3 : Int) ≠ 0; decide)]
 have lastc : ∀ (x : List Int) (first : Bool) (limit : Int) (out : List Int) (j k : Nat),Bytes x -> x.length <= 40000 -> x.length <= 2 ^ log -> (x.length = 0 -> first = true) -> (x.length : Int) <= limit -> j < (putM x true ++ tl).length -> 0 < k ->
     preG k ((putM x true ++ tl).take j) log first limit out = (3,out ++ x.take (if j < (putM x true).length then 0 else x.length)):=by
  intro x first limit out j k hb hl hs h0 hL hj hk
  by_cases h : j < (putM x true).length
  · rw [short x tl first true limit out j k hb hl hL (a3w hs h0) h hk,if_pos h,List.take_zero,List.append_nil]
  · rw [if_neg h]
    obtain ⟨k,rfl⟩ : ∃ j,k = j + 1:=⟨k - 1,by omega⟩
    have ho:=a5f (m:=tl.take (j - (putM x true).length)) hb hl (log:=(log : Int)) (by omega) hL (a3w hs h0)
    rw [List.take_append,List.take_of_length_le (by omega)]
    unfold preG
    rw [ho]
    dsimp only
    rw [if_neg (λ h=>h rfl),if_pos rfl,a2M (by rw [a0S]),List.take_length]
    unfold a1j
    rw [if_pos (by rw [List.length_append] at hj; rw [List.length_take]; omega)]
 intro n
 induction n with
 | zero=>
  intro x first limit out j k hb hl hn h0 hL hj hk
  exact lastc x first limit out j k hb hl (by omega) h0 hL hj (by omega)
 | succ n ih=>
  intro x first limit out j k hb hl hn h0 hL hj hk
  unfold blksM at hj ⊢
  unfold cutN
  by_cases h : 2 ^ log < x.length
  · rw [if_pos h] at hj ⊢
    rw [if_pos h]
    rw [List.append_assoc] at hj ⊢
    have hlt : (x.take (2 ^ log)).length = 2 ^ log:=by rw [List.length_take]; omega
    by_cases hj2 : j < (putM (x.take (2 ^ log)) false).length
    · rw [if_pos hj2,List.take_zero,List.append_nil]
      exact short (x.take (2 ^ log)) _ first false limit out j k (a2L hb _) (by omega) (by omega) (λ k _ _=>a3c hlt k) hj2 (by omega)
    · rw [if_neg hj2]
      obtain ⟨k,rfl⟩ : ∃ j,k = j + 1:=⟨k - 1,by omega⟩
      rw [List.take_append,List.take_of_length_le (by omega)]
      have ho:=a5f (m:=(blksM (2 ^ log) n (x.drop (2 ^ log)) ++ tl).take (j - (putM (x.take (2 ^ log)) false).length)) (a2L hb (2 ^ log)) (by omega) (log:=(log : Int)) (room:=limit) (first:=first) (last:=false) (by omega) (by omega) (λ k _ _=>a3c hlt k)
      unfold preG
      rw [ho]
      dsimp only
      rw [if_neg (λ h=>h rfl),if_neg (by simp),a2M (by rw [a0S])]
      have hd : (x.drop (2 ^ log)).length = x.length - 2 ^ log:=by rw [List.length_drop]
      have hpl:=a0S (x.take (2 ^ log)) false
      rw [ih (x.drop (2 ^ log)) false (limit - ((x.take (2 ^ log)).length : Int)) (out ++ x.take (2 ^ log)) (j - (putM (x.take (2 ^ log)) false).length) k (a3O hb _) (by omega) (by omega) (by omega) (by omega) (by rw [List.length_append] at hj; omega) (by omega)]
      rw [List.append_assoc]
      congr 2
      rw [List.take_add]
  · rw [if_neg h] at hj ⊢
    rw [if_neg h]
    exact lastc x first limit out j k hb hl (by omega) h0 hL hj (by omega)
theorem b7n (f : List Int) : ∀ (d i : Nat),(∀ k,k < i + d -> headE k (f.getD k 0) = 0) -> i + d <= f.length -> headG f d i = 0
 | 0,_,_,_=>rfl
 | d + 1,i,h,hl=>by
  unfold headG
  rw [if_neg (by omega),if_neg (λ x=>x (h i (by omega)))]
  exact b7n f d (i + 1) (λ k hk=>h k (by omega)) (by omega)
theorem b7o (f : List Int) : ∀ (d i : Nat),(∀ k,k < f.length -> headE k (f.getD k 0) = 0) -> i <= f.length -> f.length < i + d -> headG f d i = 3
 | 0,i,_,h1,h2=>by omega
 | d + 1,i,h,h1,h2=>by
  unfold headG
  by_cases e : f.length <= i
  · rw [if_pos e]
  · rw [if_neg e,if_neg (λ x=>x (h i (by omega)))]
    exact b7o f d (i + 1) h (by omega) (by omega)
theorem b7p {log : Nat} (h : 10 <= log /\ log <= 17) (m : List Int) : ∀ k,k < 8 -> headE k ((headL log ++ m).getD k 0) = 0:=by
 intro k hk
 have : k = 0 \/ k = 1 \/ k = 2 \/ k = 3 \/ k = 4 \/ k = 5 \/ k = 6 \/ k = 7:=by omega
 rcases this with rfl | rfl | rfl | rfl | rfl | rfl | rfl | rfl
 · rfl
 · rfl
 · rfl
 · rfl
 · rfl
 · show headE 5 (log : Int) = 0
   unfold headE
   rw [if_neg (by omega),if_neg (by omega),if_neg (by omega),if_neg (by omega)]
 · rfl
 · rfl
theorem a3d (log : Nat) : (headL log).length = 8:=rfl
theorem a5n {log : Nat} (h : 10 <= log /\ log <= 17) (m : List Int) : headM (headL log ++ m) = 0:=
 b7n _ 8 0 (λ k hk=>b7p h m k (by omega)) (by rw [List.length_append,a3d]; omega)
theorem c8O (f : List Int) {j k : Nat} (h : k < j) : (f.take j).getD k 0 = f.getD k 0:=by
 rw [List.getD_eq_getElem?_getD,List.getElem?_take,if_pos h,<- List.getD_eq_getElem?_getD]
theorem b7q {log : Nat} (h : 10 <= log /\ log <= 17) (m : List Int) {j : Nat} (hj : j < 8) : headM ((headL log ++ m).take j) = 3:=by
 have hl : ((headL log ++ m).take j).length = j:=by rw [List.length_take,List.length_append,a3d]; omega
 refine b7o _ 8 0 (λ k hk=>?_) (by omega) (by omega)
 rw [hl] at hk
 rw [c8O _ hk]; exact b7p h m k (by omega)
theorem a1R (x : List Int) : (tailL x).length = 4:=a1P _ _
theorem c8P (x : List Int) : a1j (tailL x) x = 0:=by
 unfold a1j
 rw [if_neg (by rw [a1R]; omega),List.take_of_length_le (by rw [a1R]; exact Nat.le_refl _),if_neg (λ h=>h rfl),if_neg (by rw [a1R]; omega)]
theorem c8Q (x m : List Int) (hm : 0 < m.length) : a1j (tailL x ++ m) x = 16:=by
 have e : (tailL x ++ m).take 4 = tailL x:=by rw [List.take_append_of_le_length (by rw [a1R]; exact Nat.le_refl _),List.take_of_length_le (by rw [a1R]; exact Nat.le_refl _)]
 unfold a1j
 rw [if_neg (by rw [List.length_append,a1R]; omega),e,if_neg (λ h=>h rfl),if_pos (by rw [List.length_append,a1R]; omega)]
section
variable {x : List Int} {log : Nat} (hb : Bytes x) (hl : x.length <= 40000) (hlog : 10 <= log /\ log <= 17)
theorem a5o (m : List Int) : encM x log ++ m = headL log ++ (blksM (2 ^ log) x.length x ++ (tailL x ++ m)):=by unfold encM; simp
theorem a8a (m : List Int) : (encM x log ++ m).getD 5 0 = log:=by rw [a5o]; rfl
theorem a6d (m : List Int) : (encM x log ++ m).drop 8 = blksM (2 ^ log) x.length x ++ (tailL x ++ m):=by rw [a5o]; exact a2M rfl
include hb hl hlog in
theorem b7r (m : List Int) {limit : Int} (hL : (x.length : Int) <= limit) : a0C (encM x log ++ m) limit = (a1j (tailL x ++ m) x,x):=by
 have hh : headM (encM x log ++ m) = 0:=by rw [a5o]; exact a5n hlog _
 unfold a0C
 rw [if_neg (by omega),if_neg (λ h=>h hh),a8a,a6d]
 have:=c8L hlog (tailL x ++ m) x.length x true limit [] ((encM x log ++ m).length + 1) hb hl (Nat.le_refl _) (λ _=>rfl) hL (by rw [<- a6d m (x:=x) (log:=log),List.length_drop]; omega)
 rw [this,List.nil_append]
include hb hl hlog in
theorem b7s {limit : Int} (hL : (x.length : Int) <= limit) : a0C (encM x log) limit = (0,x):=by
 have:=b7r hb hl hlog [] hL
 rw [List.append_nil,List.append_nil,c8P] at this
 exact this
include hb hl hlog in
theorem b7t {limit : Int} (hL : (x.length : Int) <= limit) : a1Q (encM x log) limit = (0,x):=by
 unfold a1Q; rw [b7s hb hl hlog hL,if_neg (λ h=>h rfl)]
include hb hl hlog in
theorem c8R {m : List Int} (hm : 0 < m.length) {limit : Int} (hL : (x.length : Int) <= limit) : a0C (encM x log ++ m) limit = (16,x):=by
 rw [b7r hb hl hlog m hL,c8Q x m hm]
include hb hl hlog in
theorem c8S {limit : Nat} (hL : limit < x.length) : a0C (encM x log) limit = (7,x.take (limit / 2 ^ log * 2 ^ log)):=by
 have e:=a6d (x:=x) (log:=log) []
 have e2:=a8a (x:=x) (log:=log) []
 have hh : headM (encM x log ++ []) = 0:=by rw [a5o]; exact a5n hlog _
 rw [List.append_nil] at e e2 hh
 rw [List.append_nil] at e
 unfold a0C
 rw [if_neg (by omega),if_neg (λ h=>h hh),e2,e]
 have:=c8M hlog (tailL x) x.length x true limit [] ((encM x log).length + 1) hb hl (Nat.le_refl _) hL (by rw [<- e,List.length_drop]; omega)
 rw [this,List.nil_append]
include hb hl hlog in
theorem b7u {j : Nat} (hj : j < (encM x log).length) {limit : Int} (hL : (x.length : Int) <= limit) : a0C ((encM x log).take j) limit = (3,x.take (if j < 8 then 0 else cutN (2 ^ log) x.length x (j - 8))):=by
 have hlen : (encM x log).length = 8 + (blksM (2 ^ log) x.length x ++ tailL x).length:=by unfold encM; rw [List.length_append,a3d]
 by_cases h8 : j < 8
 · rw [if_pos h8,List.take_zero]
   have hh:=b7q hlog (blksM (2 ^ log) x.length x ++ tailL x) h8
   have hh' : headM ((encM x log).take j) = 3:=hh
   unfold a0C
   rw [if_neg (by omega),if_pos (by rw [hh']; decide),hh']
 · rw [if_neg h8]
   have e : (encM x log).take j = headL log ++ (blksM (2 ^ log) x.length x ++ tailL x).take (j - 8):=by
    unfold encM
    rw [List.take_append,a3d,List.take_of_length_le (by rw [a3d]; omega)]
   have hh : headM ((encM x log).take j) = 0:=by rw [e]; exact a5n hlog _
   have e2 : ((encM x log).take j).getD 5 0 = log:=by rw [e]; rfl
   have e3 : ((encM x log).take j).drop 8 = (blksM (2 ^ log) x.length x ++ tailL x).take (j - 8):=by rw [e]; exact a2M rfl
   have hlj : ((encM x log).take j).length = j:=by rw [List.length_take]; omega
   unfold a0C
   rw [if_neg (by omega),if_neg (λ h=>h hh),e2,e3,hlj]
   have:=c8N hlog (tailL x) (a1R x) x.length x true limit [] (j - 8) (j + 1) hb hl (Nat.le_refl _) (λ _=>rfl) hL (by omega) (by omega)
   rw [this,List.nil_append]
end
theorem c8T {log : Nat} (hlog : 10 <= log /\ log <= 17) (tl : List Int) : ∀ (n : Nat) (x : List Int) (first : Bool) (limit : Int) (sum k : Nat),Bytes x -> x.length <= 40000 -> x.length <= n -> (x.length = 0 -> first = true) -> (x.length : Int) + sum <= limit -> (blksM (2 ^ log) n x ++ tl).length < k ->
    sizeG k (blksM (2 ^ log) n x ++ tl) log first limit sum = sum + x.length:=by
 have hp : 0 < 2 ^ log:=Nat.two_pow_pos log
 have lastc : ∀ (x : List Int) (first : Bool) (limit : Int) (sum k : Nat),Bytes x -> x.length <= 40000 -> x.length <= 2 ^ log -> (x.length = 0 -> first = true) -> (x.length : Int) + sum <= limit -> 0 < k -> sizeG k (putM x true ++ tl) log first limit sum = sum + x.length:=by
  intro x first limit sum k hb hl hs h0 hL hk
  obtain ⟨k,rfl⟩ : ∃ j,k = j + 1:=⟨k - 1,by omega⟩
  obtain ⟨c,_,_,e⟩:=a2Z (m:=tl) hb hl (log:=(log : Int)) (room:=limit - sum) (by omega) (by omega) (a3w hs h0)
  rw [if_neg (by omega)] at e
  unfold sizeG
  rw [e]
  dsimp only
  rw [if_neg (by rw [List.length_append,a0S]; omega),if_pos rfl]
 intro n
 induction n with
 | zero=>
  intro x first limit sum k hb hl hn h0 hL hk
  exact lastc x first limit sum k hb hl (by omega) h0 hL (by omega)
 | succ n ih=>
  intro x first limit sum k hb hl hn h0 hL hk
  unfold blksM at hk ⊢
  by_cases h : 2 ^ log < x.length
  · rw [if_pos h] at hk ⊢
    rw [List.append_assoc] at hk ⊢
    obtain ⟨k,rfl⟩ : ∃ j,k = j + 1:=⟨k - 1,by omega⟩
    have hlt : (x.take (2 ^ log)).length = 2 ^ log:=by rw [List.length_take]; omega
    obtain ⟨c,_,_,e⟩:=a2Z (m:=blksM (2 ^ log) n (x.drop (2 ^ log)) ++ tl) (a2L hb (2 ^ log)) (by omega) (log:=(log : Int)) (room:=limit - sum) (first:=first) (last:=false) (by omega) (by omega) (λ k _ _=>a3c hlt k)
    rw [if_neg (by omega)] at e
    unfold sizeG
    rw [e]
    dsimp only
    rw [if_neg (by rw [List.length_append,a0S]; omega),if_neg (by simp),a2M (by rw [a0S])]
    have hd : (x.drop (2 ^ log)).length = x.length - 2 ^ log:=by rw [List.length_drop]
    rw [ih (x.drop (2 ^ log)) false limit (sum + (x.take (2 ^ log)).length) k (a3O hb _) (by omega) (by omega) (by omega) (by omega) (by rw [List.length_append,a0S] at hk; omega)]
    omega
  · rw [if_neg h] at hk ⊢
    exact lastc x first limit sum k hb hl (by omega) h0 hL (by omega)
theorem c8U {log : Nat} (hlog : 10 <= log /\ log <= 17) (tl : List Int) : ∀ (n : Nat) (x : List Int) (first : Bool) (limit sum k : Nat),Bytes x -> x.length <= 40000 -> x.length <= n -> limit < x.length -> (blksM (2 ^ log) n x ++ tl).length < k ->
    sizeG k (blksM (2 ^ log) n x ++ tl) log first (limit + sum : Nat) sum = sum + limit / 2 ^ log * 2 ^ log:=by
 have hp : 0 < 2 ^ log:=Nat.two_pow_pos log
 have stop : ∀ (b m : List Int) (first last : Bool) (limit sum k : Nat),Bytes b -> b.length <= 40000 -> limit < b.length -> (∀ k,k <= 3 -> (bestP b).1 = (k : Nat) -> a1y (log : Int) first k b.length last = true) -> 0 < k -> sizeG k (putM b last ++ m) log first (limit + sum : Nat) sum = sum:=by
  intro b m first last limit sum k hb hl hlt hs hk
  obtain ⟨k,rfl⟩ : ∃ j,k = j + 1:=⟨k - 1,by omega⟩
  obtain ⟨c,_,_,e⟩:=a2Z (m:=m) hb hl (log:=(log : Int)) (room:=((limit + sum : Nat) : Int) - sum) (by omega) (by omega) hs
  rw [if_pos (by omega)] at e
  unfold sizeG
  rw [e,if_pos (.inl (by show (7 : Int) ≠ 0; decide))]
 intro n
 induction n with
 | zero=>intro x first limit sum k hb hl hn hL hk; omega
 | succ n ih=>
  intro x first limit sum k hb hl hn hL hk
  unfold blksM at hk ⊢
  by_cases h : 2 ^ log < x.length
  · rw [if_pos h] at hk ⊢
    rw [List.append_assoc] at hk ⊢
    have hlt : (x.take (2 ^ log)).length = 2 ^ log:=by rw [List.length_take]; omega
    by_cases hL2 : limit < 2 ^ log
    · rw [stop (x.take (2 ^ log)) _ first false limit sum k (a2L hb _) (by omega) (by omega) (λ k _ _=>a3c hlt k) (by omega)]
      rw [Nat.div_eq_of_lt hL2,Nat.zero_mul,Nat.add_zero]
    · obtain ⟨k,rfl⟩ : ∃ j,k = j + 1:=⟨k - 1,by omega⟩
      obtain ⟨c,_,_,e⟩:=a2Z (m:=blksM (2 ^ log) n (x.drop (2 ^ log)) ++ tl) (a2L hb (2 ^ log)) (by omega) (log:=(log : Int)) (room:=((limit + sum : Nat) : Int) - sum) (first:=first) (last:=false) (by omega) (by omega) (λ k _ _=>a3c hlt k)
      rw [if_neg (by omega)] at e
      unfold sizeG
      rw [e]
      dsimp only
      rw [if_neg (by rw [List.length_append,a0S]; omega),if_neg (by simp),a2M (by rw [a0S])]
      have hd : (x.drop (2 ^ log)).length = x.length - 2 ^ log:=by rw [List.length_drop]
      rw [show limit + sum = (limit - 2 ^ log) + (sum + (x.take (2 ^ log)).length) by omega]
      rw [ih (x.drop (2 ^ log)) false (limit - 2 ^ log) (sum + (x.take (2 ^ log)).length) k (a3O hb _) (by omega) (by omega) (by omega) (by rw [List.length_append,a0S] at hk; omega)]
      have e1 : limit / 2 ^ log = (limit - 2 ^ log) / 2 ^ log + 1:=by
       have h2 : limit = (limit - 2 ^ log) + 2 ^ log:=by omega
       conv=>lhs; rw [h2]
       rw [Nat.add_div_right _ hp]
      rw [e1,Nat.add_mul,Nat.one_mul]
      omega
  · rw [if_neg h] at hk ⊢
    rw [stop x tl first true limit sum k hb hl hL (a3w (by omega) (by omega)) (by omega)]
    rw [Nat.div_eq_of_lt (by omega),Nat.zero_mul,Nat.add_zero]
theorem c8V {log : Nat} (hlog : 10 <= log /\ log <= 17) (tl : List Int) : ∀ (n : Nat) (x : List Int) (first : Bool) (limit : Int) (sum j k : Nat),Bytes x -> x.length <= 40000 -> x.length <= n -> (x.length = 0 -> first = true) -> (x.length : Int) + sum <= limit -> j < k ->
    sizeG k ((blksM (2 ^ log) n x ++ tl).take j) log first limit sum = sum + cutN (2 ^ log) n x j:=by
 have hp : 0 < 2 ^ log:=Nat.two_pow_pos log
 have short : ∀ (b m : List Int) (first last : Bool) (limit : Int) (sum j k : Nat),Bytes b -> b.length <= 40000 -> (b.length : Int) + sum <= limit -> (∀ k,k <= 3 -> (bestP b).1 = (k : Nat) -> a1y (log : Int) first k b.length last = true) -> j < (putM b last).length -> 0 < k -> sizeG k ((putM b last ++ m).take j) log first limit sum = sum:=by
  intro b m first last limit sum j k hb hl hL hs hj hk
  obtain ⟨k,rfl⟩ : ∃ j,k = j + 1:=⟨k - 1,by omega⟩
  obtain ⟨c,hc,hc3,e⟩:=a2Z (m:=[]) hb hl (log:=(log : Int)) (room:=limit - sum) (by omega) (by omega) hs
  rw [if_neg (by omega),List.append_nil] at e
  have e2:=b6y e j (by omega)
  rw [List.take_append_of_le_length (by omega)]
  unfold sizeG
  rw [e2]
  by_cases h : j < 11
  · rw [if_pos h,if_pos (.inl (by show (3 : Int) ≠ 0; decide))]
  · rw [if_neg h]
    dsimp only
    rw [if_pos (.inr (by rw [List.length_take]; rw [a0S] at hj ⊢; omega))]
 have lastc : ∀ (x : List Int) (first : Bool) (limit : Int) (sum j k : Nat),Bytes x -> x.length <= 40000 -> x.length <= 2 ^ log -> (x.length = 0 -> first = true) -> (x.length : Int) + sum <= limit -> 0 < k ->
     sizeG k ((putM x true ++ tl).take j) log first limit sum = sum + (if j < (putM x true).length then 0 else x.length):=by
  intro x first limit sum j k hb hl hs h0 hL hk
  by_cases h : j < (putM x true).length
  · rw [short x tl first true limit sum j k hb hl hL (a3w hs h0) h hk,if_pos h,Nat.add_zero]
  · rw [if_neg h]
    obtain ⟨k,rfl⟩ : ∃ j,k = j + 1:=⟨k - 1,by omega⟩
    obtain ⟨c,hc,hc3,e⟩:=a2Z (m:=tl.take (j - (putM x true).length)) hb hl (log:=(log : Int)) (room:=limit - sum) (by omega) (by omega) (a3w hs h0)
    rw [if_neg (by omega)] at e
    rw [List.take_append,List.take_of_length_le (by omega)]
    unfold sizeG
    rw [e]
    dsimp only
    rw [if_neg (by rw [List.length_append,a0S]; omega),if_pos rfl]
 intro n
 induction n with
 | zero=>
  intro x first limit sum j k hb hl hn h0 hL hk
  exact lastc x first limit sum j k hb hl (by omega) h0 hL (by omega)
 | succ n ih=>
  intro x first limit sum j k hb hl hn h0 hL hk
  unfold blksM
  unfold cutN
  by_cases h : 2 ^ log < x.length
  · rw [if_pos h,if_pos h,List.append_assoc]
    have hlt : (x.take (2 ^ log)).length = 2 ^ log:=by rw [List.length_take]; omega
    by_cases hj2 : j < (putM (x.take (2 ^ log)) false).length
    · rw [if_pos hj2,Nat.add_zero]
      exact short (x.take (2 ^ log)) _ first false limit sum j k (a2L hb _) (by omega) (by omega) (λ k _ _=>a3c hlt k) hj2 (by omega)
    · rw [if_neg hj2]
      obtain ⟨k,rfl⟩ : ∃ j,k = j + 1:=⟨k - 1,by omega⟩
      rw [List.take_append,List.take_of_length_le (by omega)]
      obtain ⟨c,hc,hc3,e⟩:=a2Z (m:=(blksM (2 ^ log) n (x.drop (2 ^ log)) ++ tl).take (j - (putM (x.take (2 ^ log)) false).length)) (a2L hb (2 ^ log)) (by omega) (log:=(log : Int)) (room:=limit - sum) (first:=first) (last:=false) (by omega) (by omega) (λ k _ _=>a3c hlt k)
      rw [if_neg (by omega)] at e
      unfold sizeG
      rw [e]
      dsimp only
      rw [if_neg (by rw [List.length_append,a0S]; omega),if_neg (by simp),a2M (by rw [a0S])]
      have hd : (x.drop (2 ^ log)).length = x.length - 2 ^ log:=by rw [List.length_drop]
      have hpl:=a0S (x.take (2 ^ log)) false
      rw [ih (x.drop (2 ^ log)) false limit (sum + (x.take (2 ^ log)).length) (j - (putM (x.take (2 ^ log)) false).length) k (a3O hb _) (by omega) (by omega) (by omega) (by omega) (by omega)]
      omega
  · rw [if_neg h,if_neg h]
    exact lastc x first limit sum j k hb hl (by omega) h0 hL (by omega)
section
variable {x : List Int} {log : Nat} (hb : Bytes x) (hl : x.length <= 40000) (hlog : 10 <= log /\ log <= 17)
include hb hl hlog in
theorem b7v {limit : Int} (hL : (x.length : Int) <= limit) : sizeM (encM x log) limit = x.length:=by
 have e:=a6d (x:=x) (log:=log) []
 have e2:=a8a (x:=x) (log:=log) []
 have hh : headM (encM x log ++ []) = 0:=by rw [a5o]; exact a5n hlog _
 rw [List.append_nil] at e e2 hh
 rw [List.append_nil] at e
 unfold sizeM
 rw [if_neg (λ h=>h.elim (λ h=>h hh) (λ h=>by omega)),e2,e]
 have:=c8T hlog (tailL x) x.length x true limit 0 ((encM x log).length + 1) hb hl (Nat.le_refl _) (λ _=>rfl) (by omega) (by rw [<- e,List.length_drop]; omega)
 rw [this,Nat.zero_add]
include hb hl hlog in
theorem c8W {limit : Nat} (hL : limit < x.length) : sizeM (encM x log) limit = limit / 2 ^ log * 2 ^ log:=by
 have e:=a6d (x:=x) (log:=log) []
 have e2:=a8a (x:=x) (log:=log) []
 have hh : headM (encM x log ++ []) = 0:=by rw [a5o]; exact a5n hlog _
 rw [List.append_nil] at e e2 hh
 rw [List.append_nil] at e
 unfold sizeM
 rw [if_neg (λ h=>h.elim (λ h=>h hh) (λ h=>by omega)),e2,e]
 have:=c8U hlog (tailL x) x.length x true limit 0 ((encM x log).length + 1) hb hl (Nat.le_refl _) hL (by rw [<- e,List.length_drop]; omega)
 exact this.trans (Nat.zero_add _)
include hb hl hlog in
theorem c8X {j : Nat} (hj : j < (encM x log).length) {limit : Int} (hL : (x.length : Int) <= limit) : sizeM ((encM x log).take j) limit = if j < 8 then 0 else cutN (2 ^ log) x.length x (j - 8):=by
 by_cases h8 : j < 8
 · rw [if_pos h8]
   have hh : headM ((encM x log).take j) = 3:=b7q hlog (blksM (2 ^ log) x.length x ++ tailL x) h8
   unfold sizeM
   rw [if_pos (.inl (by rw [hh]; decide))]
 · rw [if_neg h8]
   have e : (encM x log).take j = headL log ++ (blksM (2 ^ log) x.length x ++ tailL x).take (j - 8):=by
    unfold encM
    rw [List.take_append,a3d,List.take_of_length_le (by rw [a3d]; omega)]
   have hh : headM ((encM x log).take j) = 0:=by rw [e]; exact a5n hlog _
   have e2 : ((encM x log).take j).getD 5 0 = log:=by rw [e]; rfl
   have e3 : ((encM x log).take j).drop 8 = (blksM (2 ^ log) x.length x ++ tailL x).take (j - 8):=by rw [e]; exact a2M rfl
   have hlj : ((encM x log).take j).length = j:=by rw [List.length_take]; omega
   unfold sizeM
   rw [if_neg (λ h=>h.elim (λ h=>h hh) (λ h=>by omega)),e2,e3,hlj]
   have:=c8V hlog (tailL x) x.length x true limit 0 (j - 8) (j + 1) hb hl (Nat.le_refl _) (λ _=>rfl) (by omega) (by omega)
   rw [this,Nat.zero_add]
end
def nBlks (s : Nat) : Nat -> Nat -> Nat
 | 0,_=>1
 | n + 1,l=>if s < l then 1 + nBlks s n (l - s) else 1
theorem b7w {s : Nat} (hs : 0 < s) : ∀ (n l : Nat),l <= n -> nBlks s n l = max 1 ((l + s - 1) / s)
 | 0,l,h=>by
  have : l = 0:=by omega
  subst this
  unfold nBlks
  rw [Nat.div_eq_of_lt (by omega)]; rfl
 | n + 1,l,h=>by
  unfold nBlks
  by_cases h1 : s < l
  · rw [if_pos h1,b7w hs n (l - s) (by omega)]
    have e : l + s - 1 = (l - s + s - 1) + s:=by omega
    rw [e,Nat.add_div_right _ hs]
    have : 1 <= (l - s + s - 1) / s:=(Nat.le_div_iff_mul_le hs).2 (by omega)
    omega
  · rw [if_neg h1]
    have : (l + s - 1) / s <= 1:=by
     have : (l + s - 1) / s < 2:=(Nat.div_lt_iff_lt_mul hs).2 (by omega)
     omega
    omega
theorem a8b (s : Nat) : ∀ (n : Nat) (x : List Int),11 * nBlks s n x.length <= (blksM s n x).length /\ (blksM s n x).length <= x.length + 11 * nBlks s n x.length
 | 0,x=>by
  unfold blksM nBlks
  have:=a2I x
  rw [a0S]; omega
 | n + 1,x=>by
  unfold blksM nBlks
  by_cases h : s < x.length
  · rw [if_pos h,if_pos h,List.length_append,a0S]
    have h1:=a2I (x.take s)
    have h2:=a8b s n (x.drop s)
    rw [List.length_drop] at h2
    rw [List.length_take] at h1
    omega
  · rw [if_neg h,if_neg h]
    have:=a2I x
    rw [a0S]; omega
theorem a6e (x : List Int) (log : Nat) : 12 + 11 * nBlks (2 ^ log) x.length x.length <= (encM x log).length /\ (encM x log).length <= 12 + x.length + 11 * nBlks (2 ^ log) x.length x.length:=by
 have:=a8b (2 ^ log) x.length x
 unfold encM
 rw [List.length_append,List.length_append,a3d,a1R]; omega
open Go.IntWalk Go.Proofs.YtflfjpkmjnnodaaGreatW.PrintWords
def logP (log : Int) : Bool:=decide (10 <= log) && decide (log <= 17)
theorem logP_iff {log : Int} : logP log = true ↔ 10 <= log /\ log <= 17:=by unfold logP; rw [Bool.and_eq_true,decide_eq_true_eq,decide_eq_true_eq]
set_option maxRecDepth 100000 in
theorem b0U (log : Int) (w : World) : Calls Tryz.prog 92 #[.int .i64 log] w (λ e w'=>e = .returned (.bool (logP log)) /\ Drawn0 w w'):=by
 go_enter Tryz.func92,Tryz.ntmps92
 go_wp2_with fail
 all_goals
  go_ret
  refine ⟨a0X ?_,Drawn0.refl _⟩
  unfold logP
  first | rfl | (rw [Bool.eq_iff_iff]; simp; done) | (rw [Bool.eq_iff_iff]; simp; omega)
set_option maxRecDepth 100000 in
set_option maxHeartbeats 1000000 in
theorem c8Y (n : Nat) (w : World) (hn : n < 4294967296) :
    Calls Tryz.prog 93 #[.int .u32 n] w (λ e w'=>∃ A c,e = .returned (.slice A 4 c) /\ (Kd.int .u8).R 5 w' w.heap.size (λ _=>True) (.slice A 4 c) (leN n 4) /\ Below w.heap.size w w'):=by
 have hk : (4 : Nat) <= 4:=by omega
 go_enter Tryz.func93,Tryz.ntmps93
 go_wp2_with fail
 go_loopw [3,4,5] (λ v _ kv wr=>∃ i : Nat,i <= 4 /\ kv = .int .i64 i /\ Hid ((Kd.int .u8).R 5 wr w.heap.size (λ _=>True) v (leN n i) /\ Below w.heap.size w wr)) (λ _ _ kv _=>4 - (intOf kv).toNat)
 case atStart=>exact ⟨0,by omega,rfl,Lib.hid ⟨Kd.R_nil _ _ _ _ _,Below.refl _ _⟩⟩
 case round=>
  obtain ⟨i,hi,rfl,H⟩:=hrel
  by_cases hlt : i < 4
  · obtain ⟨Av,cv,rfl⟩:=Kd.R_slice H.out.1
    have hI : (i : Int) < 4:=by omega
    have HN:=Lib.hid (b0A n i)
    have hLl : (leN n i).length = i:=a1P n i
    obtain ⟨L,hL⟩ : ∃ L,L = leN n i:=⟨_,rfl⟩
    rw [<- hL] at H HN hLl ⊢
    have HLn : Hid (L.length + 1 <= 140737488355328):=Lib.hid (by omega)
    have HO:=Lib.hid H.out.1
    have HB:=Lib.hid H.out.2
    have HE : Hid (∀ y : Int,y = ((n / 256 ^ i % 256 : Nat) : Int) -> leN n (i + 1) = L ++ [y]):=Lib.hid (λ y hy=>by rw [hy]; exact HN.out)
    have hi4 : i = 0 \/ i = 1 \/ i = 2 \/ i = 3:=by omega
    clear hL HN
    rcases hi4 with rfl | rfl | rfl | rfl
    all_goals
     go_wp2_with (at_builtin; refine app8i rfl rfl rfl rfl HO HB HB.out.size HLn ?_; intro A1 c1 w3 hr3 hb3 _; have HA:=Lib.hid (And.intro hr3 hb3); clear hr3 hb3)
     go_roundw
     case rel=>
      have hnn:=hn
      have HV:=HA.out.1
      rw [hLl] at HV
      first
       | exact ⟨0 + 1,by omega,by go_num,Lib.hid ⟨by rw [HE.out ((n : Int) % 256) (by clear HA HV; first | rfl | (simp; done) | (simp; omega))]; exact HV,HA.out.2⟩⟩
       | exact ⟨1 + 1,by omega,by go_num,Lib.hid ⟨by rw [HE.out ((n : Int) / 256 % 256) (by clear HA HV; first | rfl | (simp; done) | (simp; omega))]; exact HV,HA.out.2⟩⟩
       | exact ⟨2 + 1,by omega,by go_num,Lib.hid ⟨by rw [HE.out ((n : Int) / 65536 % 256) (by clear HA HV; first | rfl | (simp; done) | (simp; omega))]; exact HV,HA.out.2⟩⟩
       | exact ⟨3 + 1,by omega,by go_num,Lib.hid ⟨by rw [HE.out ((n : Int) / 16777216) (by clear HA HV; simp; omega)]; exact HV,HA.out.2⟩⟩
     case measure=>first | (simp [intOf]; done) | (simp [intOf]; omega)
  · obtain rfl : i = 4:=by omega
    obtain ⟨Av,cv,rfl⟩:=Kd.R_slice H.out.1
    rw [a1P] at H ⊢
    go_wp2_with fail
    go_ret
    exact ⟨_,_,rfl,H.out.1,H.out.2⟩
set_option maxRecDepth 100000 in
theorem b7x (A : Option Addr) (c : Nat) (b : List Int) (w : World) (hr : (Kd.int .u8).C w A b.length b) (hl : b.length <= 1000000000000) (hb : Bytes b) :
    Calls Tryz.prog 43 #[.slice A b.length c] w (λ e w'=>∃ A c,e = .returned (.slice A 4 c) /\ (Kd.int .u8).R 5 w' w.heap.size (λ _=>True) (.slice A 4 c) (tailL b) /\ Below w.heap.size w w'):=by
 have HR:=Lib.hid hr
 have HX:=Lib.hid hb
 have HS : Hid (a0R 0 b < 4294967296):=Lib.hid (by have:=a5O 0 b; omega)
 clear hr hb
 go_enter Tryz.func43,Tryz.ntmps43
 go_wp2_with fail
 refine (a4o w).mono ?_
 rintro e w1 ⟨p,rfl,hp1,ht1,hb1⟩
 have HC:=Lib.hid (a5W p A c b w1 ht1 (Kd.C_below HR.out hb1) hl HX.out)
 have HB1:=Lib.hid hb1
 clear hp1 ht1 hb1
 go_wp2_with fail
 refine HC.out.mono ?_
 rintro e w1' ⟨rfl,rfl⟩
 go_wp2_with fail
 refine (c8Y (a0R 0 b) w1 HS.out).mono ?_
 rintro e w2 ⟨A2,c2,rfl,h2,hb2⟩
 have H2:=Lib.hid (And.intro h2 hb2)
 clear h2 hb2
 go_wp2_with fail
 go_ret
 exact ⟨A2,c2,rfl,Kd.R_lower H2.out.1 HB1.out.size,a0h HB1.out H2.out.2⟩
theorem b7z (w : World) (cs : List Value) (e : TypeId) (fr : Nat × Nat) (j : Nat) (u : Value) (h : cs[j]? = some u) : (w.alloc (.cells cs.toArray e fr)).cell? ((⟨w.heap.size,0,none⟩ : Addr).add j) = some u:=by
 have h1 : (w.alloc (.cells cs.toArray e fr)).heap[w.heap.size]? = some (.cells cs.toArray e fr):=World.alloc_heap_new w _
 have e1 : ((⟨w.heap.size,0,none⟩ : Addr).add j) = ⟨w.heap.size,j,none⟩:=by
  unfold Addr.add
  split
  · rename_i h0; rw [h0]
  · simp
 rw [e1]
 unfold World.cell?
 rw [h1]
 simpa using h
set_option maxRecDepth 100000 in
theorem a8c (L : Nat) (w : World) (hL : 10 <= L /\ L <= 17) : Calls Tryz.prog 41 #[.int .i64 L] w (Told 0 (headL L) w):=by
 have h : logP (L : Int) = true:=logP_iff.2 (by omega)
 have hw8 : IntKind.u8.wrap (L : Int) = (L : Int):=by rw [IntKind.wrap_u8']; omega
 go_enter Tryz.func41,Tryz.ntmps41
 go_wp2_with fail
 refine (b0U L w).mono ?_
 rintro e w1 ⟨rfl,hd⟩
 rw [h]
 have HB:=Lib.hid hd.below
 clear hd
 have hcv:=Lib.run_convert_bytes_const (P:=Tryz.prog) w1 22 5 #[.int .u8 80,.int .u8 78,.int .u8 67,.int .u8 72] 4 4 Tryz.underlying22 Tryz.underlying5
 obtain ⟨w2,hw2⟩ : ∃ w2,w2 = w1.alloc (.cells #[.int .u8 80,.int .u8 78,.int .u8 67,.int .u8 72] 5 (4,5)):=⟨_,rfl⟩
 have hcv2 : (convert 22 22 (.slice (some ⟨w1.heap.size,0,none⟩) 4 4)).run Tryz.prog (w1.alloc (.cells #[.int .u8 80,.int .u8 78,.int .u8 67,.int .u8 72] 5)) = .ok (.slice (some ⟨w1.heap.size,0,none⟩) 4 4) w2:=by rw [hw2]; exact hcv
 have hb2 : Below w1.heap.size w1 w2:=by rw [hw2]; exact (Below.refl _ _).alloc (Nat.le_refl _) _
 have HC1 : Hid (∀ o : Obj,∀ j u,([.int .u8 80,.int .u8 78,.int .u8 67,.int .u8 72] : List Value)[j]? = some u -> (w2.alloc o).cell? ((⟨w1.heap.size,0,none⟩ : Addr).add j) = some u):=Lib.hid (λ o j u h=>a0s ((Below.refl _ _).alloc (Nat.le_refl _) o) (by rw [hw2]; exact b7z w1 _ 5 (4,5) j u h))
 have HC2 : Hid (∀ j u,([.int .u8 1,.int .u8 L,.int .u8 0,.int .u8 0] : List Value)[j]? = some u -> (w2.alloc (.cells #[.int .u8 1,.int .u8 L,.int .u8 0,.int .u8 0] 5)).cell? ((⟨w2.heap.size,0,none⟩ : Addr).add j) = some u):=Lib.hid (λ j u h=>b7z w2 _ 5 (0,0) j u h)
 have HB2 : Hid (Below w1.heap.size w1 (w2.alloc (.cells #[.int .u8 1,.int .u8 L,.int .u8 0,.int .u8 0] 5))):=Lib.hid (hb2.alloc hb2.size _)
 obtain ⟨i0,hi0,hz0,hz1,hz2⟩:=info_parts a0E
 have H0:=Lib.hid (And.intro hi0 (And.intro hz0 (And.intro hz1 hz2)))
 clear hcv hw2 hb2 hi0 hz0 hz1 hz2
 go_wp2_with (at_builtin; refine wpList_append_grows _ rfl (.tmp 8) (.tmp 11) 22 rfl 5 i0 (.int .u8 0) 1 1 Tryz.underlying22 H0.out.1 H0.out.2.1 H0.out.2.2.1 H0.out.2.2.2 rfl (by decide) (some ⟨w1.heap.size,0,none⟩) 4 4 [.int .u8 80,.int .u8 78,.int .u8 67,.int .u8 72] rfl (λ h=>by cases h) rfl (λ b hb j u h=>by injection hb with e; rw [<- e]; exact HC1.out _ j u h) ⟨w2.heap.size,0,none⟩ 4 4 [.int .u8 1,.int .u8 L,.int .u8 0,.int .u8 0] rfl rfl HC2.out (by simp [Value.oneCell']) (by decide) (by decide) (by decide) ?_; intro v4 w4 ho4 hg4; have HR4:=Lib.hid (And.intro ho4 hg4); clear ho4 hg4)
 have hr4 : (Kd.int .u8).R 5 w4 (w2.alloc (.cells #[.int .u8 1,.int .u8 L,.int .u8 0,.int .u8 0] 5)).heap.size (λ _=>True) v4 (headL L):=Kd.R_of_own (h1:=λ _=>rfl) HR4.out.1 (λ _ _=>trivial)
 obtain ⟨A4,c4,rfl⟩:=Kd.R_slice hr4
 have H4:=Lib.hid (Kd.R_lower hr4 (Nat.le_trans HB.out.size HB2.out.size))
 have HB4 : Hid (Below w.heap.size w w4):=Lib.hid (b2z (a0h HB.out HB2.out) HR4.out.2 (λ k hk=>by cases hk) (Nat.le_trans HB.out.size HB2.out.size))
 clear hr4
 go_ret2
 exact ⟨A4,c4,rfl,H4.out,HB4.out⟩
end Go.Proofs.YtflfjpkmjnnodaaGreat
namespace Go.Proofs.YtflfjpkmjnnodaaGreat
open Go.RowKit
def fullL (s : Nat) : Nat -> List Int -> List Int
 | 0,_=>[]
 | n + 1,x=>if s < x.length then putM (x.take s) false ++ fullL s n (x.drop s) else []
def endL (s : Nat) : Nat -> List Int -> List Int
 | 0,x=>x
 | n + 1,x=>if s < x.length then endL s n (x.drop s) else x
theorem b0V (s : Nat) : ∀ (n : Nat) (x : List Int),blksM s n x = fullL s n x ++ putM (endL s n x) true
 | 0,_=>rfl
 | n + 1,x=>by
  unfold blksM fullL endL
  by_cases h : s < x.length
  · rw [if_pos h,if_pos h,if_pos h,b0V s n,List.append_assoc]
  · rw [if_neg h,if_neg h,if_neg h,List.nil_append]
theorem b7A {s : Nat} (hs : 0 < s) : ∀ (n : Nat) (x : List Int),x.length <= n -> (endL s n x).length <= s /\ (endL s n x).length <= x.length /\ (0 < x.length -> 0 < (endL s n x).length)
 | 0,x,h=>by unfold endL; omega
 | n + 1,x,h=>by
  unfold endL
  by_cases h1 : s < x.length
  · rw [if_pos h1]
    obtain ⟨a,b,c⟩:=b7A hs n (x.drop s) (by rw [List.length_drop]; omega)
    rw [List.length_drop] at b c
    exact ⟨a,by omega,λ _=>c (by omega)⟩
  · rw [if_neg h1]; omega
theorem b7B (s : Nat) : ∀ (n : Nat) {x : List Int},Bytes x -> Bytes (endL s n x)
 | 0,_,h=>h
 | n + 1,x,h=>by
  unfold endL
  split
  · exact b7B s n (a3O h s)
  · exact h
theorem b0X (s : Nat) : ∀ (n : Nat) {x : List Int},Bytes x -> x.length <= 131072 -> Bytes (fullL s n x)
 | 0,_,_,_=>λ _ h=>by cases h
 | n + 1,x,h,hl=>by
  unfold fullL
  split
  · exact a1G (a7N (a2L h s) (by rw [List.length_take]; omega) false) (b0X s n (a3O h s) (by rw [List.length_drop]; omega))
  · intro y hy; cases hy
def goneL (log : Nat) (x : List Int) : List Int:=headL log ++ fullL (2 ^ log) x.length x
def leftL (log : Nat) (x : List Int) : List Int:=endL (2 ^ log) x.length x
theorem b0Z (log : Nat) (x : List Int) : encM x log = goneL log x ++ (putM (leftL log x) true ++ tailL x):=by
 unfold encM goneL leftL
 rw [b0V,List.append_assoc,List.append_assoc]
theorem a5p (s : Nat) : ∀ n l : Nat,nBlks s n l <= n + 1
 | 0,_=>Nat.le_refl _
 | n + 1,l=>by
  unfold nBlks
  have:=a5p s n (l - s)
  split <;> omega
theorem c9b {L : Nat} (hL : L <= 17) {x : List Int} (hb : Bytes x) (hl : x.length <= 131072) : Bytes (goneL L x):=by
 unfold goneL
 refine a1G (λ y hy=>?_) (b0X _ _ hb hl)
 simp [headL] at hy; omega
theorem a4u (L : Nat) (x : List Int) : (leftL L x).length <= x.length:=(b7A (Nat.two_pow_pos L) x.length x (Nat.le_refl _)).2.1
theorem b1a (L : Nat) {x : List Int} (h : Bytes x) : Bytes (leftL L x):=b7B _ _ h
theorem b7F (x : List Int) (L : Nat) (h : x.length <= 40000) : (encM x L).length <= 1000000:=by
 have h2:=(a6e x L).2
 have h3:=a5p (2 ^ L) x.length x.length
 omega
theorem b1c {L : Nat} (hL : L <= 17) {x : List Int} (hb : Bytes x) (hl : x.length <= 40000) : Bytes (encM x L):=by
 rw [b0Z]
 exact a1G (c9b hL hb (by omega)) (a1G (a7N (b1a L hb) (by have:=a4u L x; omega) true) (a5e _ _))
open Go.IntWalk Go.Proofs.YtflfjpkmjnnodaaGreatW.PrintWords
theorem BSl.from_ {w : World} {A : Option Addr} {c : Nat} {p : List Int} (h : BSl w A c p) {k : Nat} (hk : k <= p.length) : BSl w (if c = k then A else A.map (·.add (k * 1))) (c - k) (p.drop k):=
 ⟨Kd.C_drop h.row hk h.cap,by rw [List.length_drop]; have:=h.cap; omega,λ ha=>by
  have h0 : A = none:=by
   split at ha
   · exact ha
   · exact Option.map_eq_none_iff.1 ha
  have:=h.nil h0; omega,λ x hx=>h.by' x (List.mem_of_mem_drop hx)⟩
def slN : Value -> Nat
 | .slice _ n _=>n
 | _=>0
theorem c9e {s m : Nat} {r : List Int} (hs : 0 < s) (h : r.length <= m) (hl : s < r.length) : ∃ m',blksM s m r = putM (r.take s) false ++ blksM s m' (r.drop s) /\ (r.drop s).length <= m':=by
 obtain ⟨m,rfl⟩ : ∃ j,m = j + 1:=⟨m - 1,by omega⟩
 refine ⟨m,?_,by rw [List.length_drop]; omega⟩
 conv=>lhs; unfold blksM
 rw [if_pos hl]
theorem c9f {s : Nat} {r : List Int} (hl : ¬ s < r.length) : ∀ m,blksM s m r = putM r true
 | 0=>rfl
 | m + 1=>by unfold blksM; rw [if_neg hl]
theorem c9g (s : Nat) {x : List Int} (hl : x.length <= 40000) (L : Nat) : (headL L ++ blksM s x.length x).length <= 1000000:=by
 have h:=(a8b s x.length x).2
 have h2:=a5p s x.length x.length
 rw [List.length_append,a3d]
 omega
set_option maxRecDepth 100000 in
set_option maxHeartbeats 2000000 in
theorem a6f (A : Option Addr) (c : Nat) (x : List Int) (L : Nat) (w : World) (hx : BSl w A c x) (hl : x.length <= 40000) (hL : 10 <= L /\ L <= 17) :
    Calls Tryz.prog 40 #[.slice A x.length c,.int .i64 L] w (Told 0 (encM x L) w):=by
 obtain ⟨s,hs⟩ : ∃ s : Nat,s = 2 ^ L:=⟨_,rfl⟩
 have hsI : (2 : Int) ^ L = (s : Int):=by rw [hs]; simp
 have hL0 : ¬ (L : Int) < 0:=by omega
 have hs2 : s <= 131072:=by rw [hs]; exact Nat.le_trans (Nat.pow_le_pow_right (by decide : 2 > 0) hL.2) (by decide)
 have hs1 : 1024 <= s:=by rw [hs]; exact Nat.le_trans (by decide) (Nat.pow_le_pow_right (by decide : 2 > 0) hL.1)
 have hsw : IntKind.i64.wrap (s : Int) = (s : Int):=i64_in _ (by omega)
 have d1 : decide ((1073741824 : Int) < (x.length : Int)) = false:=decide_eq_false (by omega)
 have hTl:=c9g s hl L
 obtain ⟨T,hT⟩ : ∃ T,T = headL L ++ blksM s x.length x:=⟨_,rfl⟩
 have HE : Hid (encM x L = T ++ tailL x):=Lib.hid (by rw [hT,hs]; unfold encM; rw [List.append_assoc])
 rw [<- hT] at hTl
 have HT:=Lib.hid (And.intro hT hTl)
 have HX:=Lib.hid (And.intro hx hl)
 have HL:=Lib.hid hL
 clear hx hTl hT hs
 go_enter Tryz.func40,Tryz.ntmps40
 go_wp2_with fail
 refine (a8c L w hL).mono ?_
 rintro e w1 ⟨A1,c1,rfl,hr1,hb1⟩
 have H1:=Lib.hid (And.intro hr1 hb1)
 clear hr1 hb1
 go_wp2_with fail
 go_loopw [6,9,10,11] (λ ov rv _ _ wr=>∃ (Lo r : List Int) (m : Nat) (Ao Ar : Option Addr) (co cr : Nat),ov = .slice Ao Lo.length co /\ rv = .slice Ar r.length cr /\ Hid ((Kd.int .u8).R 5 wr w.heap.size (λ _=>True) (.slice Ao Lo.length co) Lo /\ Below w.heap.size w wr /\ BSl w Ar cr r /\ r.length <= m /\ r.length <= 40000 /\ Lo ++ blksM s m r = T)) (λ _ rv _ _ _=>slN rv)
 case atStart=>exact ⟨headL L,x,x.length,A1,A,c1,c,rfl,rfl,Lib.hid ⟨H1.out.1,H1.out.2,HX.out.1,Nat.le_refl _,HX.out.2,HT.out.1.symm⟩⟩
 case round=>
  obtain ⟨Lo,r,m,Ao,Ar,co,cr,rfl,rfl,H⟩:=hrel
  by_cases hlt : s < r.length
  · have hI : (s : Int) < (r.length : Int):=by omega
    obtain ⟨m',hm1,hm2⟩:=c9e (by omega) H.out.2.2.2.1 hlt
    have hsl:=a2X Ar r.length cr s (by omega) H.out.2.2.1.cap
    have hsf:=a3a Ar r.length cr s (by omega)
    have htl : (r.take s).length = s:=by rw [List.length_take]; omega
    have hdl : (r.drop s).length = r.length - s:=List.length_drop
    have HP:=Lib.hid (a5m Ar cr (r.take s) false wr ((H.out.2.2.1.cut (k:=s) (by omega)).below H.out.2.1).row (H.out.2.2.1.cut (k:=s) (by omega)).by' (by rw [htl]; have:=H.out.2.2.2.2.1; omega) (.inr (by omega)))
    rw [htl] at HP
    obtain ⟨y,hy⟩ : ∃ y,y = putM (r.take s) false:=⟨_,rfl⟩
    rw [<- hy] at HP hm1
    have HTl : Hid (Lo.length + y.length <= 1000000):=Lib.hid (by
     have h1:=HT.out.2
     rw [<- H.out.2.2.2.2.2,hm1,List.length_append,List.length_append] at h1
     omega)
    have HM:=Lib.hid (And.intro hm1 hm2)
    have HDr:=Lib.hid (H.out.2.2.1.from_ (k:=s) (by omega))
    obtain ⟨Ad,hAd⟩ : ∃ Ad,Ad = (if cr = s then Ar else Ar.map (·.add (s * 1))):=⟨_,rfl⟩
    rw [<- hAd] at HDr hsf
    obtain ⟨rd,hrd⟩ : ∃ rd,rd = r.drop s:=⟨_,rfl⟩
    rw [<- hrd] at HDr hdl HM
    have hrl : r.length - s = rd.length:=hdl.symm
    rw [hrl] at hsf
    have hrds : rd.length < r.length:=by omega
    clear hm1 hm2 htl hy hAd hrd hlt hrl hdl
    go_wp2_with fail
    refine HP.out.mono ?_
    rintro e w3 ⟨A3,c3,rfl,hr3,hb3⟩
    have HO3:=Lib.hid (Kd.R_below H.out.1 hb3)
    have HC3:=Lib.hid (Kd.R_reads' hr3).2.2
    have HB3:=Lib.hid (H.out.2.1.trans (hb3.mono H.out.2.1.size))
    have HZ3 : Hid (Lo.length + y.length <= 140737488355328):=Lib.hid (by have:=HTl.out; omega)
    clear hr3 hb3
    go_wp2_with (at_builtin; refine app8 rfl rfl rfl rfl HO3 HC3 HB3 HB3.out.size HZ3 ?_; intro A4 c4 w4 hr4 hb4 _; have HR4:=Lib.hid (And.intro hr4 hb4); clear hr4 hb4)
    go_roundw
    case rel=>exact ⟨Lo ++ y,rd,m',A4,Ad,c4,cr - s,by rw [List.length_append],rfl,Lib.hid ⟨by rw [List.length_append]; exact HR4.out.1,HR4.out.2,HDr.out,HM.out.2,by have:=H.out.2.2.2.2.1; omega,by rw [List.append_assoc,<- HM.out.1]; exact H.out.2.2.2.2.2⟩⟩
    case measure=>simp [slN]; omega
  · have hI : ¬ (s : Int) < (r.length : Int):=by omega
    have hm:=c9f hlt m
    have HP:=Lib.hid (a5m Ar cr r true wr (H.out.2.2.1.below H.out.2.1).row H.out.2.2.1.by' (by have:=H.out.2.2.2.2.1; omega) (.inl rfl))
    obtain ⟨y,hy⟩ : ∃ y,y = putM r true:=⟨_,rfl⟩
    rw [<- hy] at HP hm
    have hT2:=H.out.2.2.2.2.2
    rw [hm] at hT2
    have HT2:=Lib.hid hT2
    have HTl : Hid (Lo.length + y.length <= 140737488355328):=Lib.hid (by
     have h1:=HT.out.2
     rw [<- hT2,List.length_append] at h1
     omega)
    have HTm : Hid (Lo.length + y.length + 4 <= 140737488355328):=Lib.hid (by
     have h1:=HT.out.2
     rw [<- hT2,List.length_append] at h1
     omega)
    clear hm hy hlt hT2
    go_wp2_with fail
    refine HP.out.mono ?_
    rintro e w3 ⟨A3,c3,rfl,hr3,hb3⟩
    have HO3:=Lib.hid (Kd.R_below H.out.1 hb3)
    have HC3:=Lib.hid (Kd.R_reads' hr3).2.2
    have HB3:=Lib.hid (H.out.2.1.trans (hb3.mono H.out.2.1.size))
    clear hr3 hb3
    go_wp2_with (at_builtin; refine app8 rfl rfl rfl rfl HO3 HC3 HB3 HB3.out.size HTl ?_; intro A4 c4 w4 hr4 hb4 _; have HR4:=Lib.hid (And.intro hr4 hb4); clear hr4 hb4)
    refine (b7x A c x w4 (HX.out.1.below HR4.out.2).row (by omega) HX.out.1.by').mono ?_
    rintro e w5 ⟨A5,c5,rfl,hr5,hb5⟩
    have HO5:=Lib.hid (Kd.R_below HR4.out.1 hb5)
    have HC5 : Hid ((Kd.int .u8).C w5 A5 4 (tailL x)):=Lib.hid (by have:=(Kd.R_reads' hr5).2.2; rw [a1R] at this; exact this)
    have HB5:=Lib.hid (HR4.out.2.trans (hb5.mono HR4.out.2.size))
    have HL5 : Hid ((Lo ++ y).length + 4 <= 140737488355328):=Lib.hid (by rw [List.length_append]; exact HTm.out)
    clear hr5 hb5
    go_wp2_with (at_builtin; refine app8 rfl rfl rfl rfl HO5 HC5 HB5 HB5.out.size HL5 ?_; intro A6 c6 w6 hr6 hb6 _; have HR6:=Lib.hid (And.intro hr6 hb6); clear hr6 hb6)
    go_ret2
    have hfin : (encM x L).length = Lo.length + y.length + 4:=by rw [HE.out,<- HT2.out,List.length_append,List.length_append,a1R]
    have hT4 : T.length + 4 = (encM x L).length:=by rw [HE.out,List.length_append,a1R]
    refine ⟨A6,c6,?_,?_,HR6.out.2⟩
    · rw [hfin]; rfl
    · have h6:=HR6.out.1
      rw [HT2.out,<- HE.out,hT4] at h6
      exact h6
def someL (b : List Int) (fill : Int) (k : Nat) : List Int:=b ++ List.replicate k fill
theorem a4v (b : List Int) (fill : Int) (k : Nat) : (someL b fill k).length = b.length + k:=by simp [someL]
theorem a6g {b : List Int} (h : Bytes b) {fill : Int} (hf : 0 <= fill /\ fill < 256) (k : Nat) : Bytes (someL b fill k):=λ x hx=>by
 rcases List.mem_append.1 hx with h1 | h1
 · exact h x h1
 · rw [List.eq_of_mem_replicate h1]; exact hf
theorem c9h (b : List Int) (fill : Int) (k : Nat) : someL b fill (k + 1) = someL b fill k ++ [fill]:=by unfold someL; rw [List.replicate_succ',List.append_assoc]
set_option maxRecDepth 100000 in
set_option maxHeartbeats 1000000 in
theorem a8d (A : Option Addr) (c : Nat) (b : List Int) (fill : Int) (more : Nat) (w : World) (hb : BSl w A c b) (hl : b.length <= 60) (hf : 0 <= fill /\ fill < 256) (hm : more < 65536) :
    Calls Tryz.prog 39 #[.slice A b.length c,.int .u8 fill,.int .u16 more] w (λ e w'=>∃ A' c',e = .returned (.slice A' (b.length + more % 2600) c') /\ BSl w' A' c' (someL b fill (more % 2600)) /\ Below w.heap.size w w'):=by
 have HX:=Lib.hid hb
 have HF:=Lib.hid hf
 have hw1 : IntKind.i64.wrap (more : Int) = (more : Int):=i64_in _ (by omega)
 obtain ⟨N,hN⟩ : ∃ N,N = more % 2600:=⟨_,rfl⟩
 have hm1 : (more : Int).tmod 2600 = (N : Int):=by rw [Int.tmod_eq_emod_of_nonneg (by omega),hN]; simp
 have hm2 : (more : Int) % 2600 = (N : Int):=by rw [hN]; simp
 have hNl : N < 2600:=by rw [hN]; exact Nat.mod_lt _ (by decide)
 rw [<- hN]
 have HE0 : Hid ((Kd.int .u8).R 5 (w.alloc (.cells #[] 5)) w.heap.size (λ _=>True) (.slice (some ⟨w.heap.size,0,none⟩) 0 0) []):=a2F .u8 5 w w.heap.size (λ _=>True) trivial (Nat.le_refl _) [] (by decide)
 have HB0 : Hid (Below w.heap.size w (w.alloc (.cells #[] 5))):=(Below.refl _ _).alloc (Nat.le_refl _) _
 have HRow0 : Hid ((Kd.int .u8).C (w.alloc (.cells #[] 5)) A b.length b):=Kd.C_alloc hb.row _
 have HL0 : Hid (([] : List Int).length + b.length <= 140737488355328):=Lib.hid (by simp; omega)
 have HN:=Lib.hid hN
 clear hb hf hN
 go_enter Tryz.func39,Tryz.ntmps39
 go_wp2_with (at_builtin; refine app8 rfl rfl rfl rfl HE0 HRow0 HB0 HB0.out.size HL0 ?_; intro A4 c4 w4 hr4 hb4 _; have HR4:=Lib.hid (And.intro hr4 hb4); clear hr4 hb4)
 go_loopw [7,8] (λ ov kv wr=>∃ (i : Nat) (Ao : Option Addr) (co : Nat),i <= N /\ ov = .slice Ao (b.length + i) co /\ kv = .int .i64 i /\ Hid ((Kd.int .u8).R 5 wr w.heap.size (λ _=>True) (.slice Ao (b.length + i) co) (someL b fill i) /\ Below w.heap.size w wr)) (λ _ kv _=>N - (intOf kv).toNat)
 case atStart=>exact ⟨0,A4,c4,by omega,by simp,rfl,Lib.hid ⟨by have:=HR4.out.1; simpa [someL] using this,HR4.out.2⟩⟩
 case round=>
  obtain ⟨i,Ao,co,hi,rfl,rfl,H⟩:=hrel
  by_cases hlt : i < N
  · have hI : (i : Int) < (N : Int):=by omega
    have HO:=Lib.hid H.out.1
    have HB:=Lib.hid H.out.2
    have HLn : Hid ((someL b fill i).length + 1 <= 140737488355328):=Lib.hid (by rw [a4v]; omega)
    have HNx:=Lib.hid (c9h b fill i)
    clear hlt
    go_wp2_with (at_builtin; refine app8i rfl rfl rfl rfl HO HB HB.out.size HLn ?_; intro A1 c1 w3 hr3 hb3 _; have HA:=Lib.hid (And.intro hr3 hb3); clear hr3 hb3)
    go_roundw
    case rel=>exact ⟨i + 1,A1,c1,by omega,by rw [a4v]; rfl,by go_num,Lib.hid ⟨by have:=HA.out.1; rw [a4v] at this; rw [HNx.out]; exact this,HA.out.2⟩⟩
    case measure=>simp [intOf]; omega
  · obtain rfl : i = N:=by omega
    go_wp2_with fail
    go_ret
    exact ⟨Ao,co,rfl,BSl.of H.out.1 (a6g HX.out.by' HF.out _),H.out.2⟩
end Go.Proofs.YtflfjpkmjnnodaaGreat
namespace Go.Proofs.YtflfjpkmjnnodaaGreat
open Go.RowKit
theorem b7G {ps : List Int} {T : Nat} : ∀ (f at_ n most : Nat),(runT ps T f at_ n most).1 ≠ 16
 | 0,_,_,_=>by show (3 : Int) ≠ 16; decide
 | f + 1,at_,n,most=>by
  unfold runT
  split
  · show (3 : Int) ≠ 16; decide
  · split
    · show (13 : Int) ≠ 16; decide
    · split
      · exact b7G f _ _ _
      · show (0 : Int) ≠ 16; decide
theorem b1d {ps : List Int} {T : Nat} : ∀ (d : Nat) (q : List Int) (s left : Nat) (again : Bool) (at_ : Nat),(hdrT ps T d q s left again at_).1 ≠ 16
 | 0,_,_,_,_,_=>by show (13 : Int) ≠ 16; decide
 | d + 1,q,s,left,again,at_=>by
  unfold hdrT
  repeat' split
  all_goals first
   | (show (13 : Int) ≠ 16; decide)
   | (show (3 : Int) ≠ 16; decide)
   | (show (0 : Int) ≠ 16; decide)
   | exact b7G _ _ _ _
   | exact b1d d _ _ _ _ _
theorem b7H {one : Bool} {qs : List (List Int)} {ps : List Int} : ∀ (n i : Nat) (la x0 x1 : Int) (left : Nat) (out : List Int),(decGo one qs ps n i la x0 x1 left out).1 ≠ 16
 | 0,i,la,x0,x1,left,out=>by
  unfold decGo
  split
  · show (0 : Int) ≠ 16; decide
  · show (14 : Int) ≠ 16; decide
 | n + 1,i,la,x0,x1,left,out=>by
  unfold decGo
  dsimp only
  split
  · show (13 : Int) ≠ 16; decide
  · split
    · show (3 : Int) ≠ 16; decide
    · exact b7H n _ _ _ _ _ _
theorem b7I {lg : Int} {one : Bool} {qs : List (List Int)} {ps : List Int} {n : Int} : (decM lg one qs ps n).1 ≠ 16:=by
 unfold decM
 repeat' split
 all_goals first
  | (show (1 : Int) ≠ 16; decide)
  | (show (2 : Int) ≠ 16; decide)
  | (show (3 : Int) ≠ 16; decide)
  | exact b7H _ _ _ _ _ _ _
theorem c9i {ps : List Int} : (a0v ps).1 ≠ 16:=by
 unfold a0v
 dsimp only
 repeat' split
 all_goals first
  | (show (3 : Int) ≠ 16; decide)
  | (show (13 : Int) ≠ 16; decide)
  | (show (4 : Int) ≠ 16; decide)
  | (show (0 : Int) ≠ 16; decide)
  | exact b1d _ _ _ _ _ _
theorem b7J {ps : List Int} {r : Nat} : ∀ (l : List Int) (qs : List (List Int)) (at_ : Nat),(hdrsT ps r l qs at_).1 ≠ 16
 | [],_,_=>by show (0 : Int) ≠ 16; decide
 | c :: l,qs,at_=>by
  unfold hdrsT
  split
  · exact b1d _ _ _ _ _ _
  · exact b7J l _ _
theorem c9j {ps : List Int} : (dirT ps).1 ≠ 16:=by
 unfold dirT
 repeat' split
 all_goals first
  | (show (3 : Int) ≠ 16; decide)
  | (show (13 : Int) ≠ 16; decide)
  | (show (0 : Int) ≠ 16; decide)
theorem c9k {ps : List Int} : (a0A ps).1 ≠ 16:=by
 unfold a0A
 repeat' split
 all_goals first
  | (show (3 : Int) ≠ 16; decide)
  | (show (13 : Int) ≠ 16; decide)
  | (show (4 : Int) ≠ 16; decide)
  | (show (0 : Int) ≠ 16; decide)
  | exact c9j
  | exact b7J _ _ _
theorem b7K {k n l : Int} : a0B k n l ≠ 16:=by
 unfold a0B
 repeat' split
 all_goals decide
theorem c9l {k : Int} {b : List Int} {n : Int} : (pickD k b n).1 ≠ 16:=by
 unfold pickD
 split
 · exact b7K
 · split
   · unfold a2Y
     repeat' split
     all_goals first
      | (show (1 : Int) ≠ 16; decide)
      | (show (11 : Int) ≠ 16; decide)
      | (show (0 : Int) ≠ 16; decide)
   · split
     · unfold dec0M
       split
       · exact c9i
       · exact b7I
     · unfold dec1M
       split
       · exact c9k
       · exact b7I
theorem c9m {f : List Int} {log room : Int} {first : Bool} : (scanM f log first room).1 ≠ 16:=by
 unfold scanM
 repeat' split
 all_goals first
  | (show (1 : Int) ≠ 16; decide)
  | (show (3 : Int) ≠ 16; decide)
  | (show (10 : Int) ≠ 16; decide)
  | (show (11 : Int) ≠ 16; decide)
  | (show (7 : Int) ≠ 16; decide)
  | (show (0 : Int) ≠ 16; decide)
  | exact b7K
theorem c9n {f : List Int} {log room : Int} {first : Bool} : (openM f log first room).1 ≠ 16:=by
 unfold openM
 repeat' split
 all_goals first
  | exact c9m
  | exact c9l
  | (show (3 : Int) ≠ 16; decide)
  | (show (12 : Int) ≠ 16; decide)
  | (show (0 : Int) ≠ 16; decide)
theorem c9o (i : Nat) (c : Int) : headE i c ≠ 16:=by
 unfold headE
 repeat' split
 all_goals decide
theorem b7L {f : List Int} : ∀ (d i : Nat),headG f d i ≠ 16
 | 0,_=>by show (0 : Int) ≠ 16; decide
 | d + 1,i=>by
  unfold headG
  split
  · decide
  · split
    · exact c9o _ _
    · exact b7L d _
theorem c9p {f : List Int} : headM f ≠ 16:=b7L 8 0
open Go.IntWalk Go.Proofs.YtflfjpkmjnnodaaGreatW.PrintWords
theorem b7M {f : List Int} {i : Nat} (d : Nat) (h : i < f.length) : headG f (d + 1) i = if headE i (f.getD i 0) ≠ 0 then headE i (f.getD i 0) else headG f d (i + 1):=by
 conv=>lhs; unfold headG
 rw [if_neg (by omega)]
theorem a3P {f : List Int} {i d : Nat} {k : Int} (h : i < f.length) (he : headE i (f.getD i 0) = k) (hk : k ≠ 0) : headG f (d + 1) i = k:=by
 rw [b7M d h,he,if_pos hk]
theorem a3Q {f : List Int} {i d : Nat} (h : i < f.length) (he : headE i (f.getD i 0) = 0) : headG f (d + 1) i = headG f d (i + 1):=by
 rw [b7M d h,he,if_neg (by decide)]
def a2f (f : List Int) : Int:=if headM f = 0 then f.getD 5 0 else 0
theorem a3x {f : List Int} {k : Int} (h : headM f = k) (hk : k ≠ 0) : a2f f = 0:=by unfold a2f; rw [h,if_neg hk]
set_option maxRecDepth 100000 in
set_option maxHeartbeats 4000000 in
theorem b7N (A : Option Addr) (c : Nat) (f : List Int) (w : World) (hf : BSl w A c f) (hl : f.length <= 1000000) :
    Calls Tryz.prog 97 #[.slice A f.length c] w (λ e w'=>e = .returned (.tuple #[.int .i64 (a2f f),.int .i64 (headM f)]) /\ Below w.heap.size w w'):=by
 have HF:=Lib.hid hf
 obtain ⟨n,hn⟩ : ∃ n,n = f.length:=⟨_,rfl⟩
 rw [<- hn] at hl ⊢
 have HN:=Lib.hid hn
 clear hf hn
 go_enter Tryz.func97,Tryz.ntmps97
 go_wp2_with fail
 go_loopw [2,4,5,6,17,26,33,42,49] (λ lv _ _ kv _ _ _ _ _ wr=>∃ i : Nat,i <= 8 /\ kv = .int .i64 i /\ lv = .int .i64 (if 5 < i then f.getD 5 0 else 0) /\ Hid (headG f (8 - i) i = headM f /\ Below w.heap.size w wr /\ i <= f.length)) (λ _ _ _ kv _ _ _ _ _ _=>8 - (intOf kv).toNat)
 case atStart=>exact ⟨0,by omega,rfl,rfl,Lib.hid ⟨rfl,Below.refl _ _,Nat.zero_le _⟩⟩
 case round=>
  obtain ⟨i,hi,rfl,rfl,H⟩:=hrel
  by_cases hlt : i < 8
  · by_cases hle : i < n
    · obtain ⟨ad,hA,hcx⟩:=a0w (Kd.C_below HF.out.row H.out.2.1) i (by have:=HN.out; omega)
      subst hA
      have hbx:=HF.out.by'.get i
      obtain ⟨x,hx⟩ : ∃ x,x = f.getD i 0:=⟨_,rfl⟩
      rw [<- hx] at hcx hbx
      have HX:=Lib.hid hx
      have HL:=Lib.hid (show i < f.length by have:=HN.out; omega)
      have hi8 : i = 0 \/ i = 1 \/ i = 2 \/ i = 3 \/ i = 4 \/ i = 5 \/ i = 6 \/ i = 7:=by omega
      clear hx hi hlt
      rcases hi8 with rfl | rfl | rfl | rfl | rfl | rfl | rfl | rfl
      · have hI : ¬ n = 0:=by omega
        have e0 : ad.add 0 = ad:=by simp [Addr.add]
        rw [e0] at hcx
        have hmg : (((ByteArray.mk #[80,78,67,72])[0]'(by decide)).toNat : Int) = 80:=rfl
        by_cases hx : x = 80
        · have he : headE 0 (f.getD 0 0) = 0:=by rw [<- HX.out,hx]; decide
          have HE:=Lib.hid (a3Q (d:=7) HL.out he)
          have hq : (x != 80) = false:=by rw [hx]; rfl
          clear he hle hx
          go_wp2_with fail
          go_roundw
          case rel=>exact ⟨0 + 1,by omega,by go_num,rfl,Lib.hid ⟨by rw [<- HE.out]; exact H.out.1,H.out.2.1,HL.out⟩⟩
          case measure=>first | (simp [intOf]; done) | (simp [intOf]; omega)
        · have he : headE 0 (f.getD 0 0) = 8:=by
            rw [<- HX.out]; unfold headE; rw [if_pos ⟨by decide,hx⟩]
          have HE:=Lib.hid (a3P (d:=7) HL.out he (by decide))
          have hq : (x != 80) = true:=by simpa using hx
          clear he hle hx
          go_wp2_with fail
          go_ret2
          have hM : headM f = 8:=by rw [<- H.out.1]; exact HE.out
          rw [a3x hM (by decide),hM]
          exact ⟨rfl,H.out.2.1⟩
      · have hI : ¬ (n : Int) <= 1:=by omega
        have e1 : ad.add 1 = ⟨ad.block,ad.off + 1,none⟩:=rfl
        rw [e1] at hcx
        have hmg : (((ByteArray.mk #[80,78,67,72])[1]'(by decide)).toNat : Int) = 78:=rfl
        by_cases hx : x = 78
        · have he : headE 1 (f.getD 1 0) = 0:=by rw [<- HX.out,hx]; decide
          have HE:=Lib.hid (a3Q (d:=6) HL.out he)
          have hq : (x != 78) = false:=by rw [hx]; rfl
          clear he hle hx
          go_wp2_with fail
          go_roundw
          case rel=>exact ⟨1 + 1,by omega,by go_num,rfl,Lib.hid ⟨by rw [<- HE.out]; exact H.out.1,H.out.2.1,HL.out⟩⟩
          case measure=>first | (simp [intOf]; done) | (simp [intOf]; omega)
        · have he : headE 1 (f.getD 1 0) = 8:=by
            rw [<- HX.out]; unfold headE; rw [if_pos ⟨by decide,hx⟩]
          have HE:=Lib.hid (a3P (d:=6) HL.out he (by decide))
          have hq : (x != 78) = true:=by simpa using hx
          clear he hle hx
          go_wp2_with fail
          go_ret2
          have hM : headM f = 8:=by rw [<- H.out.1]; exact HE.out
          rw [a3x hM (by decide),hM]
          exact ⟨rfl,H.out.2.1⟩
      · have hI : ¬ (n : Int) <= 2:=by omega
        have e1 : ad.add 2 = ⟨ad.block,ad.off + 2,none⟩:=rfl
        rw [e1] at hcx
        have hmg : (((ByteArray.mk #[80,78,67,72])[2]'(by decide)).toNat : Int) = 67:=rfl
        by_cases hx : x = 67
        · have he : headE 2 (f.getD 2 0) = 0:=by rw [<- HX.out,hx]; decide
          have HE:=Lib.hid (a3Q (d:=5) HL.out he)
          have hq : (x != 67) = false:=by rw [hx]; rfl
          clear he hle hx
          go_wp2_with fail
          go_roundw
          case rel=>exact ⟨2 + 1,by omega,by go_num,rfl,Lib.hid ⟨by rw [<- HE.out]; exact H.out.1,H.out.2.1,HL.out⟩⟩
          case measure=>first | (simp [intOf]; done) | (simp [intOf]; omega)
        · have he : headE 2 (f.getD 2 0) = 8:=by
            rw [<- HX.out]; unfold headE; rw [if_pos ⟨by decide,hx⟩]
          have HE:=Lib.hid (a3P (d:=5) HL.out he (by decide))
          have hq : (x != 67) = true:=by simpa using hx
          clear he hle hx
          go_wp2_with fail
          go_ret2
          have hM : headM f = 8:=by rw [<- H.out.1]; exact HE.out
          rw [a3x hM (by decide),hM]
          exact ⟨rfl,H.out.2.1⟩
      · have hI : ¬ (n : Int) <= 3:=by omega
        have e1 : ad.add 3 = ⟨ad.block,ad.off + 3,none⟩:=rfl
        rw [e1] at hcx
        have hmg : (((ByteArray.mk #[80,78,67,72])[3]'(by decide)).toNat : Int) = 72:=rfl
        by_cases hx : x = 72
        · have he : headE 3 (f.getD 3 0) = 0:=by rw [<- HX.out,hx]; decide
          have HE:=Lib.hid (a3Q (d:=4) HL.out he)
          have hq : (x != 72) = false:=by rw [hx]; rfl
          clear he hle hx
          go_wp2_with fail
          go_roundw
          case rel=>exact ⟨3 + 1,by omega,by go_num,rfl,Lib.hid ⟨by rw [<- HE.out]; exact H.out.1,H.out.2.1,HL.out⟩⟩
          case measure=>first | (simp [intOf]; done) | (simp [intOf]; omega)
        · have he : headE 3 (f.getD 3 0) = 8:=by
            rw [<- HX.out]; unfold headE; rw [if_pos ⟨by decide,hx⟩]
          have HE:=Lib.hid (a3P (d:=4) HL.out he (by decide))
          have hq : (x != 72) = true:=by simpa using hx
          clear he hle hx
          go_wp2_with fail
          go_ret2
          have hM : headM f = 8:=by rw [<- H.out.1]; exact HE.out
          rw [a3x hM (by decide),hM]
          exact ⟨rfl,H.out.2.1⟩
      · have hI : ¬ (n : Int) <= 4:=by omega
        have e1 : ad.add 4 = ⟨ad.block,ad.off + 4,none⟩:=rfl
        rw [e1] at hcx
        by_cases hx : x = 1
        · have he : headE 4 (f.getD 4 0) = 0:=by rw [<- HX.out,hx]; decide
          have HE:=Lib.hid (a3Q (d:=3) HL.out he)
          have hq : (x != 1) = false:=by rw [hx]; rfl
          clear he hle hx
          go_wp2_with fail
          go_roundw
          case rel=>exact ⟨4 + 1,by omega,by go_num,rfl,Lib.hid ⟨by rw [<- HE.out]; exact H.out.1,H.out.2.1,HL.out⟩⟩
          case measure=>first | (simp [intOf]; done) | (simp [intOf]; omega)
        · have he : headE 4 (f.getD 4 0) = 9:=by
            rw [<- HX.out]; unfold headE; rw [if_neg (by omega),if_pos ⟨rfl,hx⟩]
          have HE:=Lib.hid (a3P (d:=3) HL.out he (by decide))
          have hq : (x != 1) = true:=by simpa using hx
          clear he hle hx
          go_wp2_with fail
          go_ret2
          have hM : headM f = 9:=by rw [<- H.out.1]; exact HE.out
          rw [a3x hM (by decide),hM]
          exact ⟨rfl,H.out.2.1⟩
      · have hI : ¬ (n : Int) <= 5:=by omega
        have e1 : ad.add 5 = ⟨ad.block,ad.off + 5,none⟩:=rfl
        rw [e1] at hcx
        have hw64 : IntKind.i64.wrap x = x:=i64_in _ (by omega)
        have HG:=Lib.hid (b0U x wr)
        cases hp : logP x with
        | true=>
         have he : headE 5 (f.getD 5 0) = 0:=by
          rw [<- HX.out]
          have:=logP_iff.1 hp
          simp [headE,this]
         have HE:=Lib.hid (a3Q (d:=2) HL.out he)
         clear he hle
         go_wp2_with fail
         refine HG.out.mono ?_
         rintro e w2 ⟨rfl,hd⟩
         rw [hp]
         have HB:=Lib.hid (H.out.2.1.trans (hd.below.mono H.out.2.1.size))
         clear hd
         go_wp2_with fail
         go_roundw
         case rel=>exact ⟨5 + 1,by omega,by go_num,by rw [if_pos (by decide),<- HX.out],Lib.hid ⟨by rw [<- HE.out]; exact H.out.1,HB.out,HL.out⟩⟩
         case measure=>first | (simp [intOf]; done) | (simp [intOf]; omega)
        | false=>
         have he : headE 5 (f.getD 5 0) = 5:=by
          rw [<- HX.out]
          have h5 : ¬ (10 <= x /\ x <= 17):=λ h=>by rw [logP_iff.2 h] at hp; cases hp
          unfold headE
          rw [if_neg (by omega),if_neg (by omega),if_pos ⟨rfl,h5⟩]
         have HE:=Lib.hid (a3P (d:=2) HL.out he (by decide))
         clear he hle
         go_wp2_with fail
         refine HG.out.mono ?_
         rintro e w2 ⟨rfl,hd⟩
         rw [hp]
         have HB:=Lib.hid (H.out.2.1.trans (hd.below.mono H.out.2.1.size))
         clear hd
         go_wp2_with fail
         go_ret2
         have hM : headM f = 5:=by rw [<- H.out.1]; exact HE.out
         rw [a3x hM (by decide),hM]
         exact ⟨rfl,HB.out⟩
      · have hI : ¬ (n : Int) <= 6:=by omega
        have e1 : ad.add 6 = ⟨ad.block,ad.off + 6,none⟩:=rfl
        rw [e1] at hcx
        by_cases hx : x = 0
        · have he : headE 6 (f.getD 6 0) = 0:=by rw [<- HX.out,hx]; decide
          have HE:=Lib.hid (a3Q (d:=1) HL.out he)
          have hq : (x != 0) = false:=by rw [hx]; rfl
          clear he hle hx
          go_wp2_with fail
          go_roundw
          case rel=>exact ⟨6 + 1,by omega,by go_num,rfl,Lib.hid ⟨by rw [<- HE.out]; exact H.out.1,H.out.2.1,HL.out⟩⟩
          case measure=>first | (simp [intOf]; done) | (simp [intOf]; omega)
        · have he : headE 6 (f.getD 6 0) = 4:=by
            rw [<- HX.out]; unfold headE; rw [if_neg (by omega),if_neg (by omega),if_neg (by omega),if_pos ⟨by decide,hx⟩]
          have HE:=Lib.hid (a3P (d:=1) HL.out he (by decide))
          have hq : (x != 0) = true:=by simpa using hx
          clear he hle hx
          go_wp2_with fail
          go_ret2
          have hM : headM f = 4:=by rw [<- H.out.1]; exact HE.out
          rw [a3x hM (by decide),hM]
          exact ⟨rfl,H.out.2.1⟩
      · have hI : ¬ (n : Int) <= 7:=by omega
        have e1 : ad.add 7 = ⟨ad.block,ad.off + 7,none⟩:=rfl
        rw [e1] at hcx
        by_cases hx : x = 0
        · have he : headE 7 (f.getD 7 0) = 0:=by rw [<- HX.out,hx]; decide
          have HE:=Lib.hid (a3Q (d:=0) HL.out he)
          have hq : (x != 0) = false:=by rw [hx]; rfl
          clear he hle hx
          go_wp2_with fail
          go_roundw
          case rel=>exact ⟨7 + 1,by omega,by go_num,rfl,Lib.hid ⟨by rw [<- HE.out]; exact H.out.1,H.out.2.1,HL.out⟩⟩
          case measure=>first | (simp [intOf]; done) | (simp [intOf]; omega)
        · have he : headE 7 (f.getD 7 0) = 4:=by
            rw [<- HX.out]; unfold headE; rw [if_neg (by omega),if_neg (by omega),if_neg (by omega),if_pos ⟨by decide,hx⟩]
          have HE:=Lib.hid (a3P (d:=0) HL.out he (by decide))
          have hq : (x != 0) = true:=by simpa using hx
          clear he hle hx
          go_wp2_with fail
          go_ret2
          have hM : headM f = 4:=by rw [<- H.out.1]; exact HE.out
          rw [a3x hM (by decide),hM]
          exact ⟨rfl,H.out.2.1⟩
    · have hI : (n : Int) <= (i : Int):=by omega
      have hM : headM f = 3:=by
       rw [<- H.out.1,show 8 - i = (7 - i) + 1 by omega]
       unfold headG
       rw [if_pos (by have:=HN.out; omega)]
      have HM:=Lib.hid hM
      clear hM hle
      go_wp2_with fail
      go_ret2
      rw [a3x HM.out (by decide),HM.out]
      exact ⟨rfl,H.out.2.1⟩
  · obtain rfl : i = 8:=by omega
    have hM : headM f = 0:=by rw [<- H.out.1]; rfl
    have HM:=Lib.hid hM
    clear hM hlt
    go_wp2_with fail
    go_ret2
    unfold a2f
    rw [HM.out,if_pos rfl]
    exact ⟨rfl,H.out.2.1⟩
set_option maxRecDepth 100000 in
set_option maxHeartbeats 1000000 in
theorem c9q (A : Option Addr) (c : Nat) (b : List Int) (w : World) (hr : (Kd.int .u8).C w A b.length b) (hl : b.length <= 131072) (hb : Bytes b) :
    Calls Tryz.prog 179 #[.int .i64 0,.slice A b.length c,.int .i64 b.length] w (Told 0 b w):=by
 have HR:=Lib.hid (And.intro hr (And.intro hl hb))
 have d1 : decide ((b.length : Int) < 0) = false:=decide_eq_false (by omega)
 have d2 : decide ((131072 : Int) < (b.length : Int)) = false:=decide_eq_false (by omega)
 clear hr hl hb
 go_enter Tryz.func179,Tryz.ntmps179
 go_wp2_with fail
 refine (a6b 0 w).mono ?_
 rintro e w' ⟨rfl,rfl⟩
 go_wp2_with fail
 go_loopw [8,9,45] (λ v _ kv wr=>∃ i : Nat,i <= b.length /\ kv = .int .i64 i /\ Hid ((Kd.int .u8).R 5 wr w.heap.size (λ _=>True) v (b.take i) /\ Below w.heap.size w wr)) (λ _ _ kv _=>b.length - (intOf kv).toNat)
 case atStart=>exact ⟨0,by omega,rfl,Lib.hid ⟨by rw [List.take_zero]; exact Kd.R_nil _ _ _ _ _,Below.refl _ _⟩⟩
 case round=>
  obtain ⟨i,hi,rfl,H⟩:=hrel
  by_cases hlt : i < b.length
  · obtain ⟨Av,cv,rfl⟩:=Kd.R_slice H.out.1
    obtain ⟨ad,hA,hcx⟩:=a0w (Kd.C_below HR.out.1 H.out.2) i hlt
    subst hA
    obtain ⟨y,hy⟩ : ∃ y,y = b.getD i 0:=⟨_,rfl⟩
    rw [<- hy] at hcx
    have hl6 : b.length <= 131072:=HR.out.2.1
    have hI : (i : Int) < (b.length : Int):=by omega
    have HN : Hid (b.take (i + 1) = b.take i ++ [y]):=Lib.hid (by rw [List.take_succ_eq_append_getElem hlt,hy,List.getD_eq_getElem?_getD,List.getElem?_eq_getElem hlt]; rfl)
    obtain ⟨L,hL⟩ : ∃ L,L = b.take i:=⟨_,rfl⟩
    have hLl : L.length = i:=by rw [hL,List.length_take]; omega
    rw [<- hL] at H HN ⊢
    have HLn : Hid ((L.length + 1) * 1 <= 140737488355328):=Lib.hid (by omega)
    have HS:=Lib.hid H.out.2.size
    clear hy hL
    go_wp2_with (at_builtin; refine Kd.R_append (Kd.int .u8) (w0:=w) (W:=wr) w.heap.size rfl (.tmp 48) (.tmp 56) 22 5 (.int .u8 0) 1 rfl Tryz.underlying22 a0E rfl (by decide) (by decide) _ _ y [.int .u8 y] (λ _=>True) (λ _=>False) rfl rfl rfl (λ _ h=>h.elim) (λ _ _=>trivial) H.out.1 H.out.2 HS.out HLn.out ?_; intro v1 w3 hr3 hb3 hg3 hat3; have HA:=Lib.hid (And.intro hr3 hb3); clear hr3 hb3 hg3 hat3)
    go_roundw
    case rel=>exact ⟨i + 1,by omega,by go_num,Lib.hid ⟨by rw [HN.out]; exact HA.out.1,HA.out.2⟩⟩
    case measure=>simp [intOf]; omega
  · obtain rfl : i = b.length:=by omega
    obtain ⟨Av,cv,rfl⟩:=Kd.R_slice H.out.1
    go_wp2_with fail
    go_ret2
    have h1:=H.out.1
    rw [List.take_length] at h1
    rw [List.take_length]
    exact ⟨Av,cv,rfl,h1,H.out.2⟩
set_option maxRecDepth 100000 in
set_option maxHeartbeats 1000000 in
theorem c9r (A : Option Addr) (c : Nat) (x : Int) (N : Nat) (w : World) (hr : (Kd.int .u8).C w A 1 [x]) (hl : N <= 131072) (h2 : 2 <= N) :
    Calls Tryz.prog 179 #[.int .i64 1,.slice A 1 c,.int .i64 N] w (Told 0 (List.replicate N x) w):=by
 have HR:=Lib.hid (And.intro hr (And.intro hl h2))
 have d3 : decide ((N : Int) < 2) = false:=decide_eq_false (by omega)
 have d1 : decide ((N : Int) < 0) = false:=decide_eq_false (by omega)
 have d2 : decide ((131072 : Int) < (N : Int)) = false:=decide_eq_false (by omega)
 clear hr hl h2
 go_enter Tryz.func179,Tryz.ntmps179
 go_wp2_with fail
 refine (a6b 1 w).mono ?_
 rintro e w' ⟨rfl,rfl⟩
 go_wp2_with fail
 go_loopw [8,9,45] (λ v _ kv wr=>∃ i : Nat,i <= N /\ kv = .int .i64 i /\ Hid ((Kd.int .u8).R 5 wr w.heap.size (λ _=>True) v (List.replicate i x) /\ Below w.heap.size w wr)) (λ _ _ kv _=>N - (intOf kv).toNat)
 case atStart=>exact ⟨0,by omega,rfl,Lib.hid ⟨by exact Kd.R_nil _ _ _ _ _,Below.refl _ _⟩⟩
 case round=>
  obtain ⟨i,hi,rfl,H⟩:=hrel
  by_cases hlt : i < N
  · obtain ⟨Av,cv,rfl⟩:=Kd.R_slice H.out.1
    obtain ⟨ad,hA,hcx⟩:=a0w (Kd.C_below HR.out.1 H.out.2) 0 (by decide)
    subst hA
    have e0 : ad.add 0 = ad:=by simp [Addr.add]
    have hcy : wr.cell? ad = some (.int .u8 x):=by rw [e0] at hcx; exact hcx
    have hl6 : N <= 131072:=HR.out.2.1
    have hI : (i : Int) < (N : Int):=by omega
    have HN : Hid (List.replicate (i + 1) x = List.replicate i x ++ [x]):=Lib.hid List.replicate_succ'
    clear e0
    obtain ⟨L,hL⟩ : ∃ L,L = List.replicate i x:=⟨_,rfl⟩
    have hLl : L.length = i:=by rw [hL,List.length_replicate]
    rw [<- hL] at H HN ⊢
    have HLn : Hid ((L.length + 1) * 1 <= 140737488355328):=Lib.hid (by omega)
    have HS:=Lib.hid H.out.2.size
    clear hL
    go_wp2_with (at_builtin; refine Kd.R_append (Kd.int .u8) (w0:=w) (W:=wr) w.heap.size rfl (.tmp 48) (.tmp 56) 22 5 (.int .u8 0) 1 rfl Tryz.underlying22 a0E rfl (by decide) (by decide) _ _ x [.int .u8 x] (λ _=>True) (λ _=>False) rfl rfl rfl (λ _ h=>h.elim) (λ _ _=>trivial) H.out.1 H.out.2 HS.out HLn.out ?_; intro v1 w3 hr3 hb3 hg3 hat3; have HA:=Lib.hid (And.intro hr3 hb3); clear hr3 hb3 hg3 hat3)
    go_roundw
    case rel=>exact ⟨i + 1,by omega,by go_num,Lib.hid ⟨by rw [HN.out]; exact HA.out.1,HA.out.2⟩⟩
    case measure=>simp [intOf]; omega
  · obtain rfl : i = N:=by omega
    obtain ⟨Av,cv,rfl⟩:=Kd.R_slice H.out.1
    go_wp2_with fail
    go_ret2
    have h1:=H.out.1
    exact ⟨Av,cv,rfl,h1,H.out.2⟩
def c9s (r : Nat) (qs : List (List Int)) (p : List Int) (w : World) (e : Ending) (w' : World) : Prop:=
 ∃ Am cm Ap cp,e = .returned (.tuple #[.agg #[.int .i64 r,.bool false,.slice Am qs.length cm],.slice Ap p.length cp,.int .i64 0]) /\ kq.R 84 w' w.heap.size (λ _=>True) (.slice Am qs.length cm) qs /\ (Kd.int .u8).R 5 w' w.heap.size (λ _=>True) (.slice Ap p.length cp) p /\ Below w.heap.size w w'
theorem c9t (A : Option Addr) (c : Nat) (ps : List Int) {r : Nat} {qs : List (List Int)} {p : List Int} (w : World) (hr : (Kd.int .u8).C w A ps.length ps) (hps : Bytes ps) (hl : ps.length <= 1000000) (hc : ps.length <= c) (h : a0A ps = (0,r,qs,p)) :
    Calls Tryz.prog 21 #[.slice A ps.length c] w (c9s r qs p w):=by
 refine (b6N A c ps w hr hps hl hc).mono ?_
 intro e w' hp
 unfold a5Z at hp
 rw [h] at hp
 obtain ⟨vm,vp,rfl,hm,hv⟩:=hp.1 rfl
 obtain ⟨Am,cm,rfl⟩:=Kd.R_slice hm
 obtain ⟨Ap,cp,rfl⟩:=Kd.R_slice hv
 exact ⟨Am,cm,Ap,cp,rfl,hm,hv,hp.2.2⟩
theorem c9u (A : Option Addr) (c : Nat) (ps : List Int) {k : Int} (w : World) (hr : (Kd.int .u8).C w A ps.length ps) (hps : Bytes ps) (hl : ps.length <= 1000000) (hc : ps.length <= c) (h : (a0A ps).1 = k) (hk : k ≠ 0) :
    Calls Tryz.prog 21 #[.slice A ps.length c] w (λ e w'=>e = .returned (.tuple #[.agg #[.int .i64 0,.bool false,.slice none 0 0],.slice none 0 0,.int .i64 k]) /\ Below w.heap.size w w'):=by
 refine (b6N A c ps w hr hps hl hc).mono ?_
 intro e w' hp
 unfold a5Z at hp
 rw [h] at hp
 exact ⟨hp.2.1 hk,hp.2.2⟩
set_option maxRecDepth 100000 in
set_option maxHeartbeats 1000000 in
theorem b7O (A : Option Addr) (c : Nat) (ps : List Int) (n : Int) (w : World) (hr : (Kd.int .u8).C w A ps.length ps) (hps : Bytes ps) (hl : ps.length <= 1000000) (hc : ps.length <= c) :
    Calls Tryz.prog 23 #[.slice A ps.length c,.int .i64 n] w (ReadPost (dec1M ps n) w):=by
 obtain ⟨k,r,q,p,hS⟩ : ∃ k r q p,a0A ps = (k,r,q,p):=⟨_,_,_,_,rfl⟩
 have hpb:=b0u hps
 have hpl:=(b6r ps).1
 have hql:=(b6r ps).2
 rw [hS] at hpb hpl hql
 by_cases hk : k = 0
 · subst hk
   have HD : Hid (dec1M ps n = decM (r : Nat) false q p n):=by show _ = _; unfold dec1M; rw [hS,if_neg (λ h=>h rfl)]
   have HS:=Lib.hid (c9t A c ps w hr hps hl hc hS)
   have HP:=Lib.hid (And.intro hpb (And.intro (Nat.le_trans hpl hl) (show q.length <= 256 from hql)))
   rw [HD.out]
   clear hr hps hl hc hS hpb hpl hql
   go_enter Tryz.func23,Tryz.ntmps23
   go_wp2_with fail
   refine HS.out.mono ?_
   rintro e w1 ⟨Am,cm,Ap,cp,rfl,hm,hv,hb1⟩
   obtain ⟨w2,hw2⟩ : ∃ w2,w2 = w1.alloc (.cells #[.int .i64 r,.bool false,.slice Am q.length cm] 26):=⟨_,rfl⟩
   have hb2 : Below w1.heap.size w1 w2:=by rw [hw2]; exact (Below.refl _ _).alloc (Nat.le_refl _) _
   have HB2:=Lib.hid (hb1.trans (hb2.mono hb1.size))
   have HM:=Lib.hid (Kd.C_below (Kd.R_reads' hm).2.2 hb2)
   have HV:=Lib.hid (Kd.C_below (Kd.R_reads' hv).2.2 hb2)
   clear hm hv hb1 hb2
   go_wp2_with fail
   rw [<- hw2]
   clear hw2
   refine (b4c r false Am cm q Ap cp p n w2 HM.out (by have:=HP.out.2.2; omega) HV.out HP.out.1 HP.out.2.1).mono ?_
   rintro e w3 ⟨⟨v,rfl,hv⟩,hb3⟩
   have H3:=Lib.hid (And.intro hv hb3)
   clear hv hb3
   go_wp2_with fail
   go_ret2
   exact ⟨⟨v,rfl,Kd.R_lower H3.out.1 HB2.out.size⟩,HB2.out.trans (H3.out.2.mono HB2.out.size)⟩
 · have HD : Hid (dec1M ps n = (k,[])):=by show _ = _; unfold dec1M; rw [hS,if_pos hk]
   have HS:=Lib.hid (c9u A c ps w hr hps hl hc (by rw [hS]) hk)
   have hkb : (k == 0) = false:=beq_eq_false_iff_ne.2 hk
   have hkn : (k != 0) = true:=by simp [hk]
   rw [HD.out]
   clear hr hps hl hc hS hpb hpl hql
   go_enter Tryz.func23,Tryz.ntmps23
   go_wp2_with fail
   refine HS.out.mono ?_
   rintro e w1 ⟨rfl,hb1⟩
   have HB1:=Lib.hid hb1
   clear hb1
   go_wp2_with fail
   go_ret2
   exact ⟨⟨_,rfl,Kd.R_nil _ _ _ _ _⟩,HB1.out.alloc HB1.out.size _⟩
set_option maxRecDepth 100000 in
theorem b7P {x : Int × List Int} (A : Option Addr) (c p : Nat) (k n : Int) (m : Nat) (w : World) (hp : w.cell? ⟨p,0,none⟩ = some (.int .i64 k)) (h : Calls Tryz.prog 179 #[.int .i64 k,.slice A m c,.int .i64 n] w (Told x.1 x.2 w)) :
    Calls Tryz.prog 178 #[.slice A m c,.int .i64 n,.pointer (some ⟨p,0,none⟩)] w (Told x.1 x.2 w):=by
 have H:=Lib.hid h
 clear h
 go_enter Tryz.func178,Tryz.ntmps178
 go_wp2_with fail
 refine H.out.mono ?_
 rintro e w' ⟨A1,c1,rfl,hv,hb⟩
 have H1:=Lib.hid (And.intro hv hb)
 clear hv hb
 go_wp2_with fail
 go_ret2
 exact ⟨A1,c1,rfl,H1.out.1,H1.out.2⟩
set_option maxRecDepth 100000 in
theorem c9v (A : Option Addr) (c m : Nat) (k n : Int) (w : World) (h : a0B k n m ≠ 0) :
    Calls Tryz.prog 28 #[.int .i64 k,.slice A m c,.int .i64 n] w (Told (a0B k n m) [] w):=by
 have HI:=Lib.hid (a5k k n m w)
 unfold a1v at HI
 obtain ⟨z,hz⟩ : ∃ z,z = a0B k n m:=⟨_,rfl⟩
 rw [<- hz] at HI h ⊢
 have hz2 : (z != 0) = true:=by simpa using h
 clear hz h
 go_enter Tryz.func28,Tryz.ntmps28
 go_wp2_with fail
 refine HI.out.mono ?_
 rintro e w' ⟨rfl,hb⟩
 have HB:=Lib.hid hb
 clear hb
 go_wp2_with fail
 go_ret2
 exact Told.nil z HB.out
set_option maxRecDepth 100000 in
theorem c9w {x : Int × List Int} (A : Option Addr) (c m : Nat) (n : Int) (w : World) (h0 : a0B 0 n m = 0) (h : ∀ (W : World) (p q : Nat),Below w.heap.size w W -> W.cell? ⟨p,0,none⟩ = some (.int .i64 0) -> W.cell? ⟨q,0,none⟩ = some (.int .i64 1) -> Calls Tryz.prog 178 #[.slice A m c,.int .i64 n,.pointer (some ⟨p,0,none⟩)] W (Told x.1 x.2 W)) :
    Calls Tryz.prog 28 #[.int .i64 0,.slice A m c,.int .i64 n] w (Told x.1 x.2 w):=by
 have H:=Lib.hid h
 have HI:=Lib.hid (a5k 0 n m w)
 unfold a1v at HI
 rw [h0] at HI
 clear h h0
 go_enter Tryz.func28,Tryz.ntmps28
 go_wp2_with fail
 refine HI.out.mono ?_
 rintro e w0 ⟨rfl,hb0⟩
 have HB0:=Lib.hid hb0
 clear hb0
 go_wp2_with fail
 refine (a2r w0).mono ?_
 rintro e w1 ⟨p,q,rfl,hp,hq,hb⟩
 have HB:=Lib.hid (a0h HB0.out hb)
 have H1:=Lib.hid (H.out w1 p q HB.out hp hq)
 have hix:=λ W=>b0N p q W
 have hkf:=a7V
 obtain ⟨V,hV⟩ : ∃ V,V = a1n p q:=⟨_,rfl⟩
 rw [<- hV] at hix ⊢
 clear hb hp hq hV
 go_wp2_with fail
 refine H1.out.mono ?_
 rintro e w2 ⟨A1,c1,rfl,hv,hb⟩
 have H2:=Lib.hid (And.intro hv hb)
 clear hv hb hix hkf
 go_wp2_with fail
 go_ret2
 exact ⟨A1,c1,rfl,Kd.R_lower H2.out.1 HB.out.size,a0h HB.out H2.out.2⟩
set_option maxRecDepth 100000 in
theorem c9x {x : Int × List Int} (A : Option Addr) (c m : Nat) (n : Int) (w : World) (h0 : a0B 1 n m = 0) (h : ∀ (W : World) (p q : Nat),Below w.heap.size w W -> W.cell? ⟨p,0,none⟩ = some (.int .i64 0) -> W.cell? ⟨q,0,none⟩ = some (.int .i64 1) -> Calls Tryz.prog 178 #[.slice A m c,.int .i64 n,.pointer (some ⟨q,0,none⟩)] W (Told x.1 x.2 W)) :
    Calls Tryz.prog 28 #[.int .i64 1,.slice A m c,.int .i64 n] w (Told x.1 x.2 w):=by
 have H:=Lib.hid h
 have HI:=Lib.hid (a5k 1 n m w)
 unfold a1v at HI
 rw [h0] at HI
 clear h h0
 go_enter Tryz.func28,Tryz.ntmps28
 go_wp2_with fail
 refine HI.out.mono ?_
 rintro e w0 ⟨rfl,hb0⟩
 have HB0:=Lib.hid hb0
 clear hb0
 go_wp2_with fail
 refine (a2r w0).mono ?_
 rintro e w1 ⟨p,q,rfl,hp,hq,hb⟩
 have HB:=Lib.hid (a0h HB0.out hb)
 have H1:=Lib.hid (H.out w1 p q HB.out hp hq)
 have hix:=λ W=>b0O p q W
 have hkf:=a7V
 obtain ⟨V,hV⟩ : ∃ V,V = a1n p q:=⟨_,rfl⟩
 rw [<- hV] at hix ⊢
 clear hb hp hq hV
 go_wp2_with fail
 refine H1.out.mono ?_
 rintro e w2 ⟨A1,c1,rfl,hv,hb⟩
 have H2:=Lib.hid (And.intro hv hb)
 clear hv hb hix hkf
 go_wp2_with fail
 go_ret2
 exact ⟨A1,c1,rfl,Kd.R_lower H2.out.1 HB.out.size,a0h HB.out H2.out.2⟩
set_option maxRecDepth 100000 in
theorem c9y {x : Int × List Int} (A : Option Addr) (c m : Nat) (n : Int) (w : World) (h0 : a0B 2 n m = 0) (h : ∀ (W : World) (p q : Nat),Below w.heap.size w W -> W.cell? ⟨p,0,none⟩ = some (.int .i64 0) -> W.cell? ⟨q,0,none⟩ = some (.int .i64 1) -> Calls Tryz.prog 131 #[.slice A m c,.int .i64 n] W (Told x.1 x.2 W)) :
    Calls Tryz.prog 28 #[.int .i64 2,.slice A m c,.int .i64 n] w (Told x.1 x.2 w):=by
 have H:=Lib.hid h
 have HI:=Lib.hid (a5k 2 n m w)
 unfold a1v at HI
 rw [h0] at HI
 clear h h0
 go_enter Tryz.func28,Tryz.ntmps28
 go_wp2_with fail
 refine HI.out.mono ?_
 rintro e w0 ⟨rfl,hb0⟩
 have HB0:=Lib.hid hb0
 clear hb0
 go_wp2_with fail
 refine (a2r w0).mono ?_
 rintro e w1 ⟨p,q,rfl,hp,hq,hb⟩
 have HB:=Lib.hid (a0h HB0.out hb)
 have H1:=Lib.hid (H.out w1 p q HB.out hp hq)
 have hix:=λ W=>b0P p q W
 have hkf:=a7V
 obtain ⟨V,hV⟩ : ∃ V,V = a1n p q:=⟨_,rfl⟩
 rw [<- hV] at hix ⊢
 clear hb hp hq hV
 go_wp2_with fail
 refine H1.out.mono ?_
 rintro e w2 ⟨A1,c1,rfl,hv,hb⟩
 have H2:=Lib.hid (And.intro hv hb)
 clear hv hb hix hkf
 go_wp2_with fail
 go_ret2
 exact ⟨A1,c1,rfl,Kd.R_lower H2.out.1 HB.out.size,a0h HB.out H2.out.2⟩
set_option maxRecDepth 100000 in
theorem c9z {x : Int × List Int} (A : Option Addr) (c m : Nat) (n : Int) (w : World) (h0 : a0B 3 n m = 0) (h : ∀ (W : World) (p q : Nat),Below w.heap.size w W -> W.cell? ⟨p,0,none⟩ = some (.int .i64 0) -> W.cell? ⟨q,0,none⟩ = some (.int .i64 1) -> Calls Tryz.prog 23 #[.slice A m c,.int .i64 n] W (Told x.1 x.2 W)) :
    Calls Tryz.prog 28 #[.int .i64 3,.slice A m c,.int .i64 n] w (Told x.1 x.2 w):=by
 have H:=Lib.hid h
 have HI:=Lib.hid (a5k 3 n m w)
 unfold a1v at HI
 rw [h0] at HI
 clear h h0
 go_enter Tryz.func28,Tryz.ntmps28
 go_wp2_with fail
 refine HI.out.mono ?_
 rintro e w0 ⟨rfl,hb0⟩
 have HB0:=Lib.hid hb0
 clear hb0
 go_wp2_with fail
 refine (a2r w0).mono ?_
 rintro e w1 ⟨p,q,rfl,hp,hq,hb⟩
 have HB:=Lib.hid (a0h HB0.out hb)
 have H1:=Lib.hid (H.out w1 p q HB.out hp hq)
 have hix:=λ W=>b0Q p q W
 have hkf:=a7V
 obtain ⟨V,hV⟩ : ∃ V,V = a1n p q:=⟨_,rfl⟩
 rw [<- hV] at hix ⊢
 clear hb hp hq hV
 go_wp2_with fail
 refine H1.out.mono ?_
 rintro e w2 ⟨A1,c1,rfl,hv,hb⟩
 have H2:=Lib.hid (And.intro hv hb)
 clear hv hb hix hkf
 go_wp2_with fail
 go_ret2
 exact ⟨A1,c1,rfl,Kd.R_lower H2.out.1 HB.out.size,a0h HB.out H2.out.2⟩
theorem b7Q {k n m : Int} (h : a0B k n m = 0) : 0 <= k /\ k < 4 /\ 0 <= n /\ n <= 131072 /\ mayB k n m = true:=by
 unfold a0B at h
 by_cases h1 : k < 0 \/ 3 < k
 · rw [if_pos h1] at h; cases h
 rw [if_neg h1] at h
 by_cases h2 : n < 0 \/ 131072 < n \/ mayB k n m = false
 · rw [if_pos h2] at h; cases h
 refine ⟨by omega,by omega,by omega,by omega,?_⟩
 cases e : mayB k n m with
 | true=>rfl
 | false=>exact absurd (.inr (.inr e)) h2
theorem c9A (A : Option Addr) (c : Nat) (k n : Int) (ps : List Int) (w : World) (hr : (Kd.int .u8).C w A ps.length ps) (hps : Bytes ps) (hl : ps.length <= 1000000) (hc : ps.length <= c) (hnil : A = none -> c = 0) :
    Calls Tryz.prog 28 #[.int .i64 k,.slice A ps.length c,.int .i64 n] w (Told (pickD k ps n).1 (pickD k ps n).2 w):=by
 by_cases h0 : a0B k n ps.length = 0
 · obtain ⟨k0,k4,n0,n1,hm⟩:=b7Q h0
   have e : pickD k ps n = if k <= 1 then a2Y k ps n else if k = 2 then dec0M ps n else dec1M ps n:=by unfold pickD; rw [if_neg (λ h=>h h0)]
   rw [e]
   by_cases e0 : k = 0
   · subst e0
     have hn : n = ps.length:=by unfold mayB at hm; rw [if_pos rfl] at hm; exact of_decide_eq_true hm
     subst hn
     have e2 : a2Y 0 ps ps.length = (0,ps):=by unfold a2Y; rw [if_neg (by omega),if_neg (by omega),if_pos rfl]
     rw [if_pos (by decide),e2]
     exact c9w (x:=(0,ps)) A c ps.length ps.length w h0 (λ W p q hB hp _=>b7P (x:=(0,ps)) A c p 0 _ _ W hp (c9q A c ps W (Kd.C_below hr hB) (by omega) hps))
   by_cases e1 : k = 1
   · subst e1
     have hn : 1 < n /\ (ps.length : Int) = 1:=by unfold mayB at hm; rw [if_neg (by decide),if_pos rfl] at hm; exact of_decide_eq_true hm
     obtain ⟨N,rfl⟩ : ∃ N : Nat,n = N:=⟨n.toNat,by omega⟩
     have hl1 : ps.length = 1:=by omega
     have e2 : a2Y 1 ps N = (0,List.replicate N (ps.getD 0 0)):=by unfold a2Y; rw [if_neg (by omega),if_neg (by omega),if_neg (by decide)]; rfl
     obtain ⟨x,rfl⟩:=List.length_eq_one_iff.1 hl1
     rw [if_pos (by decide),e2]
     exact c9x (x:=(0,List.replicate N x)) A c 1 N w h0 (λ W p q hB _ hq=>b7P (x:=(0,List.replicate N x)) A c q 1 _ _ W hq (c9r A c x N W (Kd.C_below hr hB) (by omega) (by omega)))
   rw [if_neg (by omega)]
   by_cases e2 : k = 2
   · subst e2
     rw [if_pos rfl]
     exact c9y (x:=dec0M ps n) A c ps.length n w h0 (λ W p q hB _ _=>c6z A c ps n W (Kd.C_below hr hB) hps hl hc hnil rfl)
   · obtain rfl : k = 3:=by omega
     rw [if_neg (by decide)]
     exact c9z (x:=dec1M ps n) A c ps.length n w h0 (λ W p q hB _ _=>(b7O A c ps n W (Kd.C_below hr hB) hps hl hc).mono λ e w' hp=>hp.told)
 · have e : pickD k ps n = (a0B k n ps.length,[]):=by unfold pickD; rw [if_pos h0]
   rw [e]
   exact c9v A c ps.length k n w h0
theorem b7R {k n : Int} {ps : List Int} (h : Bytes ps) : Bytes (pickD k ps n).2:=by
 unfold pickD
 split
 · intro x hx; cases hx
 · split
   · unfold a2Y
     repeat' split
     · intro x hx; cases hx
     · intro x hx; cases hx
     · exact h
     · intro x hx; rw [(List.mem_replicate.1 hx).2]; exact h.get 0
   · split
     · exact c6Z h
     · exact c7a h
def OpenPost (r : Int × List Int × Nat × Bool) (w : World) (e : Ending) (w' : World) : Prop:=
 ∃ A c,e = .returned (.tuple #[.slice A r.2.1.length c,.int .i64 (r.2.2.1 : Nat),.bool r.2.2.2,.int .i64 r.1]) /\ (Kd.int .u8).R 5 w' w.heap.size (λ _=>True) (.slice A r.2.1.length c) r.2.1 /\ Below w.heap.size w w'
theorem b1e {f : List Int} (hf : Bytes f) {log room : Int} {first : Bool} (h : (scanM f log first room).1 = 0) : 11 <= f.length /\ (scanM f log first room).2.1 <= 3 /\ (scanM f log first room).2.2.1 <= 131072 /\ (scanM f log first room).2.2.2.1 < 16777216 /\ (scanM f log first room).2.2.2.2.2 < 4294967296 /\ a0B ((scanM f log first room).2.1 : Nat) (scanM f log first room).2.2.1 (scanM f log first room).2.2.2.1 = 0 /\ ((scanM f log first room).2.2.1 : Int) <= room:=by
 unfold scanM at h ⊢
 by_cases a1 : log < 10 \/ 17 < log \/ room < 0
 · rw [if_pos a1] at h; cases h
 rw [if_neg a1] at h ⊢
 by_cases a2 : f.length < 1
 · rw [if_pos a2] at h; cases h
 rw [if_neg a2] at h ⊢
 by_cases a3 : 7 < (f.getD 0 0).toNat
 · rw [if_pos a3] at h; cases h
 rw [if_neg a3] at h ⊢
 by_cases a4 : f.length < 4
 · rw [if_pos a4] at h; cases h
 rw [if_neg a4] at h ⊢
 by_cases a5 : a1y log first ((f.getD 0 0).toNat % 4) (rdN (f.drop 1) 3) (decide (4 <= (f.getD 0 0).toNat)) = false
 · rw [if_pos a5] at h; cases h
 rw [if_neg a5] at h ⊢
 by_cases a6 : f.length < 7
 · rw [if_pos a6] at h; cases h
 rw [if_neg a6] at h ⊢
 by_cases a7 : a0B ((f.getD 0 0).toNat % 4 : Nat) (rdN (f.drop 1) 3) (rdN (f.drop 4) 3) ≠ 0
 · rw [if_pos a7] at h; exact absurd h a7
 rw [if_neg a7] at h ⊢
 by_cases a8 : room < rdN (f.drop 1) 3
 · rw [if_pos a8] at h; cases h
 rw [if_neg a8] at h ⊢
 by_cases a9 : f.length < 11
 · rw [if_pos a9] at h; cases h
 rw [if_neg a9]
 have b1:=a2J (λ x hx=>hf x (List.mem_of_mem_drop hx) : Bytes (f.drop 4)) 3
 have b2:=a2J (λ x hx=>hf x (List.mem_of_mem_drop hx) : Bytes (f.drop 7)) 4
 have b3:=b7Q (Classical.not_not.1 a7)
 dsimp only
 refine ⟨by omega,by omega,by omega,by omega,by omega,Classical.not_not.1 a7,by omega⟩
theorem a6h {fn : Func} {a b c d : Tmp} (h : fn.results = #[.tmp a,.tmp b,.tmp c,.tmp d]) (tmps : Array Value) (w : World) :
    (results fn tmps).run Tryz.prog w = .ok (.tuple #[tmps.getD a undef,tmps.getD b undef,tmps.getD c undef,tmps.getD d undef]) w:=by
 simp [results,h]
theorem OpenPost.err (k : Int) {w w' : World} (hb : Below w.heap.size w w') : OpenPost (k,[],0,false) w (.returned (.tuple #[.slice none 0 0,.int .i64 0,.bool false,.int .i64 k])) w':=⟨none,0,rfl,Kd.R_nil _ _ _ _ _,hb⟩
set_option maxRecDepth 100000 in
set_option maxHeartbeats 2000000 in
theorem b7S (A : Option Addr) (c : Nat) (f : List Int) (log : Int) (first : Bool) (room : Int) (w : World) (hr : (Kd.int .u8).C w A f.length f) (hf : Bytes f) (hl : f.length <= 1000000) (hc : f.length <= c) :
    Calls Tryz.prog 36 #[.slice A f.length c,.int .i64 log,.bool first,.int .i64 room] w (OpenPost (openM f log first room) w):=by
 have HSc:=Lib.hid (b7e A c f log first room w hr hf hl hc)
 have hB:=λ h=>b1e hf (log:=log) (room:=room) (first:=first) h
 have HOp : Hid (openM f log first room = (let s:=scanM f log first room
  if s.1 ≠ 0 then (s.1,[],0,false) else
  if f.length < 11 + s.2.2.2.1 then (3,[],0,false) else
  if a0R 0 ((f.drop 11).take s.2.2.2.1) ≠ s.2.2.2.2.2 then (12,[],0,false) else
  if (pickD (s.2.1 : Nat) ((f.drop 11).take s.2.2.2.1) s.2.2.1).1 ≠ 0 then ((pickD (s.2.1 : Nat) ((f.drop 11).take s.2.2.2.1) s.2.2.1).1,[],0,false) else
  (0,(pickD (s.2.1 : Nat) ((f.drop 11).take s.2.2.2.1) s.2.2.1).2,11 + s.2.2.2.1,s.2.2.2.2.1))):=Lib.hid rfl
 obtain ⟨R,hR⟩ : ∃ R,R = openM f log first room:=⟨_,rfl⟩
 rw [<- hR] at HOp ⊢
 obtain ⟨k,kd,N,Len,lb,sm,hS⟩ : ∃ k kd N Len lb sm,scanM f log first room = (k,kd,N,Len,lb,sm):=⟨_,_,_,_,_,_,rfl⟩
 rw [hS] at HSc hB HOp
 dsimp only at hB HOp
 unfold b0S headC at HSc
 dsimp only at HSc
 have HRw:=Lib.hid (And.intro hr (And.intro hf (And.intro hl hc)))
 clear hR hS hr hf hl hc
 by_cases hk : k = 0
 · subst hk
   obtain ⟨b11,bkd,bN,bLen,bsm,bck,brm⟩:=hB rfl
   have HBd:=Lib.hid (And.intro b11 (And.intro bkd (And.intro bN (And.intro bLen (And.intro bsm (And.intro bck brm))))))
   rw [if_neg (λ h=>h rfl)] at HOp
   clear hB bkd bN bck brm
   by_cases hL : f.length < 11 + Len
   · rw [if_pos hL] at HOp
     have hLI : (f.length : Int) < 11 + (Len : Int):=by omega
     clear hL
     go_enter Tryz.func36,Tryz.ntmps36
     go_wp2_with fail
     refine HSc.out.mono ?_
     rintro e w1 ⟨rfl,hb1⟩
     have HB1:=Lib.hid hb1
     clear hb1
     go_wp2_with fail
     refine bodyPost_ret (a6h (fn:=Tryz.f36) (a:=8) (b:=9) (c:=10) (d:=11) rfl _ _) rfl ?_
     rw [HOp.out]
     exact OpenPost.err 3 (HB1.out.alloc HB1.out.size _)
   · rw [if_neg hL] at HOp
     have hLI : ¬ (f.length : Int) < 11 + (Len : Int):=by omega
     obtain ⟨bd,hbd⟩ : ∃ l,l = (f.drop 11).take Len:=⟨_,rfl⟩
     have hdl : (f.drop 11).length = f.length - 11:=List.length_drop
     have hbl : bd.length = Len:=by rw [hbd,List.length_take]; omega
     have HBy:=Lib.hid (show Bytes bd from by rw [hbd]; exact λ x hx=>HRw.out.2.1 x (List.mem_of_mem_drop (List.mem_of_mem_take hx)))
     have hsl : ∀ W : World,(Instr.slice 22 (.slice A f.length c) (some (.int .i64 11)) (some (.int .i64 (11 + (Len : Int)))) none).run Tryz.prog W = .ok (.slice (if c = 11 then A else A.map (·.add (11 * 1))) Len (c - 11)) W:=λ W=>by
      obtain ⟨i0,hi0,hz0,hz1,hz2⟩:=info_parts a0E
      have:=b9h (P:=Tryz.prog) 22 5 .i64 .i64 Tryz.underlying22 hi0 1 hz1 A f.length c (11 : Int) (11 + (Len : Int)) (by decide) (by omega) (by omega) HRw.out.2.2.2 W
      rw [show ((11 : Int) + (Len : Int)).toNat - (11 : Int).toNat = Len by omega,show (11 : Int).toNat = 11 from rfl] at this
      exact this
     obtain ⟨Ab,hAb⟩ : ∃ Ab,Ab = (if c = 11 then A else A.map (·.add (11 * 1))):=⟨_,rfl⟩
     have hnil : Ab ≠ none:=by
      obtain ⟨ad,hA,_⟩:=a0w HRw.out.1 0 (by omega)
      rw [hAb,hA]; split <;> simp
     have HBC : Hid ((Kd.int .u8).C w Ab Len bd):=Lib.hid (by
      have h1:=Kd.C_drop (c:=c) (m:=11) HRw.out.1 b11 HRw.out.2.2.2
      have h2:=Kd.C_take (m:=Len) h1 (by omega)
      rw [<- hbd,hbl] at h2
      rw [hAb]; exact h2)
     rw [<- hAb] at hsl
     rw [<- hbd] at HOp
     have HBl:=Lib.hid (And.intro hbl (show Len <= c - 11 from by have:=HRw.out.2.2.2; omega))
     have HNil:=Lib.hid hnil
     obtain ⟨cs,hcs⟩ : ∃ n,n = a0R 0 bd:=⟨_,rfl⟩
     have HCs:=Lib.hid hcs
     rw [<- hcs] at HOp
     have HLn:=Lib.hid (show bd.length <= 1000000 from by have:=HRw.out.2.2.1; omega)
     clear hL hbd hdl hbl hAb hnil hcs
     go_enter Tryz.func36,Tryz.ntmps36
     go_wp2_with fail
     refine HSc.out.mono ?_
     rintro e w1 ⟨rfl,hb1⟩
     obtain ⟨w2,hw2⟩ : ∃ w2,w2 = w1.alloc (.cells #[.int .i64 kd,.int .i64 N,.int .i64 Len,.bool lb,.int .u32 sm] 114):=⟨_,rfl⟩
     have hb2 : Below w.heap.size w w2:=by rw [hw2]; exact hb1.alloc hb1.size _
     have hk2 : w2.heap[w1.heap.size]? = some (.cells #[.int .i64 kd,.int .i64 N,.int .i64 Len,.bool lb,.int .u32 sm] 114 (0,0)):=by rw [hw2]; exact a0k _ _
     obtain ⟨hh,hhh⟩ : ∃ h,h = w1.heap.size:=⟨_,rfl⟩
     rw [<- hhh] at hk2
     have HB2:=Lib.hid hb2
     have HK2:=Lib.hid hk2
     obtain ⟨⟨c0,c1,c2,c3,c4⟩,-⟩:=cell5 hk2
     have s0 : SLater w2 w2:=Below.refl _ _
     clear hb1 hb2 hk2
     go_wp2_with fail
     rw [<- hw2,<- hhh]
     clear hw2 hhh
     go_wp2_with fail
     have HBC2:=Lib.hid (Kd.C_below HBC.out HB2.out)
     have HOf0 : Hid (∀ (W : World) (p : Nat),SLater w2 W -> TabAt p 256 W -> Calls Tryz.prog 86 #[.pointer (some ⟨p,0,none⟩),.slice Ab Len (c - 11)] W (λ e W'=>e = .returned (.int .u32 cs) /\ W = W')):=Lib.hid (λ W p hW hp=>by
      have h2:=a5W p Ab (c - 11) bd W hp (by rw [HBl.out.1]; exact Kd.C_below HBC2.out hW) (by have:=HLn.out; omega) HBy.out
      rw [HBl.out.1,<- HCs.out] at h2
      exact h2)
     have HPd : Hid (∀ W : World,SLater w2 W -> Calls Tryz.prog 28 #[.int .i64 kd,.slice Ab Len (c - 11),.int .i64 N] W (Told (pickD kd bd N).1 (pickD kd bd N).2 W)):=Lib.hid (λ W hW=>by
      have h:=c9A Ab (c - 11) kd N bd W (by rw [HBl.out.1]; exact Kd.C_below HBC2.out hW) HBy.out HLn.out (by rw [HBl.out.1]; exact HBl.out.2) (λ h=>absurd h HNil.out)
      rw [HBl.out.1] at h
      exact h)
     have HRb:=Lib.hid (b7R (k:=kd) (n:=N) HBy.out)
     obtain ⟨pk,py,hP⟩ : ∃ pk py,pickD kd bd N = (pk,py):=⟨_,_,rfl⟩
     rw [hP] at HPd HOp HRb
     dsimp only at HPd HOp HRb
     clear hP
     by_cases hcm : cs = sm
     · rw [if_neg (λ h=>h hcm)] at HOp
       have hneq : ((cs : Int) != (sm : Int)) = false:=by rw [hcm]; simp
       clear hcm
       go_region_law (first
        | (go_simp; go_at_call 85; refine (a4o _).mono ?_; rintro e w' ⟨p,rfl,hp,ht,hb⟩; have s1:=(by first | exact SLater.keep ‹_› hb | exact SLater.keep (SLater.drew ‹_›) hb : SLater w2 w'); obtain ⟨⟨g0,g1,g2,g3,g4⟩,-⟩:=cell5 (a0g HK2.out s1); clear hp hb)
        | (go_simp; go_at_call 86; refine (HOf0.out _ _ (by first | assumption | exact SLater.drew ‹_›) (by first | assumption)).mono ?_; rintro e w' ⟨rfl,rfl⟩))
       all_goals
        go_wp2_with fail
        refine (HPd.out _ (by first | assumption | exact SLater.drew ‹_›)).mono ?_
        rintro e w5 ⟨Ay,cy,rfl,hvy,hb5⟩
        have HV5 : Hid ((Kd.int .u8).R 5 w5 w.heap.size (λ _=>True) (.slice Ay py.length cy) py):=Lib.hid (Kd.R_lower hvy (Nat.le_trans HB2.out.size (Below.size (B:=w2.heap.size) (w:=w2) (by first | assumption | exact SLater.drew ‹_›))))
        have sX:=(by first | exact SLater.keep ‹_› hb5 | exact SLater.keep (SLater.drew ‹_›) hb5 : SLater w2 w5)
        obtain ⟨⟨g0,g1,g2,g3,g4⟩,-⟩:=cell5 (a0g HK2.out sX)
        have HSX:=Lib.hid sX
        clear hvy hb5
        by_cases hpk : pk = 0
        · subst hpk
          rw [if_neg (λ h=>h rfl)] at HOp
          go_wp2_with fail
          go_quiet (fail)
          all_goals
           go_wp2_with fail
           refine bodyPost_ret (a6h (fn:=Tryz.f36) (a:=8) (b:=9) (c:=10) (d:=11) rfl _ _) rfl ?_
           rw [HOp.out]
           exact ⟨Ay,cy,rfl,Kd.R_below HV5.out (a0b (Below.refl _ _) _),a0b (HB2.out.trans (Below.mono HSX.out HB2.out.size)) _⟩
        · rw [if_pos hpk] at HOp
          have hpk2 : (pk != 0) = true:=by simpa using hpk
          clear hpk
          go_wp2_with fail
          refine bodyPost_ret (a6h (fn:=Tryz.f36) (a:=8) (b:=9) (c:=10) (d:=11) rfl _ _) rfl ?_
          rw [HOp.out]
          exact OpenPost.err pk (HB2.out.trans (Below.mono HSX.out HB2.out.size))
     · rw [if_pos hcm] at HOp
       have hneq : ((cs : Int) != (sm : Int)) = true:=by simp; omega
       clear hcm
       go_region_law (first
        | (go_simp; go_at_call 85; refine (a4o _).mono ?_; rintro e w' ⟨p,rfl,hp,ht,hb⟩; have s1:=(by first | exact SLater.keep ‹_› hb | exact SLater.keep (SLater.drew ‹_›) hb : SLater w2 w'); obtain ⟨⟨g0,g1,g2,g3,g4⟩,-⟩:=cell5 (a0g HK2.out s1); clear hp hb)
        | (go_simp; go_at_call 86; refine (HOf0.out _ _ (by first | assumption | exact SLater.drew ‹_›) (by first | assumption)).mono ?_; rintro e w' ⟨rfl,rfl⟩))
       all_goals
        have sX:=(by first | assumption | exact SLater.drew ‹_› : SLater w2 _)
        go_wp2_with fail
        refine bodyPost_ret (a6h (fn:=Tryz.f36) (a:=8) (b:=9) (c:=10) (d:=11) rfl _ _) rfl ?_
        rw [HOp.out]
        exact OpenPost.err 12 (HB2.out.trans (Below.mono (by first | assumption | exact SLater.drew ‹_›) HB2.out.size))
 · have hk2 : (k != 0) = true:=by simpa using hk
   rw [if_pos hk] at HOp
   clear hB hk
   go_enter Tryz.func36,Tryz.ntmps36
   go_wp2_with fail
   refine HSc.out.mono ?_
   rintro e w1 ⟨rfl,hb1⟩
   have HB1:=Lib.hid hb1
   clear hb1
   go_wp2_with fail
   refine bodyPost_ret (a6h (fn:=Tryz.f36) (a:=8) (b:=9) (c:=10) (d:=11) rfl _ _) rfl ?_
   rw [HOp.out]
   exact OpenPost.err k (HB1.out.alloc HB1.out.size _)
theorem c9B {f x : List Int} (h : f.length < 4) : a1j f x = 3:=by unfold a1j; rw [if_pos h]
theorem c9C {f x : List Int} (h : ¬ f.length < 4) (h2 : f.take 4 ≠ tailL x) : a1j f x = 15:=by unfold a1j; rw [if_neg h,if_pos h2]
theorem c9D {f x : List Int} (h : ¬ f.length < 4) (h2 : f.take 4 = tailL x) : a1j f x = if 4 < f.length then 16 else 0:=by unfold a1j; rw [if_neg h,if_neg (λ h=>h h2)]
theorem c9E (x : List Int) : Bytes (tailL x):=a5e _ _
set_option maxRecDepth 100000 in
set_option maxHeartbeats 2000000 in
theorem c9F (A B : Option Addr) (ca cb : Nat) (f x : List Int) (w : World) (hf : BSl w A ca f) (hx : BSl w B cb x) (hl : x.length <= 1000000000000) (hfl : f.length <= 1000000) :
    Calls Tryz.prog 96 #[.slice A f.length ca,.slice B x.length cb] w (λ e w'=>e = .returned (.int .i64 (a1j f x)) /\ Below w.heap.size w w'):=by
 by_cases h4 : f.length < 4
 · have HM:=Lib.hid (c9B (x:=x) h4)
   have h4I : (f.length : Int) < 4:=by omega
   clear hf hx h4
   go_enter Tryz.func96,Tryz.ntmps96
   go_wp2_with fail
   go_ret
   rw [HM.out]
   exact ⟨rfl,Below.refl _ _⟩
 · have h4I : ¬ (f.length : Int) < 4:=by omega
   have hsl:=a2X A f.length ca 4 (by omega) hf.cap
   have htk : (f.take 4).length = 4:=by rw [List.length_take]; omega
   have htb : Bytes (f.take 4):=λ x hx=>hf.by' x (List.mem_of_mem_take hx)
   have hC:=(hf.cut (k:=4) (by omega)).row
   have hc4 : (4 : Int) <= (ca : Int):=by have:=hf.cap; omega
   rw [htk] at hC
   have hcv1 : ∀ W,SLater w W -> (convert 22 9 (.slice A 4 ca)).run Tryz.prog W = .ok (.string (strOfNums (f.take 4))) W:=λ W hW=>by
    have:=Kd.C_string (P:=Tryz.prog) (c:=ca) Tryz.underlying22 Tryz.underlying5 Tryz.underlying9 (Kd.C_below (n:=(f.take 4).length) (by rw [htk]; exact hC) hW)
    rw [htk] at this; exact this
   have HTl : Hid (∀ W,SLater w W -> Calls Tryz.prog 43 #[.slice B x.length cb] W (λ e w'=>∃ A c,e = .returned (.slice A 4 c) /\ (Kd.int .u8).R 5 w' W.heap.size (λ _=>True) (.slice A 4 c) (tailL x) /\ Below W.heap.size W w')):=Lib.hid (λ W hW=>b7x B cb x W (Kd.C_below hx.row hW) hl hx.by')
   have HCv : Hid (∀ (W : World) (T : Option Addr) (c B : Nat),(Kd.int .u8).R 5 W B (λ _=>True) (.slice T 4 c) (tailL x) -> ∀ W',SLater W W' -> (convert 22 9 (.slice T 4 c)).run Tryz.prog W' = .ok (.string (strOfNums (tailL x))) W'):=Lib.hid (λ W T c B h W' hW=>by
    have h2:=(Kd.R_reads' h).2.2
    have:=Kd.C_string (P:=Tryz.prog) (c:=c) Tryz.underlying22 Tryz.underlying5 Tryz.underlying9 (Kd.C_below h2 hW)
    rw [a1R] at this; exact this)
   have hq:=b5m htb (c9E x)
   have HB : Hid (f.take 4 ≠ tailL x -> a1j f x = 15):=Lib.hid (c9C h4)
   have HB2 : Hid (f.take 4 = tailL x -> a1j f x = if 4 < f.length then 16 else 0):=Lib.hid (c9D h4)
   obtain ⟨tk,hk⟩ : ∃ t,t = f.take 4:=⟨_,rfl⟩
   obtain ⟨tl,htl⟩ : ∃ t,t = tailL x:=⟨_,rfl⟩
   obtain ⟨x1,hx1⟩ : ∃ x,x = strOfNums tk:=⟨_,rfl⟩
   obtain ⟨y1,hy1⟩ : ∃ x,x = strOfNums tl:=⟨_,rfl⟩
   obtain ⟨r,hr⟩ : ∃ r,r = a1j f x:=⟨_,rfl⟩
   rw [<- hk,<- htl] at hq HB HB2
   rw [<- hk] at hcv1
   rw [<- htl] at HTl HCv
   rw [<- hx1,<- hy1] at hq
   rw [<- hx1] at hcv1
   rw [<- hy1] at HCv
   rw [<- hr] at HB HB2 ⊢
   have s0 : SLater w w:=Below.refl _ _
   have cv0:=hcv1 w.drew s0.drew
   have HCv1:=Lib.hid hcv1
   clear hcv1 hC htk htb hf hx hk htl hx1 hy1 hr h4
   by_cases hne : tk = tl
   · rw [decide_eq_true hne] at hq
     have hq2 : (x1.toList != y1.toList) = false:=by show (!(x1.toList == y1.toList)) = false; rw [hq]; rfl
     have HR:=Lib.hid (HB2.out hne)
     clear HB HB2 hne
     by_cases h5 : 4 < f.length
     · have h5I : (4 : Int) < (f.length : Int):=by omega
       rw [if_pos h5] at HR
       clear h5
       go_enter Tryz.func96,Tryz.ntmps96
       go_wp2_with fail
       go_region_law (go_simp; go_at_call 43; refine (HTl.out _ (by first | assumption | exact SLater.drew ‹_›)).mono ?_; rintro e w' ⟨T,ct,rfl,hvt,hb⟩; have sx:=(by first | exact SLater.keep ‹_› hb | exact SLater.keep (SLater.drew ‹_›) hb : SLater w w'); have cv1:=HCv1.out _ sx; have cv2:=HCv.out _ _ _ _ hvt _ (Below.refl _ _); clear hvt hb)
       all_goals
        go_wp2_with fail
        go_ret
        rw [HR.out]
        exact ⟨rfl,by first | assumption | exact SLater.drew ‹_›⟩
     · have h5I : ¬ (4 : Int) < (f.length : Int):=by omega
       rw [if_neg h5] at HR
       clear h5
       go_enter Tryz.func96,Tryz.ntmps96
       go_wp2_with fail
       go_region_law (go_simp; go_at_call 43; refine (HTl.out _ (by first | assumption | exact SLater.drew ‹_›)).mono ?_; rintro e w' ⟨T,ct,rfl,hvt,hb⟩; have sx:=(by first | exact SLater.keep ‹_› hb | exact SLater.keep (SLater.drew ‹_›) hb : SLater w w'); have cv1:=HCv1.out _ sx; have cv2:=HCv.out _ _ _ _ hvt _ (Below.refl _ _); clear hvt hb)
       all_goals
        go_wp2_with fail
        go_ret
        rw [HR.out]
        exact ⟨rfl,by first | assumption | exact SLater.drew ‹_›⟩
   · rw [decide_eq_false hne] at hq
     have hq2 : (x1.toList != y1.toList) = true:=by show (!(x1.toList == y1.toList)) = true; rw [hq]; rfl
     have HR:=Lib.hid (HB.out hne)
     clear HB HB2 hne
     go_enter Tryz.func96,Tryz.ntmps96
     go_wp2_with fail
     go_region_law (go_simp; go_at_call 43; refine (HTl.out _ (by first | assumption | exact SLater.drew ‹_›)).mono ?_; rintro e w' ⟨T,ct,rfl,hvt,hb⟩; have sx:=(by first | exact SLater.keep ‹_› hb | exact SLater.keep (SLater.drew ‹_›) hb : SLater w w'); have cv1:=HCv1.out _ sx; have cv2:=HCv.out _ _ _ _ hvt _ (Below.refl _ _); clear hvt hb)
     all_goals
      go_wp2_with fail
      go_ret
      rw [HR.out]
      exact ⟨rfl,by first | assumption | exact SLater.drew ‹_›⟩
theorem b7T {n : Nat} {f : List Int} {log : Int} {first : Bool} {limit : Int} {sum : Nat} {k : Int} {h : HeadT} (hs : scanM f log first (limit - sum) = (k,h)) (h1 : k ≠ 0 \/ f.length < 11 + h.2.2.1) : sizeG (n + 1) f log first limit sum = sum:=by
 unfold sizeG; rw [hs]; exact if_pos h1
theorem c9G {n : Nat} {f : List Int} {log : Int} {first : Bool} {limit : Int} {sum : Nat} {h : HeadT} (hs : scanM f log first (limit - sum) = (0,h)) (h1 : ¬ f.length < 11 + h.2.2.1) : sizeG (n + 1) f log first limit sum = if h.2.2.2.1 = true then sum + h.2.1 else sizeG n (f.drop (11 + h.2.2.1)) log false limit (sum + h.2.1):=by
 conv=>lhs; unfold sizeG
 rw [hs]
 rw [if_neg (by rintro (h | h); exact h rfl; exact h1 h)]
theorem b7U {f : List Int} (h : headM f = 0) (hb : Bytes f) : a2f f = f.getD 5 0 /\ 0 <= a2f f /\ a2f f < 256:=by
 have : a2f f = f.getD 5 0:=by unfold a2f; rw [if_pos h]
 rw [this]; exact ⟨rfl,hb.get 5⟩
theorem b7V {f : List Int} (h : headM f = 0) : 8 <= f.length:=by
 have g : ∀ (d i : Nat),headG f d i = 0 -> i + d <= f.length \/ d = 0:=by
  intro d
  induction d with
  | zero=>intro i _; exact .inr rfl
  | succ d ih=>
   intro i h
   left
   unfold headG at h
   split at h
   · cases h
   · split at h
     · rename_i h1; exact absurd h h1
     · rcases ih (i + 1) h with h | h <;> omega
 have:=g 8 0 h
 omega
set_option maxRecDepth 100000 in
set_option maxHeartbeats 4000000 in
theorem b1f (A : Option Addr) (c : Nat) (f : List Int) (limit : Int) (w : World) (hf : BSl w A c f) (hl : f.length <= 1000000) (hL : limit < 4611686018427387904) :
    Calls Tryz.prog 48 #[.slice A f.length c,.int .i64 limit] w (λ e w'=>e = .returned (.int .i64 (sizeM f limit : Nat)) /\ Below w.heap.size w w'):=by
 have HHd:=Lib.hid (b7N A c f w hf hl)
 by_cases hh : headM f = 0
 · have h8:=b7V hh
   obtain ⟨hlg,-,-⟩:=b7U hh hf.by'
   obtain ⟨lg,hlg0⟩ : ∃ l,l = a2f f:=⟨_,rfl⟩
   rw [hh,<- hlg0] at HHd
   by_cases hn : limit < 0
   · have HS : Hid (sizeM f limit = 0):=Lib.hid (by unfold sizeM; rw [if_pos (.inr hn)])
     clear hf hh hlg hlg0 h8
     go_enter Tryz.func48,Tryz.ntmps48
     go_wp2_with fail
     refine HHd.out.mono ?_
     rintro e w1 ⟨rfl,hb1⟩
     have HB1:=Lib.hid hb1
     clear hb1
     go_wp2_with fail
     go_ret
     rw [HS.out]
     exact ⟨rfl,HB1.out⟩
   · have HS : Hid (sizeM f limit = sizeG (f.length + 1) (f.drop 8) lg true limit 0):=Lib.hid (by
       unfold sizeM
       rw [if_neg (by rintro (h | h); exact h hh; exact hn h),hlg0,hlg])
     have hnI : ¬ limit < 0:=hn
     have hsf:=a3a A f.length c 8 h8
     have HDr:=Lib.hid (hf.from_ (k:=8) h8)
     obtain ⟨Ad,hAd⟩ : ∃ Ad,Ad = (if c = 8 then A else A.map (·.add (8 * 1))):=⟨_,rfl⟩
     rw [<- hAd] at HDr hsf
     obtain ⟨r0,hr0⟩ : ∃ r,r = f.drop 8:=⟨_,rfl⟩
     have hr0l : f.length - 8 = r0.length:=by rw [hr0,List.length_drop]
     rw [<- hr0] at HDr HS
     rw [hr0l] at hsf
     have hsf : ∀ W : World,(Instr.slice 22 (.slice A f.length c) (some (.int .i64 8)) none none).run Tryz.prog W = .ok (.slice Ad r0.length (c - 8)) W:=hsf
     have hc8 : (8 : Int) <= (c : Int):=by have:=hf.cap; omega
     have h8I : (8 : Int) <= (f.length : Int):=by omega
     obtain ⟨S,hS⟩ : ∃ S,S = sizeM f limit:=⟨_,rfl⟩
     rw [<- hS] at HS ⊢
     have HN:=Lib.hid (show r0.length < f.length + 1 /\ r0.length <= 1000000 by omega)
     clear hf hh hlg hlg0 hAd hr0 hS hr0l hn h8
     go_enter Tryz.func48,Tryz.ntmps48
     go_wp2_with fail
     refine HHd.out.mono ?_
     rintro e w1 ⟨rfl,hb1⟩
     have HB1:=Lib.hid hb1
     clear hb1
     go_wp2_with fail
     go_loopw [0,7,8,9,10] (λ fv sv bv _ _ wr=>∃ (n : Nat) (r : List Int) (Ar : Option Addr) (cr sum : Nat) (fb : Bool),fv = .slice Ar r.length cr /\ sv = .int .i64 sum /\ bv = .bool fb /\ Hid (sizeG n r lg fb limit sum = S /\ r.length < n /\ BSl w Ar cr r /\ Below w.heap.size w wr /\ (sum : Int) <= limit /\ r.length <= 1000000)) (λ fv _ _ _ _ _=>slN fv)
     case atStart=>exact ⟨f.length + 1,r0,Ad,c - 8,0,true,rfl,rfl,rfl,Lib.hid ⟨HS.out.symm,HN.out.1,HDr.out,HB1.out,by show (0 : Int) <= limit; omega,HN.out.2⟩⟩
     case round=>
      obtain ⟨n,r,Ar,cr,sum,fb,rfl,rfl,rfl,H⟩:=hrel
      obtain ⟨n,rfl⟩ : ∃ m,n = m + 1:=⟨n - 1,by have:=H.out.2.1; omega⟩
      have hw1 : IntKind.i64.wrap (limit - (sum : Int)) = limit - (sum : Int):=i64_in _ (by have:=H.out.2.2.2.2.1; omega)
      have HBr:=H.out.2.2.1.below H.out.2.2.2.1
      have HSc:=Lib.hid (b7e Ar cr r lg fb (limit - (sum : Int)) wr HBr.row HBr.by' H.out.2.2.2.2.2 HBr.cap)
      have hB:=λ h=>b1e HBr.by' (log:=lg) (room:=limit - (sum : Int)) (first:=fb) h
      obtain ⟨k,kd,N,Len,lb,sm,hSc⟩ : ∃ k kd N Len lb sm,scanM r lg fb (limit - (sum : Int)) = (k,kd,N,Len,lb,sm):=⟨_,_,_,_,_,_,rfl⟩
      have HScM:=Lib.hid hSc
      rw [hSc] at HSc hB
      dsimp only at hB
      unfold b0S headC at HSc
      dsimp only at HSc
      clear hSc HBr
      by_cases hk : k = 0
      · subst hk
        obtain ⟨b11,bkd,bN,bLen,bsm,bck,brm⟩:=hB rfl
        have HBd:=Lib.hid (And.intro b11 (And.intro bN (And.intro bLen brm)))
        clear hB b11 bkd bN bLen bsm bck brm
        by_cases hL2 : r.length < 11 + Len
        · have hLI : (r.length : Int) < 11 + (Len : Int):=by omega
          have hw2 : IntKind.i64.wrap (11 + (Len : Int)) = 11 + (Len : Int):=i64_in _ (by have:=HBd.out; omega)
          have HSt:=Lib.hid (b7T (n:=n) HScM.out (.inr hL2))
          clear hL2
          go_wp2_with fail
          refine HSc.out.mono ?_
          rintro e w2 ⟨rfl,hb2⟩
          have HB2:=Lib.hid hb2
          obtain ⟨w3,hw3⟩ : ∃ w3,w3 = w2.alloc (.cells #[.int .i64 kd,.int .i64 N,.int .i64 Len,.bool lb,.int .u32 sm] 114):=⟨_,rfl⟩
          have hk3 : w3.heap[w2.heap.size]? = some (.cells #[.int .i64 kd,.int .i64 N,.int .i64 Len,.bool lb,.int .u32 sm] 114 (0,0)):=by rw [hw3]; exact a0k _ _
          have HB3 : Hid (Below w.heap.size w w3):=Lib.hid (by rw [hw3]; exact (H.out.2.2.2.1.trans (hb2.mono H.out.2.2.2.1.size)).alloc (Nat.le_trans H.out.2.2.2.1.size hb2.size) _)
          obtain ⟨g,hg⟩ : ∃ h,h = w2.heap.size:=⟨_,rfl⟩
          rw [<- hg] at hk3
          obtain ⟨⟨c0,c1,c2,c3,c4⟩,-⟩:=cell5 hk3
          clear hb2 hk3
          go_wp2_with fail
          rw [<- hw3,<- hg]
          clear hw3 hg
          go_wp2_with fail
          go_ret
          have h1:=H.out.1
          rw [HSt.out] at h1
          rw [<- h1]
          exact ⟨rfl,HB3.out⟩
        · have hLI : ¬ (r.length : Int) < 11 + (Len : Int):=by omega
          have hw2 : IntKind.i64.wrap (11 + (Len : Int)) = 11 + (Len : Int):=i64_in _ (by have:=HBd.out; omega)
          have hw4 : IntKind.i64.wrap ((sum : Int) + (N : Int)) = (sum : Int) + (N : Int):=i64_in _ (by have:=HBd.out; have:=H.out.2.2.2.2.1; omega)
          have HSt:=Lib.hid (c9G (n:=n) HScM.out hL2)
          have HDr2:=Lib.hid (H.out.2.2.1.from_ (k:=11 + Len) (by omega))
          have hsf2:=a3a Ar r.length cr (11 + Len) (by omega)
          obtain ⟨Ad2,hAd2⟩ : ∃ Ad,Ad = (if cr = 11 + Len then Ar else Ar.map (·.add ((11 + Len) * 1))):=⟨_,rfl⟩
          rw [<- hAd2] at HDr2 hsf2
          obtain ⟨r2,hr2⟩ : ∃ r2,r2 = r.drop (11 + Len):=⟨_,rfl⟩
          have hr2l : r.length - (11 + Len) = r2.length:=by rw [hr2,List.length_drop]
          rw [<- hr2] at HDr2
          dsimp only at HSt
          rw [<- hr2] at HSt
          rw [hr2l,show ((11 + Len : Nat) : Int) = 11 + (Len : Int) by omega] at hsf2
          have hcr : (11 : Int) + (Len : Int) <= (cr : Int):=by have:=H.out.2.2.1.cap; omega
          have hcl : (11 : Int) + (Len : Int) <= (r.length : Int):=by omega
          have HLt:=Lib.hid (show r2.length < r.length by omega)
          clear hL2 hAd2 hr2 hr2l
          go_wp2_with fail
          refine HSc.out.mono ?_
          rintro e w2 ⟨rfl,hb2⟩
          have HB2:=Lib.hid hb2
          obtain ⟨w3,hw3⟩ : ∃ w3,w3 = w2.alloc (.cells #[.int .i64 kd,.int .i64 N,.int .i64 Len,.bool lb,.int .u32 sm] 114):=⟨_,rfl⟩
          have hk3 : w3.heap[w2.heap.size]? = some (.cells #[.int .i64 kd,.int .i64 N,.int .i64 Len,.bool lb,.int .u32 sm] 114 (0,0)):=by rw [hw3]; exact a0k _ _
          have HB3 : Hid (Below w.heap.size w w3):=Lib.hid (by rw [hw3]; exact (H.out.2.2.2.1.trans (hb2.mono H.out.2.2.2.1.size)).alloc (Nat.le_trans H.out.2.2.2.1.size hb2.size) _)
          obtain ⟨g,hg⟩ : ∃ h,h = w2.heap.size:=⟨_,rfl⟩
          rw [<- hg] at hk3
          obtain ⟨⟨c0,c1,c2,c3,c4⟩,-⟩:=cell5 hk3
          clear hb2 hk3
          cases lb with
          | true=>
           go_wp2_with fail
           rw [<- hw3,<- hg]
           clear hw3 hg
           go_wp2_with fail
           go_ret
           have h1:=H.out.1
           rw [HSt.out] at h1
           simp only [if_true] at h1
           rw [<- h1]
           exact ⟨by simp,HB3.out⟩
          | false=>
           go_wp2_with fail
           rw [<- hw3]
           clear hw3 hg
           go_roundw
           case rel=>exact ⟨n,r2,Ad2,cr - (11 + Len),sum + N,false,rfl,by simp,rfl,Lib.hid ⟨by have h1:=H.out.1; rw [HSt.out] at h1; simpa using h1,by have:=H.out.2.1; have:=HLt.out; omega,HDr2.out,HB3.out,by have:=HBd.out; omega,by have:=H.out.2.2.2.2.2; have:=HLt.out; omega⟩⟩
           case measure=>have:=HLt.out; simp [slN]; omega
      · have hk2 : (k != 0) = true:=by simpa using hk
        have HSt:=Lib.hid (b7T (n:=n) HScM.out (.inl hk))
        clear hB hk
        go_wp2_with fail
        refine HSc.out.mono ?_
        rintro e w2 ⟨rfl,hb2⟩
        have HB2:=Lib.hid (H.out.2.2.2.1.trans (hb2.mono H.out.2.2.2.1.size))
        clear hb2
        go_wp2_with fail
        go_ret
        have h1:=H.out.1
        rw [HSt.out] at h1
        rw [<- h1]
        exact ⟨rfl,HB2.out.alloc HB2.out.size _⟩
 · have hk2 : (headM f != 0) = true:=by simpa using hh
   have HS : Hid (sizeM f limit = 0):=Lib.hid (by unfold sizeM; rw [if_pos (.inl hh)])
   obtain ⟨k,hk⟩ : ∃ k,k = headM f:=⟨_,rfl⟩
   rw [<- hk] at HHd hk2
   obtain ⟨lg,hlg⟩ : ∃ k,k = a2f f:=⟨_,rfl⟩
   rw [<- hlg] at HHd
   clear hf hh hk hlg
   go_enter Tryz.func48,Tryz.ntmps48
   go_wp2_with fail
   refine HHd.out.mono ?_
   rintro e w1 ⟨rfl,hb1⟩
   have HB1:=Lib.hid hb1
   clear hb1
   go_wp2_with fail
   go_ret
   rw [HS.out]
   exact ⟨rfl,HB1.out⟩
end Go.Proofs.YtflfjpkmjnnodaaGreat
namespace Go.Proofs.YtflfjpkmjnnodaaGreat
open Go.RowKit Go.IntWalk Go.Proofs.YtflfjpkmjnnodaaGreatW.PrintWords
attribute [local go_sem] Oper.semAt_some
def a3R : Code := ((Code.region 3 #[{ dst := some 7, op := Op.assign (Operand.tmp 12), type := 22, pos := "frame.go:133", after := #[], guard := none }] false).seq (Code.region 4 #[{ dst := some 8, op := Op.assign (Operand.tmp 13), type := 27, pos := "frame.go:133", after := #[], guard := none }] false))
def a3S : Code := (Code.block 1 ((Code.region 5 #[{ dst := some 14, op := Op.move (Operand.tmp 8), type := 27, pos := "frame.go:134", after := #[], guard := none }] false).seq (Code.block 2 ((Code.region 7 #[{ dst := some 18, op := Op.binOp BinOp.eql 27 (Operand.tmp 14) (Operand.const (Value.int IntKind.i64 0)) 27, type := 4, pos := "frame.go:135", after := #[], guard := none }, { dst := some 17, op := Op.assign (Operand.tmp 18), type := 4, pos := "frame.go:135", after := #[{ on := 0, ground := Ground.data }], guard := none }] false).seq (Code.cond (Operand.tmp 17) (Code.region 8 #[{ dst := some 19, op := Op.load 22 (Operand.tmp 6), type := 22, pos := "frame.go:136", after := #[], guard := none }, { dst := some 20, op := Op.move (Operand.tmp 7), type := 22, pos := "frame.go:136", after := #[], guard := none }, { dst := some 21, op := Op.call { callee := Callee.builtin Builtin.append, args := #[Operand.tmp 19, Operand.tmp 20], argTypes := #[22, 22] }, type := 22, pos := "frame.go:136", after := #[{ on := 0, ground := Ground.data }, { on := 1, ground := Ground.data }], guard := none }, { dst := none, op := Op.store 22 (Operand.tmp 6) (Operand.tmp 21), type := 0, pos := "frame.go:136", after := #[{ on := 2, ground := Ground.data }, { on := 2, ground := Ground.chain }, { on := 0, ground := Ground.phase }, { on := 1, ground := Ground.phase }, { on := 2, ground := Ground.phase }], guard := none }] false) ((Code.region 9 #[{ dst := some 23, op := Op.binOp BinOp.eql 27 (Operand.tmp 14) (Operand.const (Value.int IntKind.i64 16)) 27, type := 4, pos := "frame.go:137", after := #[], guard := none }, { dst := some 22, op := Op.assign (Operand.tmp 23), type := 4, pos := "frame.go:137", after := #[{ on := 0, ground := Ground.data }], guard := none }] false).seq (Code.cond (Operand.tmp 22) ((Code.region 10 #[{ dst := some 24, op := Op.load 22 (Operand.tmp 6), type := 22, pos := "frame.go:138", after := #[], guard := none }, { dst := some 25, op := Op.move (Operand.tmp 7), type := 22, pos := "frame.go:138", after := #[], guard := none }, { dst := some 26, op := Op.load 22 (Operand.tmp 6), type := 22, pos := "frame.go:138", after := #[], guard := none }, { dst := some 27, op := Op.call { callee := Callee.value (Operand.func 96), args := #[Operand.tmp 25, Operand.tmp 26], argTypes := #[22, 22] }, type := 27, pos := "frame.go:138", after := #[{ on := 1, ground := Ground.data }, { on := 2, ground := Ground.data }], guard := none }, { dst := none, op := Op.store 22 (Operand.tmp 4) (Operand.tmp 24), type := 0, pos := "frame.go:138", after := #[{ on := 0, ground := Ground.data }, { on := 3, ground := Ground.chain }, { on := 0, ground := Ground.phase }, { on := 1, ground := Ground.textOnly Departure.lateStores }, { on := 2, ground := Ground.textOnly Departure.inlinedCapture }, { on := 3, ground := Ground.textOnly Departure.lateStoresUnsure }], guard := none }, { dst := none, op := Op.store 27 (Operand.tmp 5) (Operand.tmp 27), type := 0, pos := "frame.go:138", after := #[{ on := 3, ground := Ground.data }, { on := 4, ground := Ground.chain }, { on := 0, ground := Ground.phase }, { on := 1, ground := Ground.phase }, { on := 2, ground := Ground.phase }, { on := 3, ground := Ground.phase }, { on := 4, ground := Ground.phase }], guard := none }] true).seq Code.ret) ((Code.region 6 #[{ dst := some 15, op := Op.load 22 (Operand.tmp 6), type := 22, pos := "frame.go:140", after := #[], guard := none }, { dst := some 16, op := Op.move (Operand.tmp 8), type := 27, pos := "frame.go:140", after := #[{ on := 2, ground := Ground.gcOnly Departure.lateStores }], guard := none }, { dst := none, op := Op.store 22 (Operand.tmp 4) (Operand.tmp 15), type := 0, pos := "frame.go:140", after := #[{ on := 0, ground := Ground.data }, { on := 0, ground := Ground.phase }, { on := 1, ground := Ground.textOnly Departure.lateStores }], guard := none }, { dst := none, op := Op.store 27 (Operand.tmp 5) (Operand.tmp 16), type := 0, pos := "frame.go:140", after := #[{ on := 1, ground := Ground.data }, { on := 2, ground := Ground.chain }, { on := 0, ground := Ground.phase }, { on := 1, ground := Ground.phase }, { on := 2, ground := Ground.phase }], guard := none }] false).seq Code.ret))))))))
set_option maxRecDepth 100000 in
theorem c9H {w0 W : World} {v : Value} {xs ys : List Int} {B : Nat} {A : Option Addr} {n c : Nat} (ty : TypeId) (HO : (Kd.int .u8).R 5 W B (λ _=>True) v xs) (HC : (Kd.int .u8).C W A n ys) (HB : Below B w0 W) (hB : B <= W.heap.size) (hl : xs.length + n <= 140737488355328) :
    ∃ A1 c1 w1,(Builtin.append_ #[22,22] ty #[v,.slice A n c]).run Tryz.prog W = .ok (.slice A1 (xs.length + n) c1) w1 /\ (Kd.int .u8).R 5 w1 B (λ _=>True) (.slice A1 (xs.length + n) c1) (xs ++ ys) /\ Below B w0 w1 /\ W.grownBy w1 v.ownBlock:=by
 have h := app8 (ops := #[{ dst := some 2, op := .call { callee := .builtin .append, args := #[.tmp 0, .tmp 1], argTypes := #[22, 22] }, type := ty, pos := "", after := #[], guard := none }])
  (o := { dst := some 2, op := .call { callee := .builtin .append, args := #[.tmp 0, .tmp 1], argTypes := #[22, 22] }, type := ty, pos := "", after := #[], guard := none }) (rest := [])
  (a:={ tmps:=#[v,.slice A n c,undef],defers:=[] }) (Q:=λ e a w1=>e = .normal /\ ∃ A1 c1,a.tmps[2]? = some (.slice A1 (xs.length + n) c1) /\ (Kd.int .u8).R 5 w1 B (λ _=>True) (.slice A1 (xs.length + n) c1) (xs ++ ys) /\ Below B w0 w1 /\ W.grownBy w1 v.ownBlock)
  (w0:=w0) (W:=W) (s:=.tmp 0) (x:=.tmp 1) (v:=v) rfl rfl rfl rfl (Lib.hid HO) (Lib.hid HC) (Lib.hid HB) hB (Lib.hid hl) (λ A1 c1 w1 h1 h2 h3=>wpList_nil ⟨rfl,A1,c1,rfl,h1,h2,h3⟩)
 simp only [wpList,Region.wanted,if_true] at h
 unfold Oper.wp execOp at h
 simp only [resolve,invoke,builtin,Sem.run_bind,Sem.run_pure,Result.andThen_ok,List.map_toArray,List.map_cons,List.map_nil] at h
 rcases h with h | ⟨_,a',w',h',_⟩
 · rw [show (Act.eval { tmps:=#[v,.slice A n c,undef],defers:=[] } (Operand.tmp 0)) = v from rfl,show (Act.eval { tmps:=#[v,.slice A n c,undef],defers:=[] } (Operand.tmp 1)) = .slice A n c from rfl] at h
   cases hr : (Builtin.append_ #[22,22] ty #[v,.slice A n c]).run Tryz.prog W with
   | ok v' w'=>
    rw [hr] at h
    simp only [Result.andThen_ok,Oper.upon_value] at h
    obtain ⟨_,A1,c1,e,h1,h2,h3⟩:=h
    have : v' = .slice A1 (xs.length + n) c1:=by simpa [Act.put] using e
    subst this
    exact ⟨A1,c1,w',rfl,h1,h2,h3⟩
   | halt s w'=>
    rw [hr] at h
    simp only [Result.andThen] at h
    cases s <;> first | exact h.elim | exact absurd h.1 (by intro e; cases e)
 · cases h'
set_option maxRecDepth 100000 in
theorem c9I {F : Fence} {nF : Nat} {ops : Array Oper} {o : Oper} {rest : List Oper} {a : Act} {Q : Exit -> Act -> World -> Prop} {w0 W : World} {s x : Operand} {v : Value} {xs ys : List Int} {B : Nat} {A : Option Addr} {n c : Nat} (hgd : o.guard = none) (ho : o.op = .call { callee:=.builtin .append,args:=#[s,x],argTypes:=#[22,22] })
    (hs : a.eval s = v) (hx : a.eval x = .slice A n c) (HO : Hid ((Kd.int .u8).R 5 W B (λ _=>True) v xs)) (HC : Hid ((Kd.int .u8).C W A n ys)) (HB : Hid (Below B w0 W)) (hB : B <= W.heap.size) (hl : Hid (xs.length + n <= 140737488355328))
    (h : ∀ A1 c1 w1,(Kd.int .u8).R 5 w1 B (λ _=>True) (.slice A1 (xs.length + n) c1) (xs ++ ys) -> Below B w0 w1 -> W.grownBy w1 v.ownBlock -> wpListIn F nF Tryz.prog ops Q rest (a.put o.dst (.slice A1 (xs.length + n) c1)) w1) :
    wpListIn F nF Tryz.prog ops Q (o :: rest) a W:=by
 refine wpListIn_plain hgd λ K hK=>?_
 obtain ⟨A1,c1,w1,hr,h1,h2,h3⟩:=c9H o.type HO.out HC.out HB.out hB hl.out
 unfold Oper.wpIn
 refine ⟨by simp [Oper.about,ho,resolve,Target.leads,Sem.run_pure],?_⟩
 rw [Oper.semAt_plain F _ _ (by rw [ho]; intro c hc'; cases hc')]
 simp only [execOp,ho,resolve,invoke,builtin,Sem.run_bind,Sem.run_pure,Result.andThen_ok,List.map_toArray,List.map_cons,List.map_nil,hs,hx]
 rw [hr]
 exact hK _ _ (h A1 c1 w1 h1 h2 h3)
def pfRec (fn : FuncId) (tm : Array Value) (D : Nat) (st : LoopState) (pend : Option Code) : Loop:={ state:=st,pending:=pend,fn,tmps:=tm,params:=#[12,13],assign:=a3R,body:=a3S,defers:=D }
def pfTm (A : Option Addr) (n c : Nat) (lim : Int) (rb eb ob : Nat) (v9 v10 f y e : Value) : Array Value:=#[.slice A n c,.int .i64 lim,undef,undef,.pointer (some ⟨rb,0,none⟩),.pointer (some ⟨eb,0,none⟩),.pointer (some ⟨ob,0,none⟩),undef,undef,v9,v10,f,y,e,undef,undef,undef,undef,undef,undef,undef,undef,undef,undef,undef,undef,undef,undef,undef]
structure Lay (s rb eb ob fb lb D l B1 : Nat) : Prop where
 h0 : s <= rb
 h1 : rb < eb
 h2 : eb < ob
 h3 : ob < fb
 h4 : fb < lb
 h5 : lb < D
 h6 : D < l
 h7 : l < B1
structure Pf (fn : FuncId) (tm : Array Value) (s rb eb ob fb lb D l B1 : Nat) (w : World) (r : List Int) (lim : Int) (out : List Int) (W : World) : Prop where
 fc : ∃ Ar cr,W.heap[fb]? = some (.cells #[.slice Ar r.length cr] 22 (0,0)) /\ BSl w Ar cr r
 lc : W.heap[lb]? = some (.cells #[.int .i64 lim] 3 (0,0))
 v : ∃ A c,W.heap[ob]? = some (.cells #[.slice A out.length c] 22 (0,0)) /\ (Kd.int .u8).R 5 W B1 (λ _=>True) (.slice A out.length c) out
 rc : W.heap[rb]? = some (.cells #[.slice none 0 0] 22 (0,0))
 ec : W.heap[eb]? = some (.cells #[.int .i64 0] 27 (0,0))
 lp : W.heap[l]? = some (.loop (pfRec fn tm D .ready none))
 dc : W.heap[D]? = some (.deferred (some []))
 on : Below s w W
 sz : B1 <= W.heap.size
structure PfX (fn : FuncId) (tm : Array Value) (s rb eb D l B1 : Nat) (w : World) (k : Int) (out : List Int) (W : World) : Prop where
 rc : ∃ A c,W.heap[rb]? = some (.cells #[.slice A out.length c] 22 (0,0)) /\ (Kd.int .u8).R 5 W B1 (λ _=>True) (.slice A out.length c) out
 ec : W.heap[eb]? = some (.cells #[.int .i64 k] 27 (0,0))
 lp : W.heap[l]? = some (.loop (pfRec fn tm D .done (some .ret)))
 dc : W.heap[D]? = some (.deferred (some []))
 on : Below s w W
theorem _root_.Go.RowKit.Below.putObj {B : Nat} {a b : World} (h : Below B a b) {l : Nat} (hl : B <= l) (o : Obj) : Below B a (b.putObj l o):=
 ⟨h.os,h.tape,h.output,by simpa using h.size,λ k hk=>(World.putObj_heap_other (by omega)).trans (h.block k hk)⟩
theorem R_put {W : World} {B : Nat} {v : Value} {xs : List Int} (h : (Kd.int .u8).R 5 W B (λ _=>True) v xs) {l : Nat} (hl : l < B) (o : Obj) : (Kd.int .u8).R 5 (W.putObj l o) B (λ _=>True) v xs:=
 a4F (S:=λ k=>k = l) h ⟨rfl,rfl,rfl,by simp,λ k _ hk=>World.putObj_heap_other hk⟩ (λ k hk e=>by omega)
theorem a6i {W : World} {B : Nat} {v : Value} {xs : List Int} (h : (Kd.int .u8).R 5 W B (λ _=>True) v xs) {l : Nat} (hl : l < B) (u : Value) : (Kd.int .u8).R 5 (W.setCell ⟨l,0,none⟩ u) B (λ _=>True) v xs:=
 a4F (S:=λ k=>k = l) h (Only.setCell (S:=λ k=>k = l) (p:=⟨l,0,none⟩) (Only.refl _ W) rfl u) (λ k hk e=>by omega)
theorem a1r {W : World} {l k : Nat} {u : Value} {o : Obj} (h : W.heap[k]? = some o) (hk : k ≠ l) : (W.setCell ⟨l,0,none⟩ u).heap[k]? = some o:=(Below.heap_setCell _ ⟨l,0,none⟩ _ k hk).trans h
theorem b7W {W : World} {A : Option Addr} {n l : Nat} {xs : List Int} {lo : Loop} (h : (Kd.int .u8).C W A n xs) (hl : W.heap[l]? = some (.loop lo)) (hn : 0 < n) {ad : Addr} (ha : A = some ad) : ad.block ≠ l:=by
 intro e
 obtain ⟨ad',ha',hc⟩:=h.2.2 hn
 rw [ha] at ha'; injection ha' with e2; subst e2
 obtain ⟨c,h1,h2,h3⟩:=hc 0 _ (List.getElem?_eq_getElem (by have:=h.1; omega))
 have hc1 : c[0]? = some (c[0]'(by rw [h1]; decide)):=List.getElem?_eq_getElem _
 have h4:=h3 0 _ hc1
 unfold World.cell? at h4
 rw [a1V,e,hl] at h4
 cases h4
section
variable {fn : FuncId} {A : Option Addr} {n c : Nat} {lim0 : Int} {s rb eb ob fb lb D l B1 : Nat} {v9 v10 f : Value} {w : World} {r : List Int} {lim : Int} {out : List Int} {W : World}
set_option maxRecDepth 100000 in
set_option maxHeartbeats 2000000 in
theorem c9J (m : Nat) (L : Lay s rb eb ob fb lb D l B1) (h : Pf fn (pfTm A n c lim0 rb eb ob v9 v10 f undef undef) s rb eb ob fb lb D l B1 w r lim out W) {y : List Int} {Ay : Option Addr} {cy : Nat} (hy : (Kd.int .u8).C W Ay y.length y) (hl : out.length + y.length <= 140737488355328) :
    RoundIn Fence.wide m Tryz.prog l fn (pfTm A n c lim0 rb eb ob v9 v10 f (.slice Ay y.length cy) (.int .i64 0)) a3R a3S W
     λ e W'=>e = .returned (.bool true) /\ Pf fn (pfTm A n c lim0 rb eb ob v9 v10 f undef undef) s rb eb ob fb lb D l B1 w r lim (out ++ y) W':=by
 obtain ⟨tm,htm⟩ : ∃ tm,tm = pfTm A n c lim0 rb eb ob v9 v10 f undef undef:=⟨_,rfl⟩
 rw [<- htm] at h ⊢
 refine roundIn_of_wpIn trivial ?_
 have hll : l < W.heap.size:=a0f h.lp
 have hbr:=run_beginRound (P:=Tryz.prog) h.lp rfl
 obtain ⟨lo,hlo⟩ : ∃ lo,lo = { pfRec fn tm D .ready none with state:=.busy }:=⟨_,rfl⟩
 obtain ⟨W2,hW2⟩ : ∃ W2,W.putObj l (.loop { pfRec fn tm D .ready none with state:=.busy }) = W2:=⟨_,rfl⟩
 have hbr2 : (Instr.beginRound l).run Tryz.prog W = .ok () W2:=by rw [<- hW2]; exact hbr
 obtain ⟨Ao,co,hv,hR⟩:=h.v
 have L0:=L.h0; have L1:=L.h1; have L2:=L.h2; have L3:=L.h3; have L4:=L.h4; have L5:=L.h5; have L6:=L.h6; have L7:=L.h7
 have hv2 : W2.heap[ob]? = some (.cells #[.slice Ao out.length co] 22 (0,0)):=by rw [<- hW2]; exact (World.putObj_heap_other (by omega)).trans hv
 have hR2 : Hid ((Kd.int .u8).R 5 W2 B1 (λ _=>True) (.slice Ao out.length co) out):=Lib.hid (by rw [<- hW2]; exact R_put hR L7 _)
 have hlp2 : W2.heap[l]? = some (.loop { pfRec fn tm D .ready none with state:=.busy }):=by rw [<- hW2]; exact World.putObj_heap_same hll
 have hon2 : Below s w W2:=by rw [<- hW2]; exact h.on.putObj (by omega) _
 have hC2 : Hid ((Kd.int .u8).C W2 Ay y.length y):=Lib.hid (a6H hy (λ hn ad ha=>by
  rw [<- hW2]; exact World.putObj_heap_other (b7W hy h.lp hn ha)))
 have hB2 : Hid (Below B1 W2 W2):=Lib.hid (Below.refl _ _)
 have hl2 : Hid (out.length + y.length <= 140737488355328):=Lib.hid hl
 have hc2 : W2.cell? ⟨ob,0,none⟩ = some (.slice Ao out.length co):=(a0a hv2 0).trans rfl
 have hf2 : W2.frozen? ⟨ob,0,none⟩ = false:=a0e hv2 0
 have hs2 : B1 <= W2.heap.size:=by rw [<- hW2]; simpa using h.sz
 have HF:=Lib.hid (And.intro hv2 (And.intro hlp2 hon2))
 have HP:=Lib.hid h
 have HL:=Lib.hid L
 clear hv2 hlp2 hon2 hR hv h L hy hl hbr hlo htm
 unfold a3R pfTm
 gi_wp2
 clear hbr2
 unfold a3S
 gi_wp2_with (gi_at_builtin; (refine c9I rfl rfl rfl rfl hR2 hC2 hB2 hs2 hl2 ?_; intro A4 c4 w4 hr4 hb4 hg4; have HR4:=Lib.hid (And.intro hr4 (And.intro hb4 hg4)); have hv4:=(hb4.block ob (by have:=HL.out.h7; have:=HL.out.h6; have:=HL.out.h5; have:=HL.out.h4; have:=HL.out.h3; omega)).trans HF.out.1; have hc4:=(a0a hv4 0).trans rfl; have hf4:=a0e hv4 0; clear hr4 hb4 hg4 hv4))
 have L:=HL.out
 have L0:=L.h0; have L1:=L.h1; have L2:=L.h2; have L3:=L.h3; have L4:=L.h4; have L5:=L.h5; have L6:=L.h6; have L7:=L.h7
 have hb4:=HR4.out.2.1
 have hl4 : w4.heap[l]? = some (.loop { pfRec fn tm D .ready none with state:=.busy }):=(hb4.block l L7).trans HF.out.2.1
 have hl5 : (w4.setCell ⟨ob,0,none⟩ (.slice A4 (out.length + y.length) c4)).heap[l]? = some (.loop { pfRec fn tm D .ready none with state:=.busy }):=a1r hl4 (by omega)
 have hW2k : ∀ k,k ≠ l -> W2.heap[k]? = W.heap[k]?:=λ k hk=>by rw [<- hW2]; exact World.putObj_heap_other hk
 have hB5 : Below s w (w4.setCell ⟨ob,0,none⟩ (.slice A4 (out.length + y.length) c4)):=(HF.out.2.2.trans (hb4.mono (Nat.le_trans (Nat.le_trans L0 (by omega)) (Nat.le_of_lt L7)))).setCell (p:=⟨ob,0,none⟩) (by show s <= ob; omega) _
 obtain ⟨W5,hW5⟩ : ∃ W5,W5 = w4.setCell ⟨ob,0,none⟩ (.slice A4 (out.length + y.length) c4):=⟨_,rfl⟩
 have h5k : ∀ k,k < B1 -> k ≠ l -> k ≠ ob -> W5.heap[k]? = W.heap[k]?:=λ k h1 h2 h3=>by
  rw [hW5]; exact (Below.heap_setCell _ ⟨ob,0,none⟩ _ k h3).trans ((hb4.block k h1).trans (hW2k k h2))
 have hv5 : W5.heap[ob]? = some (.cells #[.slice A4 (out.length + y.length) c4] 22 (0,0)):=by
  rw [hW5]; exact (a0n ((hb4.block ob (by omega)).trans HF.out.1) 0 _).trans rfl
 have hR5 : (Kd.int .u8).R 5 W5 B1 (λ _=>True) (.slice A4 (out.length + y.length) c4) (out ++ y):=by rw [hW5]; exact a6i HR4.out.1 (by omega) _
 have hs5 : B1 <= W5.heap.size:=by rw [hW5]; simpa [World.setCell] using Nat.le_trans hs2 hb4.size
 rw [<- hW5] at hl5 hB5 ⊢
 obtain ⟨⟨Ar,cr,hfc,hbs⟩,hlc,-,hrc,hec,-,hdc,-,-⟩:=HP.out
 clear hW5
 refine ⟨_,_,run_endRound none hl5,rfl,⟨⟨Ar,cr,(World.putObj_heap_other (by omega)).trans ((h5k fb (by omega) (by omega) (by omega)).trans hfc),hbs⟩,(World.putObj_heap_other (by omega)).trans ((h5k lb (by omega) (by omega) (by omega)).trans hlc),
  ⟨A4,c4,by rw [List.length_append]; exact (World.putObj_heap_other (by omega)).trans hv5,by rw [List.length_append]; exact R_put hR5 L7 _⟩,(World.putObj_heap_other (by omega)).trans ((h5k rb (by omega) (by omega) (by omega)).trans hrc),
  (World.putObj_heap_other (by omega)).trans ((h5k eb (by omega) (by omega) (by omega)).trans hec),World.putObj_heap_same (a0f hl5),(World.putObj_heap_other (by omega)).trans ((h5k D (by omega) (by omega) (by omega)).trans hdc),hB5.putObj (by omega) _,by simpa using hs5⟩⟩
theorem b7X {tm : Array Value} (L : Lay s rb eb ob fb lb D l B1) (h : Pf fn tm s rb eb ob fb lb D l B1 w r lim out W) {W2 W' : World} {Ao : Option Addr} {co : Nat} (hW2 : W.putObj l (.loop { pfRec fn tm D .ready none with state:=.busy }) = W2) (hR : (Kd.int .u8).R 5 W2 B1 (λ _=>True) (.slice Ao out.length co) out) (hW : SLater W2 W') (k : Int) :
    ∃ v w',(Instr.endRound l (some .ret)).run Tryz.prog ((W'.setCell ⟨rb,0,none⟩ (.slice Ao out.length co)).setCell ⟨eb,0,none⟩ (.int .i64 k)) = .ok v w' /\ (Ending.returned v = .returned (.bool false) /\ PfX fn tm s rb eb D l B1 w k out w'):=by
 have L0:=L.h0; have L1:=L.h1; have L2:=L.h2; have L3:=L.h3; have L4:=L.h4; have L5:=L.h5; have L6:=L.h6; have L7:=L.h7
 have hll : l < W.heap.size:=a0f h.lp
 have hs2 : B1 <= W2.heap.size:=by rw [<- hW2]; simpa using h.sz
 have hlp2 : W2.heap[l]? = some (.loop { pfRec fn tm D .ready none with state:=.busy }):=by rw [<- hW2]; exact World.putObj_heap_same hll
 have hW2k : ∀ k,k ≠ l -> W2.heap[k]? = W.heap[k]?:=λ k hk=>by rw [<- hW2]; exact World.putObj_heap_other hk
 have hon2 : Below s w W2:=by rw [<- hW2]; exact h.on.putObj (by omega) _
 have hk' : ∀ k,k < B1 -> W'.heap[k]? = W2.heap[k]?:=λ k hk=>hW.block k (by omega)
 have hR':=a6i (a6i (Kd.R_below hR hW) (show rb < B1 by omega) (.slice Ao out.length co)) (show eb < B1 by omega) (.int .i64 k)
 have hB5 : Below s w ((W'.setCell ⟨rb,0,none⟩ (.slice Ao out.length co)).setCell ⟨eb,0,none⟩ (.int .i64 k)):=
  ((hon2.trans (hW.mono (by omega))).setCell (p:=⟨rb,0,none⟩) (by show s <= rb; omega) _).setCell (p:=⟨eb,0,none⟩) (by show s <= eb; omega) _
 have hl5 : ((W'.setCell ⟨rb,0,none⟩ (.slice Ao out.length co)).setCell ⟨eb,0,none⟩ (.int .i64 k)).heap[l]? = some (.loop { pfRec fn tm D .ready none with state:=.busy }):=a1r (a1r ((hk' l L7).trans hlp2) (by omega)) (by omega)
 have hd5 : ((W'.setCell ⟨rb,0,none⟩ (.slice Ao out.length co)).setCell ⟨eb,0,none⟩ (.int .i64 k)).heap[D]? = some (.deferred (some [])):=a1r (a1r ((hk' D (by omega)).trans ((hW2k D (by omega)).trans h.dc)) (by omega)) (by omega)
 have hr5 : ((W'.setCell ⟨rb,0,none⟩ (.slice Ao out.length co)).setCell ⟨eb,0,none⟩ (.int .i64 k)).heap[rb]? = some (.cells #[.slice Ao out.length co] 22 (0,0)):=a1r ((a0n ((hk' rb (by omega)).trans ((hW2k rb (by omega)).trans h.rc)) 0 _).trans rfl) (by omega)
 have he5 : ((W'.setCell ⟨rb,0,none⟩ (.slice Ao out.length co)).setCell ⟨eb,0,none⟩ (.int .i64 k)).heap[eb]? = some (.cells #[.int .i64 k] 27 (0,0)):=(a0n (a1r ((hk' eb (by omega)).trans ((hW2k eb (by omega)).trans h.ec)) (by omega)) 0 _).trans rfl
 exact ⟨_,_,run_endRound (some .ret) hl5,rfl,⟨Ao,co,(World.putObj_heap_other (by omega)).trans hr5,R_put hR' L7 _⟩,(World.putObj_heap_other (by omega)).trans he5,World.putObj_heap_same (a0f hl5),(World.putObj_heap_other (by omega)).trans hd5,hB5.putObj (by omega) _⟩
set_option maxRecDepth 100000 in
set_option maxHeartbeats 2000000 in
theorem b1g (m : Nat) (L : Lay s rb eb ob fb lb D l B1) (h : Pf fn (pfTm A n c lim0 rb eb ob v9 v10 f undef undef) s rb eb ob fb lb D l B1 w r lim out W) (y : Value) (k : Int) (hk0 : k ≠ 0) (hk16 : k ≠ 16) :
    RoundIn Fence.wide m Tryz.prog l fn (pfTm A n c lim0 rb eb ob v9 v10 f y (.int .i64 k)) a3R a3S W
     λ e W'=>e = .returned (.bool false) /\ PfX fn (pfTm A n c lim0 rb eb ob v9 v10 f undef undef) s rb eb D l B1 w k out W':=by
 obtain ⟨tm,htm⟩ : ∃ tm,tm = pfTm A n c lim0 rb eb ob v9 v10 f undef undef:=⟨_,rfl⟩
 rw [<- htm] at h ⊢
 refine roundIn_of_wpIn trivial ?_
 have hbr:=run_beginRound (P:=Tryz.prog) h.lp rfl
 obtain ⟨W2,hW2⟩ : ∃ W2,W.putObj l (.loop { pfRec fn tm D .ready none with state:=.busy }) = W2:=⟨_,rfl⟩
 have hbr2 : (Instr.beginRound l).run Tryz.prog W = .ok () W2:=by rw [<- hW2]; exact hbr
 obtain ⟨Ao,co,hv,hR⟩:=h.v
 have hc2 : W2.cell? ⟨ob,0,none⟩ = some (.slice Ao out.length co):=by rw [<- hW2]; exact (a0a ((World.putObj_heap_other (by have:=L.h7; have:=L.h6; have:=L.h5; have:=L.h4; have:=L.h3; omega)).trans hv) 0).trans rfl
 have hR2 : Hid ((Kd.int .u8).R 5 W2 B1 (λ _=>True) (.slice Ao out.length co) out):=Lib.hid (by rw [<- hW2]; exact R_put hR L.h7 _)
 have hcr : W2.cell? ⟨rb,0,none⟩ = some (.slice none 0 0):=by rw [<- hW2]; exact (a0a ((World.putObj_heap_other (by have:=L.h7; have:=L.h6; have:=L.h5; have:=L.h4; have:=L.h3; have:=L.h2; have:=L.h1; omega)).trans h.rc) 0).trans rfl
 have hce : W2.cell? ⟨eb,0,none⟩ = some (.int .i64 0):=by rw [<- hW2]; exact (a0a ((World.putObj_heap_other (by have:=L.h7; have:=L.h6; have:=L.h5; have:=L.h4; have:=L.h3; have:=L.h2; have:=L.h1; omega)).trans h.ec) 0).trans rfl
 have hfr : W2.frozen? ⟨rb,0,none⟩ = false:=by rw [<- hW2]; exact a0e ((World.putObj_heap_other (by have:=L.h7; have:=L.h6; have:=L.h5; have:=L.h4; have:=L.h3; have:=L.h2; have:=L.h1; omega)).trans h.rc) 0
 have hfe : W2.frozen? ⟨eb,0,none⟩ = false:=by rw [<- hW2]; exact a0e ((World.putObj_heap_other (by have:=L.h7; have:=L.h6; have:=L.h5; have:=L.h4; have:=L.h3; have:=L.h2; have:=L.h1; omega)).trans h.ec) 0
 have hre : rb ≠ eb:=by have:=L.h1; omega
 have hk0' : (k == 0) = false:=by simpa using hk0
 have hk16' : (k == 16) = false:=by simpa using hk16
 have HE:=Lib.hid (b7X L h hW2 hR2.out (Below.refl _ _ : SLater W2 W2) k)
 clear hbr hv hR h hW2 htm hR2 hk0 hk16
 unfold a3R pfTm
 gi_wp2
 refine ⟨W2,hbr2,?_⟩
 clear hbr2
 unfold a3S
 gi_wp2
 exact HE.out
set_option maxRecDepth 100000 in
set_option maxHeartbeats 2000000 in
theorem c9K (m : Nat) (L : Lay s rb eb ob fb lb D l B1) (h : Pf fn (pfTm A n c lim0 rb eb ob v9 v10 f undef undef) s rb eb ob fb lb D l B1 w r lim out W) {q : List Int} {Ay : Option Addr} {cy : Nat} (hy : BSl W Ay cy q) (hob : Bytes out) (hl : out.length <= 1000000000000) (hql : q.length <= 1000000) :
    RoundIn Fence.wide m Tryz.prog l fn (pfTm A n c lim0 rb eb ob v9 v10 f (.slice Ay q.length cy) (.int .i64 16)) a3R a3S W
     λ e W'=>e = .returned (.bool false) /\ PfX fn (pfTm A n c lim0 rb eb ob v9 v10 f undef undef) s rb eb D l B1 w (a1j q out) out W':=by
 obtain ⟨tm,htm⟩ : ∃ tm,tm = pfTm A n c lim0 rb eb ob v9 v10 f undef undef:=⟨_,rfl⟩
 rw [<- htm] at h ⊢
 refine roundIn_of_wpIn trivial ?_
 have hbr:=run_beginRound (P:=Tryz.prog) h.lp rfl
 obtain ⟨W2,hW2⟩ : ∃ W2,W.putObj l (.loop { pfRec fn tm D .ready none with state:=.busy }) = W2:=⟨_,rfl⟩
 have hbr2 : (Instr.beginRound l).run Tryz.prog W = .ok () W2:=by rw [<- hW2]; exact hbr
 obtain ⟨Ao,co,hv,hR⟩:=h.v
 have hv2 : W2.heap[ob]? = some (.cells #[.slice Ao out.length co] 22 (0,0)):=by rw [<- hW2]; exact (World.putObj_heap_other (by have:=L.h7; have:=L.h6; have:=L.h5; have:=L.h4; have:=L.h3; omega)).trans hv
 have hR2 : Hid ((Kd.int .u8).R 5 W2 B1 (λ _=>True) (.slice Ao out.length co) out):=Lib.hid (by rw [<- hW2]; exact R_put hR L.h7 _)
 have hr2 : W2.heap[rb]? = some (.cells #[.slice none 0 0] 22 (0,0)):=by rw [<- hW2]; exact (World.putObj_heap_other (by have:=L.h7; have:=L.h6; have:=L.h5; have:=L.h4; have:=L.h3; have:=L.h2; have:=L.h1; omega)).trans h.rc
 have he2 : W2.heap[eb]? = some (.cells #[.int .i64 0] 27 (0,0)):=by rw [<- hW2]; exact (World.putObj_heap_other (by have:=L.h7; have:=L.h6; have:=L.h5; have:=L.h4; have:=L.h3; have:=L.h2; have:=L.h1; omega)).trans h.ec
 have hy2 : BSl W2 Ay cy q:=⟨a6H hy.row (λ hn ad ha=>by rw [<- hW2]; exact World.putObj_heap_other (b7W hy.row h.lp hn ha)),hy.cap,hy.nil,hy.by'⟩
 have HBe : Hid (∀ W',SLater W2 W' -> Calls Tryz.prog 96 #[.slice Ay q.length cy,.slice Ao out.length co] W' (λ e w'=>e = .returned (.int .i64 (a1j q out)) /\ Below W'.heap.size W' w')):=Lib.hid (λ W' hW'=>
  c9F Ay Ao cy co q out W' (hy2.below hW') ((BSl.of hR2.out hob).below hW') hl hql)
 obtain ⟨k,hk⟩ : ∃ k,k = a1j q out:=⟨_,rfl⟩
 rw [<- hk] at HBe
 have HC : Hid (∀ W',SLater W2 W' -> (W'.cell? ⟨ob,0,none⟩ = some (.slice Ao out.length co) /\ W'.cell? ⟨rb,0,none⟩ = some (.slice none 0 0) /\ W'.cell? ⟨eb,0,none⟩ = some (.int .i64 0)) /\ (W'.frozen? ⟨rb,0,none⟩ = false /\ W'.frozen? ⟨eb,0,none⟩ = false)):=Lib.hid (λ W' hW'=>
  ⟨⟨(a0a (a0g hv2 hW') 0).trans rfl,(a0a (a0g hr2 hW') 0).trans rfl,(a0a (a0g he2 hW') 0).trans rfl⟩,a0e (a0g hr2 hW') 0,a0e (a0g he2 hW') 0⟩)
 have hre : rb ≠ eb:=by have:=L.h1; omega
 have HE : Hid (∀ W',SLater W2 W' -> _):=Lib.hid (λ W' (hW' : SLater W2 W')=>b7X L h hW2 hR2.out hW' k)
 have s0 : SLater W2 W2:=Below.refl _ _
 obtain ⟨⟨g1,g2,g3⟩,g4,g5⟩:=HC.out W2 s0
 rw [<- hk]
 clear hbr hv hR h hW2 htm hR2 hv2 hr2 he2 hy2 hy hob hk
 unfold a3R pfTm
 gi_wp2
 refine ⟨W2,hbr2,?_⟩
 clear hbr2
 unfold a3S
 gi_wp2
 gi_region_with (refine ⟨trivial,λ h=>(by cases h),(CallsIn.inRound l (callsIn_wide.2 (HBe.out _ (by first | assumption | exact SLater.drew ‹_›)))).mono ?_⟩; rintro e w' ⟨rfl,hb⟩; have sx:=(by first | exact SLater.keep ‹_› hb | exact SLater.keep (SLater.drew ‹_›) hb : SLater W2 w'); obtain ⟨⟨x1,x2,x3⟩,x4,x5⟩:=HC.out w' sx; clear hb)
 all_goals
  gi_wp2
  exact HE.out _ (by first | assumption | exact SLater.drew ‹_›)
end
end Go.Proofs.YtflfjpkmjnnodaaGreat
namespace Go.Proofs.YtflfjpkmjnnodaaGreat
open Go.RowKit Go.IntWalk Go.Proofs.YtflfjpkmjnnodaaGreatW.PrintWords
attribute [local go_sem] Oper.semAt_some
theorem b7Y {one : Bool} {qs : List (List Int)} {ps : List Int} : ∀ (n i : Nat) (la x0 x1 : Int) (left : Nat) (out : List Int),(decGo one qs ps n i la x0 x1 left out).1 = 0 -> (decGo one qs ps n i la x0 x1 left out).2.length = out.length + n
 | 0,i,la,x0,x1,left,out=>by
  unfold decGo
  split
  · intro _; rfl
  · intro h; cases h
 | n + 1,i,la,x0,x1,left,out=>by
  unfold decGo
  dsimp only
  split
  · intro h; cases h
  · split
    · intro h; cases h
    · intro h
      rw [b7Y n _ _ _ _ _ _ h,List.length_append]
      simp; omega
theorem b7Z {lg : Int} {one : Bool} {qs : List (List Int)} {ps : List Int} {n : Int} (h : (decM lg one qs ps n).1 = 0) : (decM lg one qs ps n).2.length = n.toNat:=by
 unfold decM at h ⊢
 split at h
 · cases h
 · rename_i a1
   rw [if_neg a1]
   split at h
   · cases h
   · rename_i a2
     rw [if_neg a2]
     split at h
     · cases h
     · rename_i a3
       rw [if_neg a3,b7Y _ _ _ _ _ _ _ h]
       simp
theorem c9L {k n : Int} {b : List Int} (h : (pickD k b n).1 = 0) : (pickD k b n).2.length = n.toNat:=by
 unfold pickD at h ⊢
 split at h
 · rename_i a1; exact absurd h a1
 · rename_i a1
   rw [if_neg a1]
   split at h
   · rename_i a2
     rw [if_pos a2]
     unfold a2Y at h ⊢
     split at h
     · cases h
     · rename_i b1
       rw [if_neg b1]
       split at h
       · cases h
       · rename_i b2
         rw [if_neg b2]
         dsimp only
         split
         · omega
         · rw [List.length_replicate]
   · rename_i a2
     rw [if_neg a2]
     split at h
     · rename_i a3
       rw [if_pos a3]
       unfold dec0M at h ⊢
       split at h
       · rename_i c1; exact absurd h c1
       · rename_i c1; rw [if_neg c1]; exact b7Z h
     · rename_i a3
       rw [if_neg a3]
       unfold dec1M at h ⊢
       split at h
       · rename_i c1; exact absurd h c1
       · rename_i c1; rw [if_neg c1]; exact b7Z h
theorem c9M {f : List Int} (hf : Bytes f) {log room : Int} {first : Bool} (h : (openM f log first room).1 = 0) : (openM f log first room).2.1.length <= 131072 /\ ((openM f log first room).2.1.length : Int) <= room /\ Bytes (openM f log first room).2.1:=by
 unfold openM at h ⊢
 split at h
 · rename_i a1; exact absurd h a1
 · rename_i a1
   rw [if_neg a1]
   split at h
   · cases h
   · rename_i a2
     rw [if_neg a2]
     split at h
     · cases h
     · rename_i a3
       rw [if_neg a3]
       split at h
       · rename_i a4; exact absurd h a4
       · rename_i a4
         rw [if_neg a4]
         have hb:=b1e hf (Classical.not_not.1 a1)
         have hp:=c9L (Classical.not_not.1 a4)
         dsimp only
         exact ⟨by omega,by omega,b7R (λ x hx=>hf x (List.mem_of_mem_drop (List.mem_of_mem_take hx)))⟩
theorem c9N {n : Nat} {f : List Int} {log : Int} {first : Bool} {limit : Int} {out : List Int} {k : Int} {y : List Int} {u : Nat} {lt : Bool} (h : openM f log first limit = (k,y,u,lt)) (hk : k ≠ 0) : preG (n + 1) f log first limit out = (k,out):=by
 unfold preG; rw [h]; exact if_pos hk
theorem c9O {n : Nat} {f : List Int} {log : Int} {first : Bool} {limit : Int} {out y : List Int} {u : Nat} (h : openM f log first limit = (0,y,u,true)) : preG (n + 1) f log first limit out = (a1j (f.drop u) (out ++ y),out ++ y):=by
 unfold preG; rw [h]; dsimp only; rw [if_neg (λ h=>h rfl),if_pos rfl]
theorem c9P {n : Nat} {f : List Int} {log : Int} {first : Bool} {limit : Int} {out y : List Int} {u : Nat} (h : openM f log first limit = (0,y,u,false)) : preG (n + 1) f log first limit out = preG n (f.drop u) log false (limit - y.length) (out ++ y):=by
 conv=>lhs; unfold preG
 rw [h]; dsimp only; rw [if_neg (λ h=>h rfl),if_neg (by simp)]
section
variable {fn : FuncId} {A : Option Addr} {n c : Nat} {lim0 : Int} {s rb eb ob fb lb D l B1 : Nat} {v9 v10 fv : Value} {w : World} {r : List Int} {lim : Int} {out : List Int} {W W' : World} {tm : Array Value}
theorem Pf.later (L : Lay s rb eb ob fb lb D l B1) (h : Pf fn tm s rb eb ob fb lb D l B1 w r lim out W) (hb : Below W.heap.size W W') : Pf fn tm s rb eb ob fb lb D l B1 w r lim out W':=by
 obtain ⟨⟨Ar,cr,h1,h2⟩,h3,⟨Ao,co,h4,h5⟩,h6,h7,h8,h9,h10,h11⟩:=h
 have hs : s <= W.heap.size:=by have:=L.h0; have:=L.h1; have:=L.h2; have:=L.h3; have:=L.h4; have:=L.h5; have:=L.h6; have:=L.h7; omega
 exact ⟨⟨Ar,cr,a0g h1 hb,h2⟩,a0g h3 hb,⟨Ao,co,a0g h4 hb,Kd.R_below h5 hb⟩,a0g h6 hb,a0g h7 hb,a0g h8 hb,a0g h9 hb,h10.trans (hb.mono hs),Nat.le_trans h11 hb.size⟩
theorem Pf.setF (L : Lay s rb eb ob fb lb D l B1) (h : Pf fn tm s rb eb ob fb lb D l B1 w r lim out W) {r' : List Int} {Ad : Option Addr} {cd : Nat} (hb : BSl w Ad cd r') : Pf fn tm s rb eb ob fb lb D l B1 w r' lim out (W.setCell ⟨fb,0,none⟩ (.slice Ad r'.length cd)):=by
 obtain ⟨⟨Ar,cr,h1,h2⟩,h3,⟨Ao,co,h4,h5⟩,h6,h7,h8,h9,h10,h11⟩:=h
 have L0:=L.h0; have L1:=L.h1; have L2:=L.h2; have L3:=L.h3; have L4:=L.h4; have L5:=L.h5; have L6:=L.h6; have L7:=L.h7
 exact ⟨⟨Ad,cd,(a0n h1 0 _).trans rfl,hb⟩,a1r h3 (by omega),⟨Ao,co,a1r h4 (by omega),a6i h5 (by omega) _⟩,a1r h6 (by omega),a1r h7 (by omega),a1r h8 (by omega),a1r h9 (by omega),h10.setCell (p:=⟨fb,0,none⟩) (by show s <= fb; omega) _,by simpa [World.setCell] using h11⟩
theorem Pf.setL (L : Lay s rb eb ob fb lb D l B1) (h : Pf fn tm s rb eb ob fb lb D l B1 w r lim out W) (lim' : Int) : Pf fn tm s rb eb ob fb lb D l B1 w r lim' out (W.setCell ⟨lb,0,none⟩ (.int .i64 lim')):=by
 obtain ⟨⟨Ar,cr,h1,h2⟩,h3,⟨Ao,co,h4,h5⟩,h6,h7,h8,h9,h10,h11⟩:=h
 have L0:=L.h0; have L1:=L.h1; have L2:=L.h2; have L3:=L.h3; have L4:=L.h4; have L5:=L.h5; have L6:=L.h6; have L7:=L.h7
 exact ⟨⟨Ar,cr,a1r h1 (by omega),h2⟩,(a0n h3 0 _).trans rfl,⟨Ao,co,a1r h4 (by omega),a6i h5 (by omega) _⟩,a1r h6 (by omega),a1r h7 (by omega),a1r h8 (by omega),a1r h9 (by omega),h10.setCell (p:=⟨lb,0,none⟩) (by show s <= lb; omega) _,by simpa [World.setCell] using h11⟩
def c9Q (fn : FuncId) (tm : Array Value) (s rb eb D l B1 : Nat) (w : World) (R : Int × List Int) (e : Ending) (W' : World) : Prop:=(∃ v,e = .returned v) /\ PfX fn tm s rb eb D l B1 w R.1 R.2 W'
set_option maxRecDepth 100000 in
theorem a6j (W : World) (y e : Value) (h : W.heap[l]? = some (.loop (pfRec fn (pfTm A n c lim0 rb eb ob v9 v10 fv undef undef) D .ready none))) :
    (Instr.yield l #[y,e]).run Tryz.prog W = .ok (.round l fn (pfTm A n c lim0 rb eb ob v9 v10 fv y e) a3R a3S) W:=by
 simpa [pfRec,pfTm] using run_yield (P:=Tryz.prog) (args:=#[y,e]) h rfl
set_option maxRecDepth 100000 in
set_option maxHeartbeats 4000000 in
theorem c9R (m : Nat) (L : Lay s rb eb ob fb lb D l B1) (hs : s = w.heap.size) {f : List Int} {limit : Int} (h : Pf fn (pfTm A n c lim0 rb eb ob v9 v10 fv undef undef) s rb eb ob fb lb D l B1 w f limit [] W) (hl : f.length <= 1000000) (hL : limit < 4611686018427387904) :
    CallsIn Fence.wide m Tryz.prog 139 #[.func (.yield l) #[] #[],.pointer (some ⟨fb,0,none⟩),.pointer (some ⟨lb,0,none⟩)] W (c9Q fn (pfTm A n c lim0 rb eb ob v9 v10 fv undef undef) s rb eb D l B1 w (a0C f limit)):=by
 obtain ⟨Af,cf,hfc,hbs⟩:=h.fc
 have hbsW:=hbs.below (by rw [<- hs]; exact h.on)
 have HHd:=Lib.hid (b7N Af cf f W hbsW hl)
 have hcf : W.cell? ⟨fb,0,none⟩ = some (.slice Af f.length cf):=(a0a hfc 0).trans rfl
 have HP:=Lib.hid h
 have HL:=Lib.hid L
 obtain ⟨tm,htm⟩ : ∃ tm,tm = pfTm A n c lim0 rb eb ob v9 v10 fv undef undef:=⟨_,rfl⟩
 have hbf:=hbs.by'
 by_cases hn : limit < 0
 · have HR : Hid (a0C f limit = (1,[])):=Lib.hid (by unfold a0C; rw [if_pos hn])
   obtain ⟨lg,hlg⟩ : ∃ k,k = a2f f:=⟨_,rfl⟩
   obtain ⟨hm,hhm⟩ : ∃ k,k = headM f:=⟨_,rfl⟩
   rw [<- hlg,<- hhm] at HHd
   clear h L hfc hbs hbsW htm hlg hhm
   refine callsIn_of_wp Tryz.func139 rfl trivial ?_ rfl
   simp only [Tryz.ntmps139,List.size_toArray,List.length_cons,List.length_nil,Nat.reduceAdd,Nat.reduceSub,Array.replicate_succ,Array.replicate_zero,List.push_toArray,List.append_toArray,List.nil_append,List.cons_append]
   gi_wp2
   refine ⟨trivial,λ h=>(by cases h),(callsIn_wide.2 HHd.out).mono ?_⟩
   rintro e w1 ⟨rfl,hb1⟩
   have HP1:=Lib.hid (HP.out.later HL.out hb1)
   have hcl : w1.cell? ⟨lb,0,none⟩ = some (.int .i64 limit):=(a0a HP1.out.lc 0).trans rfl
   have hy:=a6j w1 (.slice none 0 0) (.int .i64 1) HP1.out.lp
   clear hb1
   gi_wp2
   refine ⟨λ h=>(by cases h),(b1g (m - 1) HL.out HP1.out (.slice none 0 0) 1 (by decide) (by decide)).mono ?_⟩
   rintro e w2 ⟨rfl,hX⟩
   have HX:=Lib.hid hX
   clear hX hy
   gi_wp2
   go_end0
   rw [HR.out]
   exact ⟨⟨_,rfl⟩,HX.out⟩
 · by_cases hh : headM f = 0
   · have h8:=b7V hh
     obtain ⟨hlg,-,-⟩:=b7U hh hbf
     obtain ⟨lg,hlg0⟩ : ∃ l,l = a2f f:=⟨_,rfl⟩
     have HR : Hid (a0C f limit = preG (f.length + 1) (f.drop 8) lg true limit []):=Lib.hid (by
      unfold a0C
      rw [if_neg hn,if_neg (λ h=>h hh),hlg0,hlg])
     rw [hh,<- hlg0] at HHd
     have hnI : ¬ limit < 0:=hn
     have hsf:=a3a Af f.length cf 8 h8
     have HDr:=Lib.hid (hbs.from_ (k:=8) h8)
     obtain ⟨Ad,hAd⟩ : ∃ Ad,Ad = (if cf = 8 then Af else Af.map (·.add (8 * 1))):=⟨_,rfl⟩
     rw [<- hAd] at HDr hsf
     obtain ⟨r0,hr0⟩ : ∃ r,r = f.drop 8:=⟨_,rfl⟩
     have hr0l : f.length - 8 = r0.length:=by rw [hr0,List.length_drop]
     rw [<- hr0] at HDr HR
     rw [hr0l] at hsf
     have hsf : ∀ W : World,(Instr.slice 22 (.slice Af f.length cf) (some (.int .i64 8)) none none).run Tryz.prog W = .ok (.slice Ad r0.length (cf - 8)) W:=hsf
     have hc8 : (8 : Int) <= (cf : Int):=by have:=hbs.cap; omega
     have h8I : (8 : Int) <= (f.length : Int):=by omega
     obtain ⟨PR,hPR⟩ : ∃ S,S = a0C f limit:=⟨_,rfl⟩
     rw [<- hPR] at HR ⊢
     have HN:=Lib.hid (show r0.length < f.length + 1 /\ r0.length <= 1000000 by omega)
     have hne1 : fb ≠ lb:=by have:=L.h4; omega
     have hne2 : lb ≠ fb:=by have:=L.h4; omega
     clear h L hfc hbs hbsW htm hh hlg hlg0 hAd hr0 hPR hr0l hn h8 hbf
     refine callsIn_of_wp Tryz.func139 rfl trivial ?_ rfl
     simp only [Tryz.ntmps139,List.size_toArray,List.length_cons,List.length_nil,Nat.reduceAdd,Nat.reduceSub,Array.replicate_succ,Array.replicate_zero,List.push_toArray,List.append_toArray,List.nil_append,List.cons_append]
     gi_wp2
     refine ⟨trivial,λ h=>(by cases h),(callsIn_wide.2 HHd.out).mono ?_⟩
     rintro e w1 ⟨rfl,hb1⟩
     have HP1:=Lib.hid (HP.out.later HL.out hb1)
     have hcl : w1.cell? ⟨lb,0,none⟩ = some (.int .i64 limit):=(a0a HP1.out.lc 0).trans rfl
     have hcf1 : w1.cell? ⟨fb,0,none⟩ = some (.slice Af f.length cf):=a0s hb1 hcf
     have hff1 : w1.frozen? ⟨fb,0,none⟩ = false:=by obtain ⟨_,_,h,_⟩:=HP1.out.fc; exact a0e h 0
     have HP2:=Lib.hid (HP1.out.setF HL.out HDr.out)
     clear hb1
     gi_wp2
     gi_loopw [6,7,8,9,10] (λ bv _ _ _ _ wr=>∃ (n' : Nat) (r : List Int) (lim : Int) (out : List Int) (fb' : Bool),bv = .bool fb' /\ Hid (preG n' r lg fb' lim out = PR /\ r.length < n' /\ Pf fn (pfTm A n c lim0 rb eb ob v9 v10 fv undef undef) s rb eb ob fb lb D l B1 w r lim out wr /\ Bytes out /\ out.length + 131072 * r.length <= 131072000000 /\ 0 <= lim /\ lim <= limit /\ r.length <= 1000000)) (λ _ _ _ _ _ wr=>slN ((wr.cell? ⟨fb,0,none⟩).getD undef))
     case atStart=>exact ⟨f.length + 1,r0,limit,[],true,rfl,Lib.hid ⟨HR.out.symm,HN.out.1,HP2.out,(λ x h=>by cases h),by have:=HN.out.2; simp; omega,by omega,Int.le_refl _,HN.out.2⟩⟩
     case round=>
      obtain ⟨n',r,lim,out,fb',rfl,H⟩:=hrel
      obtain ⟨n',rfl⟩ : ∃ m,n' = m + 1:=⟨n' - 1,by have:=H.out.2.1; omega⟩
      obtain ⟨Ar,cr,hrc,hbr⟩:=H.out.2.2.1.fc
      have hcr : wr.cell? ⟨fb,0,none⟩ = some (.slice Ar r.length cr):=(a0a hrc 0).trans rfl
      have hcl2 : wr.cell? ⟨lb,0,none⟩ = some (.int .i64 lim):=(a0a H.out.2.2.1.lc 0).trans rfl
      have hbw:=hbr.below (by rw [<- hs]; exact H.out.2.2.1.on)
      have HOp:=Lib.hid (b7S Ar cr r lg fb' lim wr hbw.row hbw.by' H.out.2.2.2.2.2.2.2 hbw.cap)
      have HUse:=Lib.hid (λ h=>b6z (f:=r) (log:=lg) (room:=lim) (first:=fb') h)
      have HLen:=Lib.hid (λ h=>c9M hbw.by' (log:=lg) (room:=lim) (first:=fb') h)
      have h16:=c9n (f:=r) (log:=lg) (room:=lim) (first:=fb')
      obtain ⟨k,y,u,lt,hO⟩ : ∃ k y u lt,openM r lg fb' lim = (k,y,u,lt):=⟨_,_,_,_,rfl⟩
      have HO:=Lib.hid hO
      rw [hO] at HOp HUse HLen h16
      dsimp only at HUse HLen h16
      unfold OpenPost at HOp
      dsimp only at HOp
      have HBr:=Lib.hid hbr
      clear hO hbw hbr hrc
      gi_wp2
      refine ⟨trivial,λ h=>(by cases h),(callsIn_wide.2 HOp.out).mono ?_⟩
      rintro e w2 ⟨Ay,cy,rfl,hRy,hb2⟩
      have HPw:=Lib.hid (H.out.2.2.1.later HL.out hb2)
      by_cases hk : k = 0
      · subst hk
        have hU:=HUse.out rfl
        have hLe:=HLen.out rfl
        have hy:=a6j w2 (.slice Ay y.length cy) (.int .i64 0) HPw.out.lp
        have HRd:=Lib.hid (c9J (cy:=cy) (m - 1) HL.out HPw.out (Kd.R_reads' hRy).2.2 (by have:=H.out.2.2.2.2.1; have:=hLe.1; omega))
        have HUL:=Lib.hid (And.intro hU hLe)
        have hcr2 : w2.cell? ⟨fb,0,none⟩ = some (.slice Ar r.length cr):=a0s hb2 hcr
        clear hRy hb2 h16
        gi_wp2
        refine ⟨λ h=>(by cases h),HRd.out.mono ?_⟩
        rintro e w3 ⟨rfl,hP3⟩
        obtain ⟨A3,c3,hf3,hb3⟩:=hP3.fc
        have hc3 : w3.cell? ⟨fb,0,none⟩ = some (.slice A3 r.length c3):=(a0a hf3 0).trans rfl
        have hfz3 : w3.frozen? ⟨fb,0,none⟩ = false:=a0e hf3 0
        have hcl3 : w3.cell? ⟨lb,0,none⟩ = some (.int .i64 lim):=(a0a hP3.lc 0).trans rfl
        have hfl3 : w3.frozen? ⟨lb,0,none⟩ = false:=a0e hP3.lc 0
        have hsf3:=a3a A3 r.length c3 u HUL.out.1.2
        have HDr3:=Lib.hid (hb3.from_ (k:=u) HUL.out.1.2)
        obtain ⟨Ad3,hAd3⟩ : ∃ Ad,Ad = (if c3 = u then A3 else A3.map (·.add (u * 1))):=⟨_,rfl⟩
        rw [<- hAd3] at HDr3 hsf3
        obtain ⟨r3,hr3⟩ : ∃ r3,r3 = r.drop u:=⟨_,rfl⟩
        have hr3l : r.length - u = r3.length:=by rw [hr3,List.length_drop]
        have HR3:=Lib.hid hr3
        rw [<- hr3] at HDr3
        rw [hr3l] at hsf3
        have hcu : (u : Int) <= (c3 : Int):=by have:=hb3.cap; have:=HUL.out.1.2; omega
        have hru : (u : Int) <= (r.length : Int):=by have:=HUL.out.1.2; omega
        have hu0 : (0 : Int) <= (u : Int):=by omega
        have hwl : IntKind.i64.wrap (lim - (y.length : Int)) = lim - (y.length : Int):=i64_in _ (by have:=HUL.out.2; have:=H.out.2.2.2.2.2; omega)
        have HP3:=Lib.hid hP3
        have HP4:=Lib.hid ((hP3.setF HL.out HDr3.out).setL HL.out (lim - (y.length : Int)))
        have HLt:=Lib.hid (show r3.length + 11 <= r.length by have:=HUL.out.1; omega)
        have hf4 : ((w3.setCell ⟨fb,0,none⟩ (.slice Ad3 r3.length (c3 - u))).setCell ⟨lb,0,none⟩ (.int .i64 (lim - (y.length : Int)))).heap[fb]? = some (.cells #[.slice Ad3 r3.length (c3 - u)] 22 (0,0)):=a1r ((a0n hf3 0 _).trans rfl) hne1
        have hc4 : ((w3.setCell ⟨fb,0,none⟩ (.slice Ad3 r3.length (c3 - u))).setCell ⟨lb,0,none⟩ (.int .i64 (lim - (y.length : Int)))).cell? ⟨fb,0,none⟩ = some (.slice Ad3 r3.length (c3 - u)):=(a0a hf4 0).trans rfl
        clear hP3 hf3 hf4 hb3 hAd3 hr3 hr3l
        cases lt with
        | true=>
         have hy4:=a6j _ (.slice Ad3 r3.length (c3 - u)) (.int .i64 16) HP4.out.lp
         have HSt:=Lib.hid (c9K (m - 1) HL.out HP4.out (q:=r3) (Ay:=Ad3) (cy:=c3 - u) (HDr3.out.below (by rw [<- hs]; exact HP4.out.on)) (λ x hx=>(List.mem_append.1 hx).elim (H.out.2.2.2.1 x) (HUL.out.2.2.2 x)) (by rw [List.length_append]; have:=HUL.out.2.1; have:=H.out.2.2.2.2.1; omega) (by have:=HLt.out; have:=H.out.2.2.2.2.2.2.2; omega))
         gi_wp2
         refine ⟨λ h=>(by cases h),HSt.out.mono ?_⟩
         rintro e w5 ⟨rfl,hX⟩
         have HX:=Lib.hid hX
         clear hX hy4
         gi_wp2
         go_end0
         have h1:=H.out.1
         rw [c9O HO.out,<- HR3.out] at h1
         rw [<- h1]
         exact ⟨⟨_,rfl⟩,HX.out⟩
        | false=>
         gi_wp2
         go_roundw
         case rel=>exact ⟨n',r3,lim - (y.length : Int),out ++ y,false,rfl,Lib.hid ⟨by have h1:=H.out.1; rw [c9P HO.out,<- HR3.out] at h1; exact h1,by have:=H.out.2.1; have:=HLt.out; omega,HP4.out,(λ x hx=>(List.mem_append.1 hx).elim (H.out.2.2.2.1 x) (HUL.out.2.2.2 x)),by rw [List.length_append]; have:=HUL.out.2.1; have:=H.out.2.2.2.2.1; have:=HLt.out; omega,by have:=HUL.out.2; omega,by have:=H.out.2.2.2.2.2; omega,by have:=HLt.out; have:=H.out.2.2.2.2.2.2.2; omega⟩⟩
         case measure=>rw [hc4,hcr]; have:=HLt.out; simp [slN]; omega
      · have hk2 : (k != 0) = true:=by simpa using hk
        have hy:=a6j w2 (.slice Ay y.length cy) (.int .i64 k) HPw.out.lp
        have HSt:=Lib.hid (b1g (m - 1) HL.out HPw.out (.slice Ay y.length cy) k hk h16)
        have HE:=Lib.hid (c9N (n:=n') (out:=out) HO.out hk)
        clear hRy hb2 h16 hk
        gi_wp2
        refine ⟨λ h=>(by cases h),HSt.out.mono ?_⟩
        rintro e w3 ⟨rfl,hX⟩
        have HX:=Lib.hid hX
        clear hX hy
        gi_wp2
        go_end0
        have h1:=H.out.1
        rw [HE.out] at h1
        rw [<- h1]
        exact ⟨⟨_,rfl⟩,HX.out⟩
   · have HR : Hid (a0C f limit = (headM f,[])):=Lib.hid (by unfold a0C; rw [if_neg hn,if_pos hh])
     obtain ⟨lg,hlg⟩ : ∃ k,k = a2f f:=⟨_,rfl⟩
     have hm16:=c9p (f:=f)
     obtain ⟨k,hk⟩ : ∃ k,k = headM f:=⟨_,rfl⟩
     rw [<- hlg,<- hk] at HHd
     rw [<- hk] at hh hm16 HR
     have hk2 : (k != 0) = true:=by simpa using hh
     clear h L hfc hbs hbsW htm hlg hk
     refine callsIn_of_wp Tryz.func139 rfl trivial ?_ rfl
     simp only [Tryz.ntmps139,List.size_toArray,List.length_cons,List.length_nil,Nat.reduceAdd,Nat.reduceSub,Array.replicate_succ,Array.replicate_zero,List.push_toArray,List.append_toArray,List.nil_append,List.cons_append]
     gi_wp2
     refine ⟨trivial,λ h=>(by cases h),(callsIn_wide.2 HHd.out).mono ?_⟩
     rintro e w1 ⟨rfl,hb1⟩
     have HP1:=Lib.hid (HP.out.later HL.out hb1)
     have hcl : w1.cell? ⟨lb,0,none⟩ = some (.int .i64 limit):=(a0a HP1.out.lc 0).trans rfl
     have hy:=a6j w1 (.slice none 0 0) (.int .i64 k) HP1.out.lp
     have HSt:=Lib.hid (b1g (m - 1) HL.out HP1.out (.slice none 0 0) k hh hm16)
     clear hb1 hh hm16
     gi_wp2
     refine ⟨λ h=>(by cases h),HSt.out.mono ?_⟩
     rintro e w2 ⟨rfl,hX⟩
     have HX:=Lib.hid hX
     clear hX hy
     gi_wp2
     go_end0
     rw [HR.out]
     exact ⟨⟨_,rfl⟩,HX.out⟩
end
end Go.Proofs.YtflfjpkmjnnodaaGreat
namespace Go.Proofs.YtflfjpkmjnnodaaGreat
open Go.RowKit Go.IntWalk Go.Proofs.YtflfjpkmjnnodaaGreatW.PrintWords
attribute [local go_sem] Oper.semAt_some
set_option maxRecDepth 100000 in
theorem c9S (A : Option Addr) (n c : Nat) (lim : Int) (w : World) :
    Calls Tryz.prog 95 #[.slice A n c,.int .i64 lim] w λ e w'=>e = .returned (.func (.func 139) #[] #[.pointer (some ⟨w.heap.size,0,none⟩),.pointer (some ⟨w.heap.size + 1,0,none⟩)]) /\ w' = (w.alloc (.cells #[.slice A n c] 22)).alloc (.cells #[.int .i64 lim] 3):=by
 have hmf : ∀ (fn : Fn) (first cap : Array Value) (w : World),(Instr.makeFunc fn first cap).run Tryz.prog w = .ok (.func fn first cap) w:=λ _ _ _ _=>rfl
 go_enter Tryz.func95,Tryz.ntmps95
 go_wp2_with fail
 go_ret
 exact ⟨by simp,rfl⟩
theorem c9T {w : World} {g : Nat} {v : Value} (h : w.heap[g]? = some (.cells #[v] 22 (0,0))) : (loadVar 22 ⟨g,0,none⟩).run Tryz.prog w = .ok v w:=by
 have hc : w.cell? ⟨g,0,none⟩ = some v:=(a0a h 0).trans rfl
 simp [go_sem,hc]
theorem pfEnd {w W : World} {L : List Int} {A : Option Addr} {c : Nat} {x : Int} {D B1 : Nat} {tmps : Array Value} (hD : w.heap.size + 1 < D) (hB : Below w.heap.size w W) (kr : W.heap[w.heap.size]? = some (.cells #[.slice A L.length c] 22 (0,0))) (ke : W.heap[w.heap.size + 1]? = some (.cells #[.int .i64 x] 27 (0,0)))
    (kd : W.heap[D]? = some (.deferred (some []))) (hR : (Kd.int .u8).R 5 W B1 (λ _=>True) (.slice A L.length c) L) (hDB : D < B1)
    (h2 : tmps.getD 4 undef = .pointer (some ⟨w.heap.size,0,none⟩)) (h3 : tmps.getD 5 undef = .pointer (some ⟨w.heap.size + 1,0,none⟩)) :
    LeavesInM Fence.wide 3 Tryz.prog Tryz.f45 tmps (Told x L w) [{ target:=.collected D,args:=#[] }] .returning W:=by
 refine ⟨by simp,.inl ⟨_,_,rfl,run_takeDeferred kd,?_⟩⟩
 refine ⟨_,b0F (fn:=Tryz.f45) (p:=4) (q:=5) (t:=22) (u:=27) rfl _ _ _ _ _ _ h2 h3 (c9T ((World.putObj_heap_other (by omega)).trans kr)) (b0G ((World.putObj_heap_other (by omega)).trans ke)),?_⟩
 exact ⟨A,c,rfl,Kd.R_lower (R_put hR hDB _) (by omega),hB.putObj (by omega) _⟩
set_option maxRecDepth 100000 in
set_option maxHeartbeats 2000000 in
theorem a8e (A : Option Addr) (c : Nat) (f : List Int) (limit : Int) (w : World) (hf : BSl w A c f) (hl : f.length <= 1000000) (hL : limit < 4611686018427387904) :
    Calls Tryz.prog 45 #[.slice A f.length c,.int .i64 limit] w (Told (a0C f limit).1 (a0C f limit).2 w):=by
 refine (callsIn_wide (n:=3)).1 ?_
 refine callsIn_of_wp_marks Tryz.func45 rfl trivial ?_ rfl
 simp only [Tryz.ntmps45,List.size_toArray,List.length_cons,List.length_nil,Nat.reduceAdd,Nat.reduceSub,Array.replicate_succ,Array.replicate_zero,List.push_toArray,List.append_toArray,List.nil_append,List.cons_append]
 obtain ⟨W0,hW0⟩ : ∃ W0,W0 = ((w.alloc (.cells #[.slice none 0 0] 22)).alloc (.cells #[.int .i64 0] 27)).alloc (.cells #[.slice none 0 0] 22):=⟨_,rfl⟩
 have HX:=Lib.hid (And.intro hf hl)
 clear hf hl
 gi_wp2
 rw [<- hW0]
 have hs0 : W0.heap.size = w.heap.size + 1 + 1 + 1:=by rw [hW0]; simp
 have hB0 : Below w.heap.size w W0:=by rw [hW0]; exact (((Below.refl w.heap.size w).alloc (Nat.le_refl _) _).alloc (by simp) _).alloc (by simp; omega) _
 have kr0 : W0.heap[w.heap.size]? = some (.cells #[.slice none 0 0] 22 (0,0)):=by rw [hW0]; exact a0i (a0i (a0k _ _) _) _
 have ke0 : W0.heap[w.heap.size + 1]? = some (.cells #[.int .i64 0] 27 (0,0)):=by rw [hW0]; exact a0i (a2i _ _ _) _
 have ko0 : W0.heap[w.heap.size + 1 + 1]? = some (.cells #[.slice none 0 0] 22 (0,0)):=by
  have:=a0k ((w.alloc (.cells #[.slice none 0 0] 22)).alloc (.cells #[.int .i64 0] 27)) (.cells #[.slice none 0 0] 22)
  simp only [World.size_alloc] at this
  rw [hW0]; exact this
 have H0:=Lib.hid (And.intro hs0 (And.intro hB0 (And.intro kr0 (And.intro ke0 ko0))))
 clear hW0 hs0 hB0 kr0 ke0 ko0
 refine ⟨trivial,(callsIn_wide.2 (c9S A f.length c limit W0)).mono ?_⟩
 rintro e w1 ⟨rfl,rfl⟩
 obtain ⟨Wb,hWb⟩ : ∃ Wb,Wb = (W0.alloc (.cells #[.slice A f.length c] 22)).alloc (.cells #[.int .i64 limit] 3):=⟨_,rfl⟩
 obtain ⟨pb,hpb⟩ : ∃ pb,pb = W0.heap.size:=⟨_,rfl⟩
 rw [<- hWb,<- hpb]
 have hsb : Wb.heap.size = pb + 1 + 1:=by rw [hWb,hpb]; simp
 have hps : pb = w.heap.size + 1 + 1 + 1:=by rw [hpb]; exact H0.out.1
 have hBb : Below w.heap.size w Wb:=by rw [hWb]; exact (H0.out.2.1.alloc (by have:=H0.out.1; omega) _).alloc (by have:=H0.out.1; simp; omega) _
 have kr : Wb.heap[w.heap.size]? = some (.cells #[.slice none 0 0] 22 (0,0)):=by rw [hWb]; exact a0i (a0i H0.out.2.2.1 _) _
 have ke : Wb.heap[w.heap.size + 1]? = some (.cells #[.int .i64 0] 27 (0,0)):=by rw [hWb]; exact a0i (a0i H0.out.2.2.2.1 _) _
 have ko : Wb.heap[w.heap.size + 1 + 1]? = some (.cells #[.slice none 0 0] 22 (0,0)):=by rw [hWb]; exact a0i (a0i H0.out.2.2.2.2 _) _
 have kf : Wb.heap[pb]? = some (.cells #[.slice A f.length c] 22 (0,0)):=by rw [hWb,hpb]; exact a0i (a0k W0 _) _
 have kl : Wb.heap[pb + 1]? = some (.cells #[.int .i64 limit] 3 (0,0)):=by rw [hWb,hpb]; exact a2i _ _ _
 have HWb:=Lib.hid (And.intro hsb (And.intro hps (And.intro hBb (And.intro kr (And.intro ke (And.intro ko (And.intro kf kl)))))))
 clear hWb hpb hsb hps hBb kr ke ko kf kl
 gi_wp2
 refine wpIn_rangeFunc ?_
 intro fn hfn
 obtain ⟨hsb,hps,hBb,kr,ke,ko,kf,kl⟩:=HWb.out
 obtain ⟨fv,hfv⟩ : ∃ fv,fv = Value.func (.func 139) #[] #[.pointer (some ⟨pb,0,none⟩),.pointer (some ⟨pb + 1,0,none⟩)]:=⟨_,rfl⟩
 obtain ⟨tm,htm⟩ : ∃ tm,tm = pfTm A f.length c limit w.heap.size (w.heap.size + 1) (w.heap.size + 1 + 1) (.slice A f.length c) (.int .i64 limit) fv undef undef:=⟨_,rfl⟩
 obtain ⟨W1,hW1⟩ : ∃ W1,(Wb.alloc (.deferred (some []))).alloc (.loop (pfRec fn tm Wb.heap.size .ready none)) = W1:=⟨_,rfl⟩
 have hs1 : W1.heap.size = Wb.heap.size + 1 + 1:=by rw [<- hW1]; simp
 have hold : ∀ k,k < Wb.heap.size -> W1.heap[k]? = Wb.heap[k]?:=λ k hk=>by
  rw [<- hW1]; exact (Below.heap_alloc _ _ k (by simp; omega)).trans (Below.heap_alloc _ _ k hk)
 have klp : W1.heap[Wb.heap.size + 1]? = some (.loop (pfRec fn tm Wb.heap.size .ready none)):=by
  rw [<- hW1]; have:=World.alloc_heap_new (Wb.alloc (.deferred (some []))) (.loop (pfRec fn tm Wb.heap.size .ready none)); rwa [World.size_alloc] at this
 have kd : W1.heap[Wb.heap.size]? = some (.deferred (some [])):=by
  rw [<- hW1]; exact (Below.heap_alloc _ _ _ (by simp)).trans (World.alloc_heap_new Wb _)
 have hB1 : Below w.heap.size w W1:=by rw [<- hW1]; exact (hBb.alloc (by omega) _).alloc (by simp; omega) _
 have hLay : Lay w.heap.size w.heap.size (w.heap.size + 1) (w.heap.size + 1 + 1) pb (pb + 1) Wb.heap.size (Wb.heap.size + 1) W1.heap.size:=⟨by omega,by omega,by omega,by omega,by omega,by omega,by omega,by omega⟩
 have hPf : Pf fn tm w.heap.size w.heap.size (w.heap.size + 1) (w.heap.size + 1 + 1) pb (pb + 1) Wb.heap.size (Wb.heap.size + 1) W1.heap.size w f limit [] W1:=
  ⟨⟨A,c,(hold _ (by omega)).trans kf,HX.out.1⟩,(hold _ (by omega)).trans kl,⟨none,0,(hold _ (by omega)).trans ko,Kd.R_nil _ _ _ _ _⟩,(hold _ (by omega)).trans kr,(hold _ (by omega)).trans ke,klp,kd,hB1,Nat.le_refl _⟩
 rw [htm] at hPf
 have hIt:=c9R 2 hLay rfl hPf HX.out.2 hL
 rw [<- htm] at hIt
 have HIt:=Lib.hid hIt
 have HK:=Lib.hid (And.intro hs1 (And.intro hsb hps))
 clear hIt hPf hLay kr ke ko kf kl klp kd hBb hold
 refine ⟨Wb.heap.size + 1,[{ target:=.collected Wb.heap.size,args:=#[] }],W1,{ target:=.fn (.func 139) #[.pointer (some ⟨pb,0,none⟩),.pointer (some ⟨pb + 1,0,none⟩)],args:=#[.func (.yield (Wb.heap.size + 1)) #[] #[]] },W1,139,
  #[.func (.yield (Wb.heap.size + 1)) #[] #[],.pointer (some ⟨pb,0,none⟩),.pointer (some ⟨pb + 1,0,none⟩)],W1,?_,?_,?_,?_,λ h=>(by cases h),?_⟩
 · rw [<- hW1,htm,hfv]; exact run_enterLoop_outer _ _ _ _ _
 · simp [resolve,go_sem]
 · intro f' hf'; exact trivial
 · simp [invoke,go_sem]
 · clear hW1 htm hfv
   refine HIt.out.mono ?_
   rintro e W2 ⟨⟨v,rfl⟩,hX⟩
   obtain ⟨hs1,hsb,hps⟩:=HK.out
   have hend:=run_endLoop (P:=Tryz.prog) hX.lp (by simp [pfRec])
   have hend2 : (Instr.endLoop (Wb.heap.size + 1)).run Tryz.prog W2 = .ok (some .ret) (W2.putObj (Wb.heap.size + 1) (.loop { pfRec fn tm Wb.heap.size .done (some .ret) with state:=.exhausted })):=hend
   obtain ⟨W3,hW3⟩ : ∃ W3,W2.putObj (Wb.heap.size + 1) (.loop { pfRec fn tm Wb.heap.size .done (some .ret) with state:=.exhausted }) = W3:=⟨_,rfl⟩
   rw [hW3] at hend2
   obtain ⟨⟨Ao,co,krr,hRR⟩,kee,-,kdd,hBB⟩:=hX
   have hB3 : Below w.heap.size w W3:=by rw [<- hW3]; exact hBB.putObj (by omega) _
   have kd3 : W3.heap[Wb.heap.size]? = some (.deferred (some [])):=by rw [<- hW3]; exact (World.putObj_heap_other (by omega)).trans kdd
   have kr3 : W3.heap[w.heap.size]? = some (.cells #[.slice Ao (a0C f limit).2.length co] 22 (0,0)):=by rw [<- hW3]; exact (World.putObj_heap_other (by omega)).trans krr
   have ke3 : W3.heap[w.heap.size + 1]? = some (.cells #[.int .i64 (a0C f limit).1] 27 (0,0)):=by rw [<- hW3]; exact (World.putObj_heap_other (by omega)).trans kee
   have hR3 : (Kd.int .u8).R 5 W3 W1.heap.size (λ _=>True) (.slice Ao (a0C f limit).2.length co) (a0C f limit).2:=by rw [<- hW3]; exact R_put hRR (by omega) _
   have hWbs : Wb.heap.size = w.heap.size + 1 + 1 + 1 + 1 + 1:=by omega
   rw [hWbs] at kd3
   have HZ:=Lib.hid (And.intro hB3 (And.intro kd3 (And.intro kr3 (And.intro ke3 hR3))))
   have HD:=Lib.hid (show w.heap.size + 1 < w.heap.size + 1 + 1 + 1 + 1 + 1 /\ w.heap.size + 1 + 1 + 1 + 1 + 1 < W1.heap.size by omega)
   refine ⟨some .ret,W3,hend2,?_⟩
   clear hW3 hend hend2 hBB krr hRR kee kdd hB3 kd3 kr3 ke3 hR3 hs1 hsb hps hWbs HIt HK
   gi_wp2
   exact pfEnd HD.out.1 HZ.out.1 HZ.out.2.2.1 HZ.out.2.2.2.1 HZ.out.2.1 HZ.out.2.2.2.2 HD.out.2 rfl rfl
theorem c9U {f : List Int} {limit : Int} (h : (a0C f limit).1 = 0) : a1Q f limit = a0C f limit:=by unfold a1Q; rw [if_neg (λ h2=>h2 h)]
theorem a8f {f : List Int} {limit : Int} (h : (a0C f limit).1 ≠ 0) : a1Q f limit = ((a0C f limit).1,[]):=by unfold a1Q; rw [if_pos h]
set_option maxRecDepth 100000 in
theorem a8g (A : Option Addr) (c : Nat) (f : List Int) (limit : Int) (w : World) (hf : BSl w A c f) (hl : f.length <= 1000000) (hL : limit < 4611686018427387904) :
    Calls Tryz.prog 47 #[.slice A f.length c,.int .i64 limit] w (Told (a1Q f limit).1 (a1Q f limit).2 w):=by
 have HPr:=Lib.hid (a8e A c f limit w hf hl hL)
 have HE : Hid (_ /\ _):=Lib.hid (And.intro (c9U (f:=f) (limit:=limit)) (a8f (f:=f) (limit:=limit)))
 obtain ⟨P,hP⟩ : ∃ P,P = a0C f limit:=⟨_,rfl⟩
 obtain ⟨Q,hQ⟩ : ∃ Q,Q = a1Q f limit:=⟨_,rfl⟩
 rw [<- hP,<- hQ] at HE
 rw [<- hP] at HPr
 rw [<- hQ]
 clear hf hP hQ
 obtain ⟨k,y⟩:=P
 dsimp only at HE HPr
 by_cases hk : k = 0
 · subst hk
   obtain rfl:=HE.out.1 rfl
   clear HE
   go_enter Tryz.func47,Tryz.ntmps47
   go_wp2_with fail
   refine HPr.out.mono ?_
   rintro e w1 ⟨A1,c1,rfl,hr1,hb1⟩
   have H1:=Lib.hid (And.intro hr1 hb1)
   clear hr1 hb1
   go_wp2_with fail
   go_ret2
   exact ⟨A1,c1,rfl,H1.out.1,H1.out.2⟩
 · obtain rfl:=HE.out.2 hk
   have hk2 : (k != 0) = true:=by simpa using hk
   clear HE hk
   go_enter Tryz.func47,Tryz.ntmps47
   go_wp2_with fail
   refine HPr.out.mono ?_
   rintro e w1 ⟨A1,c1,rfl,hr1,hb1⟩
   have H1:=Lib.hid hb1
   clear hr1 hb1
   go_wp2_with fail
   go_ret2
   exact ⟨none,0,rfl,Kd.R_nil _ _ _ _ _,H1.out⟩
end Go.Proofs.YtflfjpkmjnnodaaGreat
namespace Go.Proofs.YtflfjpkmjnnodaaGreat
open Go.RowKit Go.IntWalk Go.Proofs.YtflfjpkmjnnodaaGreatW.PrintWords
theorem Only.behind {S : Nat -> Prop} {a b c : World} {B : Nat} (h : Only S a b) (k : Below B b c) (hB : a.heap.size <= B) : Only S a c:=
 ⟨k.os.trans h.os,k.tape.trans h.tape,k.output.trans h.output,Nat.le_trans h.size k.size,λ i hi hs=>(k.block i (Nat.lt_of_lt_of_le hi hB)).trans (h.block i hi hs)⟩
theorem BSl.only {w w' : World} {A : Option Addr} {c : Nat} {p : List Int} {S : Nat -> Prop} (h : BSl w A c p) (ho : Only S w w') (hs : 0 < p.length -> ∀ ad,A = some ad -> ¬ S ad.block) : BSl w' A c p:=
 ⟨a6H h.row (λ hn ad ha=>ho.block _ (a8O h.row hn ha) (hs hn ad ha)),h.cap,h.nil,h.by'⟩
def Apart (p : Nat) (A : Option Addr) (x : List Int) : Prop:=0 < x.length -> ∀ ad,A = some ad -> ad.block ≠ p
theorem BSl.none_ (w : World) : BSl w none 0 []:=⟨(Kd.R_reads' (Kd.R_nil (Kd.int .u8) 5 w w.heap.size (λ _=>True))).2.2,Nat.le_refl _,λ _=>rfl,λ x hx=>by cases hx⟩
theorem OpenPost.out {r : Int × List Int × Nat × Bool} {w : World} {e : Ending} {w' : World} (h : OpenPost r w e w') (hy : Bytes r.2.1) : ∃ A c,e = .returned (.tuple #[.slice A r.2.1.length c,.int .i64 (r.2.2.1 : Nat),.bool r.2.2.2,.int .i64 r.1]) /\ BSl w' A c r.2.1 /\ Below w.heap.size w w':=by
 obtain ⟨A,c,he,hr,hb⟩:=h
 exact ⟨A,c,he,BSl.of hr hy,hb⟩
theorem BSl.apart {w : World} {A : Option Addr} {c p : Nat} {x : List Int} (h : BSl w A c x) (hp : w.heap.size <= p) : Apart p A x:=λ hn ad ha=>by
 have:=a8O h.row hn ha; omega
def kb (w0 : World) : Kd (List Int) where
 sz:=1
 E:=[]
 K:=λ _ x cs=>∃ A c,cs = [.slice A x.length c] /\ BSl w0 A c x
 M:=λ _ _ _ x cs=>∃ A c,cs = [.slice A x.length c] /\ BSl w0 A c x
 K_len:=by rintro w x cs ⟨A,c,rfl,_⟩; rfl
 K_one:=by rintro w x cs ⟨A,c,rfl,_⟩ u hu; rw [List.mem_singleton.1 hu]; rfl
 K_below:=λ _ h=>h
 K_of_M:=λ h=>h
 M_mono:=λ _ h=>h
 M_bound:=λ h=>h
 M_move:=λ _ h=>h
 M_lower:=λ _ h=>h
theorem u8_in {n : Int} (h : (Lit.int .u8 n).wf = true) : 0 <= n /\ n < 256:=by
 have a : IntKind.u8.min = 0:=rfl
 have b : IntKind.u8.max = 255:=rfl
 simp only [Lit.wf,a,b,Bool.and_eq_true,decide_eq_true_eq] at h
 omega
theorem a2g {n : Int} (h : (Lit.int .u16 n).wf = true) : 0 <= n /\ n < 65536:=by
 have a : IntKind.u16.min = 0:=rfl
 have b : IntKind.u16.max = 65535:=rfl
 simp only [Lit.wf,a,b,Bool.and_eq_true,decide_eq_true_eq] at h
 omega
end Go.Proofs.YtflfjpkmjnnodaaGreat
namespace Go.Proofs.YtflfjpkmjnnodaaGreat
open Go.RowKit Go.IntWalk Go.Proofs.YtflfjpkmjnnodaaGreatW.PrintWords Go.Proofs.YtflfjpkmjnnodaaGreatW.PrintMore
attribute [local go_sem] a1I
theorem d0r : encM [] 10 = [80,78,67,72,1,10,0,0,4,0,0,0,0,0,0,0,0,0,0,0,0,0,0]:=by
 have h : putM [] true = [4,0,0,0,0,0,0,0,0,0,0]:=by
  unfold putM
  rw [best_nilP.1,best_nilP.2]
  rfl
 show headL 10 ++ (blksM (2 ^ 10) 0 [] ++ tailL []) = _
 rw [show blksM (2 ^ 10) 0 ([] : List Int) = putM [] true from rfl,h]
 rfl
theorem d0s : Bytes [80,78,67,72,1,10,0,0,4,0,0,0,0,0,0,0,0,0,0,0,0,0,0]:=by intro x hx; simp at hx; omega
set_option maxRecDepth 100000 in
set_option maxHeartbeats 1000000 in
theorem a3e (w : World) : Calls Tryz.prog 38 #[] w (Ret (.bool true) w):=by
 have HE:=a6f none 0 [] 10 w (BSl.none_ w) (by decide) (by decide)
 rw [show ((10 : Nat) : Int) = 10 from rfl,show ([] : List Int).length = 0 from rfl] at HE
 have hd : a1Q (encM [] 10) 0 = (0,[]):=b7t (log:=10) (x:=[]) (λ x h=>by cases h) (by decide) (by decide) (Int.le_refl _)
 have hsz : sizeM (encM [] 10) 0 = 0:=b7v (log:=10) (x:=[]) (λ x h=>by cases h) (by decide) (by decide) (Int.le_refl _)
 rw [d0r] at HE hd hsz
 obtain ⟨f,hf⟩ : ∃ f : List Int,f = [80,78,67,72,1,10,0,0,4,0,0,0,0,0,0,0,0,0,0,0,0,0,0]:=⟨_,rfl⟩
 have hfb : Bytes f:=by rw [hf]; exact d0s
 have hfl : f.length = 23:=by rw [hf]; rfl
 have hst : strOfNums f = ⟨#[80,78,67,72,1,10,0,0,4,0,0,0,0,0,0,0,0,0,0,0,0,0,0]⟩:=by rw [hf]; rfl
 rw [<- hf] at HE hd hsz
 have HF:=Lib.hid (And.intro hfb (And.intro hfl (And.intro hst (And.intro hd hsz))))
 clear hf hfb hfl hst hd hsz
 go_enter Tryz.func38,Tryz.ntmps38
 go_wp2_with fail
 refine HE.mono ?_
 rintro e w1 ⟨A1,c1,rfl,hr1,hb1⟩
 have hB:=BSl.of hr1 HF.out.1
 have HD:=a8g A1 c1 f 0 w1 hB (by have:=HF.out.2.1; omega) (by decide)
 rw [HF.out.2.2.2.1] at HD
 have HD:=Lib.hid HD
 have H1:=Lib.hid (And.intro hB hb1)
 clear hr1 hb1 hB HE
 go_wp2_with fail
 refine HD.out.mono ?_
 rintro e w2 ⟨A2,c2,rfl,-,hb2⟩
 have hcv:=(H1.out.1.below hb2).str
 rw [HF.out.2.2.1] at hcv
 have HSz:=b1f A1 c1 f 0 w2 (H1.out.1.below hb2) (by have:=HF.out.2.1; omega) (by decide)
 rw [HF.out.2.2.2.2] at HSz
 have HSz:=Lib.hid HSz
 have HB2:=Lib.hid (a0h H1.out.2 hb2)
 clear hb2
 go_wp2_with fail
 refine HSz.out.mono ?_
 rintro e w3 ⟨rfl,hb3⟩
 have HB3:=Lib.hid (a0h HB2.out hb3)
 clear hb3
 go_wp2_with fail
 go_ret
 exact ⟨rfl,HB3.out⟩
set_option maxRecDepth 100000 in
theorem a6k {n : Nat} (h : ¬ n <= 60) : decide (60 < (n : Int)) = true:=decide_eq_true (by omega)
structure Log8 (g m L s : Nat) : Prop where
 r1 : (g : Int).tmod 8 = (m : Int)
 r0 : (g : Int) % 8 = (m : Int)
 r2 : IntKind.u8.wrap (m : Int) = (m : Int)
 r3 : IntKind.i64.wrap (m : Int) = (m : Int)
 r4 : IntKind.i64.wrap (10 + (m : Int)) = (L : Int)
 hL : 10 <= L /\ L <= 17
 hs : s = 2 ^ L
 hsI : (2 : Int) ^ L = (s : Int)
 hL0 : ¬ (L : Int) < 0
 hsw : IntKind.i64.wrap (s : Int) = (s : Int)
 hs1 : 1024 <= s
 hs2 : s <= 131072
theorem b8k (g : Nat) (_ : g < 256) : ∃ m L s,Log8 g m L s:=by
 have hL : 10 <= 10 + g % 8 /\ 10 + g % 8 <= 17:=by omega
 have hs2 : 2 ^ (10 + g % 8) <= 131072:=Nat.le_trans (Nat.pow_le_pow_right (by decide : 2 > 0) hL.2) (by decide)
 have hs1 : 1024 <= 2 ^ (10 + g % 8):=Nat.le_trans (by decide) (Nat.pow_le_pow_right (by decide : 2 > 0) hL.1)
 exact ⟨g % 8,10 + g % 8,2 ^ (10 + g % 8),by rw [Int.tmod_eq_emod_of_nonneg (by omega)]; simp,by simp,by rw [IntKind.wrap_u8']; omega,i64_in _ (by omega),by rw [i64_in _ (by omega)]; omega,hL,rfl,by simp,by omega,i64_in _ (by omega),hs1,hs2⟩
set_option maxRecDepth 100000 in
set_option maxHeartbeats 1000000 in
theorem d0t (A : Option Addr) (ca : Nat) (b : List Int) (fill : Int) (more g : Nat) (w : World) (hb : BSl w A ca b) (hl : b.length <= 60) (hf : 0 <= fill /\ fill < 256) (hm : more < 65536) (hg : g < 256) :
    Calls Tryz.prog 10 #[.slice A b.length ca,.int .u8 fill,.int .u16 more,.int .u8 g] w (Ret (.bool true) w):=by
 have d1 : decide (60 < (b.length : Int)) = false:=decide_eq_false (by omega)
 have HX:=Lib.hid (And.intro hb (And.intro hf hm))
 have hlen:=a4v b fill (more % 2600)
 have hNl : more % 2600 < 2600:=Nat.mod_lt _ (by decide)
 have HBy:=Lib.hid (a6g hb.by' hf (more % 2600))
 clear hb hf hm
 obtain ⟨m,L,s,hLg⟩:=b8k g hg
 obtain ⟨q1,q0,q2,q3,q4,hL,hs,hsI,hL0,hsw,hs1,hs2⟩:=hLg
 have HS:=Lib.hid (And.intro hL hs)
 clear hL hs
 go_enter Tryz.func10,Tryz.ntmps10
 go_wp2_with fail
 refine (a3e w).mono ?_
 rintro e w1 ⟨rfl,hb1⟩
 have HSo:=Lib.hid (a8d A ca b fill more w1 (HX.out.1.below hb1) hl HX.out.2.1 HX.out.2.2)
 obtain ⟨x,hx⟩ : ∃ x,x = someL b fill (more % 2600):=⟨_,rfl⟩
 rw [<- hx] at HSo HBy hlen
 rw [<- hlen] at HSo
 have hxl : x.length <= 2660:=by omega
 have HB1:=Lib.hid hb1
 clear hb1 hx hlen hNl
 go_wp2_with fail
 refine HSo.out.mono ?_
 rintro e w2 ⟨A2,c2,rfl,hx2,hb2⟩
 have HE:=a6f A2 c2 x L w2 hx2 (by omega) HS.out.1
 have hen:=a6e x L
 have hnb:=b7w (s:=2 ^ L) (by rw [<- HS.out.2]; omega) x.length x.length (Nat.le_refl _)
 obtain ⟨q,hq⟩ : ∃ q,q = (x.length + s - 1) / s:=⟨_,rfl⟩
 obtain ⟨f,hf⟩ : ∃ f,f = encM x L:=⟨_,rfl⟩
 rw [<- hf] at HE hen
 rw [<- HS.out.2] at hen hnb
 rw [<- hq] at hnb
 obtain ⟨nb,hnb2⟩ : ∃ nb,nb = nBlks s x.length x.length:=⟨_,rfl⟩
 rw [<- hnb2] at hen hnb
 have hmx : Builtin.max2 (.int .i64 1) (.int .i64 (q : Int)) = pure (.int .i64 (nb : Int)):=by
  rw [a1H]; congr 2; rw [hnb]; split <;> omega
 have hmin : min L 64 = L:=by have:=HS.out.1; omega
 have hqI : ((x.length : Int) + (s : Int) - 1) / (s : Int) = (q : Int):=by
  rw [hq,show (x.length : Int) + (s : Int) - 1 = ((x.length + s - 1 : Nat) : Int) by omega]
  exact (Int.natCast_ediv _ _).symm
 have hqb : q <= x.length + s:=by rw [hq]; exact Nat.le_trans (Nat.div_le_self _ _) (by omega)
 have w_1 : IntKind.i64.wrap ((x.length : Int) + (s : Int)) = (x.length : Int) + (s : Int):=i64_in _ (by omega)
 have w_2 : IntKind.i64.wrap ((x.length : Int) + (s : Int) - 1) = (x.length : Int) + (s : Int) - 1:=i64_in _ (by omega)
 have hnbl : nb <= x.length + s + 1:=by rw [hnb]; omega
 have w_3 : IntKind.i64.wrap (12 * (nb : Int)) = 12 * (nb : Int):=i64_in _ (by omega)
 have w_4 : IntKind.i64.wrap ((x.length : Int) + 12 * (nb : Int)) = (x.length : Int) + 12 * (nb : Int):=i64_in _ (by omega)
 have w_5 : IntKind.i64.wrap ((x.length : Int) + 12 * (nb : Int) + 12) = (x.length : Int) + 12 * (nb : Int) + 12:=i64_in _ (by omega)
 have w_6 : IntKind.i64.wrap (11 * (nb : Int)) = 11 * (nb : Int):=i64_in _ (by omega)
 have w_7 : IntKind.i64.wrap (12 + 11 * (nb : Int)) = 12 + 11 * (nb : Int):=i64_in _ (by omega)
 have t_1 : decide ((f.length : Int) <= (x.length : Int) + 12 * (nb : Int) + 12) = true:=decide_eq_true (by omega)
 have t_2 : decide (12 + 11 * (nb : Int) <= (f.length : Int)) = true:=decide_eq_true (by omega)
 have HE:=Lib.hid HE
 have HB2:=Lib.hid (a0h HB1.out hb2)
 clear hx2 hb2 hen hf hnb hnb2 hq
 go_wp2_with fail
 refine HE.out.mono ?_
 rintro e w3 ⟨A3,c3,rfl,-,hb3⟩
 have HB3:=Lib.hid (a0h HB2.out hb3)
 clear hb3
 go_wp2_with fail
 go_ret
 exact ⟨rfl,HB3.out⟩
set_option maxRecDepth 100000 in
theorem d0u (A : Option Addr) (ca : Nat) (b : List Int) (fill more log : Int) (w : World) (hr : (Kd.int .u8).C w A b.length b) (hc : b.length <= ca) (hby : Bytes b) (_ : b.length * 1 <= 140737488351232) (hnil : A = none -> ca = 0) (hf : (Lit.int .u8 fill).wf = true) (hm : (Lit.int .u16 more).wf = true) (hg : (Lit.int .u8 log).wf = true) :
    Calls Tryz.prog 10 #[.slice A b.length ca,.int .u8 fill,.int .u16 more,.int .u8 log] w (Ret (.bool true) w):=by
 obtain ⟨k,rfl⟩ : ∃ k : Nat,more = k:=⟨more.toNat,by have:=a2g hm; omega⟩
 obtain ⟨g,rfl⟩ : ∃ k : Nat,log = k:=⟨log.toNat,by have:=u8_in hg; omega⟩
 have hk:=a2g hm
 have hkg:=u8_in hg
 by_cases h1 : b.length <= 60
 · exact d0t A ca b fill k g w ⟨hr,hc,hnil,hby⟩ h1 (u8_in hf) (by omega) (by omega)
 · have d1:=a6k h1
   clear h1 hr hc hby hnil hf hm hg hk hkg
   go_enter Tryz.func10,Tryz.ntmps10
   go_wp2_with fail
   refine (a3e w).mono ?_
   rintro e w1 ⟨rfl,hb1⟩
   have HB1:=Lib.hid hb1
   clear hb1
   go_wp2_with fail
   go_ret
   exact ⟨rfl,HB1.out⟩
end Go.Proofs.YtflfjpkmjnnodaaGreat
namespace Go.Proofs.YtflfjpkmjnnodaaGreat
open Go.RowKit Go.IntWalk Go.Proofs.YtflfjpkmjnnodaaGreatW.PrintWords Go.Proofs.YtflfjpkmjnnodaaGreatW.PrintMore
attribute [local go_sem] a1I
theorem d0v {n : Int} (h : (Lit.int .i16 n).wf = true) : -32768 <= n /\ n < 32768:=by
 have a : IntKind.i16.min = -32768:=rfl
 have b : IntKind.i16.max = 32767:=rfl
 simp only [Lit.wf,a,b,Bool.and_eq_true,decide_eq_true_eq] at h
 omega
set_option maxRecDepth 100000 in
set_option maxHeartbeats 2000000 in
theorem d0w (A : Option Addr) (ca : Nat) (b : List Int) (fill : Int) (more g : Nat) (by' : Int) (w : World) (hb : BSl w A ca b) (hl : b.length <= 60) (hf : 0 <= fill /\ fill < 256) (hm : more < 65536) (hg : g < 256) (hby : -32768 <= by' /\ by' < 32768) :
    Calls Tryz.prog 9 #[.slice A b.length ca,.int .u8 fill,.int .u16 more,.int .u8 g,.int .i16 by'] w (Ret (.bool true) w):=by
 have d1 : decide (60 < (b.length : Int)) = false:=decide_eq_false (by omega)
 have HX:=Lib.hid (And.intro hb (And.intro hf hm))
 have hlen:=a4v b fill (more % 2600)
 have hNl : more % 2600 < 2600:=Nat.mod_lt _ (by decide)
 have HBy:=Lib.hid (a6g hb.by' hf (more % 2600))
 clear hb hf hm
 obtain ⟨m,L,s,hLg⟩:=b8k g hg
 obtain ⟨q1,q0,q2,q3,q4,hL,hs,hsI,hL0,hsw,hs1,hs2⟩:=hLg
 have HS:=Lib.hid (And.intro hL hs)
 clear hL hs
 have hwb : IntKind.i64.wrap by' = by':=i64_in _ (by omega)
 go_enter Tryz.func9,Tryz.ntmps9
 go_wp2_with fail
 refine (a3e w).mono ?_
 rintro e w1 ⟨rfl,hb1⟩
 have HSo:=Lib.hid (a8d A ca b fill more w1 (HX.out.1.below hb1) hl HX.out.2.1 HX.out.2.2)
 obtain ⟨x,hx⟩ : ∃ x,x = someL b fill (more % 2600):=⟨_,rfl⟩
 rw [<- hx] at HSo HBy hlen
 rw [<- hlen] at HSo
 have hxl : x.length <= 2660:=by omega
 have HB1:=Lib.hid hb1
 clear hb1 hx hlen hNl
 go_wp2_with fail
 refine HSo.out.mono ?_
 rintro e w2 ⟨A2,c2,rfl,hx2,hb2⟩
 have HE:=a6f A2 c2 x L w2 hx2 (by omega) HS.out.1
 have HEl:=Lib.hid (b7F x L (by omega))
 have HEb:=Lib.hid (b1c (L:=L) HS.out.1.2 HBy.out (by omega))
 obtain ⟨lm,hlm⟩ : ∃ lm : Nat,(lm : Int) = max 0 ((x.length : Int) + by'):=⟨(max 0 ((x.length : Int) + by')).toNat,by omega⟩
 have w_1 : IntKind.i64.wrap ((x.length : Int) + by') = (x.length : Int) + by':=i64_in _ (by omega)
 have hmx : Builtin.max2 (.int .i64 0) (.int .i64 ((x.length : Int) + by')) = pure (.int .i64 (lm : Int)):=by
  rw [a1H]; congr 2; rw [hlm]; split <;> omega
 have hlmb : lm <= 40000:=by omega
 have HDP : Hid (if x.length <= lm then a1Q (encM x L) lm = (0,x) /\ a0C (encM x L) lm = (0,x) /\ sizeM (encM x L) lm = x.length else a1Q (encM x L) lm = (7,[]) /\ a0C (encM x L) lm = (7,x.take (lm / s * s)) /\ sizeM (encM x L) lm = lm / s * s):=by
  refine Lib.hid ?_
  split
  · rename_i h
    exact ⟨b7t HBy.out (by omega) HS.out.1 (by omega),b7s HBy.out (by omega) HS.out.1 (by omega),b7v HBy.out (by omega) HS.out.1 (by omega)⟩
  · rename_i h
    have hp:=c8S HBy.out (by omega) HS.out.1 (limit:=lm) (by omega)
    rw [HS.out.2]
    exact ⟨by rw [a8f (by rw [hp]; show (7 : Int) ≠ 0; decide),hp],hp,c8W HBy.out (by omega) HS.out.1 (by omega)⟩
 obtain ⟨f,hf⟩ : ∃ f,f = encM x L:=⟨_,rfl⟩
 rw [<- hf] at HE HEl HEb HDP
 have HE:=Lib.hid HE
 have HX2:=Lib.hid hx2
 have HB2:=Lib.hid (a0h HB1.out hb2)
 have hmin : min L 64 = L:=by have:=HS.out.1; omega
 clear hx2 hb2 hf hlm
 go_wp2_with fail
 refine HE.out.mono ?_
 rintro e w3 ⟨A3,c3,rfl,hr3,hb3⟩
 have hf3:=BSl.of hr3 HEb.out
 have HD:=a8g A3 c3 f lm w3 hf3 HEl.out (by omega)
 have HP : Hid (∀ W,Below w3.heap.size w3 W -> Calls Tryz.prog 45 #[.slice A3 f.length c3,.int .i64 lm] W (Told (a0C f lm).1 (a0C f lm).2 W)):=Lib.hid (λ W hW=>a8e A3 c3 f lm W (hf3.below hW) HEl.out (by omega))
 have HSz : Hid (∀ W,Below w3.heap.size w3 W -> Calls Tryz.prog 48 #[.slice A3 f.length c3,.int .i64 lm] W (λ e w'=>e = .returned (.int .i64 (sizeM f lm : Nat)) /\ Below W.heap.size W w')):=Lib.hid (λ W hW=>b1f A3 c3 f lm W (hf3.below hW) HEl.out (by omega))
 have HX3:=Lib.hid (HX2.out.below hb3)
 have HB3:=Lib.hid (a0h HB2.out hb3)
 clear hr3 hb3 hf3
 by_cases hle : x.length <= lm
 · rw [if_pos hle] at HDP
   obtain ⟨e1,e2,e3⟩:=HDP.out
   rw [e1] at HD
   rw [e2] at HP
   rw [e3] at HSz
   have HD:=Lib.hid HD
   clear e1 e2 e3 HDP
   go_wp2_with fail
   refine HD.out.mono ?_
   rintro e w4 ⟨A4,c4,rfl,hr4,hb4⟩
   have H4:=Lib.hid (And.intro (BSl.of hr4 HBy.out) hb4)
   have HPc:=HP.out w4 hb4
   clear hr4 hb4
   go_wp2_with fail
   refine HPc.mono ?_
   rintro e w5 ⟨A5,c5,rfl,hr5,hb5⟩
   have hb35:=a0h H4.out.2 hb5
   have H5:=Lib.hid (And.intro (BSl.of hr5 HBy.out) hb35)
   have HS1:=Lib.hid (a5c A4 A2 c4 c2 x w5 (H4.out.1.below hb5).row (HX3.out.below hb35).row HBy.out)
   have HS2:=Lib.hid (a5c A5 A2 c5 c2 x w5 (BSl.of hr5 HBy.out).row (HX3.out.below hb35).row HBy.out)
   have HZ:=Lib.hid (HSz.out w5 hb35)
   clear hr5 hb5 hb35
   go_wp2_with fail
   refine HS1.out.mono ?_
   rintro e w6 ⟨rfl,rfl⟩
   go_wp2_with fail
   refine HS2.out.mono ?_
   rintro e w6 ⟨rfl,rfl⟩
   go_wp2_with fail
   refine HZ.out.mono ?_
   rintro e w6 ⟨rfl,hb6⟩
   have HB6:=Lib.hid (a0h (a0h HB3.out H5.out.2) hb6)
   clear hb6
   go_wp2_with fail
   go_ret
   exact ⟨rfl,HB6.out⟩
 · rw [if_neg hle] at HDP
   obtain ⟨e1,e2,e3⟩:=HDP.out
   rw [e1] at HD
   rw [e2] at HP
   rw [e3] at HSz
   have HD:=Lib.hid HD
   have hle2 : lm < x.length:=by omega
   obtain ⟨q,hq⟩ : ∃ q,q = lm / s:=⟨_,rfl⟩
   rw [<- hq] at HP HSz
   have hqI : (lm : Int) / (s : Int) = (q : Int):=by rw [hq]; exact (Int.natCast_ediv _ _).symm
   obtain ⟨wh,hwh⟩ : ∃ wh,wh = q * s:=⟨_,rfl⟩
   rw [<- hwh] at HP HSz
   have hwl : wh <= lm:=by rw [hwh,hq]; exact Nat.div_mul_le_self _ _
   have hwI : (q : Int) * (s : Int) = (wh : Int):=by rw [hwh]; simp
   have hww : IntKind.i64.wrap (wh : Int) = (wh : Int):=i64_in _ (by omega)
   have hwx : wh <= x.length:=by omega
   have htl : (x.take wh).length = wh:=by rw [List.length_take]; omega
   have hsl:=a2X A2 x.length c2 wh hwx HX3.out.cap
   clear e1 e2 e3 HDP hle hq hwh
   go_wp2_with fail
   refine HD.out.mono ?_
   rintro e w4 ⟨A4,c4,rfl,hr4,hb4⟩
   have H4:=Lib.hid hb4
   have HPc:=HP.out w4 hb4
   unfold Told at HPc
   rw [htl] at HPc
   have HPc:=Lib.hid HPc
   clear hr4 hb4
   go_wp2_with fail
   refine HPc.out.mono ?_
   rintro e w5 ⟨A5,c5,rfl,hr5,hb5⟩
   have hb35:=a0h H4.out hb5
   have hxt:=(HX3.out.below hb35).cut (k:=wh) hwx
   have hr5' : BSl w5 A5 c5 (x.take wh):=BSl.of hr5 hxt.by'
   have HS1:=a5c A5 A2 c5 c2 (x.take wh) w5 hr5'.row hxt.row hxt.by'
   rw [htl] at HS1
   have HS1:=Lib.hid HS1
   have HZ:=Lib.hid (HSz.out w5 hb35)
   have H5:=Lib.hid hb35
   have h0l : (([] : List Int).length : Int) = 0:=rfl
   clear hr5 hb5 hb35 hr5' hxt htl
   go_wp2_with fail
   refine HS1.out.mono ?_
   rintro e w6 ⟨rfl,rfl⟩
   go_wp2_with fail
   refine HZ.out.mono ?_
   rintro e w6 ⟨rfl,hb6⟩
   have HB6:=Lib.hid (a0h (a0h HB3.out H5.out) hb6)
   clear hb6
   go_wp2_with fail
   go_ret
   exact ⟨rfl,HB6.out⟩
set_option maxRecDepth 100000 in
theorem d0x (A : Option Addr) (ca : Nat) (b : List Int) (fill more log by' : Int) (w : World) (hr : (Kd.int .u8).C w A b.length b) (hc : b.length <= ca) (hby : Bytes b) (_ : b.length * 1 <= 140737488351232) (hnil : A = none -> ca = 0) (hf : (Lit.int .u8 fill).wf = true) (hm : (Lit.int .u16 more).wf = true) (hg : (Lit.int .u8 log).wf = true) (hi : (Lit.int .i16 by').wf = true) :
    Calls Tryz.prog 9 #[.slice A b.length ca,.int .u8 fill,.int .u16 more,.int .u8 log,.int .i16 by'] w (Ret (.bool true) w):=by
 obtain ⟨k,rfl⟩ : ∃ k : Nat,more = k:=⟨more.toNat,by have:=a2g hm; omega⟩
 obtain ⟨g,rfl⟩ : ∃ k : Nat,log = k:=⟨log.toNat,by have:=u8_in hg; omega⟩
 have hk:=a2g hm
 have hkg:=u8_in hg
 by_cases h1 : b.length <= 60
 · exact d0w A ca b fill k g by' w ⟨hr,hc,hnil,hby⟩ h1 (u8_in hf) (by omega) (by omega) (d0v hi)
 · have d1:=a6k h1
   clear h1 hr hc hby hnil hf hm hg hk hkg hi
   go_enter Tryz.func9,Tryz.ntmps9
   go_wp2_with fail
   refine (a3e w).mono ?_
   rintro e w1 ⟨rfl,hb1⟩
   have HB1:=Lib.hid hb1
   clear hb1
   go_wp2_with fail
   go_ret
   exact ⟨rfl,HB1.out⟩
end Go.Proofs.YtflfjpkmjnnodaaGreat
namespace Go.Proofs.YtflfjpkmjnnodaaGreat
open Go.RowKit Go.IntWalk Go.Proofs.YtflfjpkmjnnodaaGreatW.PrintWords Go.Proofs.YtflfjpkmjnnodaaGreatW.PrintMore
theorem d0y {x : List Int} (hb : Bytes x) (hl : x.length <= 40000) {log : Nat} (hlog : 10 <= log /\ log <= 17) {j : Nat} (hj : j < (encM x log).length) {limit : Int} (hL : (x.length : Int) <= limit) : a1Q ((encM x log).take j) limit = (3,[]):=by
 have hp:=b7u hb hl hlog hj hL
 rw [a8f (by rw [hp]; show (3 : Int) ≠ 0; decide),hp]
theorem d0z {x m : List Int} (hb : Bytes x) (hl : x.length <= 40000) {log : Nat} (hlog : 10 <= log /\ log <= 17) (hm : 0 < m.length) {limit : Int} (hL : (x.length : Int) <= limit) : a1Q (encM x log ++ m) limit = (16,[]):=by
 have hp:=c8R hb hl hlog hm hL
 rw [a8f (by rw [hp]; show (16 : Int) ≠ 0; decide),hp]
set_option maxRecDepth 100000 in
set_option maxHeartbeats 4000000 in
theorem d0A (A B : Option Addr) (ca cb : Nat) (b m : List Int) (fill : Int) (more at' : Nat) (w : World) (hb : BSl w A ca b) (hm : BSl w B cb m) (hl : b.length <= 60) (hml : m.length <= 60) (hm0 : 0 < m.length) (hf : 0 <= fill /\ fill < 256) (hmo : more < 65536) (hat : at' < 65536) :
    Calls Tryz.prog 11 #[.slice A b.length ca,.int .u8 fill,.int .u16 more,.int .u16 at',.slice B m.length cb] w (Ret (.bool true) w):=by
 have d1 : decide (60 < (b.length : Int)) = false:=decide_eq_false (by omega)
 have d2 : decide (60 < (m.length : Int)) = false:=decide_eq_false (by omega)
 have d3 : ((m.length : Int) == 0) = false:=by simp; intro e; subst e; simp at hm0
 have HX:=Lib.hid (And.intro hb (And.intro hf (And.intro hmo hm)))
 have hlen:=a4v b fill (more % 2600)
 have hNl : more % 2600 < 2600:=Nat.mod_lt _ (by decide)
 have HBy:=Lib.hid (a6g hb.by' hf (more % 2600))
 have HM0:=Lib.hid hm0
 clear hb hf hmo hm hm0
 go_enter Tryz.func11,Tryz.ntmps11
 go_wp2_with fail
 refine (a3e w).mono ?_
 rintro e w1 ⟨rfl,hb1⟩
 have HSo:=Lib.hid (a8d A ca b fill more w1 (HX.out.1.below hb1) hl HX.out.2.1 HX.out.2.2.1)
 obtain ⟨x,hx⟩ : ∃ x,x = someL b fill (more % 2600):=⟨_,rfl⟩
 rw [<- hx] at HSo HBy hlen
 rw [<- hlen] at HSo
 have hxl : x.length <= 2660:=by omega
 have HB1:=Lib.hid hb1
 clear hb1 hx hlen hNl
 go_wp2_with fail
 refine HSo.out.mono ?_
 rintro e w2 ⟨A2,c2,rfl,hx2,hb2⟩
 have HE:=a6f A2 c2 x 10 w2 hx2 (by omega) (by decide)
 rw [show ((10 : Nat) : Int) = 10 from rfl] at HE
 have hen:=a6e x 10
 have HEl:=Lib.hid (show (encM x 10).length <= 40000 by have:=a5p (2 ^ 10) x.length x.length; omega)
 have HEb:=Lib.hid (b1c (L:=10) (by decide) HBy.out (by omega))
 have HCt:=Lib.hid (λ j (hj : j < (encM x 10).length)=>d0y (log:=10) HBy.out (by omega) (by decide) hj (Int.le_refl (x.length : Int)))
 have HBh:=Lib.hid (d0z (log:=10) (m:=m) HBy.out (by omega) (by decide) HM0.out (Int.le_refl (x.length : Int)))
 obtain ⟨f,hf⟩ : ∃ f,f = encM x 10:=⟨_,rfl⟩
 rw [<- hf] at HE hen HEl HEb HCt HBh
 have hf0 : ((f.length : Int) == 0) = false:=by simp; intro e; rw [e] at hen; simp at hen
 have hf00 : (f.length : Int) ≠ 0:=by omega
 obtain ⟨j,hj⟩ : ∃ j,j = at' % f.length:=⟨_,rfl⟩
 have hjl : j < f.length:=by rw [hj]; exact Nat.mod_lt _ (by omega)
 have hr1 : (at' : Int).tmod (f.length : Int) = (j : Int):=by rw [Int.tmod_eq_emod_of_nonneg (by omega),hj]; simp
 have hr2 : (at' : Int) % (f.length : Int) = (j : Int):=by rw [hj]; simp
 have hwn : IntKind.i64.wrap (at' : Int) = (at' : Int):=i64_in _ (by omega)
 have hwj : IntKind.i64.wrap (j : Int) = (j : Int):=i64_in _ (by have:=HEl.out; omega)
 have htl : (f.take j).length = j:=by rw [List.length_take]; omega
 have HC1:=Lib.hid (HCt.out j hjl)
 have HE:=Lib.hid HE
 have HJ:=Lib.hid hjl
 have HX2:=Lib.hid (a0h HB1.out hb2)
 clear hx2 hb2 hf hen hj HCt
 go_wp2_with fail
 refine HE.out.mono ?_
 rintro e w3 ⟨A3,c3,rfl,hr3,hb3⟩
 have hf3:=BSl.of hr3 HEb.out
 have hsl:=a2X A3 f.length c3 j (by omega) hf3.cap
 have HD1:=a8g A3 c3 (f.take j) x.length w3 (hf3.cut (by omega)) (by rw [htl]; have:=HEl.out; omega) (by omega)
 rw [HC1.out,htl] at HD1
 have HD1:=Lib.hid HD1
 have HF3:=Lib.hid hf3
 have HB3:=Lib.hid (a0h HX2.out hb3)
 clear hr3 hb3 hf3 htl
 go_wp2_with fail
 refine HD1.out.mono ?_
 rintro e w4 ⟨A4,c4,rfl,hr4,hb4⟩
 have HB4:=Lib.hid (a0h HB3.out hb4)
 have HE0 : Hid ((Kd.int .u8).R 5 (w4.alloc (.cells #[] 5)) w4.heap.size (λ _=>True) (.slice (some ⟨w4.heap.size,0,none⟩) 0 0) []):=a2F .u8 5 w4 w4.heap.size (λ _=>True) trivial (Nat.le_refl _) [] (by decide)
 have HB0 : Hid (Below w4.heap.size w4 (w4.alloc (.cells #[] 5))):=(Below.refl _ _).alloc (Nat.le_refl _) _
 have HRow0 : Hid ((Kd.int .u8).C (w4.alloc (.cells #[] 5)) A3 f.length f):=Kd.C_alloc (HF3.out.below hb4).row _
 have HL1 : Hid (([] : List Int).length + f.length <= 140737488355328):=Lib.hid (by have:=HEl.out; simp; omega)
 have HL2 : Hid (f.length + m.length <= 140737488355328):=Lib.hid (by have:=HEl.out; omega)
 have h0l : (([] : List Int).length : Int) = 0:=rfl
 obtain ⟨fm,hfm⟩ : ∃ fm,fm = f ++ m:=⟨_,rfl⟩
 have HFm:=Lib.hid (And.intro hfm (show f.length + m.length = fm.length by rw [hfm,List.length_append]))
 clear hr4 hb4 hfm
 go_wp2_with (at_builtin; first
  | (refine app8 rfl rfl rfl rfl HE0 HRow0 HB0 HB0.out.size HL1 ?_
     intro A5 c5 w5 hr5 hb5 _
     rw [List.nil_append] at hr5
     have e5 : ([] : List Int).length + f.length = f.length:=by simp
     rw [e5] at hr5 ⊢
     have HO5:=Lib.hid hr5
     have HB5:=Lib.hid hb5
     have HC5:=Lib.hid (Kd.C_below (HX.out.2.2.2.below HB4.out).row hb5)
     clear hr5 hb5 e5)
  | (refine app8 rfl rfl rfl rfl HO5 HC5 HB5 HB5.out.size HL2 ?_
     intro A6 c6 w6 hr6 hb6 _
     rw [HFm.out.2,<- HFm.out.1] at hr6
     rw [HFm.out.2]
     have H6:=Lib.hid (And.intro hr6 hb6)
     clear hr6 hb6))
 have HD2:=a8g A6 c6 fm x.length w6 (BSl.of H6.out.1 (λ z hz=>by rw [HFm.out.1] at hz; exact (List.mem_append.1 hz).elim (HEb.out z) (HX.out.2.2.2.by' z))) (by rw [<- HFm.out.2]; have:=HEl.out; omega) (by omega)
 rw [show a1Q fm x.length = (16,[]) by rw [HFm.out.1]; exact HBh.out] at HD2
 have HD2:=Lib.hid HD2
 refine HD2.out.mono ?_
 rintro e w7 ⟨A7,c7,rfl,hr7,hb7⟩
 have HB7:=Lib.hid (a0h (a0h HB4.out H6.out.2) hb7)
 clear hr7 hb7
 go_wp2_with fail
 go_ret
 exact ⟨rfl,HB7.out⟩
set_option maxRecDepth 100000 in
theorem d0B (A : Option Addr) (ca : Nat) (b : List Int) (fill more at' : Int) (B : Option Addr) (cb : Nat) (m : List Int) (w : World) (hr : (Kd.int .u8).C w A b.length b) (hc : b.length <= ca) (hby : Bytes b) (_ : b.length * 1 <= 140737488351232) (hnil : A = none -> ca = 0) (hf : (Lit.int .u8 fill).wf = true) (hm : (Lit.int .u16 more).wf = true) (hg : (Lit.int .u16 at').wf = true) (hr2 : (Kd.int .u8).C w B m.length m) (hc2 : m.length <= cb) (hby2 : Bytes m) (_ : m.length * 1 <= 140737488351232) (hnil2 : B = none -> cb = 0) :
    Calls Tryz.prog 11 #[.slice A b.length ca,.int .u8 fill,.int .u16 more,.int .u16 at',.slice B m.length cb] w (Ret (.bool true) w):=by
 obtain ⟨k,rfl⟩ : ∃ k : Nat,more = k:=⟨more.toNat,by have:=a2g hm; omega⟩
 obtain ⟨g,rfl⟩ : ∃ k : Nat,at' = k:=⟨at'.toNat,by have:=a2g hg; omega⟩
 have hk:=a2g hm
 have hkg:=a2g hg
 by_cases h1 : b.length <= 60
 · by_cases h2 : m.length <= 60
   · by_cases h3 : 0 < m.length
     · exact d0A A B ca cb b m fill k g w ⟨hr,hc,hnil,hby⟩ ⟨hr2,hc2,hnil2,hby2⟩ h1 h2 h3 (u8_in hf) (by omega) (by omega)
     · have d1 : decide (60 < (b.length : Int)) = false:=decide_eq_false (by omega)
       have d2 : decide (60 < (m.length : Int)) = false:=decide_eq_false (by omega)
       have d3 : ((m.length : Int) == 0) = true:=by rw [List.eq_nil_of_length_eq_zero (show m.length = 0 by omega)]; rfl
       clear h1 h2 h3 hr hc hby hnil hf hm hg hk hkg hr2 hc2 hby2 hnil2
       go_enter Tryz.func11,Tryz.ntmps11
       go_wp2_with fail
       refine (a3e w).mono ?_
       rintro e w1 ⟨rfl,hb1⟩
       have HB1:=Lib.hid hb1
       clear hb1
       go_wp2_with fail
       go_ret
       exact ⟨rfl,HB1.out⟩
   · have d1 : decide (60 < (b.length : Int)) = false:=decide_eq_false (by omega)
     have d2:=a6k h2
     clear h1 h2 hr hc hby hnil hf hm hg hk hkg hr2 hc2 hby2 hnil2
     go_enter Tryz.func11,Tryz.ntmps11
     go_wp2_with fail
     refine (a3e w).mono ?_
     rintro e w1 ⟨rfl,hb1⟩
     have HB1:=Lib.hid hb1
     clear hb1
     go_wp2_with fail
     go_ret
     exact ⟨rfl,HB1.out⟩
 · have d1:=a6k h1
   clear h1 hr hc hby hnil hf hm hg hk hkg hr2 hc2 hby2 hnil2
   go_enter Tryz.func11,Tryz.ntmps11
   go_wp2_with fail
   refine (a3e w).mono ?_
   rintro e w1 ⟨rfl,hb1⟩
   have HB1:=Lib.hid hb1
   clear hb1
   go_wp2_with fail
   go_ret
   exact ⟨rfl,HB1.out⟩
def cutP (x : List Int) (j : Nat) : Nat:=if j < 8 then 0 else cutN (2 ^ 10) x.length x (j - 8)
theorem d0C (x : List Int) (j : Nat) : cutP x j <= x.length:=by
 unfold cutP; split
 · omega
 · exact b7k _ _ _ _
theorem d0D (x : List Int) {i j : Nat} (h : i <= j) : cutP x i <= cutP x j:=by
 unfold cutP; split
 · omega
 · rw [if_neg (by omega)]; exact b7l _ _ _ _ _ (by omega)
theorem d0E (x : List Int) (j : Nat) : cutP x j % 1024 = 0 \/ cutP x j = x.length:=by
 unfold cutP; split
 · exact .inl rfl
 · exact b7m _ _ _ _
set_option maxRecDepth 100000 in
set_option maxHeartbeats 2000000 in
theorem d0F (A : Option Addr) (ca : Nat) (b : List Int) (fill : Int) (more at' th : Nat) (w : World) (hb : BSl w A ca b) (hl : b.length <= 60) (hf : 0 <= fill /\ fill < 256) (hmo : more < 65536) (hat : at' < 65536) (hth : th < 65536) :
    Calls Tryz.prog 13 #[.slice A b.length ca,.int .u8 fill,.int .u16 more,.int .u16 at',.int .u16 th] w (Ret (.bool true) w):=by
 have d1 : decide (60 < (b.length : Int)) = false:=decide_eq_false (by omega)
 have HX:=Lib.hid (And.intro hb (And.intro hf hmo))
 have hlen:=a4v b fill (more % 2600)
 have hNl : more % 2600 < 2600:=Nat.mod_lt _ (by decide)
 have HBy:=Lib.hid (a6g hb.by' hf (more % 2600))
 clear hb hf hmo
 go_enter Tryz.func13,Tryz.ntmps13
 go_wp2_with fail
 refine (a3e w).mono ?_
 rintro e w1 ⟨rfl,hb1⟩
 have HSo:=Lib.hid (a8d A ca b fill more w1 (HX.out.1.below hb1) hl HX.out.2.1 HX.out.2.2)
 obtain ⟨x,hx⟩ : ∃ x,x = someL b fill (more % 2600):=⟨_,rfl⟩
 rw [<- hx] at HSo HBy hlen
 rw [<- hlen] at HSo
 have hxl : x.length <= 2660:=by omega
 have HB1:=Lib.hid hb1
 clear hb1 hx hlen hNl
 go_wp2_with fail
 refine HSo.out.mono ?_
 rintro e w2 ⟨A2,c2,rfl,hx2,hb2⟩
 have HE:=a6f A2 c2 x 10 w2 hx2 (by omega) (by decide)
 rw [show ((10 : Nat) : Int) = 10 from rfl] at HE
 have hen:=a6e x 10
 have HEl:=Lib.hid (b7F x 10 (by omega))
 have HEb:=Lib.hid (b1c (L:=10) (by decide) HBy.out (by omega))
 have HCt : Hid (∀ j,j < (encM x 10).length -> a0C ((encM x 10).take j) x.length = (3,x.take (cutP x j)) /\ sizeM ((encM x 10).take j) x.length = cutP x j):=Lib.hid (λ j hj=>⟨b7u (log:=10) HBy.out (by omega) (by decide) hj (Int.le_refl (x.length : Int)),c8X (log:=10) HBy.out (by omega) (by decide) hj (Int.le_refl (x.length : Int))⟩)
 obtain ⟨f,hf⟩ : ∃ f,f = encM x 10:=⟨_,rfl⟩
 rw [<- hf] at HE hen HEl HEb HCt
 have hf0 : ((f.length : Int) == 0) = false:=by simp; intro e; rw [e] at hen; simp at hen
 have hf00 : (f.length : Int) ≠ 0:=by omega
 have HFl:=HEl.out
 obtain ⟨k,hk⟩ : ∃ k,k = at' % f.length:=⟨_,rfl⟩
 have hkl : k < f.length:=by rw [hk]; exact Nat.mod_lt _ (by omega)
 obtain ⟨d,hd⟩ : ∃ d,d = f.length - k:=⟨_,rfl⟩
 obtain ⟨r,hr⟩ : ∃ r,r = th % d:=⟨_,rfl⟩
 have hrl : r < d:=by rw [hr]; exact Nat.mod_lt _ (by omega)
 obtain ⟨n,hn⟩ : ∃ n,n = k + r:=⟨_,rfl⟩
 have q1 : (at' : Int).tmod (f.length : Int) = (k : Int):=by rw [Int.tmod_eq_emod_of_nonneg (by omega),hk]; simp
 have q2 : (at' : Int) % (f.length : Int) = (k : Int):=by rw [hk]; simp
 have q3 : IntKind.i64.wrap (at' : Int) = (at' : Int):=i64_in _ (by omega)
 have q4 : IntKind.i64.wrap (k : Int) = (k : Int):=i64_in _ (by omega)
 have q5 : IntKind.i64.wrap ((f.length : Int) - (k : Int)) = (d : Int):=by rw [i64_in _ (by omega)]; omega
 have q6 : (th : Int).tmod (d : Int) = (r : Int):=by rw [Int.tmod_eq_emod_of_nonneg (by omega),hr]; simp
 have q7 : (th : Int) % (d : Int) = (r : Int):=by rw [hr]; simp
 have q8 : IntKind.i64.wrap (th : Int) = (th : Int):=i64_in _ (by omega)
 have q9 : IntKind.i64.wrap (r : Int) = (r : Int):=i64_in _ (by omega)
 have q10 : IntKind.i64.wrap ((k : Int) + (r : Int)) = (n : Int):=by rw [i64_in _ (by omega)]; omega
 have q11 : (d : Int) ≠ 0:=by omega
 have q12 : ((d : Int) == 0) = false:=by simp; omega
 have hnl : n < f.length:=by omega
 have ht1 : (f.take k).length = k:=by rw [List.length_take]; omega
 have ht2 : (f.take n).length = n:=by rw [List.length_take]; omega
 obtain ⟨HC1,HZ1⟩:=HCt.out k hkl
 obtain ⟨HC2,-⟩:=HCt.out n hnl
 have hle1:=d0D x (show k <= n by omega)
 have hle2:=d0C x n
 have hwh:=d0E x k
 obtain ⟨u1,hu1⟩ : ∃ u,u = cutP x k:=⟨_,rfl⟩
 obtain ⟨u2,hu2⟩ : ∃ u,u = cutP x n:=⟨_,rfl⟩
 rw [<- hu1] at HC1 HZ1 hle1 hwh
 rw [<- hu2] at HC2 hle1 hle2
 have HE:=Lib.hid HE
 have HC:=Lib.hid (And.intro HC1 (And.intro HC2 (And.intro HZ1 (And.intro ht1 ht2))))
 have HN:=Lib.hid (And.intro hkl (And.intro hnl (And.intro hle1 (And.intro hle2 hwh))))
 have HX2:=Lib.hid hx2
 have HB2:=Lib.hid (a0h HB1.out hb2)
 have hg1 : u1 <= u2:=hle1
 have hg2 : u2 <= x.length:=hle2
 clear hx2 hb2 hf hen hk hd hr hn HCt HC1 HC2 HZ1 hu1 hu2 ht1 ht2 hkl hrl hnl hle1 hle2 hwh
 go_wp2_with fail
 refine HE.out.mono ?_
 rintro e w3 ⟨A3,c3,rfl,hr3,hb3⟩
 have hf3:=BSl.of hr3 HEb.out
 have hs1:=a2X A3 f.length c3 k (by have:=HN.out.1; omega) hf3.cap
 have hs2:=a2X A3 f.length c3 n (by have:=HN.out.2.1; omega) hf3.cap
 have hxt1 : (x.take u1).length = u1:=by rw [List.length_take]; have:=HN.out.2.2; omega
 have hxt2 : (x.take u2).length = u2:=by rw [List.length_take]; have:=HN.out.2.2; omega
 have HP : Hid (∀ W,Below w3.heap.size w3 W -> Calls Tryz.prog 45 #[.slice A3 k c3,.int .i64 (x.length : Int)] W (λ e w'=>∃ A c,e = .returned (.tuple #[.slice A u1 c,.int .i64 3]) /\ (Kd.int .u8).R 5 w' W.heap.size (λ _=>True) (.slice A u1 c) (x.take u1) /\ Below W.heap.size W w')):=Lib.hid (λ W hW=>by
  have h:=a8e A3 c3 (f.take k) x.length W ((hf3.below hW).cut (by have:=HN.out.1; omega)) (by rw [HC.out.2.2.2.1]; have:=HEl.out; have:=HN.out.1; omega) (by omega)
  rw [HC.out.1,HC.out.2.2.2.1] at h
  unfold Told at h
  rw [hxt1] at h
  exact h)
 have HQ : Hid (∀ W,Below w3.heap.size w3 W -> Calls Tryz.prog 45 #[.slice A3 n c3,.int .i64 (x.length : Int)] W (λ e w'=>∃ A c,e = .returned (.tuple #[.slice A u2 c,.int .i64 3]) /\ (Kd.int .u8).R 5 w' W.heap.size (λ _=>True) (.slice A u2 c) (x.take u2) /\ Below W.heap.size W w')):=Lib.hid (λ W hW=>by
  have h:=a8e A3 c3 (f.take n) x.length W ((hf3.below hW).cut (by have:=HN.out.2.1; omega)) (by rw [HC.out.2.2.2.2]; have:=HEl.out; have:=HN.out.2.1; omega) (by omega)
  rw [HC.out.2.1,HC.out.2.2.2.2] at h
  unfold Told at h
  rw [hxt2] at h
  exact h)
 have HSz : Hid (∀ W,Below w3.heap.size w3 W -> Calls Tryz.prog 48 #[.slice A3 k c3,.int .i64 (x.length : Int)] W (λ e w'=>e = .returned (.int .i64 (u1 : Int)) /\ Below W.heap.size W w')):=Lib.hid (λ W hW=>by
  have h:=b1f A3 c3 (f.take k) x.length W ((hf3.below hW).cut (by have:=HN.out.1; omega)) (by rw [HC.out.2.2.2.1]; have:=HEl.out; have:=HN.out.1; omega) (by omega)
  rw [HC.out.2.2.1,HC.out.2.2.2.1] at h
  exact h)
 have HX3:=Lib.hid (HX2.out.below hb3)
 have hs3:=a2X A2 x.length c2 u1 (by have:=HN.out.2.2; omega) HX2.out.cap
 have hs4:=a2X A2 x.length c2 u2 (by have:=HN.out.2.2; omega) HX2.out.cap
 have HT:=Lib.hid (And.intro hxt1 hxt2)
 have HB3:=Lib.hid (a0h HB2.out hb3)
 clear hr3 hb3 hf3 hxt1 hxt2
 go_wp2_with fail
 refine (HP.out w3 (Below.refl _ _)).mono ?_
 rintro e w4 ⟨A4,c4,rfl,hr4,hb4⟩
 have H4:=Lib.hid (And.intro hr4 hb4)
 clear hr4 hb4
 go_wp2_with fail
 refine (HQ.out w4 H4.out.2).mono ?_
 rintro e w5 ⟨A5,c5,rfl,hr5,hb5⟩
 have hb35:=a0h H4.out.2 hb5
 have hxt1:=(HX3.out.below hb35).cut (k:=u1) (by have:=HN.out.2.2; omega)
 have hxt2:=(HX3.out.below hb35).cut (k:=u2) (by have:=HN.out.2.2; omega)
 have HS1:=a5c A4 A2 c4 c2 (x.take u1) w5 (Kd.R_reads' (Kd.R_below H4.out.1 hb5)).2.2 hxt1.row hxt1.by'
 have HS2:=a5c A5 A2 c5 c2 (x.take u2) w5 (Kd.R_reads' hr5).2.2 hxt2.row hxt2.by'
 rw [HT.out.1] at HS1
 rw [HT.out.2] at HS2
 have HS1:=Lib.hid HS1
 have HS2:=Lib.hid HS2
 have HZ:=Lib.hid (HSz.out w5 hb35)
 have H5:=Lib.hid hb35
 obtain ⟨r,hr⟩ : ∃ r,r = u1 % 1024:=⟨_,rfl⟩
 have p1 : (u1 : Int).tmod 1024 = (r : Int):=by rw [Int.tmod_eq_emod_of_nonneg (by omega),hr]; simp
 have p2 : (u1 : Int) % 1024 = (r : Int):=by rw [hr]; simp
 have p3 : IntKind.i64.wrap (r : Int) = (r : Int):=i64_in _ (by omega)
 have hc : r = 0 \/ (r ≠ 0 /\ u1 = x.length):=by have:=HN.out.2.2.2.2; omega
 clear hr5 hb5 hb35 hxt1 hxt2 hr
 rcases hc with hc | ⟨hc,hc2⟩
 · have p4 : ((r : Int) == 0) = true:=by simp; exact hc
   clear hc
   go_wp2_with fail
   refine HS1.out.mono ?_
   rintro e w6 ⟨rfl,rfl⟩
   go_wp2_with fail
   refine HS2.out.mono ?_
   rintro e w6 ⟨rfl,rfl⟩
   go_wp2_with fail
   refine HZ.out.mono ?_
   rintro e w6 ⟨rfl,hb6⟩
   have HB6:=Lib.hid (a0h (a0h HB3.out H5.out) hb6)
   clear hb6
   go_wp2_with fail
   go_ret
   exact ⟨rfl,HB6.out⟩
 · have p4 : ((r : Int) == 0) = false:=by simp; exact hc
   have p5 : ((u1 : Int) == (x.length : Int)) = true:=by rw [hc2]; simp
   have p6 : (u1 == x.length) = true:=by rw [hc2]; simp
   have p7 : decide (u1 = x.length) = true:=decide_eq_true hc2
   clear hc hc2
   go_wp2_with fail
   refine HS1.out.mono ?_
   rintro e w6 ⟨rfl,rfl⟩
   go_wp2_with fail
   refine HS2.out.mono ?_
   rintro e w6 ⟨rfl,rfl⟩
   go_wp2_with fail
   refine HZ.out.mono ?_
   rintro e w6 ⟨rfl,hb6⟩
   have HB6:=Lib.hid (a0h (a0h HB3.out H5.out) hb6)
   clear hb6
   go_wp2_with fail
   go_ret
   exact ⟨rfl,HB6.out⟩
set_option maxRecDepth 100000 in
theorem d0G (A : Option Addr) (ca : Nat) (b : List Int) (fill more at' th : Int) (w : World) (hr : (Kd.int .u8).C w A b.length b) (hc : b.length <= ca) (hby : Bytes b) (_ : b.length * 1 <= 140737488351232) (hnil : A = none -> ca = 0) (hf : (Lit.int .u8 fill).wf = true) (hm : (Lit.int .u16 more).wf = true) (hg : (Lit.int .u16 at').wf = true) (hi : (Lit.int .u16 th).wf = true) :
    Calls Tryz.prog 13 #[.slice A b.length ca,.int .u8 fill,.int .u16 more,.int .u16 at',.int .u16 th] w (Ret (.bool true) w):=by
 obtain ⟨k,rfl⟩ : ∃ k : Nat,more = k:=⟨more.toNat,by have:=a2g hm; omega⟩
 obtain ⟨g,rfl⟩ : ∃ k : Nat,at' = k:=⟨at'.toNat,by have:=a2g hg; omega⟩
 obtain ⟨t,rfl⟩ : ∃ k : Nat,th = k:=⟨th.toNat,by have:=a2g hi; omega⟩
 have hk:=a2g hm
 have hkg:=a2g hg
 have hkt:=a2g hi
 by_cases h1 : b.length <= 60
 · exact d0F A ca b fill k g t w ⟨hr,hc,hnil,hby⟩ h1 (u8_in hf) (by omega) (by omega) (by omega)
 · have d1:=a6k h1
   clear h1 hr hc hby hnil hf hm hg hk hkg hi hkt
   go_enter Tryz.func13,Tryz.ntmps13
   go_wp2_with fail
   refine (a3e w).mono ?_
   rintro e w1 ⟨rfl,hb1⟩
   have HB1:=Lib.hid hb1
   clear hb1
   go_wp2_with fail
   go_ret
   exact ⟨rfl,HB1.out⟩
end Go.Proofs.YtflfjpkmjnnodaaGreat
