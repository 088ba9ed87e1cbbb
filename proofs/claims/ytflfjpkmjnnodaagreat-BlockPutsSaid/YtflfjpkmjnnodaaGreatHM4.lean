/- Plain: what the printed references of counts answer (right, total, log). -/
import Derived.Test.YtflfjpkmjnnodaaGreatHS1
import Derived.Test.YtflfjpkmjnnodaaGreatHM1
import Derived.Test.YtflfjpkmjnnodaaGreatHR1
import Derived.Test.YtflfjpkmjnnodaaGreatHR2
import Derived.Test.YtflfjpkmjnnodaaGreatHM0
import Derived.Test.YtflfjpkmjnnodaaGreatHM2
import Derived.Deep.LoopGhost
import Derived.Laws.Rows
import Derived.Deep.DeepCutAuto
import Derived.Deep.RegionHeld3
import Derived.BigQuiet
import Derived.Laws.BitsAllLaws
namespace Go.Proofs.YtflfjpkmjnnodaaGreat
open Go.RowKit Go.Proofs.YtflfjpkmjnnodaaGreat.PRef Go.Proofs.YtflfjpkmjnnodaaGreatW.PrintWords Go.Proofs.YtflfjpkmjnnodaaGreatW.PrintLast Go.Proofs.YtflfjpkmjnnodaaGreatW.PrintMore
theorem a0F (xs : List Int) (i : Nat) : rd xs (i : Int) = xs.getD i 0:=rfl
theorem wS (i : Nat) (h : i <= 1000000000) : wrap64 ((i : Int) + 1) = ((i + 1 : Nat) : Int):=by rw [w64 (by omega)]; simp
theorem c2N {c : List Int} {i : Nat} (h : i < c.length) {P : Int -> Prop} (h1 : ∀ x ∈ c.take i,P x) (h2 : P (c.getD i 0)) : ∀ x ∈ c.take (i + 1),P x:=by
 intro x hx
 rw [List.take_succ_eq_append_getElem h] at hx
 rcases List.mem_append.1 hx with hx | hx
 · exact h1 x hx
 · rw [List.mem_singleton.1 hx]
   rw [List.getD_eq_getElem?_getD,List.getElem?_eq_getElem h] at h2; exact h2
theorem a2h {c : List Int} {i : Nat} (h : i < c.length) : c.getD i 0 ∈ c:=by
 rw [List.getD_eq_getElem?_getD,List.getElem?_eq_getElem h]; exact List.getElem_mem h
theorem c2O (c : List Int) (hl : c.length = 256) : ∀ (d i : Nat) (s : Int),i + d = 256 -> i <= 256 -> s = (c.take i).sum -> (∀ x ∈ c.take i,0 <= x /\ x <= 1073741824) -> 0 <= s -> s <= i * 1073741824 ->
    Ev (λ k=>puncheonref05_Right.l0 k c s (i : Int)) (a0P c):=by
 intro d
 induction d with
 | zero=>
  intro i s hd hi hs ha h0 h1
  refine Ev.step (λ k=>(show puncheonref05_Right.l0 (k + 1) c s (i : Int) = _ by simp only [puncheonref05_Right.l0]; rw [if_neg (by omega)])) ?_
  rw [List.take_of_length_le (by omega)] at hs ha
  have e : a0P c = decide (s <= 1073741824):=by
   unfold a0P; rw [hs]; exact decide_eq_decide.2 ⟨λ h=>h.2.2,λ h=>⟨hl,λ x hx=>(ha x hx).1,h⟩⟩
  rw [e]; exact Ev.now _
 | succ d ih=>
  intro i s hd hi hs ha h0 h1
  have hlt : i < c.length:=by omega
  have hts:=a4a hlt
  by_cases hn : c.getD i 0 < 0
  · refine Ev.step (λ k=>(show puncheonref05_Right.l0 (k + 1) c s (i : Int) = _ by simp only [puncheonref05_Right.l0]; rw [if_pos (by omega),if_pos (by omega),if_pos (by omega),a0F,if_pos hn])) ?_
    have e : a0P c = false:=by
     rw [<- Bool.not_eq_true,rightC_iff]; intro h
     have:=h.2.1 _ (a2h hlt); omega
    rw [e]; exact Ev.now _
  · by_cases hb : c.getD i 0 > 1073741824
    · refine Ev.step (λ k=>(show puncheonref05_Right.l0 (k + 1) c s (i : Int) = _ by simp only [puncheonref05_Right.l0]; rw [if_pos (by omega),if_pos (by omega),if_pos (by omega),a0F,if_neg hn,if_pos hb])) ?_
      have e : a0P c = false:=by
       rw [<- Bool.not_eq_true,rightC_iff]; intro h
       have:=a6l h.2.1 (a2h hlt); omega
      rw [e]; exact Ev.now _
    · refine Ev.step (λ k=>(show puncheonref05_Right.l0 (k + 1) c s (i : Int) = _ by simp only [puncheonref05_Right.l0]; rw [if_pos (by omega),if_pos (by omega),if_pos (by omega),a0F,if_neg hn,if_neg hb,wS i (by omega),w64 (n:=s + c.getD i 0) (by omega)])) ?_
      exact ih (i + 1) _ (by omega) (by omega) (by rw [hts,hs]) (c2N hlt ha (by omega)) (by omega) (by omega)
theorem b4l (c : List Int) : Ev (λ k=>puncheonref05_Right.f k c) (a0P c):=by
 by_cases hl : c.length = 256
 · refine Ev.congr (λ k=>(show puncheonref05_Right.f k c = _ by unfold puncheonref05_Right.f; rw [if_pos (by omega)])) ?_
   exact c2O c hl 256 0 0 (by omega) (by omega) (by simp) (by simp) (by omega) (by omega)
 · refine Ev.congr (λ k=>(show puncheonref05_Right.f k c = _ by unfold puncheonref05_Right.f; rw [if_neg (by omega)])) ?_
   have e : a0P c = false:=by rw [<- Bool.not_eq_true,rightC_iff]; exact λ h=>hl h.1
   rw [e]; exact Ev.now _
theorem b4m (c : List Int) (hr : a0P c = true) : ∀ (d i : Nat) (s : Int),c.length - i = d -> i <= c.length -> s = (c.take i).sum -> Ev (λ k=>puncheonref05_Total.l0 k c s true (i : Int)) c.sum
 | 0,i,s,hd,hi,hs=>by
  refine Ev.step (λ k=>(show puncheonref05_Total.l0 (k + 1) c s true (i : Int) = _ by simp only [puncheonref05_Total.l0]; rw [if_neg (by omega)])) ?_
  rw [List.take_of_length_le (by omega)] at hs
  rw [<- hs]; exact Ev.now _
 | d + 1,i,s,hd,hi,hs=>by
  have hlt : i < c.length:=by omega
  have hts:=a4a hlt
  have hR:=rightC_iff.1 hr
  have h1:=a8r hR.2.1 (i + 1)
  have h2 : 0 <= (c.take (i + 1)).sum:=a2I (λ x hx=>hR.2.1 x (List.mem_of_mem_take hx))
  refine Ev.step (λ k=>(show puncheonref05_Total.l0 (k + 1) c s true (i : Int) = _ by simp only [puncheonref05_Total.l0]; rw [if_pos (by omega),if_pos trivial,if_pos (by omega),a0F,wS i (by omega),w64 (n:=s + c.getD i 0) (by omega)])) ?_
  exact b4m c hr d (i + 1) _ (by omega) (by omega) (by rw [hts,hs])
theorem b4n (c : List Int) : Ev (λ k=>puncheonref05_Total.f k c) (a1b c):=by
 unfold puncheonref05_Total.f
 refine Ev.bind (b4l c) ?_
 unfold a1b
 cases hr : a0P c with
 | true=>rw [if_pos rfl]; exact b4m c hr _ 0 0 rfl (by omega) (by simp)
 | false=>
  rw [if_neg (by decide)]
  refine Ev.step (λ k=>(show puncheonref05_Total.l0 (k + 1) c 0 false 0 = some 0 by simp only [puncheonref05_Total.l0]; split <;> simp)) (Ev.now _)
theorem b4o (r : Nat) (hr : r <= 30) : ∀ (d i : Nat),r - i = d -> i <= r -> Ev (λ k=>puncheonref08_power.l0 k (r : Int) ((2 ^ i : Nat) : Int) (i : Int)) ((2 ^ r : Nat) : Int)
 | 0,i,hd,hi=>by
  obtain rfl : i = r:=by omega
  exact Ev.step (λ k=>(show puncheonref08_power.l0 (k + 1) (i : Int) _ (i : Int) = _ by simp only [puncheonref08_power.l0]; rw [if_neg (by omega)])) (Ev.now _)
 | d + 1,i,hd,hi=>by
  have hp : 2 ^ (i + 1) <= 2 ^ 30:=Nat.pow_le_pow_right (by omega) (by omega)
  have e : (2 : Int) * ((2 ^ i : Nat) : Int) = ((2 ^ (i + 1) : Nat) : Int):=by rw [Nat.pow_succ]; omega
  have e2 : wrap64 ((2 ^ (i + 1) : Nat) : Int) = ((2 ^ (i + 1) : Nat) : Int):=by
   generalize 2 ^ (i + 1) = P at hp ⊢
   exact w64 (by omega)
  refine Ev.step (λ k=>(show puncheonref08_power.l0 (k + 1) (r : Int) _ (i : Int) = _ by simp only [puncheonref08_power.l0]; rw [if_pos (by omega),wS i (by omega),e,e2])) ?_
  exact b4o r hr d (i + 1) (by omega) (by omega)
theorem b4p (r : Nat) (hr : r <= 30) : Ev (λ k=>puncheonref08_power.f k (r : Int)) ((2 ^ r : Nat) : Int):=by
 unfold puncheonref08_power.f; exact b4o r hr r 0 (by omega) (by omega)
theorem b4q (t : Int) : ∀ (d i : Nat),i + d = 13 -> 1 <= i -> i <= 13 -> (∀ r,1 <= r -> r < i -> t ≠ 2 ^ r) -> Ev (λ k=>puncheonref08_Log.l0 k t (i : Int)) ((logT t : Nat) : Int)
 | 0,i,hd,h1,hi,hn=>by
  obtain rfl : i = 13:=by omega
  rw [b2J (λ r a b=>hn r a (by omega))]
  exact Ev.step (λ k=>(show puncheonref08_Log.l0 (k + 1) t ((13 : Nat) : Int) = _ by simp only [puncheonref08_Log.l0]; rw [if_neg (by decide)]; rfl)) (Ev.now _)
 | d + 1,i,hd,h1,hi,hn=>by
  refine Ev.step (λ k=>(show puncheonref08_Log.l0 (k + 1) t (i : Int) = _ by simp only [puncheonref08_Log.l0]; rw [if_pos (by omega)])) ?_
  refine Ev.bind (b4p i (by omega)) ?_
  have e : ((2 ^ i : Nat) : Int) = 2 ^ i:=by simp
  by_cases ht : t = 2 ^ i
  · refine Ev.congr (λ k=>if_pos (by rw [e]; exact ht)) ?_
    rw [a6w h1 (by omega) ht]; exact Ev.now _
  · refine Ev.congr (λ k=>(if_neg (by rw [e]; exact ht)).trans (by rw [wS i (by omega)])) ?_
    refine b4q t d (i + 1) (by omega) (by omega) (by omega) (λ r a b=>?_)
    by_cases hri : r = i
    · rw [hri]; exact ht
    · exact hn r a (by omega)
theorem a7e (c : List Int) : Ev (λ k=>puncheonref08_Log.f k c) ((logC c : Nat) : Int):=by
 unfold puncheonref08_Log.f
 exact Ev.bind (b4n c) (b4q _ 12 1 (by omega) (by omega) (by omega) (λ r a b=>by omega))
def mapR (f : Nat -> Int) : List Int:=(List.range 256).map f
theorem a1z (f : Nat -> Int) : (mapR f).length = 256:=by simp [mapR]
theorem a4h (f : Nat -> Int) {v : Nat} (h : v < 256) : (mapR f).getD v 0 = f v:=by
 unfold mapR; rw [List.getD_eq_getElem?_getD,List.getElem?_map,List.getElem?_range h]; rfl
theorem a3j {f g : Nat -> Int} (h : ∀ v,v < 256 -> f v = g v) : mapR f = mapR g:=by
 unfold mapR; exact List.map_congr_left (λ v hv=>h v (List.mem_range.1 hv))
theorem a7f (f : Nat -> Int) {v : Nat} (_ : v < 256) (y : Int) : (mapR f).set v y = mapR (λ u=>if u = v then y else f u):=by
 apply List.ext_getElem
 · simp [mapR]
 · intro i h1 h2
   rw [List.getElem_set]
   simp only [mapR,List.getElem_map,List.getElem_range]
   by_cases e : v = i
   · rw [if_pos e,if_pos e.symm]
   · rw [if_neg e,if_neg (λ x=>e x.symm)]
theorem a7g {f : Nat -> Int} {x : Int} (h : x ∈ mapR f) : ∃ v,v < 256 /\ x = f v:=by
 unfold mapR at h
 obtain ⟨v,hv,rfl⟩:=List.mem_map.1 h
 exact ⟨v,List.mem_range.1 hv,rfl⟩
def histL (b : List Int) : List Int:=mapR (λ v=>(b.count (v : Int) : Int))
theorem b4r (b : List Int) (i : Nat) (h : i < b.length) (v : Int) : (b.take (i + 1)).count v = (b.take i).count v + (if b.getD i 0 = v then 1 else 0):=by
 rw [List.take_succ_eq_append_getElem h,List.count_append,List.getD_eq_getElem?_getD,List.getElem?_eq_getElem h,Option.getD_some,List.count_singleton]
 congr 1
 by_cases e : b[i] = v
 · simp [e]
 · simp [e]
def ofAt (b : List Int) (v i : Nat) : List Int:=mapR (λ u=>if u < v then (b.count (u : Int) : Int) else if u = v then ((b.take i).count (v : Int) : Int) else 0)
theorem c2P (b : List Int) (hb : Bytes b) (hl : b.length <= 1000000) (v : Nat) (hv : v < 256) (R : List Int) (hn : Ev (λ k=>puncheonref05_Of.l0 k b (ofAt b (v + 1) 0) ((v + 1 : Nat) : Int)) R) : ∀ (d i : Nat),i + d = b.length -> Ev (λ k=>puncheonref05_Of.l1 k b (ofAt b v i) (v : Int) (i : Int)) R:=by
 intro d
 induction d with
 | zero=>
  intro i hi
  obtain rfl : i = b.length:=by omega
  refine Ev.step (λ k=>(show puncheonref05_Of.l1 (k + 1) b _ (v : Int) (b.length : Int) = _ by simp only [puncheonref05_Of.l1]; rw [if_neg (by omega),wS v (by omega)])) ?_
  have e : ofAt b v b.length = ofAt b (v + 1) 0:=by
   unfold ofAt
   refine a3j (λ u _=>?_)
   rw [List.take_length]
   by_cases h1 : u < v
   · rw [if_pos h1,if_pos (by omega)]
   · by_cases h2 : u = v
     · rw [if_neg h1,if_pos h2,if_pos (by omega),h2]
     · rw [if_neg h1,if_neg h2,if_neg (by omega)]; split <;> simp
  rw [e]; exact hn
 | succ d ih=>
  intro i hi
  have hlt : i < b.length:=by omega
  have hg:=hb.get i
  have hw : wrap64 (b.getD i 0) = b.getD i 0:=w64 (by omega)
  by_cases e : b.getD i 0 = v
  · have hc : (b.take i).count (v : Int) <= 1000000:=by
      have:=List.count_le_length (a:=(v : Int)) (l:=b.take i); rw [List.length_take] at this; omega
    have hget : rd (ofAt b v i) (v : Int) = ((b.take i).count (v : Int) : Int):=by
     rw [a0F]; unfold ofAt; rw [a4h _ hv,if_neg (by omega),if_pos rfl]
    refine Ev.step (λ k=>(show puncheonref05_Of.l1 (k + 1) b _ (v : Int) (i : Int) = _ by simp only [puncheonref05_Of.l1]; rw [if_pos (by omega),if_pos (by omega),a0F,hw,if_pos e,if_pos (by omega),if_pos (by unfold ofAt; rw [a1z]; omega),hget,wS i (by omega),w64 (n:=((b.take i).count (v : Int) : Int) + 1) (by omega),Int.toNat_natCast])) ?_
    have e2 : (ofAt b v i).set v (((b.take i).count (v : Int) : Int) + 1) = ofAt b v (i + 1):=by
     unfold ofAt
     rw [a7f _ hv]
     refine a3j (λ u _=>?_)
     by_cases h2 : u = v
     · subst h2
       rw [if_pos rfl,if_neg (by omega),if_pos rfl,b4r b i hlt,if_pos e]; simp
     · rw [if_neg h2]
       split
       · rfl
       · first | rfl | rw [if_neg h2,if_neg h2]
    rw [e2]; exact ih (i + 1) (by omega)
  · refine Ev.step (λ k=>(show puncheonref05_Of.l1 (k + 1) b _ (v : Int) (i : Int) = _ by simp only [puncheonref05_Of.l1]; rw [if_pos (by omega),if_pos (by omega),a0F,hw,if_neg e,wS i (by omega)])) ?_
    have e2 : ofAt b v i = ofAt b v (i + 1):=by
     unfold ofAt
     refine a3j (λ u _=>?_)
     rw [b4r b i hlt,if_neg e]; rfl
    rw [e2]; exact ih (i + 1) (by omega)
theorem c2Q (b : List Int) (hb : Bytes b) (hl : b.length <= 1000000) : ∀ (d v : Nat),v + d = 256 -> Ev (λ k=>puncheonref05_Of.l0 k b (ofAt b v 0) (v : Int)) (histL b):=by
 intro d
 induction d with
 | zero=>
  intro v hv
  refine Ev.step (λ k=>(show puncheonref05_Of.l0 (k + 1) b _ (v : Int) = _ by simp only [puncheonref05_Of.l0]; rw [if_neg (by omega)])) ?_
  have e : ofAt b v 0 = histL b:=by
   unfold ofAt histL
   exact a3j (λ u hu=>by rw [if_pos (by omega)])
  rw [e]; exact Ev.now _
 | succ d ih=>
  intro v hv
  refine Ev.step (λ k=>(show puncheonref05_Of.l0 (k + 1) b _ (v : Int) = _ by simp only [puncheonref05_Of.l0]; rw [if_pos (by omega)])) ?_
  exact c2P b hb hl v (by omega) _ (ih (v + 1) (by omega)) b.length 0 (by omega)
theorem c2R (b : List Int) (hb : Bytes b) (hl : b.length <= 1000000) : Ev (λ k=>puncheonref05_Of.f k b) (histL b):=by
 refine Ev.congr (λ k=>(show puncheonref05_Of.f k b = _ by unfold puncheonref05_Of.f; rw [if_pos (by decide)])) ?_
 have e : List.replicate 256 (0 : Int) = ofAt b 0 0:=by
  unfold ofAt mapR
  rw [<- List.length_range (n:=256),<- List.map_const',List.length_range]
  exact List.map_congr_left (λ u _=>by rw [if_neg (by omega)]; split <;> simp)
 rw [e]; exact c2Q b hb hl 256 0 (by omega)
def posC (c : List Int) (k : Nat) : Nat:=(c.take k).countP (λ x=>decide (0 < x))
def manyC (c : List Int) : Nat:=if a0P c then c.countP (λ x=>decide (0 < x)) else 0
theorem a7h (c : List Int) (i : Nat) (h : i < c.length) : posC c (i + 1) = posC c i + (if 0 < c.getD i 0 then 1 else 0):=by
 unfold posC
 rw [List.take_succ_eq_append_getElem h,List.countP_append,List.getD_eq_getElem?_getD,List.getElem?_eq_getElem h,Option.getD_some]
 congr 1
 by_cases e : 0 < c[i] <;> simp [e]
theorem c2S (c : List Int) (i : Nat) : posC c i <= i:=by
 unfold posC; have:=List.countP_le_length (p:=λ x=>decide (0 < x)) (l:=c.take i); rw [List.length_take] at this; omega
theorem c2T (c : List Int) (hl : c.length <= 1000000) : ∀ (d i : Nat),i + d = c.length -> Ev (λ k=>puncheonref05_Many.l0 k c (posC c i : Int) true (i : Int)) ((c.countP (λ x=>decide (0 < x)) : Nat) : Int):=by
 intro d
 induction d with
 | zero=>
  intro i hi
  refine Ev.step (λ k=>(show puncheonref05_Many.l0 (k + 1) c _ true (i : Int) = _ by simp only [puncheonref05_Many.l0]; rw [if_neg (by omega)])) ?_
  refine Ev.step (λ k=>(show puncheonref05_Many.j1 (k + 1) c _ true (i : Int) false = _ by simp only [puncheonref05_Many.j1]; rw [if_neg (by decide)])) ?_
  have e : posC c i = c.countP (λ x=>decide (0 < x)):=by unfold posC; rw [List.take_of_length_le (by omega)]
  rw [e]; exact Ev.now _
 | succ d ih=>
  intro i hi
  have hlt : i < c.length:=by omega
  have hs:=a7h c i hlt
  have hle:=c2S c i
  refine Ev.step (λ k=>(show puncheonref05_Many.l0 (k + 1) c _ true (i : Int) = _ by simp only [puncheonref05_Many.l0]; rw [if_pos (by omega)])) ?_
  by_cases e : c.getD i 0 > 0
  · refine Ev.step (λ k=>(show puncheonref05_Many.j1 (k + 1) c _ true (i : Int) true = _ by simp only [puncheonref05_Many.j1]; rw [if_pos trivial,if_pos (by omega),if_pos (by omega),a0F,if_pos e,wS i (by omega),wS (posC c i) (by omega)])) ?_
    rw [if_pos (by omega)] at hs
    rw [<- hs]; exact ih (i + 1) (by omega)
  · refine Ev.step (λ k=>(show puncheonref05_Many.j1 (k + 1) c _ true (i : Int) true = _ by simp only [puncheonref05_Many.j1]; rw [if_pos trivial,if_pos (by omega),if_pos (by omega),a0F,if_neg e,wS i (by omega)])) ?_
    rw [if_neg (by omega)] at hs
    have:=ih (i + 1) (by omega)
    rw [hs] at this; exact this
theorem b4s (c : List Int) (hl : c.length <= 1000000) : Ev (λ k=>puncheonref05_Many.f k c) ((manyC c : Nat) : Int):=by
 unfold puncheonref05_Many.f
 refine Ev.bind (b4l c) ?_
 unfold manyC
 cases hr : a0P c with
 | true=>rw [if_pos rfl]; exact c2T c hl c.length 0 (by omega)
 | false=>
  rw [if_neg (by decide)]
  by_cases h : (0 : Int) < (c.length : Int)
  · refine Ev.step (λ k=>(show puncheonref05_Many.l0 (k + 1) c 0 false 0 = _ by simp only [puncheonref05_Many.l0]; rw [if_pos h])) ?_
    exact Ev.step (λ k=>(show puncheonref05_Many.j1 (k + 1) c 0 false 0 false = some 0 by simp [puncheonref05_Many.j1])) (Ev.now _)
  · refine Ev.step (λ k=>(show puncheonref05_Many.l0 (k + 1) c 0 false 0 = _ by simp only [puncheonref05_Many.l0]; rw [if_neg h])) ?_
    exact Ev.step (λ k=>(show puncheonref05_Many.j1 (k + 1) c 0 false 0 false = some 0 by simp [puncheonref05_Many.j1])) (Ev.now _)
theorem a9j (b : List Int) (hb : Bytes b) (hl : b.length <= 1000000) (i : Int) : puncheonref06_At.f b i = some (ctxI b i):=by
 unfold puncheonref06_At.f ctxI
 by_cases h1 : i < 0
 · rw [if_pos h1,if_pos (.inl h1)]
 · by_cases h2 : i >= (b.length : Int)
   · rw [if_neg h1,if_pos h2,if_pos (.inr h2)]
   · rw [if_neg h1,if_neg h2,if_neg (by omega)]
     simp only [Option.bind_some]
     rw [if_pos (by simp; omega),if_pos (by omega),if_pos (by simp; omega)]
     have hw : ∀ x : Int,0 <= x /\ x < 256 -> wrap64 x = x:=λ x hx=>w64 (by omega)
     by_cases h3 : i = 0
     · subst h3; rw [if_pos rfl]; exact congrArg some (hw 0 (by decide))
     · rw [if_neg h3]
       have e : rd ([0] ++ b) i = b.getD (i - 1).toNat 0:=by
        unfold rd
        rw [show i.toNat = (i - 1).toNat + 1 by omega]; rfl
       rw [e,hw _ (hb.get _)]
def pkL (b : List Int) (c : Int) (k : Nat) : List Int:=((List.range k).filter (λ j=>decide (ctxI b (j : Nat) = c))).map (λ j=>b.getD j 0)
def a0o (b : List Int) (c : Int) : List Int:=pkL b c b.length
theorem a7i {b : List Int} {c : Int} {k : Nat} (h : ctxI b (k : Nat) = c) : pkL b c (k + 1) = pkL b c k ++ [b.getD k 0]:=by
 unfold pkL; rw [List.range_succ,List.filter_append,List.map_append]; congr 1
 simp only [List.filter_cons,List.filter_nil,h,decide_true]; rfl
theorem a7j {b : List Int} {c : Int} {k : Nat} (h : ctxI b (k : Nat) ≠ c) : pkL b c (k + 1) = pkL b c k:=by
 unfold pkL; rw [List.range_succ,List.filter_append,List.map_append]
 simp only [List.filter_cons,List.filter_nil,h,decide_false]; simp
theorem a4i (b : List Int) (c : Int) (k : Nat) : (pkL b c k).length <= k:=by
 unfold pkL; rw [List.length_map]; exact Nat.le_trans (List.length_filter_le _ _) (by simp)
theorem b4t {b : List Int} (hb : Bytes b) (c : Int) (k : Nat) : Bytes (pkL b c k):=by
 intro x hx
 unfold pkL at hx
 obtain ⟨j,_,rfl⟩:=List.mem_map.1 hx
 exact hb.get j
theorem b4u (l : List Int) {y : Nat} (hy : y < 256) : histL (l ++ [(y : Int)]) = (histL l).set y ((l.count (y : Int) : Int) + 1):=by
 unfold histL
 rw [a7f _ hy]
 refine a3j (λ u _=>?_)
 rw [List.count_append,List.count_singleton]
 by_cases e : u = y
 · subst e; rw [if_pos rfl]; simp
 · rw [if_neg e]
   have : ¬ (y : Int) = (u : Int):=by omega
   simp [this]
theorem a5A (l : List Int) {y : Nat} (hy : y < 256) : (histL l).getD y 0 = (l.count (y : Int) : Int):=by unfold histL; rw [a4h _ hy]
theorem c2U (b : List Int) (hb : Bytes b) (hl : b.length <= 1000000) (c : Int) : ∀ (d i : Nat),i + d = b.length -> Ev (λ k=>puncheonref06_For.l0 k b c (histL (pkL b c i)) (i : Int)) (histL (a0o b c)):=by
 intro d
 induction d with
 | zero=>
  intro i hi
  obtain rfl : i = b.length:=by omega
  refine Ev.step (λ k=>(show puncheonref06_For.l0 (k + 1) b c _ (b.length : Int) = _ by simp only [puncheonref06_For.l0]; rw [if_neg (by omega)])) ?_
  exact Ev.now _
 | succ d ih=>
  intro i hi
  have hlt : i < b.length:=by omega
  have hg:=hb.get i
  obtain ⟨y,hy⟩ : ∃ y : Nat,b.getD i 0 = y:=⟨(b.getD i 0).toNat,by omega⟩
  have hy2 : y < 256:=by omega
  refine Ev.step (λ k=>(show puncheonref06_For.l0 (k + 1) b c _ (i : Int) = _ by simp only [puncheonref06_For.l0]; rw [if_pos (by omega),a9j b hb hl,Option.bind_some])) ?_
  by_cases e : ctxI b (i : Nat) = c
  · have hc : (pkL b c i).count (y : Int) <= 1000000:=by
      have:=List.count_le_length (a:=(y : Int)) (l:=pkL b c i); have:=a4i b c i; omega
    refine Ev.congr (λ k=>(show _ = _ by rw [if_pos e,if_pos (by omega),a0F,hy,if_pos (by omega),if_pos (by unfold histL; rw [a1z]; omega),a0F,a5A _ hy2,w64 (n:=((pkL b c i).count (y : Int) : Int) + 1) (by omega),wS i (by omega),Int.toNat_natCast])) ?_
    have e2 : (histL (pkL b c i)).set y (((pkL b c i).count (y : Int) : Int) + 1) = histL (pkL b c (i + 1)):=by rw [a7i e,hy,b4u _ hy2]
    rw [e2]; exact ih (i + 1) (by omega)
  · refine Ev.congr (λ k=>(show _ = _ by rw [if_neg e,wS i (by omega)])) ?_
    rw [<- a7j e]; exact ih (i + 1) (by omega)
theorem b4v (b : List Int) (hb : Bytes b) (hl : b.length <= 1000000) (c : Int) : Ev (λ k=>puncheonref06_For.f k b c) (histL (a0o b c)):=by
 refine Ev.congr (λ k=>(show puncheonref06_For.f k b c = _ by unfold puncheonref06_For.f; rw [if_pos (by decide)])) ?_
 have e : List.replicate 256 (0 : Int) = histL (pkL b c 0):=by
  unfold histL mapR
  rw [<- List.length_range (n:=256),<- List.map_const',List.length_range]
  exact List.map_congr_left (λ u _=>by simp [pkL])
 rw [e]; exact c2U b hb hl c b.length 0 (by omega)
def widN (b : List Int) : Nat -> Nat
 | 0=>0
 | k + 1=>max (widN b k) (manyC (histL (a0o b (k : Nat))))
theorem a4O (c : List Int) : manyC c <= 256:=by
 unfold manyC
 split
 · rename_i h
   have:=List.countP_le_length (p:=λ x=>decide (0 < x)) (l:=c); have:=(rightC_iff.1 h).1; omega
 · omega
theorem a7k (b : List Int) : ∀ k,widN b k <= 256
 | 0=>by simp [widN]
 | k + 1=>by
  have:=a7k b k; have:=a4O (histL (a0o b (k : Nat)))
  simp only [widN]; omega
theorem c2V (a b : Nat) : mx (a : Int) (b : Int) = ((max a b : Nat) : Int):=by unfold mx; split <;> omega
theorem c2W (b : List Int) (hb : Bytes b) (hl : b.length <= 1000000) : ∀ (d i : Nat),i + d = 256 -> Ev (λ k=>puncheonref06_Widest.l0 k b ((widN b i : Nat) : Int) (i : Int)) ((widN b 256 : Nat) : Int):=by
 intro d
 induction d with
 | zero=>
  intro i hi
  refine Ev.step (λ k=>(show puncheonref06_Widest.l0 (k + 1) b _ (i : Int) = _ by simp only [puncheonref06_Widest.l0]; rw [if_neg (by omega)])) ?_
  rw [show i = 256 by omega]; exact Ev.now _
 | succ d ih=>
  intro i hi
  refine Ev.step (λ k=>(show puncheonref06_Widest.l0 (k + 1) b _ (i : Int) = _ by simp only [puncheonref06_Widest.l0]; rw [if_pos (by omega)])) ?_
  refine Ev.bind (b4v b hb hl i) ?_
  refine Ev.bind (b4s _ (by unfold histL; rw [a1z]; omega)) ?_
  refine Ev.congr (λ k=>(show _ = _ by rw [c2V,wS i (by omega)])) ?_
  exact ih (i + 1) (by omega)
theorem c2X (b : List Int) (hb : Bytes b) (hl : b.length <= 1000000) : Ev (λ k=>puncheonref06_Widest.f k b) ((widN b 256 : Nat) : Int):=by
 unfold puncheonref06_Widest.f; exact c2W b hb hl 256 0 (by omega)
def presN (b : List Int) (k : Nat) : List Int:=((List.range k).filter (λ (c : Nat)=>decide (0 < (a0o b (c : Int)).length))).map (λ (c : Nat)=>(c : Int))
theorem a9k (b : List Int) (k : Nat) : presN b (k + 1) = if 0 < (a0o b (k : Int)).length then presN b k ++ [(k : Int)] else presN b k:=by
 unfold presN; rw [List.range_succ,List.filter_append,List.map_append]
 by_cases h : 0 < (a0o b (k : Int)).length
 · rw [if_pos h]; congr 1; simp only [List.filter_cons,List.filter_nil,h,decide_true]; rfl
 · rw [if_neg h]; simp only [List.filter_cons,List.filter_nil,h,decide_false]; simp
theorem a4j (b : List Int) (k : Nat) : (presN b k).length <= k:=by
 unfold presN; rw [List.length_map]; exact Nat.le_trans (List.length_filter_le _ _) (by simp)
theorem c2Y (b : List Int) (hb : Bytes b) (hl : b.length <= 1000000) (c : Nat) (hc : c < 256) (R : List Int) (hn : Ev (λ k=>puncheonref06_Present.l0 k b (presN b (c + 1)) ((c + 1 : Nat) : Int)) R) : ∀ (d i : Nat),i + d = b.length -> Ev (λ k=>puncheonref06_Present.l1 k b (presN b c) (c : Int) ((pkL b (c : Int) i).length : Int) (i : Int)) R:=by
 intro d
 induction d with
 | zero=>
  intro i hi
  obtain rfl : i = b.length:=by omega
  have hs:=a9k b c
  have hpl:=a4j b c
  by_cases h : 0 < (a0o b (c : Int)).length
  · refine Ev.step (λ k=>(show puncheonref06_Present.l1 (k + 1) b (presN b c) (c : Int) _ (b.length : Int) = _ by simp only [puncheonref06_Present.l1]; rw [if_neg (by omega),if_pos (by unfold a0o at h; omega),if_pos (by omega),wS c (by omega)])) ?_
    rw [if_pos h] at hs
    rw [<- hs]; exact hn
  · refine Ev.step (λ k=>(show puncheonref06_Present.l1 (k + 1) b (presN b c) (c : Int) _ (b.length : Int) = _ by simp only [puncheonref06_Present.l1]; rw [if_neg (by omega),if_neg (by unfold a0o at h; omega),wS c (by omega)])) ?_
    rw [if_neg h] at hs
    rw [<- hs]; exact hn
 | succ d ih=>
  intro i hi
  have hle:=a4i b (c : Int) i
  refine Ev.step (λ k=>(show puncheonref06_Present.l1 (k + 1) b (presN b c) (c : Int) _ (i : Int) = _ by simp only [puncheonref06_Present.l1]; rw [if_pos (by omega),a9j b hb hl,Option.bind_some])) ?_
  by_cases e : ctxI b (i : Nat) = (c : Int)
  · refine Ev.congr (λ k=>(show _ = _ by rw [if_pos e,wS i (by omega),wS _ (show (pkL b (c : Int) i).length <= 1000000000 by omega)])) ?_
    have:=ih (i + 1) (by omega)
    rw [a7i e,List.length_append,List.length_singleton] at this; exact this
  · refine Ev.congr (λ k=>(show _ = _ by rw [if_neg e,wS i (by omega)])) ?_
    have:=ih (i + 1) (by omega)
    rw [a7j e] at this; exact this
theorem c2Z (b : List Int) (hb : Bytes b) (hl : b.length <= 1000000) : ∀ (d c : Nat),c + d = 256 -> Ev (λ k=>puncheonref06_Present.l0 k b (presN b c) (c : Int)) (presN b 256):=by
 intro d
 induction d with
 | zero=>
  intro c hc
  refine Ev.step (λ k=>(show puncheonref06_Present.l0 (k + 1) b _ (c : Int) = _ by simp only [puncheonref06_Present.l0]; rw [if_neg (by omega)])) ?_
  rw [show c = 256 by omega]; exact Ev.now _
 | succ d ih=>
  intro c hc
  refine Ev.step (λ k=>(show puncheonref06_Present.l0 (k + 1) b _ (c : Int) = _ by simp only [puncheonref06_Present.l0]; rw [if_pos (by omega)])) ?_
  exact c2Y b hb hl c (by omega) _ (ih (c + 1) (by omega)) b.length 0 (by omega)
theorem c3a (b : List Int) (hb : Bytes b) (hl : b.length <= 1000000) : Ev (λ k=>puncheonref06_Present.f k b) (presN b 256):=by
 unfold puncheonref06_Present.f; exact c2Z b hb hl 256 0 (by omega)
theorem c3b (n : Nat) (hn : n < 2 ^ 40) : ∀ (d j : Nat),j + d = 41 -> (j = 0 \/ 2 ^ j <= n) -> Ev (λ k=>puncheonref07_Floor.l0 k (n : Int) (j : Int) ((2 ^ (j + 1) : Nat) : Int)) ((a0s n : Nat) : Int):=by
 intro d
 induction d with
 | zero=>
  intro j hj h
  have : 2 ^ 40 <= 2 ^ j:=Nat.pow_le_pow_right (by omega) (by omega)
  exfalso; omega
 | succ d ih=>
  intro j hj h
  have hp : 2 ^ (j + 2) <= 2 ^ 43:=Nat.pow_le_pow_right (by omega) (by omega)
  have e : wrap64 (2 * ((2 ^ (j + 1) : Nat) : Int)) = ((2 ^ (j + 1 + 1) : Nat) : Int):=by
   have : 2 ^ (j + 2) = 2 * 2 ^ (j + 1):=Nat.pow_succ'
   rw [show j + 1 + 1 = j + 2 by omega,this]
   rw [this] at hp
   generalize 2 ^ (j + 1) = P at hp ⊢
   rw [w64 (by omega)]; omega
  by_cases hc : 2 ^ (j + 1) <= n
  · refine Ev.step (λ k=>(show puncheonref07_Floor.l0 (k + 1) (n : Int) (j : Int) _ = _ by simp only [puncheonref07_Floor.l0]; rw [if_pos (Int.ofNat_le.2 hc),if_pos (by omega),wS j (by omega),e])) ?_
    exact ih (j + 1) (by omega) (.inr hc)
  · refine Ev.step (λ k=>(show puncheonref07_Floor.l0 (k + 1) (n : Int) (j : Int) _ = _ by simp only [puncheonref07_Floor.l0]; rw [if_neg (λ h=>hc (Int.ofNat_le.1 h))])) ?_
    have ef : a0s (n : Int) = j:=by
     rcases Nat.eq_zero_or_pos n with h0 | h0
     · subst h0
       have : j = 0:=by
        rcases h with h | h
        · exact h
        · have:=Nat.two_pow_pos j; omega
       rw [this]; rfl
     · have h1 : 2 ^ j <= n:=by
         rcases h with h | h
         · rw [h,Nat.pow_zero]; exact h0
         · exact h
       unfold a0s a1T
       rw [Int.toNat_natCast,a9e h1 (by omega) (by omega)]; omega
    rw [ef]; exact Ev.now _
theorem c3c (n : Nat) (hn : n < 2 ^ 40) : Ev (λ k=>puncheonref07_Floor.f k (n : Int)) ((a0s n : Nat) : Int):=by
 unfold puncheonref07_Floor.f; exact c3b n hn 41 0 rfl (.inl rfl)
def ceilI (n : Int) : Nat:=a1T (n - 1)
theorem c3d (n : Nat) (hn : n < 2 ^ 40) : ∀ (d j : Nat),j + d = 41 -> (j = 0 \/ 2 ^ (j - 1) < n) -> Ev (λ k=>puncheonref07_Ceil.l0 k (n : Int) (j : Int) ((2 ^ j : Nat) : Int)) ((ceilI n : Nat) : Int):=by
 intro d
 induction d with
 | zero=>
  intro j hj h
  have : 2 ^ 40 <= 2 ^ (j - 1):=Nat.pow_le_pow_right (by omega) (by omega)
  exfalso; omega
 | succ d ih=>
  intro j hj h
  have hp : 2 ^ (j + 1) <= 2 ^ 43:=Nat.pow_le_pow_right (by omega) (by omega)
  have e : wrap64 (2 * ((2 ^ j : Nat) : Int)) = ((2 ^ (j + 1) : Nat) : Int):=by
   have : 2 ^ (j + 1) = 2 * 2 ^ j:=Nat.pow_succ'
   rw [this]
   rw [this] at hp
   generalize 2 ^ j = P at hp ⊢
   rw [w64 (by omega)]; omega
  by_cases hc : 2 ^ j < n
  · refine Ev.step (λ k=>(show puncheonref07_Ceil.l0 (k + 1) (n : Int) (j : Int) _ = _ by simp only [puncheonref07_Ceil.l0]; rw [if_pos (Int.ofNat_lt.2 hc),if_pos (by omega),wS j (by omega),e])) ?_
    exact ih (j + 1) (by omega) (.inr (by simpa using hc))
  · refine Ev.step (λ k=>(show puncheonref07_Ceil.l0 (k + 1) (n : Int) (j : Int) _ = _ by simp only [puncheonref07_Ceil.l0]; rw [if_neg (λ h=>hc (Int.ofNat_lt.1 h))])) ?_
    have ef : ceilI (n : Int) = j:=by
     unfold ceilI a1T
     rcases h with h | h
     · subst h
       rw [show ((n : Int) - 1).toNat = 0 by simp at hc; omega]; rfl
     · obtain ⟨i,rfl⟩ : ∃ i,j = i + 1:=⟨j - 1,by
         have : j ≠ 0:=by
          intro h0; subst h0; simp at hc h; omega
         omega⟩
       rw [show ((n : Int) - 1).toNat = n - 1 by omega]
       rw [Nat.add_sub_cancel] at h
       exact a9e (by omega) (by omega) (by omega)
    rw [ef]; exact Ev.now _
theorem c3e (n : Nat) (hn : n < 2 ^ 40) : Ev (λ k=>puncheonref07_Ceil.f k (n : Int)) ((ceilI n : Nat) : Int):=by
 unfold puncheonref07_Ceil.f; exact c3d n hn 41 0 rfl (.inl rfl)
def pickI (n m : Nat) (most : Int) : Int:=mx (mx (mn ((a0s n : Int) - 2) most) 5) (ceilI m)
theorem b4w (n : Nat) (h : n < 2 ^ 40) : a0s (n : Int) <= 40:=by
 rcases Nat.eq_zero_or_pos n with h0 | h0
 · subst h0; decide
 · have:=(a3f n h0 (by omega)).1
   have a : ¬ 41 <= a0s (n : Int):=λ e=>by
    have:=Nat.pow_le_pow_right (n:=2) (by omega) e; omega
   omega
theorem c3f (n m : Nat) (most : Int) (hn : n < 2 ^ 40) (hm : m < 2 ^ 40) : Ev (λ k=>puncheonref07_Pick.f k (n : Int) (m : Int) most) (pickI n m most):=by
 unfold puncheonref07_Pick.f
 refine Ev.bind (c3c n hn) (Ev.bind (c3e m hm) ?_)
 have:=b4w n hn
 refine Ev.congr (λ k=>(show _ = _ by rw [w64 (n:=(a0s (n : Int) : Int) - 2) (by omega)]; exact rfl)) (Ev.now _)
def needN (rest : List Int) (had : List Bool) : Nat -> Int
 | 0=>-1
 | k + 1=>if had.getD k false = true then needN rest had k else if needN rest had k < 0 then (k : Int) else if rest.getD k 0 > rest.getD (needN rest had k).toNat 0 then (k : Int) else needN rest had k
theorem a4P (rest : List Int) (had : List Bool) : ∀ k,-1 <= needN rest had k /\ needN rest had k < k /\ (0 <= needN rest had k -> had.getD (needN rest had k).toNat false = false)
 | 0=>by simp [needN]
 | k + 1=>by
  obtain ⟨h1,h2,h3⟩:=a4P rest had k
  simp only [needN]
  cases hk : had.getD k false with
  | true=>rw [if_pos rfl]; exact ⟨h1,by omega,h3⟩
  | false=>
   rw [if_neg (by decide)]
   split
   · exact ⟨by omega,by omega,λ _=>by rw [Int.toNat_natCast]; exact hk⟩
   · split
     · exact ⟨by omega,by omega,λ _=>by rw [Int.toNat_natCast]; exact hk⟩
     · exact ⟨h1,by omega,h3⟩
theorem a9l (rest : List Int) (had : List Bool) {s : Nat} (hs : had.getD s false = false) : ∀ k,s < k -> 0 <= needN rest had k
 | 0,h=>by omega
 | k + 1,h=>by
  simp only [needN]
  by_cases e : s = k
  · subst e
    rw [hs,if_neg (by decide)]
    split
    · omega
    · split <;> omega
  · have ih:=a9l rest had hs k (by omega)
    split
    · exact ih
    · rw [if_neg (by omega)]
      split <;> omega
theorem c3g (rest : List Int) (had : List Bool) (hr : rest.length = 256) (hh : had.length = 256) : ∀ (d i : Nat),i + d = 256 -> Ev (λ k=>puncheonref08_neediest.l0 k rest had (needN rest had i) (i : Int)) (needN rest had 256):=by
 intro d
 induction d with
 | zero=>
  intro i hi
  refine Ev.step (λ k=>(show puncheonref08_neediest.l0 (k + 1) rest had _ (i : Int) = _ by simp only [puncheonref08_neediest.l0]; rw [if_neg (by omega)])) ?_
  rw [show i = 256 by omega]; exact Ev.now _
 | succ d ih=>
  intro i hi
  have hn:=a4P rest had i
  have hrd : rdOf false had (i : Int) = had.getD i false:=rfl
  have hs : needN rest had (i + 1) = if had.getD i false = true then needN rest had i else if needN rest had i < 0 then (i : Int) else if rest.getD i 0 > rest.getD (needN rest had i).toNat 0 then (i : Int) else needN rest had i:=rfl
  by_cases e1 : had.getD i false = true
  · refine Ev.step (λ k=>(show puncheonref08_neediest.l0 (k + 1) rest had _ (i : Int) = _ by simp only [puncheonref08_neediest.l0]; rw [if_pos (by omega),if_pos (by omega),if_pos (by omega),hrd,if_pos e1,wS i (by omega)])) ?_
    rw [if_pos e1] at hs; rw [<- hs]; exact ih (i + 1) (by omega)
  · rw [if_neg e1] at hs
    by_cases e2 : needN rest had i < 0
    · refine Ev.step (λ k=>(show puncheonref08_neediest.l0 (k + 1) rest had _ (i : Int) = _ by simp only [puncheonref08_neediest.l0]; rw [if_pos (by omega),if_pos (by omega),if_pos (by omega),hrd,if_neg e1,if_pos e2,wS i (by omega)])) ?_
      rw [if_pos e2] at hs
      have:=ih (i + 1) (by omega); rw [hs] at this; exact this
    · rw [if_neg e2] at hs
      have hrd2 : rd rest (needN rest had i) = rest.getD (needN rest had i).toNat 0:=rfl
      by_cases e3 : rest.getD i 0 > rest.getD (needN rest had i).toNat 0
      · refine Ev.step (λ k=>(show puncheonref08_neediest.l0 (k + 1) rest had _ (i : Int) = _ by simp only [puncheonref08_neediest.l0]; rw [if_pos (by omega),if_pos (by omega),if_pos (by omega),hrd,if_neg e1,if_neg e2,if_pos (by omega),if_pos (by omega),if_pos (by omega),a0F,hrd2,if_pos e3,wS i (by omega)])) ?_
        rw [if_pos e3] at hs
        have:=ih (i + 1) (by omega); rw [hs] at this; exact this
      · refine Ev.step (λ k=>(show puncheonref08_neediest.l0 (k + 1) rest had _ (i : Int) = _ by simp only [puncheonref08_neediest.l0]; rw [if_pos (by omega),if_pos (by omega),if_pos (by omega),hrd,if_neg e1,if_neg e2,if_pos (by omega),if_pos (by omega),if_pos (by omega),a0F,hrd2,if_neg e3,wS i (by omega)])) ?_
        rw [if_neg e3] at hs; rw [<- hs]; exact ih (i + 1) (by omega)
theorem c3h (rest : List Int) (had : List Bool) (hr : rest.length = 256) (hh : had.length = 256) : Ev (λ k=>puncheonref08_neediest.f k rest had) (needN rest had 256):=by
 unfold puncheonref08_neediest.f; exact c3g rest had hr hh 256 0 (by omega)
def richN (q c : List Int) : Nat -> Nat
 | 0=>0
 | k + 1=>if q.getD k 0 > q.getD (richN q c k) 0 \/ q.getD k 0 = q.getD (richN q c k) 0 /\ c.getD k 0 <= c.getD (richN q c k) 0 then k else richN q c k
theorem a4Q (q c : List Int) : ∀ k,richN q c k <= k - 1
 | 0=>by simp [richN]
 | k + 1=>by
  have:=a4Q q c k
  simp only [richN]; split <;> omega
theorem b4x (q c : List Int) : ∀ k,∀ s,s < k -> q.getD s 0 <= q.getD (richN q c k) 0
 | 0,s,h=>by omega
 | k + 1,s,h=>by
  have ih:=b4x q c k
  simp only [richN]
  split
  · rename_i hc
    by_cases e : s = k
    · subst e; exact Int.le_refl _
    · have:=ih s (by omega); omega
  · rename_i hc
    by_cases e : s = k
    · subst e; omega
    · exact ih s (by omega)
theorem c3i (q c : List Int) : richN q c 1 = 0:=by simp only [richN]; split <;> rfl
theorem c3j (q c : List Int) (hq : q.length = 256) (hc : c.length = 256) : ∀ (d i : Nat),i + d = 256 -> 1 <= i -> Ev (λ k=>puncheonref08_richest.l0 k q c ((richN q c i : Nat) : Int) (i : Int)) ((richN q c 256 : Nat) : Int):=by
 intro d
 induction d with
 | zero=>
  intro i hi _
  refine Ev.step (λ k=>(show puncheonref08_richest.l0 (k + 1) q c _ (i : Int) = _ by simp only [puncheonref08_richest.l0]; rw [if_neg (by omega)])) ?_
  rw [show i = 256 by omega]; exact Ev.now _
 | succ d ih=>
  intro i hi h1
  have hlt:=a4Q q c i
  have hs : richN q c (i + 1) = if q.getD i 0 > q.getD (richN q c i) 0 \/ q.getD i 0 = q.getD (richN q c i) 0 /\ c.getD i 0 <= c.getD (richN q c i) 0 then i else richN q c i:=rfl
  by_cases e1 : q.getD i 0 > q.getD (richN q c i) 0
  · refine Ev.step (λ k=>(show puncheonref08_richest.l0 (k + 1) q c _ (i : Int) = _ by simp only [puncheonref08_richest.l0]; rw [if_pos (by omega),if_pos (by omega),if_pos (by omega),if_pos (by omega),if_pos (by omega),a0F,a0F,if_pos e1,wS i (by omega)])) ?_
    rw [if_pos (.inl e1)] at hs
    have:=ih (i + 1) (by omega) (by omega); rw [hs] at this; exact this
  · by_cases e2 : q.getD i 0 = q.getD (richN q c i) 0
    · by_cases e3 : c.getD i 0 <= c.getD (richN q c i) 0
      · refine Ev.step (λ k=>(show puncheonref08_richest.l0 (k + 1) q c _ (i : Int) = _ by simp only [puncheonref08_richest.l0]; rw [if_pos (by omega),if_pos (by omega),if_pos (by omega),if_pos (by omega),if_pos (by omega),a0F,a0F,if_neg e1,if_pos e2,if_pos (by omega),if_pos (by omega),a0F,a0F,if_pos e3,wS i (by omega)])) ?_
        rw [if_pos (.inr ⟨e2,e3⟩)] at hs
        have:=ih (i + 1) (by omega) (by omega); rw [hs] at this; exact this
      · refine Ev.step (λ k=>(show puncheonref08_richest.l0 (k + 1) q c _ (i : Int) = _ by simp only [puncheonref08_richest.l0]; rw [if_pos (by omega),if_pos (by omega),if_pos (by omega),if_pos (by omega),if_pos (by omega),a0F,a0F,if_neg e1,if_pos e2,if_pos (by omega),if_pos (by omega),a0F,a0F,if_neg e3,wS i (by omega)])) ?_
        rw [if_neg (by omega)] at hs
        have:=ih (i + 1) (by omega) (by omega); rw [hs] at this; exact this
    · refine Ev.step (λ k=>(show puncheonref08_richest.l0 (k + 1) q c _ (i : Int) = _ by simp only [puncheonref08_richest.l0]; rw [if_pos (by omega),if_pos (by omega),if_pos (by omega),if_pos (by omega),if_pos (by omega),a0F,a0F,if_neg e1,if_neg e2,wS i (by omega)])) ?_
      rw [if_neg (by omega)] at hs
      have:=ih (i + 1) (by omega) (by omega); rw [hs] at this; exact this
theorem c3k (q c : List Int) (hq : q.length = 256) (hc : c.length = 256) : Ev (λ k=>puncheonref08_richest.f k q c) ((richN q c 256 : Nat) : Int):=by
 unfold puncheonref08_richest.f
 have:=c3j q c hq hc 255 1 rfl (by omega)
 rw [c3i] at this; exact this
theorem c3l (q : List Int) (hq : ∀ x ∈ q,0 <= x /\ x <= 1000000000) (hl : q.length <= 1000000) : ∀ (d i : Nat) (s : Int),i + d = q.length -> s = (q.take i).sum -> 0 <= s /\ s <= i * 1000000000 -> Ev (λ k=>puncheonref08_sum.l0 k q s (i : Int)) q.sum:=by
 intro d
 induction d with
 | zero=>
  intro i s hi hs _
  refine Ev.step (λ k=>(show puncheonref08_sum.l0 (k + 1) q s (i : Int) = _ by simp only [puncheonref08_sum.l0]; rw [if_neg (by omega)])) ?_
  rw [List.take_of_length_le (by omega)] at hs
  rw [<- hs]; exact Ev.now _
 | succ d ih=>
  intro i s hi hs hb
  have hlt : i < q.length:=by omega
  have hx:=hq _ (a2h hlt)
  have hts:=a4a hlt
  refine Ev.step (λ k=>(show puncheonref08_sum.l0 (k + 1) q s (i : Int) = _ by simp only [puncheonref08_sum.l0]; rw [if_pos (by omega),if_pos (by omega),a0F,wS i (by omega),w64 (n:=s + q.getD i 0) (by omega)])) ?_
  exact ih (i + 1) _ (by omega) (by rw [hts,hs]) (by omega)
theorem c3m (q : List Int) (hq : ∀ x ∈ q,0 <= x /\ x <= 1000000000) (hl : q.length <= 1000000) : Ev (λ k=>puncheonref08_sum.f k q) q.sum:=by
 unfold puncheonref08_sum.f; exact c3l q hq hl q.length 0 0 (by omega) (by simp) (by omega)
end Go.Proofs.YtflfjpkmjnnodaaGreat
namespace Go.Proofs.YtflfjpkmjnnodaaGreat
open Go.RowKit
theorem a7l (q : List Int) (s : Nat) (y : Int) (h : s < q.length) : (q.set s y).sum = q.sum - q.getD s 0 + y:=by
 induction q generalizing s with
 | nil=>simp at h
 | cons a q ih=>
  cases s with
  | zero=>simp; omega
  | succ s=>
   have:=ih s (by simpa using h)
   simp only [List.set_cons_succ,List.sum_cons,List.getD_cons_succ,this]; omega
theorem a3k (q : List Int) (s t : Nat) (y : Int) (h : s < q.length) : (q.set s y).getD t 0 = if t = s then y else q.getD t 0:=by
 rw [List.getD_eq_getElem?_getD,List.getElem?_set]
 by_cases e : s = t
 · subst e; rw [if_pos rfl,if_pos h,if_pos rfl]; rfl
 · rw [if_neg e,if_neg (λ x=>e x.symm),List.getD_eq_getElem?_getD]
def q0F (c : List Int) (P n : Int) (s : Nat) : Int:=if c.getD s 0 * P / n = 0 then min (c.getD s 0) 1 else c.getD s 0 * P / n
def q0L (c : List Int) (P n : Int) : List Int:=mapR (q0F c P n)
def restL (c : List Int) (P n : Int) : List Int:=mapR (λ s=>c.getD s 0 * P % n)
def hadL (c : List Int) (P n : Int) : List Bool:=(List.range 256).map (λ s=>decide (c.getD s 0 * P / n = 0))
def a0T (rest : List Int) : Nat -> List Int × List Bool -> List Int × List Bool
 | 0,st=>st
 | m + 1,st=>let r:=a0T rest m st; (r.1.set (needN rest r.2 256).toNat (r.1.getD (needN rest r.2 256).toNat 0 + 1),r.2.set (needN rest r.2 256).toNat true)
def a0Q (c : List Int) : Nat -> List Int -> List Int
 | 0,q=>q
 | m + 1,q=>let r:=a0Q c m q; r.set (richN r c 256) (r.getD (richN r c 256) 0 - 1)
def giveM (c : List Int) (P n : Int) : Nat:=(P - (q0L c P n).sum).toNat
def normL (c : List Int) (r : Nat) : List Int:=
 let P : Int:=2 ^ r
 let n:=c.sum
 let g:=(a0T (restL c P n) (giveM c P n) (q0L c P n,hadL c P n)).1
 a0Q c (g.sum - P).toNat g
theorem c3n {f g : Nat -> Int} (h : ∀ s,s < 256 -> f s <= g s) : (mapR f).sum <= (mapR g).sum:=by
 unfold mapR
 have key : ∀ l : List Nat,(∀ s ∈ l,f s <= g s) -> (l.map f).sum <= (l.map g).sum:=by
  intro l
  induction l with
  | nil=>intro _; simp
  | cons a l ih=>
   intro hl
   have:=ih (λ s hs=>hl s (by simp [hs])); have:=hl a (by simp)
   simp only [List.map_cons,List.sum_cons]; omega
 exact key _ (λ s hs=>h s (List.mem_range.1 hs))
theorem b4y {c : List Int} (h : c.length = 256) : mapR (λ s=>c.getD s 0) = c:=by
 apply List.ext_getElem
 · rw [a1z,h]
 · intro i h1 h2; simp [mapR,List.getElem?_eq_getElem h2]
theorem b4z (f : Nat -> Int) (k : Int) : (mapR (λ s=>f s * k)).sum = (mapR f).sum * k:=by
 unfold mapR
 induction List.range 256 with
 | nil=>simp
 | cons a l ih=>simp only [List.map_cons,List.sum_cons,ih,Int.add_mul]
theorem c3o (f g : Nat -> Int) : (mapR (λ s=>f s + g s)).sum = (mapR f).sum + (mapR g).sum:=by
 unfold mapR
 induction List.range 256 with
 | nil=>simp
 | cons a l ih=>simp only [List.map_cons,List.sum_cons,ih]; omega
def freeN (had : List Bool) : Nat:=had.countP (λ b=>!b)
theorem c3p (c : List Int) (P n : Int) : ((freeN (hadL c P n) : Nat) : Int) = (mapR (λ s=>if c.getD s 0 * P / n = 0 then 0 else 1)).sum:=by
 unfold freeN hadL mapR
 induction List.range 256 with
 | nil=>simp
 | cons a l ih=>
  have e1 : ((if (!decide (c.getD a 0 * P / n = 0)) = true then 1 else 0 : Nat) : Int) = if c.getD a 0 * P / n = 0 then 0 else 1:=by
   by_cases e : c.getD a 0 * P / n = 0
   · rw [if_pos e,decide_eq_true e]; rfl
   · rw [if_neg e,decide_eq_false e]; rfl
  rw [List.map_cons,List.map_cons,List.countP_cons,List.sum_cons,Int.natCast_add,ih,e1]; omega
structure Can (c : List Int) (r : Nat) : Prop where
 len : c.length = 256
 nonneg : ∀ x ∈ c,0 <= x
 pos : 0 < c.sum
 le : c.sum <= 1073741824
 r1 : 1 <= r
 r12 : r <= 12
 many : c.countP (λ x=>decide (0 < x)) <= 2 ^ r
theorem Can.get {c : List Int} {r : Nat} (h : Can c r) (s : Nat) : 0 <= c.getD s 0 /\ c.getD s 0 <= c.sum:=by
 by_cases hs : s < c.length
 · exact ⟨h.nonneg _ (a2h hs),a6l h.nonneg (a2h hs)⟩
 · rw [List.getD_eq_getElem?_getD,List.getElem?_eq_none (by omega)]; have:=h.pos; simp; omega
theorem Can.q0 {c : List Int} {r : Nat} (h : Can c r) (s : Nat) : 0 <= q0F c (2 ^ r) c.sum s /\ q0F c (2 ^ r) c.sum s <= 4096 /\ (0 < q0F c (2 ^ r) c.sum s ↔ 0 < c.getD s 0) /\ c.getD s 0 * 2 ^ r <= (q0F c (2 ^ r) c.sum s + (if c.getD s 0 * 2 ^ r / c.sum = 0 then 0 else 1)) * c.sum:=by
 have hg:=h.get s
 have hp:=h.pos
 have h2:=a1A h.r12
 have hm0 : 0 <= c.getD s 0 * 2 ^ r:=Int.mul_nonneg hg.1 (by omega)
 have hd0 : 0 <= c.getD s 0 * 2 ^ r / c.sum:=Int.ediv_nonneg hm0 (by omega)
 have hdm:=Int.mul_ediv_add_emod (c.getD s 0 * 2 ^ r) c.sum
 have hml:=Int.emod_lt_of_pos (c.getD s 0 * 2 ^ r) hp
 have hmn:=Int.emod_nonneg (c.getD s 0 * 2 ^ r) (b:=c.sum) (by omega)
 have hle : c.getD s 0 * 2 ^ r / c.sum <= 2 ^ r:=by
  refine Int.ediv_le_of_le_mul hp ?_
  rw [Int.mul_comm]; exact Int.mul_le_mul_of_nonneg_left hg.2 (by omega)
 unfold q0F
 by_cases e : c.getD s 0 * 2 ^ r / c.sum = 0
 · rw [if_pos e,if_pos e]
   rw [e,Int.mul_zero,Int.zero_add] at hdm
   refine ⟨by omega,by omega,by omega,?_⟩
   by_cases e2 : c.getD s 0 = 0
   · rw [e2,show min (0 : Int) 1 = 0 by decide]; simp
   · rw [show min (c.getD s 0) 1 = 1 by omega]; omega
 · rw [if_neg e,if_neg e]
   refine ⟨hd0,by omega,⟨λ _=>?_,λ _=>by omega⟩,?_⟩
   · by_cases e2 : c.getD s 0 = 0
     · rw [e2] at e; simp at e
     · omega
   · rw [Int.add_mul,Int.one_mul,Int.mul_comm (c.getD s 0 * 2 ^ r / c.sum)]; omega
theorem Can.enough {c : List Int} {r : Nat} (h : Can c r) : (2 : Int) ^ r <= (q0L c (2 ^ r) c.sum).sum + freeN (hadL c (2 ^ r) c.sum):=by
 have h1 : (mapR (λ s=>c.getD s 0 * 2 ^ r)).sum <= (mapR (λ s=>(q0F c (2 ^ r) c.sum s + (if c.getD s 0 * 2 ^ r / c.sum = 0 then 0 else 1)) * c.sum)).sum:=c3n (λ s _=>(h.q0 s).2.2.2)
 rw [b4z,b4z,c3o,b4y h.len,<- c3p,Int.mul_comm c.sum] at h1
 exact Int.le_of_mul_le_mul_right h1 h.pos
theorem a9m {had : List Bool} (hl : had.length = 256) (h : 0 < freeN had) : ∃ s,s < 256 /\ had.getD s false = false:=by
 unfold freeN at h
 obtain ⟨b,hb,hbf⟩:=List.countP_pos_iff.1 h
 obtain ⟨s,hs,rfl⟩:=List.getElem_of_mem hb
 refine ⟨s,by omega,?_⟩
 rw [List.getD_eq_getElem?_getD,List.getElem?_eq_getElem hs]; simpa using hbf
theorem b4A {had : List Bool} {s : Nat} (hs : s < had.length) (h : had.getD s false = false) : freeN (had.set s true) + 1 = freeN had:=by
 unfold freeN
 induction had generalizing s with
 | nil=>simp at hs
 | cons a l ih=>
  cases s with
  | zero=>simp at h; subst h; simp
  | succ s=>
   have:=ih (s:=s) (by simpa using hs) (by simpa using h)
   simp only [List.set_cons_succ,List.countP_cons]; omega
structure Way (c q : List Int) : Prop where
 len : q.length = 256
 rng : ∀ s,0 <= q.getD s 0 /\ q.getD s 0 <= 100000
 iff : ∀ s,0 < q.getD s 0 ↔ 0 < c.getD s 0
theorem a4R {c : List Int} {r : Nat} (h : Can c r) : ∀ m,m <= giveM c (2 ^ r) c.sum ->
    let st:=a0T (restL c (2 ^ r) c.sum) m (q0L c (2 ^ r) c.sum,hadL c (2 ^ r) c.sum)
    st.1.length = 256 /\ st.2.length = 256 /\ (∀ s,0 <= st.1.getD s 0 /\ st.1.getD s 0 <= 4096 + m) /\ (∀ s,0 < st.1.getD s 0 ↔ 0 < c.getD s 0) /\ st.1.sum = (q0L c (2 ^ r) c.sum).sum + m /\ freeN st.2 + m = freeN (hadL c (2 ^ r) c.sum) /\
     (∀ s,s < 256 -> st.2.getD s false = false -> 0 < c.getD s 0)
 | 0,_=>by
  have hlen : (q0L c (2 ^ r) c.sum).length = 256:=a1z _
  refine ⟨hlen,by simp [a0T,hadL],λ s=>?_,λ s=>?_,by simp [a0T],rfl,λ s hs hf=>?_⟩
  · show 0 <= (q0L c (2 ^ r) c.sum).getD s 0 /\ (q0L c (2 ^ r) c.sum).getD s 0 <= 4096 + ((0 : Nat) : Int)
    by_cases hs : s < 256
    · unfold q0L; rw [a4h _ hs]; have:=h.q0 s; exact ⟨this.1,by have:=this.2.1; omega⟩
    · rw [List.getD_eq_getElem?_getD,List.getElem?_eq_none (by omega)]; simp
  · show 0 < (q0L c (2 ^ r) c.sum).getD s 0 ↔ _
    by_cases hs : s < 256
    · unfold q0L; rw [a4h _ hs]; exact (h.q0 s).2.2.1
    · rw [List.getD_eq_getElem?_getD,List.getElem?_eq_none (by omega),List.getD_eq_getElem?_getD,List.getElem?_eq_none (by have:=h.len; omega)]
  · have hf2 : (hadL c (2 ^ r) c.sum).getD s false = false:=hf
    unfold hadL at hf2
    rw [List.getD_eq_getElem?_getD,List.getElem?_map,List.getElem?_range hs] at hf2
    simp only [Option.map_some,Option.getD_some,decide_eq_false_iff_not] at hf2
    have:=(h.get s).1
    by_cases e2 : c.getD s 0 = 0
    · rw [e2] at hf2; simp at hf2
    · omega
 | m + 1,hm=>by
  obtain ⟨h1,h2,h3,h4,h5,h6,h7⟩:=a4R h m (by omega)
  have hen:=h.enough
  obtain ⟨st,hst⟩ : ∃ st,st = a0T (restL c (2 ^ r) c.sum) m (q0L c (2 ^ r) c.sum,hadL c (2 ^ r) c.sum):=⟨_,rfl⟩
  simp only [a0T]
  rw [<- hst] at h1 h2 h3 h4 h5 h6 h7 ⊢
  have hM : (m : Int) + 1 <= 2 ^ r - (q0L c (2 ^ r) c.sum).sum:=by unfold giveM at hm; omega
  obtain ⟨s0,hs0,hf0⟩:=a9m h2 (by omega)
  have hn0:=a9l (restL c (2 ^ r) c.sum) st.2 hf0 256 hs0
  have hnl:=a4P (restL c (2 ^ r) c.sum) st.2 256
  obtain ⟨t,ht⟩ : ∃ t : Nat,needN (restL c (2 ^ r) c.sum) st.2 256 = t:=⟨_,(Int.toNat_of_nonneg hn0).symm⟩
  rw [ht] at hnl ⊢
  have htf:=hnl.2.2 (by omega)
  rw [Int.toNat_natCast] at htf ⊢
  have ht256 : t < 256:=by omega
  have hct:=h7 t ht256 htf
  have hg:=h3 t
  refine ⟨by rw [List.length_set]; exact h1,by rw [List.length_set]; exact h2,λ s=>?_,λ s=>?_,?_,?_,λ s hs hf=>?_⟩
  · rw [a3k _ _ _ _ (by omega)]
    have:=h3 s
    split <;> omega
  · rw [a3k _ _ _ _ (by omega)]
    by_cases e : s = t
    · subst e; rw [if_pos rfl]; exact ⟨λ _=>hct,λ _=>by omega⟩
    · rw [if_neg e]; exact h4 s
  · rw [a7l _ _ _ (by omega),h5]; omega
  · have:=b4A (had:=st.2) (s:=t) (by omega) htf; omega
  · refine h7 s hs ?_
    by_cases e : s = t
    · subst e; exact htf
    · rw [List.getD_eq_getElem?_getD,List.getElem?_set_ne (λ x=>e x.symm),<- List.getD_eq_getElem?_getD] at hf; exact hf
theorem c3q {q : List Int} (h : ∀ x ∈ q,0 <= x /\ x <= 1) : q.sum <= (q.countP (λ x=>decide (0 < x)) : Nat):=by
 induction q with
 | nil=>simp
 | cons a l ih=>
  have:=ih (λ x hx=>h x (by simp [hx]))
  have ha:=h a (by simp)
  rw [List.sum_cons,List.countP_cons]
  by_cases e : 0 < a
  · simp [e]; omega
  · simp [e]; omega
theorem c3r {c q : List Int} (hc : c.length = 256) (hq : q.length = 256) (h : ∀ s,0 < q.getD s 0 ↔ 0 < c.getD s 0) : q.countP (λ x=>decide (0 < x)) = c.countP (λ x=>decide (0 < x)):=by
 have e : ∀ l : List Int,l.length = 256 -> l.countP (λ x=>decide (0 < x)) = (List.range 256).countP (λ s=>decide (0 < l.getD s 0)):=by
  intro l hl
  have:=b4y hl
  conv=>lhs; rw [<- this]
  unfold mapR
  rw [List.countP_map]; rfl
 rw [e q hq,e c hc]
 exact List.countP_congr (λ s _=>by simp only [decide_eq_true_eq]; exact h s)
theorem a7m {c : List Int} {r : Nat} (h : Can c r) {q : List Int} (hq : Way c q) : ∀ m,m <= (q.sum - 2 ^ r).toNat ->
    Way c (a0Q c m q) /\ (a0Q c m q).sum = q.sum - m
 | 0,_=>⟨hq,by simp [a0Q]⟩
 | m + 1,hm=>by
  obtain ⟨h1,h2⟩:=a7m h hq m (by omega)
  simp only [a0Q]
  obtain ⟨t,ht⟩ : ∃ t,t = a0Q c m q:=⟨_,rfl⟩
  rw [<- ht] at h1 h2 ⊢
  obtain ⟨b,hb⟩ : ∃ b,b = richN t c 256:=⟨_,rfl⟩
  have hbl:=a4Q t c 256
  have hmax:=b4x t c 256
  rw [<- hb] at hbl hmax ⊢
  have hlen:=h1.len
  have hbig : 2 <= t.getD b 0:=by
   by_cases e : 2 <= t.getD b 0
   · exact e
   · exfalso
     have hle : t.sum <= (t.countP (λ x=>decide (0 < x)) : Nat):=c3q (λ x hx=>by
      obtain ⟨s,hs,rfl⟩:=List.getElem_of_mem hx
      have a:=hmax s (by omega); have a2:=h1.rng s
      rw [List.getD_eq_getElem?_getD,List.getElem?_eq_getElem hs,Option.getD_some] at a a2
      omega)
     rw [c3r h.len hlen h1.iff] at hle
     have hmny:=h.many
     have e2 : (2 : Int) ^ r = ((2 ^ r : Nat) : Int):=by simp
     have hmI : (m : Int) + 1 <= q.sum - 2 ^ r:=by omega
     rw [e2] at hmI; omega
  have hrb:=h1.rng b
  have hib:=h1.iff b
  refine ⟨⟨by rw [List.length_set]; exact hlen,λ s=>?_,λ s=>?_⟩,?_⟩
  · rw [a3k _ _ _ _ (by omega)]
    have:=h1.rng s
    split <;> omega
  · rw [a3k _ _ _ _ (by omega)]
    by_cases e : s = b
    · subst e; rw [if_pos rfl]; exact ⟨λ _=>hib.1 (by omega),λ _=>by omega⟩
    · rw [if_neg e]; exact h1.iff s
  · rw [a7l _ _ _ (by omega),h2]; omega
theorem a9n {c : List Int} {r : Nat} (h : Can c r) : Way c (a0T (restL c (2 ^ r) c.sum) (giveM c (2 ^ r) c.sum) (q0L c (2 ^ r) c.sum,hadL c (2 ^ r) c.sum)).1 /\ 2 ^ r <= (a0T (restL c (2 ^ r) c.sum) (giveM c (2 ^ r) c.sum) (q0L c (2 ^ r) c.sum,hadL c (2 ^ r) c.sum)).1.sum:=by
 obtain ⟨h1,h2,h3,h4,h5,h6,h7⟩:=a4R h _ (Nat.le_refl _)
 have h0 : 0 <= (q0L c (2 ^ r) c.sum).sum:=a2I (λ x hx=>by
  obtain ⟨v,hv,rfl⟩:=a7g hx; exact (h.q0 v).1)
 have hp:=a1A h.r12
 have hM : giveM c (2 ^ r) c.sum <= 4096:=by unfold giveM; omega
 refine ⟨⟨h1,λ s=>⟨(h3 s).1,by have:=(h3 s).2; omega⟩,h4⟩,?_⟩
 rw [h5]; unfold giveM; omega
theorem a4S {c : List Int} {r : Nat} (h : Can c r) : Good (normL c r) /\ (normL c r).sum = 2 ^ r /\ ∀ s,0 < (normL c r).getD s 0 ↔ 0 < c.getD s 0:=by
 obtain ⟨hw,hs⟩:=a9n h
 obtain ⟨h1,h2⟩:=a7m h hw _ (Nat.le_refl _)
 have hp:=a1A h.r12
 have e : normL c r = a0Q c ((a0T (restL c (2 ^ r) c.sum) (giveM c (2 ^ r) c.sum) (q0L c (2 ^ r) c.sum,hadL c (2 ^ r) c.sum)).1.sum - 2 ^ r).toNat (a0T (restL c (2 ^ r) c.sum) (giveM c (2 ^ r) c.sum) (q0L c (2 ^ r) c.sum,hadL c (2 ^ r) c.sum)).1:=rfl
 rw [<- e] at h1 h2
 have hsum : (normL c r).sum = 2 ^ r:=by rw [h2]; omega
 refine ⟨⟨h1.len,λ x hx=>?_,by omega⟩,hsum,h1.iff⟩
 obtain ⟨s,hs,rfl⟩:=List.getElem_of_mem hx
 have:=h1.rng s
 rw [List.getD_eq_getElem?_getD,List.getElem?_eq_getElem hs] at this; exact this.1
theorem b4B {c : List Int} {r : Nat} (h : Can c r) : logC (normL c r) = r:=by
 obtain ⟨h1,h2,_⟩:=a4S h
 have hp:=a1A h.r12
 have hr : a0P (normL c r) = true:=rightC_iff.2 ⟨h1.len,h1.nonneg,by omega⟩
 unfold logC a1b
 rw [if_pos hr,h2]
 exact a6w h.r1 h.r12 rfl
open Go.IntWalk Go.Proofs.YtflfjpkmjnnodaaGreat.PRef Go.Proofs.YtflfjpkmjnnodaaGreatW.PrintWords Go.Proofs.YtflfjpkmjnnodaaGreatW.PrintLast Go.Proofs.YtflfjpkmjnnodaaGreatW.PrintMore
section
variable (A : Option Addr) (cp : Nat) (c : List Int) (w : World)
theorem c3s (hr : (Kd.int .i64).C w A c.length c) (hc : c.length <= cp) : Calls Tryz.prog 218 #[.slice A c.length cp] w (Ret (.int .i64 (a1b c)) w):=by
 obtain ⟨k,hk⟩:=(b4n c).rounds
 exact (puncheonref05_Total.calls k A cp c _ w hr hc hk).mono λ e w' h=>⟨h.1,h.2.below⟩
theorem b4C (hr : (Kd.int .i64).C w A c.length c) (hc : c.length <= cp) (hl : c.length <= 1000000) : Calls Tryz.prog 247 #[.slice A c.length cp] w (Ret (.int .i64 (manyC c)) w):=by
 obtain ⟨k,hk⟩:=(b4s c hl).rounds
 exact (puncheonref05_Many.calls k A cp c _ w hr hc hk).mono λ e w' h=>⟨h.1,h.2.below⟩
theorem c3t (r : Nat) (hr : r <= 30) : Calls Tryz.prog 219 #[.int .i64 r] w (Ret (.int .i64 ((2 ^ r : Nat) : Int)) w):=by
 obtain ⟨k,hk⟩:=(b4p r hr).rounds
 exact (puncheonref08_power.calls k r _ w hk).mono λ e w' h=>⟨h.1,h.2.below⟩
theorem c3u (hr : (Kd.int .i64).C w A c.length c) (hc : c.length <= cp) (hq : ∀ x ∈ c,0 <= x /\ x <= 1000000000) (hl : c.length <= 1000000) : Calls Tryz.prog 266 #[.slice A c.length cp] w (Ret (.int .i64 c.sum) w):=by
 obtain ⟨k,hk⟩:=(c3m c hq hl).rounds
 exact (puncheonref08_sum.calls k A cp c _ w hr hc hk).mono λ e w' h=>⟨h.1,h.2.below⟩
theorem c3v (B : Option Addr) (cb : Nat) (had : List Bool) (hr : (Kd.int .i64).C w A c.length c) (hc : c.length <= cp) (hb : Kd.bool.C w B had.length had) (hcb : had.length <= cb) (hl : c.length = 256) (hh : had.length = 256) : Calls Tryz.prog 267 #[.slice A c.length cp,.slice B had.length cb] w (Ret (.int .i64 (needN c had 256)) w):=by
 obtain ⟨k,hk⟩:=(c3h c had hl hh).rounds
 exact (puncheonref08_neediest.calls k A cp c B cb had _ w hr hc hb hcb hk).mono λ e w' h=>⟨h.1,h.2.below⟩
theorem c3w (B : Option Addr) (cb : Nat) (q : List Int) (hq : (Kd.int .i64).C w B q.length q) (hcb : q.length <= cb) (hr : (Kd.int .i64).C w A c.length c) (hc : c.length <= cp) (hl : c.length = 256) (hh : q.length = 256) : Calls Tryz.prog 268 #[.slice B q.length cb,.slice A c.length cp] w (Ret (.int .i64 (richN q c 256)) w):=by
 obtain ⟨k,hk⟩:=(c3k q c hh hl).rounds
 exact (puncheonref08_richest.calls k B cb q A cp c _ w hq hcb hr hc hk).mono λ e w' h=>⟨h.1,h.2.below⟩
theorem c3x (hr : (Kd.int .i64).C w A c.length c) (hc : c.length <= cp) : Calls Tryz.prog 172 #[.slice A c.length cp] w (Ret (.int .i64 (logC c)) w):=by
 obtain ⟨k,hk⟩:=(a7e c).rounds
 exact (puncheonref08_Log.calls k A cp c _ w hr hc hk).mono λ e w' h=>⟨h.1,h.2.below⟩
end
def MadeI (xs : List Int) (w : World) (e : Ending) (w' : World) : Prop:=∃ v,e = .returned v /\ (Kd.int .i64).R 3 w' w.heap.size (λ _=>True) v xs /\ Below w.heap.size w w'
section
variable (A : Option Addr) (cp : Nat) (b : List Int) (w : World) (hr : (Kd.int .u8).C w A b.length b) (hc : b.length <= cp) (hb : Bytes b) (hl : b.length <= 1000000)
include hr hc hb hl
theorem c3y : Calls Tryz.prog 245 #[.slice A b.length cp] w (MadeI (histL b) w):=by
 obtain ⟨k,hk⟩:=(c2R b hb hl).rounds
 exact (puncheonref05_Of.calls k A cp b _ w hr hc hk)
theorem c3z (c : Int) : Calls Tryz.prog 255 #[.slice A b.length cp,.int .i64 c] w (MadeI (histL (a0o b c)) w):=by
 obtain ⟨k,hk⟩:=(b4v b hb hl c).rounds
 exact (puncheonref06_For.calls k A cp b c _ w hr hc hk)
theorem c3A : Calls Tryz.prog 254 #[.slice A b.length cp] w (Ret (.int .i64 (widN b 256)) w):=by
 obtain ⟨k,hk⟩:=(c2X b hb hl).rounds
 exact (puncheonref06_Widest.calls k A cp b _ w hr hc hk)
theorem b4D : Calls Tryz.prog 230 #[.slice A b.length cp] w (MadeI (presN b 256) w):=by
 obtain ⟨k,hk⟩:=(c3a b hb hl).rounds
 exact (puncheonref06_Present.calls k A cp b _ w hr hc hk)
theorem b4E (i : Int) : Calls Tryz.prog 256 #[.slice A b.length cp,.int .i64 i] w (Ret (.int .i64 (ctxI b i)) w):=
 puncheonref06_At.calls A cp b i _ w hr hc (a9j b hb hl i)
end
theorem b4F (n m : Nat) (most : Int) (w : World) (hn : n < 2 ^ 40) (hm : m < 2 ^ 40) : Calls Tryz.prog 246 #[.int .i64 n,.int .i64 m,.int .i64 most] w (Ret (.int .i64 (pickI n m most)) w):=by
 obtain ⟨k,hk⟩:=(c3f n m most hn hm).rounds
 exact (puncheonref07_Pick.calls k n m most _ w hk)
theorem a9o (n : Nat) (hn : n <= 1000000) (w : World) : (Instr.makeSlice 84 (.int .i64 n) (.int .i64 n)).run Tryz.prog w = .ok (.slice (some ⟨w.heap.size,0,none⟩) n n) (w.alloc (.cells (madeCells #[.int .i64 0] n) 3)):=by
 obtain ⟨i0,hi,hzz⟩:=Option.map_eq_some_iff.1 a4x
 simp only [Prod.mk.injEq] at hzz
 obtain ⟨hz0,hz1,hz2⟩:=hzz
 have hr:=run_make (P:=Tryz.prog) w 84 3 i0 (.int .i64 0) Tryz.underlying84 hi hz0 .i64 .i64 (n : Int) (n : Int) (by omega) (by omega) (by rw [hz2]; omega) (by omega)
 rw [hz1] at hr
 simpa [Value.cells] using hr
theorem a7n {α : Type} {enc : α -> Value} {h1 : ∀ x,(enc x).oneCell' = true} (z0 : α) (t : TypeId) (hz : (enc z0).cells = #[enc z0]) (n : Nat) (hn : n <= 1000000) (W : World) (ok : Nat -> Prop) (hok : ok W.heap.size) (base : Nat) (hb : base <= W.heap.size) : (Kd.scalar enc h1).R t (W.alloc (.cells (madeCells #[enc z0] n) t)) base ok (.slice (some ⟨W.heap.size,0,none⟩) n n) (List.replicate n z0):=by
 have hr:=Kd.reps_made (R:=(Kd.scalar enc h1).M (W.alloc (.cells (madeCells #[enc z0] n) t)) base (λ k=>ok k /\ some k ≠ (Value.slice (some ⟨W.heap.size,0,none⟩) n n).ownBlock)) (z:=enc z0) (size:=1) (z0:=z0) (by rw [hz]; rfl) Nat.one_pos (by rw [hz]; rfl) n
 rw [hz,Nat.mul_one] at hr
 refine ⟨λ k hk=>by cases hk; exact hok,_,⟨?_,.inr ⟨W.heap.size,n,madeCells #[enc z0] n,by simp,hb,a0k W _,by simp,by unfold maxLen; omega,?_,?_⟩⟩,hr⟩
 · simp [size_madeCells]; exact (Nat.mul_one n).symm
 · rw [size_madeCells]; exact (Nat.mul_one n).symm
 · rw [List.length_replicate]; exact List.take_of_length_le (by simp [size_madeCells]; exact Nat.le_of_eq (Nat.mul_one n).symm)
end Go.Proofs.YtflfjpkmjnnodaaGreat
namespace Go.Proofs.YtflfjpkmjnnodaaGreat
open Go.RowKit Go.IntWalk Go.Proofs.YtflfjpkmjnnodaaGreatW.PrintWords
theorem c3B : (Tryz.prog.info? 4).map (λ i=>(i.zero,i.size,i.bytes)) = some (some (.bool false),1,1):=by kernel_rfl
theorem c3C (n : Nat) (hn : n <= 1000000) (w : World) : (Instr.makeSlice 142 (.int .i64 n) (.int .i64 n)).run Tryz.prog w = .ok (.slice (some ⟨w.heap.size,0,none⟩) n n) (w.alloc (.cells (madeCells #[.bool false] n) 4)):=by
 obtain ⟨i0,hi,hzz⟩:=Option.map_eq_some_iff.1 c3B
 simp only [Prod.mk.injEq] at hzz
 obtain ⟨hz0,hz1,hz2⟩:=hzz
 have hr:=run_make (P:=Tryz.prog) w 142 4 i0 (.bool false) Tryz.underlying142 hi hz0 .i64 .i64 (n : Int) (n : Int) (by omega) (by omega) (by rw [hz2]; omega) (by omega)
 rw [hz1] at hr
 simpa [Value.cells] using hr
theorem c3D {e : TypeId} {W : World} {base : Nat} {ok : Nat -> Prop} {g n cap : Nat} {xs : List Bool} (h : Kd.bool.R e W base ok (.slice (some ⟨g,0,none⟩) n cap) xs) (i : Nat) (hi : i < n) :
    W.cell? ⟨g,i,none⟩ = some (.bool (xs.getD i false)) /\ W.frozen? ⟨g,i,none⟩ = false:=by
 obtain ⟨c,hl,hm,hc,hf⟩:=Kd.R_elem h false (i : Int) (by omega) (by omega)
 have hm' : c = [.bool (xs.getD (i : Int).toNat false)]:=hm
 subst hm'
 simp only [Int.toNat_natCast] at hc hf
 have e1 : i * Kd.bool.sz + 0 = i:=by show i * 1 + 0 = i; omega
 have h1:=hc 0 _ rfl
 have h2:=hf 0
 rw [e1] at h1 h2
 exact ⟨h1,h2⟩
structure Three (N : Nat) (w0 : World) (q r : List Int) (h : List Bool) (w : World) : Prop where
 q : (Kd.int .i64).R 3 w N (λ b=>b = N) (.slice (some ⟨N,0,none⟩) 256 256) q
 r : (Kd.int .i64).R 3 w N (λ b=>b = N + 1) (.slice (some ⟨N + 1,0,none⟩) 256 256) r
 h : Kd.bool.R 4 w N (λ b=>b = N + 2) (.slice (some ⟨N + 2,0,none⟩) 256 256) h
 below : Below N w0 w
theorem Three.setq {N : Nat} {w0 w : World} {q r : List Int} {h : List Bool} (H : Three N w0 q r h w) (s : Nat) (y : Int) : Three N w0 (q.set s y) r h (w.setCell ⟨N,s,none⟩ (.int .i64 y)):=
 ⟨Kd.R_putn H.q (s : Int) y,Kd.R_far (p:=⟨N,s,none⟩) H.r (λ k hk=>by show k ≠ N; omega) _,Kd.R_far (p:=⟨N,s,none⟩) H.h (λ k hk=>by show k ≠ N; omega) _,H.below.setCell (Nat.le_refl _) _⟩
theorem Three.setr {N : Nat} {w0 w : World} {q r : List Int} {h : List Bool} (H : Three N w0 q r h w) (s : Nat) (y : Int) : Three N w0 q (r.set s y) h (w.setCell ⟨N + 1,s,none⟩ (.int .i64 y)):=
 ⟨Kd.R_far (p:=⟨N + 1,s,none⟩) H.q (λ k hk=>by show k ≠ N + 1; omega) _,Kd.R_putn H.r (s : Int) y,Kd.R_far (p:=⟨N + 1,s,none⟩) H.h (λ k hk=>by show k ≠ N + 1; omega) _,H.below.setCell (by show N <= N + 1; omega) _⟩
theorem Three.seth {N : Nat} {w0 w : World} {q r : List Int} {h : List Bool} (H : Three N w0 q r h w) (s : Nat) (y : Bool) : Three N w0 q r (h.set s y) (w.setCell ⟨N + 2,s,none⟩ (.bool y)):=
 ⟨Kd.R_far (p:=⟨N + 2,s,none⟩) H.q (λ k hk=>by show k ≠ N + 2; omega) _,Kd.R_far (p:=⟨N + 2,s,none⟩) H.r (λ k hk=>by show k ≠ N + 2; omega) _,Kd.R_putn H.h (s : Int) y,H.below.setCell (by show N <= N + 2; omega) _⟩
theorem Three.later {N : Nat} {w0 w w' : World} {q r : List Int} {h : List Bool} (H : Three N w0 q r h w) (hb : Below w.heap.size w w') : Three N w0 q r h w':=
 ⟨Kd.R_below H.q hb,Kd.R_below H.r hb,Kd.R_below H.h hb,H.below.trans (hb.mono (by have:=(Kd.R_bound H.q).1 N rfl; omega))⟩
theorem Three.cells {N : Nat} {w0 w : World} {q r : List Int} {h : List Bool} (H : Three N w0 q r h w) (k : Nat) (hk : k < 256) :
    (w.cell? ⟨N,k,none⟩ = some (.int .i64 (q.getD k 0)) /\ w.frozen? ⟨N,k,none⟩ = false) /\ (w.cell? ⟨N + 1,k,none⟩ = some (.int .i64 (r.getD k 0)) /\ w.frozen? ⟨N + 1,k,none⟩ = false) /\ (w.cell? ⟨N + 1 + 1,k,none⟩ = some (.bool (h.getD k false)) /\ w.frozen? ⟨N + 1 + 1,k,none⟩ = false):=
 ⟨a1C H.q k hk,a1C H.r k hk,c3D H.h k hk⟩
theorem Three.at_ {N : Nat} {w0 w ww : World} {q r : List Int} {h : List Bool} {A : Option Addr} {c : List Int} (H : Three N w0 q r h ww) (hr : (Kd.int .i64).C w A c.length c) (hb : Below w.heap.size w w0) (hN : w0.heap.size = N) : (Kd.int .i64).C ww A c.length c:=
 Kd.C_below hr (hb.trans (H.below.mono (by have:=hb.size; omega)))
theorem a9p {W : World} {ad : Addr} {c : List Int} (h : (Kd.int .i64).C W (some ad) c.length c) (k : Nat) (hk : k < c.length) : W.cell? (ad.add k) = some (.int .i64 (c.getD k 0)):=by
 obtain ⟨ad',e,hc⟩:=a0v h k hk
 cases e; exact hc
theorem c3E (w : World) : Three w.heap.size w (List.replicate 256 0) (List.replicate 256 0) (List.replicate 256 false) (((w.alloc (.cells (madeCells #[.int .i64 0] 256) 3)).alloc (.cells (madeCells #[.int .i64 0] 256) 3)).alloc (.cells (madeCells #[.bool false] 256) 4)):=by
 have b1 : Below w.heap.size w (w.alloc (.cells (madeCells #[.int .i64 0] 256) 3)):=(Below.refl _ _).alloc (Nat.le_refl _) _
 have s1 : (w.alloc (.cells (madeCells #[.int .i64 0] 256) 3)).heap.size = w.heap.size + 1:=by simp
 have s2 : ((w.alloc (.cells (madeCells #[.int .i64 0] 256) 3)).alloc (.cells (madeCells #[.int .i64 0] 256) 3)).heap.size = w.heap.size + 2:=by simp
 refine ⟨Kd.R_alloc (Kd.R_alloc (a7n (enc:=Value.int .i64) (h1:=λ _=>rfl) (0 : Int) 3 rfl 256 (by omega) w (λ b=>b = w.heap.size) rfl w.heap.size (Nat.le_refl _)) _) _,Kd.R_alloc ?_ _,?_,((b1.alloc (by omega) _).alloc (by omega) _)⟩
 · have:=a7n (enc:=Value.int .i64) (h1:=λ _=>rfl) (0 : Int) 3 rfl 256 (by omega) (w.alloc (.cells (madeCells #[.int .i64 0] 256) 3)) (λ b=>b = w.heap.size + 1) s1 w.heap.size (by omega)
   rw [s1] at this; exact this
 · have:=a7n (enc:=Value.bool) (h1:=λ _=>rfl) false 4 rfl 256 (by omega) ((w.alloc (.cells (madeCells #[.int .i64 0] 256) 3)).alloc (.cells (madeCells #[.int .i64 0] 256) 3)) (λ b=>b = w.heap.size + 2) s2 w.heap.size (by omega)
   rw [s2] at this; exact this
def qTo (c : List Int) (P n : Int) (k : Nat) : List Int:=mapR (λ s=>if s < k then q0F c P n s else 0)
def rTo (c : List Int) (P n : Int) (k : Nat) : List Int:=mapR (λ s=>if s < k then c.getD s 0 * P % n else 0)
def hTo (c : List Int) (P n : Int) (k : Nat) : List Bool:=(List.range 256).map (λ s=>if s < k then decide (c.getD s 0 * P / n = 0) else false)
theorem a9q (c : List Int) (P n : Int) : qTo c P n 0 = List.replicate 256 0 /\ rTo c P n 0 = List.replicate 256 0 /\ hTo c P n 0 = List.replicate 256 false:=by
 have e : ∀ {α : Type} (z : α) (f : Nat -> α),(∀ s,f s = z) -> (List.range 256).map f = List.replicate 256 z:=λ z f h=>by
  rw [show f = λ _=>z from funext h,List.map_const',List.length_range]
 exact ⟨e 0 (λ s=>if s < 0 then q0F c P n s else 0) (λ s=>by rw [if_neg (by omega)]),e 0 (λ s=>if s < 0 then c.getD s 0 * P % n else 0) (λ s=>by rw [if_neg (by omega)]),e false (λ s=>if s < 0 then decide (c.getD s 0 * P / n = 0) else false) (λ s=>by rw [if_neg (by omega)])⟩
theorem a9r (c : List Int) (P n : Int) : qTo c P n 256 = q0L c P n /\ rTo c P n 256 = restL c P n /\ hTo c P n 256 = hadL c P n:=
 ⟨a3j (λ s h=>by rw [if_pos h]),a3j (λ s h=>by rw [if_pos h]),List.map_congr_left (λ s h=>by rw [if_pos (List.mem_range.1 h)])⟩
theorem a7o (f : Nat -> Int) {k : Nat} (hk : k < 256) : (mapR (λ s=>if s < k then f s else 0)).set k (f k) = mapR (λ s=>if s < k + 1 then f s else 0):=by
 rw [a7f _ hk]
 refine a3j (λ s _=>?_)
 by_cases e : s = k
 · subst e; rw [if_pos rfl,if_pos (by omega)]
 · rw [if_neg e]
   by_cases e2 : s < k
   · rw [if_pos e2,if_pos (by omega)]
   · rw [if_neg e2,if_neg (by omega)]
theorem b4G (c : List Int) (P n : Int) {k : Nat} (_ : k < 256) : (hTo c P n k).set k (decide (c.getD k 0 * P / n = 0)) = hTo c P n (k + 1):=by
 unfold hTo
 apply List.ext_getElem
 · simp
 · intro i h1 h2
   rw [List.getElem_set]
   simp only [List.getElem_map,List.getElem_range]
   by_cases e : k = i
   · subst e; rw [if_pos rfl,if_pos (by omega)]
   · rw [if_neg e]
     by_cases e2 : i < k
     · rw [if_pos e2,if_pos (by omega)]
     · rw [if_neg e2,if_neg (by omega)]
theorem c3F (c : List Int) (P n : Int) {k : Nat} (h : c.getD k 0 * P / n ≠ 0) (hk : k < 256) : hTo c P n (k + 1) = hTo c P n k:=by
 rw [<- b4G c P n hk,decide_eq_false h]
 unfold hTo
 apply List.ext_getElem
 · simp
 · intro i h1 h2
   rw [List.getElem_set]
   split
   · rename_i e; subst e; simp
   · rfl
theorem b4H (q : List Int) (k : Nat) (x y : Int) : (q.set k x).set k y = q.set k y:=by simp
theorem b4I {c : List Int} {k x n P m dq rm : Nat} (hk : k < 256) (hx : c.getD k 0 = x) (hm : m = x * P) (hd : dq = m / n) (hr : rm = m % n) :
    (dq = 0 -> (((qTo c P n k).set k (dq : Int)).set k (min (x : Int) 1) = qTo c P n (k + 1) /\ (hTo c P n k).set k true = hTo c P n (k + 1))) /\ (dq ≠ 0 -> ((qTo c P n k).set k (dq : Int) = qTo c P n (k + 1) /\ hTo c P n k = hTo c P n (k + 1))) /\ (rTo c P n k).set k (rm : Int) = rTo c P n (k + 1):=by
 have e1 : c.getD k 0 * (P : Int) / (n : Int) = dq:=by rw [hx,hd,hm]; simp
 have e2 : c.getD k 0 * (P : Int) % (n : Int) = rm:=by rw [hx,hr,hm]; simp
 refine ⟨λ hz=>⟨?_,?_⟩,λ hz=>⟨?_,?_⟩,?_⟩
 · rw [b4H]
   have:=a7o (q0F c P n) hk
   unfold q0F at this
   rw [e1,if_pos (by omega),hx] at this; exact this
 · have:=b4G c P n hk
   rw [e1,decide_eq_true (by omega)] at this; exact this
 · have:=a7o (q0F c P n) hk
   unfold q0F at this
   rw [e1,if_neg (by omega)] at this; exact this
 · exact (c3F c P n (by rw [e1]; omega) hk).symm
 · have:=a7o (λ s=>c.getD s 0 * (P : Int) % (n : Int)) hk
   rw [e2] at this; exact this
theorem a7p (A : Option Addr) (q : List Int) (w : World) (hr : (Kd.int .i64).C w A q.length q) (hl : q.length = 256) (hq : ∀ s,0 <= q.getD s 0 /\ q.getD s 0 <= 100000) : Calls Tryz.prog 266 #[.slice A 256 256] w (Ret (.int .i64 q.sum) w):=by
 have h:=c3u A 256 q w hr (by omega) (λ x hx=>by
  obtain ⟨s,hs,rfl⟩:=List.getElem_of_mem hx
  have:=hq s
  rw [List.getD_eq_getElem?_getD,List.getElem?_eq_getElem hs] at this
  exact ⟨this.1,by have:=this.2; simp only [Option.getD_some] at this; omega⟩) (by omega)
 rw [hl] at h; exact h
theorem c3G (A B : Option Addr) (c : List Int) (had : List Bool) (w : World) (hr : (Kd.int .i64).C w A c.length c) (hb : Kd.bool.C w B had.length had) (hl : c.length = 256) (hh : had.length = 256) : Calls Tryz.prog 267 #[.slice A 256 256,.slice B 256 256] w (Ret (.int .i64 (needN c had 256)) w):=by
 have h:=c3v A 256 c w B 256 had hr (by omega) hb (by omega) hl hh
 rw [hl,hh] at h; exact h
theorem c3H (A B : Option Addr) (cp : Nat) (c q : List Int) (w : World) (hq : (Kd.int .i64).C w B q.length q) (hr : (Kd.int .i64).C w A c.length c) (hc : c.length <= cp) (hl : c.length = 256) (hh : q.length = 256) : Calls Tryz.prog 268 #[.slice B 256 256,.slice A c.length cp] w (Ret (.int .i64 (richN q c 256)) w):=by
 have h:=c3w A cp c w B 256 q hq (by omega) hr hc hl hh
 rw [hh] at h; exact h
theorem c3I {c : List Int} {r m : Nat} (h : Can c r) (hm : m + 1 <= giveM c (2 ^ r) c.sum) : ∃ t : Nat,needN (restL c (2 ^ r) c.sum) (a0T (restL c (2 ^ r) c.sum) m (q0L c (2 ^ r) c.sum,hadL c (2 ^ r) c.sum)).2 256 = t /\ t < 256:=by
 obtain ⟨h1,h2,h3,h4,h5,h6,h7⟩:=a4R h m (by omega)
 have hen:=h.enough
 have hM : (m : Int) + 1 <= 2 ^ r - (q0L c (2 ^ r) c.sum).sum:=by unfold giveM at hm; omega
 obtain ⟨s0,hs0,hf0⟩:=a9m h2 (by omega)
 have hn0:=a9l (restL c (2 ^ r) c.sum) _ hf0 256 hs0
 have hnl:=a4P (restL c (2 ^ r) c.sum) (a0T (restL c (2 ^ r) c.sum) m (q0L c (2 ^ r) c.sum,hadL c (2 ^ r) c.sum)).2 256
 exact ⟨_,(Int.toNat_of_nonneg hn0).symm,by omega⟩
def a9s (c : List Int) (r : Nat) (w : World) (e : Ending) (w' : World) : Prop:=∃ v,e = .returned (.tuple #[v,.int .i64 0]) /\ (Kd.int .i64).R 3 w' w.heap.size (λ _=>True) v (normL c r) /\ Below w.heap.size w w'
set_option maxRecDepth 100000 in
set_option maxHeartbeats 2000000 in
theorem b4J (A : Option Addr) (cp : Nat) (c : List Int) (r : Nat) (w : World) (hr : (Kd.int .i64).C w A c.length c) (hcp : c.length <= cp) (h : Can c r) :
    Calls Tryz.prog 248 #[.slice A c.length cp,.int .i64 r] w (a9s c r w):=by
 have HR:=Lib.hid hr
 have HC:=Lib.hid h
 have hR : a0P c = true:=rightC_iff.2 ⟨h.len,h.nonneg,h.le⟩
 have hT : a1b c = c.sum:=by unfold a1b; rw [if_pos hR]
 have hM : manyC c <= 2 ^ r:=by unfold manyC; rw [if_pos hR]; exact h.many
 obtain ⟨n,hn⟩ : ∃ n : Nat,c.sum = n:=⟨c.sum.toNat,by have:=h.pos; omega⟩
 have HTot:=Lib.hid (c3s A cp c w hr hcp)
 rw [hT,hn] at HTot
 obtain ⟨P,hP⟩ : ∃ P : Nat,2 ^ r = P:=⟨_,rfl⟩
 have hPb : 1 <= P /\ P <= 4096:=by
  have:=a1A h.r12
  have e2 : (2 : Int) ^ r = ((2 ^ r : Nat) : Int):=by simp
  rw [e2,hP] at this; omega
 have HPow : Hid (∀ w,Calls Tryz.prog 219 #[.int .i64 r] w (Ret (.int .i64 (P : Int)) w)):=λ w=>by rw [<- hP]; exact c3t w r (by have:=h.r12; omega)
 have HN : Hid (c.sum = n /\ 2 ^ r = P /\ manyC c <= P):=⟨hn,hP,by omega⟩
 have hn0 : ((n : Int) == 0) = false:=by have:=h.pos; simp; omega
 have hn1 : 1 <= n /\ n <= 1073741824:=by have:=h.pos; have:=h.le; omega
 have hr1 : decide ((r : Int) < 1) = false:=decide_eq_false (by have:=h.r1; omega)
 have hr2 : decide (12 < (r : Int)) = false:=decide_eq_false (by have:=h.r12; omega)
 have HCP : Hid (c.length <= cp /\ c.length = 256):=⟨hcp,h.len⟩
 clear hr h hR hT hM hn hP hcp
 have hmi : ∀ w : World,(Instr.makeSlice 84 (.int .i64 256) (.int .i64 256)).run Tryz.prog w = .ok (.slice (some ⟨w.heap.size,0,none⟩) 256 256) (w.alloc (.cells (madeCells #[.int .i64 0] 256) 3)):=λ w=>a9o 256 (by omega) w
 have hmb : ∀ w : World,(Instr.makeSlice 142 (.int .i64 256) (.int .i64 256)).run Tryz.prog w = .ok (.slice (some ⟨w.heap.size,0,none⟩) 256 256) (w.alloc (.cells (madeCells #[.bool false] 256) 4)):=λ w=>c3C 256 (by omega) w
 go_enter Tryz.func248,Tryz.ntmps248
 go_wp2_with fail
 refine HTot.out.mono ?_
 rintro e w1 ⟨rfl,hb1⟩
 have HB1:=Lib.hid hb1
 clear hb1
 go_wp2_with fail
 refine (HPow.out w1).mono ?_
 rintro e w2 ⟨rfl,hb2⟩
 have HB2 : Hid (Below w.heap.size w w2):=HB1.out.trans (hb2.mono HB1.out.size)
 clear hb2
 go_wp2_with fail
 refine (b4C A cp c w2 (Kd.C_below HR.out HB2.out) HCP.out.1 (by have:=HCP.out.2; omega)).mono ?_
 rintro e w3 ⟨rfl,hb3⟩
 have HB3 : Hid (Below w.heap.size w w3):=HB2.out.trans (hb3.mono HB2.out.size)
 have hmp : decide (P < manyC c) = false:=decide_eq_false (by have:=HN.out.2.2; omega)
 clear hb3
 obtain ⟨N,hNs⟩ : ∃ N,N = w3.heap.size:=⟨_,rfl⟩
 have H3:=Lib.hid (c3E w3)
 rw [<- hNs] at H3
 go_wp2_with fail
 rw [<- hNs]
 obtain ⟨W,hW⟩ : ∃ W,W = ((w3.alloc (.cells (madeCells #[.int .i64 0] 256) 3)).alloc (.cells (madeCells #[.int .i64 0] 256) 3)).alloc (.cells (madeCells #[.bool false] 256) 4):=⟨_,rfl⟩
 rw [<- hW] at H3 ⊢
 have HNs:=Lib.hid hNs
 clear hW hNs hmi hmb hmp
 go_loopw [11] (λ kv wr=>∃ (k : Nat),kv = .int .i64 k /\ k <= 256 /\ Hid (Three N w3 (qTo c P n k) (rTo c P n k) (hTo c P n k) wr)) (λ kv _=>256 - (intOf kv).toNat)
 case atStart=>exact ⟨0,rfl,by omega,by obtain ⟨a,b,d⟩:=a9q c P n; show Three _ _ _ _ _ _; rw [a,b,d]; exact H3.out⟩
 case round=>
  obtain ⟨k,rfl,hk,H⟩:=hrel
  by_cases hlt : k < 256
  · have hC:=Kd.C_below HR.out (HB3.out.trans (H.out.below.mono (by have:=HB3.out.size; have:=HNs.out; omega)))
    have hcl:=HCP.out.2
    obtain ⟨ad,rfl,hcx⟩:=a0v hC k (by omega)
    have hcg:=HC.out.get k
    obtain ⟨x,hx⟩ : ∃ x : Nat,c.getD k 0 = x:=⟨(c.getD k 0).toNat,by omega⟩
    rw [hx] at hcx hcg
    have hkc : (k : Int) < (c.length : Int):=by omega
    obtain ⟨⟨q1,q2⟩,⟨r1,r2⟩,⟨b1,b2⟩⟩:=H.out.cells k (by omega)
    obtain ⟨m,hm⟩ : ∃ m : Nat,m = x * P:=⟨_,rfl⟩
    have hxn : x <= n:=by have:=HN.out.1; omega
    have hm42 : m <= 4398046511104:=by
     rw [hm]
     calc x * P <= 1073741824 * 4096:=Nat.mul_le_mul (by omega) (by omega)
      _ = 4398046511104:=by decide
    have hmI : (x : Int) * (P : Int) = (m : Int):=by rw [hm]; simp
    have hdq : (m : Int) / (n : Int) = ((m / n : Nat) : Int):=by simp
    have hrm : (m : Int) % (n : Int) = ((m % n : Nat) : Int):=by simp
    obtain ⟨dq,hdqe⟩ : ∃ dq,dq = m / n:=⟨_,rfl⟩
    obtain ⟨rm,hrme⟩ : ∃ rm,rm = m % n:=⟨_,rfl⟩
    rw [<- hdqe] at hdq
    rw [<- hrme] at hrm
    have hdb : dq <= 4398046511104:=by rw [hdqe]; exact Nat.le_trans (Nat.div_le_self _ _) hm42
    have hn00 : ¬ (n : Int) = 0:=by omega
    have HX:=Lib.hid (And.intro hx (And.intro hm (And.intro hdqe hrme)))
    clear hx hm hdqe hrme hcl hC
    have Ha:=Lib.hid (H.out.setq k (dq : Int))
    have Hb:=Lib.hid (Ha.out.setr k (rm : Int))
    have hqe : ((qTo c P n k).set k (dq : Int)).getD k 0 = dq:=by rw [a3k _ _ _ _ (by unfold qTo; rw [a1z]; omega),if_pos rfl]
    obtain ⟨⟨q3,q4⟩,⟨r3,r4⟩,⟨b3,b4⟩⟩:=Ha.out.cells k (by omega)
    obtain ⟨⟨q5,q6⟩,⟨r5,r6⟩,⟨b5,b6⟩⟩:=Hb.out.cells k (by omega)
    have c3:=a9p (Ha.out.at_ HR.out HB3.out HNs.out.symm) k (by omega)
    have c5:=a9p (Hb.out.at_ HR.out HB3.out HNs.out.symm) k (by omega)
    rw [hqe] at q3 q5
    rw [HX.out.1] at c3 c5
    clear hqe
    by_cases hz : dq = 0
    · have hzb : ((dq : Int) == 0) = true:=by rw [hz]; rfl
      have HZ:=Lib.hid hz
      clear hz
      have Hc:=Lib.hid (Hb.out.seth k true)
      obtain ⟨⟨q7,q8⟩,⟨r7,r8⟩,⟨b7,b8⟩⟩:=Hc.out.cells k (by omega)
      have c7:=a9p (Hc.out.at_ HR.out HB3.out HNs.out.symm) k (by omega)
      rw [HX.out.1] at c7
      have hE:=Lib.hid (Hc.out.setq k (min (x : Int) 1))
      go_wp2_with fail
      go_roundw
      case rel=>
       refine ⟨k + 1,by go_num,by omega,?_⟩
       obtain ⟨h3,_,h5⟩:=b4I (n:=n) hlt HX.out.1 HX.out.2.1 HX.out.2.2.1 HX.out.2.2.2
       obtain ⟨h3a,h3b⟩:=h3 HZ.out
       have:=hE.out
       rw [h3a,h3b,h5] at this; exact this
      case measure=>simp [intOf]; omega
    · have hzb : ((dq : Int) == 0) = false:=by simp; omega
      have HZ:=Lib.hid hz
      clear hz
      go_wp2_with fail
      go_roundw
      case rel=>
       refine ⟨k + 1,by go_num,by omega,?_⟩
       obtain ⟨_,h4,h5⟩:=b4I (n:=n) hlt HX.out.1 HX.out.2.1 HX.out.2.2.1 HX.out.2.2.2
       obtain ⟨h4a,h4b⟩:=h4 HZ.out
       have:=Hb.out
       rw [h4a,h4b,h5] at this; exact this
      case measure=>simp [intOf]; omega
  · obtain rfl : k = 256:=by omega
    have HE : Hid (Three N w3 (q0L c P n) (restL c P n) (hadL c P n) wr):=by
     obtain ⟨a,b,d⟩:=a9r c P n
     have:=H.out
     rw [a,b,d] at this; exact this
    have HPP : Hid ((P : Int) = 2 ^ r /\ (n : Int) = c.sum):=⟨by rw [<- HN.out.2.1]; simp,HN.out.1.symm⟩
    go_wp2_with fail
    obtain ⟨wo,hwo⟩ : ∃ wo : World,wo = wr:=⟨_,rfl⟩
    rw [<- hwo] at HE ⊢
    clear hwo H
    obtain ⟨M,hM⟩ : ∃ M,M = giveM c (2 ^ r) c.sum:=⟨_,rfl⟩
    have HM:=Lib.hid hM
    clear hM
    go_loopg [] M (λ kq wr=>∃ m,m + kq = M /\ Hid (Three N w3 (a0T (restL c P n) m (q0L c P n,hadL c P n)).1 (restL c P n) (a0T (restL c P n) m (q0L c P n,hadL c P n)).2 wr))
    case atStart=>exact ⟨0,by omega,HE.out⟩
    case round=>
     obtain ⟨m,hm,H⟩:=hrel
     have hw:=a4R HC.out m (by rw [<- HM.out]; omega)
     rw [<- HPP.out.1,<- HPP.out.2] at hw
     obtain ⟨st,hst⟩ : ∃ st,st = a0T (restL c P n) m (q0L c P n,hadL c P n):=⟨_,rfl⟩
     rw [<- hst] at hw H
     have HST:=Lib.hid hst
     obtain ⟨g1,g2,g3,g4,g5,g6,g7⟩:=hw
     have hsz : N <= wr.heap.size:=by have:=(Kd.R_bound H.out.q).1 N rfl; omega
     have hgl : m <= 4096:=by
      have h0 : 0 <= (q0L c P n).sum:=by
       rw [HPP.out.1,HPP.out.2]; exact a2I (λ x hx=>by obtain ⟨v,hv,rfl⟩:=a7g hx; exact (HC.out.q0 v).1)
      have : M <= 4096:=by rw [HM.out,<- HPP.out.1,<- HPP.out.2]; unfold giveM; omega
      omega
     have HG:=Lib.hid (And.intro g1 (And.intro g2 (And.intro g3 (And.intro g5 hgl))))
     clear g1 g2 g3 g4 g5 g6 g7 hst hsz
     by_cases hlt : m < M
     · obtain ⟨t,ht,ht256⟩:=c3I HC.out (m:=m) (by rw [<- HM.out]; omega)
       rw [<- HPP.out.1,<- HPP.out.2,<- HST.out] at ht
       have hsl : decide (st.1.sum < (P : Int)) = true:=decide_eq_true (by
        have e:=HG.out.2.2.2.1
        have : (M : Int) = P - (q0L c P n).sum:=by
         have h2:=HM.out
         rw [<- HPP.out.1,<- HPP.out.2] at h2
         unfold giveM at h2; omega
        omega)
       have HT2:=Lib.hid ht
       clear ht
       go_wp2_with fail
       refine (a7p (some ⟨N,0,none⟩) st.1 wr (Kd.R_reads' H.out.q).2.2 HG.out.1 (λ s=>⟨(HG.out.2.2.1 s).1,by have:=(HG.out.2.2.1 s).2; have:=HG.out.2.2.2.2; omega⟩)).mono ?_
       rintro e w4 ⟨rfl,hb4⟩
       have H4:=Lib.hid (H.out.later hb4)
       clear hb4
       go_wp2_with fail
       refine (c3G (some ⟨N + 1,0,none⟩) (some ⟨N + 2,0,none⟩) (restL c P n) st.2 w4 (Kd.R_reads' H4.out.r).2.2 (Kd.R_reads' H4.out.h).2.2 (a1z _) HG.out.2.1).mono ?_
       rw [HT2.out]
       rintro e w5 ⟨rfl,hb5⟩
       have H5:=Lib.hid (H4.out.later hb5)
       clear hb5
       obtain ⟨⟨q3,q4⟩,⟨r3,r4⟩,⟨b3,b4⟩⟩:=H5.out.cells t ht256
       have H6:=Lib.hid (H5.out.seth t true)
       obtain ⟨⟨q5,q6⟩,⟨r5,r6⟩,⟨b5,b6⟩⟩:=H6.out.cells t ht256
       have htI : (t : Int) < 256:=by omega
       have hgt:=HG.out.2.2.1 t
       obtain ⟨y,hy⟩ : ∃ y,y = st.1.getD t 0:=⟨_,rfl⟩
       rw [<- hy] at q3 q5 hgt
       have hgt2 : y <= 8192:=by have:=HG.out.2.2.2.2; omega
       have HY:=Lib.hid hy
       have H7:=Lib.hid (H6.out.setq t (y + 1))
       clear hy
       go_wp2_with fail
       go_roundg (gk - 1)
       case rel=>
        refine ⟨m + 1,by omega,?_⟩
        show Three _ _ _ _ _ _
        simp only [a0T]
        rw [<- HST.out,HT2.out,Int.toNat_natCast,<- HY.out]
        exact H7.out
       case measure=>omega
     · obtain rfl : m = M:=by omega
       have hsl : decide (st.1.sum < (P : Int)) = false:=decide_eq_false (by
        have e:=HG.out.2.2.2.1
        have : (P : Int) - (q0L c P n).sum <= (m : Int):=by
         have h2:=HM.out
         rw [<- HPP.out.1,<- HPP.out.2] at h2
         unfold giveM at h2; omega
        omega)
       go_wp2_with fail
       refine (a7p (some ⟨N,0,none⟩) st.1 wr (Kd.R_reads' H.out.q).2.2 HG.out.1 (λ s=>⟨(HG.out.2.2.1 s).1,by have:=(HG.out.2.2.1 s).2; have:=HG.out.2.2.2.2; omega⟩)).mono ?_
       rintro e w4 ⟨rfl,hb4⟩
       have H4:=Lib.hid (H.out.later hb4)
       clear hb4
       go_wp2_with fail
       have HGE:=a9n HC.out
       rw [<- HPP.out.1,<- HPP.out.2,show giveM c (P : Int) (n : Int) = m by rw [HM.out,<- HPP.out.1,<- HPP.out.2],<- HST.out] at HGE
       have HWay:=Lib.hid HGE
       clear HGE
       obtain ⟨M3,hM3⟩ : ∃ M3,M3 = (st.1.sum - (P : Int)).toNat:=⟨_,rfl⟩
       have HM3:=Lib.hid hM3
       obtain ⟨wp,hwp⟩ : ∃ wp : World,wp = w4:=⟨_,rfl⟩
       rw [<- hwp] at H4 ⊢
       clear hwp hM3 hsl
       go_loopg [] M3 (λ kq ws=>∃ j,j + kq = M3 /\ Hid (Three N w3 (a0Q c j st.1) (restL c P n) st.2 ws))
       case atStart=>exact ⟨0,by omega,H4.out⟩
       case round=>
        obtain ⟨j,hj,H⟩:=hrel
        have hway:=a7m HC.out HWay.out.1 j (by rw [<- HPP.out.1,<- HM3.out]; omega)
        obtain ⟨u,hu⟩ : ∃ u,u = a0Q c j st.1:=⟨_,rfl⟩
        rw [<- hu] at hway H
        have HU:=Lib.hid hu
        have HW:=Lib.hid hway
        have hbl:=a4Q u c 256
        obtain ⟨t,ht⟩ : ∃ t,t = richN u c 256:=⟨_,rfl⟩
        rw [<- ht] at hbl
        have HT3:=Lib.hid ht
        have ht256 : t < 256:=by omega
        clear hu hway ht hbl
        by_cases hlt : j < M3
        · have hsl : decide ((P : Int) < u.sum) = true:=decide_eq_true (by have:=HW.out.2; have:=HM3.out; omega)
          go_wp2_with fail
          refine (a7p (some ⟨N,0,none⟩) u wr (Kd.R_reads' H.out.q).2.2 HW.out.1.len HW.out.1.rng).mono ?_
          rintro e w5 ⟨rfl,hb5⟩
          have H5:=Lib.hid (H.out.later hb5)
          clear hb5
          go_wp2_with fail
          refine (c3H A (some ⟨N,0,none⟩) cp c u w5 (Kd.R_reads' H5.out.q).2.2 (H5.out.at_ HR.out HB3.out HNs.out.symm) HCP.out.1 HCP.out.2 HW.out.1.len).mono ?_
          rw [<- HT3.out]
          rintro e w6 ⟨rfl,hb6⟩
          have H6:=Lib.hid (H5.out.later hb6)
          clear hb6
          obtain ⟨⟨q3,q4⟩,_,_⟩:=H6.out.cells t ht256
          have htI : (t : Int) < 256:=by omega
          have hgt:=HW.out.1.rng t
          obtain ⟨y,hy⟩ : ∃ y,y = u.getD t 0:=⟨_,rfl⟩
          rw [<- hy] at q3 hgt
          obtain ⟨hgt1,hgt2⟩:=hgt
          have HY:=Lib.hid hy
          have H7:=Lib.hid (H6.out.setq t (y - 1))
          clear hy
          go_wp2_with fail
          go_roundg (gk - 1)
          case rel=>
           refine ⟨j + 1,by omega,?_⟩
           show Three _ _ _ _ _ _
           simp only [a0Q]
           rw [<- HU.out,<- HT3.out,<- HY.out]
           exact H7.out
          case measure=>omega
        · obtain rfl : j = M3:=by omega
          have hsl : decide ((P : Int) < u.sum) = false:=decide_eq_false (by have:=HW.out.2; have:=HM3.out; omega)
          go_wp2_with fail
          refine (a7p (some ⟨N,0,none⟩) u wr (Kd.R_reads' H.out.q).2.2 HW.out.1.len HW.out.1.rng).mono ?_
          rintro e w5 ⟨rfl,hb5⟩
          have H5:=Lib.hid (H.out.later hb5)
          clear hb5
          go_wp2_with fail
          go_ret2
          have hnorm : u = normL c r:=by
           rw [HU.out,HM3.out,HST.out]
           unfold normL
           simp only []
           rw [show (2 : Int) ^ r = P from HPP.out.1.symm,HPP.out.2.symm,show giveM c (P : Int) (n : Int) = m by rw [HM.out,<- HPP.out.1,<- HPP.out.2]]
          unfold a9s
          rw [<- hnorm]
          exact ⟨_,rfl,Kd.R_mono (Kd.R_lower H5.out.q (by have:=HB3.out.size; have:=HNs.out; omega)) (λ _ _=>trivial),HB3.out.trans (H5.out.below.mono (by have:=HB3.out.size; have:=HNs.out; omega))⟩
end Go.Proofs.YtflfjpkmjnnodaaGreat
namespace Go.Proofs.YtflfjpkmjnnodaaGreat
open Go.RowKit Go.Proofs.YtflfjpkmjnnodaaGreatW.PrintWords Go.Proofs.YtflfjpkmjnnodaaGreatW.PrintLast Go.Proofs.YtflfjpkmjnnodaaGreatW.PrintMore
theorem a9t (b : List Int) (hb : Bytes b) : (histL b).sum = b.length:=by
 induction b with
 | nil=>
  unfold histL mapR
  have : ∀ l : List Nat,(l.map (λ (v : Nat)=>(((([] : List Int).count (v : Int)) : Nat) : Int))).sum = 0:=by
   intro l; induction l with
   | nil=>rfl
   | cons a l ih=>rw [List.map_cons,List.sum_cons,ih]; simp
  exact this _
 | cons x l ih=>
  have hx:=hb x (by simp)
  have ih2:=ih (λ y hy=>hb y (by simp [hy]))
  obtain ⟨v,rfl⟩ : ∃ v : Nat,x = v:=⟨x.toNat,by omega⟩
  have e : histL ((v : Int) :: l) = (histL l).set v ((l.count (v : Int) : Int) + 1):=by
   unfold histL
   rw [a7f _ (by omega)]
   refine a3j (λ u _=>?_)
   rw [List.count_cons]
   by_cases e : u = v
   · subst e; rw [if_pos rfl]; simp
   · rw [if_neg e]
     have : ¬ (v : Int) = (u : Int):=by omega
     simp [this]
  rw [e,a7l _ _ _ (by unfold histL; rw [a1z]; omega),a5A _ (by omega),ih2,List.length_cons]
  omega
theorem a9u (b : List Int) {s : Nat} (hs : s < 256) : 0 < (histL b).getD s 0 ↔ (s : Int) ∈ b:=by
 rw [a5A _ hs,<- List.count_pos_iff]; omega
theorem c3J (m : Nat) (h : m <= 256) : ceilI m <= 8 /\ m <= 2 ^ ceilI m:=by
 unfold ceilI a1T
 rcases Nat.lt_or_ge m 2 with h2 | h2
 · rw [show ((m : Int) - 1).toNat = 0 by omega]
   exact ⟨by decide,by have : Lib.bitLen 0 = 0:=by decide
                       rw [this]; omega⟩
 · obtain ⟨y,hy⟩ : ∃ y,y = m - 1:=⟨_,rfl⟩
   rw [show ((m : Int) - 1).toNat = y by omega]
   obtain ⟨a,b,c⟩:=a3F y (by omega) (by omega)
   have:=Lib.bitLen_le8' (y : Int) (by omega) (by omega)
   rw [Int.toNat_natCast] at this
   exact ⟨this,by omega⟩
theorem b4K (n m : Nat) (most : Nat) (h : m <= 256) (h8 : 8 <= most) (h12 : most <= 12) : ∃ r : Nat,pickI n m most = r /\ 5 <= r /\ r <= most /\ m <= 2 ^ r:=by
 obtain ⟨c1,c2⟩:=c3J m h
 have hr : 5 <= pickI n m most /\ pickI n m most <= most /\ (ceilI m : Int) <= pickI n m most:=by
  unfold pickI mx mn
  split <;> (split <;> (split <;> omega))
 refine ⟨(pickI n m most).toNat,by omega,by omega,by omega,?_⟩
 have : 2 ^ ceilI m <= 2 ^ (pickI n m most).toNat:=Nat.pow_le_pow_right (by omega) (by omega)
 omega
theorem b4L {c : List Int} (h : a0P c = true) : manyC c = c.countP (λ x=>decide (0 < x)):=by unfold manyC; rw [if_pos h]
theorem a5B (b : List Int) (hb : Bytes b) (hl : b.length <= 1000000) : a0P (histL b) = true:=
 rightC_iff.2 ⟨a1z _,λ x hx=>by obtain ⟨v,_,rfl⟩:=a7g hx; omega,by rw [a9t b hb]; omega⟩
theorem b4M {b : List Int} {r : Nat} (hb : Bytes b) (hl : b.length <= 1000000) (h0 : 0 < b.length) (h1 : 1 <= r) (h12 : r <= 12) (hm : manyC (histL b) <= 2 ^ r) : Can (histL b) r:=
 ⟨a1z _,λ x hx=>by obtain ⟨v,_,rfl⟩:=a7g hx; omega,by rw [a9t b hb]; omega,by rw [a9t b hb]; omega,h1,h12,by rw [<- b4L (a5B b hb hl)]; exact hm⟩
def zeroR (b : List Int) : Nat:=(pickI b.length (manyC (histL b)) 11).toNat
def zeroQ (b : List Int) : List Int:=normL (histL b) (zeroR b)
theorem a4k (b : List Int) : pickI b.length (manyC (histL b)) 11 = (zeroR b : Int) /\ 5 <= zeroR b /\ zeroR b <= 11 /\ manyC (histL b) <= 2 ^ zeroR b:=by
 obtain ⟨r,h1,h2,h3,h4⟩:=b4K b.length (manyC (histL b)) 11 (a4O _) (by omega) (by omega)
 have e : zeroR b = r:=by unfold zeroR; rw [show ((11 : Nat) : Int) = 11 from rfl] at h1; rw [h1]; simp
 rw [e]; exact ⟨h1,h2,h3,h4⟩
theorem b4N {lg : Int} {q : List Int} (h : logC q ≠ 0) (h2 : (logC q : Int) = lg) : badQ lg q = false:=by
 unfold badQ; exact decide_eq_false (λ x=>x.2 ⟨h,h2⟩)
theorem c3K (lg : Int) : badQ lg [] = false:=by unfold badQ; exact decide_eq_false (λ x=>by simp at x)
theorem a5C {b : List Int} (hb : Bytes b) (hl : b.length <= 1000000) (h0 : 0 < b.length) : Can (histL b) (zeroR b):=by
 have:=a4k b
 exact b4M hb hl h0 (by omega) (by omega) this.2.2.2
theorem c3L {b : List Int} (hb : Bytes b) (hl : b.length <= 1000000) (h0 : 0 < b.length) : a0x (zeroR b) true [zeroQ b] = true:=by
 have hc:=a5C hb hl h0
 have hz:=a4k b
 have hlog:=b4B hc
 have hlen:=(a4S hc).1.len
 unfold a0x
 rw [if_neg (by omega),if_neg (by
  simp only [List.any_cons,List.any_nil,Bool.or_false]
  rw [b4N (q:=zeroQ b) (by unfold zeroQ; omega) (by unfold zeroQ; rw [hlog])]; decide)]
 rw [if_pos rfl,decide_eq_true_eq]
 have h0 : 0 < (normL (histL b) (zeroR b)).length:=by omega
 refine ⟨List.length_singleton,?_⟩
 rw [List.getD_cons_zero]; unfold zeroQ; exact h0
theorem c3M {b : List Int} (hb : Bytes b) (hl : b.length <= 1000000) (h0 : 0 < b.length) : fitsM (zeroR b) true [zeroQ b] b = true:=by
 have hc:=a5C hb hl h0
 have hn:=a4S hc
 unfold fitsM
 rw [c3L hb hl h0,Bool.true_and,List.all_eq_true]
 intro i hi
 have hi':=List.mem_range.1 hi
 have hg:=hb.get i
 obtain ⟨x,hx⟩ : ∃ x : Nat,b.getD i 0 = x:=⟨(b.getD i 0).toNat,by omega⟩
 unfold fitAt
 rw [decide_eq_true_eq]
 have e0 : ([zeroQ b].getD (listI true (ctxI b i)) []) = normL (histL b) (zeroR b):=by unfold listI; rw [if_pos rfl,List.getD_cons_zero]; rfl
 rw [e0]
 refine ⟨by have:=hn.1.len; omega,?_⟩
 rw [hx,Int.toNat_natCast]
 have h1:=(hn.2.2 x).2 ((a9u b (by omega)).2 (by rw [<- hx]; exact a2h hi'))
 omega
def a0p (b : List Int) : Nat:=(pickI b.length (widN b 256) 9).toNat
def a1g (b : List Int) (c : Nat) : List Int:=if 0 < (a0o b (c : Int)).length then normL (histL (a0o b (c : Int))) (a0p b) else []
def a0A (b : List Int) : List (List Int):=(List.range 256).map (a1g b)
theorem a2y (b : List Int) : pickI b.length (widN b 256) 9 = (a0p b : Int) /\ 5 <= a0p b /\ a0p b <= 9 /\ widN b 256 <= 2 ^ a0p b:=by
 obtain ⟨r,h1,h2,h3,h4⟩:=b4K b.length (widN b 256) 9 (a7k b _) (by omega) (by omega)
 have e : a0p b = r:=by unfold a0p; rw [show ((9 : Nat) : Int) = 9 from rfl] at h1; rw [h1]; simp
 rw [e]; exact ⟨h1,h2,h3,h4⟩
theorem b4O (b : List Int) : ∀ k c,c < k -> manyC (histL (a0o b (c : Nat))) <= widN b k
 | 0,c,h=>by omega
 | k + 1,c,h=>by
  simp only [widN]
  by_cases e : c = k
  · subst e; omega
  · have:=b4O b k c (by omega); omega
theorem c3N (b : List Int) (c : Int) : (a0o b c).length <= b.length:=a4i b c b.length
theorem a5D {b : List Int} (hb : Bytes b) (hl : b.length <= 1000000) {c : Nat} (hc : c < 256) (h0 : 0 < (a0o b (c : Int)).length) : Can (histL (a0o b (c : Int))) (a0p b):=by
 have h1:=a2y b
 have h2:=b4O b 256 c hc
 have h3:=c3N b (c : Int)
 exact b4M (b4t hb _ _) (by omega) h0 (by omega) (by omega) (by omega)
theorem a7q (b : List Int) : (a0A b).length = 256:=by simp [a0A]
theorem a7r (b : List Int) {c : Nat} (h : c < 256) : (a0A b).getD c [] = a1g b c:=by
 unfold a0A; rw [List.getD_eq_getElem?_getD,List.getElem?_map,List.getElem?_range h]; rfl
theorem c3O {b : List Int} (hb : Bytes b) (hl : b.length <= 1000000) : a0x (a0p b) false (a0A b) = true:=by
 have hz:=a2y b
 unfold a0x
 rw [if_neg (by omega),if_neg]
 · rw [if_neg (by decide),decide_eq_true_eq]; exact a7q b
 · rw [Bool.not_eq_true,List.any_eq_false]
   intro q hq
   unfold a0A at hq
   obtain ⟨c,hc,rfl⟩:=List.mem_map.1 hq
   unfold a1g
   split
   · rename_i h0
     have hlog:=b4B (a5D hb hl (List.mem_range.1 hc) h0)
     rw [b4N (by omega) (by rw [hlog])]; decide
   · rw [c3K]; decide
theorem c3P {b : List Int} (hb : Bytes b) (hl : b.length <= 1000000) : fitsM (a0p b) false (a0A b) b = true:=by
 unfold fitsM
 rw [c3O hb hl,Bool.true_and,List.all_eq_true]
 intro i hi
 have hi':=List.mem_range.1 hi
 have hg:=hb.get i
 have hcr:=a4f hb i hi'
 obtain ⟨x,hx⟩ : ∃ x : Nat,b.getD i 0 = x:=⟨(b.getD i 0).toNat,by omega⟩
 obtain ⟨c,hc⟩ : ∃ c : Nat,ctxI b i = c:=⟨(ctxI b i).toNat,by omega⟩
 have hmem : b.getD i 0 ∈ a0o b (c : Int):=by
  unfold a0o pkL
  exact List.mem_map.2 ⟨i,List.mem_filter.2 ⟨hi,by rw [decide_eq_true_eq]; exact hc⟩,rfl⟩
 have hpos : 0 < (a0o b (c : Int)).length:=List.length_pos_of_mem hmem
 have hcan:=a5D hb hl (c:=c) (by omega) hpos
 have hn:=a4S hcan
 have e : (a0A b).getD (listI false (ctxI b i)) [] = normL (histL (a0o b (c : Int))) (a0p b):=by
  rw [hc]
  show (a0A b).getD ((c : Int)).toNat [] = _
  rw [Int.toNat_natCast,a7r b (by omega)]
  unfold a1g; rw [if_pos hpos]
 unfold fitAt
 rw [decide_eq_true_eq,e]
 refine ⟨by have:=hn.1.len; omega,?_⟩
 rw [hx,Int.toNat_natCast]
 have h1:=(hn.2.2 x).2 ((a9u _ (by omega)).2 (by rw [<- hx]; exact hmem))
 omega
end Go.Proofs.YtflfjpkmjnnodaaGreat
namespace Go.Proofs.YtflfjpkmjnnodaaGreat
open Go.RowKit Go.IntWalk Go.Proofs.YtflfjpkmjnnodaaGreatW.PrintWords
def MadeM (lg : Int) (one : Bool) (qs : List (List Int)) (w : World) (e : Ending) (w' : World) : Prop:=∃ v,e = .returned (.agg #[.int .i64 lg,.bool one,v]) /\ kq.R 84 w' w.heap.size (λ _=>True) v qs /\ Below w.heap.size w w'
theorem cell3 {w : World} {mb : Nat} {a b c : Value} {t : Nat} (h : w.heap[mb]? = some (.cells #[a,b,c] t (0,0))) : (w.cell? ⟨mb,0,none⟩ = some a /\ w.cell? ⟨mb,1,none⟩ = some b /\ w.cell? ⟨mb,2,none⟩ = some c) /\ (w.frozen? ⟨mb,0,none⟩ = false /\ w.frozen? ⟨mb,1,none⟩ = false /\ w.frozen? ⟨mb,2,none⟩ = false):=
 ⟨⟨(a0a h 0).trans rfl,(a0a h 1).trans rfl,(a0a h 2).trans rfl⟩,a0e h 0,a0e h 1,a0e h 2⟩
theorem a5E : (Tryz.prog.info? 26).map (·.size) = some 3:=by kernel_rfl
theorem a9v {w : World} {base : Nat} {v : Value} {q : List Int} (h : (Kd.int .i64).R 3 w base (λ _=>True) v q) (hb : base <= w.heap.size) : kq.R 84 (w.alloc (.cells #[v] 84)) base (λ k=>base <= k) (.slice (some ⟨w.heap.size,0,none⟩) 1 1) [q]:=by
 have hne : ∀ k,v.ownBlock = some k -> base <= k /\ k < w.heap.size:=λ k hk=>((Kd.R_bound h).1 k hk).2.imp id (λ x=>x.1)
 refine ⟨λ k hk=>by cases hk; exact hb,[v],⟨rfl,.inr ⟨w.heap.size,1,#[v],rfl,hb,a0k w _,Nat.le_refl _,by unfold maxLen; omega,rfl,rfl⟩⟩,rfl,λ j p hj=>?_⟩
 have hj0 : j = 0:=by
  rcases Nat.eq_zero_or_pos j with e | e
  · exact e
  · rw [List.getElem?_eq_none (by simp; omega)] at hj; cases hj
 subst hj0
 cases hj
 refine ⟨v,rfl,Kd.R_alloc (Kd.R_mono (Kd.R_tight rfl h) (λ k hk=>⟨(hne k hk.symm).1,λ e=>?_⟩)) _⟩
 have:=(hne k hk.symm).2
 have h2 : k = w.heap.size:=Option.some.inj e
 omega
theorem c3Q {w w4 w5 : World} {Aq : Option Addr} {cq : Nat} {q : List Int} (hb : Below w.heap.size w w5) (h4 : w.heap.size < w4.heap.size) (h45 : w4.heap.size <= w5.heap.size) (hk : w5.heap[w.heap.size]? = some (.cells #[.int .i64 0,.bool false,.slice none 0 0] 26 (0,0))) (hq : (Kd.int .i64).R 3 w5 w4.heap.size (λ _=>True) (.slice Aq q.length cq) q) :
    ((w5.alloc (.cells #[.slice Aq q.length cq] 84)).cell? ⟨w.heap.size,0,none⟩ = some (.int .i64 0) /\ (w5.alloc (.cells #[.slice Aq q.length cq] 84)).cell? ⟨w.heap.size,1,none⟩ = some (.bool false) /\ (w5.alloc (.cells #[.slice Aq q.length cq] 84)).cell? ⟨w.heap.size,2,none⟩ = some (.slice none 0 0)) /\
    ((w5.alloc (.cells #[.slice Aq q.length cq] 84)).frozen? ⟨w.heap.size,0,none⟩ = false /\ (w5.alloc (.cells #[.slice Aq q.length cq] 84)).frozen? ⟨w.heap.size,1,none⟩ = false /\ (w5.alloc (.cells #[.slice Aq q.length cq] 84)).frozen? ⟨w.heap.size,2,none⟩ = false) /\
    ∀ r : Nat,((((w5.alloc (.cells #[.slice Aq q.length cq] 84)).setCell ⟨w.heap.size,0,none⟩ (.int .i64 r)).setCell ⟨w.heap.size,1,none⟩ (.bool true)).setCell ⟨w.heap.size,2,none⟩ (.slice (some ⟨w5.heap.size,0,none⟩) 1 1)).heap[w.heap.size]? = some (.cells #[.int .i64 r,.bool true,.slice (some ⟨w5.heap.size,0,none⟩) 1 1] 26 (0,0)) /\ MadeM r true [q] w (.returned (.agg #[.int .i64 r,.bool true,.slice (some ⟨w5.heap.size,0,none⟩) 1 1])) ((((w5.alloc (.cells #[.slice Aq q.length cq] 84)).setCell ⟨w.heap.size,0,none⟩ (.int .i64 r)).setCell ⟨w.heap.size,1,none⟩ (.bool true)).setCell ⟨w.heap.size,2,none⟩ (.slice (some ⟨w5.heap.size,0,none⟩) 1 1)):=by
 have hk6:=a0n hk (.cells #[.slice Aq q.length cq] 84)
 have h5:=hb.size
 obtain ⟨a,b⟩:=cell3 hk6
 refine ⟨a,b,λ r=>⟨?_,_,rfl,?_,(((hb.alloc h5 _).setCell (Nat.le_refl _) _).setCell (Nat.le_refl _) _).setCell (Nat.le_refl _) _⟩⟩
 · rw [a0u (a0u (a0u hk6 0 _) 1 _) 2]; rfl
 · have h1 : kq.R 84 (w5.alloc (.cells #[.slice Aq q.length cq] 84)) w.heap.size (λ b=>b ≠ w.heap.size) (.slice (some ⟨w5.heap.size,0,none⟩) 1 1) [q]:=
     Kd.R_mono (Kd.R_lower (a9v hq h45) (Nat.le_of_lt h4)) (λ k hk=>by omega)
   exact Kd.R_mono (Kd.R_far (p:=⟨w.heap.size,2,none⟩) (Kd.R_far (p:=⟨w.heap.size,1,none⟩) (Kd.R_far (p:=⟨w.heap.size,0,none⟩) h1 (λ k hk=>hk) _) (λ k hk=>hk) _) (λ k hk=>hk) _) (λ _ _=>trivial)
set_option maxRecDepth 100000 in
set_option maxHeartbeats 1000000 in
theorem c3R (A : Option Addr) (cp : Nat) (b : List Int) (w : World) (hr : (Kd.int .u8).C w A b.length b) (hc : b.length <= cp) (hb : Bytes b) (hl : b.length <= 1000000) (h0 : 0 < b.length) :
    Calls Tryz.prog 225 #[.slice A b.length cp] w (MadeM (zeroR b) true [zeroQ b] w):=by
 obtain ⟨W1,hW1⟩ : ∃ W1,W1 = w.alloc (.cells #[.int .i64 0,.bool false,.slice none 0 0] 26):=⟨_,rfl⟩
 have hb1 : Below w.heap.size w W1:=by rw [hW1]; exact (Below.refl w.heap.size w).alloc (Nat.le_refl _) _
 have hk1 : W1.heap[w.heap.size]? = some (.cells #[.int .i64 0,.bool false,.slice none 0 0] 26 (0,0)):=by rw [hW1]; exact a0k _ _
 have HB1:=Lib.hid hb1
 have HK1:=Lib.hid hk1
 have HR:=Lib.hid hr
 have HX:=Lib.hid (And.intro hc (And.intro hb (And.intro hl h0)))
 clear hb1 hk1 hr hc hb hl h0
 go_enter Tryz.func225,Tryz.ntmps225
 go_wp2_with fail
 rw [<- hW1]
 clear hW1
 refine (c3y A cp b W1 (Kd.C_below HR.out HB1.out) HX.out.1 HX.out.2.1 HX.out.2.2.1).mono ?_
 rintro e w2 ⟨v,rfl,hv,hb2⟩
 obtain ⟨Ah,ch,rfl⟩:=Kd.R_slice hv
 have HV:=Lib.hid (Kd.R_reads' hv).2
 have HB2 : Hid (Below w.heap.size w w2):=HB1.out.trans (hb2.mono HB1.out.size)
 have HK2:=Lib.hid (a0i HK1.out hb2)
 clear hv hb2
 go_wp2_with fail
 refine (b4C Ah ch (histL b) w2 HV.out.2 HV.out.1 (by unfold histL; rw [a1z]; omega)).mono ?_
 rintro e w3 ⟨rfl,hb3⟩
 have HB3 : Hid (Below w.heap.size w w3):=HB2.out.trans (hb3.mono HB2.out.size)
 have HK3:=Lib.hid (a0i HK2.out hb3)
 have HV3 : Hid ((Kd.int .i64).C w3 Ah (histL b).length (histL b)):=Kd.C_below HV.out.2 hb3
 clear hb3
 go_wp2_with fail
 refine (b4F b.length (manyC (histL b)) 11 w3 (by have:=HX.out.2.2.1; omega) (by have:=a4O (histL b); omega)).mono ?_
 rw [(a4k b).1]
 rintro e w4 ⟨rfl,hb4⟩
 have HB4 : Hid (Below w.heap.size w w4):=HB3.out.trans (hb4.mono HB3.out.size)
 have HK4:=Lib.hid (a0i HK3.out hb4)
 have HV4 : Hid ((Kd.int .i64).C w4 Ah (histL b).length (histL b)):=Kd.C_below HV3.out hb4
 clear hb4
 go_wp2_with fail
 refine (b4J Ah ch (histL b) (zeroR b) w4 HV4.out HV.out.1 (a5C HX.out.2.1 HX.out.2.2.1 HX.out.2.2.2)).mono ?_
 rintro e w5 ⟨vq,rfl,hq,hb5⟩
 have HB5 : Hid (Below w.heap.size w w5):=HB4.out.trans (hb5.mono HB4.out.size)
 have HK5:=Lib.hid (a0i HK4.out hb5)
 have H45:=Lib.hid hb5.size
 have HQ : Hid ((Kd.int .i64).R 3 w5 w4.heap.size (λ _=>True) vq (zeroQ b)):=hq
 clear hb5 hq
 obtain ⟨Aq,cq,rfl⟩:=Kd.R_slice HQ.out
 have HF:=Lib.hid (c3Q HB5.out (a0f HK4.out) H45.out HK5.out HQ.out)
 obtain ⟨⟨m0,m1,m2⟩,⟨f0,f1,f2⟩,HFE⟩:=HF.out
 have HE:=Lib.hid (HFE (zeroR b))
 clear HFE
 go_wp2_with fail
 refine bodyPost_ret ?_ rfl HE.out.2
 exact results_cell_row (fn:=Tryz.f225) (p:=2) (ty:=26) rfl _ _ _ _ _ _ _ rfl HE.out.1 Tryz.underlying26 rfl a5E
theorem a7s : (Tryz.prog.info? 84).map (λ i=>(i.zero,i.size,i.bytes)) = some (some (.slice none 0 0),1,24):=by kernel_rfl
theorem b4P (n : Nat) (hn : n <= 1000000) (w : World) : (Instr.makeSlice 24 (.int .i64 n) (.int .i64 n)).run Tryz.prog w = .ok (.slice (some ⟨w.heap.size,0,none⟩) n n) (w.alloc (.cells (madeCells #[.slice none 0 0] n) 84)):=by
 obtain ⟨i0,hi,hzz⟩:=Option.map_eq_some_iff.1 a7s
 simp only [Prod.mk.injEq] at hzz
 obtain ⟨hz0,hz1,hz2⟩:=hzz
 have hr:=run_make (P:=Tryz.prog) w 24 84 i0 (.slice none 0 0) Tryz.underlying24 hi hz0 .i64 .i64 (n : Int) (n : Int) (by omega) (by omega) (by rw [hz2]; omega) (by omega)
 rw [hz1] at hr
 simpa [Value.cells] using hr
theorem a7t {w w' : World} (h : Below w.heap.size w w') (o : Obj) : Below w.heap.size w (w'.alloc o):=h.alloc h.size o
theorem a7u {w w' : World} (h : Below w.heap.size w w') : Below w.heap.size w w'.drew:=h.drew
theorem a0g {w w1 w2 : World} (h : Below w.heap.size w w1) (k : Below w1.heap.size w1 w2) : Below w.heap.size w w2:=h.trans (k.mono h.size)
theorem b4Q {w w1 w2 : World} (h : Below w.heap.size w w1) (k : Below w1.heap.size w1 w2) : Below w.heap.size w w2:=h.trans (k.mono h.size)
theorem c3S {w w' : World} (h : Below w.heap.size w w') {k o : Nat} (hk : w.heap.size <= k) (a : Value) : Below w.heap.size w (w'.setCell ⟨k,o,none⟩ a):=h.setCell hk a
theorem c3T (n : Nat) (hn : n <= 1000000) (W : World) (mb base : Nat) (hne : W.heap.size ≠ mb) (hb : base <= W.heap.size) : kq.R 84 (W.alloc (.cells (madeCells #[.slice none 0 0] n) 84)) base (λ k=>k ≠ mb) (.slice (some ⟨W.heap.size,0,none⟩) n n) (List.replicate n []):=by
 have hr:=Kd.reps_made (R:=kq.M (W.alloc (.cells (madeCells #[.slice none 0 0] n) 84)) base (λ k=>k ≠ mb /\ some k ≠ (Value.slice (some ⟨W.heap.size,0,none⟩) n n).ownBlock)) (z:=.slice none 0 0) (size:=1) (z0:=([] : List Int)) rfl Nat.one_pos ⟨.slice none 0 0,rfl,Kd.R_nil _ _ _ _ _⟩ n
 have e : (Value.slice none 0 0).cells = #[.slice none 0 0]:=rfl
 rw [e,Nat.mul_one] at hr
 refine ⟨λ k hk=>by cases hk; exact hne,_,⟨?_,.inr ⟨W.heap.size,n,madeCells #[.slice none 0 0] n,by simp,hb,a0k W _,by simp,by unfold maxLen; omega,?_,?_⟩⟩,hr⟩
 · simp [size_madeCells]; exact (Nat.mul_one n).symm
 · rw [size_madeCells]; exact (Nat.mul_one n).symm
 · rw [List.length_replicate]; exact List.take_of_length_le (by simp [size_madeCells]; exact Nat.le_of_eq (Nat.mul_one n).symm)
theorem a7v (W : World) (mb base : Nat) (hne : W.heap.size ≠ mb) (hb : base <= W.heap.size) : kq.R 84 (W.alloc (.cells (madeCells #[.slice none 0 0] 256) 84)) base (λ k=>k ≠ mb) (.slice (some ⟨W.heap.size,0,none⟩) 256 256) (List.replicate 256 []):=c3T 256 (by omega) W mb base hne hb
theorem b4R (W : World) (o : Obj) (mb base : Nat) (hne : W.heap.size + 1 ≠ mb) (hb : base <= W.heap.size + 1) : kq.R 84 ((W.alloc o).alloc (.cells (madeCells #[.slice none 0 0] 256) 84)) base (λ k=>k ≠ mb) (.slice (some ⟨W.heap.size + 1,0,none⟩) 256 256) (List.replicate 256 []):=by
 have e : (W.alloc o).heap.size = W.heap.size + 1:=by simp
 have:=a7v (W.alloc o) mb base (by rw [e]; exact hne) (by rw [e]; exact hb)
 rw [e] at this; exact this
theorem c3U (W : World) (m mb base : Nat) (x y z : Value) (hne : W.heap.size ≠ mb) (hb : base <= W.heap.size) : kq.R 84 ((((W.setCell ⟨m,0,none⟩ x).setCell ⟨m,1,none⟩ y).setCell ⟨m,2,none⟩ z).alloc (.cells (madeCells #[.slice none 0 0] 256) 84)) base (λ k=>k ≠ mb) (.slice (some ⟨W.heap.size,0,none⟩) 256 256) (List.replicate 256 []):=by
 have e : (((W.setCell ⟨m,0,none⟩ x).setCell ⟨m,1,none⟩ y).setCell ⟨m,2,none⟩ z).heap.size = W.heap.size:=by simp [World.setCell]
 have:=a7v (((W.setCell ⟨m,0,none⟩ x).setCell ⟨m,1,none⟩ y).setCell ⟨m,2,none⟩ z) mb base (by rw [e]; exact hne) (by rw [e]; exact hb)
 rw [e] at this; exact this
theorem a2z (W : World) (a o : Obj) : ((W.alloc a).alloc o).heap[W.heap.size + 1]? = some o:=by
 have:=a0k (W.alloc a) o
 rw [show (W.alloc a).heap.size = W.heap.size + 1 by simp] at this; exact this
theorem a1K {w : World} {mb : Nat} {t : Nat} {a b c : Value} (h : w.heap[mb]? = some (.cells #[a,b,c] t (0,0))) (x y z : Value) : (((w.setCell ⟨mb,0,none⟩ x).setCell ⟨mb,1,none⟩ y).setCell ⟨mb,2,none⟩ z).heap[mb]? = some (.cells #[x,y,z] t (0,0)):=by
 rw [a0u (a0u (a0u h 0 _) 1 _) 2]; rfl
theorem a2P {α : Type} {d : Kd α} {e : Nat} {w : World} {base mb : Nat} {v : Value} {xs : List α} (h : d.R e w base (λ k=>k ≠ mb) v xs) (x y z : Value) : d.R e (((w.setCell ⟨mb,0,none⟩ x).setCell ⟨mb,1,none⟩ y).setCell ⟨mb,2,none⟩ z) base (λ k=>k ≠ mb) v xs:=
 Kd.R_far (p:=⟨mb,2,none⟩) (Kd.R_far (p:=⟨mb,1,none⟩) (Kd.R_far (p:=⟨mb,0,none⟩) h (λ _ hk=>hk) x) (λ _ hk=>hk) y) (λ _ hk=>hk) z
theorem b4S {w : World} {g : Nat} {o : Obj} (h : w.heap[g]? = some o) : w.drew.heap[g]? = some o:=h
theorem b4T {e : TypeId} {W : World} {base g n cap : Nat} {ok okp : Nat -> Prop} {xs : List (List Int)} {v : Value} {x : List Int} (h : kq.R e W base ok (.slice (some ⟨g,0,none⟩) n cap) xs) (i : Nat) (hi : i < n) (hq : (Kd.int .i64).R 3 W base okp v x) (hokp : ∀ k,okp k -> ok k /\ k ≠ g) :
    kq.R e (W.setCell ⟨g,i,none⟩ v) base ok (.slice (some ⟨g,0,none⟩) n cap) (xs.set i x):=by
 obtain ⟨c,hcl,_,hcc,_⟩:=Kd.R_elem h [] (i : Int) (by omega) (by omega)
 have hs : kq.sz = 1:=rfl
 have:=(Kd.R_seg h (i : Int) (by omega) (by omega) (seg:=[v]) (j:=0) (x':=x) (okp:=okp) hcl hcc (by rw [hs]; simp) ⟨v,by rw [List.drop_of_length_le (by rw [hcl,hs]; simp)]; simp,hq⟩ hokp).1
 simp only [Int.toNat_natCast,hs,Nat.mul_one,Nat.add_zero] at this
 exact this
def a3l (b : List Int) (i : Nat) : List (List Int):=(List.range 256).map (λ (c : Nat)=>if (c : Int) ∈ (presN b 256).take i then a1g b c else [])
theorem a7w (b : List Int) {i : Nat} (h : i < (presN b 256).length) : ∃ c : Nat,(presN b 256).getD i 0 = c /\ c < 256 /\ 0 < (a0o b (c : Int)).length:=by
 have hm:=a2h h
 obtain ⟨z,hz⟩ : ∃ z,z = (presN b 256).getD i 0:=⟨_,rfl⟩
 rw [<- hz] at hm ⊢
 unfold presN at hm
 obtain ⟨c,hc,rfl⟩:=List.mem_map.1 hm
 obtain ⟨h1,h2⟩:=List.mem_filter.1 hc
 exact ⟨c,rfl,List.mem_range.1 h1,by simpa using h2⟩
theorem b4U (b : List Int) : a3l b 0 = List.replicate 256 []:=by
 unfold a3l
 rw [<- List.length_range (n:=256),<- List.map_const',List.length_range]
 exact List.map_congr_left (λ c _=>by rw [if_neg (by simp)])
theorem b4V (b : List Int) {i c : Nat} (h : i < (presN b 256).length) (hc : (presN b 256).getD i 0 = (c : Int)) : (a3l b i).set c (a1g b c) = a3l b (i + 1):=by
 have e : (presN b 256).take (i + 1) = (presN b 256).take i ++ [(c : Int)]:=by
  rw [List.take_succ_eq_append_getElem h,<- hc,List.getD_eq_getElem?_getD,List.getElem?_eq_getElem h]; rfl
 unfold a3l
 apply List.ext_getElem
 · simp
 · intro k h1 h2
   rw [List.getElem_set]
   simp only [List.getElem_map,List.getElem_range,e,List.mem_append,List.mem_singleton]
   by_cases hk : c = k
   · subst hk; rw [if_pos rfl,if_pos (.inr rfl)]
   · rw [if_neg hk]
     by_cases h3 : (k : Int) ∈ (presN b 256).take i
     · rw [if_pos h3,if_pos (.inl h3)]
     · rw [if_neg h3,if_neg (λ x=>x.elim h3 (λ y=>by omega))]
theorem b4W (b : List Int) : a3l b (presN b 256).length = a0A b:=by
 unfold a3l a0A
 refine List.map_congr_left (λ c hc=>?_)
 rw [List.take_length]
 by_cases h : (c : Int) ∈ presN b 256
 · rw [if_pos h]
 · rw [if_neg h]
   unfold a1g
   rw [if_neg (λ h2=>h ?_)]
   unfold presN
   exact List.mem_map.2 ⟨c,List.mem_filter.2 ⟨hc,by simpa using h2⟩,rfl⟩
structure FirstRel (b : List Int) (W1 : World) (mb g i : Nat) (w : World) : Prop where
 blk : w.heap[mb]? = some (.cells #[.int .i64 (a0p b),.bool false,.slice (some ⟨g,0,none⟩) 256 256] 26 (0,0))
 row : kq.R 84 w W1.heap.size (λ k=>k ≠ mb) (.slice (some ⟨g,0,none⟩) 256 256) (a3l b i)
 below : Below W1.heap.size W1 w
def a9w (lg : Int) (w : World) (s3 : Value) (wx : World) : Prop:=∃ mb g : Nat,s3 = .pointer (some ⟨mb,0,none⟩) /\ w.heap.size <= mb /\ w.heap.size <= g /\ mb ≠ g /\ wx.heap[mb]? = some (.cells #[.int .i64 lg,.bool false,.slice (some ⟨g,0,none⟩) 256 256] 26 (0,0)) /\
 kq.R 84 wx w.heap.size (λ k=>k ≠ mb) (.slice (some ⟨g,0,none⟩) 256 256) (List.replicate 256 []) /\ Below w.heap.size w wx
theorem b4X {e : TypeId} {W : World} {base g n cap : Nat} {ok : Nat -> Prop} {xs : List (List Int)} (h : kq.R e W base ok (.slice (some ⟨g,0,none⟩) n cap) xs) (i : Nat) (hi : i < n) : (∃ u,W.cell? ⟨g,i,none⟩ = some u) /\ W.frozen? ⟨g,i,none⟩ = false:=by
 obtain ⟨c,hcl,hm,hcc,hf⟩:=Kd.R_elem h [] (i : Int) (by omega) (by omega)
 obtain ⟨v,rfl,_⟩:=hm
 have h1:=hcc 0 v rfl
 have h2:=hf 0
 have hs : kq.sz = 1:=rfl
 simp only [Int.toNat_natCast,hs,Nat.mul_one,Nat.add_zero] at h1 h2
 exact ⟨⟨v,h1⟩,h2⟩
theorem c3V {b : List Int} {W1 w5 w6 : World} {mb g i c Nb n cpp cq : Nat} {Ap Aq : Option Addr} (hi : i < (presN b 256).length) (hc : (presN b 256).getD i 0 = (c : Int)) (hc256 : c < 256) (hpk : 0 < (a0o b (c : Int)).length) (hne : mb ≠ g) (H : FirstRel b W1 mb g i w6) (hp : (Kd.int .i64).R 3 w6 Nb (λ _=>True) (.slice Ap n cpp) (presN b 256)) (hg : g < Nb /\ mb < Nb)
    (hq : (Kd.int .i64).R 3 w6 w5.heap.size (λ _=>True) (.slice Aq (normL (histL (a0o b (c : Int))) (a0p b)).length cq) (normL (histL (a0o b (c : Int))) (a0p b))) (hs : mb < w5.heap.size /\ g < w5.heap.size) (hw : W1.heap.size <= w5.heap.size) :
    FirstRel b W1 mb g (i + 1) (w6.setCell ⟨g,c,none⟩ (.slice Aq (normL (histL (a0o b (c : Int))) (a0p b)).length cq)).drew /\ (Kd.int .i64).R 3 (w6.setCell ⟨g,c,none⟩ (.slice Aq (normL (histL (a0o b (c : Int))) (a0p b)).length cq)).drew Nb (λ _=>True) (.slice Ap n cpp) (presN b 256):=by
 have hfq : a1g b c = normL (histL (a0o b (c : Int))) (a0p b):=by unfold a1g; rw [if_pos hpk]
 refine ⟨⟨?_,?_,?_⟩,?_⟩
 · exact a1x H.blk (p:=⟨g,c,none⟩) hne _
 · rw [<- b4V b hi hc,hfq]
   refine Kd.R_drew (b4T H.row c hc256 (Kd.R_lower (Kd.R_mono (Kd.R_bound hq) (ok':=λ k=>k ≠ mb /\ k ≠ g) (λ k hk=>?_)) hw) (λ k hk=>hk))
   have:=hk.2.1; omega
 · exact (H.below.setCell (by have:=((Kd.R_bound H.row).1 g rfl).2.1; exact this) _).drew
 · refine Kd.R_drew (Kd.R_mono (Kd.R_far (p:=⟨g,c,none⟩) (Kd.R_bound hp) (λ k hk=>?_) _) (λ _ _=>trivial))
   have:=hk.2.1; show k ≠ g; omega
theorem c3W {b : List Int} {w W1 wr : World} {mb g : Nat} (hb : Below w.heap.size w W1) (hlt : w.heap.size < W1.heap.size) (hk : wr.heap[w.heap.size]? = some (.cells #[.int .i64 0,.bool false,.slice none 0 0] 26 (0,0))) (H : FirstRel b W1 mb g (presN b 256).length wr) :
    (((wr.setCell ⟨w.heap.size,0,none⟩ (.int .i64 (a0p b))).setCell ⟨w.heap.size,1,none⟩ (.bool false)).setCell ⟨w.heap.size,2,none⟩ (.slice (some ⟨g,0,none⟩) 256 256)).heap[w.heap.size]? = some (.cells #[.int .i64 (a0p b),.bool false,.slice (some ⟨g,0,none⟩) 256 256] 26 (0,0)) /\
    MadeM (a0p b) false (a0A b) w (.returned (.agg #[.int .i64 (a0p b),.bool false,.slice (some ⟨g,0,none⟩) 256 256])) (((wr.setCell ⟨w.heap.size,0,none⟩ (.int .i64 (a0p b))).setCell ⟨w.heap.size,1,none⟩ (.bool false)).setCell ⟨w.heap.size,2,none⟩ (.slice (some ⟨g,0,none⟩) 256 256)):=by
 refine ⟨a1K hk _ _ _,_,rfl,?_,?_⟩
 · have h1 : kq.R 84 wr w.heap.size (λ k=>k ≠ w.heap.size) (.slice (some ⟨g,0,none⟩) 256 256) (a0A b):=by
     rw [<- b4W]
     exact Kd.R_mono (Kd.R_lower (Kd.R_bound H.row) (Nat.le_of_lt hlt)) (λ k hk=>by have:=hk.2.1; omega)
   exact Kd.R_mono (a2P h1 _ _ _) (λ _ _=>trivial)
 · exact (((hb.trans (H.below.mono hb.size)).setCell (Nat.le_refl _) _).setCell (Nat.le_refl _) _).setCell (Nat.le_refl _) _
theorem b4Y {lg : Int} {W1 wx : World} {mb : Nat} (g : Nat) (hd : wx.heap[mb]? = some (.cells #[.int .i64 lg,.bool false,.slice (some ⟨g,0,none⟩) 256 256] 26 (0,0))) (he : kq.R 84 wx W1.heap.size (λ k=>k ≠ mb) (.slice (some ⟨g,0,none⟩) 256 256) (List.replicate 256 [])) (hf : Below W1.heap.size W1 wx) (h1 : W1.heap.size <= mb) (h2 : W1.heap.size <= g) (h3 : mb ≠ g) : a9w lg W1 (.pointer (some ⟨mb,0,none⟩)) wx:=⟨mb,g,rfl,h1,h2,h3,hd,he,hf⟩
set_option maxRecDepth 100000 in
set_option maxHeartbeats 4000000 in
theorem c3X (A : Option Addr) (cp : Nat) (b : List Int) (w : World) (hr : (Kd.int .u8).C w A b.length b) (hc : b.length <= cp) (hb : Bytes b) (hl : b.length <= 1000000) :
    Calls Tryz.prog 229 #[.slice A b.length cp] w (MadeM (a0p b) false (a0A b) w):=by
 obtain ⟨W1,hW1⟩ : ∃ W1,W1 = w.alloc (.cells #[.int .i64 0,.bool false,.slice none 0 0] 26):=⟨_,rfl⟩
 have hb1 : Below w.heap.size w W1:=by rw [hW1]; exact (Below.refl w.heap.size w).alloc (Nat.le_refl _) _
 have hk1 : W1.heap[w.heap.size]? = some (.cells #[.int .i64 0,.bool false,.slice none 0 0] 26 (0,0)):=by rw [hW1]; exact a0k _ _
 have HB1:=Lib.hid hb1
 have HK1:=Lib.hid hk1
 have HR:=Lib.hid hr
 have HX:=Lib.hid (And.intro hc (And.intro hb hl))
 have hmk : ∀ w : World,(Instr.makeSlice 24 (.int .i64 256) (.int .i64 256)).run Tryz.prog w = .ok (.slice (some ⟨w.heap.size,0,none⟩) 256 256) (w.alloc (.cells (madeCells #[.slice none 0 0] 256) 84)):=λ w=>b4P 256 (by omega) w
 clear hb1 hk1 hr hc hb hl
 go_enter Tryz.func229,Tryz.ntmps229
 go_wp2_with fail
 rw [<- hW1]
 clear hW1
 go_cut [3] (λ s3 wx=>a9w (a0p b) W1 s3 wx)
 case first=>
  go_region_held3 (λ w'=>Below W1.heap.size W1 w') ((first | assumption | ((repeat' (first | assumption | exact Below.refl _ _ | refine a7t ?_ _ | refine a7u ?_ | refine c3S ?_ ?_ _)) <;> first | omega | (simp; done) | (simp; omega))))
   (first
    | (go_at_call 254; refine (c3A A cp b _ (Kd.C_below HR.out (a0g HB1.out (by first | assumption | exact (Below.refl _ _).drew | exact a7t (by assumption) _ | exact a7u (by assumption)))) HX.out.1 HX.out.2.1 HX.out.2.2).mono ?_; rintro e w2 ⟨rfl,hb2⟩; have hS2:=b4Q (by first | assumption | exact (Below.refl _ _).drew | exact a7t (by assumption) _ | exact a7u (by assumption)) hb2; obtain ⟨hc2,hf2⟩:=bcell hb2; have hz2:=hb2.size; have hy2:=hS2.size; (try have hq2 : W1.heap.size < w2.heap.size:=by (have:=hb2.size; simp at this; omega)); (try have hp2 : W1.heap.size + 1 < w2.heap.size:=by (have:=hb2.size; simp at this; omega)))
    | (go_at_call 246; refine (b4F b.length (widN b 256) 9 _ (by have:=HX.out.2.2; omega) (by have:=a7k b 256; omega)).mono ?_; rw [(a2y b).1]; rintro e w3 ⟨rfl,hb3⟩; have hS3:=b4Q (by first | assumption | exact a7t (by assumption) _ | exact a7u (by assumption)) hb3; obtain ⟨hc3,hf3⟩:=bcell hb3; have hz3:=hb3.size; have hy3:=hS3.size; (try have hq3 : w2.heap.size < w3.heap.size:=by (have:=hb3.size; simp at this; omega)); (try have hp3 : w2.heap.size + 1 < w3.heap.size:=by (have:=hb3.size; simp at this; omega)); (try have ho3 : W1.heap.size < w3.heap.size:=by omega); (try have hn3 : W1.heap.size + 1 < w3.heap.size:=by omega)))
  all_goals
   go_wp2_with fail
   go_meet
   refine' b4Y _ ?_ ?_ ?_ ?_ ?_ ?_
   rotate_left 1
   · repeat' (with_reducible (first | exact a0k _ _ | exact a2z _ _ _ | refine a1K (a:=.int .i64 0) (b:=.bool false) (c:=.slice none 0 0) ?_ _ _ _ | refine b4S ?_ | refine a0i ?_ hb3 | refine a0i ?_ hb2 | refine a0n ?_ _))
   · repeat' (with_reducible (first | refine a7v _ _ _ ?_ ?_ | refine b4R _ _ _ _ ?_ ?_ | refine c3U _ _ _ _ _ _ _ ?_ ?_ | refine a2P ?_ _ _ _ | refine Kd.R_drew ?_ | refine Kd.R_below ?_ hb3 | refine Kd.R_below ?_ hb2 | refine Kd.R_alloc ?_ _))
     all_goals omega
   · assumption
   all_goals omega
 case rest=>
  obtain ⟨mb,g,rfl,hmb,hg,hne,hblk,hrow,hbl⟩:=hcut
  have HP:=Lib.hid (And.intro hmb (And.intro hg hne))
  have HF : Hid (FirstRel b W1 mb g 0 wc):=⟨hblk,by rw [b4U]; exact hrow,hbl⟩
  clear hmb hg hne hblk hrow hbl
  go_wp2_with fail
  refine (b4D A cp b wc (Kd.C_below HR.out (a0g HB1.out HF.out.below)) HX.out.1 HX.out.2.1 HX.out.2.2).mono ?_
  rintro e w4 ⟨vp,rfl,hvp,hb4⟩
  obtain ⟨Ap,cpp,rfl⟩:=Kd.R_slice hvp
  have hgw : g < wc.heap.size:=((Kd.R_bound HF.out.row).1 g rfl).2.2.1
  have HV:=Lib.hid (And.intro hvp (And.intro hgw (a0f HF.out.blk)))
  have H4 : Hid (FirstRel b W1 mb g 0 w4):=⟨a0i HF.out.blk hb4,Kd.R_below HF.out.row hb4,HF.out.below.trans (hb4.mono HF.out.below.size)⟩
  have HN : Hid ((presN b 256).length <= 256):=a4j b 256
  have hn256:=HN.out
  obtain ⟨Nb,hNb⟩ : ∃ Nb,Nb = wc.heap.size:=⟨_,rfl⟩
  rw [<- hNb] at HV
  clear hvp hb4 HF hgw hNb
  go_wp2_with fail
  go_loopw [5] (λ kv wr=>∃ (i : Nat),kv = .int .i64 i /\ i <= (presN b 256).length /\ Hid (FirstRel b W1 mb g i wr /\ (Kd.int .i64).R 3 wr Nb (λ _=>True) (.slice Ap (presN b 256).length cpp) (presN b 256))) (λ kv _=>(presN b 256).length - (intOf kv).toNat)
  case atStart=>exact ⟨0,rfl,by omega,H4.out,HV.out.1⟩
  case round=>
   obtain ⟨i,rfl,hi,H⟩:=hrel
   by_cases hlt : i < (presN b 256).length
   · obtain ⟨ad,rfl,hcx⟩:=a0v (Kd.R_reads' H.out.2).2.2 i hlt
     obtain ⟨c,hc,hc256,hpk⟩:=a7w b hlt
     rw [hc] at hcx
     obtain ⟨⟨m0,m1,m2⟩,_⟩:=cell3 H.out.1.blk
     have HC:=Lib.hid (And.intro hc (And.intro hc256 (And.intro hpk hlt)))
     have hiI : (i : Int) < ((presN b 256).length : Int):=by omega
     clear hc hpk
     go_wp2_with fail
     go_region_held3 (λ w'=>w'.cell? (ad.add i) = some (.int .i64 c) /\ w'.cell? ⟨mb,0,none⟩ = some (.int .i64 (a0p b)) /\ w'.cell? ⟨mb,2,none⟩ = some (.slice (some ⟨g,0,none⟩) 256 256)) ((repeat' apply And.intro) <;> first | assumption)
      (first
       | (go_at_call 255; refine (c3z A cp b _ (Kd.C_below HR.out (a0g HB1.out H.out.1.below.drew)) HX.out.1 HX.out.2.1 HX.out.2.2 (c : Int)).mono ?_; rintro e w5 ⟨vf,rfl,hvf,hb5⟩; obtain ⟨Af,cf,rfl⟩:=Kd.R_slice hvf; have h1:=a0t (w:=wr) ⟨hb5.os,hb5.tape,hb5.output,hb5.size,hb5.block⟩ hcx; have h2:=a0t (w:=wr) ⟨hb5.os,hb5.tape,hb5.output,hb5.size,hb5.block⟩ m0; have h3:=a0t (w:=wr) ⟨hb5.os,hb5.tape,hb5.output,hb5.size,hb5.block⟩ m2; have HVF:=Lib.hid (And.intro (Kd.R_reads' hvf).2 hb5); clear hvf hb5)
       | (go_at_call 248; refine (b4J Af cf (histL (a0o b (c : Int))) (a0p b) w5 HVF.out.1.2 HVF.out.1.1 (a5D HX.out.2.1 HX.out.2.2 hc256 HC.out.2.2.1)).mono ?_; rintro e w6 ⟨vq,rfl,hvq,hb6⟩; obtain ⟨Aq,cq,rfl⟩:=Kd.R_slice hvq; have k1:=a0t hb6 h1; have k2:=a0t hb6 h2; have k3:=a0t hb6 h3; have HVQ:=Lib.hid (And.intro hvq hb6); clear hvq hb6))
     have hb16 : Below wr.heap.size wr w6:=a0g (w1:=w5) (by have hb:=HVF.out.2; exact ⟨hb.os,hb.tape,hb.output,hb.size,hb.block⟩) HVQ.out.2
     have H6 : Hid (FirstRel b W1 mb g i w6 /\ (Kd.int .i64).R 3 w6 Nb (λ _=>True) (.slice (some ad) (presN b 256).length cpp) (presN b 256)):=⟨⟨a0i H.out.1.blk hb16,Kd.R_below H.out.1.row hb16,H.out.1.below.trans (hb16.mono H.out.1.below.size)⟩,Kd.R_below H.out.2 hb16⟩
     have hs5 : Hid (mb < w5.heap.size /\ g < w5.heap.size):=by
      have h1:=a0f H.out.1.blk
      have h2:=((Kd.R_bound H.out.1.row).1 g rfl).2.2.1
      have h3 : wr.heap.size <= w5.heap.size:=HVF.out.2.size
      exact ⟨by omega,by omega⟩
     obtain ⟨⟨gv,g1⟩,g2⟩:=b4X H6.out.1.row c hc256
     have hcI : (c : Int) < 256:=by omega
     have HE:=Lib.hid (c3V HC.out.2.2.2 HC.out.1 hc256 HC.out.2.2.1 HP.out.2.2 H6.out.1 H6.out.2 HV.out.2 HVQ.out.1 hs5.out (Nat.le_trans (H.out.1.below.size) HVF.out.2.size))
     clear hb16
     go_wp2_with fail
     go_region
     all_goals
      go_wp2_with fail
      go_roundw
      case rel=>exact ⟨i + 1,by go_num,by omega,HE.out⟩
      case measure=>simp [intOf]; omega
   · obtain rfl : i = (presN b 256).length:=by omega
     obtain ⟨⟨m0,m1,m2⟩,⟨f0,f1,f2⟩⟩:=cell3 H.out.1.blk
     have hkw:=a0i (a0i HK1.out (Below.refl _ _)) H.out.1.below
     obtain ⟨⟨n0,n1,n2⟩,⟨e0,e1,e2⟩⟩:=cell3 hkw
     have HKW:=Lib.hid hkw
     clear hkw
     have HE:=Lib.hid (c3W HB1.out (a0f HK1.out) HKW.out H.out.1)
     go_wp2_with fail
     refine bodyPost_ret ?_ rfl HE.out.2
     exact results_cell_row (fn:=Tryz.f229) (p:=2) (ty:=26) rfl _ _ _ _ _ _ _ rfl HE.out.1 Tryz.underlying26 rfl a5E
def ofR (b : List Int) (one : Bool) : Nat:=if one then zeroR b else a0p b
def ofQ (b : List Int) (one : Bool) : List (List Int):=if one then [zeroQ b] else a0A b
theorem c3Y {w W1 wr : World} {lg : Int} {one : Bool} {qs : List (List Int)} {v : Value} (hb : Below w.heap.size w W1) (hlt : w.heap.size < W1.heap.size) (hk : W1.heap[w.heap.size]? = some (.cells #[.int .i64 0,.bool false,.slice none 0 0] 26 (0,0))) (hv : kq.R 84 wr W1.heap.size (λ _=>True) v qs) (hw : Below W1.heap.size W1 wr) :
    (((wr.setCell ⟨w.heap.size,0,none⟩ (.int .i64 lg)).setCell ⟨w.heap.size,1,none⟩ (.bool one)).setCell ⟨w.heap.size,2,none⟩ v).heap[w.heap.size]? = some (.cells #[.int .i64 lg,.bool one,v] 26 (0,0)) /\
    MadeM lg one qs w (.returned (.agg #[.int .i64 lg,.bool one,v])) (((wr.setCell ⟨w.heap.size,0,none⟩ (.int .i64 lg)).setCell ⟨w.heap.size,1,none⟩ (.bool one)).setCell ⟨w.heap.size,2,none⟩ v):=by
 refine ⟨a1K (a0i hk hw) _ _ _,_,rfl,?_,?_⟩
 · have h1 : kq.R 84 wr w.heap.size (λ k=>k ≠ w.heap.size) v qs:=
     Kd.R_mono (Kd.R_lower (Kd.R_bound hv) (Nat.le_of_lt hlt)) (λ k hk=>by have:=hk.2.1; omega)
   exact Kd.R_mono (a2P h1 _ _ _) (λ _ _=>trivial)
 · exact (((hb.trans (hw.mono hb.size)).setCell (Nat.le_refl _) _).setCell (Nat.le_refl _) _).setCell (Nat.le_refl _) _
theorem a3J {b : List Int} {one : Bool} (hb : Bytes b) (hl : b.length <= 131072) (h0 : 0 < b.length) : canM (ofR b one) one (ofQ b one) b = true:=by
 unfold canM
 rw [decide_eq_true hl,Bool.true_and]
 cases one with
 | true=>exact c3M hb (by omega) h0
 | false=>exact c3P hb (by omega)
theorem a2i (κ : IntKind) (e : TypeId) (W : World) (base : Nat) (ok : Nat -> Prop) (hok : ok W.heap.size) (hb : base <= W.heap.size) (xs : List Int) (hl : xs.length <= 1000000) : (Kd.int κ).R e (W.alloc (.cells (xs.map (Value.int κ)).toArray e)) base ok (.slice (some ⟨W.heap.size,0,none⟩) xs.length xs.length) xs:=by
 refine Kd.R_of_own (h1:=λ _=>rfl) ⟨by simp [encs],.inr ⟨W.heap.size,xs.length,_,rfl,hb,a0k W _,Nat.le_refl _,by unfold maxLen; omega,by simp,?_⟩⟩ (λ k hk=>by cases hk; exact hok)
 rw [Nat.mul_one,show (xs.map (Value.int κ)).toArray.toList = encs (Value.int κ) xs from rfl,List.take_of_length_le (by rw [a2U]; exact Nat.le_refl _)]
theorem c3Z {a b : List Int} (ha : Bytes a) (hb : Bytes b) : ((strOfNums a).toList == (strOfNums b).toList) = decide (a = b):=by
 have e : ∀ l : List Int,(strOfNums l).toList = l.map (λ x=>UInt8.ofNat x.toNat):=by
  intro l; unfold strOfNums; simp
 rw [e a,e b]
 by_cases h : a = b
 · subst h; simp
 · rw [decide_eq_false h]
   simp only [beq_eq_false_iff_ne,ne_eq]
   intro he
   apply h
   have inj : ∀ (a b : List Int),Bytes a -> Bytes b -> a.map (λ x=>UInt8.ofNat x.toNat) = b.map (λ x=>UInt8.ofNat x.toNat) -> a = b:=by
    intro a
    induction a with
    | nil=>intro b _ _ h; cases b with
     | nil=>rfl
     | cons y b=>simp at h
    | cons x a ih=>
     intro b hxa hyb h
     cases b with
     | nil=>simp at h
     | cons y b=>
      rw [List.map_cons,List.map_cons,List.cons.injEq] at h
      have hx:=hxa x (by simp)
      have hy:=hyb y (by simp)
      have h1:=congrArg UInt8.toNat h.1
      simp only [UInt8.toNat_ofNat'] at h1
      have : x = y:=by omega
      rw [this,ih b (λ z hz=>hxa z (by simp [hz])) (λ z hz=>hyb z (by simp [hz])) h.2]
   exact inj a b ha hb he
theorem c4p : Tryz.zeroCells256 = madeCells #[.int .i64 0] 256:=by kernel_rfl
theorem a9B (n : Nat) (e : TypeId) (W : World) (ok : Nat -> Prop) (hok : ok W.heap.size) (base : Nat) (hb : base <= W.heap.size) (hn : n <= 1000000) : (Kd.int .i64).R e (W.alloc (.cells (madeCells #[.int .i64 0] n) e)) base ok (.slice (some ⟨W.heap.size,0,none⟩) n n) (List.replicate n 0):=by
 have hr:=Kd.reps_made (R:=(Kd.int .i64).M (W.alloc (.cells (madeCells #[.int .i64 0] n) e)) base (λ k=>ok k /\ some k ≠ (Value.slice (some ⟨W.heap.size,0,none⟩) n n).ownBlock)) (z:=.int .i64 0) (size:=1) (z0:=(0 : Int)) rfl Nat.one_pos rfl n
 have e' : (Value.int .i64 0).cells = #[.int .i64 0]:=rfl
 rw [e',Nat.mul_one] at hr
 refine ⟨λ k hk=>by cases hk; exact hok,_,⟨?_,.inr ⟨W.heap.size,n,madeCells #[.int .i64 0] n,by simp,hb,a0k W _,by simp,by unfold maxLen; omega,?_,?_⟩⟩,hr⟩
 · simp [size_madeCells]; exact (Nat.mul_one n).symm
 · rw [size_madeCells]; exact (Nat.mul_one n).symm
 · rw [List.length_replicate]; exact List.take_of_length_le (by simp [size_madeCells]; exact Nat.le_of_eq (Nat.mul_one n).symm)
theorem c4q : histL [] = List.replicate 256 0:=by
 unfold histL mapR
 rw [List.map_congr_left (g:=λ _=>(0 : Int)) (λ _ _=>by simp),List.map_const',List.length_range]
theorem c4r (b : List Int) (k : Nat) (hk : k < b.length) {y : Nat} (hy : b.getD k 0 = y) (h : y < 256) : histL (b.take (k + 1)) = (histL (b.take k)).set y ((histL (b.take k)).getD y 0 + 1):=by
 rw [List.take_succ_eq_append_getElem hk]
 have e : b[k] = (y : Int):=by rw [<- hy,List.getD_eq_getElem?_getD,List.getElem?_eq_getElem hk]; rfl
 rw [e,b4u _ h,a5A _ h]
def c4s (b : List Int) (w : World) (e : Ending) (w' : World) : Prop:=∃ v,e = .returned v /\ (Kd.int .i64).R 3 w' w.heap.size (λ _=>True) v (histL b) /\ Below w.heap.size w w'
set_option maxRecDepth 100000 in
set_option maxHeartbeats 1000000 in
theorem b5g (A : Option Addr) (cp : Nat) (b : List Int) (w : World) (hr : (Kd.int .u8).C w A b.length b) (hl : b.length <= 1000000) (hb : ∀ x ∈ b,0 <= x /\ x < 256) :
    Calls Tryz.prog 195 #[.slice A b.length cp] w (c4s b w):=by
 have HR:=Lib.hid (And.intro hr (And.intro hl hb))
 have HI : Hid ((Kd.int .i64).R 256 (w.alloc (.cells Tryz.zeroCells256 256)) w.heap.size (λ _=>True) (.slice (some ⟨w.heap.size,0,none⟩) 256 256) (histL (b.take 0)) /\ Below w.heap.size w (w.alloc (.cells Tryz.zeroCells256 256))):=by
  rw [c4p,List.take_zero,c4q]
  exact ⟨a9B 256 _ w _ trivial _ (Nat.le_refl _) (by omega),(Below.refl _ _).alloc (Nat.le_refl _) _⟩
 clear hr hb
 go_enter Tryz.func195,Tryz.ntmps195
 go_wp2_with fail
 go_loopw [8] (λ kv wr=>∃ (k : Nat),kv = .int .i64 k /\ k <= b.length /\ Hid ((Kd.int .i64).R 256 wr w.heap.size (λ _=>True) (.slice (some ⟨w.heap.size,0,none⟩) 256 256) (histL (b.take k)) /\ Below w.heap.size w wr)) (λ kv _=>b.length - (intOf kv).toNat)
 case atStart=>exact ⟨0,rfl,by omega,HI⟩
 case round=>
  obtain ⟨k,rfl,hk,H⟩:=hrel
  by_cases hlt : k < b.length
  · obtain ⟨ad,rfl,hcell⟩:=a0v HR.out.1 k hlt
    have hcw:=a0t H.out.2 hcell
    obtain ⟨x,hx⟩ : ∃ x : Nat,b.getD k 0 = x:=by
     have : 0 <= b.getD k 0:=(HR.out.2.2 _ (a2h hlt)).1
     exact ⟨(b.getD k 0).toNat,by omega⟩
    have hx2 : x < 256:=by have:=(HR.out.2.2 _ (a2h hlt)).2; omega
    rw [hx] at hcw
    obtain ⟨hc3,hf3⟩:=a1C H.out.1 x hx2
    obtain ⟨y,hy⟩ : ∃ y,y = (histL (b.take k)).getD x 0:=⟨_,rfl⟩
    have hyr : 0 <= y /\ y <= 1000000:=by
     rw [hy,a5A _ hx2]
     have:=List.count_le_length (a:=(x : Int)) (l:=b.take k)
     rw [List.length_take] at this
     omega
    obtain ⟨hy0,hy1⟩:=hyr
    rw [<- hy] at hc3
    have HY:=Lib.hid (And.intro hy hx)
    have hx256 : (x : Int) < 256:=by omega
    clear hy hx hcell
    go_wp2_with fail
    go_roundw
    case rel=>
     refine ⟨k + 1,by go_num,by omega,?_,H.out.2.setCell (Nat.le_refl _) _⟩
     rw [c4r b k hlt HY.out.2 hx2,<- HY.out.1]
     have:=Kd.R_putn H.out.1 (x : Int) (y + 1)
     rw [Int.toNat_natCast] at this
     exact this
    case measure=>simp [intOf]; omega
  · obtain rfl : k = b.length:=by omega
    rw [List.take_length] at H
    have hrd:=Kd.R_reads' H.out.1
    have hcl : (histL b).length = 256:=a1z _
    have HE:=Lib.hid (a6H .i64 3 wr w.heap.size (λ _=>True) H.out.2.size trivial)
    have HC : Hid ((Kd.int .i64).C (wr.alloc (.cells #[] 3)) (some ⟨w.heap.size,0,none⟩) 256 (histL b)):=by
     have:=Kd.C_alloc hrd.2.2 (.cells #[] 3)
     rw [hcl] at this; exact this
    have HL : Hid ((([] : List Int).length + (histL b).length) * 8 <= 140737488355328):=by show _ <= _; rw [hcl]; decide
    have HB:=Lib.hid (H.out.2.alloc H.out.2.size (.cells #[] 3))
    have HS : Hid (w.heap.size <= (wr.alloc (.cells #[] 3)).heap.size):=by show _ <= _; have:=H.out.2.size; simp; omega
    clear hrd hcl hlt
    go_wp2_with (at_builtin; refine Kd.R_append_rows (Kd.int .i64) (Rr:=(Kd.int .i64).K (wr.alloc (.cells #[] 3))) (w0:=w) (W:=wr.alloc (.cells #[] 3)) w.heap.size rfl (.tmp 18) (.tmp 19) 84 3 (.int .i64 0) 8 rfl Tryz.underlying84 a4x rfl (by decide) (by decide) (.slice (some ⟨wr.heap.size,0,none⟩) 0 0) [] (histL b) (some ⟨w.heap.size,0,none⟩) 256 256 (λ _=>True) (λ _=>False) rfl rfl HE.out HC.out (λ _ _ h=>h) (λ _ h=>h.elim) (λ _ _=>trivial) HB.out HS.out HL.out ?_; intro vi w2 hr2 hb2 hg2 hat2; have HR2:=Lib.hid hr2; have HB2:=Lib.hid hb2; clear hr2 hb2 hg2 hat2)
    go_ret
    rw [List.nil_append] at HR2
    exact ⟨_,rfl,HR2.out,HB2.out⟩
end Go.Proofs.YtflfjpkmjnnodaaGreat
namespace Go.Proofs.YtflfjpkmjnnodaaGreat
open Go.RowKit Go.Proofs.YtflfjpkmjnnodaaGreatW.PrintWords HeapL
def a1I (rest : List Int) (s : Nat) : K3:=((s : Int),rest.getD s 0,0)
def candN (rest : List Int) (had : List Bool) (k : Nat) : List K3:=((List.range k).filter (λ s=>!had.getD s false)).map (a1I rest)
def a1v (c q : List Int) (s : Nat) : K3:=((s : Int),q.getD s 0,(1073741824 - c.getD s 0) * 256 + s)
def candT (c q : List Int) (k : Nat) : List K3:=((List.range k).filter (λ s=>decide (0 < c.getD s 0))).map (a1v c q)
theorem a9L (rest : List Int) (had : List Bool) (k : Nat) : candN rest had (k + 1) = if had.getD k false = false then candN rest had k ++ [a1I rest k] else candN rest had k:=by
 unfold candN
 have e : [k].filter (λ s=>!had.getD s false) = if had.getD k false = false then [k] else []:=by
  rw [List.filter_cons,List.filter_nil]; cases had.getD k false <;> rfl
 rw [List.range_succ,List.filter_append,List.map_append,e]
 split
 · rfl
 · rw [List.map_nil,List.append_nil]
theorem b5v (c q : List Int) (k : Nat) : candT c q (k + 1) = if 0 < c.getD k 0 then candT c q k ++ [a1v c q k] else candT c q k:=by
 unfold candT
 rw [List.range_succ,List.filter_append,List.map_append,List.filter_cons,List.filter_nil]
 by_cases h : 0 < c.getD k 0
 · rw [if_pos h,if_pos (decide_eq_true h)]; rfl
 · rw [if_neg h,if_neg (by rw [decide_eq_false h]; decide),List.map_nil,List.append_nil]
theorem a9M (rest : List Int) (had : List Bool) (k : Nat) : (candN rest had k).length <= k:=by
 unfold candN; rw [List.length_map]; exact Nat.le_trans (List.length_filter_le _ _) (by simp)
theorem a9N (c q : List Int) (k : Nat) : (candT c q k).length <= k:=by
 unfold candT; rw [List.length_map]; exact Nat.le_trans (List.length_filter_le _ _) (by simp)
theorem b5w {p : Nat -> Bool} {t : Nat} (ht : t < 256) (hp : p t = true) : ((List.range 256).filter p).Perm (t :: (List.range 256).filter (λ s=>p s && decide (s ≠ t))):=by
 have hm : t ∈ (List.range 256).filter p:=List.mem_filter.2 ⟨List.mem_range.2 ht,hp⟩
 have hn : ((List.range 256).filter p).Nodup:=List.Pairwise.filter _ List.nodup_range
 have e : ((List.range 256).filter p).erase t = (List.range 256).filter (λ s=>p s && decide (s ≠ t)):=by
  rw [hn.erase_eq_filter,List.filter_filter]
  refine List.filter_congr λ s _=>?_
  rw [Bool.and_comm]
  congr 1
  by_cases h : s = t <;> simp [h]
 rw [<- e]
 exact List.perm_cons_erase hm
theorem b5x (rest : List Int) (had : List Bool) : ∀ k s,s < k -> had.getD s false = false -> 0 <= needN rest had k /\ (rest.getD s 0 < rest.getD (needN rest had k).toNat 0 \/ rest.getD s 0 = rest.getD (needN rest had k).toNat 0 /\ needN rest had k <= s)
 | 0,s,h,_=>by omega
 | k + 1,s,h,hs=>by
  have hl:=a4P rest had k
  simp only [needN]
  by_cases e : s = k
  · subst e
    rw [if_neg (by rw [hs]; decide)]
    by_cases h1 : needN rest had s < 0
    · rw [if_pos h1,Int.toNat_natCast]; exact ⟨by omega,.inr ⟨rfl,Int.le_refl _⟩⟩
    · rw [if_neg h1]
      by_cases h2 : rest.getD s 0 > rest.getD (needN rest had s).toNat 0
      · rw [if_pos h2,Int.toNat_natCast]; exact ⟨by omega,.inr ⟨rfl,Int.le_refl _⟩⟩
      · rw [if_neg h2]; exact ⟨by omega,by omega⟩
  · obtain ⟨i1,i2⟩:=b5x rest had k s (by omega) hs
    by_cases h0 : had.getD k false = true
    · rw [if_pos h0]; exact ⟨i1,i2⟩
    · rw [if_neg h0,if_neg (by omega)]
      by_cases h2 : rest.getD k 0 > rest.getD (needN rest had k).toNat 0
      · rw [if_pos h2,Int.toNat_natCast]; exact ⟨by omega,.inl (by omega)⟩
      · rw [if_neg h2]; exact ⟨i1,i2⟩
theorem b5y (q c : List Int) : ∀ k s,s < k -> q.getD s 0 < q.getD (richN q c k) 0 \/ q.getD s 0 = q.getD (richN q c k) 0 /\ (c.getD (richN q c k) 0 < c.getD s 0 \/ c.getD (richN q c k) 0 = c.getD s 0 /\ s <= richN q c k)
 | 0,s,h=>by omega
 | k + 1,s,h=>by
  have hl:=a4Q q c k
  by_cases e : s = k
  · subst e
    simp only [richN]
    split
    · exact .inr ⟨rfl,.inr ⟨rfl,Nat.le_refl _⟩⟩
    · omega
  · have ih:=b5y q c k s (by omega)
    simp only [richN]
    split
    · omega
    · exact ih
theorem c4M {rest : List Int} {had : List Bool} {x : K3} (h : x ∈ candN rest had 256) : ∃ s,s < 256 /\ had.getD s false = false /\ x = a1I rest s:=by
 obtain ⟨s,hs,rfl⟩:=List.mem_map.1 h
 obtain ⟨h1,h2⟩:=List.mem_filter.1 hs
 exact ⟨s,List.mem_range.1 h1,by simpa using h2,rfl⟩
theorem b5z {rest : List Int} {had : List Bool} {s : Nat} (h : s < 256) (h2 : had.getD s false = false) : a1I rest s ∈ candN rest had 256:=
 List.mem_map.2 ⟨s,List.mem_filter.2 ⟨List.mem_range.2 h,by show (!had.getD s false) = true; rw [h2]; rfl⟩,rfl⟩
theorem b5A {ys : List K3} {x : K3} (h : x ∈ ys) : ∃ k,k < ys.length /\ ys.getD k z3 = x:=by
 obtain ⟨k,hk,rfl⟩:=List.getElem_of_mem h
 exact ⟨k,hk,by rw [List.getD_eq_getElem?_getD,List.getElem?_eq_getElem hk]; rfl⟩
theorem b5B {ys : List K3} {k : Nat} (h : k < ys.length) : ys.getD k z3 ∈ ys:=by
 rw [List.getD_eq_getElem?_getD,List.getElem?_eq_getElem h]; exact List.getElem_mem _
theorem c4N {rest : List Int} {had : List Bool} {ys : List K3} (hp : ys.Perm (candN rest had 256)) (hh : From lessC z3 ys 0 ys.length) (h0 : 0 < ys.length) :
    ∃ t : Nat,needN rest had 256 = t /\ t < 256 /\ had.getD t false = false /\ ys.getD 0 z3 = a1I rest t:=by
 obtain ⟨s,hs,hsf,e⟩:=c4M (hp.subset (b5B h0))
 obtain ⟨n1,n2⟩:=b5x rest had 256 s hs hsf
 obtain ⟨l1,l2,l3⟩:=a4P rest had 256
 obtain ⟨t,ht⟩ : ∃ t : Nat,needN rest had 256 = t:=⟨_,(Int.toNat_of_nonneg n1).symm⟩
 rw [ht] at n1 n2 l2 l3
 rw [Int.toNat_natCast] at n2 l3
 have hf:=l3 (by omega)
 obtain ⟨k,hk,ek⟩:=b5A (hp.symm.subset (b5z (rest:=rest) (show t < 256 by omega) hf))
 have hr:=From.root ordC hh (Nat.le_refl _) (λ _ _=>trivial) k hk
 rw [ek,e,a7A] at hr
 simp only [a1I,true_and,Int.lt_irrefl,false_or] at hr
 have est : s = t:=by omega
 subst est
 exact ⟨s,ht,hs,hf,e⟩
theorem c4O {rest : List Int} {had : List Bool} {ys zs : List K3} {t : Nat} (hl : had.length = 256) (ht : t < 256) (hf : had.getD t false = false) (hp : ys.Perm (candN rest had 256)) (h : (a1I rest t :: zs).Perm ys) : zs.Perm (candN rest (had.set t true) 256):=by
 have h1:=(b5w (p:=λ s=>!had.getD s false) ht (by show (!had.getD t false) = true; rw [hf]; rfl)).map (a1I rest)
 have h2 : (a1I rest t :: zs).Perm (a1I rest t :: ((List.range 256).filter (λ s=>(!had.getD s false) && decide (s ≠ t))).map (a1I rest)):=(h.trans hp).trans h1
 have h3:=h2.cons_inv
 have e : candN rest (had.set t true) 256 = ((List.range 256).filter (λ s=>(!had.getD s false) && decide (s ≠ t))).map (a1I rest):=by
  unfold candN
  congr 1
  refine List.filter_congr λ s hs=>?_
  rw [List.getD_eq_getElem?_getD,List.getElem?_set]
  by_cases e : t = s
  · subst e; rw [if_pos rfl,if_pos (by omega)]; simp
  · rw [if_neg e,<- List.getD_eq_getElem?_getD]
    have : ¬ s = t:=λ x=>e x.symm
    simp [this]
 rw [e]; exact h3
theorem c4P {c q : List Int} {x : K3} (h : x ∈ candT c q 256) : ∃ s,s < 256 /\ 0 < c.getD s 0 /\ x = a1v c q s:=by
 obtain ⟨s,hs,rfl⟩:=List.mem_map.1 h
 obtain ⟨h1,h2⟩:=List.mem_filter.1 hs
 exact ⟨s,List.mem_range.1 h1,by simpa using h2,rfl⟩
theorem b5C {c q : List Int} {s : Nat} (h : s < 256) (h2 : 0 < c.getD s 0) : a1v c q s ∈ candT c q 256:=
 List.mem_map.2 ⟨s,List.mem_filter.2 ⟨List.mem_range.2 h,decide_eq_true h2⟩,rfl⟩
theorem c4Q {c q : List Int} {ys : List K3} (hi : ∀ s,0 < q.getD s 0 ↔ 0 < c.getD s 0) (hp : ys.Perm (candT c q 256)) (hh : From lessC z3 ys 0 ys.length) (h0 : 0 < ys.length) :
    richN q c 256 < 256 /\ 0 < c.getD (richN q c 256) 0 /\ ys.getD 0 z3 = a1v c q (richN q c 256):=by
 obtain ⟨s,hs,hsf,e⟩:=c4P (hp.subset (b5B h0))
 have n2:=b5y q c 256 s hs
 have l2:=a4Q q c 256
 obtain ⟨t,ht⟩ : ∃ t : Nat,t = richN q c 256:=⟨_,rfl⟩
 rw [<- ht] at n2 l2 ⊢
 have hqs:=(hi s).2 hsf
 have hct : 0 < c.getD t 0:=(hi t).1 (by omega)
 obtain ⟨k,hk,ek⟩:=b5A (hp.symm.subset (b5C (q:=q) (show t < 256 by omega) hct))
 have hr:=From.root ordC hh (Nat.le_refl _) (λ _ _=>trivial) k hk
 rw [ek,e,a7A] at hr
 simp only [a1v] at hr
 have est : s = t:=by omega
 subst est
 exact ⟨hs,hct,e⟩
theorem c4R {c q : List Int} {ys zs us : List K3} {t : Nat} (hl : q.length = 256) (ht : t < 256) (hf : 0 < c.getD t 0) (hp : ys.Perm (candT c q 256)) (h : (a1v c q t :: zs).Perm ys)
    (hu : us.Perm (((t : Int),q.getD t 0 - 1,(1073741824 - c.getD t 0) * 256 + t) :: zs)) : us.Perm (candT c (q.set t (q.getD t 0 - 1)) 256):=by
 have hpa:=b5w (p:=λ s=>decide (0 < c.getD s 0)) ht (decide_eq_true hf)
 have h2 : (a1v c q t :: zs).Perm (a1v c q t :: ((List.range 256).filter (λ s=>(decide (0 < c.getD s 0)) && decide (s ≠ t))).map (a1v c q)):=(h.trans hp).trans (hpa.map (a1v c q))
 have h3:=h2.cons_inv
 have h4:=hpa.map (a1v c (q.set t (q.getD t 0 - 1)))
 rw [List.map_cons] at h4
 have e1 : a1v c (q.set t (q.getD t 0 - 1)) t = ((t : Int),q.getD t 0 - 1,(1073741824 - c.getD t 0) * 256 + t):=by
  unfold a1v; rw [a3k _ _ _ _ (by omega),if_pos rfl]
 have e2 : ((List.range 256).filter (λ s=>(decide (0 < c.getD s 0)) && decide (s ≠ t))).map (a1v c (q.set t (q.getD t 0 - 1))) = ((List.range 256).filter (λ s=>(decide (0 < c.getD s 0)) && decide (s ≠ t))).map (a1v c q):=by
  refine List.map_congr_left λ s hs=>?_
  have hs2:=(List.mem_filter.1 hs).2
  have : s ≠ t:=by simp at hs2; exact hs2.2
  unfold a1v; rw [a3k _ _ _ _ (by omega),if_neg this]
 rw [e1,e2] at h4
 exact (hu.trans (h3.cons _)).trans h4.symm
open Go.IntWalk
structure GvRel (gq c B : Nat) (w : World) (qs : List Int) (p : Nat) (v : Value) (ys : List K3) (wr : World) : Prop where
 q : (Kd.int .i64).R 3 wr B (λ _=>True) (.slice (some ⟨gq,0,none⟩) 256 c) qs
 h : CKp p B wr v ys
 ne : p ≠ gq /\ v.ownBlock ≠ some gq
 heap : From lessC z3 ys 0 ys.length
 below : Below B w wr
 pB : B <= p
theorem GvRel.start {gq c B : Nat} {w : World} {qs : List Int} {l : Value} {xs : List K3} (hq : (Kd.int .i64).R 3 w B (λ _=>True) (.slice (some ⟨gq,0,none⟩) 256 c) qs)
    (hl : k3.R 253 w B (λ k=>k ≠ gq) l xs) (hB : B <= w.heap.size) :
    CKp w.heap.size B (w.alloc (.cells #[l] 251)) l xs /\ (Kd.int .i64).R 3 (w.alloc (.cells #[l] 251)) B (λ _=>True) (.slice (some ⟨gq,0,none⟩) 256 c) qs /\
     w.heap.size ≠ gq /\ l.ownBlock ≠ some gq /\ Below B w (w.alloc (.cells #[l] 251)):=by
 have h1:=Kd.R_lt hq gq rfl
 refine ⟨⟨a0k _ _,Kd.R_alloc (Kd.R_mono (Kd.R_bound hl) (λ k hk=>by have:=hk.2.2.1; omega)) _⟩,Kd.R_alloc hq _,by omega,λ e=>hl.1 gq e rfl,(Below.refl _ _).alloc hB _⟩
theorem GvRel.of_init {gq c B : Nat} {w w1 w2 : World} {qs : List Int} {p : Nat} {v : Value} {ys : List K3} (hq : (Kd.int .i64).R 3 w1 B (λ _=>True) (.slice (some ⟨gq,0,none⟩) 256 c) qs) (hp : p ≠ gq) (hv : v.ownBlock ≠ some gq) (hb : Below B w w1) (hB : B <= p) (hB1 : B <= w1.heap.size)
    (h : CKp p B w2 v ys) (hh : From lessC z3 ys 0 ys.length) (ho : Only (λ k=>v.ownBlock = some k) w1 w2) : GvRel gq c B w qs p v ys w2:=
 ⟨a3e rfl hq ho (λ k hk e=>hv (by rw [e,<- hk]; rfl)),h,⟨hp,hv⟩,hh,hb.trans (ho.below hB1 (λ k e=>Kd.R_base h.row k e)),hB⟩
theorem GvRel.popped {gq c B g n cap : Nat} {w w1 w2 : World} {qs : List Int} {p : Nat} {ys zs : List K3} (H : GvRel gq c B w qs p (.slice (some ⟨g,0,none⟩) (n + 1) cap) ys w1) (hB1 : B <= w1.heap.size)
    (h : CKp p B w2 (.slice (some ⟨g,0,none⟩) n cap) zs) (hh : From lessC z3 zs 0 n) (ho : Only (λ k=>k = p \/ k = g) w1 w2) : GvRel gq c B w qs p (.slice (some ⟨g,0,none⟩) n cap) zs w2:=by
 have hg : g ≠ gq:=λ e=>H.ne.2 (by rw [e]; rfl)
 have hn:=(Kd.R_reads' h.row).1
 exact ⟨a3e rfl H.q ho (λ k hk e=>by
  have hk' : gq = k:=by simpa [Value.ownBlock] using hk
  subst hk'
  rcases e with e | e
  · exact H.ne.1 e.symm
  · exact hg e.symm),h,⟨H.ne.1,λ e=>hg (by simpa [Value.ownBlock] using e)⟩,by rw [<- hn]; exact hh,
  H.below.trans (ho.below hB1 (λ k e=>by rcases e with e | e; exact e ▸ H.pB; exact e ▸ Kd.R_base h.row g rfl)),H.pB⟩
theorem GvRel.put {gq c B : Nat} {w w1 : World} {qs : List Int} {p : Nat} {v : Value} {ys : List K3} (H : GvRel gq c B w qs p v ys w1) (t : Nat) (y : Int) : GvRel gq c B w (qs.set t y) p v ys (w1.setCell ⟨gq,t,none⟩ (.int .i64 y)):=by
 have ho : Only (λ k=>k = gq) w1 (w1.setCell ⟨gq,t,none⟩ (.int .i64 y)):=(Only.refl _ _).set1 _ _
 have hr:=Kd.R_putn H.q (t : Int) y
 rw [Int.toNat_natCast] at hr
 refine ⟨hr,⟨a1x H.h.blk (p:=⟨gq,t,none⟩) H.ne.1 _,?_⟩,H.ne,H.heap,H.below.setCell (Kd.R_base H.q gq rfl) _,H.pB⟩
 exact Kd.R_mono (Kd.R_step (Kd.R_tight rfl H.h.row) (λ k hk hlt=>ho.block k hlt (λ e=>H.ne.2 (by rw [<- e]; exact hk.symm)))) (λ k hk=>H.h.row.1 k hk.symm)
theorem c4S {rest : List Int} {m : Nat} {st : List Int × List Bool} {t : Nat} (h : needN rest (a0T rest m st).2 256 = t) : a0T rest (m + 1) st = ((a0T rest m st).1.set t ((a0T rest m st).1.getD t 0 + 1),(a0T rest m st).2.set t true):=by
 simp only [a0T]; rw [h,Int.toNat_natCast]
structure GvNum (rest : List Int) (had : List Bool) (ys : List K3) (k : Nat) (st : List Int × List Bool) : Prop where
 ql : st.1.length = 256
 hl : st.2.length = 256
 rng : ∀ s,0 <= st.1.getD s 0 /\ st.1.getD s 0 <= 8192 + k
 free : freeN st.2 + k = freeN had
 perm : ys.Perm (candN rest st.2 256)
theorem GvNum.some {rest : List Int} {had : List Bool} {ys : List K3} {k : Nat} {st : List Int × List Bool} (h : GvNum rest had ys k st) (hk : k < freeN had) : 0 < ys.length:=by
 obtain ⟨s,hs,hf⟩:=a9m h.hl (by have:=h.free; omega)
 exact List.length_pos_of_mem (h.perm.symm.subset (b5z hs hf))
theorem GvNum.next {rest : List Int} {had : List Bool} {ys zs : List K3} {k t : Nat} {st : List Int × List Bool} (h : GvNum rest had ys k st) (ht : t < 256) (hf : st.2.getD t false = false) (hz : (a1I rest t :: zs).Perm ys) : GvNum rest had zs (k + 1) (st.1.set t (st.1.getD t 0 + 1),st.2.set t true):=by
 refine ⟨by simp [h.ql],by simp [h.hl],λ s=>?_,?_,c4O h.hl ht hf h.perm hz⟩
 · show 0 <= (st.1.set t (st.1.getD t 0 + 1)).getD s 0 /\ (st.1.set t (st.1.getD t 0 + 1)).getD s 0 <= 8192 + ((k + 1 : Nat) : Int)
   rw [a3k _ _ _ _ (by rw [h.ql]; exact ht)]
   have h1:=h.rng t; have h2:=h.rng s
   split <;> omega
 · have:=b4A (s:=t) (by rw [h.hl]; exact ht) hf
   have:=h.free
   show freeN (st.2.set t true) + (k + 1) = _
   omega
theorem c4T (a b c : Value) (w : World) : (Instr.field 253 (.agg #[a,b,c]) 0).run Tryz.prog w = .ok a w:=by kernel_rfl
def c4U (gq c B : Nat) (qs' : List Int) (w : World) (e : Ending) (w' : World) : Prop:=e = .returned (.tuple #[]) /\ (Kd.int .i64).R 3 w' B (λ _=>True) (.slice (some ⟨gq,0,none⟩) 256 c) qs' /\ Below B w w'
set_option maxRecDepth 100000 in
set_option maxHeartbeats 1000000 in
theorem c4V (gq c B : Nat) (qs : List Int) (l : Value) (rest : List Int) (had : List Bool) (m : Nat) (w : World) (hq : (Kd.int .i64).R 3 w B (λ _=>True) (.slice (some ⟨gq,0,none⟩) 256 c) qs)
    (hl : k3.R 253 w B (λ k=>k ≠ gq) l (candN rest had 256)) (hB : B <= w.heap.size) (hqs : qs.length = 256) (hhl : had.length = 256) (hr : ∀ s,0 <= qs.getD s 0 /\ qs.getD s 0 <= 8192) (hm : m <= freeN had) (hm2 : m <= 4096) :
    Calls Tryz.prog 235 #[.slice (some ⟨gq,0,none⟩) 256 c,l,.int .i64 m] w (c4U gq c B (a0T rest m (qs,had)).1 w):=by
 have HS:=Lib.hid (GvRel.start hq hl hB)
 have HM:=Lib.hid (And.intro hB (And.intro hqs (And.intro hhl (And.intro hr hm))))
 clear hq hl hB hqs hhl hr hm
 obtain ⟨A,cl,rfl⟩:=Kd.R_slice HS.out.1.row
 have ta:=a9I
 go_enter Tryz.func235,Tryz.ntmps235
 go_wp2_with fail
 refine (b5u _ HS.out.1 (by have:=a9M rest had 256; omega)).mono ?_
 rintro e w2 ⟨rfl,ys,h1,h2,h3,h4⟩
 have HI : Hid (GvRel gq c B w qs w.heap.size (.slice A (candN rest had 256).length cl) ys w2 /\ GvNum rest had ys 0 (qs,had)):=
  ⟨GvRel.of_init HS.out.2.1 HS.out.2.2.1 HS.out.2.2.2.1 HS.out.2.2.2.2 HM.out.1 (by simp; have:=HM.out.1; omega) h1 h3 h4,⟨HM.out.2.1,HM.out.2.2.1,λ s=>by have:=HM.out.2.2.2.1 s; show 0 <= qs.getD s 0 /\ qs.getD s 0 <= 8192 + ((0 : Nat) : Int); omega,rfl,h2⟩⟩
 clear h1 h2 h3 h4
 go_wp2_with fail
 go_loopw [9] (λ kv wr=>∃ (k : Nat) (v : Value) (ys : List K3),kv = .int .i64 k /\ k <= m /\ Hid (GvRel gq c B w (a0T rest k (qs,had)).1 w.heap.size v ys wr /\ GvNum rest had ys k (a0T rest k (qs,had)))) (λ kv _=>m - (intOf kv).toNat)
 case atStart=>exact ⟨0,_,ys,rfl,by omega,HI⟩
 case round=>
  obtain ⟨k,v,ys,rfl,hk,H⟩:=hrel
  by_cases hlt : k < m
  · have hpos:=H.out.2.some (by have:=HM.out.2.2.2.2; omega)
    obtain ⟨g,cap,rfl,-⟩:=Kd.R_form H.out.1.h.row hpos
    obtain ⟨t,ht1,ht2,ht3,ht4⟩:=c4N H.out.2.perm H.out.1.heap hpos
    obtain ⟨n,hn⟩ : ∃ n,ys.length = n + 1:=⟨ys.length - 1,by omega⟩
    rw [hn] at H
    have hn6 : n <= 100000:=by have:=H.out.2.perm.length_eq; have:=a9M rest (a0T rest k (qs,had)).2 256; omega
    have HT:=Lib.hid (And.intro ht1 (And.intro ht2 (And.intro ht3 (And.intro ht4 hn))))
    have HBr : Hid (B <= wr.heap.size):=Nat.le_trans HM.out.1 H.out.1.below.size
    clear ht1 ht3 ht4 hn hpos
    go_wp2_with fail
    refine (b5t ordC _ H.out.1.h hn6 (λ _ _=>trivial) (by have:=H.out.1.heap; rw [HT.out.2.2.2.2] at this; exact this)).mono ?_
    rintro e w3 ⟨rfl,zs,h1,h2,h3,h4⟩
    have H3 : Hid (GvRel gq c B w (a0T rest k (qs,had)).1 w.heap.size (.slice (some ⟨g,0,none⟩) n cap) zs w3):=GvRel.popped H.out.1 HBr.out h1 h3 h4
    rw [HT.out.2.2.2.1] at h2 ⊢
    have HZ:=Lib.hid (GvNum.next H.out.2 ht2 HT.out.2.2.1 h2)
    clear h1 h2 h3 h4
    obtain ⟨hc3,hf3⟩:=a1C H3.out.q t ht2
    obtain ⟨hy0,hy1⟩:=H.out.2.rng t
    obtain ⟨y,hy⟩ : ∃ y,y = (a0T rest k (qs,had)).1.getD t 0:=⟨_,rfl⟩
    rw [<- hy] at hc3 hy0 hy1
    have HY:=Lib.hid hy
    have ht256 : (t : Int) < 256:=by omega
    clear hy
    simp only [a1I]
    obtain ⟨z,hz⟩ : ∃ z,z = rest.getD t 0:=⟨_,rfl⟩
    rw [<- hz]
    have fd:=c4T (.int .i64 t) (.int .i64 z) (.int .i64 0)
    clear hz
    go_wp2_with fail
    go_roundw
    case rel=>
     have hg:=c4S (st:=(qs,had)) HT.out.1
     refine ⟨k + 1,.slice (some ⟨g,0,none⟩) n cap,zs,by go_num,by omega,?_⟩
     rw [hg,<- HY.out]
     exact ⟨H3.out.put t (y + 1),by rw [HY.out]; exact HZ.out⟩
    case measure=>simp [intOf]; omega
  · have hkm : k = m:=by omega
    subst hkm
    go_wp2_with fail
    go_end0
    exact ⟨rfl,H.out.1.q,H.out.1.below⟩
structure TkRel (gq cq B : Nat) (W0 : World) (qs : List Int) (p : Nat) (v : Value) (ys : List K3) (wr : World) : Prop where
 q : (Kd.int .i64).R 3 wr B (λ _=>True) (.slice (some ⟨gq,0,none⟩) 256 cq) qs
 h : CKp p B wr v ys
 ne : p ≠ gq /\ v.ownBlock ≠ some gq
 below : Below B W0 wr
 pB : B <= p
theorem TkRel.gv {gq cq B : Nat} {W0 : World} {qs : List Int} {p : Nat} {v : Value} {ys : List K3} {wr : World} (h : TkRel gq cq B W0 qs p v ys wr) (hh : From lessC z3 ys 0 ys.length) : GvRel gq cq B W0 qs p v ys wr:=⟨h.q,h.h,h.ne,hh,h.below,h.pB⟩
theorem TkRel.start {gq cq B : Nat} {W0 w : World} {qs : List Int} (hq : (Kd.int .i64).R 3 w B (λ _=>True) (.slice (some ⟨gq,0,none⟩) 256 cq) qs) (hb : Below B W0 w) (hB : B <= w.heap.size) :
    TkRel gq cq B W0 qs w.heap.size (.slice none 0 0) [] (w.alloc (.cells #[.slice none 0 0] 251)):=by
 have h1:=Kd.R_lt hq gq rfl
 exact ⟨Kd.R_alloc hq _,⟨a0k _ _,Kd.R_nil _ _ _ _ _⟩,⟨by omega,by simp [Value.ownBlock]⟩,hb.alloc hB _,hB⟩
theorem TkRel.app {gq cq B : Nat} {W0 W wa : World} {qs : List Int} {p : Nat} {v v1 : Value} {ys zs : List K3} (H : TkRel gq cq B W0 qs p v ys W) (hB : B <= W.heap.size) (hr : k3.R 253 wa B (λ k=>k ≠ p) v1 zs) (hg : W.grownBy wa v.ownBlock)
    (hat : v1.ownBlock = v.ownBlock \/ ∃ b,v1.ownBlock = some b /\ W.heap.size <= b) : TkRel gq cq B W0 qs p v1 zs (wa.setCell ⟨p,0,none⟩ v1):=by
 have hpv : some p ≠ v.ownBlock:=λ e=>H.h.row.1 p e.symm rfl
 have hgl:=Kd.R_lt H.q gq rfl
 have hb1:=a1e H.h.blk hg hpv
 have hne1 : v1.ownBlock ≠ some gq:=λ e=>by
  rcases hat with h | ⟨b,h,hle⟩
  · exact H.ne.2 (by rw [<- h]; exact e)
  · rw [h] at e; injection e with e; omega
 have h1:=Kd.R_grown1 H.q rfl hg H.ne.2
 have ho : Only (λ k=>k = p) wa (wa.setCell ⟨p,0,none⟩ v1):=(Only.refl _ _).set1 _ _
 refine ⟨a3e rfl h1 ho (λ k hk e=>H.ne.1 (by rw [<- e]; simpa [Value.ownBlock] using hk.symm)),⟨a0u hb1 0 _,Kd.R_far (p:=⟨p,0,none⟩) hr (λ k hk=>hk) _⟩,⟨H.ne.1,hne1⟩,?_,H.pB⟩
 exact (b9q H.below hg (λ k hk=>Kd.R_base H.h.row k hk) hB).setCell H.pB _
theorem GvRel.alloc {gq c B : Nat} {w : World} {qs : List Int} {p : Nat} {v : Value} {ys : List K3} {wr : World} (H : GvRel gq c B w qs p v ys wr) (hB : B <= wr.heap.size) (o : Obj) : GvRel gq c B w qs p v ys (wr.alloc o):=
 ⟨Kd.R_alloc H.q o,H.h.below ((Below.refl _ _).alloc (Nat.le_refl _) o),H.ne,H.heap,H.below.alloc hB o,H.pB⟩
theorem GvRel.far {gq c B : Nat} {w : World} {qs : List Int} {p : Nat} {v : Value} {ys : List K3} {wr : World} (H : GvRel gq c B w qs p v ys wr) {g : Nat} (h1 : g ≠ gq) (h2 : p ≠ g) (h3 : v.ownBlock ≠ some g) (hB : B <= g) (j : Nat) (u : Value) : GvRel gq c B w qs p v ys (wr.setCell ⟨g,j,none⟩ u):=by
 have ho : Only (λ k=>k = g) wr (wr.setCell ⟨g,j,none⟩ u):=(Only.refl _ _).set1 _ _
 refine ⟨a3e rfl H.q ho (λ k hk e=>h1 (by rw [<- e]; simpa [Value.ownBlock] using hk.symm)),⟨a1x H.h.blk (p:=⟨g,j,none⟩) h2 _,?_⟩,H.ne,H.heap,H.below.setCell hB _,H.pB⟩
 exact Kd.R_mono (Kd.R_step (Kd.R_tight rfl H.h.row) (λ k hk hlt=>ho.block k hlt (λ e=>h3 (by rw [<- e]; exact hk.symm)))) (λ k hk=>H.h.row.1 k hk.symm)
theorem GvRel.pushed {gq c B : Nat} {w w1 w2 : World} {qs : List Int} {p : Nat} {v v' : Value} {ys zs : List K3} (H : GvRel gq c B w qs p v ys w1) (hB : B <= w1.heap.size) (h : CKp p B w2 v' zs) (hh : From lessC z3 zs 0 zs.length)
    (hat : v'.ownBlock = v.ownBlock \/ ∃ b,v'.ownBlock = some b /\ w1.heap.size <= b) (ho : Only (λ k=>k = p \/ v.ownBlock = some k) w1 w2) : GvRel gq c B w qs p v' zs w2:=by
 have hgl:=Kd.R_lt H.q gq rfl
 refine ⟨a3e rfl H.q ho (λ k hk e=>?_),h,⟨H.ne.1,λ e=>?_⟩,hh,H.below.trans (ho.below hB (λ k e=>?_)),H.pB⟩
 · have hk' : gq = k:=by simpa [Value.ownBlock] using hk
   subst hk'
   rcases e with e | e
   · exact H.ne.1 e.symm
   · exact H.ne.2 e
 · rcases hat with h | ⟨b,h,hle⟩
   · exact H.ne.2 (by rw [<- h]; exact e)
   · rw [h] at e; injection e with e; omega
 · rcases e with e | e
   · exact e ▸ H.pB
   · exact Kd.R_base H.h.row k e
theorem c4W (c : List Int) (m : Nat) (q : List Int) : a0Q c (m + 1) q = (a0Q c m q).set (richN (a0Q c m q) c 256) ((a0Q c m q).getD (richN (a0Q c m q) c 256) 0 - 1):=rfl
def a9O (c q : List Int) (m : Nat) : Prop:=∀ k,k <= m -> (a0Q c k q).length = 256 /\ (∀ s,0 <= (a0Q c k q).getD s 0 /\ (a0Q c k q).getD s 0 <= 100000) /\ ∀ s,0 < (a0Q c k q).getD s 0 ↔ 0 < c.getD s 0
def b5D (gq cq B : Nat) (qs' : List Int) (W0 : World) (e : Ending) (w' : World) : Prop:=e = .returned (.tuple #[]) /\ (Kd.int .i64).R 3 w' B (λ _=>True) (.slice (some ⟨gq,0,none⟩) 256 cq) qs' /\ Below B W0 w'
set_option maxRecDepth 100000 in
set_option maxHeartbeats 2000000 in
theorem c4X (gq cq cc : Nat) (A : Option Addr) (W0 : World) (qs c : List Int) (m : Nat) (w : World) (hq : (Kd.int .i64).R 3 w W0.heap.size (λ _=>True) (.slice (some ⟨gq,0,none⟩) 256 cq) qs)
    (hc : (Kd.int .i64).C W0 A 256 c) (hb : Below W0.heap.size W0 w) (hcl : c.length = 256) (hcr : ∀ s,0 <= c.getD s 0 /\ c.getD s 0 <= 1073741824) (hok : a9O c qs m) (hm2 : m <= 2000000) (hpos : 0 < m -> ∃ s,s < 256 /\ 0 < c.getD s 0) :
    Calls Tryz.prog 236 #[.slice (some ⟨gq,0,none⟩) 256 cq,.slice A 256 cc,.int .i64 m] w (b5D gq cq W0.heap.size (a0Q c m qs) W0):=by
 have HQ:=Lib.hid hq
 have HC:=Lib.hid (And.intro hc (And.intro hcl hcr))
 have HO:=Lib.hid hok
 have HP:=Lib.hid hpos
 have HB:=Lib.hid hb
 have HI : Hid (TkRel gq cq W0.heap.size W0 qs w.heap.size (.slice none 0 0) [] (w.alloc (.cells #[.slice none 0 0] 251))):=TkRel.start hq hb hb.size
 clear hq hc hb hcl hcr hok hpos
 go_enter Tryz.func236,Tryz.ntmps236
 go_wp2_with fail
 go_loopw [12] (λ kv wr=>∃ (k : Nat) (v : Value),kv = .int .i64 k /\ k <= 256 /\ Hid (TkRel gq cq W0.heap.size W0 qs w.heap.size v (candT c qs k) wr)) (λ kv _=>256 - (intOf kv).toNat)
 case atStart=>exact ⟨0,_,rfl,by omega,HI⟩
 case round=>
  obtain ⟨k,v,rfl,hk,H⟩:=hrel
  by_cases hlt : k < 256
  · obtain ⟨hqc,-⟩:=a1C H.out.q k hlt
    obtain ⟨y,hy⟩ : ∃ y,y = qs.getD k 0:=⟨_,rfl⟩
    rw [<- hy] at hqc
    have hy2:=(HO.out 0 (Nat.zero_le _)).2.1 k
    have hyc:=(HO.out 0 (Nat.zero_le _)).2.2 k
    simp only [a0Q] at hy2 hyc
    rw [<- hy] at hy2 hyc
    obtain ⟨hy0,hy1⟩:=hy2
    have HY:=Lib.hid (And.intro hy hyc)
    clear hy hyc
    by_cases hpos : 0 < y
    · obtain ⟨ad,rfl,hcc⟩:=a0v HC.out.1 k hlt
      obtain ⟨z,hz⟩ : ∃ z,z = c.getD k 0:=⟨_,rfl⟩
      obtain ⟨hz0,hz1⟩:=HC.out.2.2 k
      rw [<- hz] at hcc hz0 hz1
      have hcw:=a0t H.out.below hcc
      have hcw2 : (wr.alloc (.cells #[.int .i64 k,.int .i64 y,.int .i64 (IntKind.i64.wrap (IntKind.i64.wrap (IntKind.i64.wrap (1073741824 - z) * 256) + (k : Int)))] 253)).cell? (ad.add k) = some (.int .i64 z):=a0t ((Below.refl _ _).alloc (Nat.le_refl _) _) hcw
      have HZ:=Lib.hid hz
      have HE : Hid (IntKind.i64.wrap (IntKind.i64.wrap (IntKind.i64.wrap (1073741824 - z) * 256) + (k : Int)) = (1073741824 - z) * 256 + k):=by
       show _ = _
       rw [i64_in (1073741824 - z) (by omega),i64_in ((1073741824 - z) * 256) (by omega),i64_in ((1073741824 - z) * 256 + (k : Int)) (by omega)]
      clear hz hcc
      have hpc:=H.out.h.cell
      have hpf:=a0e H.out.h.blk 0
      have hpl:=a0f H.out.h.blk
      have hpn : ¬ w.heap.size = wr.heap.size:=by omega
      have hpn' : ¬ wr.heap.size = w.heap.size:=by omega
      have hfr : Hid (∀ k,wr.heap.size <= k -> k ≠ w.heap.size):=λ k hk e=>by omega
      have HL : Hid (((candT c qs k).length + 1) * 24 <= 140737488355328):=by show _ <= _; have:=a9N c qs k; omega
      have HN : Hid (some w.heap.size ≠ v.ownBlock):=λ e=>H.out.h.row.1 _ e.symm rfl
      have HBr : Hid (W0.heap.size <= wr.heap.size):=H.out.below.size
      go_wp2_with fail
      go_region_law (first | (refine a5i k3 (w0:=W0) (W:=wr) W0.heap.size rfl (.tmp 19) (.tmp 31) 251 253 _ 24 rfl Tryz.underlying251 a9H rfl (by decide) (by decide) v (candT c qs k) ((k : Int),y,IntKind.i64.wrap (IntKind.i64.wrap (IntKind.i64.wrap (1073741824 - z) * 256) + (k : Int))) [.int .i64 k,.int .i64 y,.int .i64 (IntKind.i64.wrap (IntKind.i64.wrap (IntKind.i64.wrap (1073741824 - z) * 256) + (k : Int)))] (λ k=>k ≠ w.heap.size) (λ _=>False) rfl rfl (a5n _ _ _ _) (λ _ h=>h.elim) hfr.out H.out.h.row H.out.below HBr.out HL.out ?_; intro v1 w1 hr1 hb1 hg1 hat1; have hb2:=a1e H.out.h.blk hg1 HN.out; have hc2 : w1.cell? ⟨w.heap.size,0,none⟩ = some v:=(a0a hb2 0).trans rfl; have hf2:=a0e hb2 0; have HT:=Lib.hid (TkRel.app H.out HBr.out hr1 hg1 hat1); obtain ⟨A1,c1,rfl⟩:=Kd.R_slice hr1; simp only [List.length_append,List.length_singleton] at HT; clear hr1 hb1 hg1 hat1) | fail)
      all_goals
       go_wp2_with fail
       go_roundw
       case rel=>
        refine ⟨k + 1,.slice A1 ((candT c qs k).length + 1) c1,by go_num,by omega,?_⟩
        rw [b5v,if_pos (HY.out.2.1 hpos)]
        unfold a1v
        rw [<- HY.out.1,<- HZ.out,<- HE.out]
        exact HT.out
       case measure=>simp [intOf]; omega
    · go_wp2_with fail
      go_roundw
      case rel=>
       refine ⟨k + 1,v,by go_num,by omega,?_⟩
       rw [b5v,if_neg (λ h=>hpos (HY.out.2.2 h))]
       exact H.out
      case measure=>simp [intOf]; omega
  · obtain rfl : k = 256:=by omega
    obtain ⟨A1,c1,rfl⟩:=Kd.R_slice H.out.h.row
    have ta:=a9I
    go_wp2_with fail
    refine (b5u _ H.out.h (by have:=a9N c qs 256; omega)).mono ?_
    rintro e w2 ⟨rfl,ys,h1,h2,h3,h4⟩
    have HI2 : Hid (GvRel gq cq W0.heap.size W0 qs w.heap.size (.slice A1 (candT c qs 256).length c1) ys w2 /\ ys.Perm (candT c qs 256)):=
     ⟨GvRel.of_init H.out.q H.out.ne.1 H.out.ne.2 H.out.below H.out.pB H.out.below.size h1 h3 h4,h2⟩
    clear h1 h2 h3 h4 H
    go_wp2_with fail
    go_loopw [37] (λ kv wr=>∃ (k : Nat) (v : Value) (ys : List K3),kv = .int .i64 k /\ k <= m /\ Hid (GvRel gq cq W0.heap.size W0 (a0Q c k qs) w.heap.size v ys wr /\ ys.Perm (candT c (a0Q c k qs) 256))) (λ kv _=>m - (intOf kv).toNat)
    case atStart=>exact ⟨0,_,ys,rfl,by omega,HI2⟩
    case round=>
     obtain ⟨k,v,ys,rfl,hk,H⟩:=hrel
     by_cases hlt : k < m
     · obtain ⟨hql,hqr,hqi⟩:=HO.out k hk
       have hpos : 0 < ys.length:=by
        obtain ⟨s,hs,hsp⟩:=HP.out (by omega)
        exact List.length_pos_of_mem (H.out.2.symm.subset (b5C hs hsp))
       obtain ⟨g,cap,rfl,-⟩:=Kd.R_form H.out.1.h.row hpos
       obtain ⟨t,ht⟩ : ∃ t,t = richN (a0Q c k qs) c 256:=⟨_,rfl⟩
       obtain ⟨ht1,ht2,ht3⟩:=c4Q hqi H.out.2 H.out.1.heap hpos
       rw [<- ht] at ht1 ht2 ht3
       obtain ⟨n,hn⟩ : ∃ n,ys.length = n + 1:=⟨ys.length - 1,by omega⟩
       rw [hn] at H
       have hn6 : n <= 100000:=by have:=H.out.2.length_eq; have:=a9N c (a0Q c k qs) 256; omega
       have HT:=Lib.hid (And.intro ht (And.intro ht1 (And.intro ht2 (And.intro ht3 hn))))
       have HBr : Hid (W0.heap.size <= wr.heap.size):=H.out.1.below.size
       obtain ⟨hy0,hy1⟩:=hqr t
       have HQL:=Lib.hid (And.intro hql hqi)
       have hct:=(HC.out.2.2 t)
       clear ht ht2 ht3 hn hpos hqr hql hqi
       go_wp2_with fail
       refine (b5t ordC _ H.out.1.h hn6 (λ _ _=>trivial) (by have:=H.out.1.heap; rw [HT.out.2.2.2.2] at this; exact this)).mono ?_
       rintro e w3 ⟨rfl,zs,h1,h2,h3,h4⟩
       have H3 : Hid (GvRel gq cq W0.heap.size W0 (a0Q c k qs) w.heap.size (.slice (some ⟨g,0,none⟩) n cap) zs w3):=GvRel.popped H.out.1 HBr.out h1 h3 h4
       rw [HT.out.2.2.2.1] at h2 ⊢
       have HZ:=Lib.hid h2
       clear h1 h2 h3 h4
       obtain ⟨hc3,hf3⟩:=a1C H3.out.q t ht1
       obtain ⟨y,hy⟩ : ∃ y,y = (a0Q c k qs).getD t 0:=⟨_,rfl⟩
       have HY:=Lib.hid hy
       simp only [a1v]
       rw [<- hy] at hc3 hy0 hy1 ⊢
       obtain ⟨z,hz⟩ : ∃ z,z = (1073741824 - c.getD t 0) * 256 + (t : Int):=⟨_,rfl⟩
       rw [<- hz]
       have HZ2:=Lib.hid hz
       clear hy hz
       have hgl : gq < w3.heap.size:=Kd.R_lt H3.out.q gq rfl
       have hg1 : ¬ gq = w3.heap.size:=by omega
       have hg2 : ¬ w3.heap.size = gq:=by omega
       have ht256 : (t : Int) < 256:=by omega
       go_wp2_with fail
       have H4 : Hid (GvRel gq cq W0.heap.size W0 ((a0Q c k qs).set t (y - 1)) w.heap.size (.slice (some ⟨g,0,none⟩) n cap) zs ((w3.setCell ⟨gq,t,none⟩ (.int .i64 (y - 1))).alloc (.cells #[.int .i64 t,.int .i64 (y - 1),.int .i64 z] 253))):=
        (H3.out.put t (y - 1)).alloc (H3.out.put t (y - 1)).below.size _
       have hzl : zs.length = n:=by have:=HZ.out.length_eq; rw [HT.out.2.2.2.2] at this; simpa using this
       refine (c4K ordC ((t : Int),y - 1,z) _ H4.out.h H4.out.below.size (by omega) (λ _ _=>trivial) trivial H4.out.heap).mono ?_
       rintro e w5 ⟨rfl,v',us,h1,h2,h3,h4,h5⟩
       have H5 : Hid (GvRel gq cq W0.heap.size W0 (a0Q c (k + 1) qs) w.heap.size v' us w5 /\ us.Perm (candT c (a0Q c (k + 1) qs) 256)):=by
        have e:=c4W c k qs
        rw [<- HT.out.1,<- HY.out] at e
        refine ⟨by rw [e]; exact H4.out.pushed H4.out.below.size h1 h3 h4 h5,?_⟩
        rw [e,HY.out]
        refine c4R HQL.out.1 ht1 HT.out.2.2.1 H.out.2 HZ.out ?_
        rw [<- HY.out,<- HZ2.out]
        exact h2
       clear h1 h2 h3 h4 h5
       go_wp2_with fail
       go_roundw
       case rel=>exact ⟨k + 1,v',us,by go_num,by omega,H5⟩
       case measure=>simp [intOf]; omega
     · have hkm : k = m:=by omega
       subst hkm
       go_wp2_with fail
       go_end0
       exact ⟨rfl,H.out.1.q,H.out.1.below⟩
theorem c4Y (gq cq cc : Nat) (A : Option Addr) (W0 : World) (B : Nat) (hB : B = W0.heap.size) (qs c : List Int) (m : Nat) (w : World) (hq : (Kd.int .i64).R 3 w B (λ _=>True) (.slice (some ⟨gq,0,none⟩) 256 cq) qs)
    (hc : (Kd.int .i64).C W0 A 256 c) (hb : Below B W0 w) (hcl : c.length = 256) (hcr : ∀ s,0 <= c.getD s 0 /\ c.getD s 0 <= 1073741824) (hok : a9O c qs m) (hm2 : m <= 2000000) (hpos : 0 < m -> ∃ s,s < 256 /\ 0 < c.getD s 0) :
    Calls Tryz.prog 236 #[.slice (some ⟨gq,0,none⟩) 256 cq,.slice A 256 cc,.int .i64 m] w (b5D gq cq B (a0Q c m qs) W0):=by
 subst hB; exact c4X gq cq cc A W0 qs c m w hq hc hb hcl hcr hok hm2 hpos
end Go.Proofs.YtflfjpkmjnnodaaGreat
namespace Go.Proofs.YtflfjpkmjnnodaaGreat
open Go.RowKit Go.IntWalk Go.Proofs.YtflfjpkmjnnodaaGreatW.PrintWords Go.Proofs.YtflfjpkmjnnodaaGreatW.PrintLast Go.Proofs.YtflfjpkmjnnodaaGreatW.PrintMore
set_option maxRecDepth 100000 in
set_option maxHeartbeats 400000 in
theorem a5G (A : Option Addr) (cp : Nat) (c : List Int) (w : World) (hr : (Kd.int .i64).C w A c.length c) (hR : a0P c = true) :
    Calls Tryz.prog 190 #[.slice A c.length cp] w λ e w'=>e = .returned (.int .i64 (manyC c)) /\ w = w':=by
 have hm:=hr.2.1
 have HR:=Lib.hid (And.intro hr hR)
 clear hr hR
 go_enter Tryz.func190,Tryz.ntmps190
 go_wp2_with fail
 go_loop [3,8] (λ mv kv=>∃ (k pc : Nat),mv = .int .i64 pc /\ kv = .int .i64 k /\ k <= c.length /\ pc <= k /\ Hid (pc = posC c k)) (λ _ kv=>c.length - (intOf kv).toNat)
 case atStart=>exact ⟨0,0,rfl,rfl,by omega,by omega,by show _ = _; simp [posC]⟩
 case round=>
  obtain ⟨k,pc,rfl,rfl,hk,hpc,H⟩:=hrel
  by_cases hlt : k < c.length
  · obtain ⟨ad,rfl,hcell⟩:=a0v HR.out.1 k hlt
    obtain ⟨x,hx⟩ : ∃ x,x = c.getD k 0:=⟨_,rfl⟩
    rw [<- hx] at hcell
    have HX:=Lib.hid hx
    clear hx
    by_cases h0 : 0 < x
    · have HP : Hid (pc + 1 = posC c (k + 1)):=by show _ = _; rw [a7h _ _ hlt,<- HX.out,if_pos h0,<- H.out]
      go_wp2_with fail
      refine (a8s _ _ _ _ HR.out.1).mono ?_
      rintro e w' ⟨rfl,rfl⟩
      rw [HR.out.2]
      go_wp2_with fail
      go_round
      case rel=>exact ⟨k + 1,pc + 1,by go_num,by go_num,by omega,by omega,HP⟩
      case measure=>simp [intOf]; omega
    · have HP : Hid (pc = posC c (k + 1)):=by show _ = _; rw [a7h _ _ hlt,<- HX.out,if_neg h0,<- H.out]; rfl
      go_wp2_with fail
      go_round
      case rel=>exact ⟨k + 1,pc,rfl,by go_num,by omega,by omega,HP⟩
      case measure=>simp [intOf]; omega
  · obtain rfl : k = c.length:=by omega
    have HE : Hid (pc = manyC c):=by
     show _ = _; rw [H.out]; unfold posC manyC; rw [if_pos HR.out.2,List.take_length]
    go_wp2_with fail
    go_ret
    exact ⟨a1F (by rw [HE.out]),rfl⟩
set_option maxRecDepth 100000 in
theorem c4Z (n : Nat) (w : World) (h : n <= 1000000) : Calls Tryz.prog 194 #[.int .i64 n] w λ e w'=>e = .returned (.int .i64 (ceilI n)) /\ w = w':=by
 by_cases h2 : n < 2
 · have HE : Hid (ceilI n = 0):=by
     show _ = _
     have : n = 0 \/ n = 1:=by omega
     rcases this with rfl | rfl <;> rfl
   go_enter Tryz.func194,Tryz.ntmps194
   go_wp2_with fail
   go_ret
   exact ⟨a1F (by rw [HE.out]; rfl),rfl⟩
 · go_enter Tryz.func194,Tryz.ntmps194
   go_wp2_with fail
   refine (a5r _ _ (by omega)).mono ?_
   rintro e w' ⟨rfl,rfl⟩
   go_wp2_with fail
   go_ret
   exact ⟨rfl,rfl⟩
theorem b5E (a b : Int) : mx a b = max a b:=by unfold mx; split <;> omega
theorem c5a (a b : Int) : mn a b = min a b:=by unfold mn; split <;> omega
set_option maxRecDepth 100000 in
theorem c5b (first x y : Int) (A : Option Addr) (cp : Nat) (w : World) (hr : (Kd.int .i64).C w A 2 [x,y]) :
    Calls Tryz.prog 192 #[.int .i64 first,.slice A 2 cp] w λ e w'=>e = .returned (.int .i64 (mx (mx first x) y)) /\ w = w':=by
 obtain ⟨ad,rfl,hc⟩:=a5m hr (by decide)
 have h0:=hc 0 (by decide)
 have h1:=hc 1 (by decide)
 simp only [List.getD_cons_zero,List.getD_cons_succ] at h0 h1
 rw [show ad.add 0 = ad from rfl] at h0
 clear hc hr
 have h2 : w.cell? ⟨ad.block,ad.off + 1,none⟩ = some (.int .i64 y):=by rw [<- h1]; simp [Addr.add]
 clear h1
 go_enter Tryz.func192,Tryz.ntmps192
 go_wp2_with fail
 go_loop [0,9] (λ mv kv=>(mv = .int .i64 first /\ kv = .int .i64 0) \/ (mv = .int .i64 (max first x) /\ kv = .int .i64 1) \/ (mv = .int .i64 (max (max first x) y) /\ kv = .int .i64 2)) (λ _ kv=>2 - (intOf kv).toNat)
 case atStart=>exact .inl ⟨rfl,rfl⟩
 case round=>
  rcases hrel with ⟨rfl,rfl⟩ | ⟨rfl,rfl⟩ | ⟨rfl,rfl⟩
  · go_wp2_with fail
    go_round
    case rel=>exact .inr (.inl ⟨rfl,rfl⟩)
    case measure=>simp [intOf]
  · go_wp2_with fail
    go_round
    case rel=>exact .inr (.inr ⟨by rw [Int.max_assoc],rfl⟩)
    case measure=>simp [intOf]
  · go_wp2_with fail
    go_ret
    exact ⟨a1F (by rw [b5E,b5E,Int.max_assoc]),rfl⟩
theorem c5c {W : World} (x y : Int) {ok : Nat -> Prop} (hok : ok W.heap.size) (base : Nat) (hb : base <= W.heap.size) : (Kd.int .i64).R 3 (W.alloc (.cells #[.int .i64 x,.int .i64 y] 3)) base ok (.slice (some ⟨W.heap.size,0,none⟩) 2 2) [x,y]:=by
 refine ⟨λ k hk=>by cases hk; exact hok,[.int .i64 x,.int .i64 y],⟨rfl,.inr ⟨W.heap.size,2,#[.int .i64 x,.int .i64 y],by simp,hb,a0k W _,by simp,by unfold maxLen; omega,rfl,rfl⟩⟩,?_⟩
 refine Reps.snoc (ps:=[x]) (cs:=[.int .i64 x]) (p:=y) (c:=[.int .i64 y]) (Reps.snoc (ps:=[]) (cs:=[]) (p:=x) (c:=[.int .i64 x]) (Reps.none _ _) ?_ rfl) ?_ rfl
 · rfl
 · rfl
set_option maxRecDepth 100000 in
theorem b5F (n m : Nat) (most : Int) (w : World) (hn : n <= 1000000) (hm : m <= 1000000) :
    Calls Tryz.prog 143 #[.int .i64 n,.int .i64 m,.int .i64 most] w λ e w'=>e = .returned (.int .i64 (pickI n m most)) /\ Below w.heap.size w w':=by
 have hf:=b4w n (by omega)
 obtain ⟨f,hf1⟩ : ∃ f,f = a0s (n : Int):=⟨_,rfl⟩
 rw [<- hf1] at hf
 have H:=Lib.hid hf1
 clear hf1
 have HC : Hid (∀ W : World,(Kd.int .i64).C (W.alloc (.cells #[.int .i64 5,.int .i64 (ceilI m)] 3)) (some ⟨W.heap.size,0,none⟩) 2 [5,(ceilI m : Int)]):=λ W=>by
  have:=c5c (W:=W) 5 (ceilI m : Int) (ok:=λ _=>True) trivial W.heap.size (Nat.le_refl _)
  exact (Kd.R_reads' this).2.2
 go_enter Tryz.func143,Tryz.ntmps143
 go_wp2_with fail
 refine (a6F _ _ (by omega)).mono ?_
 rintro e w' ⟨rfl,rfl⟩
 rw [<- H.out]
 go_wp2_with fail
 refine (c4Z _ _ hm).mono ?_
 rintro e w' ⟨rfl,rfl⟩
 go_wp2_with fail
 refine (c5b _ _ _ _ _ _ (HC.out _)).mono ?_
 rintro e w' ⟨rfl,rfl⟩
 go_wp2_with fail
 go_ret
 refine ⟨a1F ?_,(Below.refl _ _).alloc (Nat.le_refl _) _⟩
 unfold pickI
 rw [<- H.out,c5a]
end Go.Proofs.YtflfjpkmjnnodaaGreat
namespace Go.Proofs.YtflfjpkmjnnodaaGreat
open Go.RowKit Go.IntWalk Go.Proofs.YtflfjpkmjnnodaaGreatW.PrintWords HeapL
structure CnRel (N : Nat) (w0 : World) (c : List Int) (P n : Int) (k : Nat) (v : Value) (S : Int) (w : World) : Prop where
 q : (Kd.int .i64).R 3 w N (λ _=>True) (.slice (some ⟨N,0,none⟩) 256 256) (qTo c P n k)
 l : k3.R 253 w N (λ b=>b ≠ N) v (candN (restL c P n) (hadL c P n) k)
 below : Below N w0 w
 sum : S = (qTo c P n k).sum
 rng : 0 <= S /\ S <= 4096 * k
theorem c5d (c : List Int) (P n : Int) {k : Nat} (hk : k < 256) : (hadL c P n).getD k false = decide (c.getD k 0 * P / n = 0):=by
 unfold hadL; rw [List.getD_eq_getElem?_getD,List.getElem?_map,List.getElem?_range hk]; rfl
theorem b5G (c : List Int) (P n : Int) {k : Nat} (hk : k < 256) : qTo c P n (k + 1) = (qTo c P n k).set k (q0F c P n k):=(a7o (q0F c P n) hk).symm
theorem c5e (c : List Int) (P n : Int) {k : Nat} (hk : k < 256) : (qTo c P n k).getD k 0 = 0:=by unfold qTo; rw [a4h _ hk,if_neg (by omega)]
theorem c5f (c : List Int) (P n : Int) {k : Nat} (hk : k < 256) : (qTo c P n (k + 1)).sum = (qTo c P n k).sum + q0F c P n k:=by
 rw [b5G c P n hk,a7l _ _ _ (by unfold qTo; rw [a1z]; exact hk)]
 have : (qTo c P n k).getD k 0 = 0:=by unfold qTo; rw [a4h _ hk,if_neg (by omega)]
 omega
theorem CnRel.next {N : Nat} {w0 wr wr' : World} {c : List Int} {P n : Int} {k : Nat} {v v' : Value} {S y : Int} (H : CnRel N w0 c P n k v S wr) (hk : k < 256) (hq : (Kd.int .i64).R 3 wr' N (λ _=>True) (.slice (some ⟨N,0,none⟩) 256 256) ((qTo c P n k).set k y))
    (hl : k3.R 253 wr' N (λ b=>b ≠ N) v' (candN (restL c P n) (hadL c P n) (k + 1))) (hb : Below N w0 wr') (hy : y = q0F c P n k) (hy2 : 0 <= y /\ y <= 4096) : CnRel N w0 c P n (k + 1) v' (S + y) wr':=by
 have hs:=H.sum; have hr:=H.rng
 refine ⟨by rw [b5G c P n hk,<- hy]; exact hq,hl,hb,by rw [c5f c P n hk,<- hy,hs],by omega,by omega⟩
theorem CnRel.far {N : Nat} {w0 wr : World} {c : List Int} {P n : Int} {k : Nat} {v : Value} {S : Int} (H : CnRel N w0 c P n k v S wr) (j : Nat) (y : Int) :
    (Kd.int .i64).R 3 (wr.setCell ⟨N,j,none⟩ (.int .i64 y)) N (λ _=>True) (.slice (some ⟨N,0,none⟩) 256 256) ((qTo c P n k).set j y) /\ k3.R 253 (wr.setCell ⟨N,j,none⟩ (.int .i64 y)) N (λ b=>b ≠ N) v (candN (restL c P n) (hadL c P n) k) /\ Below N w0 (wr.setCell ⟨N,j,none⟩ (.int .i64 y)):=by
 have:=Kd.R_putn H.q (j : Int) y
 rw [Int.toNat_natCast] at this
 exact ⟨this,Kd.R_far (p:=⟨N,j,none⟩) H.l (λ k hk=>hk) _,H.below.setCell (Nat.le_refl _) _⟩
theorem b5H : ∀ {l : List Int},(∀ x ∈ l,x = 0) -> l.sum = 0
 | [],_=>rfl
 | a :: l,h=>by rw [List.sum_cons,h a (by simp),b5H (λ x hx=>h x (by simp [hx]))]; rfl
theorem c5g {c : List Int} {r : Nat} (h : Can c r) : ∃ s,s < 256 /\ 0 < c.getD s 0:=by
 refine Classical.byContradiction λ hn=>?_
 have : c.sum = 0:=b5H (λ x hx=>by
  obtain ⟨s,hs,rfl⟩:=List.getElem_of_mem hx
  have h1:=h.nonneg _ hx
  have h2 : ¬ 0 < c.getD s 0:=λ hp=>hn ⟨s,by have:=h.len; omega,hp⟩
  rw [List.getD_eq_getElem?_getD,List.getElem?_eq_getElem hs] at h2
  simp only [Option.getD_some] at h2
  omega)
 have:=h.pos
 omega
set_option maxRecDepth 100000 in
set_option maxHeartbeats 2000000 in
theorem b5I (A : Option Addr) (cp : Nat) (c : List Int) (r : Nat) (w : World) (hr : (Kd.int .i64).C w A 256 c) (h : Can c r) :
    Calls Tryz.prog 191 #[.slice A 256 cp,.int .i64 r] w (a9s c r w):=by
 have HR:=Lib.hid hr
 have HC:=Lib.hid h
 have hR : a0P c = true:=rightC_iff.2 ⟨h.len,h.nonneg,h.le⟩
 have hT : a1b c = c.sum:=by unfold a1b; rw [if_pos hR]
 have hM : manyC c <= 2 ^ r:=by unfold manyC; rw [if_pos hR]; exact h.many
 obtain ⟨n,hn⟩ : ∃ n : Nat,c.sum = n:=⟨c.sum.toNat,by have:=h.pos; omega⟩
 have hr' : (Kd.int .i64).C w A c.length c:=by rw [h.len]; exact hr
 have HTot:=Lib.hid (b2f A cp c w hr')
 rw [hT,hn,h.len] at HTot
 obtain ⟨P,hP⟩ : ∃ P : Nat,2 ^ r = P:=⟨_,rfl⟩
 have hPI : (2 : Int) ^ r = (P : Int):=by rw [<- hP]; simp
 have hPb : 1 <= P /\ P <= 4096:=by have:=a1A h.r12; rw [hPI] at this; omega
 have HM2 : Hid (∀ W,Below w.heap.size w W -> Calls Tryz.prog 190 #[.slice A 256 cp] W λ e w'=>e = .returned (.int .i64 (manyC c)) /\ W = w'):=λ W hb=>by
  have:=a5G A cp c W (Kd.C_below hr' hb) hR
  rw [h.len] at this; exact this
 have HN : Hid (c.sum = n /\ 2 ^ r = P /\ (2 : Int) ^ r = (P : Int) /\ manyC c <= P):=⟨hn,hP,hPI,by omega⟩
 have hn0 : ((n : Int) == 0) = false:=by have:=h.pos; simp; omega
 have hn1 : 1 <= n /\ n <= 1073741824:=by have:=h.pos; have:=h.le; omega
 have hr1 : decide ((r : Int) < 1) = false:=decide_eq_false (by have:=h.r1; omega)
 have hr2 : decide (12 < (r : Int)) = false:=decide_eq_false (by have:=h.r12; omega)
 have hr0 : (0 : Int) <= r:=by omega
 have hr12 : (r : Int) <= 12:=by have:=h.r12; omega
 have hw1 : IntKind.i64.wrap (2 ^ r) = (P : Int):=by rw [hPI]; exact i64_in _ (by omega)
 have hmp : decide (P < manyC c) = false:=decide_eq_false (by have:=HN.out.2.2.2; omega)
 clear hr hr' h hR hT hM hn hP hPI
 have hmi : ∀ w : World,(Instr.makeSlice 84 (.int .i64 256) (.int .i64 256)).run Tryz.prog w = .ok (.slice (some ⟨w.heap.size,0,none⟩) 256 256) (w.alloc (.cells (madeCells #[.int .i64 0] 256) 3)):=λ w=>a9o 256 (by omega) w
 go_enter Tryz.func191,Tryz.ntmps191
 go_wp2_with fail
 refine HTot.out.mono ?_
 rintro e w1 ⟨rfl,rfl⟩
 go_wp2_with fail
 go_quiet ((go_at_call 190; refine Calls.quiet_of_same ((HM2.out _ (a0b (Below.refl _ _) _)).mono λ e w' h=>⟨h.1,h.2.symm⟩)))
 have HB0 : Hid (Below w.heap.size w (w.drewN nq)):=a0b (Below.refl _ _) _
 obtain ⟨w1,hw1'⟩ : ∃ w1,w1 = w.drewN nq:=⟨_,rfl⟩
 rw [<- hw1'] at HB0 ⊢
 clear hw1'
 obtain ⟨N,hNs⟩ : ∃ N,N = w1.heap.size:=⟨_,rfl⟩
 have HNs:=Lib.hid hNs
 have HI : Hid (CnRel N w1 c P n 0 (.slice none 0 0) 0 (w1.alloc (.cells (madeCells #[.int .i64 0] 256) 3))):=by
  refine ⟨?_,?_,?_,?_,by omega⟩
  · rw [(a9q c P n).1,hNs]; exact a9B 256 3 w1 _ trivial _ (Nat.le_refl _) (by omega)
  · exact Kd.R_nil _ _ _ _ _
  · rw [hNs]; exact (Below.refl _ _).alloc (Nat.le_refl _) _
  · rw [(a9q c P n).1]; decide
 go_wp2_with fail
 rw [<- hNs]
 obtain ⟨W,hW⟩ : ∃ W,W = w1.alloc (.cells (madeCells #[.int .i64 0] 256) 3):=⟨_,rfl⟩
 rw [<- hW] at HI ⊢
 clear hW hNs hmi hmp
 go_loopw [8,9,34] (λ lv sv kv wr=>∃ (k : Nat) (S : Int),sv = .int .i64 S /\ kv = .int .i64 k /\ k <= 256 /\ 0 <= S /\ S <= 4096 * k /\ Hid (CnRel N w1 c P n k lv S wr)) (λ _ _ kv _=>256 - (intOf kv).toNat)
 case atStart=>exact ⟨0,0,rfl,rfl,by omega,by omega,by omega,HI⟩
 case round=>
  obtain ⟨k,S,rfl,rfl,hk,hS0,hS1,H⟩:=hrel
  by_cases hlt : k < 256
  · have hC:=Kd.C_below HR.out (HB0.out.trans (H.out.below.mono (by have:=HB0.out.size; have:=HNs.out; omega)))
    obtain ⟨ad,rfl,hcx⟩:=a0v hC k (by omega)
    have hcg:=HC.out.get k
    have hq0:=HC.out.q0 k
    rw [HN.out.2.2.1,HN.out.1] at hq0
    obtain ⟨x,hx⟩ : ∃ x : Nat,c.getD k 0 = x:=⟨(c.getD k 0).toNat,by omega⟩
    rw [hx] at hcx hcg
    obtain ⟨hq1,hq2⟩:=a1C H.out.q k hlt
    rw [c5e c P n hlt] at hq1
    obtain ⟨m,hm⟩ : ∃ m : Nat,m = x * P:=⟨_,rfl⟩
    have hxn : x <= n:=by have:=HN.out.1; omega
    have hm42 : m <= 4398046511104:=by
     rw [hm]
     calc x * P <= 1073741824 * 4096:=Nat.mul_le_mul (by omega) (by omega)
      _ = 4398046511104:=by decide
    have hmI : (x : Int) * (P : Int) = (m : Int):=by rw [hm]; simp
    have hmR : (x : Int) * 2 ^ r = (m : Int):=by rw [HN.out.2.2.1]; exact hmI
    have hdq : (m : Int) / (n : Int) = ((m / n : Nat) : Int):=by simp
    have hrm : (m : Int) % (n : Int) = ((m % n : Nat) : Int):=by simp
    obtain ⟨dq,hdqe⟩ : ∃ dq,dq = m / n:=⟨_,rfl⟩
    obtain ⟨rm,hrme⟩ : ∃ rm,rm = m % n:=⟨_,rfl⟩
    rw [<- hdqe] at hdq
    rw [<- hrme] at hrm
    have hdb : dq <= 4398046511104:=by rw [hdqe]; exact Nat.le_trans (Nat.div_le_self _ _) hm42
    have hn00 : ¬ (n : Int) = 0:=by omega
    have HX:=Lib.hid (And.intro hx (And.intro hm (And.intro hdqe (And.intro hrme hq0))))
    have hwm : IntKind.i64.wrap ((x : Int) * 2 ^ r) = (m : Int):=by rw [hmR]; exact i64_in _ (by omega)
    clear hx hm hdqe hrme hC hmR hq0
    obtain ⟨A1,c1,rfl⟩:=Kd.R_slice H.out.l
    have HL0:=Lib.hid (H.out.far k (dq : Int))
    have HQF : Hid (q0F c P n k = if dq = 0 then min (x : Int) 1 else dq):=by
     show _ = _
     unfold q0F
     rw [HX.out.1,hmI,hdq]
     by_cases e : dq = 0
     · rw [if_pos e,if_pos (by omega)]
     · rw [if_neg e,if_neg (by omega)]
    have HHD : Hid ((hadL c P n).getD k false = decide (dq = 0)):=by
     show _ = _
     rw [c5d c P n hlt,HX.out.1,hmI,hdq]
     by_cases e : dq = 0
     · rw [decide_eq_true (by omega),decide_eq_true e]
     · rw [decide_eq_false (by omega),decide_eq_false e]
    by_cases hz : 0 < dq
    · have hdq4 : dq <= 4096:=by
        have:=HX.out.2.2.2.2.2.1
        rw [HQF.out,if_neg (by omega)] at this; omega
      have HSz : Hid (N <= (wr.setCell ⟨N,k,none⟩ (.int .i64 (dq : Int))).heap.size):=by show _ <= _; have:=Kd.R_lt HL0.out.1 N rfl; omega
      have HLn : Hid (((candN (restL c P n) (hadL c P n) k).length + 1) * 24 <= 140737488355328):=by show _ <= _; have:=a9M (restL c P n) (hadL c P n) k; omega
      have HFr : Hid (∀ j,(wr.setCell ⟨N,k,none⟩ (.int .i64 (dq : Int))).heap.size <= j -> j ≠ N):=λ j hj e=>by have:=Kd.R_lt HL0.out.1 N rfl; omega
      have HNe : Hid ((Value.slice A1 (candN (restL c P n) (hadL c P n) k).length c1).ownBlock ≠ some N):=λ e=>HL0.out.2.1.1 N e rfl
      have hqg : ((qTo c P n k).set k (dq : Int)).getD k 0 = (dq : Int):=by rw [a3k _ _ _ _ (by unfold qTo; rw [a1z]; omega),if_pos rfl]
      obtain ⟨L,hL⟩ : ∃ L,L = candN (restL c P n) (hadL c P n) k:=⟨_,rfl⟩
      obtain ⟨Q,hQ⟩ : ∃ Q,Q = (qTo c P n k).set k (dq : Int):=⟨_,rfl⟩
      rw [<- hL] at HLn HNe
      have HL1 : Hid (k3.R 253 (wr.setCell ⟨N,k,none⟩ (.int .i64 (dq : Int))) N (λ b=>b ≠ N) (.slice A1 L.length c1) L):=by rw [hL]; exact HL0.out.2.1
      have HQ1 : Hid ((Kd.int .i64).R 3 (wr.setCell ⟨N,k,none⟩ (.int .i64 (dq : Int))) N (λ _=>True) (.slice (some ⟨N,0,none⟩) 256 256) Q):=by rw [hQ]; exact HL0.out.1
      rw [<- hQ] at hqg
      have HQG:=Lib.hid (And.intro hqg (And.intro hL hQ))
      have HB1:=Lib.hid HL0.out.2.2
      have HH:=Lib.hid H.out
      rw [<- hL]
      clear hqg hL hQ HL0 H
      go_wp2_with (at_builtin; refine Kd.R_append k3 (w0:=w1) (W:=wr.setCell ⟨N,k,none⟩ (.int .i64 (dq : Int))) N rfl (.tmp 53) (.tmp 61) 251 253 _ 24 rfl Tryz.underlying251 a9H rfl (by decide) (by decide) (.slice A1 L.length c1) L ((k : Int),(rm : Int),0) [.int .i64 k,.int .i64 rm,.int .i64 0] (λ b=>b ≠ N) (λ _=>False) rfl (by simp [go_sem]) (a5n _ _ _ _) (λ _ h=>h.elim) HFr.out HL1.out HB1.out HSz.out HLn.out ?_; intro v2 w2 hr2 hb2 hg2 hat2; have HQ2:=Lib.hid (Kd.R_grown1 HQ1.out rfl hg2 HNe.out); have hq5:=(a1C HQ2.out k hlt).1; rw [HQG.out.1] at hq5; have HR2:=Lib.hid hr2; have HB2:=Lib.hid hb2; clear hr2 hb2 hg2 hat2)
      go_roundw
      case rel=>
       refine ⟨k + 1,S + dq,rfl,by go_num,by omega,by omega,by omega,?_⟩
       have hq2:=HQ2.out
       rw [HQG.out.2.2] at hq2
       refine HH.out.next hlt hq2 ?_ HB2.out (by rw [HQF.out,if_neg (by omega)]) (by omega)
       rw [a9L,if_pos (by rw [HHD.out]; exact decide_eq_false (by omega))]
       have e : a1I (restL c P n) k = ((k : Int),(rm : Int),0):=by
        unfold a1I restL
        rw [a4h _ hlt,HX.out.1,hmI,hrm]
       rw [e,<- HQG.out.2.1]; exact HR2.out
      case measure=>simp [intOf]; omega
    · have hz0 : dq = 0:=by omega
      subst hz0
      by_cases hx0 : 0 < x
      · go_wp2_with fail
        go_roundw
        case rel=>
         refine ⟨k + 1,S + 1,by go_num,by go_num,by omega,by omega,by omega,?_⟩
         have hqq:=Kd.R_putn HL0.out.1 (k : Int) (1 : Int)
         rw [Int.toNat_natCast,b4H] at hqq
         refine H.out.next hlt hqq ?_ (HL0.out.2.2.setCell (Nat.le_refl _) _) (by rw [HQF.out,if_pos rfl]; omega) (by omega)
         rw [a9L,if_neg (by rw [HHD.out]; simp)]
         exact Kd.R_far (p:=⟨N,k,none⟩) HL0.out.2.1 (λ k hk=>hk) _
        case measure=>simp [intOf]; omega
      · go_wp2_with fail
        go_roundw
        case rel=>
         refine ⟨k + 1,S + 0,by go_num,by go_num,by omega,by omega,by omega,?_⟩
         refine H.out.next hlt HL0.out.1 ?_ HL0.out.2.2 (by rw [HQF.out,if_pos rfl]; omega) (by omega)
         rw [a9L,if_neg (by rw [HHD.out]; simp)]
         exact HL0.out.2.1
        case measure=>simp [intOf]; omega
  · obtain rfl : k = 256:=by omega
    obtain ⟨A1,c1,rfl⟩:=Kd.R_slice H.out.l
    have HQ0 : Hid ((Kd.int .i64).R 3 wr N (λ _=>True) (.slice (some ⟨N,0,none⟩) 256 256) (q0L c P n)):=by rw [<- (a9r c P n).1]; exact H.out.q
    have HS : Hid (S = (q0L c P n).sum):=by rw [<- (a9r c P n).1]; exact H.out.sum
    have HPP : Hid ((P : Int) = 2 ^ r /\ (n : Int) = c.sum):=⟨HN.out.2.2.1.symm,HN.out.1.symm⟩
    have HB1:=Lib.hid H.out.below
    have HL1:=Lib.hid H.out.l
    obtain ⟨M,hM⟩ : ∃ M : Nat,M = giveM c (2 ^ r) c.sum:=⟨_,rfl⟩
    have hMv : max (0 : Int) ((P : Int) - S) = (M : Int):=by
     rw [hM]; unfold giveM; rw [<- HPP.out.1,<- HPP.out.2,<- HS.out]; omega
    have hM4 : M <= 4096:=by omega
    obtain ⟨T,hT⟩ : ∃ T : Nat,T = (S - P).toNat:=⟨_,rfl⟩
    have hTv : max (0 : Int) (S - (P : Int)) = (T : Int):=by rw [hT]; omega
    have HMT:=Lib.hid (And.intro hM hT)
    have hTb : T <= 2000000:=by omega
    obtain ⟨L,hL⟩ : ∃ L,L = candN (restL c P n) (hadL c P n) 256:=⟨_,rfl⟩
    rw [<- hL]
    have HLE:=Lib.hid hL
    clear hM hT hL H
    go_wp2_with fail
    have hgw0:=a4R HC.out 0 (Nat.zero_le _)
    have hen:=HC.out.enough
    rw [<- HPP.out.1,<- HPP.out.2] at hgw0 hen
    refine (c4V N 256 N (q0L c P n) (.slice A1 L.length c1) (restL c P n) (hadL c P n) M wr HQ0.out (by rw [HLE.out]; exact HL1.out) (by have:=Kd.R_lt HQ0.out N rfl; omega) (a1z _) (by simp [hadL])
     (λ s=>⟨(hgw0.2.2.1 s).1,by have:=(hgw0.2.2.1 s).2; simp only [a0T] at this; omega⟩) (by rw [<- HS.out] at hen; omega) hM4).mono ?_
    clear hgw0 hen
    rintro e w3 ⟨rfl,hq3,hb3⟩
    obtain ⟨G,hG⟩ : ∃ G,G = (a0T (restL c P n) M (q0L c P n,hadL c P n)).1:=⟨_,rfl⟩
    rw [<- hG] at hq3
    have H3:=Lib.hid (And.intro hq3 (And.intro hb3 hG))
    clear hq3 hb3 hG hMv
    go_wp2_with fail
    have hge:=a9n HC.out
    have hgw:=(a4R HC.out M (by rw [<- HMT.out.1]; exact Nat.le_refl _)).2.2.2.2.1
    rw [<- HMT.out.1,<- HPP.out.1,<- HPP.out.2,<- H3.out.2.2] at hge
    rw [<- HPP.out.1,<- HPP.out.2,<- H3.out.2.2,<- HS.out] at hgw
    have hTe : (G.sum - 2 ^ r).toNat = T:=by
     rw [<- HPP.out.1,hgw]
     have h1 : M = ((P : Int) - S).toNat:=by
      have:=HMT.out.1; unfold giveM at this; rw [<- HPP.out.1,<- HPP.out.2,<- HS.out] at this; exact this
     have h2:=HMT.out.2
     omega
    have HT2 : Hid (a9O c G T):=λ k hk=>by
     have:=(a7m HC.out hge.1 k (by rw [hTe]; exact hk)).1
     exact ⟨this.len,this.rng,this.iff⟩
    have HNL : Hid (a0Q c T G = normL c r):=by
     show _ = _
     unfold normL
     simp only []
     rw [<- HMT.out.1,<- HPP.out.1,<- HPP.out.2,<- H3.out.2.2,HPP.out.1,hTe]
    have HB3 : Hid (Below N w1 w3):=HB1.out.trans H3.out.2.1
    have hcs:=HC.out.le
    clear hge hgw
    refine (c4Y N 256 cp A w1 N HNs.out G c T w3 H3.out.1 (Kd.C_below HR.out HB0.out) HB3.out HC.out.len (λ s=>⟨(HC.out.get s).1,by have:=(HC.out.get s).2; omega⟩) HT2.out hTb (λ _=>c5g HC.out)).mono ?_
    rintro e w4 ⟨rfl,hq4,hb4⟩
    have H4:=Lib.hid (And.intro hq4 hb4)
    clear hq4 hb4 hTe
    go_wp2_with fail
    go_ret2
    have hNl : w.heap.size <= N:=by rw [HNs.out]; exact HB0.out.size
    refine ⟨_,rfl,?_,HB0.out.trans (H4.out.2.mono hNl)⟩
    rw [<- HNL.out]
    exact Kd.R_lower H4.out.1 hNl
end Go.Proofs.YtflfjpkmjnnodaaGreat
namespace Go.Proofs.YtflfjpkmjnnodaaGreat
open Go.RowKit Go.IntWalk Go.Proofs.YtflfjpkmjnnodaaGreatW.PrintWords
set_option maxRecDepth 100000 in
theorem c5h (i : Int) (p : Nat) (v : Value) (w : World) (h : w.cell? ⟨p,0,none⟩ = some v) :
    Calls Tryz.prog 223 #[.int .i64 i,.pointer (some ⟨p,0,none⟩)] w λ e w'=>e = .returned v /\ w = w':=by
 go_enter Tryz.func223,Tryz.ntmps223
 go_wp2_with fail
 go_ret
 exact ⟨rfl,rfl⟩
set_option maxRecDepth 100000 in
set_option maxHeartbeats 2000000 in
theorem c5i (p ch r : Nat) (Ah : Option Addr) (h : List Int) (w : World) (hp : w.heap[p]? = some (.cells #[.slice Ah 256 ch] 84 (0,0))) (hv : (Kd.int .i64).C w Ah 256 h) (hc : Can h r) (hm : 0 < manyC h) :
    Calls Tryz.prog 142 #[.int .i64 r,.int .i64 1,.func (Fn.func 223) #[] #[.pointer (some ⟨p,0,none⟩)]] w (MadeM r true [normL h r] w):=by
 obtain ⟨W2,hW2⟩ : ∃ W2,W2 = (w.alloc (.cells #[.int .i64 0,.bool false,.slice none 0 0] 26)).alloc (.cells #[.int .i64 r,.bool true,.slice none 0 0] 26):=⟨_,rfl⟩
 have hb2 : Below w.heap.size w W2:=by rw [hW2]; exact ((Below.refl w.heap.size w).alloc (Nat.le_refl _) _).alloc (by simp) _
 have hs2 : W2.heap.size = w.heap.size + 2:=by rw [hW2]; simp
 have hm1 : W2.heap[w.heap.size + 1]? = some (.cells #[.int .i64 r,.bool true,.slice none 0 0] 26 (0,0)):=by rw [hW2]; exact a2z _ _ _
 have hm0 : W2.heap[w.heap.size]? = some (.cells #[.int .i64 0,.bool false,.slice none 0 0] 26 (0,0)):=by rw [hW2]; exact a0n (a0k _ _) _
 have HP2:=Lib.hid (a0i hp hb2)
 have HV2:=Lib.hid (Kd.C_below hv hb2)
 have H2:=Lib.hid (And.intro hb2 (And.intro hs2 (And.intro hm1 hm0)))
 have HC:=Lib.hid (And.intro hc hm)
 clear hp hv hb2 hs2 hm1 hm0 hc hm
 go_enter Tryz.func142,Tryz.ntmps142
 go_wp2_with fail
 rw [<- hW2]
 clear hW2
 obtain ⟨m0,hm0⟩ : ∃ m0,m0 = w.heap.size:=⟨_,rfl⟩
 have HM0:=Lib.hid hm0
 rw [<- hm0] at H2 ⊢
 clear hm0
 obtain ⟨m1,hm1⟩ : ∃ m1,m1 = m0 + 1:=⟨_,rfl⟩
 have HM1:=Lib.hid hm1
 rw [<- hm1] at H2 ⊢
 clear hm1
 go_loopw [16] (λ kv wr=>(kv = .int .i64 0 /\ wr = W2) \/ (kv = .int .i64 1 /\ Hid (∃ A1 c1,wr.heap[m1]? = some (.cells #[.int .i64 r,.bool true,.slice A1 1 c1] 26 (0,0)) /\ wr.heap[m0]? = some (.cells #[.int .i64 0,.bool false,.slice none 0 0] 26 (0,0)) /\ kq.R 84 wr W2.heap.size (λ _=>True) (.slice A1 1 c1) [normL h r] /\ Below m0 w wr))) (λ kv _=>1 - (intOf kv).toNat)
 case atStart=>exact .inl ⟨rfl,rfl⟩
 case round=>
  rcases hrel with ⟨rfl,rfl⟩ | ⟨rfl,H⟩
  · have hpc : wr.cell? ⟨p,0,none⟩ = some (.slice Ah 256 ch):=(a0a HP2.out 0).trans rfl
    go_wp2_with fail
    refine (c5h 0 p (.slice Ah 256 ch) wr hpc).mono ?_
    rintro e w' ⟨rfl,rfl⟩
    go_wp2_with fail
    have hmany:=a5G Ah ch h wr (by rw [HC.out.1.len]; exact HV2.out) (rightC_iff.2 ⟨HC.out.1.len,HC.out.1.nonneg,HC.out.1.le⟩)
    rw [HC.out.1.len] at hmany
    refine hmany.mono ?_
    rintro e w' ⟨rfl,rfl⟩
    have hmp : 0 < manyC h:=HC.out.2
    clear hmany
    go_wp2_with fail
    refine (b5I Ah ch h r wr HV2.out HC.out.1).mono ?_
    rintro e w5 ⟨vq,rfl,hq,hb5⟩
    obtain ⟨Aq,cq,rfl⟩:=Kd.R_slice hq
    obtain ⟨ql,hql⟩ : ∃ ql,ql = (normL h r).length:=⟨_,rfl⟩
    have HQ:=Lib.hid hq
    rw [<- hql] at HQ ⊢
    have HB5:=Lib.hid hb5
    have h15 : w5.heap[m1]? = some (.cells #[.int .i64 r,.bool true,.slice none 0 0] 26 (0,0)):=a0i H2.out.2.2.1 hb5
    have H05:=Lib.hid (a0i H2.out.2.2.2 hb5)
    obtain ⟨⟨ca,cb,cc⟩,fa,fb,fc⟩:=cell3 h15
    have H15:=Lib.hid h15
    have HBB : Hid (Below wr.heap.size wr w5):=hb5
    have HS5 : Hid (wr.heap.size <= w5.heap.size):=hb5.size
    have hm1l:=a0f h15
    have hm1n : ¬ m1 = w5.heap.size:=by omega
    have hm1n' : ¬ w5.heap.size = m1:=by omega
    have HL : Hid ((([] : List (List Int)).length + 1) * 24 <= 140737488355328):=by show _ <= _; simp
    clear hq hb5 h15 hql
    go_wp2_with (at_builtin; refine Kd.R_append kq (w0:=wr) (W:=w5) wr.heap.size rfl (.tmp 32) (.tmp 34) 24 84 (.slice none 0 0) 24 rfl Tryz.underlying24 a7s rfl (by decide) (by decide) (.slice none 0 0) [] (normL h r) [.slice Aq ql cq] (λ _=>True) (λ _=>True) rfl (by simp [go_sem]) ⟨_,rfl,HQ.out⟩ (λ _ _=>⟨trivial,by simp [Value.ownBlock]⟩) (λ _ _=>trivial) (Kd.R_nil _ _ _ _ _) HBB.out HS5.out HL.out ?_; intro v1 w6 hr6 hb6 hg6 hat6; have h16:=a1e H15.out hg6 (by simp [Value.ownBlock]); have H16:=Lib.hid h16; have H06:=Lib.hid (a1e H05.out hg6 (by simp [Value.ownBlock])); obtain ⟨⟨da,db,dc⟩,ga,gb,gc⟩:=cell3 h16; obtain ⟨A1,c1,rfl⟩:=Kd.R_slice hr6; have HR6:=Lib.hid hr6; have HB6:=Lib.hid hb6; clear hr6 hb6 hg6 hat6 h16)
    go_roundw
    case rel=>
     have hmm : m0 <= wr.heap.size /\ m1 < wr.heap.size /\ m0 ≠ m1:=by have:=a0f H2.out.2.2.1; have:=a0f H2.out.2.2.2; have:=HM1.out; omega
     have h1:=H16.out
     have h0:=H06.out
     refine .inr ⟨rfl,A1,c1,?_,?_,?_,?_⟩
     · exact a0u h1 2 _
     · exact a1x h0 (p:=⟨m1,2,none⟩) hmm.2.2 _
     · refine Kd.R_mono (Kd.R_far (p:=⟨m1,2,none⟩) (Kd.R_bound HR6.out) (λ k hk=>?_) _) (λ _ _=>trivial)
       show k ≠ m1
       have:=hk.2.1
       omega
     · refine (H2.out.1.trans (HB6.out.mono hmm.1)).setCell ?_ _
       show m0 <= m1
       have:=HM1.out; omega
    case measure=>simp [intOf]
  · obtain ⟨A1,c1,h1,h2,h3,h4⟩:=H.out
    obtain ⟨⟨ca,cb,cc⟩,fa,fb,fc⟩:=cell3 h1
    obtain ⟨⟨da,db,dc⟩,ga,gb,gc⟩:=cell3 h2
    have HH:=Lib.hid (And.intro h2 (And.intro h3 h4))
    clear h1 h2 h3 h4 H
    go_wp2_with fail
    have hmm : m0 < W2.heap.size:=a0f H2.out.2.2.2
    refine bodyPost_ret (results_cell_row (fn:=Tryz.f142) (p:=6) (ty:=26) rfl _ _ _ _ _ _ _ rfl (a1K HH.out.1 _ _ _) Tryz.underlying26 rfl a5E) rfl ?_
    have hw0:=HM0.out
    subst hw0
    refine ⟨_,rfl,?_,((HH.out.2.2.setCell (Nat.le_refl _) _).setCell (Nat.le_refl _) _).setCell (Nat.le_refl _) _⟩
    have h4 : kq.R 84 wr w.heap.size (λ k=>k ≠ w.heap.size) (.slice A1 1 c1) [normL h r]:=Kd.R_mono (Kd.R_lower (Kd.R_bound HH.out.2.1) (by omega)) (λ k hk=>by have:=hk.2.1; omega)
    exact Kd.R_mono (a2P h4 _ _ _) (λ _ _=>trivial)
theorem a1L {w : World} {g : Nat} {a b c : Value} (hg : w.heap[g]? = some (.cells #[a,b,c] 26 (0,0))) : (loadVar 26 ⟨g,0,none⟩).run Tryz.prog w = .ok (.agg #[a,b,c]) w:=
 run_loadVar_row w g _ _ _ _ _ hg Tryz.underlying26 rfl a5E
theorem a1X {fn : Func} {p u : Tmp} {ty : TypeId} (h : fn.results = #[.cell p ty,.tmp u]) (tmps : Array Value) (w : World) (g : Nat) (cs : Array Value)
    (hp : tmps.getD p undef = .pointer (some ⟨g,0,none⟩)) (hl : (loadVar ty ⟨g,0,none⟩).run Tryz.prog w = .ok (.agg cs) w) :
    (results fn tmps).run Tryz.prog w = .ok (.tuple #[.agg cs,tmps.getD u undef]) w:=by
 have hp' : tmps[p]?.getD undef = .pointer (some ⟨g,0,none⟩):=by simpa using hp
 simp [results,h,hp',asAddr,hl]
def a9P (b : List Int) (w : World) (e : Ending) (w' : World) : Prop:=
 (b.length = 0 /\ e = .returned (.tuple #[.agg #[.int .i64 0,.bool false,.slice none 0 0],.int .i64 1]) /\ Below w.heap.size w w') \/
 (0 < b.length /\ ∃ v,e = .returned (.tuple #[.agg #[.int .i64 (zeroR b),.bool true,v],.int .i64 0]) /\ kq.R 84 w' w.heap.size (λ _=>True) v [zeroQ b] /\ Below w.heap.size w w')
theorem b5J {b : List Int} (hb : Bytes b) (hl : b.length <= 1000000) (h0 : 0 < b.length) : 0 < manyC (histL b):=by
 rw [b4L (a5B b hb hl)]
 have hx:=hb _ (List.getElem_mem h0)
 obtain ⟨s,hs⟩ : ∃ s : Nat,b[0] = (s : Int):=⟨(b[0]).toNat,by omega⟩
 have hs2 : s < 256:=by omega
 have hp:=(a9u b hs2).2 (by rw [<- hs]; exact List.getElem_mem h0)
 refine List.countP_pos_iff.2 ⟨(histL b).getD s 0,a2h (by unfold histL; rw [a1z]; exact hs2),by simpa using hp⟩
set_option maxRecDepth 100000 in
set_option maxHeartbeats 1000000 in
theorem b5K (A : Option Addr) (cp : Nat) (b : List Int) (w : World) (hr : (Kd.int .u8).C w A b.length b) (hb : Bytes b) (hl : b.length <= 1000000) (h0 : 0 < b.length) :
    Calls Tryz.prog 180 #[.slice A b.length cp] w (a9P b w):=by
 have hne : ((b.length : Int) == 0) = false:=by simp; intro e; subst e; simp at h0
 have hne2 : ¬ b = []:=by intro e; subst e; simp at h0
 obtain ⟨W1,hW1⟩ : ∃ W1,W1 = w.alloc (.cells #[.int .i64 0,.bool false,.slice none 0 0] 26):=⟨_,rfl⟩
 have hb1 : Below w.heap.size w W1:=by rw [hW1]; exact (Below.refl w.heap.size w).alloc (Nat.le_refl _) _
 have hk1 : W1.heap[w.heap.size]? = some (.cells #[.int .i64 0,.bool false,.slice none 0 0] 26 (0,0)):=by rw [hW1]; exact a0k _ _
 have HB1:=Lib.hid hb1
 have HK1:=Lib.hid hk1
 have HR:=Lib.hid hr
 have HX:=Lib.hid (And.intro hb (And.intro hl h0))
 have hZ:=a4k b
 obtain ⟨zr,hzr⟩ : ∃ zr,zr = zeroR b:=⟨_,rfl⟩
 rw [<- hzr] at hZ
 have HZ:=Lib.hid (And.intro hzr hZ)
 clear hb1 hk1 hr hb hl h0 hZ hzr
 go_enter Tryz.func180,Tryz.ntmps180
 go_wp2_with fail
 rw [<- hW1]
 clear hW1
 refine (b5g A cp b W1 (Kd.C_below HR.out HB1.out) HX.out.2.1 HX.out.1).mono ?_
 rintro e w2 ⟨v,rfl,hv,hb2⟩
 obtain ⟨Ah,ch,rfl⟩:=Kd.R_slice hv
 have hhl : (histL b).length = 256:=a1z _
 have hrd:=(Kd.R_reads' hv).2.2
 have hmany:=a5G Ah ch (histL b) (w2.alloc (.cells #[.slice Ah 256 ch] 84)) (Kd.C_alloc hrd _) (a5B b HX.out.1 HX.out.2.1)
 rw [hhl] at hrd hmany ⊢
 have HV:=Lib.hid (Kd.C_alloc hrd (.cells #[.slice Ah 256 ch] 84))
 have HMa:=Lib.hid hmany
 have HB2 : Hid (Below w.heap.size w w2):=HB1.out.trans (hb2.mono HB1.out.size)
 have HK2:=Lib.hid (a0i HK1.out hb2)
 clear hv hb2 hrd hmany hhl
 go_wp2_with fail
 have HP3:=Lib.hid (a0k w2 (.cells #[.slice Ah 256 ch] 84))
 have HB3 : Hid (Below w.heap.size w (w2.alloc (.cells #[.slice Ah 256 ch] 84))):=HB2.out.alloc HB2.out.size _
 have HK3:=Lib.hid (a0n HK2.out (.cells #[.slice Ah 256 ch] 84))
 obtain ⟨w3,hw3⟩ : ∃ w3,w3 = w2.alloc (.cells #[.slice Ah 256 ch] 84):=⟨_,rfl⟩
 rw [<- hw3] at HP3 HB3 HK3 HV HMa ⊢
 obtain ⟨p0,hp0⟩ : ∃ p0,p0 = w2.heap.size:=⟨_,rfl⟩
 rw [<- hp0] at HP3 ⊢
 clear hw3 hp0
 refine HMa.out.mono ?_
 rintro e w4 ⟨rfl,rfl⟩
 go_wp2_with fail
 refine (b5F b.length (manyC (histL b)) 11 _ HX.out.2.1 (by have:=a4O (histL b); omega)).mono ?_
 rw [HZ.out.2.1]
 rintro e w4 ⟨rfl,hb4⟩
 have HB4 : Hid (Below w.heap.size w w4):=HB3.out.trans (hb4.mono HB3.out.size)
 have HK4:=Lib.hid (a0i HK3.out hb4)
 have HP4:=Lib.hid (a0i HP3.out hb4)
 have HV4:=Lib.hid (Kd.C_below HV.out hb4)
 clear hb4
 go_wp2_with fail
 refine (c5i p0 ch zr Ah (histL b) w4 HP4.out HV4.out (by rw [HZ.out.1]; exact a5C HX.out.1 HX.out.2.1 HX.out.2.2) (b5J HX.out.1 HX.out.2.1 HX.out.2.2)).mono ?_
 rintro e w5 ⟨v,rfl,hv,hb5⟩
 obtain ⟨Av,cv,rfl⟩:=Kd.R_slice hv
 obtain ⟨⟨m0,m1,m2⟩,⟨f0,f1,f2⟩⟩:=cell3 (a0i HK4.out hb5)
 have HE:=Lib.hid (c3Y (lg:=(zr : Nat)) (one:=true) HB4.out (a0f HK4.out) HK4.out hv hb5)
 clear hv hb5
 go_wp2_with fail
 refine bodyPost_ret (a1X (fn:=Tryz.f180) (p:=2) (u:=3) (ty:=26) rfl _ _ _ _ rfl (a1L HE.out.1)) rfl ?_
 obtain ⟨v2,h1,h2,h3⟩:=HE.out.2
 injection h1 with h1
 injection h1 with h1
 have h1' : Value.slice Av [normL (histL b) zr].length cv = v2:=by
  have:=congrArg (λ a : Array Value=>a.getD 2 Go.undef) h1
  simpa using this
 refine .inr ⟨HX.out.2.2,Value.slice Av [normL (histL b) zr].length cv,?_,?_,h3⟩
 · rw [<- HZ.out.1]; rfl
 · rw [<- h1'] at h2
   unfold zeroQ; rw [<- HZ.out.1]; exact h2
set_option maxRecDepth 100000 in
theorem c5j (A : Option Addr) (cp : Nat) (w : World) : Calls Tryz.prog 180 #[.slice A 0 cp] w (a9P [] w):=by
 have hk1 : (w.alloc (.cells #[.int .i64 0,.bool false,.slice none 0 0] 26)).heap[w.heap.size]? = some (.cells #[.int .i64 0,.bool false,.slice none 0 0] 26 (0,0)):=a0k _ _
 have HB : Hid (Below w.heap.size w (w.alloc (.cells #[.int .i64 0,.bool false,.slice none 0 0] 26))):=(Below.refl _ _).alloc (Nat.le_refl _) _
 have HK:=Lib.hid hk1
 clear hk1
 go_enter Tryz.func180,Tryz.ntmps180
 go_wp2_with fail
 refine bodyPost_ret (a1X (fn:=Tryz.f180) (p:=2) (u:=3) (ty:=26) rfl _ _ _ _ rfl (a1L HK.out)) rfl ?_
 exact .inl ⟨rfl,rfl,HB.out⟩
theorem a9R (w : World) : WrVal (w.alloc (.cells #[.slice none 0 0,.int .i64 0] 229)) w.heap.size w.heap.size (.slice none 0 0) []:=⟨a0k _ _,Kd.R_nil _ _ _ _ _⟩
theorem PutRel.bel {base p : Nat} {v0 : Value} {bs : List Bool} {w0 w w' : World} (h : PutRel base p v0 bs w w') (hb : Below w0.heap.size w0 w) (hp : w0.heap.size <= p) (hv : ∀ k,v0.ownBlock = some k -> w0.heap.size <= k) : Below w0.heap.size w0 w':=by
 obtain ⟨_,_,_,ho⟩:=h
 exact hb.trans (ho.below hb.size (λ k hk=>by
  rcases hk with hk | hk
  · exact hk ▸ hp
  · exact hv k hk))
def c5m (r : Nat) (q : List Int) (w : World) (e : Ending) (w' : World) : Prop:=∃ v,e = .returned v /\ (Kd.int .u8).R 5 w' w.heap.size (λ _=>True) v (packB (headB r q)) /\ Below w.heap.size w w'
set_option maxRecDepth 100000 in
set_option maxHeartbeats 400000 in
theorem c5n (r c : Nat) (A : Option Addr) (q : List Int) (w : World) (hr : kq.C w A 1 [q]) (hn : Nrm q r) :
    Calls Tryz.prog 181 #[.agg #[.int .i64 r,.bool true,.slice A 1 c]] w (c5m r q w):=by
 obtain ⟨W,hW⟩ : ∃ W,W = (w.alloc (.cells #[.int .i64 r,.bool true,.slice A 1 c] 26)).alloc (.cells #[.slice none 0 0,.int .i64 0] 229):=⟨_,rfl⟩
 have HI:=Lib.hid (a9R (w.alloc (.cells #[.int .i64 r,.bool true,.slice A 1 c] 26)))
 have HB : Hid (Below w.heap.size w W):=by show Below _ _ _; rw [hW]; exact ((Below.refl _ _).alloc (Nat.le_refl _) _).alloc (by simp) _
 have HK : Hid (W.heap[w.heap.size]? = some (.cells #[.int .i64 r,.bool true,.slice A 1 c] 26 (0,0))):=by show _ = _; rw [hW]; exact a0n (a0k _ _) _
 have hs : (w.alloc (.cells #[.int .i64 r,.bool true,.slice A 1 c] 26)).heap.size = w.heap.size + 1:=by simp
 have HR:=Lib.hid (And.intro hr hn)
 have hr12:=hn.r12
 rw [hs] at HI
 rw [<- hW] at HI
 clear hr hn
 obtain ⟨P,hP⟩ : ∃ P,P = w.heap.size + 1:=⟨_,rfl⟩
 rw [<- hP] at HI hs
 have HP:=Lib.hid hP
 have HPW : Hid (P <= W.heap.size):=by show _ <= _; rw [hW,hP]; simp
 clear hP
 go_enter Tryz.func181,Tryz.ntmps181
 go_wp2_with fail
 refine (a6J _).mono ?_
 rw [<- hW,hs]
 clear hW hs
 rintro e w1 ⟨rfl,rfl⟩
 have hk0:=(cell3 HK.out).1
 obtain ⟨ka,kb,kc⟩:=hk0
 go_wp2_with fail
 refine (a2e P P (.slice none 0 0) [] r 8 w1 HI.out HPW.out (by simp) (by omega) (by decide)).mono ?_
 rintro e w2 ⟨rfl,hp⟩
 have HB2 : Hid (Below w.heap.size w w2):=hp.bel HB.out (by have:=HP.out; omega) (λ k hk=>by simp [Value.ownBlock] at hk)
 obtain ⟨v1,m1,m2,m3⟩:=hp
 have HM:=Lib.hid (And.intro m1 (And.intro m2 m3))
 have hk2 : w2.heap[w.heap.size]? = some (.cells #[.int .i64 r,.bool true,.slice A 1 c] 26 (0,0)):=by
  rw [m3.block _ (a0f HK.out) (λ h=>by rcases h with h | h; have:=HP.out; omega; simp [Value.ownBlock] at h)]; exact HK.out
 clear m1 m2 m3 ka kb kc
 obtain ⟨⟨ka,kb,kc⟩,-⟩:=cell3 hk2
 obtain ⟨ad,Bq,cq,rfl,hcq',-,hCq⟩:=kq_at HR.out.1 0 (by omega)
 have hcq:=a0t HB2.out hcq'
 clear hcq'
 have e0 : ([q] : List (List Int)).getD 0 [] = q:=rfl
 rw [e0,HR.out.2.len] at hcq hCq
 have hadd : ad.add 0 = ad:=rfl
 rw [hadd] at hcq
 have HQ:=Lib.hid hCq
 clear hCq hk2 e0 hadd
 go_wp2_with fail
 refine (b5N P P cq r Bq v1 ([] ++ a0j r 8) q w w2 HM.out.1 (Nat.le_trans HPW.out HM.out.2.2.size) (by simp [a0E]) HQ.out HB2.out (by have:=HP.out; omega) (by have:=HP.out; omega) HR.out.2).mono ?_
 rintro e w3 ⟨rfl,hp⟩
 have HB3 : Hid (Below w.heap.size w w3):=hp.bel HB2.out (by have:=HP.out; omega) (λ k hk=>by have:=Kd.R_base HM.out.1.row k hk; have:=HP.out; omega)
 obtain ⟨v2,m1,_,_⟩:=hp
 have HM3:=Lib.hid m1
 clear m1
 have HLn : Hid (([] ++ a0j r 8 ++ hdrB q 257 0 (2 ^ r)).length <= 900000):=by
  show _ <= _
  have e2 : (2 : Int) ^ r = ((2 ^ r : Nat) : Int):=by simp
  have h1:=a3K HR.out.2.r12 HR.out.2.len HR.out.2.nn 257 0 (2 ^ r) (by omega) (by rw [List.drop_zero,HR.out.2.sum,e2]) (by rw [Nat.pow_succ]; have:=Nat.two_pow_pos r; omega)
  have h2 : (256 - 0) * (r + 3) <= 256 * 15:=Nat.mul_le_mul (by omega) (by omega)
  rw [List.nil_append,List.length_append,a0E]; omega
 go_wp2_with fail
 refine (a7x _ _ _ _ _ HM3.out HLn.out).mono ?_
 rintro e w4 ⟨v4,rfl,hv4,hb4⟩
 have H4 : Hid ((Kd.int .u8).R 5 w4 w.heap.size (λ _=>True) v4 (packB (headB r q)) /\ Below w.heap.size w w4):=by
  refine ⟨?_,HB3.out.trans (hb4.mono HB3.out.size)⟩
  have:=Kd.R_lower hv4 HB3.out.size
  rw [List.nil_append] at this; exact this
 clear hv4 hb4
 go_wp2_with fail
 go_ret
 exact ⟨v4,rfl,H4.out.1,H4.out.2⟩
def a1h (b : List Int) : List Int:=packB (headB (zeroR b) (zeroQ b)) ++ packB (a0O (zeroR b : Nat) true [zeroQ b] b ++ [true])
theorem a5H {b : List Int} (hb : Bytes b) (hl : b.length <= 1000000) (h0 : 0 < b.length) : Nrm (zeroQ b) (zeroR b):=by
 have h:=a4S (a5C hb hl h0)
 have hz:=a4k b
 exact ⟨h.1.len,h.1.nonneg,h.2.1,by omega,by omega⟩
def b5O (b : List Int) (w : World) (e : Ending) (w' : World) : Prop:=
 (b.length = 0 /\ e = .returned (.tuple #[.slice none 0 0,.int .i64 1]) /\ Below w.heap.size w w') \/
 (0 < b.length /\ ∃ v,e = .returned (.tuple #[v,.int .i64 0]) /\ (Kd.int .u8).R 5 w' w.heap.size (λ _=>True) v (a1h b) /\ Below w.heap.size w w')
theorem c5o {w w' : World} {e : Ending} (h : a9P [] w e w') : e = .returned (.tuple #[.agg #[.int .i64 0,.bool false,.slice none 0 0],.int .i64 1]) /\ Below w.heap.size w w':=by
 rcases h with ⟨_,h1,h2⟩ | ⟨h,_⟩
 · exact ⟨h1,h2⟩
 · cases h
set_option maxRecDepth 100000 in
theorem c5p (A : Option Addr) (cp : Nat) (w : World) : Calls Tryz.prog 130 #[.slice A 0 cp] w (b5O [] w):=by
 have HZ:=Lib.hid ((c5j A cp w).mono (λ e w' h=>c5o h))
 go_enter Tryz.func130,Tryz.ntmps130
 go_wp2_with fail
 refine HZ.out.mono ?_
 rintro e w1 ⟨rfl,hb1⟩
 have HB1:=Lib.hid hb1
 clear hb1
 go_wp2_with fail
 go_ret2
 exact .inl ⟨rfl,rfl,HB1.out.alloc HB1.out.size _⟩
set_option maxRecDepth 100000 in
set_option maxHeartbeats 1000000 in
theorem b5P (A : Option Addr) (cp : Nat) (b : List Int) (w : World) (hr : (Kd.int .u8).C w A b.length b) (hb : Bytes b) (hl : b.length <= 40000) :
    Calls Tryz.prog 130 #[.slice A b.length cp] w (b5O b w):=by
 by_cases h0 : 0 < b.length
 · have HR:=Lib.hid (And.intro hr (And.intro hb (And.intro hl h0)))
   have HN:=Lib.hid (a5H hb (by omega) h0)
   have HCan : Hid (canM (zeroR b : Nat) true [zeroQ b] b = true):=a3J (one:=true) hb (by omega) h0
   have hzero:=b5K A cp b w hr hb (by omega) h0
   have HZ:=Lib.hid hzero
   obtain ⟨r,hr'⟩ : ∃ r,r = zeroR b:=⟨_,rfl⟩
   obtain ⟨q,hq'⟩ : ∃ q,q = zeroQ b:=⟨_,rfl⟩
   have HRQ:=Lib.hid (And.intro hr' hq')
   clear hr hb hl h0 hzero
   go_enter Tryz.func130,Tryz.ntmps130
   go_wp2_with fail
   refine HZ.out.mono ?_
   rintro e w1 (⟨h,_⟩ | ⟨_,v,rfl,hv,hb1⟩)
   · have:=HR.out.2.2.2; omega
   obtain ⟨Av,cv,rfl⟩:=Kd.R_slice hv
   rw [<- hr']
   rw [<- hq'] at hv
   have HV : Hid (kq.C w1 Av 1 [q]):=(Kd.R_reads' hv).2.2
   have HB1:=Lib.hid hb1
   have e1 : ([zeroQ b] : List (List Int)).length = 1:=rfl
   rw [e1]
   clear hv hb1 e1 hr' hq'
   obtain ⟨w2,hw2⟩ : ∃ w2,w2 = w1.alloc (.cells #[.int .i64 r,.bool true,.slice Av 1 cv] 26):=⟨_,rfl⟩
   have HB2 : Hid (Below w.heap.size w w2):=by show Below _ _ _; rw [hw2]; exact HB1.out.alloc HB1.out.size _
   have HV2 : Hid (kq.C w2 Av 1 [q]):=by show kq.C _ _ _ _; rw [hw2]; exact Kd.C_alloc HV.out _
   have hk2 : w2.heap[w1.heap.size]? = some (.cells #[.int .i64 r,.bool true,.slice Av 1 cv] 26 (0,0)):=by rw [hw2]; exact a0k _ _
   have HK2:=Lib.hid hk2
   obtain ⟨mb,hmb⟩ : ∃ mb,mb = w1.heap.size:=⟨_,rfl⟩
   rw [<- hmb] at HK2
   clear hk2
   go_wp2_with fail
   rw [<- hw2,<- hmb]
   clear hw2 hmb
   refine (b3K (r : Nat) true Av cv [q] A cp b w2 HV2.out (by simp) (Kd.C_below HR.out.1 HB2.out) HR.out.2.1 HR.out.2.2.1).mono ?_
   rintro e w3 ⟨_,h2,hb3⟩
   obtain ⟨vp,rfl,hvp⟩:=h2 (by rw [HRQ.out.1,HRQ.out.2]; exact HCan.out)
   obtain ⟨Ap,cpp,rfl⟩:=Kd.R_slice hvp
   have HB3 : Hid (Below w.heap.size w w3):=HB2.out.trans (hb3.mono HB2.out.size)
   have hk3:=a0i HK2.out hb3
   have HV3 : Hid (kq.C w3 Av 1 [q]):=Kd.C_below HV2.out hb3
   have HP3:=Lib.hid (Kd.R_reads' hvp).2.2
   have HFit:=Lib.hid (a3G (a3H (by rw [HRQ.out.1,HRQ.out.2]; exact HCan.out : canM (r : Nat) true [q] b = true)).1 HR.out.2.1)
   obtain ⟨Pl,hPl⟩ : ∃ Pl,Pl = packB (a0O (r : Nat) true [q] b ++ [true]):=⟨_,rfl⟩
   have HPl:=Lib.hid hPl
   rw [<- hPl] at HP3 ⊢
   obtain ⟨⟨ka,kb,kc⟩,-⟩:=cell3 hk3
   have HPlen : Hid (Pl.length <= 700000):=by
    show _ <= _
    rw [hPl,a0z,List.length_append]
    have:=HFit.out; have:=HR.out.2.2.1; simp only [List.length_singleton]; omega
   clear h2 hb3 hvp hk3 hPl
   have HKK:=Lib.hid (And.intro ka (And.intro kb kc))
   clear ka kb kc
   obtain ⟨ka,kb,kc⟩:=HKK.out
   go_wp2_with fail
   refine (c5n r cv Av q w3 HV3.out (by rw [HRQ.out.1,HRQ.out.2]; exact HN.out)).mono ?_
   rintro e w4 ⟨vh,rfl,hvh,hb4⟩
   obtain ⟨Ah,ch,rfl⟩:=Kd.R_slice hvh
   have HB4 : Hid (Below w.heap.size w w4):=HB3.out.trans (hb4.mono HB3.out.size)
   have HP4 : Hid ((Kd.int .u8).C w4 Ap Pl.length Pl):=Kd.C_below HP3.out hb4
   have HH4 : Hid ((Kd.int .u8).R 5 w4 w.heap.size (λ _=>True) (.slice Ah (packB (headB r q)).length ch) (packB (headB r q))):=Kd.R_lower hvh HB3.out.size
   have HHl : Hid ((packB (headB r q)).length <= 10000):=by
    show _ <= _
    have hn:=HN.out
    rw [<- HRQ.out.1,<- HRQ.out.2] at hn
    have e2 : (2 : Int) ^ r = ((2 ^ r : Nat) : Int):=by simp
    have h1:=a3K hn.r12 hn.len hn.nn 257 0 (2 ^ r) (by omega) (by rw [List.drop_zero,hn.sum,e2]) (by rw [Nat.pow_succ]; have:=Nat.two_pow_pos r; omega)
    have h2 : (256 - 0) * (r + 3) <= 256 * 15:=Nat.mul_le_mul (by omega) (by have:=hn.r12; omega)
    rw [a0z]; unfold headB
    rw [List.length_append,a0E]; omega
   obtain ⟨Hl,hHl⟩ : ∃ Hl,Hl = packB (headB r q):=⟨_,rfl⟩
   have HHd:=Lib.hid hHl
   rw [<- hHl] at HH4 HHl ⊢
   have HL : Hid ((Hl.length + Pl.length) * 1 <= 140737488355328):=by show _ <= _; have:=HHl.out; have:=HPlen.out; omega
   have HS4 : Hid (w.heap.size <= w4.heap.size):=HB4.out.size
   clear hvh hb4 hHl ka kb kc
   go_wp2_with (at_builtin; refine Kd.R_append_rows (Kd.int .u8) (Rr:=(Kd.int .u8).K w4) (w0:=w) (W:=w4) w.heap.size rfl (.tmp 25) (.tmp 26) 22 5 (.int .u8 0) 1 rfl Tryz.underlying22 a0w rfl (by decide) (by decide) (.slice Ah Hl.length ch) Hl Pl Ap Pl.length cpp (λ _=>True) (λ _=>False) rfl rfl HH4.out HP4.out (λ _ _ h=>h) (λ _ h=>h.elim) (λ _ _=>trivial) HB4.out HS4.out HL.out ?_; intro vi w5 hr5 hb5 hg5 hat5; have HR5:=Lib.hid hr5; have HB5:=Lib.hid hb5; clear hr5 hb5 hg5 hat5)
   go_ret2
   refine .inr ⟨HR.out.2.2.2,_,rfl,?_,HB5.out⟩
   unfold a1h
   rw [<- HRQ.out.1,<- HRQ.out.2,<- HPl.out,<- HHd.out]
   exact HR5.out
 · have hbe : b = []:=List.eq_nil_of_length_eq_zero (by omega)
   subst hbe
   exact c5p A cp w
theorem a7D (ps : List Int) : (∃ k,k ≠ 0 /\ a0D ps = (k,0,[],[])) \/ ∃ r q m,5 <= r /\ r <= 11 /\ a0D ps = (0,r,q,ps.drop m):=by
 unfold a0D
 by_cases h0 : ps.length = 0
 · rw [if_pos h0]; exact .inl ⟨3,by decide,rfl⟩
 · rw [if_neg h0]
   by_cases h1 : (ps.getD 0 0).toNat < 5 \/ 11 < (ps.getD 0 0).toNat
   · rw [if_pos h1]; exact .inl ⟨13,by decide,rfl⟩
   · rw [if_neg h1]; dsimp only
     obtain ⟨H,hH⟩ : ∃ H,H = hdrT ps (8 * ps.length) 257 a0G 0 (2 ^ (ps.getD 0 0).toNat) false 8:=⟨_,rfl⟩
     rw [<- hH]
     by_cases h2 : H.1 ≠ 0
     · rw [if_pos h2]; exact .inl ⟨_,h2,rfl⟩
     · rw [if_neg h2]
       by_cases h3 : H.2.2 % 8 ≠ 0 /\ (ps.getD (H.2.2 / 8) 0).toNat / 2 ^ (H.2.2 % 8) ≠ 0
       · rw [if_pos h3]; exact .inl ⟨4,by decide,rfl⟩
       · rw [if_neg h3]; exact .inr ⟨_,_,_,by omega,by omega,rfl⟩
theorem a9S {ps : List Int} (h : Bytes ps) : Bytes (a0D ps).2.2.2:=by
 rcases a7D ps with ⟨k,_,e⟩ | ⟨r,q,m,_,_,e⟩
 · rw [e]; intro x hx; cases hx
 · rw [e]; exact λ x hx=>h x (List.mem_of_mem_drop hx)
def dec0M (ps : List Int) (n : Int) : Int × List Int:=if (a0D ps).1 ≠ 0 then ((a0D ps).1,[]) else decM ((a0D ps).2.1 : Nat) true [(a0D ps).2.2.1] (a0D ps).2.2.2 n
def Told (k : Int) (y : List Int) (w : World) (e : Ending) (w' : World) : Prop:=
 ∃ A c,e = .returned (.tuple #[.slice A y.length c,.int .i64 k]) /\ (Kd.int .u8).R 5 w' w.heap.size (λ _=>True) (.slice A y.length c) y /\ Below w.heap.size w w'
theorem c5w (A : Option Addr) (cp : Nat) (b : List Int) (w : World) (hr : (Kd.int .u8).C w A b.length b) (hb : Bytes b) (hl : b.length <= 40000) (h0 : 0 < b.length) :
    Calls Tryz.prog 130 #[.slice A b.length cp] w (Told 0 (a1h b) w):=by
 refine (b5P A cp b w hr hb hl).mono ?_
 rintro e w' (⟨h,_⟩ | ⟨_,v,rfl,hv,hbl⟩)
 · omega
 · obtain ⟨A1,c1,rfl⟩:=Kd.R_slice hv
   exact ⟨A1,c1,rfl,hv,hbl⟩
theorem c5z (b : List Int) : Bytes (a1h b):=λ x hx=>by
 unfold a1h at hx
 rcases List.mem_append.1 hx with h | h
 · exact a4g _ x h
 · exact a4g _ x h
theorem b5Q {b : List Int} (hb : Bytes b) (hl : b.length <= 40000) (h0 : 0 < b.length) : 0 < (a1h b).length /\ (a1h b).length <= 710000:=by
 have hn:=a5H hb (by omega) h0
 have HCan : canM (zeroR b : Nat) true [zeroQ b] b = true:=a3J (one:=true) hb (by omega) h0
 have hF:=a3G (a3H HCan).1 hb
 have e2 : (2 : Int) ^ zeroR b = ((2 ^ zeroR b : Nat) : Int):=by simp
 have h1:=a3K hn.r12 hn.len hn.nn 257 0 (2 ^ zeroR b) (by omega) (by rw [List.drop_zero,hn.sum,e2]) (by rw [Nat.pow_succ]; have:=Nat.two_pow_pos (zeroR b); omega)
 have h2 : (256 - 0) * (zeroR b + 3) <= 256 * 15:=Nat.mul_le_mul (by omega) (by have:=hn.r12; omega)
 unfold a1h
 rw [List.length_append,a0z,a0z]
 unfold headB
 rw [List.length_append,a0E,List.length_append,List.length_singleton]
 omega
set_option maxRecDepth 100000 in
theorem b5R (A B : Option Addr) (ca cb : Nat) (a b : List Int) (w : World) (ha : (Kd.int .u8).C w A a.length a) (hb : (Kd.int .u8).C w B b.length b) (hya : Bytes a) (hyb : Bytes b) :
    Calls Tryz.prog 26 #[.slice A a.length ca,.slice B b.length cb] w λ e w'=>e = .returned (.bool (decide (a = b))) /\ w = w':=by
 have h1:=Kd.C_string (P:=Tryz.prog) (c:=ca) Tryz.underlying22 Tryz.underlying5 Tryz.underlying9 ha
 have h2:=Kd.C_string (P:=Tryz.prog) (c:=cb) Tryz.underlying22 Tryz.underlying5 Tryz.underlying9 hb
 rw [<- c3Z hya hyb]
 obtain ⟨x,hx⟩ : ∃ x,x = strOfNums a:=⟨_,rfl⟩
 obtain ⟨y,hy⟩ : ∃ y,y = strOfNums b:=⟨_,rfl⟩
 rw [<- hx] at h1 ⊢
 rw [<- hy] at h2 ⊢
 clear hx hy ha hb hya hyb
 go_enter Tryz.func26,Tryz.ntmps26
 go_wp2_with fail
 go_ret
 exact ⟨rfl,rfl⟩
theorem b5S (A B : Option Addr) (ca cb : Nat) (p : List Int) (w : World) (ha : (Kd.int .u8).C w A p.length p) (hb : (Kd.int .u8).C w B p.length p) (hp : Bytes p) : Calls Tryz.prog 26 #[.slice A p.length ca,.slice B p.length cb] w (λ e w'=>e = .returned (.bool true) /\ w = w'):=by
 have:=b5R A B ca cb p p w ha hb hp hp
 rw [decide_eq_true rfl] at this; exact this
theorem b5T {one : Bool} {qs : List (List Int)} {ps : List Int} : ∀ (n i : Nat) (la x0 x1 : Int) (left : Nat) (out : List Int),(decGo one qs ps n i la x0 x1 left out).1 ≠ 0 -> (decGo one qs ps n i la x0 x1 left out).2 = []
 | 0,i,la,x0,x1,left,out=>by
  simp only [decGo]; split
  · intro h; exact absurd rfl h
  · intro _; rfl
 | n + 1,i,la,x0,x1,left,out=>by
  simp only [decGo]; split
  · intro _; rfl
  · split
    · intro _; rfl
    · exact b5T n (i + 1) _ _ _ _ _
theorem a9T {lg : Int} {one : Bool} {qs : List (List Int)} {ps : List Int} {n : Int} (h : (decM lg one qs ps n).1 ≠ 0) : (decM lg one qs ps n).2 = []:=by
 revert h
 unfold decM
 split
 · intro _; rfl
 · split
   · intro _; rfl
   · split
     · intro _; rfl
     · exact b5T _ _ _ _ _ _ _
structure MAt (mb : Nat) (lg : Int) (one : Bool) (A : Option Addr) (c : Nat) (qs : List (List Int)) (w : World) : Prop where
 blk : w.heap[mb]? = some (.cells #[.int .i64 lg,.bool one,.slice A qs.length c] 26 (0,0))
 row : kq.C w A qs.length qs
theorem MAt.later {mb : Nat} {lg : Int} {one : Bool} {A : Option Addr} {c : Nat} {qs : List (List Int)} {w w' : World} (h : MAt mb lg one A c qs w) (hb : Below w.heap.size w w') : MAt mb lg one A c qs w':=⟨a0i h.blk hb,Kd.C_below h.row hb⟩
theorem MAt.new {lg : Int} {one : Bool} {A : Option Addr} {c : Nat} {qs : List (List Int)} {w w0 : World} (h : kq.R 84 w w0.heap.size (λ _=>True) (.slice A qs.length c) qs) : MAt w.heap.size lg one A c qs (w.alloc (.cells #[.int .i64 lg,.bool one,.slice A qs.length c] 26)):=
 ⟨a0k _ _,Kd.C_alloc (Kd.R_reads' h).2.2 _⟩
structure BSl (w : World) (A : Option Addr) (c : Nat) (p : List Int) : Prop where
 row : (Kd.int .u8).C w A p.length p
 cap : p.length <= c
 nil : A = none -> c = 0
 by' : Bytes p
theorem BSl.below {w w' : World} {A : Option Addr} {c : Nat} {p : List Int} (h : BSl w A c p) (hb : Below w.heap.size w w') : BSl w' A c p:=⟨Kd.C_below h.row hb,h.cap,h.nil,h.by'⟩
theorem BSl.of {w : World} {A : Option Addr} {c n base : Nat} {p : List Int} {ok : Nat -> Prop} (h : (Kd.int .u8).R 5 w base ok (.slice A n c) p) (hp : Bytes p) : BSl w A c p:=by
 obtain ⟨e,h2,h3⟩:=Kd.R_reads' h
 refine ⟨h3,by omega,λ ha=>?_,hp⟩
 obtain ⟨_,inner,⟨_,ho⟩,_⟩:=h
 rcases ho with ⟨h4,_⟩ | ⟨g,cap,cur,h4,_⟩
 · cases h4; rfl
 · rw [ha] at h4; cases h4
theorem Told.out {k : Int} {y : List Int} {w : World} {e : Ending} {w' : World} (h : Told k y w e w') (hy : Bytes y) : ∃ A c,e = .returned (.tuple #[.slice A y.length c,.int .i64 k]) /\ BSl w' A c y /\ Below w.heap.size w w':=by
 obtain ⟨A,c,he,hr,hb⟩:=h
 exact ⟨A,c,he,BSl.of hr hy,hb⟩
theorem a4V {w : World} (xs : List Int) (hx : Bytes xs) (hl : xs.length <= 1000000) : BSl (w.alloc (.cells (xs.map (Value.int .u8)).toArray 5)) (some ⟨w.heap.size,0,none⟩) xs.length xs:=
 BSl.of (a2i .u8 5 w w.heap.size (λ _=>True) trivial (Nat.le_refl _) xs hl) hx
theorem BSl.str {w : World} {A : Option Addr} {c : Nat} {p : List Int} (h : BSl w A c p) : (convert 22 9 (.slice A p.length c)).run Tryz.prog w = .ok (.string (strOfNums p)) w:=
 Kd.C_string Tryz.underlying22 Tryz.underlying5 Tryz.underlying9 h.row
def tabN (i : Nat) : List Nat:=(List.range 256).map (λ j=>if j < i then a2w j else 0)
theorem a9U (i : Nat) : (tabN i).length = 256:=by simp [tabN]
theorem c5E {i j : Nat} (h : j < 256) : (tabN i).getD j 0 = if j < i then a2w j else 0:=by
 unfold tabN
 rw [List.getD_eq_getElem?_getD,List.getElem?_map,List.getElem?_range h]; rfl
theorem c5F {i : Nat} : (tabN i).set i (a2w i) = tabN (i + 1):=by
 apply List.ext_getElem?
 intro j
 rw [List.getElem?_set,a9U]
 unfold tabN
 rw [List.getElem?_map,List.getElem?_map]
 by_cases hj : j < 256
 · rw [List.getElem?_range hj]
   by_cases e : i = j
   · subst e; rw [if_pos rfl,if_pos hj]; simp
   · rw [if_neg e]
     simp only [Option.map_some]
     by_cases h1 : j < i
     · rw [if_pos h1,if_pos (by omega)]
     · rw [if_neg h1,if_neg (by omega)]
 · have hn : (List.range 256)[j]? = none:=List.getElem?_eq_none (by simp; omega)
   rw [hn]
   by_cases e : i = j
   · subst e; rw [if_pos rfl,if_neg hj]; rfl
   · rw [if_neg e]; rfl
def TabAt (p i : Nat) (w : World) : Prop:=w.heap[p]? = some (.cells ((tabN i).map (λ (n : Nat)=>Value.int .u32 (n : Int))).toArray 175 (0,0))
theorem TabAt.cell {p i : Nat} {w : World} (h : TabAt p i w) {c : Nat} (hc : c < 256) : w.cell? ⟨p,c,none⟩ = some (.int .u32 ((if c < i then a2w c else 0 : Nat) : Int)) /\ w.frozen? ⟨p,c,none⟩ = false:=by
 refine ⟨(a0a h c).trans ?_,a0e h c⟩
 have hg:=c5E (i:=i) hc
 rw [List.getD_eq_getElem?_getD] at hg
 rw [List.getElem?_toArray,List.getElem?_map,List.getElem?_eq_getElem (by rw [a9U]; exact hc)]
 rw [List.getElem?_eq_getElem (by rw [a9U]; exact hc),Option.getD_some] at hg
 rw [Option.map_some,hg]
theorem TabAt.next {p i : Nat} {w : World} (h : TabAt p i w) : TabAt p (i + 1) (w.setCell ⟨p,i,none⟩ (.int .u32 (a2w i : Nat))):=by
 unfold TabAt at h ⊢
 rw [a0u h i,<- c5F]
 congr 2
 rw [List.map_set]; simp
theorem c5G : Tryz.zeroCells175 = ((tabN 0).map (λ (n : Nat)=>Value.int .u32 (n : Int))).toArray:=by kernel_rfl
theorem c5H {x : Nat} (h : x < 4294967296) : bits .xor .u32 ((x : Int) / 2) (IntKind.u32.wrap (3988292384 * bits .and .u32 (x : Int) 1)) = ((a1H x : Nat) : Int):=by
 have h1 : bits .and .u32 (x : Int) 1 = ((x % 2 : Nat) : Int):=by
  have:=u32_and_nat x 1 h (by decide)
  rw [nat_mask1] at this
  exact this
 have h2 : x % 2 < 2:=Nat.mod_lt _ (by decide)
 have h3 : IntKind.u32.wrap (3988292384 * ((x % 2 : Nat) : Int)) = ((3988292384 * (x % 2) : Nat) : Int):=by
  rw [IntKind.wrap_u32']; omega
 rw [h1,h3,show (x : Int) / 2 = ((x / 2 : Nat) : Int) by omega]
 exact u32_xor_nat _ _ (by omega) (by omega)
theorem b5U {n : Nat} (h : n < 4294967296) : bits .xor .u32 IntKind.u32.max (n : Int) = ((4294967295 - n : Nat) : Int):=by
 have h1 : bits .xor .u32 IntKind.u32.max (n : Int) = ((4294967295 ^^^ n : Nat) : Int):=u32_xor_nat 4294967295 n (by decide) h
 have h2 : 4294967295 ^^^ n = 4294967295 - n:=by
  apply Nat.eq_of_testBit_eq
  intro i
  rw [Nat.testBit_xor,show 4294967295 - n = 2 ^ 32 - (n + 1) by omega,Nat.testBit_two_pow_sub_succ h,show (4294967295 : Nat) = 2 ^ 32 - 1 from rfl,Nat.testBit_two_pow_sub_one]
  cases hi : decide (i < 32) with
  | true=>simp
  | false=>
   have hi2:=of_decide_eq_false hi
   have : n.testBit i = false:=Nat.testBit_lt_two_pow (Nat.lt_of_lt_of_le h (Nat.pow_le_pow_right (by decide : 2 > 0) (by omega : 32 <= i)))
   simp [this]
 rw [h2] at h1; exact h1
theorem b5V (k i : Nat) : stepN (k + 1) i = a1H (stepN k i):=by rw [a4L]; rfl
def c5I (w : World) (e : Ending) (w' : World) : Prop:=∃ p,e = .returned (.pointer (some ⟨p,0,none⟩)) /\ w.heap.size <= p /\ TabAt p 256 w' /\ Below w.heap.size w w'
set_option maxRecDepth 100000 in
set_option maxHeartbeats 1000000 in
theorem a4l (w : World) : Calls Tryz.prog 85 #[] w (c5I w):=by
 obtain ⟨W,hW⟩ : ∃ W,W = w.alloc (.cells Tryz.zeroCells175 175):=⟨_,rfl⟩
 have hk : TabAt w.heap.size 0 W:=by unfold TabAt; rw [hW,<- c5G]; exact a0k _ _
 have hb : Below w.heap.size w W:=by rw [hW]; exact (Below.refl _ _).alloc (Nat.le_refl _) _
 have HK:=Lib.hid (And.intro hk hb)
 obtain ⟨p,hp⟩ : ∃ p,p = w.heap.size:=⟨_,rfl⟩
 have HP:=Lib.hid hp
 rw [<- hp] at HK
 clear hk hb
 go_enter Tryz.func85,Tryz.ntmps85
 go_wp2_with fail
 rw [<- hW,<- hp]
 clear hW hp
 go_wp2_with fail
 go_loopw [2,3,6] (λ _ _ kv wr=>∃ i : Nat,i <= 256 /\ kv = .int .i64 i /\ Hid (TabAt p i wr /\ Below p w wr)) (λ _ _ kv _=>256 - (intOf kv).toNat)
 case atStart=>exact ⟨0,by omega,rfl,HK⟩
 case round=>
  obtain ⟨i,hi,rfl,H⟩:=hrel
  by_cases hlt : i < 256
  · obtain ⟨cx,fx⟩:=H.out.1.cell hlt
    have hiI : (i : Int) < 256:=by omega
    have hiw : IntKind.u32.wrap (i : Int) = (i : Int):=by rw [IntKind.wrap_u32']; omega
    go_wp2_with fail
    go_loop [3,11] (λ xv kv=>∃ k : Nat,k <= 8 /\ xv = .int .u32 (stepN k i : Nat) /\ kv = .int .i64 k) (λ _ kv=>8 - (intOf kv).toNat)
    case atStart=>exact ⟨0,by omega,rfl,rfl⟩
    case round=>
     obtain ⟨k,hk,rfl,rfl⟩:=hrel
     by_cases hlk : k < 8
     · have hlkI : (k : Int) < 8:=by omega
       have HX:=Lib.hid (a5y k (x:=i) (by omega))
       have HE:=Lib.hid (b5V k i)
       obtain ⟨x,hx⟩ : ∃ x,x = stepN k i:=⟨_,rfl⟩
       rw [<- hx] at HX HE ⊢
       have HV:=Lib.hid (c5H (x:=x) HX.out)
       clear hx
       go_wp2_with fail
       go_round
       case rel=>exact ⟨k + 1,by omega,by rw [HE.out]; exact congrArg _ HV.out,by go_num⟩
       case measure=>simp [intOf]; omega
     · obtain rfl : k = 8:=by omega
       have HT:=Lib.hid H.out.1.next
       obtain ⟨x,hx⟩ : ∃ x,x = stepN 8 i:=⟨_,rfl⟩
       have hx2 : a2w i = x:=hx.symm
       rw [hx2] at HT
       rw [<- hx]
       clear hx hx2
       go_wp2_with fail
       go_roundw
       case rel=>exact ⟨i + 1,by omega,by go_num,Lib.hid ⟨HT.out,H.out.2.setCell (Nat.le_refl _) _⟩⟩
       case measure=>simp [intOf]; omega
  · obtain rfl : i = 256:=by omega
    go_wp2_with fail
    go_ret
    exact ⟨p,rfl,by have:=HP.out; omega,H.out.1,by rw [<- HP.out]; exact H.out.2⟩
set_option maxRecDepth 100000 in
set_option maxHeartbeats 1000000 in
theorem c5J (p s : Nat) (A : Option Addr) (c : Nat) (b : List Int) (w : World) (hp : TabAt p 256 w) (hs : s <= 4294967295) (hr : (Kd.int .u8).C w A b.length b) (hl : b.length <= 1000000000000) (hb : Bytes b) :
    Calls Tryz.prog 134 #[.pointer (some ⟨p,0,none⟩),.int .u32 s,.slice A b.length c] w (λ e w'=>e = .returned (.int .u32 (a0W s b)) /\ w = w'):=by
 have HR:=Lib.hid (And.intro hr hb)
 have HP:=Lib.hid hp
 have HS:=Lib.hid hs
 have hn:=b5U (n:=s) (by omega)
 obtain ⟨x0,hx0⟩ : ∃ x,x = 4294967295 - s:=⟨_,rfl⟩
 rw [<- hx0] at hn
 have HX0:=Lib.hid hx0
 clear hr hb hp hs hx0
 go_enter Tryz.func134,Tryz.ntmps134
 go_wp2_with fail
 go_loop [7,9,14] (λ xv _ kv=>∃ i : Nat,i <= b.length /\ xv = .int .u32 (crcS x0 (b.take i) : Nat) /\ kv = .int .i64 i) (λ _ _ kv=>b.length - (intOf kv).toNat)
 case atStart=>exact ⟨0,by omega,rfl,rfl⟩
 case round=>
  obtain ⟨i,hi,rfl,rfl⟩:=hrel
  by_cases hlt : i < b.length
  · obtain ⟨ad,hA,hcx⟩:=a0v HR.out.1 i hlt
    subst hA
    have hby:=HR.out.2.get i
    have hE : b.take (i + 1) = b.take i ++ [b.getD i 0]:=by rw [List.take_succ_eq_append_getElem hlt,List.getD_eq_getElem?_getD,List.getElem?_eq_getElem hlt]; rfl
    have HE : Hid (crcS x0 (b.take (i + 1)) = a1D (crcS x0 (b.take i)) (b.getD i 0).toNat):=Lib.hid (by rw [hE,a7c]; rfl)
    have HXl:=Lib.hid (a3I (b.take i) (x:=x0) (by have:=HX0.out; omega) (λ y hy=>HR.out.2 y (List.mem_of_mem_take hy)))
    obtain ⟨y,hy⟩ : ∃ y : Nat,b.getD i 0 = y:=⟨(b.getD i 0).toNat,by omega⟩
    rw [hy] at hcx hby HE
    rw [Int.toNat_natCast] at HE
    have hy8 : y < 256:=by omega
    obtain ⟨x,hx⟩ : ∃ x,x = crcS x0 (b.take i):=⟨_,rfl⟩
    rw [<- hx] at HE HXl ⊢
    have hxl : x < 4294967296:=HXl.out
    have hm8 : x % 256 < 256:=Nat.mod_lt _ (by decide)
    have hj8 : (x % 256) ^^^ y < 256:=Nat.xor_lt_two_pow (n:=8) hm8 hy8
    obtain ⟨cj,fj⟩:=HP.out.cell hj8
    rw [if_pos hj8] at cj
    have hjx:=u8_xor_nat (x % 256) y hm8 hy8
    have ht:=a5y 8 (x:=(x % 256) ^^^ y) (by omega)
    have hfin:=u32_xor_nat (x / 256) (a2w ((x % 256) ^^^ y)) (by omega) ht
    have hu : a1D x y = x / 256 ^^^ a2w ((x % 256) ^^^ y):=rfl
    rw [<- hu] at hfin
    have hmw : IntKind.u8.wrap (x : Int) = ((x % 256 : Nat) : Int):=by rw [IntKind.wrap_u8']; omega
    have hdw : (x : Int) / 256 = ((x / 256 : Nat) : Int):=by omega
    obtain ⟨z,hz⟩ : ∃ z,z = a1D x y:=⟨_,rfl⟩
    obtain ⟨j,hj⟩ : ∃ j,j = (x % 256) ^^^ y:=⟨_,rfl⟩
    obtain ⟨t,htt⟩ : ∃ t,t = a2w j:=⟨_,rfl⟩
    rw [<- hj] at cj hj8 hjx hfin fj
    rw [<- htt] at cj hfin
    rw [<- hz] at hfin HE
    obtain ⟨m,hm⟩ : ∃ m,m = x % 256:=⟨_,rfl⟩
    obtain ⟨d,hd⟩ : ∃ d,d = x / 256:=⟨_,rfl⟩
    rw [<- hm] at hjx hmw hm8
    rw [<- hd] at hdw hfin
    have hiI : (i : Int) < (b.length : Int):=by omega
    have hjI : (j : Int) < 256:=by omega
    clear hby hE hy hx hu hz hj htt hm hd ht
    go_wp2_with fail
    go_round
    case rel=>exact ⟨i + 1,by omega,by rw [HE.out],by go_num⟩
    case measure=>simp [intOf]; omega
  · obtain rfl : i = b.length:=by omega
    rw [List.take_length]
    have HF:=Lib.hid (a3I b (x:=x0) (by have:=HX0.out; omega) HR.out.2)
    have HN:=Lib.hid (b5U (n:=crcS x0 b) HF.out)
    have HC : Hid (a0W s b = 4294967295 - crcS x0 b):=Lib.hid (by unfold a0W; rw [HX0.out])
    obtain ⟨x,hx⟩ : ∃ x,x = crcS x0 b:=⟨_,rfl⟩
    rw [<- hx] at HN HC ⊢
    clear hx hi hlt
    go_wp2_with fail
    go_ret
    refine ⟨?_,rfl⟩
    rw [HC.out,HN.out]; rfl
set_option maxRecDepth 100000 in
theorem a5I (p : Nat) (A : Option Addr) (c : Nat) (b : List Int) (w : World) (hp : TabAt p 256 w) (hr : (Kd.int .u8).C w A b.length b) (hl : b.length <= 1000000000000) (hb : Bytes b) :
    Calls Tryz.prog 86 #[.pointer (some ⟨p,0,none⟩),.slice A b.length c] w (λ e w'=>e = .returned (.int .u32 (a0W 0 b)) /\ w = w'):=by
 have H:=Lib.hid (c5J p 0 A c b w hp (by decide) hr hl hb)
 clear hp hr hl hb
 go_enter Tryz.func86,Tryz.ntmps86
 go_wp2_with fail
 refine H.out.mono ?_
 rintro e w' ⟨rfl,rfl⟩
 go_wp2_with fail
 go_ret
 exact ⟨rfl,rfl⟩
theorem TabAt.later {p i : Nat} {w w' : World} (h : TabAt p i w) (hb : Below w.heap.size w w') : TabAt p i w':=a0i h hb
def bStep (x bt : Nat) : Nat:=if x % 2 ≠ bt then (x / 2) ^^^ 3988292384 else x / 2
def bN (x c : Nat) : Nat -> Nat
 | 0=>x
 | k + 1=>bStep (bN x c k) (c / 2 ^ k % 2)
theorem c5K (y bt : Nat) (h : bt < 2) : bStep y bt = a1H (y ^^^ bt):=by
 unfold bStep a1H
 rw [b4b,b4c]
 have h0 : bt / 2 = 0:=by omega
 rw [h0,Nat.xor_zero]
 rcases Nat.mod_two_eq_zero_or_one y with hy | hy <;> rcases (by omega : bt = 0 \/ bt = 1) with hb | hb <;> rw [hy,hb] <;> simp
theorem c5L (c k : Nat) : c % 2 ^ (k + 1) = c % 2 ^ k ^^^ 2 ^ k * (c / 2 ^ k % 2):=by
 apply Nat.eq_of_testBit_eq
 intro i
 have e2 : c / 2 ^ k % 2 = (c / 2 ^ k) % 2 ^ 1:=rfl
 rw [e2,Nat.testBit_xor,Nat.testBit_two_pow_mul,Nat.testBit_mod_two_pow,Nat.testBit_mod_two_pow,Nat.testBit_mod_two_pow,Nat.testBit_div_two_pow]
 by_cases h : i < k
 · have h2 : ¬ i >= k:=by omega
   have h3 : i < k + 1:=by omega
   simp [h,h2,h3]
 · have h2 : i >= k:=by omega
   by_cases h3 : i < k + 1
   · have e : i - k < 1:=by omega
     simp [h,h2,h3,e]
   · have e : ¬ i - k < 1:=by omega
     simp [h,h2,h3,e]
theorem bN_eq (x c : Nat) : ∀ k,bN x c k = stepN k (x ^^^ (c % 2 ^ k))
 | 0=>by
  show x = x ^^^ (c % 2 ^ 0)
  rw [Nat.pow_zero,Nat.mod_one,Nat.xor_zero]
 | k + 1=>by
  show bStep (bN x c k) (c / 2 ^ k % 2) = _
  rw [c5K _ _ (Nat.mod_lt _ (by decide)),bN_eq x c k,b5V,c5L c k,<- Nat.xor_assoc,a4K k (x ^^^ c % 2 ^ k),a5z]
theorem c5M (x : Nat) {c : Nat} (h : c < 256) : bN x c 8 = a1D x c:=by
 rw [bN_eq,a4M,Nat.mod_eq_of_lt (show c < 2 ^ 8 from h)]
theorem bN_lt {x c : Nat} (hx : x < 4294967296) (hc : c < 256) (k : Nat) : bN x c k < 4294967296:=by
 rw [bN_eq]
 refine a5y k (Nat.xor_lt_two_pow (n:=32) hx ?_)
 exact Nat.lt_of_le_of_lt (Nat.mod_le _ _) (by omega)
set_option maxRecDepth 100000 in
set_option maxHeartbeats 1000000 in
theorem c5N (s : Nat) (A : Option Addr) (c : Nat) (b : List Int) (w : World) (hs : s <= 4294967295) (hr : (Kd.int .u8).C w A b.length b) (hl : b.length <= 1000000) (hb : Bytes b) :
    Calls Tryz.prog 136 #[.int .u32 s,.slice A b.length c] w (λ e w'=>e = .returned (.int .u32 (a0W s b)) /\ w = w'):=by
 have HR:=Lib.hid (And.intro hr hb)
 obtain ⟨x0,hx0⟩ : ∃ x,x = 4294967295 - s:=⟨_,rfl⟩
 have hn : IntKind.u32.wrap ((4294967295 : Int) - (s : Int)) = (x0 : Int):=by rw [IntKind.wrap_u32']; omega
 have HX0:=Lib.hid hx0
 have HSs:=Lib.hid hs
 clear hr hb hx0 hs
 go_enter Tryz.func136,Tryz.ntmps136
 go_wp2_with fail
 go_loop [5,6] (λ xv kv=>∃ i : Nat,i <= b.length /\ xv = .int .u32 (crcS x0 (b.take i) : Nat) /\ kv = .int .i64 i) (λ _ kv=>b.length - (intOf kv).toNat)
 case atStart=>exact ⟨0,by omega,by simp [crcS],rfl⟩
 case round=>
  obtain ⟨i,hi,rfl,rfl⟩:=hrel
  by_cases hlt : i < b.length
  · obtain ⟨ad,hA,hcx⟩:=a0v HR.out.1 i hlt
    subst hA
    have hby:=HR.out.2.get i
    have hE : b.take (i + 1) = b.take i ++ [b.getD i 0]:=by rw [List.take_succ_eq_append_getElem hlt,List.getD_eq_getElem?_getD,List.getElem?_eq_getElem hlt]; rfl
    have HE : Hid (crcS x0 (b.take (i + 1)) = a1D (crcS x0 (b.take i)) (b.getD i 0).toNat):=Lib.hid (by rw [hE,a7c]; rfl)
    have HXl:=Lib.hid (a3I (b.take i) (x:=x0) (by have:=HX0.out; omega) (λ y hy=>HR.out.2 y (List.mem_of_mem_take hy)))
    obtain ⟨y,hy⟩ : ∃ y : Nat,b.getD i 0 = y:=⟨(b.getD i 0).toNat,by omega⟩
    rw [hy] at hcx hby HE
    rw [Int.toNat_natCast] at HE
    have hy8 : y < 256:=by omega
    obtain ⟨x,hx⟩ : ∃ x,x = crcS x0 (b.take i):=⟨_,rfl⟩
    rw [<- hx] at HE HXl ⊢
    rw [<- c5M x hy8] at HE
    have hiI : (i : Int) < (b.length : Int):=by omega
    clear hby hE hy hx
    go_wp2_with fail
    go_loop [5,7] (λ xv kv=>∃ k : Nat,k <= 8 /\ xv = .int .u32 (bN x y k : Nat) /\ kv = .int .i64 k) (λ _ kv=>8 - (intOf kv).toNat)
    case atStart=>exact ⟨0,by omega,rfl,rfl⟩
    case round=>
     obtain ⟨k,hk,rfl,rfl⟩:=hrel
     by_cases hlk : k < 8
     · have hlkI : (k : Int) < 8:=by omega
       have HN : Hid (bN x y (k + 1) = bStep (bN x y k) (y / 2 ^ k % 2)):=Lib.hid rfl
       have hzl:=bN_lt HXl.out hy8 k
       obtain ⟨z,hz⟩ : ∃ z,z = bN x y k:=⟨_,rfl⟩
       rw [<- hz] at HN hzl ⊢
       clear hz
       have hT : ((y : Int) / 2 ^ k).tmod 2 = ((y / 2 ^ k % 2 : Nat) : Int):=by
        have e2 : ((y : Int) / 2 ^ k) = ((y / 2 ^ k : Nat) : Int):=by simp
        rw [e2]
        generalize y / 2 ^ k = v
        rw [Int.tmod_eq_emod_of_nonneg (by omega)]
        omega
       have hM : (z : Int) % 2 = ((z % 2 : Nat) : Int):=by omega
       by_cases he : z % 2 = y / 2 ^ k % 2
       · have hne : ((z : Int) % 2 != ((y : Int) / 2 ^ k).tmod 2) = false:=by rw [hT,hM,he]; simp
         have HV : Hid ((z : Int) / 2 = ((bN x y (k + 1) : Nat) : Int)):=Lib.hid (by rw [HN.out]; unfold bStep; rw [if_neg (by simpa using he)]; omega)
         clear hT hM he
         go_wp2_with fail
         go_round
         case rel=>exact ⟨k + 1,by omega,congrArg _ HV.out,by go_num⟩
         case measure=>simp [intOf]; omega
       · have hne : ((z : Int) % 2 != ((y : Int) / 2 ^ k).tmod 2) = true:=by rw [hT,hM]; simp only [bne_iff_ne]; exact λ h=>he (by exact_mod_cast h)
         have HV : Hid (bits .xor .u32 ((z : Int) / 2) 3988292384 = ((bN x y (k + 1) : Nat) : Int)):=Lib.hid (by
          have:=u32_xor_nat (z / 2) 3988292384 (by omega) (by decide)
          rw [HN.out]; unfold bStep; rw [if_pos (by simpa using he),<- this]
          congr 1)
         clear hT hM he
         go_wp2_with fail
         go_round
         case rel=>exact ⟨k + 1,by omega,congrArg _ HV.out,by go_num⟩
         case measure=>simp [intOf]; omega
     · obtain rfl : k = 8:=by omega
       rw [<- HE.out]
       go_wp2_with fail
       go_round
       case rel=>exact ⟨i + 1,by omega,rfl,by go_num⟩
       case measure=>simp [intOf]; omega
  · obtain rfl : i = b.length:=by omega
    rw [List.take_length]
    have HF:=Lib.hid (a3I b (x:=x0) (by have:=HX0.out; omega) HR.out.2)
    have HC : Hid (a0W s b = 4294967295 - crcS x0 b):=Lib.hid (by unfold a0W; rw [HX0.out])
    obtain ⟨x,hx⟩ : ∃ x,x = crcS x0 b:=⟨_,rfl⟩
    rw [<- hx] at HF HC ⊢
    have HW : Hid (((4294967295 : Int) - (x : Int)) % 4294967296 = ((4294967295 - x : Nat) : Int)):=Lib.hid (by have:=HF.out; omega)
    clear hx hi hlt
    go_wp2_with fail
    go_ret
    refine ⟨?_,rfl⟩
    rw [HC.out,<- HW.out]; rfl
set_option maxRecDepth 100000 in
theorem a9V (A : Option Addr) (c : Nat) (b : List Int) (w : World) (hr : (Kd.int .u8).C w A b.length b) (hl : b.length <= 1000000) (hb : Bytes b) :
    Calls Tryz.prog 89 #[.slice A b.length c] w (λ e w'=>e = .returned (.int .u32 (a0W 0 b)) /\ w = w'):=by
 have H:=Lib.hid (c5N 0 A c b w (by decide) hr hl hb)
 clear hr hl hb
 go_enter Tryz.func89,Tryz.ntmps89
 go_wp2_with fail
 refine H.out.mono ?_
 rintro e w' ⟨rfl,rfl⟩
 go_wp2_with fail
 go_ret
 exact ⟨rfl,rfl⟩
end Go.Proofs.YtflfjpkmjnnodaaGreat
namespace Go.Proofs.YtflfjpkmjnnodaaGreat
open Go.RowKit
def dirB (l : List Int) : List Bool:=(List.range 256).map (λ (c : Nat)=>decide ((c : Int) ∈ l))
def dirL (l : List Int) : List Int:=packB (dirB l)
theorem a2B (l : List Int) : (dirB l).length = 256:=by simp [dirB]
theorem a2Q (l : List Int) : (dirL l).length = 32:=by unfold dirL; rw [a0z,a2B]
def onesN (ps : List Int) (k : Nat) : List Int:=((List.range k).filter (λ (c : Nat)=>decide (bitI ps c = 1))).map (λ (c : Nat)=>(c : Int))
def dirT (ps : List Int) : Int × List Int:=if ps.length < 32 then (3,[]) else if (onesN ps 256).getD 0 1 ≠ 0 then (13,[]) else (0,onesN ps 256)
def hdrsB (r : Nat) (qs : List (List Int)) : List Int -> List Bool
 | []=>[]
 | c :: l=>hdrB (qs.getD c.toNat []) 257 0 (2 ^ r) ++ hdrsB r qs l
def hdrsT (ps : List Int) (r : Nat) : List Int -> List (List Int) -> Nat -> Int × List (List Int) × Nat
 | [],qs,at_=>(0,qs,at_)
 | c :: l,qs,at_=>if (hdrT ps (8 * ps.length) 257 a0G 0 (2 ^ r) false at_).1 ≠ 0 then ((hdrT ps (8 * ps.length) 257 a0G 0 (2 ^ r) false at_).1,qs,at_) else
  hdrsT ps r l (qs.set c.toNat (hdrT ps (8 * ps.length) 257 a0G 0 (2 ^ r) false at_).2.1) (hdrT ps (8 * ps.length) 257 a0G 0 (2 ^ r) false at_).2.2
def a2C : List (List Int):=List.replicate 256 []
def a0J (ps : List Int) : Int × Nat × List (List Int) × List Int:=
 if ps.length = 0 then (3,0,[],[]) else if (ps.getD 0 0).toNat < 5 \/ 9 < (ps.getD 0 0).toNat then (13,0,[],[]) else
 if (dirT (ps.drop 1)).1 ≠ 0 then ((dirT (ps.drop 1)).1,0,[],[]) else
 if (hdrsT (ps.drop 33) (ps.getD 0 0).toNat (dirT (ps.drop 1)).2 a2C 0).1 ≠ 0 then ((hdrsT (ps.drop 33) (ps.getD 0 0).toNat (dirT (ps.drop 1)).2 a2C 0).1,0,[],[]) else
 if (hdrsT (ps.drop 33) (ps.getD 0 0).toNat (dirT (ps.drop 1)).2 a2C 0).2.2 % 8 ≠ 0 /\ ((ps.drop 33).getD ((hdrsT (ps.drop 33) (ps.getD 0 0).toNat (dirT (ps.drop 1)).2 a2C 0).2.2 / 8) 0).toNat / 2 ^ ((hdrsT (ps.drop 33) (ps.getD 0 0).toNat (dirT (ps.drop 1)).2 a2C 0).2.2 % 8) ≠ 0 then (4,0,[],[]) else
 (0,(ps.getD 0 0).toNat,(hdrsT (ps.drop 33) (ps.getD 0 0).toNat (dirT (ps.drop 1)).2 a2C 0).2.1,(ps.drop 33).drop (((hdrsT (ps.drop 33) (ps.getD 0 0).toNat (dirT (ps.drop 1)).2 a2C 0).2.2 + 7) / 8))
def a1d (b : List Int) : List Int:=[(a0p b : Int)] ++ dirL (presN b 256) ++ packB (hdrsB (a0p b) (a0A b) (presN b 256)) ++ packB (a0O (a0p b : Nat) false (a0A b) b ++ [true])
theorem a9W (b : List Int) (c : Nat) (hc : c < 256) : (c : Int) ∈ presN b 256 ↔ 0 < (a0o b (c : Int)).length:=by
 unfold presN
 constructor
 · intro h
   obtain ⟨d,hd,e⟩:=List.mem_map.1 h
   obtain ⟨_,h2⟩:=List.mem_filter.1 hd
   have : d = c:=by omega
   subst this; exact of_decide_eq_true h2
 · intro h
   exact List.mem_map.2 ⟨c,List.mem_filter.2 ⟨List.mem_range.2 hc,by simpa using h⟩,rfl⟩
theorem b5Y {b : List Int} (h0 : 0 < b.length) : (presN b 256).getD 0 1 = 0:=by
 have h1 : (0 : Int) ∈ presN b 256:=(a9W b 0 (by omega)).2 (by
  refine List.length_pos_iff_exists_mem.2 ⟨b.getD 0 0,?_⟩
  unfold a0o pkL
  exact List.mem_map.2 ⟨0,List.mem_filter.2 ⟨List.mem_range.2 h0,decide_eq_true (a5w b h0)⟩,rfl⟩)
 have h2 : presN b 256 = ((List.range 256).filter (λ (c : Nat)=>decide (0 < (a0o b (c : Int)).length))).map (λ (c : Nat)=>(c : Int)):=rfl
 have h3 : 0 < (a0o b ((0 : Nat) : Int)).length:=(a9W b 0 (by omega)).1 h1
 have h4 : List.range 256 = 0 :: (List.range 255).map Nat.succ:=List.range_succ_eq_map
 rw [h2,h4,List.filter_cons,if_pos (by simpa using h3)]
 rfl
theorem a7E {b : List Int} (hb : Bytes b) (hl : b.length <= 1000000) {c : Nat} (hc : c < 256) (h0 : 0 < (a0o b (c : Int)).length) : (a1g b c).length = 256 /\ (∀ x ∈ a1g b c,0 <= x) /\ (a1g b c).sum = 2 ^ a0p b:=by
 have h:=a4S (a5D hb hl hc h0)
 unfold a1g; rw [if_pos h0]
 exact ⟨h.1.len,h.1.nonneg,h.2.1⟩
def dec1M (ps : List Int) (n : Int) : Int × List Int:=if (a0J ps).1 ≠ 0 then ((a0J ps).1,[]) else decM ((a0J ps).2.1 : Nat) false (a0J ps).2.2.1 (a0J ps).2.2.2 n
def putN (l : List Int) : Nat -> Nat
 | 0=>0
 | i + 1=>(l.getD i 0).toNat + 1
structure Asc (l : List Int) : Prop where
 first : l.getD 0 1 = 0
 asc : ∀ i,i + 1 < l.length -> l.getD i 0 < l.getD (i + 1) 0
 lo : ∀ x ∈ l,0 <= x
 hi : ∀ x ∈ l,x < 256
theorem Asc.pos {l : List Int} (h : Asc l) : 0 < l.length:=by
 rcases Nat.eq_zero_or_pos l.length with e | e
 · have:=h.first
   rw [List.eq_nil_of_length_eq_zero e] at this; cases this
 · exact e
theorem Asc.zero {l : List Int} (h : Asc l) : l.getD 0 0 = 0:=by
 have h1:=h.first
 have h2:=h.pos
 rw [List.getD_eq_getElem?_getD,List.getElem?_eq_getElem h2,Option.getD_some] at h1 ⊢
 exact h1
theorem Asc.lt {l : List Int} (h : Asc l) : ∀ (d i : Nat),i + d + 1 < l.length -> l.getD i 0 < l.getD (i + d + 1) 0:=by
 intro d
 induction d with
 | zero=>intro i hi; exact h.asc i hi
 | succ d ih=>
  intro i hi
  have h1:=ih i (by omega)
  have h2:=h.asc (i + d + 1) (by omega)
  rw [show i + (d + 1) + 1 = i + d + 1 + 1 by omega]
  omega
theorem Asc.lt' {l : List Int} (h : Asc l) {i j : Nat} (hij : i < j) (hj : j < l.length) : l.getD i 0 < l.getD j 0:=by
 have:=h.lt (j - i - 1) i (by omega)
 rwa [show i + (j - i - 1) + 1 = j by omega] at this
theorem Asc.get {l : List Int} (h : Asc l) {i : Nat} (hi : i < l.length) : ∃ c : Nat,l.getD i 0 = c /\ c < 256:=by
 have hm:=a1y hi
 have h1:=h.lo _ hm
 have h2:=h.hi _ hm
 exact ⟨(l.getD i 0).toNat,by omega,by omega⟩
theorem Asc.put_le {l : List Int} (h : Asc l) {i c : Nat} (hi : i < l.length) (hc : l.getD i 0 = c) : putN l i <= c:=by
 cases i with
 | zero=>exact Nat.zero_le _
 | succ i=>
  have h1:=h.asc i hi
  have h2:=h.lo _ (a1y (show i < l.length by omega))
  show (l.getD i 0).toNat + 1 <= c
  omega
theorem a5K {l : List Int} {x : Int} (h : x ∈ l) : ∃ j,j < l.length /\ l.getD j 0 = x:=by
 obtain ⟨j,hj,rfl⟩:=List.getElem_of_mem h
 exact ⟨j,hj,by rw [List.getD_eq_getElem?_getD,List.getElem?_eq_getElem hj,Option.getD_some]⟩
theorem a7F (l : List Int) {n : Nat} (hn : n < 256) : (dirB l).getD n false = decide ((n : Int) ∈ l):=by
 rw [List.getD_eq_getElem?_getD,List.getElem?_eq_getElem (by rw [a2B]; omega),Option.getD_some]
 simp [dirB]
theorem Asc.gap {l : List Int} (h : Asc l) {i n c : Nat} (hi : i < l.length) (hc : l.getD i 0 = c) (h1 : putN l i <= n) (h2 : n < c) : (n : Int) ∉ l:=by
 intro hm
 obtain ⟨j,hj,e⟩:=a5K hm
 rcases Nat.lt_trichotomy j i with hlt | heq | hgt
 · cases i with
   | zero=>omega
   | succ i=>
    have h3 : (l.getD i 0).toNat + 1 <= n:=h1
    by_cases hji : j = i
    · subst hji; omega
    · have:=h.lt' (show j < i by omega) (by omega); omega
 · subst heq; omega
 · have:=h.lt' hgt hj; omega
theorem Asc.behind {l : List Int} (h : Asc l) {n : Nat} (h1 : putN l l.length <= n) : (n : Int) ∉ l:=by
 intro hm
 obtain ⟨j,hj,e⟩:=a5K hm
 obtain ⟨m,hm2⟩ : ∃ m,l.length = m + 1:=⟨l.length - 1,by omega⟩
 rw [hm2] at h1
 have h3 : (l.getD m 0).toNat + 1 <= n:=h1
 by_cases hjm : j = m
 · subst hjm; omega
 · have:=h.lt' (show j < m by omega) (by omega); omega
theorem c5T {l : List Int} (h : Asc l) {i n c : Nat} (hi : i < l.length) (hc : l.getD i 0 = c) (hc2 : c < 256) (h1 : putN l i <= n) (h2 : n < c) : (dirB l).take (n + 1) = (dirB l).take n ++ [false]:=by
 have hl:=a2B l
 rw [List.take_succ_eq_append_getElem (by omega)]
 congr 2
 have h3:=a7F l (n:=n) (by omega)
 rw [decide_eq_false (h.gap hi hc h1 h2),List.getD_eq_getElem?_getD,List.getElem?_eq_getElem (by omega),Option.getD_some] at h3
 exact h3
theorem c5U {l : List Int} {i c : Nat} (hi : i < l.length) (hc : l.getD i 0 = c) (hc2 : c < 256) : (dirB l).take (putN l (i + 1)) = (dirB l).take c ++ [true]:=by
 have hl:=a2B l
 have e : putN l (i + 1) = c + 1:=by show (l.getD i 0).toNat + 1 = _; omega
 rw [e,List.take_succ_eq_append_getElem (by omega)]
 congr 2
 have h3:=a7F l (n:=c) hc2
 rw [decide_eq_true (by rw [<- hc]; exact a1y hi),List.getD_eq_getElem?_getD,List.getElem?_eq_getElem (by omega),Option.getD_some] at h3
 exact h3
theorem c5V (bs : List Bool) (n : Nat) (hn : n <= bs.length) (h : ∀ k,n <= k -> bs.getD k false = false) : packB bs = packB (bs.take n) ++ List.replicate ((bs.length + 7) / 8 - (n + 7) / 8) 0:=by
 apply List.ext_getElem
 · rw [a0z,List.length_append,a0z,List.length_replicate,List.length_take]; omega
 · intro j h1 h2
   rw [a1V]
   rw [a0z] at h1
   have hb : ∀ (a b : List Bool),(∀ k,a.getD k false = b.getD k false) -> a.length <= b.length -> byteL a = byteL b:=by
    intro a b hab hle
    have e : b = a ++ List.replicate (b.length - a.length) false:=by
     apply List.ext_getElem
     · rw [List.length_append,List.length_replicate]; omega
     · intro k k1 k2
       have:=hab k
       rw [List.getD_eq_getElem?_getD,List.getD_eq_getElem?_getD,List.getElem?_eq_getElem k1,Option.getD_some] at this
       by_cases hk : k < a.length
       · rw [List.getElem?_eq_getElem hk,Option.getD_some] at this
         rw [List.getElem_append_left hk]; exact this.symm
       · rw [List.getElem?_eq_none (by omega)] at this
         rw [List.getElem_append_right (by omega),List.getElem_replicate]; exact this.symm
    have z : ∀ m,byteL (a ++ List.replicate m false) = byteL a:=by
     intro m
     induction m with
     | zero=>simp
     | succ m ih=>rw [List.replicate_succ',<- List.append_assoc,a3h,ih]; simp
    rw [e,z]
   by_cases hj : j < (packB (bs.take n)).length
   · rw [List.getElem_append_left hj,a1V]
     congr 1
     symm
     refine hb _ _ (λ k=>?_) ?_
     · simp only [List.getD_eq_getElem?_getD,List.getElem?_take,List.getElem?_drop]
       by_cases hk : k < 8
       · rw [if_pos hk,if_pos hk]
         by_cases hk2 : 8 * j + k < n
         · rw [if_pos hk2]
         · rw [if_neg hk2]
           have:=h (8 * j + k) (by omega)
           rw [List.getD_eq_getElem?_getD] at this
           rw [this]; rfl
       · rw [if_neg hk,if_neg hk]
     · simp only [List.length_take,List.length_drop]; omega
   · rw [List.getElem_append_right (by omega),List.getElem_replicate]
     rw [a0z,List.length_take,Nat.min_eq_left hn] at hj
     have : byteL ((bs.drop (8 * j)).take 8) = byteL []:=by
      symm
      refine hb _ _ (λ k=>?_) (by simp)
      simp only [List.getD_eq_getElem?_getD,List.getElem?_take,List.getElem?_drop,List.getElem?_nil]
      by_cases hk : k < 8
      · rw [if_pos hk]
        have:=h (8 * j + k) (by omega)
        rw [List.getD_eq_getElem?_getD] at this
        rw [this]; rfl
      · rw [if_neg hk]
     rw [this]; rfl
theorem c5W {l : List Int} (h : Asc l) : dirL l = packB ((dirB l).take (putN l l.length)) ++ List.replicate (32 - ((putN l l.length) + 7) / 8) 0:=by
 have hl:=a2B l
 have hn : putN l l.length <= 256:=by
  have hp:=h.pos
  obtain ⟨m,hm2⟩ : ∃ m,l.length = m + 1:=⟨l.length - 1,by omega⟩
  rw [hm2]
  show (l.getD m 0).toNat + 1 <= 256
  have:=h.hi _ (a1y (show m < l.length by omega)); omega
 have:=c5V (dirB l) (putN l l.length) (by omega) (λ k hk=>by
  by_cases hk2 : k < 256
  · rw [a7F l hk2,decide_eq_false (h.behind hk)]
  · rw [List.getD_eq_getElem?_getD,List.getElem?_eq_none (by omega)]; rfl)
 rw [hl] at this
 exact this
theorem b5Z {b : List Int} (h0 : 0 < b.length) : Asc (presN b 256):=by
 refine ⟨b5Y h0,λ i hi=>?_,λ x hx=>?_,λ x hx=>?_⟩
 · have hp : (presN b 256).Pairwise (· < ·):=by
     unfold presN
     rw [List.pairwise_map]
     refine List.Pairwise.filter _ (List.Pairwise.imp (λ h=>?_) List.pairwise_lt_range)
     omega
   have:=List.pairwise_iff_getElem.1 hp i (i + 1) (by omega) hi (by omega)
   rw [List.getD_eq_getElem?_getD,List.getElem?_eq_getElem (by omega),List.getD_eq_getElem?_getD,List.getElem?_eq_getElem hi]
   exact this
 · unfold presN at hx
   obtain ⟨c,_,rfl⟩:=List.mem_map.1 hx; omega
 · unfold presN at hx
   obtain ⟨c,hc,rfl⟩:=List.mem_map.1 hx
   have:=List.mem_range.1 (List.mem_filter.1 hc).1; omega
open Go.IntWalk Go.Proofs.YtflfjpkmjnnodaaGreatW.PrintWords
theorem b6a {κ : IntKind} {w : World} {A : Option Addr} {xs : List Int} (h : (Kd.int κ).C w A xs.length xs) (k : Nat) (hk : k <= xs.length) : (Kd.int κ).C w A k (xs.take k):=by
 obtain ⟨h1,h2,h3⟩:=h
 refine ⟨by rw [List.length_take]; omega,by omega,λ h0=>?_⟩
 obtain ⟨ad,e,hc⟩:=h3 (by omega)
 refine ⟨ad,e,λ j p hj=>hc j p ?_⟩
 rw [List.getElem?_take] at hj
 split at hj
 · exact hj
 · cases hj
theorem b6b {lg : Int} {one : Bool} {qs : List (List Int)} {ps : List Int} {n : Int} (hps : ∀ x ∈ ps,0 <= x /\ x < 256) : Bytes (decM lg one qs ps n).2:=by
 by_cases h : (decM lg one qs ps n).1 = 0
 · exact (a6V (z:=(decM lg one qs ps n).2) hps (by rw [<- h])).2.1
 · rw [a9T h]; intro x hx; cases hx
theorem c5Y {ps : List Int} {n : Int} (hps : Bytes ps) : Bytes (dec0M ps n).2:=by
 unfold dec0M
 split
 · intro x hx; cases hx
 · exact b6b (a9S hps)
theorem BSl.cut {w : World} {A : Option Addr} {c : Nat} {p : List Int} (h : BSl w A c p) {k : Nat} (hk : k <= p.length) : BSl w A c (p.take k):=
 ⟨by have:=b6a h.row k hk; rwa [List.length_take,Nat.min_eq_left hk],by rw [List.length_take]; have:=h.cap; omega,h.nil,λ x hx=>h.by' x (List.mem_of_mem_take hx)⟩
end Go.Proofs.YtflfjpkmjnnodaaGreat
namespace Go.Proofs.YtflfjpkmjnnodaaGreat
open Go.RowKit
theorem b6c (ps : List Int) (r : Nat) : ∀ (l : List Int) (qs : List (List Int)) (at_ : Nat),(hdrsT ps r l qs at_).2.1.length = qs.length
 | [],_,_=>rfl
 | c :: l,qs,at_=>by
  unfold hdrsT
  split
  · rfl
  · rw [b6c ps r l,List.length_set]
theorem b6e (ps : List Int) : (∃ k,k ≠ 0 /\ a0J ps = (k,0,[],[])) \/ ∃ r qs m,5 <= r /\ r <= 9 /\ (qs : List (List Int)).length = 256 /\ a0J ps = (0,r,qs,(ps.drop 33).drop m):=by
 unfold a0J
 by_cases h0 : ps.length = 0
 · rw [if_pos h0]; exact .inl ⟨3,by decide,rfl⟩
 · rw [if_neg h0]
   by_cases h1 : (ps.getD 0 0).toNat < 5 \/ 9 < (ps.getD 0 0).toNat
   · rw [if_pos h1]; exact .inl ⟨13,by decide,rfl⟩
   · rw [if_neg h1]
     by_cases hd : (dirT (ps.drop 1)).1 ≠ 0
     · rw [if_pos hd]; exact .inl ⟨_,hd,rfl⟩
     · rw [if_neg hd]
       have hl:=b6c (ps.drop 33) (ps.getD 0 0).toNat (dirT (ps.drop 1)).2 a2C 0
       obtain ⟨H,hH⟩ : ∃ H,H = hdrsT (ps.drop 33) (ps.getD 0 0).toNat (dirT (ps.drop 1)).2 a2C 0:=⟨_,rfl⟩
       rw [<- hH] at hl ⊢
       by_cases h2 : H.1 ≠ 0
       · rw [if_pos h2]; exact .inl ⟨_,h2,rfl⟩
       · rw [if_neg h2]
         by_cases h3 : H.2.2 % 8 ≠ 0 /\ ((ps.drop 33).getD (H.2.2 / 8) 0).toNat / 2 ^ (H.2.2 % 8) ≠ 0
         · rw [if_pos h3]; exact .inl ⟨4,by decide,rfl⟩
         · rw [if_neg h3]; exact .inr ⟨_,_,_,by omega,by omega,by rw [hl]; exact List.length_replicate,rfl⟩
theorem a9X {ps : List Int} (h : Bytes ps) : Bytes (a0J ps).2.2.2:=by
 rcases b6e ps with ⟨k,_,e⟩ | ⟨r,q,m,_,_,_,e⟩
 · rw [e]; intro x hx; cases hx
 · rw [e]; exact λ x hx=>h x (List.mem_of_mem_drop (List.mem_of_mem_drop hx))
theorem c5Z {ps : List Int} {n : Int} (hps : Bytes ps) : Bytes (dec1M ps n).2:=by
 unfold dec1M
 split
 · intro x hx; cases hx
 · exact b6b (a9X hps)
theorem a9Y {x : Int} {l : List Int} (hx : 0 <= x /\ x < 256) (hl : Bytes l) : Bytes (x :: l):=λ y hy=>by
 rcases List.mem_cons.1 hy with h | h
 · rw [h]; exact hx
 · exact hl y h
theorem a4W {a b : List Int} (ha : Bytes a) (hb : Bytes b) : Bytes (a ++ b):=λ y hy=>by
 rcases List.mem_append.1 hy with h | h
 · exact ha y h
 · exact hb y h
theorem a9Z (b : List Int) : Bytes (a1d b):=by
 unfold a1d
 have hr:=a2y b
 exact a4W (a4W (a4W (a9Y (by omega) (λ x hx=>by cases hx)) (a4g _)) (a4g _)) (a4g _)
theorem c6a {b : List Int} (hb : Bytes b) (hl : b.length <= 1000000) : ∀ (d i : Nat),i + d = (presN b 256).length -> (hdrsB (a0p b) (a0A b) ((presN b 256).drop i)).length <= d * 3840:=by
 intro d
 induction d with
 | zero=>intro i hi; rw [List.drop_of_length_le (by omega)]; simp [hdrsB]
 | succ d ih=>
  intro i hi
  have hlt : i < (presN b 256).length:=by omega
  obtain ⟨c,hc,hc256,hpk⟩:=a7w b hlt
  have hr:=a2y b
  have hd : (presN b 256).drop i = (c : Int) :: (presN b 256).drop (i + 1):=by rw [a4H _ _ hlt,hc]
  have hq : (a0A b).getD c [] = a1g b c:=a7r b hc256
  obtain ⟨n1,n2,n3⟩:=a7E hb hl hc256 hpk
  have e2 : (2 : Int) ^ a0p b = ((2 ^ a0p b : Nat) : Int):=by simp
  have h1:=a3K (r:=a0p b) (by omega) n1 n2 257 0 (2 ^ a0p b) (by omega) (by rw [List.drop_zero,n3,e2]) (by rw [Nat.pow_succ]; have:=Nat.two_pow_pos (a0p b); omega)
  have h2 : (256 - 0) * (a0p b + 3) <= 256 * 15:=Nat.mul_le_mul (by omega) (by omega)
  rw [hd]
  simp only [hdrsB,Int.toNat_natCast,hq,List.length_append]
  have:=ih (i + 1) (by omega)
  omega
theorem b6h {b : List Int} (hb : Bytes b) (hl : b.length <= 40000) (h0 : 0 < b.length) : 33 < (a1d b).length /\ (a1d b).length <= 900000:=by
 have HCan : canM (a0p b : Nat) false (a0A b) b = true:=a3J (one:=false) hb (by omega) h0
 have hF:=a3G (a3H HCan).1 hb
 have h1:=c6a hb (by omega) (presN b 256).length 0 (by omega)
 have h2:=a4j b 256
 rw [List.drop_zero] at h1
 unfold a1d
 simp only [List.length_append,List.length_singleton,a2Q,a0z]
 omega
def a1q (b : List Int) : Bool:=decide (1 < b.length) && b.all (λ x=>decide (x = b.getD 0 0))
def a1i (kind : Int) (b : List Int) : Int × List Int:=
 if ¬ (kind = 0 \/ kind = 1) \/ 131072 < b.length \/ (kind = 1 /\ a1q b = false) then (1,[]) else if kind = 0 then (0,b) else (0,[b.getD 0 0])
def a2D (kind : Int) (body : List Int) (n : Int) : Int × List Int:=
 if ¬ (kind = 0 \/ kind = 1) \/ n < 0 \/ 131072 < n then (1,[]) else
 if kind = 0 /\ (body.length : Int) ≠ n \/ kind = 1 /\ (body.length ≠ 1 \/ n < 2) then (11,[]) else
 (0,if kind = 0 then body else List.replicate n.toNat (body.getD 0 0))
def pickE (kind : Int) (b : List Int) : Int × List Int:=
 if kind < 0 \/ 3 < kind then (10,[]) else if kind <= 1 then a1i kind b else
 if b.length = 0 then (1,[]) else if kind = 2 then (0,a1h b) else (0,a1d b)
def a1a (k : Int) (b : List Int) (x : Int × List Int) : Int × List Int:=if (pickE k b).1 = 0 /\ (pickE k b).2.length < x.2.length then (k,(pickE k b).2) else x
def bestP (b : List Int) : Int × List Int:=a1a 3 b (a1a 2 b (a1a 1 b (0,b)))
def mayB (kind n length : Int) : Bool:=if kind = 0 then decide (n = length) else if kind = 1 then decide (1 < n /\ length = 1) else decide (1 <= length /\ length < n)
def a0H (kind n length : Int) : Int:=if kind < 0 \/ 3 < kind then 10 else if n < 0 \/ 131072 < n \/ mayB kind n length = false then 11 else 0
def pickD (kind : Int) (body : List Int) (n : Int) : Int × List Int:=
 if a0H kind n body.length ≠ 0 then (a0H kind n body.length,[]) else if kind <= 1 then a2D kind body n else if kind = 2 then dec0M body n else dec1M body n
theorem c6b {k : Int} {b : List Int} (hb : Bytes b) : Bytes (a1i k b).2:=by
 unfold a1i
 split
 · intro x hx; cases hx
 · split
   · exact hb
   · exact a9Y (hb.get 0) (λ x hx=>by cases hx)
theorem c6c {k : Int} {b : List Int} (hb : Bytes b) : Bytes (pickE k b).2:=by
 unfold pickE
 repeat' split
 · intro x hx; cases hx
 · exact c6b hb
 · intro x hx; cases hx
 · exact c5z b
 · exact a9Z b
theorem b0a {k : Int} {b : List Int} {x : Int × List Int} (hb : Bytes b) (hx : Bytes x.2) : Bytes (a1a k b x).2:=by
 unfold a1a; split
 · exact c6c hb
 · exact hx
theorem a3L {b : List Int} (hb : Bytes b) : Bytes (bestP b).2:=b0a hb (b0a hb (b0a hb hb))
theorem a7G (k : Int) (b : List Int) (x : Int × List Int) : (a1a k b x).2.length <= x.2.length /\ ((pickE k b).1 = 0 -> (a1a k b x).2.length <= (pickE k b).2.length):=by
 unfold a1a
 by_cases h : (pickE k b).1 = 0 /\ (pickE k b).2.length < x.2.length
 · rw [if_pos h]; exact ⟨by show (pickE k b).2.length <= _; omega,λ _=>Nat.le_refl _⟩
 · rw [if_neg h]; exact ⟨Nat.le_refl _,λ h0=>by omega⟩
theorem a3M (b : List Int) : (bestP b).2.length <= b.length:=by
 have h1:=(a7G 1 b (0,b)).1
 have h2:=(a7G 2 b (a1a 1 b (0,b))).1
 have h3:=(a7G 3 b (a1a 2 b (a1a 1 b (0,b)))).1
 unfold bestP
 have e : ((0 : Int),b).2.length = b.length:=rfl
 omega
structure BestOk (b : List Int) (x : Int × List Int) (upto : Int) : Prop where
 kind : 0 <= x.1 /\ x.1 <= upto
 is : pickE x.1 b = (0,x.2)
 least : ∀ j,0 <= j -> j <= upto -> (pickE j b).1 = 0 -> x.2.length <= (pickE j b).2.length /\ ((pickE j b).2.length = x.2.length -> x.1 <= j)
theorem b0b {b : List Int} {x : Int × List Int} {k : Int} (h : BestOk b x (k - 1)) (hk : 0 < k) : BestOk b (a1a k b x) k:=by
 unfold a1a
 by_cases hc : (pickE k b).1 = 0 /\ (pickE k b).2.length < x.2.length
 · rw [if_pos hc]
   refine ⟨⟨by show 0 <= k; omega,Int.le_refl _⟩,Prod.ext hc.1 rfl,λ j h0 hj he=>?_⟩
   by_cases e : j = k
   · subst e; exact ⟨Nat.le_refl _,λ _=>Int.le_refl _⟩
   · have:=h.least j h0 (by omega) he
     exact ⟨by show (pickE k b).2.length <= _; omega,λ e2=>by exfalso; have e3 : (pickE j b).2.length = (pickE k b).2.length:=e2; omega⟩
 · rw [if_neg hc]
   refine ⟨⟨h.kind.1,by have:=h.kind.2; omega⟩,h.is,λ j h0 hj he=>?_⟩
   by_cases e : j = k
   · subst e; exact ⟨by omega,λ _=>by have:=h.kind.2; omega⟩
   · exact h.least j h0 (by omega) he
theorem b0c {b : List Int} (hl : b.length <= 131072) : BestOk b (bestP b) 3:=by
 have h0 : pickE 0 b = (0,b):=by
  unfold pickE a1i
  rw [if_neg (by omega),if_pos (by omega),if_neg (by omega),if_pos rfl]
 have b0 : BestOk b (0,b) (1 - 1):=⟨⟨Int.le_refl 0,Int.le_refl 0⟩,h0,λ j h1 h2 _=>by
  have : j = 0:=by omega
  subst this; rw [h0]; exact ⟨Nat.le_refl _,λ _=>Int.le_refl _⟩⟩
 exact b0b (k:=3) (b0b (k:=2) (b0b (k:=1) b0 (by decide)) (by decide)) (by decide)
theorem b0d {b : List Int} (h : a1q b = true) : b = List.replicate b.length (b.getD 0 0) /\ 1 < b.length:=by
 unfold a1q at h
 simp only [Bool.and_eq_true,decide_eq_true_eq,List.all_eq_true] at h
 exact ⟨List.eq_replicate_iff.2 ⟨rfl,h.2⟩,h.1⟩
end Go.Proofs.YtflfjpkmjnnodaaGreat
