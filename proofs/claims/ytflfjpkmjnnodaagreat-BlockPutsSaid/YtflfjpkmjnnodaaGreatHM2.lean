/- The walks of layer 16's Encode and Bits. -/
import Derived.Test.YtflfjpkmjnnodaaGreatHM1
import Derived.Test.YtflfjpkmjnnodaaGreatHS1
import Derived.Test.YtflfjpkmjnnodaaGreatHM0
import Derived.BigQuiet
import Derived.Deep.RegionLaw
import Derived.JoinedOf
import Derived.ProofKit
namespace Go.Proofs.YtflfjpkmjnnodaaGreat
open Go.RowKit Go.IntWalk Go.Proofs.YtflfjpkmjnnodaaGreatW.PrintWords
theorem c2c {lg : Int} {one : Bool} {A : Option Addr} {c : Nat} {qs : List (List Int)} {tb me md : Nat} {w0 w w' : World} (h : Opened lg one A qs.length c tb me md w w') (hb : Below w0.heap.size w0 w) : EncInv lg one A c qs tb me md 0 (λ _=>none) (λ _=>False) w0 w':=by
 have hs:=hb.size
 exact ⟨h.blk,by rw [h.em]; exact a8H,a0f h.em,hb.trans (h.below.mono hs),by have:=h.ge.1; omega,λ _ hf=>hf.elim,(λ i _ v hv=>by cases hv),⟨λ hf=>hf,λ hf=>hf,  h.ge.2.2.2.1⟩⟩
theorem a3G {lg : Int} {one : Bool} {qs : List (List Int)} {b : List Int} (h : fitsM lg one qs b = true) (hb : Bytes b) : (a0O lg one qs b).length <= 17 * b.length + 24:=by
 have h1:=a4G h hb b.length (Nat.le_refl _)
 have h2:=a1W (a2O h)
 simp only [a0O,List.length_append,a0E]; omega
def b3J (lg : Int) (one : Bool) (qs : List (List Int)) (b : List Int) (w : World) (e : Ending) (w' : World) : Prop:=
 (canM lg one qs b = false -> e = .returned (.tuple #[.slice none 0 0,.int .i64 1])) /\
 (canM lg one qs b = true -> ∃ v,e = .returned (.tuple #[v,.int .i64 0]) /\ (Kd.int .u8).R 5 w' w.heap.size (λ _=>True) v (packB (a0O lg one qs b ++ [true]))) /\ Below w.heap.size w w'
theorem a3H {lg : Int} {one : Bool} {qs : List (List Int)} {b : List Int} (h : canM lg one qs b = true) : fitsM lg one qs b = true /\ ∃ g : Nat,lg = g /\ g <= 12:=by
 unfold canM at h; simp only [Bool.and_eq_true] at h
 have hr:=a1W (a2O h.2)
 exact ⟨h.2,lg.toNat,by omega,by omega⟩
theorem a3i {w w' : World} {mb : Nat} {lg : Int} {one : Bool} {V : Value} (hb : Below w.heap.size w w') (hlt : mb < w.heap.size) (h0 : w.cell? ⟨mb,0,none⟩ = some (.int .i64 lg)) (h1 : w.cell? ⟨mb,1,none⟩ = some (.bool one)) (h2 : w.cell? ⟨mb,2,none⟩ = some V) :
    w'.cell? ⟨mb,0,none⟩ = some (.int .i64 lg) /\ w'.cell? ⟨mb,1,none⟩ = some (.bool one) /\ w'.cell? ⟨mb,2,none⟩ = some V:=
 ⟨(hb.cell (p:=⟨mb,0,none⟩) hlt).trans h0,(hb.cell (p:=⟨mb,1,none⟩) hlt).trans h1,(hb.cell (p:=⟨mb,2,none⟩) hlt).trans h2⟩
theorem c2d {lg : Int} {one : Bool} {A : Option Addr} {n c : Nat} {tb me md : Nat} {w w' : World} (h : Opened lg one A n c tb me md w.drew w') : Below w.heap.size w w':=
 ⟨h.below.os,h.below.tape,h.below.output,h.below.size,h.below.block⟩
theorem c2e {lg : Int} {one : Bool} {A : Option Addr} {c : Nat} {qs : List (List Int)} {tb me md : Nat} {w0 w w' : World} (h : Opened lg one A qs.length c tb me md w.drew w') (hb : Below w0.heap.size w0 w) : EncInv lg one A c qs tb me md 0 (λ _=>none) (λ _=>False) w0 w':=c2c h hb.drew
set_option maxRecDepth 100000 in
set_option maxHeartbeats 1000000 in
theorem b3K (lg : Int) (one : Bool) (A : Option Addr) (c : Nat) (qs : List (List Int)) (B : Option Addr) (cb : Nat) (b : List Int) (w : World) (hr : kq.C w A qs.length qs) (hl : qs.length <= 1000000) (hb : (Kd.int .u8).C w B b.length b) (hby : Bytes b) (hbl : b.length <= 40000) :
    Calls Tryz.prog 102 #[.agg #[.int .i64 lg,.bool one,.slice A qs.length c],.slice B b.length cb] w (b3J lg one qs b w):=by
 obtain ⟨W1,hW1⟩ : ∃ W1,W1 = w.alloc (.cells #[.int .i64 lg,.bool one,.slice A qs.length c] 26):=⟨_,rfl⟩
 have hb1 : Below w.heap.size w W1:=by rw [hW1]; exact (Below.refl w.heap.size w).alloc (Nat.le_refl _) _
 have hk1 : W1.heap[w.heap.size]? = some (.cells #[.int .i64 lg,.bool one,.slice A qs.length c] 26 (0,0)):=by rw [hW1]; exact a0k _ _
 have HB1:=Lib.hid hb1
 have HK1:=Lib.hid hk1
 have HR:=Lib.hid hr
 have HBR:=Lib.hid hb
 have HX:=Lib.hid (And.intro hl (And.intro hby hbl))
 clear hb1 hk1 hr hb hl hby hbl
 go_enter Tryz.func102,Tryz.ntmps102
 go_wp2_with fail
 rw [<- hW1]
 clear hW1
 refine (c2b lg one A c qs B cb b W1 (Kd.C_below HR.out HB1.out) HX.out.1 (Kd.C_below HBR.out HB1.out) HX.out.2.1).mono ?_
 rintro e w2 ⟨rfl,hb2⟩
 have hk2:=a0i HK1.out hb2
 have hm0 : w2.cell? ⟨w.heap.size,0,none⟩ = some (.int .i64 lg):=(a0a hk2 0).trans rfl
 have hm1 : w2.cell? ⟨w.heap.size,1,none⟩ = some (.bool one):=(a0a hk2 1).trans rfl
 have hm2 : w2.cell? ⟨w.heap.size,2,none⟩ = some (.slice A qs.length c):=(a0a hk2 2).trans rfl
 have HB2 : Hid (Below w.heap.size w w2):=HB1.out.trans (hb2.mono HB1.out.size)
 have hlt2 : w.heap.size < w2.heap.size:=a0f hk2
 have HK2:=Lib.hid hk2
 clear hb2 hk2
 obtain ⟨z,hz⟩ : ∃ z,z = canM lg one qs b:=⟨_,rfl⟩
 rw [<- hz]
 have HZ:=Lib.hid hz
 clear hz
 cases z with
 | false=>
  go_wp2_with fail
  go_ret2
  exact ⟨λ _=>rfl,(λ h=>by rw [<- HZ.out] at h; cases h),HB2.out⟩
 | true=>
  obtain ⟨hfit,g,hg,hg12⟩:=a3H HZ.out.symm
  subst hg
  have HF:=Lib.hid hfit
  have HG:=Lib.hid hg12
  have HLT:=Lib.hid hlt2
  clear hfit hg12 hlt2
  go_wp2_with fail
  go_region_held3 (λ w'=>w'.cell? ⟨w.heap.size,0,none⟩ = some (.int .i64 (g : Int)) /\ w'.cell? ⟨w.heap.size,1,none⟩ = some (.bool one) /\ w'.cell? ⟨w.heap.size,2,none⟩ = some (.slice A qs.length c)) ((repeat' apply And.intro) <;> first | assumption)
   (first
    | (go_at_call 119; refine (b3H (g : Int) one A qs.length c _).mono ?_; rintro e w3 ⟨tb,me,md,rfl,hO⟩; obtain ⟨c0,c1,c2⟩:=a3i (c2d hO) HLT.out hm0 hm1 hm2; have HO:=Lib.hid hO; clear hO)
    | (go_at_call 148; refine (c1V g one A c qs B cb b _ _ _ w2 _ (Kd.C_below HR.out HB2.out) (Kd.C_below HBR.out HB2.out) HX.out.2.1 HX.out.2.2 HF.out (by exact c2e HO.out (Below.refl _ _))).mono ?_; rintro e w4 ⟨p,v,rfl,hv,hbw⟩; obtain ⟨d0,d1,d2⟩ : w4.cell? ⟨w.heap.size,0,none⟩ = some (.int .i64 (g : Int)) /\ w4.cell? ⟨w.heap.size,1,none⟩ = some (.bool one) /\ w4.cell? ⟨w.heap.size,2,none⟩ = some (.slice A qs.length c):=a3i hbw HLT.out hm0 hm1 hm2; have HV:=Lib.hid (And.intro hv hbw); clear hv hbw)
    | (go_at_call 150; refine (c1u w2.heap.size _ _ _ _ HV.out.1 (by have:=a3G HF.out HX.out.2.1; have:=HX.out.2.2; omega)).mono ?_; rintro e w5 ⟨vc,rfl,hvc,hbc⟩; obtain ⟨f0,f1,f2⟩:=a3i hbc (Nat.lt_of_lt_of_le HLT.out HV.out.2.size) d0 d1 d2; have HC:=Lib.hid (And.intro hvc hbc); clear hvc hbc))
  all_goals
   go_wp2_with fail
   go_ret2
   exact ⟨(λ h=>by rw [<- HZ.out] at h; cases h),λ _=>⟨_,rfl,Kd.R_mono (Kd.R_lower HC.out.1 (Nat.le_trans HB2.out.size HV.out.2.size)) (λ _ _=>trivial)⟩,(HB2.out.trans (HV.out.2.mono HB2.out.size)).trans (HC.out.2.mono (Nat.le_trans HB2.out.size HV.out.2.size))⟩
end Go.Proofs.YtflfjpkmjnnodaaGreat
namespace Go.Proofs.YtflfjpkmjnnodaaGreat
open Go.RowKit
theorem c2f (l : List Int) (s : Int) : ∀ m n,m <= n -> ∃ r,posN l s n = posN l s m ++ r:=by
 intro m n hmn
 induction hmn with
 | refl=>exact ⟨[],by simp⟩
 | step _ ih=>
  rename_i n _
  obtain ⟨r,hr⟩:=ih
  by_cases e : l.getD n (-1) = s
  · exact ⟨r ++ [(n : Int)],by rw [a2v e,hr,List.append_assoc]⟩
  · exact ⟨r,by rw [a3E e,hr]⟩
theorem c2g {l : List Int} {s : Int} {P : Nat} (hP : P < l.length) (h : l.getD P (-1) = s) : (posN l s l.length).getD (posN l s P).length 0 = P:=by
 obtain ⟨r,hr⟩:=c2f l s (P + 1) l.length hP
 rw [hr,a2v h,List.getD_eq_getElem?_getD,List.append_assoc,List.getElem?_append_right (Nat.le_refl _)]
 simp
theorem b3L {q : List Int} (h : logC q ≠ 0) {P : Nat} (hP : P < 2 ^ logC q) : (symsL q).getD P 0 = (symsL q).getD P (-1) /\ 0 <= (symsL q).getD P 0 /\ (symsL q).getD P 0 < 256:=by
 have:=a4C (a1B h) P (by rw [a3g h]; exact hP)
 exact ⟨this.2.2.symm,this.1,this.2.1⟩
theorem b3M {q : List Int} (h : logC q ≠ 0) {P s k : Nat} (hP : P < 2 ^ logC q) (hs : (symsL q).getD P (-1) = s) (hk : (posN (symsL q) s P).length = k) :
    a1u q P = ((s : Int),((logC q - a0s ((cntC q s + k : Nat) : Int) : Nat) : Int),((cntC q s + k : Nat) : Int) * 2 ^ (logC q - a0s ((cntC q s + k : Nat) : Int)) - 2 ^ logC q) /\ k < cntC q s:=by
 have hq:=a1B h
 have h1:=b3L h hP
 rw [hs] at h1
 have hg : a0y q P = cntC q s + k:=by
  unfold a0y; rw [h1.1]; simp only [Int.toNat_natCast]; rw [hk,a2L hq]
 refine ⟨?_,?_⟩
 · unfold a1u; rw [h1.1,hg]
 · have:=b2Y (l:=symsL q) (s:=s) (k:=P) (by rw [a3g h]; exact hP) hs
   rw [hk] at this; unfold cntC a1o; exact this
theorem c2i {i r n : Nat} (h1 : 2 ^ (r - n) <= i) (h2 : i < 2 ^ (r - n + 1)) (hr : r <= 12) : a0s (i : Int) = r - n:=by
 have hp : 2 ^ (r - n + 1) <= 2 ^ 13:=Nat.pow_le_pow_right (by omega) (by omega)
 have h0 : 0 < i:=Nat.lt_of_lt_of_le (Nat.two_pow_pos _) h1
 obtain ⟨f1,f2⟩:=a3f i h0 (by omega)
 have a : ¬ a0s (i : Int) + 1 <= r - n:=λ e=>by
  have:=Nat.pow_le_pow_right (n:=2) (by omega) e; omega
 have b : ¬ r - n + 1 <= a0s (i : Int):=λ e=>by
  have:=Nat.pow_le_pow_right (n:=2) (by omega) e; omega
 omega
structure StepNum (r cnt W n i low : Nat) : Prop where
 eq : W = i * 2 ^ n + low
 low : low < 2 ^ n
 ge : cnt <= i
 lt : i < 2 * cnt
 nr : n <= r
 fl : a0s (i : Int) = r - n
theorem c2j {r cnt W n : Nat} (hr : r <= 12) (hc : 0 < cnt) (hW1 : 2 ^ r <= W) (hW2 : W < 2 * 2 ^ r) (h1 : cnt * 2 ^ n <= W) (h2 : W < 2 * cnt * 2 ^ n) : StepNum r cnt W n (W / 2 ^ n) (W % 2 ^ n):=by
 have hn:=Nat.two_pow_pos n
 have hnr : n <= r:=by
  have a : ¬ r + 1 <= n:=λ e=>by
   have h3:=Nat.pow_le_pow_right (n:=2) (by omega) e
   have h4 : 2 ^ n <= cnt * 2 ^ n:=Nat.le_mul_of_pos_left _ hc
   rw [Nat.pow_succ] at h3; omega
  omega
 have hpr : 2 ^ r = 2 ^ (r - n) * 2 ^ n:=by rw [<- Nat.pow_add]; congr 1; omega
 have hdiv : 2 ^ (r - n) <= W / 2 ^ n:=(Nat.le_div_iff_mul_le hn).2 (by rw [<- hpr]; exact hW1)
 have hdiv2 : W / 2 ^ n < 2 ^ (r - n + 1):=Nat.div_lt_of_lt_mul (by rw [Nat.pow_succ,Nat.mul_comm (2 ^ n),Nat.mul_assoc,Nat.mul_comm 2,<- Nat.mul_assoc,<- hpr]; omega)
 refine ⟨?_,Nat.mod_lt _ hn,(Nat.le_div_iff_mul_le hn).2 h1,Nat.div_lt_of_lt_mul (by rw [Nat.mul_comm]; exact h2),hnr,c2i hdiv hdiv2 hr⟩
 have:=Nat.div_add_mod W (2 ^ n)
 rw [Nat.mul_comm] at this; omega
theorem a6R {q : List Int} {x s : Int} (hl : logC q ≠ 0) (hx : 0 <= x /\ x < 2 ^ logC q) (hc : 0 < cntC q s) : StepNum (logC q) (cntC q s) (a0V q x) (a0C q x s) (a0V q x / 2 ^ a0C q x s) (a1r q x s) /\ (a0V q x : Int) = 2 ^ logC q + x:=by
 have hr : logC q <= 12:=a1S _
 have hp : 2 ^ logC q <= 2 ^ 12:=Nat.pow_le_pow_right (by omega) hr
 have e2 : (2 : Int) ^ logC q = ((2 ^ logC q : Nat) : Int):=by simp
 rw [e2] at hx
 have hw : a0V q x = 2 ^ logC q + x.toNat:=rfl
 have hcl:=a5t hl s
 obtain ⟨a1,a2,a3⟩:=a6G (x:=a0V q x) hc (by omega) (by omega)
 refine ⟨c2j hr hc (by omega) (by omega) a1 a2,?_⟩
 rw [e2,hw]; omega
theorem c2l {q : List Int} {P more : Nat} (hl : logC q ≠ 0) (hP : P < 2 ^ logC q) {s b : Nat} {bs : Int} (hce : a1u q P = ((s : Int),(b : Int),bs)) (hm : more < 2 ^ b) :
    0 < cntC q s /\ 0 <= bs + more /\ bs + more < 2 ^ logC q /\ a0C q (bs + more) s = b /\ a1r q (bs + more) s = more /\ a1p q (bs + more) s = P:=by
 have hr : logC q <= 12:=a1S _
 have hp : 2 ^ logC q <= 2 ^ 12:=Nat.pow_le_pow_right (by omega) hr
 have hsy:=b3L hl hP
 have hs1 : (a1u q P).1 = (symsL q).getD P 0:=rfl
 rw [hce] at hs1
 have hs : (symsL q).getD P (-1) = s:=by rw [<- hsy.1]; exact hs1.symm
 obtain ⟨k,hk⟩ : ∃ k,(posN (symsL q) s P).length = k:=⟨_,rfl⟩
 obtain ⟨hce2,hkc⟩:=b3M hl hP hs hk
 rw [hce] at hce2
 obtain ⟨g,hg⟩ : ∃ g,g = cntC q s + k:=⟨_,rfl⟩
 rw [<- hg] at hce2
 have hb : (b : Int) = ((logC q - a0s (g : Int) : Nat) : Int):=(Prod.mk.inj (Prod.mk.inj hce2).2).1
 have hb' : logC q - a0s (g : Int) = b:=by omega
 have hbs : bs = (g : Int) * 2 ^ b - 2 ^ logC q:=by have:=(Prod.mk.inj (Prod.mk.inj hce2).2).2; rw [hb'] at this; exact this
 have hok:=a8W hl P hP
 rw [hce] at hok
 obtain ⟨_,_,⟨b',hbb,_,hsum⟩,hbs0,_⟩:=hok
 obtain rfl : b' = b:=by simp only at hbb; omega
 simp only at hsum hbs0
 have e1 : (2 : Int) ^ b' = ((2 ^ b' : Nat) : Int):=by simp
 have e2 : (2 : Int) ^ logC q = ((2 ^ logC q : Nat) : Int):=by simp
 have e3 : (g : Int) * 2 ^ b' = ((g * 2 ^ b' : Nat) : Int):=by simp
 have hbs2 : bs = ((g * 2 ^ b' : Nat) : Int) - ((2 ^ logC q : Nat) : Int):=by rw [<- e3,<- e2]; exact hbs
 rw [e1,e2] at hsum
 have hW : a0V q (bs + more) = g * 2 ^ b' + more:=by unfold a0V; omega
 have hgc : cntC q s * 2 ^ b' <= g * 2 ^ b':=Nat.mul_le_mul_right _ (by omega)
 have hgc2 : (g + 1) * 2 ^ b' <= 2 * cntC q s * 2 ^ b':=Nat.mul_le_mul_right _ (by omega)
 rw [Nat.add_mul,Nat.one_mul] at hgc2
 have hout : a0C q (bs + more) s = b':=by
  unfold a0C; rw [hW]
  exact a5s (by omega) (by have:=a1S (a1b q); have hbr : b' <= logC q:=by omega
                           omega) (by omega) (by omega)
 have hdiv : (g * 2 ^ b' + more) / 2 ^ b' = g:=by
  rw [Nat.add_comm,Nat.add_mul_div_right _ _ (Nat.two_pow_pos _),Nat.div_eq_of_lt hm]; omega
 refine ⟨by omega,by omega,by rw [e2]; omega,hout,?_,?_⟩
 · unfold a1r; rw [hW,hout,Nat.add_comm,Nat.add_mul_mod_self_right,Nat.mod_eq_of_lt hm]
 · unfold a1p; rw [hW,hout,hdiv]
   have:=c2g (l:=symsL q) (s:=s) (P:=P) (by rw [a3g hl]; exact hP) hs
   rw [hk] at this
   rw [show g - cntC q s = k by omega]; exact this
structure BitsP (ps : List Int) (left : Nat) (bs : List Bool) : Prop where
 len : bs.length = left
 at_ : ∀ i,i < left -> bitI ps i = (bs.getD i false).toNat
theorem a9b (v n i : Nat) (h : i < n) : (a0j v n).getD i false = decide (v / 2 ^ i % 2 = 1):=by
 unfold a0j
 rw [List.getD_eq_getElem?_getD,List.getElem?_map,List.getElem?_range h]; rfl
theorem a9c (v i : Nat) : (decide (v / 2 ^ i % 2 = 1)).toNat = v / 2 ^ i % 2:=by
 rcases Nat.mod_two_eq_zero_or_one (v / 2 ^ i) with e | e <;> rw [e] <;> rfl
theorem a6S {ps : List Int} {left n : Nat} {bs : List Bool} {v : Nat} (h : BitsP ps left (bs ++ a0j v n)) : BitsP ps (left - n) bs:=by
 have hl:=h.len
 rw [List.length_append,a0E] at hl
 refine ⟨by omega,λ i hi=>?_⟩
 rw [h.at_ i (by omega),List.getD_eq_getElem?_getD,List.getElem?_append_left (by omega),<- List.getD_eq_getElem?_getD]
theorem c2m {ps : List Int} {left n : Nat} {bs : List Bool} {v : Nat} (h : BitsP ps left (bs ++ a0j v n)) (hv : v < 2 ^ n) : ∀ j,j <= n -> takeV ps left j = v / 2 ^ (n - j):=by
 have hl:=h.len
 rw [List.length_append,a0E] at hl
 intro j
 induction j with
 | zero=>intro _; simp only [takeV,Nat.sub_zero]; rw [Nat.div_eq_of_lt hv]
 | succ j ih=>
  intro hj
  simp only [takeV]
  rw [ih (by omega),h.at_ (left - (j + 1)) (by omega),List.getD_eq_getElem?_getD,List.getElem?_append_right (by omega),<- List.getD_eq_getElem?_getD,a9b _ _ _ (by omega),a9c,
   show left - (j + 1) - bs.length = n - (j + 1) by omega,show n - j = n - (j + 1) + 1 by omega,Nat.pow_succ,<- Nat.div_div_eq_div_mul]
  omega
theorem a6T {ps : List Int} {left n : Nat} {bs : List Bool} {v : Nat} (h : BitsP ps left (bs ++ a0j v n)) (hv : v < 2 ^ n) : takeV ps left n = v /\ n <= left:=by
 have hl:=h.len
 rw [List.length_append,a0E] at hl
 have:=c2m h hv n (Nat.le_refl _)
 rw [Nat.sub_self,Nat.pow_zero,Nat.div_one] at this
 exact ⟨this,by omega⟩
theorem b3N (u n : Nat) : a0j u (n + 1) = decide (u % 2 = 1) :: a0j (u / 2) n:=by
 unfold a0j
 rw [List.range_succ_eq_map,List.map_cons,List.map_map]
 congr 1
 · simp
 · apply List.map_congr_left
   intro i _
   simp only [Function.comp,Nat.succ_eq_add_one]
   rw [Nat.pow_succ,Nat.mul_comm,<- Nat.div_div_eq_div_mul]
theorem b3O : ∀ l : List Bool,a0j (byteL l) l.length = l
 | []=>rfl
 | b :: l=>by
  rw [List.length_cons,b3N,byteL]
  have h1 : (b.toNat + 2 * byteL l) % 2 = b.toNat:=by have : b.toNat <= 1:=by cases b <;> decide
                                                      omega
  have h2 : (b.toNat + 2 * byteL l) / 2 = byteL l:=by have : b.toNat <= 1:=by cases b <;> decide
                                                      omega
  rw [h1,h2,b3O l]
  congr 1
  cases b <;> rfl
theorem a9d {ps : List Int} {left n : Nat} {bs : List Bool} (h : BitsP ps left bs) (hn : n <= left) : bs = bs.take (left - n) ++ a0j (takeV ps left n) n /\ BitsP ps (left - n) (bs.take (left - n)):=by
 have hl:=h.len
 have hd : (bs.drop (left - n)).length = n:=by rw [List.length_drop]; omega
 have e : bs = bs.take (left - n) ++ a0j (byteL (bs.drop (left - n))) n:=by
  have:=b3O (bs.drop (left - n))
  rw [hd] at this
  rw [this,List.take_append_drop]
 have h2:=h
 rw [e] at h2
 have hv:=a4e (bs.drop (left - n))
 rw [hd] at hv
 have ht:=a6T h2 hv
 rw [ht.1]
 exact ⟨e,a6S h2⟩
def qOf (one : Bool) (qs : List (List Int)) (last : Int) : List Int:=qs.getD (listI one last) []
def encT (one : Bool) (qs : List (List Int)) : Int -> Nat -> List Int -> (Int × Int) × List Bool
 | _,_,[]=>((0,0),[])
 | last,i,c :: z=>
  let r:=encT one qs c (i + 1) z
  let x:=pick2 (i % 2) r.1.1 r.1.2
  (set2 (i % 2) r.1.1 r.1.2 (a1p (qOf one qs last) x c),r.2 ++ a0j (a1r (qOf one qs last) x c) (a0C (qOf one qs last) x c))
def fitT (lg : Int) (one : Bool) (qs : List (List Int)) : Int -> List Int -> Prop
 | _,[]=>True
 | last,c :: z=>(logC (qOf one qs last) ≠ 0 /\ (logC (qOf one qs last) : Int) = lg /\ 0 <= c /\ c < 256 /\ 0 < cntC (qOf one qs last) c) /\ fitT lg one qs c z
theorem b3P {b : List Int} {i : Nat} (h : i + 1 < b.length) : ctxI b ((i + 1 : Nat) : Int) = b.getD i 0:=by
 unfold ctxI
 rw [if_neg (by omega),if_neg (by omega)]
 congr 1; omega
theorem c2n (one : Bool) (qs : List (List Int)) (b : List Int) : ∀ k,k <= b.length -> encN one qs b k = encT one qs (ctxI b ((b.length - k : Nat) : Int)) (b.length - k) (b.drop (b.length - k)):=by
 intro k
 induction k with
 | zero=>intro _; rw [Nat.sub_zero,List.drop_length]; rfl
 | succ k ih=>
  intro hk
  obtain ⟨i,hi⟩ : ∃ i,i = b.length - (k + 1):=⟨_,rfl⟩
  have hlt : i < b.length:=by omega
  have e1 : b.drop i = b.getD i 0 :: b.drop (i + 1):=by
   rw [List.drop_eq_getElem_cons hlt,List.getD_eq_getElem?_getD,List.getElem?_eq_getElem hlt]; rfl
  rw [<- hi,e1]
  simp only [encN,encT]
  rw [ih (by omega),show b.length - 1 - k = i by omega,show b.length - k = i + 1 by omega]
  have e2 : encT one qs (ctxI b ((i + 1 : Nat) : Int)) (i + 1) (b.drop (i + 1)) = encT one qs (b.getD i 0) (i + 1) (b.drop (i + 1)):=by
   by_cases h : i + 1 < b.length
   · rw [b3P h]
   · rw [List.drop_of_length_le (by omega)]; rfl
  rw [e2]
  unfold qAt qOf pick2 set2
  rfl
theorem b3Q (t : Nat) (x0 x1 y : Int) : pick2 t (set2 t x0 x1 y).1 (set2 t x0 x1 y).2 = y:=by unfold pick2 set2; split <;> rfl
theorem b3R (t : Nat) (x0 x1 y : Int) : set2 t (set2 t x0 x1 y).1 (set2 t x0 x1 y).2 (pick2 t x0 x1) = (x0,x1):=by unfold pick2 set2; split <;> rfl
theorem b3T {lg : Int} {one : Bool} {qs : List (List Int)} {ps : List Int} (hR : a0x lg one qs = true) : ∀ (n : Nat) (last : Int) (i left : Nat) (x0 x1 : Int) (out res : List Int) (bs : List Bool),(0 <= x0 /\ x0 < 2 ^ lg.toNat) -> (0 <= x1 /\ x1 < 2 ^ lg.toNat) -> BitsP ps left bs ->
    decGo one qs ps n i last x0 x1 left out = (0,res) -> ∃ z,res = out ++ z /\ z.length = n /\ fitT lg one qs last z /\ encT one qs last i z = ((x0,x1),bs)
 | 0,last,i,left,x0,x1,out,res,bs,h0,h1,hb,h=>by
  simp only [decGo] at h
  split at h
  · rename_i hz
    obtain ⟨rfl,rfl,rfl⟩:=hz
    have hbs : bs = []:=List.eq_nil_of_length_eq_zero hb.len
    subst hbs
    exact ⟨[],by simpa using (Prod.mk.inj h).2.symm,rfl,trivial,rfl⟩
  · exact absurd (Prod.mk.inj h).1 (by decide)
 | n + 1,last,i,left,x0,x1,out,res,bs,h0,h1,hb,h=>by
  have hrc:=a8X hR (listI one last)
  by_cases hz : (cellsOf (qs.getD (listI one last) [])).length = 0
  · rw [b3B hz] at h; exact absurd (Prod.mk.inj h).1 (by decide)
  · obtain ⟨hq1,hq2,hq3,hq4⟩:=hrc.resolve_left hz
    have hpr : 0 <= pick2 (i % 2) x0 x1 /\ pick2 (i % 2) x0 x1 < 2 ^ lg.toNat:=by
     unfold pick2; split
     · exact h0
     · exact h1
    obtain ⟨x,hx⟩ : ∃ x : Nat,pick2 (i % 2) x0 x1 = x:=⟨(pick2 (i % 2) x0 x1).toNat,by omega⟩
    have e2 : (2 : Int) ^ lg.toNat = ((2 ^ lg.toNat : Nat) : Int):=by simp
    have hlq : lg.toNat = logC (qOf one qs last):=by show _ = logC (qs.getD (listI one last) []); omega
    rw [hx,e2,hlq] at hpr
    have hP : x < 2 ^ logC (qOf one qs last):=by omega
    have hl1 : logC (qOf one qs last) ≠ 0:=hq1
    have hget : (cellsOf (qs.getD (listI one last) [])).getD x z3 = a1u (qOf one qs last) x:=by rw [hq3]; exact a8V hl1 x hP
    have hok:=a8W hl1 x hP
    obtain ⟨⟨sI,bI,bs0⟩,hce⟩ : ∃ t : K3,t = a1u (qOf one qs last) x:=⟨_,rfl⟩
    rw [<- hce] at hget hok
    obtain ⟨a1,a2,⟨b,a3,a4,a5⟩,a6,a7⟩:=hok
    simp only at a1 a2 a3 a4 a5 a6 a7
    subst a3
    obtain ⟨s,rfl⟩ : ∃ s : Nat,sI = s:=⟨sI.toNat,by omega⟩
    by_cases hle : b <= left
    · rw [a8Y hz hx hget hle] at h
      obtain ⟨hsp,hb2⟩:=a9d hb hle
      have hm:=a2N ps left b
      obtain ⟨more,hmore⟩ : ∃ m,m = takeV ps left b:=⟨_,rfl⟩
      rw [<- hmore] at h hsp hm
      obtain ⟨f1,f2,f3,f4,f5,f6⟩:=c2l hl1 hP hce.symm hm
      have hrange:=a8Z (t:=i % 2) (y:=bs0 + more) h0 h1 ⟨f2,by rw [hlq]; exact f3⟩
      obtain ⟨z,hz1,hz2,hz3,hz4⟩:=b3T hR n (s : Int) (i + 1) (left - b) _ _ _ _ _ hrange.1 hrange.2 hb2 h
      refine ⟨(s : Int) :: z,by rw [hz1,List.append_assoc]; rfl,by rw [List.length_cons,hz2],⟨⟨hl1,hq2,a1,a2,f1⟩,hz3⟩,?_⟩
      have hpk : pick2 (i % 2) (set2 (i % 2) x0 x1 (bs0 + more)).1 (set2 (i % 2) x0 x1 (bs0 + more)).2 = bs0 + more:=b3Q _ _ _ _
      simp only [encT,hz4]
      rw [hpk,f4,f5,f6,<- hsp,<- hx,b3R]
    · rw [b3C hz hx hget hle] at h; exact absurd (Prod.mk.inj h).1 (by decide)
theorem a4g (l : List Bool) : ∀ x ∈ packB l,0 <= x /\ x < 256:=by
 intro x hx
 unfold packB at hx
 obtain ⟨i,_,rfl⟩:=List.mem_map.1 hx
 have h1:=a4e ((l.drop (8 * i)).take 8)
 have h2 : 2 ^ ((l.drop (8 * i)).take 8).length <= 2 ^ 8:=Nat.pow_le_pow_right (by omega) (by rw [List.length_take]; omega)
 exact ⟨by omega,by omega⟩
theorem a9e {x m : Nat} (h1 : 2 ^ m <= x) (h2 : x < 2 ^ (m + 1)) (hx : x < 2 ^ 64) : Lib.bitLen x = m + 1:=by
 have h0 : 0 < x:=Nat.lt_of_lt_of_le (Nat.two_pow_pos _) h1
 obtain ⟨a,b,c⟩:=a3F x h0 hx
 have d : ¬ Lib.bitLen x <= m:=λ e=>by have:=Nat.pow_le_pow_right (n:=2) (by omega) e; omega
 have f : ¬ m + 1 <= Lib.bitLen x - 1:=λ e=>by have:=Nat.pow_le_pow_right (n:=2) (by omega) e; omega
 omega
theorem a6U (y k : Nat) : byteL (a0j y k) = y % 2 ^ k:=by
 induction k with
 | zero=>simp [a0j,byteL,Nat.mod_one]
 | succ k ih=>
  rw [b3h,a3h,ih,a0E,a9c,Nat.mod_pow_succ,Nat.mul_comm]
def bitsL (ps : List Int) : List Bool:=(List.range (a0R ps)).map (λ i=>decide (bitI ps i = 1))
theorem c2q (ps : List Int) : BitsP ps (a0R ps) (bitsL ps):=by
 refine ⟨by simp [bitsL],λ i hi=>?_⟩
 unfold bitsL
 rw [List.getD_eq_getElem?_getD,List.getElem?_map,List.getElem?_range hi]
 have:=a6P ps i
 show bitI ps i = (decide (bitI ps i = 1)).toNat
 rcases (by omega : bitI ps i = 0 \/ bitI ps i = 1) with e | e <;> rw [e] <;> rfl
theorem b3V {ps : List Int} {left : Nat} {bs : List Bool} (h : BitsP ps left bs) {i k : Nat} (_ : i < ps.length) (hk : k <= 8) (hl : 8 * i + k <= left) : (bs.drop (8 * i)).take k = a0j (ps.getD i 0).toNat k:=by
 have hlen:=h.len
 apply List.ext_getElem
 · rw [a0E,List.length_take,List.length_drop]; omega
 · intro j h1 h2
   rw [a0E] at h2
   have e1 : ((bs.drop (8 * i)).take k)[j] = bs.getD (8 * i + j) false:=by
    rw [List.getElem_take,List.getElem_drop,List.getD_eq_getElem?_getD,List.getElem?_eq_getElem (by omega)]; rfl
   have e2 : (a0j (ps.getD i 0).toNat k)[j]'(by rw [a0E]; exact h2) = decide ((ps.getD i 0).toNat / 2 ^ j % 2 = 1):=by
    have:=a9b (ps.getD i 0).toNat k j h2
    rw [List.getD_eq_getElem?_getD,List.getElem?_eq_getElem (by rw [a0E]; exact h2)] at this; exact this
   rw [e1,e2]
   have hb:=h.at_ (8 * i + j) (by omega)
   unfold bitI at hb
   rw [show (8 * i + j) / 8 = i by omega,show (8 * i + j) % 8 = j by omega] at hb
   rw [hb]
   cases bs.getD (8 * i + j) false <;> rfl
theorem c2r {ps : List Int} (hps : ∀ x ∈ ps,0 <= x /\ x < 256) (h : ¬ (ps.length = 0 \/ lastB ps = 0)) {bs : List Bool} (hb : BitsP ps (a0R ps) bs) : packB (bs ++ [true]) = ps:=by
 have hge : ∀ i,i < ps.length -> 0 <= ps.getD i 0 /\ ps.getD i 0 < 256:=λ i hi=>by
  rw [List.getD_eq_getElem?_getD,List.getElem?_eq_getElem hi]; exact hps _ (List.getElem_mem hi)
 obtain ⟨y,hy⟩ : ∃ y : Nat,lastB ps = y:=⟨(lastB ps).toNat,by unfold lastB; have:=hge (ps.length - 1) (by omega); omega⟩
 have hy256 : y < 256:=by unfold lastB at hy; have:=hge (ps.length - 1) (by omega); omega
 have hy0 : 0 < y:=by omega
 obtain ⟨l1,l2,l3⟩:=a3F y hy0 (by omega)
 have hl8:=Lib.bitLen_le8' (y : Int) (by omega) (by omega)
 rw [Int.toNat_natCast] at hl8
 have hbits : a0R ps = 8 * (ps.length - 1) + (Lib.bitLen y - 1):=by unfold a0R; rw [hy,Int.toNat_natCast]; omega
 have hlen:=hb.len
 apply List.ext_getElem
 · rw [a0z,List.length_append,List.length_singleton]; omega
 · intro i h1 h2
   rw [a1V]
   have hpi : ps[i] = ((ps.getD i 0).toNat : Int):=by
    have:=hge i h2
    rw [Int.toNat_of_nonneg this.1,List.getD_eq_getElem?_getD,List.getElem?_eq_getElem h2]; rfl
   rw [hpi]
   congr 1
   by_cases hi : i + 1 < ps.length
   · rw [List.drop_append_of_le_length (by omega),List.take_append_of_le_length (by rw [List.length_drop]; omega),b3V hb h2 (Nat.le_refl 8) (by omega),a6U]
     have:=(hge i h2).2
     exact Nat.mod_eq_of_lt (by omega)
   · have hie : i = ps.length - 1:=by omega
     have hyi : (ps.getD i 0).toNat = y:=by unfold lastB at hy; rw [hie,hy]; rfl
     have hdl : (bs.drop (8 * i)).length = Lib.bitLen y - 1:=by rw [List.length_drop]; omega
     have hlow:=b3V hb h2 (k:=Lib.bitLen y - 1) (by omega) (by omega)
     rw [List.take_of_length_le (by omega),hyi] at hlow
     rw [List.drop_append_of_le_length (by omega),List.take_of_length_le (by rw [List.length_append,hdl,List.length_singleton]; omega),a3h,hlow,a6U,a0E,hyi]
     show y % 2 ^ (Lib.bitLen y - 1) + 1 * 2 ^ (Lib.bitLen y - 1) = y
     have e : y / 2 ^ (Lib.bitLen y - 1) = 1:=by
      rw [Nat.div_eq_iff (Nat.two_pow_pos _)]
      have : 2 ^ Lib.bitLen y = 2 * 2 ^ (Lib.bitLen y - 1):=by rw [<- Nat.pow_succ']; congr 1; omega
      omega
     have:=Nat.div_add_mod y (2 ^ (Lib.bitLen y - 1))
     rw [e] at this; omega
theorem a4H (b : List Int) (i : Nat) (h : i < b.length) : b.drop i = b.getD i 0 :: b.drop (i + 1):=by
 rw [List.drop_eq_getElem_cons h,List.getD_eq_getElem?_getD,List.getElem?_eq_getElem h]; rfl
theorem b3W {lg : Int} {one : Bool} {qs : List (List Int)} {b : List Int} (i : Nat) (h : i < b.length) (l : Int) : (i + 1 < b.length -> l = ctxI b ((i + 1 : Nat) : Int)) -> (fitT lg one qs (b.getD i 0) (b.drop (i + 1)) ↔ fitT lg one qs l (b.drop (i + 1))):=by
 intro hl
 by_cases e : i + 1 < b.length
 · rw [hl e,b3P e]
 · rw [List.drop_of_length_le (by omega)]; exact Iff.rfl
theorem c2s {lg : Int} {one : Bool} {qs : List (List Int)} {b : List Int} (h : a0x lg one qs = true) (hf : fitT lg one qs (ctxI b 0) b) : fitsM lg one qs b = true /\ Bytes b:=by
 have key : ∀ k,k <= b.length -> fitT lg one qs (ctxI b (k : Nat)) (b.drop k) /\ ∀ i,i < k -> fitAt one qs b i = true /\ 0 <= b.getD i 0 /\ b.getD i 0 < 256:=by
  intro k
  induction k with
  | zero=>intro _; exact ⟨hf,λ i hi=>by omega⟩
  | succ k ih=>
   intro hk
   obtain ⟨h1,h2⟩:=ih (by omega)
   have hlt : k < b.length:=by omega
   rw [a4H b k hlt] at h1
   obtain ⟨⟨a1,a2,a3,a4,a5⟩,a6⟩:=h1
   refine ⟨(b3W k hlt _ (λ _=>rfl)).1 a6,λ i hi=>?_⟩
   by_cases e : i = k
   · subst e
     refine ⟨?_,a3,a4⟩
     have hg:=a1B a1
     obtain ⟨x,hx⟩ : ∃ x : Nat,b.getD i 0 = x:=⟨(b.getD i 0).toNat,by omega⟩
     rw [hx,a2L hg] at a5
     have:=(hg.get x).1
     have hlen:=hg.len
     unfold fitAt
     rw [decide_eq_true_eq]
     unfold qOf at hlen a5
     refine ⟨by omega,?_⟩
     rw [hx,Int.toNat_natCast]; omega
   · exact h2 i (by omega)
 obtain ⟨_,h2⟩:=key b.length (Nat.le_refl _)
 refine ⟨?_,λ x hx=>?_⟩
 · unfold fitsM
   rw [h,Bool.true_and,List.all_eq_true]
   exact λ i hi=>(h2 i (List.mem_range.1 hi)).1
 · obtain ⟨i,hi,rfl⟩:=List.getElem_of_mem hx
   have:=(h2 i hi).2
   rw [List.getD_eq_getElem?_getD,List.getElem?_eq_getElem hi] at this; exact this
theorem a5w (b : List Int) (h : 0 < b.length) : ctxI b 0 = 0:=by unfold ctxI; rw [if_neg (by omega),if_pos rfl]
theorem a9f (lg : Int) (one : Bool) (qs : List (List Int)) (b : List Int) : a0O lg one qs b = (encT one qs 0 0 b).2 ++ a0j (encT one qs 0 0 b).1.2.toNat lg.toNat ++ a0j (encT one qs 0 0 b).1.1.toNat lg.toNat:=by
 have e:=c2n one qs b b.length (Nat.le_refl _)
 rw [Nat.sub_self,List.drop_zero] at e
 have e2 : encT one qs (ctxI b ((0 : Nat) : Int)) 0 b = encT one qs 0 0 b:=by
  cases b with
  | nil=>rfl
  | cons c z=>rw [show ctxI (c :: z) ((0 : Nat) : Int) = 0 from a5w _ (by simp)]
 unfold a0O
 rw [e,e2]
theorem a6V {lg : Int} {one : Bool} {qs : List (List Int)} {ps z : List Int} {n : Int} (hps : ∀ x ∈ ps,0 <= x /\ x < 256) (h : decM lg one qs ps n = (0,z)) : canM lg one qs z = true /\ Bytes z /\ (z.length : Int) = n /\ ps = packB (a0O lg one qs z ++ [true]):=by
 unfold decM at h
 by_cases h1 : n < 0 \/ 131072 < n \/ a0x lg one qs = false
 · rw [if_pos h1] at h; exact absurd (Prod.mk.inj h).1 (by decide)
 · rw [if_neg h1] at h
   by_cases h2 : ps.length = 0 \/ lastB ps = 0
   · rw [if_pos h2] at h; exact absurd (Prod.mk.inj h).1 (by decide)
   · rw [if_neg h2] at h
     by_cases h3 : a0R ps < lg.toNat + lg.toNat
     · rw [if_pos h3] at h; exact absurd (Prod.mk.inj h).1 (by decide)
     · rw [if_neg h3] at h
       have hR : a0x lg one qs = true:=by
        cases hr : a0x lg one qs with
        | true=>rfl
        | false=>exact absurd (.inr (.inr hr)) h1
       have hB:=c2q ps
       obtain ⟨e0,hB0⟩:=a9d hB (n:=lg.toNat) (by omega)
       obtain ⟨e1,hB1⟩:=a9d hB0 (n:=lg.toNat) (by omega)
       have e2 : (2 : Int) ^ lg.toNat = ((2 ^ lg.toNat : Nat) : Int):=by simp
       have v0:=a2N ps (a0R ps) lg.toNat
       have v1:=a2N ps (a0R ps - lg.toNat) lg.toNat
       obtain ⟨y,hy1,hy2,hy3,hy4⟩:=b3T hR n.toNat 0 0 _ _ _ [] z _ ⟨by omega,by rw [e2]; omega⟩ ⟨by omega,by rw [e2]; omega⟩ hB1 h
       rw [List.nil_append] at hy1
       subst hy1
       have hF0 : fitT lg one qs (ctxI z 0) z:=by
        cases z with
        | nil=>trivial
        | cons c y=>rw [a5w _ (by simp)]; exact hy3
       obtain ⟨hf1,hf2⟩:=c2s hR hF0
       refine ⟨?_,hf2,by omega,?_⟩
       · unfold canM; rw [hf1,Bool.and_true,decide_eq_true_eq]; omega
       · have hE:=a9f lg one qs z
         rw [hy4] at hE
         simp only [Int.toNat_natCast] at hE
         rw [<- e1,<- e0] at hE
         rw [hE]
         exact (c2r hps h2 hB).symm
def runB : Nat -> List Bool
 | 0=>a0j 0 2
 | 1=>a0j 1 2
 | 2=>a0j 2 2
 | n + 3=>a0j 3 2 ++ runB n
def a0M (q : List Int) (s : Nat) : Nat:=((q.drop s).takeWhile (λ x=>decide (x = 0))).length
def hdrB (q : List Int) : Nat -> Nat -> Nat -> List Bool
 | 0,_,_=>[]
 | d + 1,s,left=>if left = 0 then [] else
  a0j (q.getD s 0).toNat (Lib.bitLen left) ++ (if q.getD s 0 = 0 then runB (a0M q (s + 1)) ++ hdrB q d (s + 1 + a0M q (s + 1)) left else hdrB q d (s + 1) (left - (q.getD s 0).toNat))
def takeF (ps : List Int) (at_ n : Nat) : Nat:=byteL ((List.range n).map (λ i=>decide (bitI ps (at_ + i) = 1)))
def runT (ps : List Int) (T : Nat) : Nat -> Nat -> Nat -> Nat -> Int × Nat × Nat
 | 0,_,_,_=>(3,0,0)
 | f + 1,at_,n,most=>if T < at_ + 2 then (3,0,0) else if most < n + takeF ps at_ 2 then (13,0,0) else if takeF ps at_ 2 = 3 then runT ps T f (at_ + 2) (n + 3) most else (0,n + takeF ps at_ 2,at_ + 2)
def hdrT (ps : List Int) (T : Nat) : Nat -> List Int -> Nat -> Nat -> Bool -> Nat -> Int × List Int × Nat
 | 0,q,_,_,_,_=>(13,q,0)
 | d + 1,q,s,left,again,at_=>if left = 0 then (0,q,at_) else if s = 256 then (13,q,0) else
  if T < at_ + Lib.bitLen left then (3,q,0) else if left < takeF ps at_ (Lib.bitLen left) then (13,q,0) else if again = true /\ takeF ps at_ (Lib.bitLen left) = 0 then (13,q,0) else
  if takeF ps at_ (Lib.bitLen left) = 0 then (if s + 1 = 256 then (13,q,0) else if (runT ps T 100 (at_ + Lib.bitLen left) 0 (254 - s)).1 ≠ 0 then ((runT ps T 100 (at_ + Lib.bitLen left) 0 (254 - s)).1,q,0) else
   hdrT ps T d (q.set s 0) (s + 1 + (runT ps T 100 (at_ + Lib.bitLen left) 0 (254 - s)).2.1) left true (runT ps T 100 (at_ + Lib.bitLen left) 0 (254 - s)).2.2)
  else hdrT ps T d (q.set s (takeF ps at_ (Lib.bitLen left) : Nat)) (s + 1) (left - takeF ps at_ (Lib.bitLen left)) false (at_ + Lib.bitLen left)
theorem a6X {n : Nat} (h : n < 3) : runB n = a0j n 2:=by
 have : n = 0 \/ n = 1 \/ n = 2:=by omega
 rcases this with rfl | rfl | rfl <;> rfl
theorem a6Y {n : Nat} (h : 3 <= n) : runB n = a0j 3 2 ++ runB (n - 3):=by
 obtain ⟨m,rfl⟩ : ∃ m,n = m + 3:=⟨n - 3,by omega⟩
 rw [Nat.add_sub_cancel]; rfl
theorem a6Z (n : Nat) : (runB n).length = 2 * (n / 3 + 1):=by
 induction n using Nat.strongRecOn with
 | _ n ih=>
  by_cases h : n < 3
  · rw [a6X h,a0E]; omega
  · rw [a6Y (by omega),List.length_append,a0E,ih (n - 3) (by omega)]; omega
theorem a1y {c : List Int} {i : Nat} (h : i < c.length) : c.getD i 0 ∈ c:=by
 rw [List.getD_eq_getElem?_getD,List.getElem?_eq_getElem h]; exact List.getElem_mem h
theorem a5x {q : List Int} {s : Nat} (h : s < q.length) : (q.drop s).sum = q.getD s 0 + (q.drop (s + 1)).sum:=by
 rw [a4H q s h,List.sum_cons]
theorem a7a {q : List Int} (hq : ∀ x ∈ q,0 <= x) (s : Nat) : 0 <= (q.drop s).sum:=a2I (λ x hx=>hq x (List.mem_of_mem_drop hx))
theorem a4I (q : List Int) (t : Nat) (ht : t <= q.length) : t + a0M q t <= q.length /\ (∀ k,k < a0M q t -> q.getD (t + k) 0 = 0) /\ (t + a0M q t < q.length -> q.getD (t + a0M q t) 0 ≠ 0):=by
 have key : ∀ (d t : Nat),t + d = q.length -> t + a0M q t <= q.length /\ (∀ k,k < a0M q t -> q.getD (t + k) 0 = 0) /\ (t + a0M q t < q.length -> q.getD (t + a0M q t) 0 ≠ 0):=by
  intro d
  induction d with
  | zero=>
   intro t h
   have : a0M q t = 0:=by unfold a0M; rw [List.drop_of_length_le (by omega)]; rfl
   rw [this]
   exact ⟨by omega,λ k hk=>by omega,λ h2=>by omega⟩
  | succ d ih=>
   intro t h
   have hd:=a4H q t (by omega)
   obtain ⟨h1,h2,h3⟩:=ih (t + 1) (by omega)
   by_cases h0 : q.getD t 0 = 0
   · have e : a0M q t = a0M q (t + 1) + 1:=by
       unfold a0M; rw [hd,List.takeWhile_cons,if_pos (decide_eq_true h0),List.length_cons]
     rw [e]
     refine ⟨by omega,λ k hk=>?_,λ h4=>?_⟩
     · cases k with
       | zero=>exact h0
       | succ k=>have:=h2 k (by omega); rw [show t + (k + 1) = t + 1 + k by omega]; exact this
     · rw [show t + (a0M q (t + 1) + 1) = t + 1 + a0M q (t + 1) by omega]
       exact h3 (by omega)
   · have e : a0M q t = 0:=by
       unfold a0M; rw [hd,List.takeWhile_cons,if_neg (by simp only [decide_eq_true_eq]; exact h0)]; rfl
     rw [e]
     exact ⟨by omega,λ k hk=>by omega,λ _=>h0⟩
 exact key (q.length - t) t (by omega)
theorem a7b {q : List Int} {t : Nat} (ht : t <= q.length) : ∀ z,z <= a0M q t -> (q.drop t).sum = (q.drop (t + z)).sum:=by
 obtain ⟨h1,h2,_⟩:=a4I q t ht
 intro z
 induction z with
 | zero=>intro _; rfl
 | succ z ih=>
  intro hz
  rw [ih (by omega),a5x (by omega),h2 z (by omega),Int.zero_add]; rfl
theorem a4J (l : List Int) (s k : Nat) (x : Int) (hs : s < l.length) : (l.set s x).getD k 0 = if k = s then x else l.getD k 0:=by
 rw [List.getD_eq_getElem?_getD,List.getElem?_set]
 by_cases h : s = k
 · subst h; rw [if_pos rfl,if_pos hs,if_pos rfl]; rfl
 · rw [if_neg h,if_neg (λ e=>h e.symm),<- List.getD_eq_getElem?_getD]
def a1H (x : Nat) : Nat:=(x / 2) ^^^ (3988292384 * (x % 2))
def stepN : Nat -> Nat -> Nat
 | 0,x=>x
 | n + 1,x=>stepN n (a1H x)
def a2w (i : Nat) : Nat:=stepN 8 i
def a1D (x c : Nat) : Nat:=(x / 256) ^^^ a2w ((x % 256) ^^^ c)
def crcS (x : Nat) : List Int -> Nat
 | []=>x
 | c :: l=>crcS (a1D x c.toNat) l
def a0W (sum : Nat) (l : List Int) : Nat:=4294967295 - crcS (4294967295 - sum) l
theorem xor_zero {a b : Nat} (h : a ^^^ b = 0) : a = b:=by
 have:=congrArg (λ z=>z ^^^ b) h
 simp only [Nat.xor_assoc,Nat.xor_self,Nat.xor_zero,Nat.zero_xor] at this
 exact this
theorem b4b (a b : Nat) : (a ^^^ b) / 2 = a / 2 ^^^ b / 2:=by
 have:=Nat.shiftRight_xor_distrib (a:=a) (b:=b) (i:=1)
 simpa [Nat.shiftRight_eq_div_pow] using this
theorem b4c (a b : Nat) : (a ^^^ b) % 2 = (a % 2) ^^^ (b % 2):=by
 have:=Nat.xor_mod_two_pow (a:=a) (b:=b) (n:=1)
 simpa using this
theorem c2C (a b : Nat) : a1H (a ^^^ b) = a1H a ^^^ a1H b:=by
 unfold a1H
 rw [b4b,b4c]
 rcases Nat.mod_two_eq_zero_or_one a with ha | ha <;> rcases Nat.mod_two_eq_zero_or_one b with hb | hb <;> rw [ha,hb]
 · simp
 · simp [Nat.xor_assoc]
 · simp only [Nat.mul_zero,Nat.xor_zero,Nat.mul_one,show (1 : Nat) ^^^ 0 = 1 from rfl]
   rw [Nat.xor_assoc,Nat.xor_assoc,Nat.xor_comm (b / 2)]
 · simp only [Nat.mul_one,show (1 : Nat) ^^^ 1 = 0 from rfl,Nat.mul_zero,Nat.xor_zero]
   rw [Nat.xor_assoc,Nat.xor_comm (3988292384) (b / 2 ^^^ 3988292384),Nat.xor_assoc,Nat.xor_self,Nat.xor_zero]
theorem a4K : ∀ (n a b : Nat),stepN n (a ^^^ b) = stepN n a ^^^ stepN n b
 | 0,_,_=>rfl
 | n + 1,a,b=>by unfold stepN; rw [c2C]; exact a4K n _ _
theorem a4L : ∀ (m n a : Nat),stepN (m + n) a = stepN n (stepN m a)
 | 0,n,a=>by rw [Nat.zero_add]; rfl
 | m + 1,n,a=>by rw [show m + 1 + n = (m + n) + 1 by omega]; show stepN (m + n) _ = stepN n (stepN m _); exact a4L m n _
theorem b4d {x : Nat} (h : x < 2 ^ 32) : a1H x < 2 ^ 32:=by
 unfold a1H
 refine Nat.xor_lt_two_pow (by omega) ?_
 rcases Nat.mod_two_eq_zero_or_one x with e | e <;> rw [e] <;> decide
theorem a5y : ∀ (n : Nat) {x : Nat},x < 2 ^ 32 -> stepN n x < 2 ^ 32
 | 0,_,h=>h
 | n + 1,_,h=>a5y n (b4d h)
theorem a5z : ∀ (k h : Nat),stepN k (2 ^ k * h) = h
 | 0,h=>by simp [stepN]
 | k + 1,h=>by
  have e : a1H (2 ^ (k + 1) * h) = 2 ^ k * h:=by
   unfold a1H
   have e1 : 2 ^ (k + 1) * h = 2 * (2 ^ k * h):=by rw [Nat.pow_succ,Nat.mul_comm (2 ^ k) 2,Nat.mul_assoc]
   rw [e1,Nat.mul_div_cancel_left _ (by omega),Nat.mul_mod_right,Nat.mul_zero,Nat.xor_zero]
  show stepN k (a1H _) = h
  rw [e]; exact a5z k h
theorem c2E (x : Nat) : x = 2 ^ 8 * (x / 256) ^^^ x % 256:=by
 apply Nat.eq_of_testBit_eq
 intro i
 have e1 : x % 256 = x % 2 ^ 8:=rfl
 have e2 : x / 256 = x / 2 ^ 8:=rfl
 rw [e1,e2,Nat.testBit_xor,Nat.testBit_two_pow_mul,Nat.testBit_mod_two_pow,Nat.testBit_div_two_pow]
 by_cases h : i < 8
 · have h2 : ¬ i >= 8:=by omega
   simp [h,h2]
 · have h2 : i >= 8:=by omega
   simp [h,h2]
theorem a4M {x c : Nat} : a1D x c = stepN 8 (x ^^^ c):=by
 unfold a1D a2w
 conv=>rhs; rw [c2E x,Nat.xor_assoc,a4K,a5z]
theorem c2F {x c : Nat} (hx : x < 2 ^ 32) (hc : c < 256) : a1D x c < 2 ^ 32:=by
 rw [a4M]; exact a5y 8 (Nat.xor_lt_two_pow hx (by omega))
theorem a3I : ∀ (l : List Int) {x : Nat},x < 2 ^ 32 -> Bytes l -> crcS x l < 2 ^ 32
 | [],_,hx,_=>hx
 | c :: l,_,hx,hl=>by
  have hc:=hl c (by simp)
  exact a3I l (c2F hx (by omega)) (λ y hy=>hl y (by simp [hy]))
theorem a7c : ∀ (a b : List Int) (x : Nat),crcS x (a ++ b) = crcS (crcS x a) b
 | [],_,_=>rfl
 | _ :: a,b,_=>a7c a b _
theorem b4f (s : Nat) (l : List Int) : a0W s l <= 4294967295:=by unfold a0W; omega
open Go.IntWalk Go.Proofs.YtflfjpkmjnnodaaGreatW.PrintWords
def c4a (bs : List Bool) (w : World) (e : Ending) (w' : World) : Prop:=∃ v,e = .returned v /\ (Kd.int .u8).R 5 w' w.heap.size (λ _=>True) v (packB bs) /\ Below w.heap.size w w'
set_option maxRecDepth 100000 in
theorem a7x (base p : Nat) (v0 : Value) (bs : List Bool) (w : World) (h : WrVal w base p v0 bs) (hl : bs.length <= 900000) :
    Calls Tryz.prog 154 #[.pointer (some ⟨p,0,none⟩)] w (c4a bs w):=by
 have hc0 : w.cell? ⟨p,0,none⟩ = some v0:=(a0a h.blk 0).trans rfl
 obtain ⟨A,c,rfl⟩:=Kd.R_slice h.row
 have HR:=Lib.hid (Kd.R_reads' h.row)
 have HNil : Hid (A = none -> c = 0):=λ e=>by subst e; exact b3p h.row
 have HL : Hid ((packB bs).length <= 1000000):=by show _ <= _; rw [a0z]; omega
 clear h hl
 go_enter Tryz.func154,Tryz.ntmps154
 go_wp2_with fail
 refine (a6O _ _ _ _ HR.out.2.2 HL.out HR.out.2.1 HNil.out).mono ?_
 rintro e w' ⟨v,rfl,hv,hb⟩
 have H:=Lib.hid (And.intro hv hb)
 clear hv hb
 go_wp2_with fail
 go_ret
 exact ⟨v,rfl,H.out.1,H.out.2⟩
set_option maxRecDepth 100000 in
theorem a5F (x a b : Int) (w : World) : Calls Tryz.prog 209 #[.int .i64 x,.int .i64 a,.int .i64 b] w λ e w'=>e = .returned (.bool (decide (a <= x /\ x <= b))) /\ w = w':=by
 by_cases h : a <= x
 · have e : decide (a <= x /\ x <= b) = decide (x <= b):=by simp [h]
   rw [e]
   go_enter Tryz.func209,Tryz.ntmps209
   go_wp2_with fail
   go_ret
   exact ⟨rfl,rfl⟩
 · have e : decide (a <= x /\ x <= b) = false:=by simp [h]
   rw [e]
   go_enter Tryz.func209,Tryz.ntmps209
   go_wp2_with fail
   go_ret
   exact ⟨rfl,rfl⟩
set_option maxRecDepth 100000 in
theorem c4b (v left : Nat) (w : World) (h1 : 1 <= left) (h2 : left <= 4096) (h3 : v <= left) : Calls Tryz.prog 238 #[.int .i64 v,.int .i64 left] w λ e w'=>e = .returned (.int .i64 (Lib.bitLen left)) /\ w = w':=by
 have d1 : decide ((1 : Int) <= (left : Int) /\ (left : Int) <= 4096) = true:=decide_eq_true (by omega)
 have d2 : decide ((0 : Int) <= (v : Int) /\ (v : Int) <= (left : Int)) = true:=decide_eq_true (by omega)
 have D:=Lib.hid (And.intro d1 d2)
 clear d1 d2
 go_enter Tryz.func238,Tryz.ntmps238
 go_wp2_with fail
 refine (a5F _ _ _ _).mono ?_
 rw [D.out.1]
 rintro e w' ⟨rfl,rfl⟩
 go_wp2_with fail
 refine (a5F _ _ _ _).mono ?_
 rw [D.out.2]
 rintro e w' ⟨rfl,rfl⟩
 go_wp2_with fail
 refine (a5r _ _ (by omega)).mono ?_
 rintro e w' ⟨rfl,rfl⟩
 go_wp2_with fail
 go_ret
 exact ⟨rfl,rfl⟩
theorem a9x {left : Nat} (h1 : 1 <= left) (h2 : left <= 4096) : 1 <= Lib.bitLen left /\ Lib.bitLen left <= 13:=by
 have h:=a3F left (by omega) (by omega)
 refine ⟨h.1,?_⟩
 refine Classical.byContradiction λ hn=>?_
 have : 2 ^ 13 <= 2 ^ (Lib.bitLen left - 1):=Nat.pow_le_pow_right (by omega) (by omega)
 omega
set_option maxRecDepth 100000 in
set_option maxHeartbeats 400000 in
theorem c4c (base p : Nat) (v0 : Value) (bs : List Bool) (v left : Nat) (w : World) (h : WrVal w base p v0 bs) (hB : base <= w.heap.size) (hl : bs.length <= 900000) (h1 : 1 <= left) (h2 : left <= 4096) (h3 : v <= left) :
    Calls Tryz.prog 205 #[.pointer (some ⟨p,0,none⟩),.int .i64 v,.int .i64 left] w λ e w'=>e = .returned (.bool true) /\ PutRel base p v0 (bs ++ a0j v (Lib.bitLen left)) w w':=by
 have HH:=Lib.hid (And.intro h (And.intro hB hl))
 obtain ⟨b1,b2⟩:=a9x h1 h2
 obtain ⟨n,hn⟩ : ∃ n,n = Lib.bitLen left:=⟨_,rfl⟩
 rw [<- hn] at b1 b2 ⊢
 have HN:=Lib.hid hn
 have hd : decide ((0 : Int) < (n : Int)) = true:=decide_eq_true (by omega)
 clear h hB hl hn
 go_enter Tryz.func205,Tryz.ntmps205
 go_wp2_with fail
 refine (c4b v left _ h1 h2 h3).mono ?_
 rw [<- HN.out]
 rintro e w' ⟨rfl,rfl⟩
 go_wp2_with fail
 refine (a2e base p v0 bs v n w HH.out.1 HH.out.2.1 HH.out.2.2 (by omega) (by omega)).mono ?_
 rintro e w' ⟨rfl,hp⟩
 have HP:=Lib.hid hp
 clear hp
 go_wp2_with fail
 go_ret
 exact ⟨rfl,HP.out⟩
set_option maxRecDepth 100000 in
theorem c4d (n : Nat) (w : World) (h : n <= 255) : Calls Tryz.prog 239 #[.int .i64 n] w λ e w'=>e = .returned (.int .i64 ((2 * (n / 3 + 1) : Nat) : Int)) /\ w = w':=by
 have h0 : ¬ (n : Int) < 0:=by omega
 have h1 : ¬ 255 < (n : Int):=by omega
 obtain ⟨m,hm⟩ : ∃ m,m = n / 3:=⟨_,rfl⟩
 have hm2 : (n : Int) / 3 = (m : Int):=by omega
 have hm3 : m <= 85:=by omega
 rw [<- hm]
 clear hm
 go_enter Tryz.func239,Tryz.ntmps239
 go_wp2_with fail
 go_ret
 exact ⟨a1F (by omega),rfl⟩
set_option maxRecDepth 100000 in
set_option maxHeartbeats 400000 in
theorem c4e (base p : Nat) (v0 : Value) (bs : List Bool) (n : Nat) (w : World) (h : WrVal w base p v0 bs) (hB : base <= w.heap.size) (hl : bs.length <= 890000) (hn : n <= 255) :
    Calls Tryz.prog 207 #[.pointer (some ⟨p,0,none⟩),.int .i64 n] w λ e w'=>e = .returned (.bool true) /\ PutRel base p v0 (bs ++ runB n) w w':=by
 have HH:=Lib.hid (And.intro h (And.intro hB hl))
 have HRl : Hid ((runB n).length <= 172):=by show _ <= _; rw [a6Z]; omega
 have hc0 : (((2 * (n / 3 + 1) : Nat) : Int) == 0) = false:=beq_eq_false_iff_ne.2 (by omega)
 obtain ⟨cst,hcst⟩ : ∃ c : Int,c = ((2 * (n / 3 + 1) : Nat) : Int):=⟨_,rfl⟩
 rw [<- hcst] at hc0
 have HC:=Lib.hid hcst
 clear h hB hl hcst
 go_enter Tryz.func207,Tryz.ntmps207
 go_wp2_with fail
 refine (c4d n _ hn).mono ?_
 rw [<- HC.out]
 rintro e w' ⟨rfl,rfl⟩
 go_wp2_with fail
 go_loopw [1] (λ mv wr=>∃ (m : Nat),mv = .int .i64 m /\ m <= n /\ Hid (∃ bs',PutRel base p v0 bs' w wr /\ bs' ++ runB m = bs ++ runB n)) (λ mv _=>(intOf mv).toNat)
 case atStart=>exact ⟨n,rfl,Nat.le_refl _,bs,⟨v0,HH.out.1,.inl rfl,Only.refl _ _⟩,rfl⟩
 case round=>
  obtain ⟨m,rfl,hm,H⟩:=hrel
  obtain ⟨bs',⟨v1,k1,k2,k3⟩,hbs⟩:=H.out
  have hbl : bs'.length <= 900000:=by
   have:=congrArg List.length hbs
   rw [List.length_append,List.length_append] at this
   have:=HRl.out; have:=HH.out.2.2; omega
  have HK:=Lib.hid (And.intro k1 (And.intro k2 k3))
  have HBS:=Lib.hid (And.intro hbs hbl)
  have HB1 : Hid (base <= wr.heap.size):=Nat.le_trans HH.out.2.1 k3.size
  clear k1 k2 k3 hbs hbl H
  by_cases h3 : 3 <= m
  · go_wp2_with fail
    refine (a2e base p v1 bs' 3 2 wr HK.out.1 HB1.out HBS.out.2 (by decide) (by decide)).mono ?_
    rintro e w1 ⟨rfl,hp⟩
    have HP : Hid (∃ bs'',PutRel base p v0 bs'' w w1 /\ bs'' ++ runB (m - 3) = bs ++ runB n):=by
     refine ⟨bs' ++ a0j 3 2,PutRel.trans HK.out hp,?_⟩
     rw [List.append_assoc,<- a6Y h3]; exact HBS.out.1
    clear hp
    obtain ⟨m',hm'⟩ : ∃ m',m = m' + 3:=⟨m - 3,by omega⟩
    subst hm'
    rw [Nat.add_sub_cancel] at HP
    have hmm : ((m' + 3 : Nat) : Int) - 3 = (m' : Int):=by omega
    go_wp2_with fail
    go_roundw
    case rel=>exact ⟨m',by first | rfl | (congr 1; omega),by omega,HP⟩
    case measure=>simp [intOf]; omega
  · have hr:=a6X (n:=m) (by omega)
    have HR:=Lib.hid hr
    clear hr
    go_wp2_with fail
    refine (a2e base p v1 bs' m 2 wr HK.out.1 HB1.out HBS.out.2 (by omega) (by decide)).mono ?_
    rintro e w1 ⟨rfl,hp⟩
    have HP : Hid (PutRel base p v0 (bs ++ runB n) w w1):=by
     have:=PutRel.trans HK.out hp
     rw [<- HR.out,HBS.out.1] at this; exact this
    clear hp
    go_wp2_with fail
    go_ret
    exact ⟨rfl,HP.out⟩
end Go.Proofs.YtflfjpkmjnnodaaGreat
namespace Go.Proofs.YtflfjpkmjnnodaaGreat
open Go.RowKit
def a0G : List Int:=List.replicate 256 0
def a0D (ps : List Int) : Int × Nat × List Int × List Int:=
 if ps.length = 0 then (3,0,[],[]) else if (ps.getD 0 0).toNat < 5 \/ 11 < (ps.getD 0 0).toNat then (13,0,[],[]) else
 let h:=hdrT ps (8 * ps.length) 257 a0G 0 (2 ^ (ps.getD 0 0).toNat) false 8
 if h.1 ≠ 0 then (h.1,0,[],[]) else if h.2.2 % 8 ≠ 0 /\ (ps.getD (h.2.2 / 8) 0).toNat / 2 ^ (h.2.2 % 8) ≠ 0 then (4,0,[],[]) else
 (0,(ps.getD 0 0).toNat,h.2.1,ps.drop ((h.2.2 + 7) / 8))
def headB (r : Nat) (q : List Int) : List Bool:=a0j r 8 ++ hdrB q 257 0 (2 ^ r)
theorem a3K {q : List Int} {r : Nat} (hr12 : r <= 12) (hq : q.length = 256) (hn : ∀ x ∈ q,0 <= x) : ∀ (d s left : Nat),s <= 256 -> (q.drop s).sum = left -> left < 2 ^ (r + 1) -> (hdrB q d s left).length <= (256 - s) * (r + 3):=by
 intro d
 induction d with
 | zero=>intro s left _ _ _; simp [hdrB]
 | succ d ih=>
  intro s left h1 h2 h3
  simp only [hdrB]
  by_cases h0 : left = 0
  · rw [if_pos h0]; simp
  · rw [if_neg h0,List.length_append,a0E]
    have hs : s < 256:=by
     by_cases e : s < 256
     · exact e
     · exfalso; rw [List.drop_of_length_le (by omega)] at h2; simp at h2; omega
    have hsum:=a5x (q:=q) (s:=s) (by omega)
    have hrest:=a7a hn (s + 1)
    have hv0 : 0 <= q.getD s 0:=hn _ (a1y (by omega))
    have hw : Lib.bitLen left <= r + 1:=by
     have hc : ¬ r + 2 <= Lib.bitLen left:=λ e=>by
      have h64 : left < 2 ^ 64:=Nat.lt_of_lt_of_le h3 (Nat.pow_le_pow_right (by omega) (by omega))
      have h4:=(a3F left (by omega) h64).2.1
      have h5 : 2 ^ (r + 1) <= 2 ^ (Lib.bitLen left - 1):=Nat.pow_le_pow_right (by omega) (by omega)
      generalize 2 ^ (r + 1) = A at *
      generalize 2 ^ (Lib.bitLen left - 1) = B at *
      omega
     omega
    by_cases hv2 : q.getD s 0 = 0
    · rw [if_pos hv2,List.length_append,a6Z]
      have hs1 : s + 1 <= q.length:=by omega
      obtain ⟨z1,_,_⟩:=a4I q (s + 1) hs1
      have zs:=a7b (q:=q) hs1 (a0M q (s + 1)) (Nat.le_refl _)
      obtain ⟨z,hz⟩ : ∃ z,z = a0M q (s + 1):=⟨_,rfl⟩
      rw [<- hz] at z1 zs ⊢
      have:=ih (s + 1 + z) left (by omega) (by omega) h3
      obtain ⟨m,hm⟩ : ∃ m,m = 256 - (s + 1 + z):=⟨_,rfl⟩
      rw [<- hm] at this
      rw [show 256 - s = m + (z + 1) by omega,Nat.add_mul,Nat.add_mul,Nat.one_mul]
      have h7 : z * 3 <= z * (r + 3):=Nat.mul_le_mul_left z (by omega)
      omega
    · rw [if_neg hv2]
      have:=ih (s + 1) (left - (q.getD s 0).toNat) (by omega) (by omega) (by omega)
      obtain ⟨m,hm⟩ : ∃ m,m = 256 - (s + 1):=⟨_,rfl⟩
      rw [<- hm] at this
      rw [show 256 - s = m + 1 by omega,Nat.add_mul,Nat.one_mul]
      omega
open Go.IntWalk Go.Proofs.YtflfjpkmjnnodaaGreatW.PrintWords
structure RfAt (w : World) (base p : Nat) (ps : List Int) (at_ : Nat) : Prop where
 ex : ∃ A c,w.heap[p]? = some (.cells #[.slice A ps.length c,.int .i64 at_] 139 (0,0)) /\ (Kd.int .u8).R 5 w base (λ k=>k < p) (.slice A ps.length c) ps
theorem RfAt.drewN {w : World} {base p : Nat} {ps : List Int} {at_ : Nat} (h : RfAt w base p ps at_) (m : Nat) : RfAt (w.drewN m) base p ps at_:=by
 obtain ⟨A,c,h1,h2⟩:=h.ex
 exact ⟨A,c,h1,Kd.R_below h2 (a0b (Below.refl _ _) m)⟩
theorem RfAt.store {w : World} {base p : Nat} {ps : List Int} {at_ : Nat} (h : RfAt w base p ps at_) (m : Nat) : RfAt (w.setCell ⟨p,1,none⟩ (.int .i64 (m : Int))) base p ps m:=by
 obtain ⟨A,c,h1,h2⟩:=h.ex
 refine ⟨A,c,?_,Kd.R_far (p:=⟨p,1,none⟩) h2 (λ k hk=>Nat.ne_of_lt hk) _⟩
 rw [a0u h1 1]; rfl
theorem RfAt.below {w w1 : World} {base p : Nat} {ps : List Int} {at_ : Nat} (h : RfAt w base p ps at_) (hb : Below w.heap.size w w1) : RfAt w1 base p ps at_:=by
 obtain ⟨A,c,h1,h2⟩:=h.ex
 exact ⟨A,c,a0i h1 hb,Kd.R_below h2 hb⟩
theorem RfAt.far {w : World} {base p : Nat} {ps : List Int} {at_ : Nat} (h : RfAt w base p ps at_) {g : Nat} (hg : p < g) (j : Nat) (u : Value) : RfAt (w.setCell ⟨g,j,none⟩ u) base p ps at_:=by
 obtain ⟨A,c,h1,h2⟩:=h.ex
 exact ⟨A,c,a1x h1 (p:=⟨g,j,none⟩) (by show p ≠ g; omega) u,Kd.R_far (p:=⟨g,j,none⟩) h2 (λ k hk=>by show k ≠ g; omega) u⟩
end Go.Proofs.YtflfjpkmjnnodaaGreat
namespace Go.Proofs.YtflfjpkmjnnodaaGreat
open Go.RowKit Go.Proofs.YtflfjpkmjnnodaaGreatW.PrintWords
def lessC (x y : K3) : Bool:=if x.2.1 ≠ y.2.1 then decide (y.2.1 < x.2.1) else if x.2.2 ≠ y.2.2 then decide (y.2.2 < x.2.2) else decide (x.1 < y.1)
def GC (_ : K3) : Prop:=True
theorem b5l {x y : K3} : lessC x y = true ↔ y.2.1 < x.2.1 \/ (y.2.1 = x.2.1 /\ (y.2.2 < x.2.2 \/ (y.2.2 = x.2.2 /\ x.1 < y.1))):=by
 unfold lessC
 by_cases h1 : x.2.1 = y.2.1
 · rw [if_neg (by omega)]
   by_cases h2 : x.2.2 = y.2.2
   · rw [if_neg (by omega),decide_eq_true_iff]; omega
   · rw [if_pos h2,decide_eq_true_iff]; omega
 · rw [if_pos h1,decide_eq_true_iff]; omega
theorem a7A {x y : K3} : lessC x y = false ↔ ¬ (y.2.1 < x.2.1 \/ (y.2.1 = x.2.1 /\ (y.2.2 < x.2.2 \/ (y.2.2 = x.2.2 /\ x.1 < y.1)))):=by
 rw [<- Bool.not_eq_true,b5l]
open HeapL in
theorem ordC : Ord lessC GC where
 asym a b _ _ h:=by
  rw [b5l] at h
  rw [a7A]; omega
 trans a b c _ _ _ h1 h2:=by
  rw [a7A] at h1 h2 ⊢
  omega
set_option maxRecDepth 100000 in
set_option maxHeartbeats 2000000 in
theorem b5m (A : Option Addr) (n c : Nat) (xs : List K3) (i j : Nat) (hi : i < n) (hj : j < n) (w : World) (h : k3.C w A n xs) :
    Calls Tryz.prog 293 #[.slice A n c,.int .i64 i,.int .i64 j] w (Ret (.bool (lessC (xs.getD i z3) (xs.getD j z3))) w):=by
 obtain ⟨ad,rfl,ci⟩:=k3_at h i hi
 obtain ⟨ad',e,cj⟩:=k3_at h j hj
 obtain rfl:=Option.some.inj e
 have hn:=h.2.1
 obtain ⟨x,hx⟩ : ∃ x,x = xs.getD i z3:=⟨_,rfl⟩
 obtain ⟨y,hy⟩ : ∃ x,x = xs.getD j z3:=⟨_,rfl⟩
 rw [<- hx] at ci ⊢
 rw [<- hy] at cj ⊢
 clear hx hy h e
 obtain ⟨a1,a2,a3⟩:=ci
 obtain ⟨b1,b2,b3⟩:=cj
 obtain ⟨s1,p1,q1⟩:=x
 obtain ⟨s2,p2,q2⟩:=y
 simp only [] at a1 a2 a3 b1 b2 b3
 have up1 : ∀ {a v} (o : Obj),w.cell? a = some v -> (w.alloc o).cell? a = some v:=λ o h=>a0t ((Below.refl _ _).alloc (Nat.le_refl _) _) h
 have up2 : ∀ {a v} (o o' : Obj),w.cell? a = some v -> ((w.alloc o).alloc o').cell? a = some v:=λ o o' h=>a0t (((Below.refl _ _).alloc (Nat.le_refl _) _).alloc (by simp) _) h
 have u0:=up1 (.cells #[.int .i64 0,.int .i64 0,.int .i64 0] 253) a1
 have u1:=up1 (.cells #[.int .i64 0,.int .i64 0,.int .i64 0] 253) a2
 have u2:=up1 (.cells #[.int .i64 0,.int .i64 0,.int .i64 0] 253) a3
 have u3:=up1 (.cells #[.int .i64 0,.int .i64 0,.int .i64 0] 253) b1
 have u4:=up1 (.cells #[.int .i64 0,.int .i64 0,.int .i64 0] 253) b2
 have u5:=up1 (.cells #[.int .i64 0,.int .i64 0,.int .i64 0] 253) b3
 have u6:=up1 (.cells #[.int .i64 s1,.int .i64 p1,.int .i64 q1] 253) a1
 have u7:=up1 (.cells #[.int .i64 s1,.int .i64 p1,.int .i64 q1] 253) a2
 have u8:=up1 (.cells #[.int .i64 s1,.int .i64 p1,.int .i64 q1] 253) a3
 have u9:=up1 (.cells #[.int .i64 s1,.int .i64 p1,.int .i64 q1] 253) b1
 have u10:=up1 (.cells #[.int .i64 s1,.int .i64 p1,.int .i64 q1] 253) b2
 have u11:=up1 (.cells #[.int .i64 s1,.int .i64 p1,.int .i64 q1] 253) b3
 have u12:=up1 (.cells #[.int .i64 s2,.int .i64 p2,.int .i64 q2] 253) a1
 have u13:=up1 (.cells #[.int .i64 s2,.int .i64 p2,.int .i64 q2] 253) a2
 have u14:=up1 (.cells #[.int .i64 s2,.int .i64 p2,.int .i64 q2] 253) a3
 have u15:=up1 (.cells #[.int .i64 s2,.int .i64 p2,.int .i64 q2] 253) b1
 have u16:=up1 (.cells #[.int .i64 s2,.int .i64 p2,.int .i64 q2] 253) b2
 have u17:=up1 (.cells #[.int .i64 s2,.int .i64 p2,.int .i64 q2] 253) b3
 have u18:=up2 (.cells #[.int .i64 0,.int .i64 0,.int .i64 0] 253) (.cells #[.int .i64 0,.int .i64 0,.int .i64 0] 253) a1
 have u19:=up2 (.cells #[.int .i64 0,.int .i64 0,.int .i64 0] 253) (.cells #[.int .i64 0,.int .i64 0,.int .i64 0] 253) a2
 have u20:=up2 (.cells #[.int .i64 0,.int .i64 0,.int .i64 0] 253) (.cells #[.int .i64 0,.int .i64 0,.int .i64 0] 253) a3
 have u21:=up2 (.cells #[.int .i64 0,.int .i64 0,.int .i64 0] 253) (.cells #[.int .i64 0,.int .i64 0,.int .i64 0] 253) b1
 have u22:=up2 (.cells #[.int .i64 0,.int .i64 0,.int .i64 0] 253) (.cells #[.int .i64 0,.int .i64 0,.int .i64 0] 253) b2
 have u23:=up2 (.cells #[.int .i64 0,.int .i64 0,.int .i64 0] 253) (.cells #[.int .i64 0,.int .i64 0,.int .i64 0] 253) b3
 have u24:=up2 (.cells #[.int .i64 s1,.int .i64 p1,.int .i64 q1] 253) (.cells #[.int .i64 0,.int .i64 0,.int .i64 0] 253) a1
 have u25:=up2 (.cells #[.int .i64 s1,.int .i64 p1,.int .i64 q1] 253) (.cells #[.int .i64 0,.int .i64 0,.int .i64 0] 253) a2
 have u26:=up2 (.cells #[.int .i64 s1,.int .i64 p1,.int .i64 q1] 253) (.cells #[.int .i64 0,.int .i64 0,.int .i64 0] 253) a3
 have u27:=up2 (.cells #[.int .i64 s1,.int .i64 p1,.int .i64 q1] 253) (.cells #[.int .i64 0,.int .i64 0,.int .i64 0] 253) b1
 have u28:=up2 (.cells #[.int .i64 s1,.int .i64 p1,.int .i64 q1] 253) (.cells #[.int .i64 0,.int .i64 0,.int .i64 0] 253) b2
 have u29:=up2 (.cells #[.int .i64 s1,.int .i64 p1,.int .i64 q1] 253) (.cells #[.int .i64 0,.int .i64 0,.int .i64 0] 253) b3
 have u30:=up2 (.cells #[.int .i64 0,.int .i64 0,.int .i64 0] 253) (.cells #[.int .i64 s1,.int .i64 p1,.int .i64 q1] 253) a1
 have u31:=up2 (.cells #[.int .i64 0,.int .i64 0,.int .i64 0] 253) (.cells #[.int .i64 s1,.int .i64 p1,.int .i64 q1] 253) a2
 have u32:=up2 (.cells #[.int .i64 0,.int .i64 0,.int .i64 0] 253) (.cells #[.int .i64 s1,.int .i64 p1,.int .i64 q1] 253) a3
 have u33:=up2 (.cells #[.int .i64 0,.int .i64 0,.int .i64 0] 253) (.cells #[.int .i64 s1,.int .i64 p1,.int .i64 q1] 253) b1
 have u34:=up2 (.cells #[.int .i64 0,.int .i64 0,.int .i64 0] 253) (.cells #[.int .i64 s1,.int .i64 p1,.int .i64 q1] 253) b2
 have u35:=up2 (.cells #[.int .i64 0,.int .i64 0,.int .i64 0] 253) (.cells #[.int .i64 s1,.int .i64 p1,.int .i64 q1] 253) b3
 have u36:=up2 (.cells #[.int .i64 s2,.int .i64 p2,.int .i64 q2] 253) (.cells #[.int .i64 0,.int .i64 0,.int .i64 0] 253) a1
 have u37:=up2 (.cells #[.int .i64 s2,.int .i64 p2,.int .i64 q2] 253) (.cells #[.int .i64 0,.int .i64 0,.int .i64 0] 253) a2
 have u38:=up2 (.cells #[.int .i64 s2,.int .i64 p2,.int .i64 q2] 253) (.cells #[.int .i64 0,.int .i64 0,.int .i64 0] 253) a3
 have u39:=up2 (.cells #[.int .i64 s2,.int .i64 p2,.int .i64 q2] 253) (.cells #[.int .i64 0,.int .i64 0,.int .i64 0] 253) b1
 have u40:=up2 (.cells #[.int .i64 s2,.int .i64 p2,.int .i64 q2] 253) (.cells #[.int .i64 0,.int .i64 0,.int .i64 0] 253) b2
 have u41:=up2 (.cells #[.int .i64 s2,.int .i64 p2,.int .i64 q2] 253) (.cells #[.int .i64 0,.int .i64 0,.int .i64 0] 253) b3
 have u42:=up2 (.cells #[.int .i64 0,.int .i64 0,.int .i64 0] 253) (.cells #[.int .i64 s2,.int .i64 p2,.int .i64 q2] 253) a1
 have u43:=up2 (.cells #[.int .i64 0,.int .i64 0,.int .i64 0] 253) (.cells #[.int .i64 s2,.int .i64 p2,.int .i64 q2] 253) a2
 have u44:=up2 (.cells #[.int .i64 0,.int .i64 0,.int .i64 0] 253) (.cells #[.int .i64 s2,.int .i64 p2,.int .i64 q2] 253) a3
 have u45:=up2 (.cells #[.int .i64 0,.int .i64 0,.int .i64 0] 253) (.cells #[.int .i64 s2,.int .i64 p2,.int .i64 q2] 253) b1
 have u46:=up2 (.cells #[.int .i64 0,.int .i64 0,.int .i64 0] 253) (.cells #[.int .i64 s2,.int .i64 p2,.int .i64 q2] 253) b2
 have u47:=up2 (.cells #[.int .i64 0,.int .i64 0,.int .i64 0] 253) (.cells #[.int .i64 s2,.int .i64 p2,.int .i64 q2] 253) b3
 clear up1 up2
 by_cases h1 : p1 = p2
 · subst h1
   by_cases h2 : q1 = q2
   · subst h2
     have e : lessC (s1,p1,q1) (s2,p1,q1) = decide (s1 < s2):=by simp [lessC]
     rw [e]
     go_enter Tryz.func293,Tryz.ntmps293
     go_wp2_with fail
     go_region
     all_goals
      go_wp2
      go_ret
      exact ⟨rfl,(((Below.refl _ _).alloc (Nat.le_refl _) _).alloc (by simp) _).drew⟩
   · have hb : (q1 == q2) = false:=by simpa using h2
     have e : lessC (s1,p1,q1) (s2,p1,q2) = decide (q2 < q1):=by simp [lessC,h2]
     rw [e]
     go_enter Tryz.func293,Tryz.ntmps293
     go_wp2_with fail
     go_region
     all_goals
      go_wp2
      go_ret
      exact ⟨rfl,(((Below.refl _ _).alloc (Nat.le_refl _) _).alloc (by simp) _).drew⟩
 · have hb : (p1 == p2) = false:=by simpa using h1
   have e : lessC (s1,p1,q1) (s2,p2,q2) = decide (p2 < p1):=by simp [lessC,h1]
   rw [e]
   go_enter Tryz.func293,Tryz.ntmps293
   go_wp2_with fail
   go_region
   all_goals
    go_wp2
    go_ret
    exact ⟨rfl,(((Below.refl _ _).alloc (Nat.le_refl _) _).alloc (by simp) _).drew⟩
set_option maxRecDepth 100000 in
theorem c4C {e0 : TypeId} {base : Nat} {ok : Nat -> Prop} {g n cap : Nat} {xs : List K3} (i j : Nat) (hi : i < n) (hj : j < n) (hne : i ≠ j) (w : World) (h : k3.R e0 w base ok (.slice (some ⟨g,0,none⟩) n cap) xs) :
    Calls Tryz.prog 294 #[.slice (some ⟨g,0,none⟩) n cap,.int .i64 i,.int .i64 j] w λ e w'=>e = .returned (.tuple #[]) /\ k3.R e0 w' base ok (.slice (some ⟨g,0,none⟩) n cap) (swapL xs i j) /\ Only (λ k=>k = g) w w':=by
 obtain ⟨⟨a1,a2,a3⟩,f1,f2,f3⟩:=a3y h i hi
 obtain ⟨⟨b1,b2,b3⟩,g1,g2,g3⟩:=a3y h j hj
 have hr:=Kd.R_reads' h
 have hn : n <= 9223372036854775807:=by rw [hr.1]; exact hr.2.2.2.1
 clear hr
 obtain ⟨x,hx⟩ : ∃ x,x = xs.getD i z3:=⟨_,rfl⟩
 obtain ⟨y,hy⟩ : ∃ x,x = xs.getD j z3:=⟨_,rfl⟩
 rw [<- hx] at a1 a2 a3
 rw [<- hy] at b1 b2 b3
 have HF : Hid (k3.R e0 ((((((w.setCell ⟨g,i * 3,none⟩ (.int .i64 y.1)).setCell ⟨g,i * 3 + 1,none⟩ (.int .i64 y.2.1)).setCell ⟨g,i * 3 + 2,none⟩ (.int .i64 y.2.2)).setCell ⟨g,j * 3,none⟩ (.int .i64 x.1)).setCell ⟨g,j * 3 + 1,none⟩ (.int .i64 x.2.1)).setCell ⟨g,j * 3 + 2,none⟩ (.int .i64 x.2.2)) base ok (.slice (some ⟨g,0,none⟩) n cap) (swapL xs i j)):=by
  have:=a3z (a3z h i hi y) j hj x
  rw [hx,hy] at this ⊢
  exact this
 clear h
 have n00a : ¬ i * 3 = j * 3:=by omega
 have n01a : ¬ i * 3 = j * 3 + 1:=by omega
 have n02a : ¬ i * 3 = j * 3 + 2:=by omega
 have n10a : ¬ i * 3 + 1 = j * 3:=by omega
 have n11a : ¬ i * 3 + 1 = j * 3 + 1:=by omega
 have n12a : ¬ i * 3 + 1 = j * 3 + 2:=by omega
 have n20a : ¬ i * 3 + 2 = j * 3:=by omega
 have n21a : ¬ i * 3 + 2 = j * 3 + 1:=by omega
 have n22a : ¬ i * 3 + 2 = j * 3 + 2:=by omega
 have n00b : ¬ j * 3 = i * 3:=by omega
 have n01b : ¬ j * 3 = i * 3 + 1:=by omega
 have n02b : ¬ j * 3 = i * 3 + 2:=by omega
 have n10b : ¬ j * 3 + 1 = i * 3:=by omega
 have n11b : ¬ j * 3 + 1 = i * 3 + 1:=by omega
 have n12b : ¬ j * 3 + 1 = i * 3 + 2:=by omega
 have n20b : ¬ j * 3 + 2 = i * 3:=by omega
 have n21b : ¬ j * 3 + 2 = i * 3 + 1:=by omega
 have n22b : ¬ j * 3 + 2 = i * 3 + 2:=by omega
 clear hx hy hne
 go_enter Tryz.func294,Tryz.ntmps294
 go_wp2_with fail
 go_region
 go_wp2
 all_goals go_end0
 exact ⟨rfl,Kd.R_drew HF.out,by refine Only.drew ?_; (repeat (refine Only.set1 ?_ _ _)); exact Only.refl _ _⟩
set_option maxRecDepth 100000 in
theorem c4D {e0 : TypeId} {base : Nat} {ok : Nat -> Prop} {g n cap : Nat} {xs : List K3} (i : Nat) (hi : i < n) (w : World) (h : k3.R e0 w base ok (.slice (some ⟨g,0,none⟩) n cap) xs) :
    Calls Tryz.prog 294 #[.slice (some ⟨g,0,none⟩) n cap,.int .i64 i,.int .i64 i] w λ e w'=>e = .returned (.tuple #[]) /\ k3.R e0 w' base ok (.slice (some ⟨g,0,none⟩) n cap) (swapL xs i i) /\ Only (λ k=>k = g) w w':=by
 obtain ⟨⟨a1,a2,a3⟩,f1,f2,f3⟩:=a3y h i hi
 have hr:=Kd.R_reads' h
 have hn : n <= 9223372036854775807:=by rw [hr.1]; exact hr.2.2.2.1
 clear hr
 obtain ⟨x,hx⟩ : ∃ x,x = xs.getD i z3:=⟨_,rfl⟩
 rw [<- hx] at a1 a2 a3
 have HF : Hid (k3.R e0 ((((((w.setCell ⟨g,i * 3,none⟩ (.int .i64 x.1)).setCell ⟨g,i * 3 + 1,none⟩ (.int .i64 x.2.1)).setCell ⟨g,i * 3 + 2,none⟩ (.int .i64 x.2.2)).setCell ⟨g,i * 3,none⟩ (.int .i64 x.1)).setCell ⟨g,i * 3 + 1,none⟩ (.int .i64 x.2.1)).setCell ⟨g,i * 3 + 2,none⟩ (.int .i64 x.2.2)) base ok (.slice (some ⟨g,0,none⟩) n cap) (swapL xs i i)):=by
  have:=a3z (a3z h i hi x) i hi x
  rw [hx] at this ⊢
  exact this
 clear h
 clear hx
 go_enter Tryz.func294,Tryz.ntmps294
 go_wp2_with fail
 go_region
 go_wp2
 all_goals go_end0
 exact ⟨rfl,Kd.R_drew HF.out,by refine Only.drew ?_; (repeat (refine Only.set1 ?_ _ _)); exact Only.refl _ _⟩
theorem b5n {e0 : TypeId} {base : Nat} {ok : Nat -> Prop} {g n cap : Nat} {xs : List K3} (i j : Nat) (hi : i < n) (hj : j < n) (w : World) (h : k3.R e0 w base ok (.slice (some ⟨g,0,none⟩) n cap) xs) :
    Calls Tryz.prog 294 #[.slice (some ⟨g,0,none⟩) n cap,.int .i64 i,.int .i64 j] w λ e w'=>e = .returned (.tuple #[]) /\ k3.R e0 w' base ok (.slice (some ⟨g,0,none⟩) n cap) (swapL xs i j) /\ Only (λ k=>k = g) w w':=by
 by_cases hne : i = j
 · subst hne; exact c4D i hi w h
 · exact c4C i j hi hj hne w h
set_option maxRecDepth 100000 in
theorem a9G (A : Option Addr) (n c : Nat) (w : World) : Calls Tryz.prog 292 #[.slice A n c] w λ e w'=>e = .returned (.int .i64 n) /\ w = w':=by
 go_enter Tryz.func292,Tryz.ntmps292
 go_wp2
 go_ret
 exact ⟨rfl,rfl⟩
theorem a9H : (Tryz.prog.info? 253).map (λ i=>(i.zero,i.size,i.bytes)) = some (some (.agg #[.int .i64 0,.int .i64 0,.int .i64 0]),k3.sz,24):=by kernel_rfl
theorem a9I (v : Value) (w : World) : (Instr.typeAssert (.iface 253 v) 20 253 false).run Tryz.prog w = .ok v w:=by kernel_rfl
set_option maxRecDepth 100000 in
theorem c4E {base p : Nat} {v : Value} {xs : List K3} (x : K3) (w : World) (hb : w.heap[p]? = some (.cells #[v] 251 (0,0))) (hr : k3.R 253 w base (λ k=>k ≠ p) v xs) (hB : base <= w.heap.size) (hl : xs.length <= 1000000) :
    Calls Tryz.prog 297 #[.pointer (some ⟨p,0,none⟩),.iface 253 (.agg #[.int .i64 x.1,.int .i64 x.2.1,.int .i64 x.2.2])] w λ e w'=>e = .returned (.tuple #[]) /\ ∃ v',w'.heap[p]? = some (.cells #[v'] 251 (0,0)) /\ k3.R 253 w' base (λ k=>k ≠ p) v' (xs ++ [x]) /\ (v'.ownBlock = v.ownBlock \/ ∃ b,v'.ownBlock = some b /\ w.heap.size <= b) /\ Only (λ k=>k = p \/ v.ownBlock = some k) w w':=by
 have hc : w.cell? ⟨p,0,none⟩ = some v:=(a0a hb 0).trans rfl
 have hf:=a0e hb 0
 have ta:=a9I
 have hlt : p < w.heap.size:=a0f hb
 have hpn : ¬ p = w.heap.size:=by omega
 have hpn' : ¬ w.heap.size = p:=by omega
 go_enter Tryz.func297,Tryz.ntmps297
 go_wp2_with fail
 have hfr : ∀ k,w.heap.size <= k -> k ≠ p:=λ k hk e=>by have:=a0f hb; omega
 have hl' : (xs.length + 1) * 24 <= 140737488355328:=by omega
 have hne : some p ≠ v.ownBlock:=λ e=>hr.1 p e.symm rfl
 have HN:=Lib.hid hne; have HR:=Lib.hid hr; have HB:=Lib.hid hB; have HF:=Lib.hid hfr; have HL:=Lib.hid hl'; clear hr hfr hl' hB hne
 go_region_law (first | (refine a5i k3 (w0:=w) base rfl (.tmp 7) (.tmp 10) 251 253 _ 24 rfl Tryz.underlying251 a9H rfl (by decide) (by decide) v xs x [.int .i64 x.1,.int .i64 x.2.1,.int .i64 x.2.2] (λ k=>k ≠ p) (λ _=>False) rfl rfl (a5n _ _ _ x) (λ _ h=>h.elim) HF.out HR.out (Below.refl _ _) HB.out HL.out ?_; intro v1 w1 hr1 hb1 hg1 hat1; obtain ⟨A1,c1,rfl⟩:=Kd.R_slice hr1; simp only [List.length_append,List.length_singleton] at hr1 hat1; have hb2:=a1e hb hg1 HN.out; have hc2 : w1.cell? ⟨p,0,none⟩ = some v:=(a0a hb2 0).trans rfl; have hf2:=a0e hb2 0) | fail)
 all_goals
  go_wp2
  go_end0
  refine ⟨rfl,_,a0u hb2 0 _,Kd.R_far (p:=⟨p,0,none⟩) hr1 (λ k hk=>hk) _,hat1,?_⟩
  exact (Only.of_grown hg1 (λ k hk=>.inr hk)).setCell (p:=⟨p,0,none⟩) (.inl rfl) _
set_option maxRecDepth 100000 in
theorem c4F {base p g n cap : Nat} {xs : List K3} (w : World) (hb : w.heap[p]? = some (.cells #[.slice (some ⟨g,0,none⟩) (n + 1) cap] 251 (0,0))) (hr : k3.R 253 w base (λ k=>k ≠ p) (.slice (some ⟨g,0,none⟩) (n + 1) cap) xs) :
    Calls Tryz.prog 296 #[.pointer (some ⟨p,0,none⟩)] w λ e w'=>e = .returned (.iface 253 (.agg #[.int .i64 (xs.getD n z3).1,.int .i64 (xs.getD n z3).2.1,.int .i64 (xs.getD n z3).2.2])) /\ w'.heap[p]? = some (.cells #[.slice (some ⟨g,0,none⟩) n cap] 251 (0,0)) /\ k3.R 253 w' base (λ k=>k ≠ p) (.slice (some ⟨g,0,none⟩) n cap) (xs.take n) /\ Only (λ k=>k = p) w w':=by
 have hc : w.cell? ⟨p,0,none⟩ = some (.slice (some ⟨g,0,none⟩) (n + 1) cap):=(a0a hb 0).trans rfl
 have hf:=a0e hb 0
 have hlt : p < w.heap.size:=a0f hb
 have hpn : ¬ p = w.heap.size:=by omega
 have hpn' : ¬ w.heap.size = p:=by omega
 have hrd:=Kd.R_reads' hr
 have hn : n + 1 <= 9223372036854775807:=by rw [hrd.1]; exact hrd.2.2.2.1
 have hcap : n + 1 <= cap:=hrd.2.1
 obtain ⟨⟨a1,a2,a3⟩,-⟩:=a3y hr n (by omega)
 have hgl : g < w.heap.size:=Kd.R_lt hr g rfl
 have hgn : ¬ g = w.heap.size:=by omega
 have hgn' : ¬ w.heap.size = g:=by omega
 obtain ⟨x,hx⟩ : ∃ x,x = xs.getD n z3:=⟨_,rfl⟩
 rw [<- hx] at a1 a2 a3 ⊢
 have hr2:=Kd.R_take hr (m:=n) (by rw [<- hrd.1]; omega)
 have HR:=Lib.hid hr2; clear hx hr hrd hr2
 go_enter Tryz.func296,Tryz.ntmps296
 go_wp2
 go_ret
 exact ⟨rfl,a0n (a0u hb 0 _) _,Kd.R_alloc (Kd.R_far (p:=⟨p,0,none⟩) HR.out (λ k hk=>hk) _) _,((Only.refl _ _).set1 _ _).alloc _⟩
end Go.Proofs.YtflfjpkmjnnodaaGreat
namespace Go.Proofs.YtflfjpkmjnnodaaGreat
open Go.RowKit Go.Proofs.YtflfjpkmjnnodaaGreatW.PrintWords
section
variable (f : Nat) (a : Addr) (v : Value) (w : World)
theorem a9J (h : w.cell? a = some v) : (method (f + 1) 273 (.pointer (some a)) "Len").run Tryz.prog w = .ok (292, v) w :=
 a4B (elem:=251) (by kernel_rfl) (by kernel_rfl) (by kernel_rfl) h
theorem b5o (h : w.cell? a = some v) : (method (f + 1) 273 (.pointer (some a)) "Less").run Tryz.prog w = .ok (293, v) w :=
 a4B (elem:=251) (by kernel_rfl) (by kernel_rfl) (by kernel_rfl) h
theorem a9K (h : w.cell? a = some v) : (method (f + 1) 273 (.pointer (some a)) "Swap").run Tryz.prog w = .ok (294, v) w :=
 a4B (elem:=251) (by kernel_rfl) (by kernel_rfl) (by kernel_rfl) h
theorem c4G : (method (f + 1) 273 v "Push").run Tryz.prog w = .ok (297, v) w :=
 a6s (elem:=251) (by kernel_rfl) (by kernel_rfl)
theorem c4H : (method (f + 1) 273 v "Pop").run Tryz.prog w = .ok (296, v) w :=
 a6s (elem:=251) (by kernel_rfl) (by kernel_rfl)
end
structure CKp (p base : Nat) (w : World) (v : Value) (xs : List K3) : Prop where
 blk : w.heap[p]? = some (.cells #[v] 251 (0,0))
 row : k3.R 253 w base (λ k=>k ≠ p) v xs
theorem CKp.cell {p base : Nat} {w : World} {v : Value} {xs : List K3} (h : CKp p base w v xs) : w.cell? ⟨p,0,none⟩ = some v:=(a0a h.blk 0).trans rfl
theorem CKp.below {p base : Nat} {w w1 : World} {v : Value} {xs : List K3} (h : CKp p base w v xs) (hb : Below w.heap.size w w1) : CKp p base w1 v xs:=⟨a0i h.blk hb,Kd.R_below h.row hb⟩
open HeapL
set_option maxRecDepth 100000 in
set_option maxHeartbeats 400000 in
theorem c4I {p base g n cap : Nat} {xs : List K3} (o : Ord lessC GC) (j : Nat) (hj : j < n) (w : World) (hk : CKp p base w (.slice (some ⟨g,0,none⟩) n cap) xs) (hg : All GC xs) (hu : Up lessC z3 xs j) :
    Calls Tryz.prog 272 #[.iface 273 (.pointer (some ⟨p,0,none⟩)),.int .i64 j] w λ e w'=>e = .returned (.tuple #[]) /\ ∃ ys : List K3,CKp p base w' (.slice (some ⟨g,0,none⟩) n cap) ys /\ ys.Perm xs /\ From lessC z3 ys 0 n /\ Only (λ k=>k = g) w w':=by
 have hn : n = xs.length:=(Kd.R_reads' hk.row).1
 have hn2 : n <= 9223372036854775807:=by rw [hn]; exact (Kd.R_reads' hk.row).2.2.2.1
 have ml:=b5o
 have HN:=Lib.hid hn; clear hn
 go_enter Tryz.func272,Tryz.ntmps272
 go_wp2_with fail
 go_loopw [1] (λ jv wr=>∃ (jn : Nat) (ys : List K3),jv = .int .i64 jn /\ jn < n /\ Hid (CKp p base wr (.slice (some ⟨g,0,none⟩) n cap) ys /\ ys.Perm xs /\ Up lessC z3 ys jn /\ Only (λ k=>k = g) w wr)) (λ jv _=>(intOf jv).toNat)
 case atStart=>exact ⟨j,xs,rfl,hj,hk,.refl _,hu,Only.refl _ _⟩
 case round=>
  obtain ⟨jn,ys,rfl,hjn,H⟩:=hrel
  have hc:=H.out.1.cell
  by_cases h0 : jn = 0
  · subst h0
    go_wp2_with fail
    go_end0
    obtain ⟨h1,h2,h3,h4⟩:=H.out
    exact ⟨rfl,ys,h1,h2,by rw [(Kd.R_reads' h1.row).1]; exact h3.stop (.inl rfl),h4⟩
  · have ep : ((jn : Int) - 1) / 2 = (((jn - 1) / 2 : Nat) : Int):=by omega
    have hpl : (jn - 1) / 2 < n:=by omega
    have hne : ¬ (jn - 1) / 2 = jn:=by omega
    go_wp2_with fail
    have hC:=(Kd.R_reads' H.out.1.row)
    refine (b5m (some ⟨g,0,none⟩) n cap ys jn ((jn - 1) / 2) hjn hpl _ (by rw [hC.1]; exact hC.2.2)).mono ?_
    rintro e w1 ⟨rfl,hb⟩
    have HB:=Lib.hid hb
    clear hC hb
    have hc1:=(H.out.1.below HB.out).cell
    have ms:=a9K
    cases hls : lessC (ys.getD jn z3) (ys.getD ((jn - 1) / 2) z3) with
    | false=>
     have HL:=Lib.hid hls; clear hls
     go_wp2_with fail
     go_end0
     obtain ⟨h1,h2,h3,h4⟩:=H.out
     exact ⟨rfl,ys,h1.below HB.out,h2,by rw [(Kd.R_reads' h1.row).1]; exact h3.stop (.inr HL.out),h4.trans (Only.of_below HB.out)⟩
    | true=>
     have HL:=Lib.hid hls; clear hls
     go_wp2_with fail
     refine (b5n ((jn - 1) / 2) jn hpl hjn _ (H.out.1.below HB.out).row).mono ?_
     rintro e w2 ⟨rfl,hr2,ho2⟩
     have HR:=Lib.hid hr2; have HO:=Lib.hid ho2; clear hr2 ho2
     go_wp2_with fail
     go_roundw
     case rel=>
      obtain ⟨h1,h2,h3,h4⟩:=H.out
      have hl : n = ys.length:=(Kd.R_reads' h1.row).1
      have hG : All GC ys:=λ x hx=>hg x (h2.subset hx)
      refine ⟨(jn - 1) / 2,_,rfl,hpl,⟨?_,HR.out⟩,(a4d _ _ _ (by omega) (by omega)).trans h2,h3.step o hG (by omega) (by omega) HL.out,(h4.trans (Only.of_below HB.out)).trans HO.out⟩
      exact (HO.out.block p (a0f (a0i h1.blk HB.out)) (λ e=>Kd.R_away h1.row (λ _ hk=>hk) (by rw [e]; rfl))).trans (a0i h1.blk HB.out)
     case measure=>simp [intOf]; omega
end Go.Proofs.YtflfjpkmjnnodaaGreat
namespace Go.Proofs.YtflfjpkmjnnodaaGreat
open Go.RowKit Go.Proofs.YtflfjpkmjnnodaaGreatW.PrintWords HeapL
def c4J (Q : World -> Prop) (e : Ending) (w : World) : Prop:=(∃ b,e = .returned (.bool b)) /\ Q w
def b5p (p base g n cap : Nat) (xs : List K3) (i0 n0 : Nat) (w w' : World) : Prop:=
 ∃ ys : List K3,CKp p base w' (.slice (some ⟨g,0,none⟩) n cap) ys /\ ys.Perm xs /\ From lessC z3 ys i0 n0 /\ (∀ k,n0 <= k -> ys.getD k z3 = xs.getD k z3) /\ Only (λ k=>k = g) w w'
theorem CKp.len {p base g n cap : Nat} {w : World} {xs : List K3} (h : CKp p base w (.slice (some ⟨g,0,none⟩) n cap) xs) : n = xs.length:=(Kd.R_reads' h.row).1
theorem CKp.read {p base g n cap : Nat} {w : World} {xs : List K3} (h : CKp p base w (.slice (some ⟨g,0,none⟩) n cap) xs) : k3.C w (some ⟨g,0,none⟩) n xs:=by
 have:=Kd.R_reads' h.row
 rw [this.1]; exact this.2.2
theorem CKp.swapped {p base g n cap : Nat} {w w1 : World} {xs ys : List K3} (h : CKp p base w (.slice (some ⟨g,0,none⟩) n cap) xs) (hr : k3.R 253 w1 base (λ k=>k ≠ p) (.slice (some ⟨g,0,none⟩) n cap) ys) (ho : Only (λ k=>k = g) w w1) : CKp p base w1 (.slice (some ⟨g,0,none⟩) n cap) ys:=
 ⟨(ho.block p (a0f h.blk) (λ e=>Kd.R_away h.row (λ _ hk=>hk) (by rw [e]; rfl))).trans h.blk,hr⟩
def CDownInv (p base g n cap : Nat) (xs : List K3) (i0 n0 : Nat) (w : World) (i : Nat) (ys : List K3) (wr : World) : Prop:=
 CKp p base wr (.slice (some ⟨g,0,none⟩) n cap) ys /\ ys.Perm xs /\ Down lessC z3 ys i0 i n0 /\ (∀ k,n0 <= k -> ys.getD k z3 = xs.getD k z3) /\ Only (λ k=>k = g) w wr
theorem CDownInv.below {p base g n cap : Nat} {xs : List K3} {i0 n0 : Nat} {w : World} {i : Nat} {ys : List K3} {wr w1 : World} (h : CDownInv p base g n cap xs i0 n0 w i ys wr) (hb : Below wr.heap.size wr w1) : CDownInv p base g n cap xs i0 n0 w i ys w1:=
 ⟨h.1.below hb,h.2.1,h.2.2.1,h.2.2.2.1,h.2.2.2.2.trans (Only.of_below hb)⟩
theorem CDownInv.done {p base g n cap : Nat} {xs : List K3} {i0 n0 : Nat} {w : World} {i : Nat} {ys : List K3} {wr : World} (h : CDownInv p base g n cap xs i0 n0 w i ys wr) (hs : ∀ k,0 < k -> k < n0 -> (k - 1) / 2 = i -> okAt lessC z3 ys k) : b5p p base g n cap xs i0 n0 w wr:=
 ⟨ys,h.1,h.2.1,h.2.2.1.stop hs,h.2.2.2.1,h.2.2.2.2⟩
theorem CDownInv.step {p base g n cap : Nat} {xs : List K3} {i0 n0 : Nat} {w : World} {i j : Nat} {ys : List K3} {wr w1 : World} (o : Ord lessC GC) (hG : All GC xs) (hn : n0 <= n) (h : CDownInv p base g n cap xs i0 n0 w i ys wr) (hi : i0 <= i) (hj : j < n0) (hji : (j - 1) / 2 = i) (hj0 : 0 < j)
    (hm : ∀ k,0 < k -> k < n0 -> (k - 1) / 2 = i -> lessC (ys.getD k z3) (ys.getD j z3) = false) (hs : lessC (ys.getD j z3) (ys.getD i z3) = true)
    (hr : k3.R 253 w1 base (λ k=>k ≠ p) (.slice (some ⟨g,0,none⟩) n cap) (swapL ys i j)) (ho : Only (λ k=>k = g) wr w1) : CDownInv p base g n cap xs i0 n0 w j (swapL ys i j) w1:=by
 obtain ⟨h1,h2,h3,h4,h5⟩:=h
 have hl:=h1.len
 have hGy : All GC ys:=λ x hx=>hG x (h2.subset hx)
 refine ⟨h1.swapped hr ho,(a4d _ _ _ (by omega) (by omega)).trans h2,h3.step o hGy (by omega) hi hj hji hj0 hm hs,λ k hk=>?_,h5.trans ho⟩
 show (swap z3 ys i j).getD k z3 = _
 rw [a3b _ _ _ _ (by omega) (by omega),if_neg (by omega),if_neg (by omega)]; exact h4 k hk
theorem a7B {i j : Int} (a b : Nat) (ea : i = a) (eb : j = b) (A : Option Addr) (n c : Nat) (xs : List K3) (hi : a < n) (hj : b < n) (w : World) (h : k3.C w A n xs) :
    Calls Tryz.prog 293 #[.slice A n c,.int .i64 i,.int .i64 j] w (Ret (.bool (lessC (xs.getD a z3) (xs.getD b z3))) w):=by
 subst ea eb; exact b5m A n c xs a b hi hj w h
theorem a7C {i j : Int} (a b : Nat) (ea : i = a) (eb : j = b) {e0 : TypeId} {base : Nat} {ok : Nat -> Prop} {g n cap : Nat} {xs : List K3} (hi : a < n) (hj : b < n) (w : World) (h : k3.R e0 w base ok (.slice (some ⟨g,0,none⟩) n cap) xs) :
    Calls Tryz.prog 294 #[.slice (some ⟨g,0,none⟩) n cap,.int .i64 i,.int .i64 j] w λ e w'=>e = .returned (.tuple #[]) /\ k3.R e0 w' base ok (.slice (some ⟨g,0,none⟩) n cap) (swapL xs a b) /\ Only (λ k=>k = g) w w':=by
 subst ea eb; exact b5n a b hi hj w h
set_option maxRecDepth 100000 in
set_option maxHeartbeats 1000000 in
theorem b5q {p base g n cap : Nat} {xs : List K3} (o : Ord lessC GC) (i0 n0 : Nat) (hn0 : n0 <= n) (hi0 : i0 <= n0) (hbd : n <= 1000000) (w : World) (hk : CKp p base w (.slice (some ⟨g,0,none⟩) n cap) xs) (hg : All GC xs) (hu : From lessC z3 xs (i0 + 1) n0) :
    Calls Tryz.prog 271 #[.iface 273 (.pointer (some ⟨p,0,none⟩)),.int .i64 i0,.int .i64 n0] w (c4J (b5p p base g n cap xs i0 n0 w)):=by
 have HI : Hid (CDownInv p base g n cap xs i0 n0 w i0 xs w):=⟨hk,.refl _,Down.start hu,λ _ _=>rfl,Only.refl _ _⟩
 have ml:=b5o
 have ms:=a9K
 clear hk hu
 go_enter Tryz.func271,Tryz.ntmps271
 go_wp2_with fail
 go_loopw [7] (λ iv wr=>∃ (i : Nat) (ys : List K3),iv = .int .i64 i /\ i0 <= i /\ i <= n0 /\ Hid (CDownInv p base g n cap xs i0 n0 w i ys wr)) (λ iv _=>n0 - (intOf iv).toNat)
 case atStart=>exact ⟨i0,xs,rfl,Nat.le_refl _,hi0,HI⟩
 case round=>
  obtain ⟨i,ys,rfl,hi1,hi2,H⟩:=hrel
  have hc:=H.out.1.cell
  by_cases hj1 : 2 * i + 1 < n0
  · by_cases hj2 : 2 * i + 2 < n0
    · go_wp2_with fail
      refine (a7B (2 * i + 2) (2 * i + 1) (by omega) (by omega) (some ⟨g,0,none⟩) n cap ys (by omega) (by omega) _ H.out.1.read).mono ?_
      rintro e w1 ⟨rfl,hb⟩
      have H1:=Lib.hid (H.out.below hb)
      clear hb hc
      have hc:=H1.out.1.cell
      cases hl1 : lessC (ys.getD (2 * i + 2) z3) (ys.getD (2 * i + 1) z3) with
      | true=>
       have HL:=Lib.hid hl1; clear hl1
       go_wp2_with fail
       refine (a7B (2 * i + 2) i (by omega) rfl (some ⟨g,0,none⟩) n cap ys (by omega) (by omega) _ H1.out.1.read).mono ?_
       rintro e w2 ⟨rfl,hb⟩
       have H2:=Lib.hid (H1.out.below hb)
       clear hb hc
       have hc:=H2.out.1.cell
       cases hl2 : lessC (ys.getD (2 * i + 2) z3) (ys.getD i z3) with
       | true=>
        have HM:=Lib.hid hl2; clear hl2
        go_wp2_with fail
        refine (a7C i (2 * i + 2) rfl (by omega) (by omega) (by omega) _ H2.out.1.row).mono ?_
        rintro e w3 ⟨rfl,hr3,ho3⟩
        have H3 : Hid (CDownInv p base g n cap xs i0 n0 w (2 * i + 2) (swapL ys i (2 * i + 2)) w3):=by
         refine H2.out.step o hg hn0 hi1 hj2 (by omega) (by omega) (λ k h1 h2 h3=>?_) HM.out hr3 ho3
         have hGy : All GC ys:=λ x hx=>hg x (H2.out.2.1.subset hx)
         have hl:=H2.out.1.len
         rcases (by omega : k = 2 * i + 1 \/ k = 2 * i + 2) with rfl | rfl
         · exact o.asym _ _ (hGy.get _ (by omega)) (hGy.get _ (by omega)) HL.out
         · cases e : lessC (ys.getD (2 * i + 2) z3) (ys.getD (2 * i + 2) z3) with
           | false=>rfl
           | true=>have:=o.asym _ _ (hGy.get _ (by omega)) (hGy.get _ (by omega)) e; rw [e] at this; cases this
        clear hr3 ho3
        go_wp2_with fail
        go_roundw
        case rel=>exact ⟨2 * i + 2,_,by first | rfl | (congr 1; omega),by omega,by omega,H3⟩
        case measure=>simp [intOf]; omega
       | false=>
        have HM:=Lib.hid hl2; clear hl2
        go_wp2_with fail
        go_ret
        refine ⟨⟨_,rfl⟩,H2.out.done λ k h1 h2 h3=>?_⟩
        have hGy : All GC ys:=λ x hx=>hg x (H2.out.2.1.subset hx)
        have hl:=H2.out.1.len
        unfold okAt
        rw [h3]
        rcases (by omega : k = 2 * i + 1 \/ k = 2 * i + 2) with rfl | rfl
        · exact o.trans _ _ _ (hGy.get _ (by omega)) (hGy.get _ (by omega)) (hGy.get _ (by omega)) HM.out (o.asym _ _ (hGy.get _ (by omega)) (hGy.get _ (by omega)) HL.out)
        · exact HM.out
      | false=>
       have HL:=Lib.hid hl1; clear hl1
       go_wp2_with fail
       refine (a7B (2 * i + 1) i (by omega) rfl (some ⟨g,0,none⟩) n cap ys (by omega) (by omega) _ H1.out.1.read).mono ?_
       rintro e w2 ⟨rfl,hb⟩
       have H2:=Lib.hid (H1.out.below hb)
       clear hb hc
       have hc:=H2.out.1.cell
       cases hl2 : lessC (ys.getD (2 * i + 1) z3) (ys.getD i z3) with
       | true=>
        have HM:=Lib.hid hl2; clear hl2
        go_wp2_with fail
        refine (a7C i (2 * i + 1) rfl (by omega) (by omega) (by omega) _ H2.out.1.row).mono ?_
        rintro e w3 ⟨rfl,hr3,ho3⟩
        have H3 : Hid (CDownInv p base g n cap xs i0 n0 w (2 * i + 1) (swapL ys i (2 * i + 1)) w3):=by
         refine H2.out.step o hg hn0 hi1 hj1 (by omega) (by omega) (λ k h1 h2 h3=>?_) HM.out hr3 ho3
         have hGy : All GC ys:=λ x hx=>hg x (H2.out.2.1.subset hx)
         have hl:=H2.out.1.len
         rcases (by omega : k = 2 * i + 1 \/ k = 2 * i + 2) with rfl | rfl
         · cases e : lessC (ys.getD (2 * i + 1) z3) (ys.getD (2 * i + 1) z3) with
           | false=>rfl
           | true=>have:=o.asym _ _ (hGy.get _ (by omega)) (hGy.get _ (by omega)) e; rw [e] at this; cases this
         · exact HL.out
        clear hr3 ho3
        go_wp2_with fail
        go_roundw
        case rel=>exact ⟨2 * i + 1,_,by first | rfl | (congr 1; omega),by omega,by omega,H3⟩
        case measure=>simp [intOf]; omega
       | false=>
        have HM:=Lib.hid hl2; clear hl2
        go_wp2_with fail
        go_ret
        refine ⟨⟨_,rfl⟩,H2.out.done λ k h1 h2 h3=>?_⟩
        have hGy : All GC ys:=λ x hx=>hg x (H2.out.2.1.subset hx)
        have hl:=H2.out.1.len
        unfold okAt
        rw [h3]
        rcases (by omega : k = 2 * i + 1 \/ k = 2 * i + 2) with rfl | rfl
        · exact HM.out
        · exact o.trans _ _ _ (hGy.get _ (by omega)) (hGy.get _ (by omega)) (hGy.get _ (by omega)) HM.out HL.out
    · go_wp2_with fail
      refine (a7B (2 * i + 1) i (by omega) rfl (some ⟨g,0,none⟩) n cap ys (by omega) (by omega) _ H.out.1.read).mono ?_
      rintro e w1 ⟨rfl,hb⟩
      have H1:=Lib.hid (H.out.below hb)
      clear hb hc
      have hc:=H1.out.1.cell
      cases hl2 : lessC (ys.getD (2 * i + 1) z3) (ys.getD i z3) with
      | true=>
       have HM:=Lib.hid hl2; clear hl2
       go_wp2_with fail
       refine (a7C i (2 * i + 1) rfl (by omega) (by omega) (by omega) _ H1.out.1.row).mono ?_
       rintro e w3 ⟨rfl,hr3,ho3⟩
       have H3 : Hid (CDownInv p base g n cap xs i0 n0 w (2 * i + 1) (swapL ys i (2 * i + 1)) w3):=by
        refine H1.out.step o hg hn0 hi1 hj1 (by omega) (by omega) (λ k h1 h2 h3=>?_) HM.out hr3 ho3
        have hGy : All GC ys:=λ x hx=>hg x (H1.out.2.1.subset hx)
        have hl:=H1.out.1.len
        obtain rfl : k = 2 * i + 1:=by omega
        cases e : lessC (ys.getD (2 * i + 1) z3) (ys.getD (2 * i + 1) z3) with
        | false=>rfl
        | true=>have:=o.asym _ _ (hGy.get _ (by omega)) (hGy.get _ (by omega)) e; rw [e] at this; cases this
       clear hr3 ho3
       go_wp2_with fail
       go_roundw
       case rel=>exact ⟨2 * i + 1,_,by first | rfl | (congr 1; omega),by omega,by omega,H3⟩
       case measure=>simp [intOf]; omega
      | false=>
       have HM:=Lib.hid hl2; clear hl2
       go_wp2_with fail
       go_ret
       refine ⟨⟨_,rfl⟩,H1.out.done λ k h1 h2 h3=>?_⟩
       have hGy : All GC ys:=λ x hx=>hg x (H1.out.2.1.subset hx)
       have hl:=H1.out.1.len
       unfold okAt
       rw [h3]
       obtain rfl : k = 2 * i + 1:=by omega
       exact HM.out
  · go_wp2_with fail
    go_ret
    exact ⟨⟨_,rfl⟩,H.out.done λ k h1 h2 h3=>by omega⟩
def b5r (p base : Nat) (v : Value) (xs : List K3) (x : K3) (w : World) (e : Ending) (w' : World) : Prop:=
 e = .returned (.tuple #[]) /\ ∃ v' ys,CKp p base w' v' ys /\ ys.Perm (x :: xs) /\ From lessC z3 ys 0 ys.length /\ (v'.ownBlock = v.ownBlock \/ ∃ b,v'.ownBlock = some b /\ w.heap.size <= b) /\ Only (λ k=>k = p \/ v.ownBlock = some k) w w'
set_option maxRecDepth 100000 in
set_option maxHeartbeats 400000 in
theorem c4K {p base : Nat} {v : Value} {xs : List K3} (o : Ord lessC GC) (x : K3) (w : World) (hk : CKp p base w v xs) (hB : base <= w.heap.size) (hl : xs.length <= 100000) (hg : All GC xs) (hx : GC x) (hf : From lessC z3 xs 0 xs.length) :
    Calls Tryz.prog 259 #[.iface 273 (.pointer (some ⟨p,0,none⟩)),.iface 253 (.agg #[.int .i64 x.1,.int .i64 x.2.1,.int .i64 x.2.2])] w (b5r p base v xs x w):=by
 have mp:=c4G
 have ml:=a9J
 have HK:=Lib.hid hk; have HX:=Lib.hid hx; have HG:=Lib.hid hg; have HF:=Lib.hid hf; clear hk hx hg hf
 go_enter Tryz.func259,Tryz.ntmps259
 go_wp2_with fail
 refine (c4E x w HK.out.blk HK.out.row hB (by omega)).mono ?_
 rintro e w1 ⟨rfl,v1,hb1,hr1,hat,ho⟩
 obtain ⟨g,cap,rfl,-⟩:=Kd.R_form hr1 (by simp)
 have hlen : (xs ++ [x]).length = xs.length + 1:=by simp
 rw [hlen] at hb1 hr1 hat
 have H1 : Hid (CKp p base w1 (.slice (some ⟨g,0,none⟩) (xs.length + 1) cap) (xs ++ [x])):=⟨hb1,hr1⟩
 have HA:=Lib.hid hat; have HO:=Lib.hid ho; clear hb1 hr1 hat ho hlen
 have hc:=H1.out.cell
 go_wp2_with fail
 refine (a9G _ _ _ _).mono ?_
 rintro e w2 ⟨rfl,rfl⟩
 go_wp2_with fail
 refine (c4I o xs.length (Nat.lt_succ_self _) _ H1.out ?hG ?hU).mono ?_
 case hG=>
  intro y hy
  rcases List.mem_append.1 hy with h | h
  · exact HG.out y h
  · rw [List.mem_singleton.1 h]; exact HX.out
 case hU=>exact Up.snoc HF.out
 rintro e w3 ⟨rfl,ys,h1,h2,h3,h4⟩
 have HP : Hid (b5r p base v xs x w (.returned (.tuple #[])) w3):=by
  refine ⟨rfl,_,ys,h1,h2.trans (List.perm_append_singleton _ _),by rw [<- h1.len]; exact h3,HA.out,HO.out.trans2 h4 λ k hk e=>?_⟩
  rcases HA.out with ha | ⟨b,hb,hle⟩
  · exact .inr (by rw [<- ha,e]; rfl)
  · have : g = b:=by simpa [Value.ownBlock] using hb
    omega
 clear h1 h2 h3 h4
 go_wp2_with fail
 go_end0
 exact HP.out
def b5s (p base g n cap : Nat) (xs : List K3) (w : World) (e : Ending) (w' : World) : Prop:=
 e = .returned (.iface 253 (.agg #[.int .i64 (xs.getD 0 z3).1,.int .i64 (xs.getD 0 z3).2.1,.int .i64 (xs.getD 0 z3).2.2])) /\ ∃ ys,CKp p base w' (.slice (some ⟨g,0,none⟩) n cap) ys /\ (xs.getD 0 z3 :: ys).Perm xs /\ From lessC z3 ys 0 n /\ Only (λ k=>k = p \/ k = g) w w'
set_option maxRecDepth 100000 in
set_option maxHeartbeats 400000 in
theorem b5t {p base g n cap : Nat} {xs : List K3} (o : Ord lessC GC) (w : World) (hk : CKp p base w (.slice (some ⟨g,0,none⟩) (n + 1) cap) xs) (hl : n <= 100000) (hg : All GC xs) (hf : From lessC z3 xs 0 (n + 1)) :
    Calls Tryz.prog 258 #[.iface 273 (.pointer (some ⟨p,0,none⟩))] w (b5s p base g n cap xs w):=by
 have mp:=c4H
 have ml:=a9J
 have ms:=a9K
 have HK:=Lib.hid hk; have HG:=Lib.hid hg; have HF:=Lib.hid hf; clear hk hg hf
 have hc:=HK.out.cell
 have HN:=Lib.hid HK.out.len
 go_enter Tryz.func258,Tryz.ntmps258
 go_wp2_with fail
 refine (a9G _ _ _ _).mono ?_
 rintro e w2 ⟨rfl,rfl⟩
 go_wp2_with fail
 refine (a7C 0 n (by omega) (by omega) (by omega) (by omega) _ HK.out.row).mono ?_
 rintro e w1 ⟨rfl,hr1,ho1⟩
 have H1:=Lib.hid (HK.out.swapped hr1 ho1)
 have HO:=Lib.hid ho1
 clear hr1 ho1 hc
 have hc:=H1.out.cell
 go_wp2_with fail
 refine (b5q o 0 n (by omega) (by omega) (by omega) _ H1.out ?hG ?hU).mono ?_
 case hG=>exact λ y hy=>HG.out y ((a4d _ _ _ (by rw [<- HN.out]; omega) (by rw [<- HN.out]; omega)).subset hy)
 case hU=>exact From.swapped (by rw [<- HN.out]; omega) HF.out
 rintro e w2 ⟨⟨b,rfl⟩,ys,h1,h2,h3,h4,h5⟩
 have H2:=Lib.hid h1; have HP:=Lib.hid h2; have HF2:=Lib.hid h3; have HE:=Lib.hid (h4 n (Nat.le_refl _)); have HO2:=Lib.hid h5
 clear h1 h2 h3 h4 h5 hc
 have hc:=H2.out.cell
 go_wp2_with fail
 refine (c4F _ H2.out.blk H2.out.row).mono ?_
 rintro e w3 ⟨rfl,hb3,hr3,ho3⟩
 have HQ : Hid (b5s p base g n cap xs w (.returned (.iface 253 (.agg #[.int .i64 (ys.getD n z3).1,.int .i64 (ys.getD n z3).2.1,.int .i64 (ys.getD n z3).2.2]))) w3):=by
  have e1 : ys.getD n z3 = xs.getD 0 z3:=by
   rw [HE.out]
   show (swap z3 xs 0 n).getD n z3 = _
   rw [a3b _ _ _ _ (by rw [<- HN.out]; omega) (by rw [<- HN.out]; omega),if_pos rfl]
  refine ⟨by rw [e1],ys.take n,⟨hb3,hr3⟩,popped HN.out.symm HP.out HE.out,HF2.out.taken,?_⟩
  exact ((HO.out.trans HO2.out).mono (S':=λ k=>k = p \/ k = g) (λ _ _ h=>.inr h)).trans (ho3.mono (λ _ _ h=>.inl h))
 clear hb3 hr3 ho3
 go_wp2_with fail
 go_ret
 exact HQ.out
def c4L (p base : Nat) (v : Value) (xs : List K3) (w : World) (e : Ending) (w' : World) : Prop:=
 e = .returned (.tuple #[]) /\ ∃ ys,CKp p base w' v ys /\ ys.Perm xs /\ From lessC z3 ys 0 ys.length /\ Only (λ k=>v.ownBlock = some k) w w'
set_option maxRecDepth 100000 in
set_option maxHeartbeats 400000 in
theorem b5u {p base : Nat} {v : Value} {xs : List K3} (w : World) (hk : CKp p base w v xs) (hl : xs.length <= 100000) :
    Calls Tryz.prog 257 #[.iface 273 (.pointer (some ⟨p,0,none⟩))] w (c4L p base v xs w):=by
 have ml:=a9J
 obtain ⟨A,c,rfl⟩:=Kd.R_slice hk.row
 obtain ⟨n,hn⟩ : ∃ n,n = xs.length:=⟨_,rfl⟩
 rw [<- hn] at hk hl ⊢
 have hc:=hk.cell
 have HI : Hid (CKp p base w (.slice A n c) xs /\ xs.Perm xs /\ From lessC z3 xs (n / 2) n /\ Only (λ k=>(Value.slice A n c).ownBlock = some k) w w):=⟨hk,.refl _,λ k h1 h2 h3=>by omega,Only.refl _ _⟩
 have HN:=Lib.hid hn
 clear hk hn
 go_enter Tryz.func257,Tryz.ntmps257
 go_wp2_with fail
 refine (a9G _ _ _ _).mono ?_
 rintro e w2 ⟨rfl,rfl⟩
 go_wp2_with fail
 go_loopw [3] (λ iv wr=>∃ (j : Nat) (ys : List K3),iv = .int .i64 ((j : Int) - 1) /\ j <= n / 2 /\ Hid (CKp p base wr (.slice A n c) ys /\ ys.Perm xs /\ From lessC z3 ys j n /\ Only (λ k=>(Value.slice A n c).ownBlock = some k) w wr)) (λ iv _=>(intOf iv + 1).toNat)
 case atStart=>exact ⟨n / 2,xs,by go_num,Nat.le_refl _,HI⟩
 case round=>
  obtain ⟨j,ys,rfl,hj,H⟩:=hrel
  by_cases h0 : j = 0
  · subst h0
    go_wp2_with fail
    go_end0
    have hlen:=(Kd.R_reads' H.out.1.row).1
    exact ⟨rfl,ys,H.out.1,H.out.2.1,by rw [<- hlen]; exact H.out.2.2.1,H.out.2.2.2⟩
  · obtain ⟨m,rfl⟩ : ∃ m,j = m + 1:=⟨j - 1,by omega⟩
    have em : (((m + 1 : Nat) : Int) - 1) = (m : Int):=by omega
    rw [em]
    have hlen:=(Kd.R_reads' H.out.1.row).1
    obtain ⟨g,cap,hf,-⟩:=Kd.R_form H.out.1.row (by omega)
    have e1 : A = some ⟨g,0,none⟩:=by injection hf
    have e2 : c = cap:=by injection hf
    subst e1 e2
    have HL:=Lib.hid hlen
    clear hlen hf em h0
    go_wp2_with fail
    refine (b5q ordC m n (Nat.le_refl _) (by omega) (by omega) _ H.out.1 (λ _ _=>trivial) H.out.2.2.1).mono ?_
    rintro e w3 ⟨⟨b,rfl⟩,zs,h1,h2,h3,-,h5⟩
    have H3 : Hid (CKp p base w3 (.slice (some ⟨g,0,none⟩) n c) zs /\ zs.Perm xs /\ From lessC z3 zs m n /\ Only (λ k=>(Value.slice (some ⟨g,0,none⟩) n c).ownBlock = some k) w w3):=
     ⟨h1,h2.trans H.out.2.1,h3,H.out.2.2.2.trans (h5.mono λ k _ e=>by rw [e]; rfl)⟩
    clear h1 h2 h3 h5
    go_wp2_with fail
    go_roundw
    case rel=>exact ⟨m,zs,by first | rfl | (congr 1; omega),by omega,H3⟩
    case measure=>simp [intOf]
end Go.Proofs.YtflfjpkmjnnodaaGreat
namespace Go.Proofs.YtflfjpkmjnnodaaGreat
open Go.RowKit Go.IntWalk Go.Proofs.YtflfjpkmjnnodaaGreatW.PrintWords
set_option maxRecDepth 100000 in
set_option maxHeartbeats 400000 in
theorem c5l (A : Option Addr) (cp : Nat) (q : List Int) (s : Nat) (w : World) (hr : (Kd.int .i64).C w A 256 q) (hq : q.length = 256) (hs : s <= 256) :
    Calls Tryz.prog 206 #[.slice A 256 cp,.int .i64 s] w λ e w'=>e = .returned (.int .i64 (a0M q s)) /\ w = w':=by
 obtain ⟨z1,z2,z3⟩:=a4I q s (by omega)
 rw [hq] at z1 z3
 have HR:=Lib.hid (And.intro hr (And.intro hq (And.intro z2 z3)))
 obtain ⟨z,hz⟩ : ∃ z,z = a0M q s:=⟨_,rfl⟩
 rw [<- hz] at z1 HR ⊢
 clear hr hq z2 z3 hz
 go_enter Tryz.func206,Tryz.ntmps206
 go_wp2_with fail
 go_loop [5] (λ kv=>∃ (k : Nat),kv = .int .i64 k /\ k <= z) (λ kv=>256 - (intOf kv).toNat)
 case atStart=>exact ⟨0,rfl,by omega⟩
 case round=>
  obtain ⟨k,rfl,hk⟩:=hrel
  by_cases hlt : s + k < 256
  · obtain ⟨ad,rfl,hcell⟩:=a0v HR.out.1 (s + k) hlt
    obtain ⟨x,hx⟩ : ∃ x,x = q.getD (s + k) 0:=⟨_,rfl⟩
    rw [<- hx] at hcell
    obtain ⟨t,ht⟩ : ∃ t,t = s + k:=⟨_,rfl⟩
    have htI : (s : Int) + (k : Int) = (t : Int):=by omega
    rw [<- ht] at hcell hlt
    by_cases hkz : k < z
    · have hx0 : x = 0:=by rw [hx]; exact HR.out.2.2.1 k hkz
      have hb : (x == 0) = true:=by rw [hx0]; rfl
      have HX:=Lib.hid (And.intro hx (And.intro hx0 ht))
      clear hx hx0 ht
      go_wp2_with fail
      go_round
      case rel=>exact ⟨k + 1,by go_num,by omega⟩
      case measure=>have:=HX.out.2.2; simp [intOf]; omega
    · obtain rfl : k = z:=by omega
      have hx0 : ¬ x = 0:=by rw [hx]; exact HR.out.2.2.2 (by omega)
      have hb : (x == 0) = false:=by simpa using hx0
      clear hx ht
      go_wp2_with fail
      go_ret
      exact ⟨rfl,rfl⟩
  · obtain rfl : k = z:=by omega
    go_wp2_with fail
    go_ret
    exact ⟨rfl,rfl⟩
structure Nrm (q : List Int) (r : Nat) : Prop where
 len : q.length = 256
 nn : ∀ x ∈ q,0 <= x
 sum : q.sum = 2 ^ r
 r1 : 1 <= r
 r12 : r <= 12
theorem Nrm.log {q : List Int} {r : Nat} (h : Nrm q r) : logC q = r:=by
 have hp:=a1A h.r12
 have hR : a0P q = true:=rightC_iff.2 ⟨h.len,h.nn,by rw [h.sum]; omega⟩
 unfold logC a1b; rw [if_pos hR]
 exact a6w h.r1 h.r12 h.sum
set_option maxRecDepth 100000 in
set_option maxHeartbeats 1000000 in
theorem b5N (base p cp r : Nat) (A : Option Addr) (v0 : Value) (bs : List Bool) (q : List Int) (w0 w : World) (h : WrVal w base p v0 bs) (hB : base <= w.heap.size) (hl : bs.length <= 800000) (hr : (Kd.int .i64).C w0 A 256 q) (hb0 : Below w0.heap.size w0 w) (hb1 : w0.heap.size <= base) (hb2 : w0.heap.size <= p) (hn : Nrm q r) :
    Calls Tryz.prog 153 #[.pointer (some ⟨p,0,none⟩),.slice A 256 cp] w λ e w'=>e = .returned (.bool true) /\ PutRel base p v0 (bs ++ hdrB q 257 0 (2 ^ r)) w w':=by
 have hp12 : 2 ^ r <= 2 ^ 12:=Nat.pow_le_pow_right (by omega) hn.r12
 have HLen : Hid ((bs ++ hdrB q 257 0 (2 ^ r)).length <= 880000):=by
  show _ <= _
  have e2 : (2 : Int) ^ r = ((2 ^ r : Nat) : Int):=by simp
  have h1:=a3K hn.r12 hn.len hn.nn 257 0 (2 ^ r) (by omega) (by rw [List.drop_zero,hn.sum,e2]) (by rw [Nat.pow_succ]; have:=Nat.two_pow_pos r; omega)
  have h2 : (256 - 0) * (r + 3) <= 256 * 15:=Nat.mul_le_mul (by omega) (by have:=hn.r12; omega)
  rw [List.length_append]; omega
 obtain ⟨P,hP⟩ : ∃ P : Nat,P = 2 ^ r:=⟨_,rfl⟩
 have hPI : (2 : Int) ^ r = (P : Int):=by rw [hP]; simp
 have hPb : 1 <= P /\ P <= 4096:=by have:=Nat.two_pow_pos r; omega
 have hlog:=a5o A cp q w (by rw [hn.len]; exact Kd.C_below hr hb0)
 rw [hn.len] at hlog
 unfold a6x at hlog
 rw [hn.log] at hlog
 have HLog:=Lib.hid hlog
 have hd : decide (r ≠ 0) = true:=decide_eq_true (by have:=hn.r1; omega)
 have hr12 : (r : Int) <= 12:=by have:=hn.r12; omega
 have hr0 : (0 : Int) <= r:=by omega
 have hw1 : IntKind.i64.wrap (2 ^ r) = (P : Int):=by rw [hPI]; exact i64_in _ (by omega)
 have HH:=Lib.hid (And.intro h (And.intro hB (And.intro hl (And.intro hr (And.intro hb0 (And.intro hb1 hb2))))))
 have HN:=Lib.hid hn
 have hsum : (q.drop 0).sum = (P : Int):=by rw [List.drop_zero,hn.sum,hPI]
 have HI : Hid (∃ bs' d,PutRel base p v0 bs' w w /\ bs' ++ hdrB q d 0 P = bs ++ hdrB q 257 0 P /\ (q.drop 0).sum = (P : Int) /\ 257 <= 0 + d):=⟨bs,257,⟨v0,h,.inl rfl,Only.refl _ _⟩,rfl,hsum,by omega⟩
 rw [<- hP] at HLen ⊢
 clear hp12 hP hPI hlog h hB hl hr hb0 hb1 hb2 hn hsum
 go_enter Tryz.func153,Tryz.ntmps153
 go_wp2_with fail
 refine HLog.out.mono ?_
 rintro e w1 ⟨rfl,rfl⟩
 rw [hd]
 go_wp2_with fail
 have HW:=Lib.hid hw1
 clear hw1
 go_loopw [7,8] (λ lv sv wr=>∃ (left s : Nat),lv = .int .i64 left /\ sv = .int .i64 s /\ left <= 4096 /\ s <= 256 /\ Hid (∃ bs' d,PutRel base p v0 bs' w wr /\ bs' ++ hdrB q d s left = bs ++ hdrB q 257 0 P /\ (q.drop s).sum = (left : Int) /\ 257 <= s + d)) (λ _ sv _=>257 - (intOf sv).toNat)
 case atStart=>exact ⟨P,0,rfl,rfl,by omega,by omega,HI⟩
 case round=>
  obtain ⟨left,s,rfl,rfl,hl4,hs,H⟩:=hrel
  obtain ⟨bs',d,hpr,hbs,hsm,hd2⟩:=H.out
  clear H
  by_cases h0 : left = 0
  · have HE : Hid (PutRel base p v0 (bs ++ hdrB q 257 0 P) w wr):=by
      have : hdrB q d s left = []:=by
       cases d with
       | zero=>rfl
       | succ d=>simp only [hdrB]; rw [if_pos h0]
      rw [this,List.append_nil] at hbs
      rw [<- hbs]; exact hpr
    clear hpr hbs hsm hd2
    subst h0
    go_wp2_with fail
    go_ret
    exact ⟨rfl,HE.out⟩
  · have hs256 : s < 256:=by
      by_cases e : s < 256
      · exact e
      · exfalso; rw [List.drop_of_length_le (by have:=HN.out.len; omega)] at hsm; simp at hsm; omega
    obtain ⟨d',rfl⟩ : ∃ d',d = d' + 1:=⟨d - 1,by omega⟩
    have hds:=a5x (q:=q) (s:=s) (by have:=HN.out.len; omega)
    have hdn:=a7a HN.out.nn (s + 1)
    have hx0:=HN.out.nn _ (a1y (show s < q.length by have:=HN.out.len; omega))
    obtain ⟨x,hx⟩ : ∃ x : Nat,q.getD s 0 = x:=⟨(q.getD s 0).toNat,by omega⟩
    have hxl : x <= left:=by omega
    obtain ⟨v1,k1,k2,k3⟩:=hpr
    have hC : (Kd.int .i64).C wr A 256 q:=Kd.C_below HH.out.2.2.2.1 (HH.out.2.2.2.2.1.trans (k3.below HH.out.2.2.2.2.1.size (λ k hk=>by
     rcases hk with hk | hk
     · exact hk ▸ HH.out.2.2.2.2.2.2
     · exact Nat.le_trans HH.out.2.2.2.2.2.1 (Kd.R_base HH.out.1.row k hk))))
    obtain ⟨ad,rfl,hcell⟩:=a0v hC s hs256
    rw [hx] at hcell
    have hunf : hdrB q (d' + 1) s left = a0j x (Lib.bitLen left) ++ (if x = 0 then runB (a0M q (s + 1)) ++ hdrB q d' (s + 1 + a0M q (s + 1)) left else hdrB q d' (s + 1) (left - x)):=by
     simp only [hdrB]
     rw [if_neg h0,hx,Int.toNat_natCast]
     by_cases e : x = 0
     · rw [if_pos (by omega),if_pos e]
     · rw [if_neg (by omega),if_neg e]
    rw [hunf] at hbs
    have hbl : bs'.length <= 880000:=by
     have:=congrArg List.length hbs
     rw [List.length_append] at this
     have:=HLen.out; omega
    have HK:=Lib.hid (And.intro k1 (And.intro k2 k3))
    have HS:=Lib.hid (And.intro hbs (And.intro hbl (And.intro hsm (And.intro hd2 (And.intro hds (And.intro hx hC))))))
    have HB1 : Hid (base <= wr.heap.size):=Nat.le_trans HH.out.2.1 k3.size
    clear k1 k2 k3 hbs hbl hsm hd2 hds hdn hx0 hunf hx hC
    have hs256I : (s : Int) < 256:=by omega
    go_wp2_with fail
    refine (c4c base p v1 bs' x left wr HK.out.1 HB1.out (by have:=HS.out.2.1; omega) (by omega) hl4 hxl).mono ?_
    rintro e w1 ⟨rfl,hp⟩
    have HP:=Lib.hid (PutRel.trans HK.out hp)
    clear hp
    obtain ⟨v2,m1,m2,m3⟩:=HP.out
    have hC1 : (Kd.int .i64).C w1 (some ad) 256 q:=Kd.C_below HH.out.2.2.2.1 (HH.out.2.2.2.2.1.trans (m3.below HH.out.2.2.2.2.1.size (λ k hk=>by
     rcases hk with hk | hk
     · exact hk ▸ HH.out.2.2.2.2.2.2
     · exact Nat.le_trans HH.out.2.2.2.2.2.1 (Kd.R_base HH.out.1.row k hk))))
    obtain ⟨ad',e',hcell1⟩:=a0v hC1 s hs256
    obtain rfl:=Option.some.inj e'
    rw [HS.out.2.2.2.2.2.1] at hcell1
    have HM:=Lib.hid (And.intro m1 (And.intro m2 (And.intro m3 hC1)))
    have HB2 : Hid (base <= w1.heap.size):=Nat.le_trans HH.out.2.1 m3.size
    clear m1 m2 m3 hC1 e' hcell
    by_cases hx0 : x = 0
    · subst hx0
      have hzs:=a4I q (s + 1) (by have:=HN.out.len; omega)
      have hzm:=a7b (q:=q) (t:=s + 1) (by have:=HN.out.len; omega) (a0M q (s + 1)) (Nat.le_refl _)
      have hza:=c5l (some ad) cp q (s + 1) w1 HM.out.2.2.2 HN.out.len (by omega)
      have hbs:=HS.out.1
      rw [if_pos rfl] at hbs
      obtain ⟨z,hz⟩ : ∃ z,z = a0M q (s + 1):=⟨_,rfl⟩
      rw [<- hz] at hzs hzm hza hbs
      have hz255 : s + 1 + z <= 256:=by have:=hzs.1; have:=HN.out.len; omega
      have HZ:=Lib.hid (And.intro hzm (And.intro hza hbs))
      clear hzs hzm hza hz hbs
      go_wp2_with fail
      refine HZ.out.2.1.mono ?_
      rintro e w2 ⟨rfl,rfl⟩
      go_wp2_with fail
      refine (c4e base p v2 (bs' ++ a0j 0 (Lib.bitLen left)) z w1 HM.out.1 HB2.out (by rw [List.length_append,a0E]; have:=HS.out.2.1; have:=(a9x (left:=left) (by omega) hl4).2; omega) (by omega)).mono ?_
      rintro e w3 ⟨rfl,hp3⟩
      have H3 : Hid (∃ bs' d,PutRel base p v0 bs' w w3 /\ bs' ++ hdrB q d (s + z + 1) left = bs ++ hdrB q 257 0 P /\ (q.drop (s + z + 1)).sum = (left : Int) /\ 257 <= s + z + 1 + d):=by
       refine ⟨_,d',PutRel.trans ⟨HM.out.1,HM.out.2.1,HM.out.2.2.1⟩ hp3,?_,?_,?_⟩
       · rw [<- HZ.out.2.2]
         simp only [List.append_assoc]
         rw [show s + 1 + z = s + z + 1 by omega]
       · have h1:=HZ.out.1
         have h2:=HS.out.2.2.2.2.1
         have h3:=HS.out.2.2.1
         rw [HS.out.2.2.2.2.2.1] at h2
         rw [show s + z + 1 = s + 1 + z by omega,<- h1]
         omega
       · have:=HS.out.2.2.2.1; omega
      clear hp3
      go_wp2_with fail
      go_roundw
      case rel=>exact ⟨left,s + z + 1,by first | rfl | go_num,by go_num,by omega,by omega,H3⟩
      case measure=>simp [intOf]; omega
    · have hxb : ((x : Int) == 0) = false:=beq_eq_false_iff_ne.2 (by omega)
      have hls : (left : Int) - (x : Int) = ((left - x : Nat) : Int):=by omega
      have H3 : Hid (∃ bs' d,PutRel base p v0 bs' w w1 /\ bs' ++ hdrB q d (s + 1) (left - x) = bs ++ hdrB q 257 0 P /\ (q.drop (s + 1)).sum = ((left - x : Nat) : Int) /\ 257 <= s + 1 + d):=by
       refine ⟨_,d',HP.out,?_,?_,?_⟩
       · have hbs:=HS.out.1
         rw [if_neg hx0] at hbs
         rw [<- hbs,List.append_assoc]
       · have h2:=HS.out.2.2.2.2.1
         have h3:=HS.out.2.2.1
         rw [HS.out.2.2.2.2.2.1] at h2
         omega
       · have:=HS.out.2.2.2.1; omega
      go_wp2_with fail
      go_roundw
      case rel=>exact ⟨left - x,s + 1,by first | rfl | go_num,by go_num,by omega,by omega,H3⟩
      case measure=>simp [intOf]; omega
end Go.Proofs.YtflfjpkmjnnodaaGreat
namespace Go.Proofs.YtflfjpkmjnnodaaGreat
theorem b0Q : (Tryz.prog.mayEnter && (Tryz.prog.liftsFinal == false) && (Tryz.prog.make == some Make.cut)) = true:=by kernel_rfl
theorem c9z : Tryz.prog.mayEnter = true:=by
 have h:=b0Q
 simp only [Bool.and_eq_true] at h
 exact h.1.1
theorem c9A : Tryz.prog.liftsFinal = false:=by
 have h:=b0Q
 simp only [Bool.and_eq_true,beq_iff_eq] at h
 exact h.1.2
theorem jMake : Tryz.prog.make = some Make.cut:=by
 have h:=b0Q
 simp only [Bool.and_eq_true,beq_iff_eq] at h
 exact h.2
end Go.Proofs.YtflfjpkmjnnodaaGreat
