/- Plain: sums of bytes, bit by bit: they are linear, and bits that are turned within 32 side by side change them. -/
import Derived.Test.YtamimiomglipmaaGreatTM1
import Derived.Test.YtamimiomglipmaaGreatTS1
import Derived.Test.YtamimiomglipmaaGreatTM0
import Derived.BigQuiet
import Derived.Deep.RegionLaw
import Derived.JoinedOf
import Derived.ProofKit
namespace Go.Proofs.YtamimiomglipmaaGreat
open Go.RowKit
def a1J (x : Nat) : Nat:=(x / 2) ^^^ (3988292384 * (x % 2))
def stepN : Nat -> Nat -> Nat
 | 0,x=>x
 | n + 1,x=>stepN n (a1J x)
def a2i (i : Nat) : Nat:=stepN 8 i
def a1y (x c : Nat) : Nat:=(x / 256) ^^^ a2i ((x % 256) ^^^ c)
def crcS (x : Nat) : List Int -> Nat
 | []=>x
 | c :: l=>crcS (a1y x c.toNat) l
def a0L (sum : Nat) (l : List Int) : Nat:=4294967295 - crcS (4294967295 - sum) l
theorem xor_zero {a b : Nat} (h : a ^^^ b = 0) : a = b:=by
 have:=congrArg (λ z=>z ^^^ b) h
 simp only [Nat.xor_assoc,Nat.xor_self,Nat.xor_zero,Nat.zero_xor] at this
 exact this
theorem c2b (a b : Nat) : (a ^^^ b) / 2 = a / 2 ^^^ b / 2:=by
 have:=Nat.shiftRight_xor_distrib (a:=a) (b:=b) (i:=1)
 simpa [Nat.shiftRight_eq_div_pow] using this
theorem c2c (a b : Nat) : (a ^^^ b) % 2 = (a % 2) ^^^ (b % 2):=by
 have:=Nat.xor_mod_two_pow (a:=a) (b:=b) (n:=1)
 simpa using this
theorem c2d (a b : Nat) : a1J (a ^^^ b) = a1J a ^^^ a1J b:=by
 unfold a1J
 rw [c2b,c2c]
 rcases Nat.mod_two_eq_zero_or_one a with ha | ha <;> rcases Nat.mod_two_eq_zero_or_one b with hb | hb <;> rw [ha,hb]
 · simp
 · simp [Nat.xor_assoc]
 · simp only [Nat.mul_zero,Nat.xor_zero,Nat.mul_one,show (1 : Nat) ^^^ 0 = 1 from rfl]
   rw [Nat.xor_assoc,Nat.xor_assoc,Nat.xor_comm (b / 2)]
 · simp only [Nat.mul_one,show (1 : Nat) ^^^ 1 = 0 from rfl,Nat.mul_zero,Nat.xor_zero]
   rw [Nat.xor_assoc,Nat.xor_comm (3988292384) (b / 2 ^^^ 3988292384),Nat.xor_assoc,Nat.xor_self,Nat.xor_zero]
theorem a5b : ∀ (n a b : Nat),stepN n (a ^^^ b) = stepN n a ^^^ stepN n b
 | 0,_,_=>rfl
 | n + 1,a,b=>by unfold stepN; rw [c2d]; exact a5b n _ _
theorem a4k : ∀ (m n a : Nat),stepN (m + n) a = stepN n (stepN m a)
 | 0,n,a=>by rw [Nat.zero_add]; rfl
 | m + 1,n,a=>by rw [show m + 1 + n = (m + n) + 1 by omega]; show stepN (m + n) _ = stepN n (stepN m _); exact a4k m n _
theorem b3B {x : Nat} (h : x < 2 ^ 32) : a1J x < 2 ^ 32:=by
 unfold a1J
 refine Nat.xor_lt_two_pow (by omega) ?_
 rcases Nat.mod_two_eq_zero_or_one x with e | e <;> rw [e] <;> decide
theorem a6H : ∀ (n : Nat) {x : Nat},x < 2 ^ 32 -> stepN n x < 2 ^ 32
 | 0,_,h=>h
 | n + 1,_,h=>a6H n (b3B h)
theorem a6I : ∀ (k h : Nat),stepN k (2 ^ k * h) = h
 | 0,h=>by simp [stepN]
 | k + 1,h=>by
  have e : a1J (2 ^ (k + 1) * h) = 2 ^ k * h:=by
   unfold a1J
   have e1 : 2 ^ (k + 1) * h = 2 * (2 ^ k * h):=by rw [Nat.pow_succ,Nat.mul_comm (2 ^ k) 2,Nat.mul_assoc]
   rw [e1,Nat.mul_div_cancel_left _ (by omega),Nat.mul_mod_right,Nat.mul_zero,Nat.xor_zero]
  show stepN k (a1J _) = h
  rw [e]; exact a6I k h
theorem c2g (x : Nat) : x = 2 ^ 8 * (x / 256) ^^^ x % 256:=by
 apply Nat.eq_of_testBit_eq
 intro i
 have e1 : x % 256 = x % 2 ^ 8:=rfl
 have e2 : x / 256 = x / 2 ^ 8:=rfl
 rw [e1,e2,Nat.testBit_xor,Nat.testBit_two_pow_mul,Nat.testBit_mod_two_pow,Nat.testBit_div_two_pow]
 by_cases h : i < 8
 · have h2 : ¬ i >= 8:=by omega
   simp [h,h2]
 · have h2 : i >= 8:=by omega
   simp [h,h2]
theorem a5c {x c : Nat} : a1y x c = stepN 8 (x ^^^ c):=by
 unfold a1y a2i
 conv=>rhs; rw [c2g x,Nat.xor_assoc,a5b,a6I]
theorem c2h {x c : Nat} (hx : x < 2 ^ 32) (hc : c < 256) : a1y x c < 2 ^ 32:=by
 rw [a5c]; exact a6H 8 (Nat.xor_lt_two_pow hx (by omega))
theorem a4l : ∀ (l : List Int) {x : Nat},x < 2 ^ 32 -> Bytes l -> crcS x l < 2 ^ 32
 | [],_,hx,_=>hx
 | c :: l,_,hx,hl=>by
  have hc:=hl c (by simp)
  exact a4l l (c2h hx (by omega)) (λ y hy=>hl y (by simp [hy]))
theorem a8G : ∀ (a b : List Int) (x : Nat),crcS x (a ++ b) = crcS (crcS x a) b
 | [],_,_=>rfl
 | _ :: a,b,_=>a8G a b _
theorem c2i {a b : List Int} {s : Nat} (hs : s <= 4294967295) (ha : Bytes a) : a0L s (a ++ b) = a0L (a0L s a) b:=by
 unfold a0L
 have:=a4l a (x:=4294967295 - s) (by omega) ha
 rw [a8G,show 4294967295 - (4294967295 - crcS (4294967295 - s) a) = crcS (4294967295 - s) a by omega]
theorem a5d (s : Nat) (l : List Int) : a0L s l <= 4294967295:=by unfold a0L; omega
open Go.IntWalk Go.Proofs.YtamimiomglipmaaGreatW.PrintWords
def c2O (bs : List Bool) (w : World) (e : Ending) (w' : World) : Prop:=∃ v,e = .returned v /\ (Kd.int .u8).R 5 w' w.heap.size (λ _=>True) v (packB bs) /\ Below w.heap.size w w'
set_option maxRecDepth 100000 in
theorem a6U (base p : Nat) (v0 : Value) (bs : List Bool) (w : World) (h : WrVal w base p v0 bs) (hl : bs.length <= 900000) :
    Calls Tryz.prog 117 #[.pointer (some ⟨p,0,none⟩)] w (c2O bs w):=by
 have hc0 : w.cell? ⟨p,0,none⟩ = some v0:=(a0a h.blk 0).trans rfl
 obtain ⟨A,c,rfl⟩:=Kd.R_slice h.row
 have HR:=Lib.hid (Kd.R_reads' h.row)
 have HNil : Hid (A = none -> c = 0):=λ e=>by subst e; exact b2T h.row
 have HL : Hid ((packB bs).length <= 1000000):=by show _ <= _; rw [a0s]; omega
 clear h hl
 go_enter Tryz.func117,Tryz.ntmps117
 go_wp2_with fail
 refine (a6t _ _ _ _ HR.out.2.2 HL.out HR.out.2.1 HNil.out).mono ?_
 rintro e w' ⟨v,rfl,hv,hb⟩
 have H:=Lib.hid (And.intro hv hb)
 clear hv hb
 go_wp2_with fail
 go_ret
 exact ⟨v,rfl,H.out.1,H.out.2⟩
set_option maxRecDepth 100000 in
theorem a5k (x a b : Int) (w : World) : Calls Tryz.prog 192 #[.int .i64 x,.int .i64 a,.int .i64 b] w λ e w'=>e = .returned (.bool (decide (a <= x /\ x <= b))) /\ w = w':=by
 by_cases h : a <= x
 · have e : decide (a <= x /\ x <= b) = decide (x <= b):=by simp [h]
   rw [e]
   go_enter Tryz.func192,Tryz.ntmps192
   go_wp2_with fail
   go_ret
   exact ⟨rfl,rfl⟩
 · have e : decide (a <= x /\ x <= b) = false:=by simp [h]
   rw [e]
   go_enter Tryz.func192,Tryz.ntmps192
   go_wp2_with fail
   go_ret
   exact ⟨rfl,rfl⟩
set_option maxRecDepth 100000 in
theorem c2P (v left : Nat) (w : World) (h1 : 1 <= left) (h2 : left <= 4096) (h3 : v <= left) : Calls Tryz.prog 176 #[.int .i64 v,.int .i64 left] w λ e w'=>e = .returned (.int .i64 (Lib.bitLen left)) /\ w = w':=by
 have d1 : decide ((1 : Int) <= (left : Int) /\ (left : Int) <= 4096) = true:=decide_eq_true (by omega)
 have d2 : decide ((0 : Int) <= (v : Int) /\ (v : Int) <= (left : Int)) = true:=decide_eq_true (by omega)
 have D:=Lib.hid (And.intro d1 d2)
 clear d1 d2
 go_enter Tryz.func176,Tryz.ntmps176
 go_wp2_with fail
 refine (a5k _ _ _ _).mono ?_
 rw [D.out.1]
 rintro e w' ⟨rfl,rfl⟩
 go_wp2_with fail
 refine (a5k _ _ _ _).mono ?_
 rw [D.out.2]
 rintro e w' ⟨rfl,rfl⟩
 go_wp2_with fail
 refine (a4R _ _ (by omega)).mono ?_
 rintro e w' ⟨rfl,rfl⟩
 go_wp2_with fail
 go_ret
 exact ⟨rfl,rfl⟩
theorem a8W {left : Nat} (h1 : 1 <= left) (h2 : left <= 4096) : 1 <= Lib.bitLen left /\ Lib.bitLen left <= 13:=by
 have h:=a3i left (by omega) (by omega)
 refine ⟨h.1,?_⟩
 refine Classical.byContradiction λ hn=>?_
 have : 2 ^ 13 <= 2 ^ (Lib.bitLen left - 1):=Nat.pow_le_pow_right (by omega) (by omega)
 omega
set_option maxRecDepth 100000 in
set_option maxHeartbeats 400000 in
theorem c2Q (base p : Nat) (v0 : Value) (bs : List Bool) (v left : Nat) (w : World) (h : WrVal w base p v0 bs) (hB : base <= w.heap.size) (hl : bs.length <= 900000) (h1 : 1 <= left) (h2 : left <= 4096) (h3 : v <= left) :
    Calls Tryz.prog 150 #[.pointer (some ⟨p,0,none⟩),.int .i64 v,.int .i64 left] w λ e w'=>e = .returned (.bool true) /\ PutRel base p v0 (bs ++ a0l v (Lib.bitLen left)) w w':=by
 have HH:=Lib.hid (And.intro h (And.intro hB hl))
 obtain ⟨b1,b2⟩:=a8W h1 h2
 obtain ⟨n,hn⟩ : ∃ n,n = Lib.bitLen left:=⟨_,rfl⟩
 rw [<- hn] at b1 b2 ⊢
 have HN:=Lib.hid hn
 have hd : decide ((0 : Int) < (n : Int)) = true:=decide_eq_true (by omega)
 clear h hB hl hn
 go_enter Tryz.func150,Tryz.ntmps150
 go_wp2_with fail
 refine (c2P v left _ h1 h2 h3).mono ?_
 rw [<- HN.out]
 rintro e w' ⟨rfl,rfl⟩
 go_wp2_with fail
 refine (a1W base p v0 bs v n w HH.out.1 HH.out.2.1 HH.out.2.2 (by omega) (by omega)).mono ?_
 rintro e w' ⟨rfl,hp⟩
 have HP:=Lib.hid hp
 clear hp
 go_wp2_with fail
 go_ret
 exact ⟨rfl,HP.out⟩
set_option maxRecDepth 100000 in
theorem c2R (n : Nat) (w : World) (h : n <= 255) : Calls Tryz.prog 177 #[.int .i64 n] w λ e w'=>e = .returned (.int .i64 ((2 * (n / 3 + 1) : Nat) : Int)) /\ w = w':=by
 have h0 : ¬ (n : Int) < 0:=by omega
 have h1 : ¬ 255 < (n : Int):=by omega
 obtain ⟨m,hm⟩ : ∃ m,m = n / 3:=⟨_,rfl⟩
 have hm2 : (n : Int) / 3 = (m : Int):=by omega
 have hm3 : m <= 85:=by omega
 rw [<- hm]
 clear hm
 go_enter Tryz.func177,Tryz.ntmps177
 go_wp2_with fail
 go_ret
 exact ⟨a1r (by omega),rfl⟩
set_option maxRecDepth 100000 in
set_option maxHeartbeats 400000 in
theorem c2S (base p : Nat) (v0 : Value) (bs : List Bool) (n : Nat) (w : World) (h : WrVal w base p v0 bs) (hB : base <= w.heap.size) (hl : bs.length <= 890000) (hn : n <= 255) :
    Calls Tryz.prog 152 #[.pointer (some ⟨p,0,none⟩),.int .i64 n] w λ e w'=>e = .returned (.bool true) /\ PutRel base p v0 (bs ++ runB n) w w':=by
 have HH:=Lib.hid (And.intro h (And.intro hB hl))
 have HRl : Hid ((runB n).length <= 172):=by show _ <= _; rw [a6F]; omega
 have hc0 : (((2 * (n / 3 + 1) : Nat) : Int) == 0) = false:=beq_eq_false_iff_ne.2 (by omega)
 obtain ⟨cst,hcst⟩ : ∃ c : Int,c = ((2 * (n / 3 + 1) : Nat) : Int):=⟨_,rfl⟩
 rw [<- hcst] at hc0
 have HC:=Lib.hid hcst
 clear h hB hl hcst
 go_enter Tryz.func152,Tryz.ntmps152
 go_wp2_with fail
 refine (c2R n _ hn).mono ?_
 rw [<- HC.out]
 rintro e w' ⟨rfl,rfl⟩
 go_wp2_with fail
 go_loopw [1] (λ mv wr=>∃ (m : Nat),mv = .int .i64 m /\ m <= n /\ Hid (∃ bs',PutRel base p v0 bs' w wr /\ bs' ++ runB m = bs ++ runB n)) (λ mv _=>(intOf mv).toNat)
 case atStart=>exact ⟨n,rfl,Nat.le_refl _,bs,⟨v0,HH.out.1,.inl rfl,Only.refl _ _⟩,rfl⟩
 case round=>
  obtain ⟨m,rfl,hm,H⟩:=hrel
  obtain ⟨bs',⟨v1,k1,k2,k3⟩,hbs⟩:=H.out
  have hbl : bs'.length <= 900000:=by
   have:=congrArg List.length hbs
   rw [List.length_append,List.length_append] at this
   have:=HRl.out; have:=HH.out.2.2; omega
  have HK:=Lib.hid (And.intro k1 (And.intro k2 k3))
  have HBS:=Lib.hid (And.intro hbs hbl)
  have HB1 : Hid (base <= wr.heap.size):=Nat.le_trans HH.out.2.1 k3.size
  clear k1 k2 k3 hbs hbl H
  by_cases h3 : 3 <= m
  · go_wp2_with fail
    refine (a1W base p v1 bs' 3 2 wr HK.out.1 HB1.out HBS.out.2 (by decide) (by decide)).mono ?_
    rintro e w1 ⟨rfl,hp⟩
    have HP : Hid (∃ bs'',PutRel base p v0 bs'' w w1 /\ bs'' ++ runB (m - 3) = bs ++ runB n):=by
     refine ⟨bs' ++ a0l 3 2,PutRel.trans HK.out hp,?_⟩
     rw [List.append_assoc,<- a8D h3]; exact HBS.out.1
    clear hp
    obtain ⟨m',hm'⟩ : ∃ m',m = m' + 3:=⟨m - 3,by omega⟩
    subst hm'
    rw [Nat.add_sub_cancel] at HP
    have hmm : ((m' + 3 : Nat) : Int) - 3 = (m' : Int):=by omega
    go_wp2_with fail
    go_roundw
    case rel=>exact ⟨m',by first | rfl | (congr 1; omega),by omega,HP⟩
    case measure=>simp [intOf]; omega
  · have hr:=a8C (n:=m) (by omega)
    have HR:=Lib.hid hr
    clear hr
    go_wp2_with fail
    refine (a1W base p v1 bs' m 2 wr HK.out.1 HB1.out HBS.out.2 (by omega) (by decide)).mono ?_
    rintro e w1 ⟨rfl,hp⟩
    have HP : Hid (PutRel base p v0 (bs ++ runB n) w w1):=by
     have:=PutRel.trans HK.out hp
     rw [<- HR.out,HBS.out.1] at this; exact this
    clear hp
    go_wp2_with fail
    go_ret
    exact ⟨rfl,HP.out⟩
end Go.Proofs.YtamimiomglipmaaGreat
namespace Go.Proofs.YtamimiomglipmaaGreat
open Go.RowKit
def headB (r : Nat) (q : List Int) : List Bool:=a0l r 8 ++ hdrB q 257 0 (2 ^ r)
theorem a4q {q : List Int} {r : Nat} (hr12 : r <= 12) (hq : q.length = 256) (hn : ∀ x ∈ q,0 <= x) : ∀ (d s left : Nat),s <= 256 -> (q.drop s).sum = left -> left < 2 ^ (r + 1) -> (hdrB q d s left).length <= (256 - s) * (r + 3):=by
 intro d
 induction d with
 | zero=>intro s left _ _ _; simp [hdrB]
 | succ d ih=>
  intro s left h1 h2 h3
  simp only [hdrB]
  by_cases h0 : left = 0
  · rw [if_pos h0]; simp
  · rw [if_neg h0,List.length_append,a0F]
    have hs : s < 256:=by
     by_cases e : s < 256
     · exact e
     · exfalso; rw [List.drop_of_length_le (by omega)] at h2; simp at h2; omega
    have hsum:=a6G (q:=q) (s:=s) (by omega)
    have hrest:=a8E hn (s + 1)
    have hv0 : 0 <= q.getD s 0:=hn _ (a1p (by omega))
    have hw : Lib.bitLen left <= r + 1:=by
     have hc : ¬ r + 2 <= Lib.bitLen left:=λ e=>by
      have h64 : left < 2 ^ 64:=Nat.lt_of_lt_of_le h3 (Nat.pow_le_pow_right (by omega) (by omega))
      have h4:=(a3i left (by omega) h64).2.1
      have h5 : 2 ^ (r + 1) <= 2 ^ (Lib.bitLen left - 1):=Nat.pow_le_pow_right (by omega) (by omega)
      generalize 2 ^ (r + 1) = A at *
      generalize 2 ^ (Lib.bitLen left - 1) = B at *
      omega
     omega
    by_cases hv2 : q.getD s 0 = 0
    · rw [if_pos hv2,List.length_append,a6F]
      have hs1 : s + 1 <= q.length:=by omega
      obtain ⟨z1,_,_⟩:=a4Z q (s + 1) hs1
      have zs:=a8F (q:=q) hs1 (a0I q (s + 1)) (Nat.le_refl _)
      obtain ⟨z,hz⟩ : ∃ z,z = a0I q (s + 1):=⟨_,rfl⟩
      rw [<- hz] at z1 zs ⊢
      have:=ih (s + 1 + z) left (by omega) (by omega) h3
      obtain ⟨m,hm⟩ : ∃ m,m = 256 - (s + 1 + z):=⟨_,rfl⟩
      rw [<- hm] at this
      rw [show 256 - s = m + (z + 1) by omega,Nat.add_mul,Nat.add_mul,Nat.one_mul]
      have h7 : z * 3 <= z * (r + 3):=Nat.mul_le_mul_left z (by omega)
      omega
    · rw [if_neg hv2]
      have:=ih (s + 1) (left - (q.getD s 0).toNat) (by omega) (by omega) (by omega)
      obtain ⟨m,hm⟩ : ∃ m,m = 256 - (s + 1):=⟨_,rfl⟩
      rw [<- hm] at this
      rw [show 256 - s = m + 1 by omega,Nat.add_mul,Nat.one_mul]
      omega
open Go.IntWalk Go.Proofs.YtamimiomglipmaaGreatW.PrintWords
structure RfAt (w : World) (base p : Nat) (ps : List Int) (at_ : Nat) : Prop where
 ex : ∃ A c,w.heap[p]? = some (.cells #[.slice A ps.length c,.int .i64 at_] 194 (0,0)) /\ (Kd.int .u8).R 5 w base (λ k=>k < p) (.slice A ps.length c) ps
theorem RfAt.drewN {w : World} {base p : Nat} {ps : List Int} {at_ : Nat} (h : RfAt w base p ps at_) (m : Nat) : RfAt (w.drewN m) base p ps at_:=by
 obtain ⟨A,c,h1,h2⟩:=h.ex
 exact ⟨A,c,h1,Kd.R_below h2 (a0i (Below.refl _ _) m)⟩
theorem RfAt.below {w w1 : World} {base p : Nat} {ps : List Int} {at_ : Nat} (h : RfAt w base p ps at_) (hb : Below w.heap.size w w1) : RfAt w1 base p ps at_:=by
 obtain ⟨A,c,h1,h2⟩:=h.ex
 exact ⟨A,c,a0e h1 hb,Kd.R_below h2 hb⟩
theorem RfAt.far {w : World} {base p : Nat} {ps : List Int} {at_ : Nat} (h : RfAt w base p ps at_) {g : Nat} (hg : p < g) (j : Nat) (u : Value) : RfAt (w.setCell ⟨g,j,none⟩ u) base p ps at_:=by
 obtain ⟨A,c,h1,h2⟩:=h.ex
 exact ⟨A,c,a1e h1 (p:=⟨g,j,none⟩) (by show p ≠ g; omega) u,Kd.R_far (p:=⟨g,j,none⟩) h2 (λ k hk=>by show k ≠ g; omega) u⟩
end Go.Proofs.YtamimiomglipmaaGreat
namespace Go.Proofs.YtamimiomglipmaaGreat
open Go.RowKit Go.Proofs.YtamimiomglipmaaGreatW.PrintWords
def lessC (x y : K3) : Bool:=if x.2.1 ≠ y.2.1 then decide (y.2.1 < x.2.1) else if x.2.2 ≠ y.2.2 then decide (y.2.2 < x.2.2) else decide (x.1 < y.1)
def GC (_ : K3) : Prop:=True
theorem b4r {x y : K3} : lessC x y = true ↔ y.2.1 < x.2.1 \/ (y.2.1 = x.2.1 /\ (y.2.2 < x.2.2 \/ (y.2.2 = x.2.2 /\ x.1 < y.1))):=by
 unfold lessC
 by_cases h1 : x.2.1 = y.2.1
 · rw [if_neg (by omega)]
   by_cases h2 : x.2.2 = y.2.2
   · rw [if_neg (by omega),decide_eq_true_iff]; omega
   · rw [if_pos h2,decide_eq_true_iff]; omega
 · rw [if_pos h1,decide_eq_true_iff]; omega
theorem a6X {x y : K3} : lessC x y = false ↔ ¬ (y.2.1 < x.2.1 \/ (y.2.1 = x.2.1 /\ (y.2.2 < x.2.2 \/ (y.2.2 = x.2.2 /\ x.1 < y.1)))):=by
 rw [<- Bool.not_eq_true,b4r]
open HeapL in
theorem ordC : Ord lessC GC where
 asym a b _ _ h:=by
  rw [b4r] at h
  rw [a6X]; omega
 trans a b c _ _ _ h1 h2:=by
  rw [a6X] at h1 h2 ⊢
  omega
set_option maxRecDepth 100000 in
set_option maxHeartbeats 2000000 in
theorem b4s (A : Option Addr) (n c : Nat) (xs : List K3) (i j : Nat) (hi : i < n) (hj : j < n) (w : World) (h : k3.C w A n xs) :
    Calls Tryz.prog 219 #[.slice A n c,.int .i64 i,.int .i64 j] w (Ret (.bool (lessC (xs.getD i z3) (xs.getD j z3))) w):=by
 obtain ⟨ad,rfl,ci⟩:=k3_at h i hi
 obtain ⟨ad',e,cj⟩:=k3_at h j hj
 obtain rfl:=Option.some.inj e
 have hn:=h.2.1
 obtain ⟨x,hx⟩ : ∃ x,x = xs.getD i z3:=⟨_,rfl⟩
 obtain ⟨y,hy⟩ : ∃ x,x = xs.getD j z3:=⟨_,rfl⟩
 rw [<- hx] at ci ⊢
 rw [<- hy] at cj ⊢
 clear hx hy h e
 obtain ⟨a1,a2,a3⟩:=ci
 obtain ⟨b1,b2,b3⟩:=cj
 obtain ⟨s1,p1,q1⟩:=x
 obtain ⟨s2,p2,q2⟩:=y
 simp only [] at a1 a2 a3 b1 b2 b3
 have up1 : ∀ {a v} (o : Obj),w.cell? a = some v -> (w.alloc o).cell? a = some v:=λ o h=>a0o ((Below.refl _ _).alloc (Nat.le_refl _) _) h
 have up2 : ∀ {a v} (o o' : Obj),w.cell? a = some v -> ((w.alloc o).alloc o').cell? a = some v:=λ o o' h=>a0o (((Below.refl _ _).alloc (Nat.le_refl _) _).alloc (by simp) _) h
 have u0:=up1 (.cells #[.int .i64 0,.int .i64 0,.int .i64 0] 215) a1
 have u1:=up1 (.cells #[.int .i64 0,.int .i64 0,.int .i64 0] 215) a2
 have u2:=up1 (.cells #[.int .i64 0,.int .i64 0,.int .i64 0] 215) a3
 have u3:=up1 (.cells #[.int .i64 0,.int .i64 0,.int .i64 0] 215) b1
 have u4:=up1 (.cells #[.int .i64 0,.int .i64 0,.int .i64 0] 215) b2
 have u5:=up1 (.cells #[.int .i64 0,.int .i64 0,.int .i64 0] 215) b3
 have u6:=up1 (.cells #[.int .i64 s1,.int .i64 p1,.int .i64 q1] 215) a1
 have u7:=up1 (.cells #[.int .i64 s1,.int .i64 p1,.int .i64 q1] 215) a2
 have u8:=up1 (.cells #[.int .i64 s1,.int .i64 p1,.int .i64 q1] 215) a3
 have u9:=up1 (.cells #[.int .i64 s1,.int .i64 p1,.int .i64 q1] 215) b1
 have u10:=up1 (.cells #[.int .i64 s1,.int .i64 p1,.int .i64 q1] 215) b2
 have u11:=up1 (.cells #[.int .i64 s1,.int .i64 p1,.int .i64 q1] 215) b3
 have u12:=up1 (.cells #[.int .i64 s2,.int .i64 p2,.int .i64 q2] 215) a1
 have u13:=up1 (.cells #[.int .i64 s2,.int .i64 p2,.int .i64 q2] 215) a2
 have u14:=up1 (.cells #[.int .i64 s2,.int .i64 p2,.int .i64 q2] 215) a3
 have u15:=up1 (.cells #[.int .i64 s2,.int .i64 p2,.int .i64 q2] 215) b1
 have u16:=up1 (.cells #[.int .i64 s2,.int .i64 p2,.int .i64 q2] 215) b2
 have u17:=up1 (.cells #[.int .i64 s2,.int .i64 p2,.int .i64 q2] 215) b3
 have u18:=up2 (.cells #[.int .i64 0,.int .i64 0,.int .i64 0] 215) (.cells #[.int .i64 0,.int .i64 0,.int .i64 0] 215) a1
 have u19:=up2 (.cells #[.int .i64 0,.int .i64 0,.int .i64 0] 215) (.cells #[.int .i64 0,.int .i64 0,.int .i64 0] 215) a2
 have u20:=up2 (.cells #[.int .i64 0,.int .i64 0,.int .i64 0] 215) (.cells #[.int .i64 0,.int .i64 0,.int .i64 0] 215) a3
 have u21:=up2 (.cells #[.int .i64 0,.int .i64 0,.int .i64 0] 215) (.cells #[.int .i64 0,.int .i64 0,.int .i64 0] 215) b1
 have u22:=up2 (.cells #[.int .i64 0,.int .i64 0,.int .i64 0] 215) (.cells #[.int .i64 0,.int .i64 0,.int .i64 0] 215) b2
 have u23:=up2 (.cells #[.int .i64 0,.int .i64 0,.int .i64 0] 215) (.cells #[.int .i64 0,.int .i64 0,.int .i64 0] 215) b3
 have u24:=up2 (.cells #[.int .i64 s1,.int .i64 p1,.int .i64 q1] 215) (.cells #[.int .i64 0,.int .i64 0,.int .i64 0] 215) a1
 have u25:=up2 (.cells #[.int .i64 s1,.int .i64 p1,.int .i64 q1] 215) (.cells #[.int .i64 0,.int .i64 0,.int .i64 0] 215) a2
 have u26:=up2 (.cells #[.int .i64 s1,.int .i64 p1,.int .i64 q1] 215) (.cells #[.int .i64 0,.int .i64 0,.int .i64 0] 215) a3
 have u27:=up2 (.cells #[.int .i64 s1,.int .i64 p1,.int .i64 q1] 215) (.cells #[.int .i64 0,.int .i64 0,.int .i64 0] 215) b1
 have u28:=up2 (.cells #[.int .i64 s1,.int .i64 p1,.int .i64 q1] 215) (.cells #[.int .i64 0,.int .i64 0,.int .i64 0] 215) b2
 have u29:=up2 (.cells #[.int .i64 s1,.int .i64 p1,.int .i64 q1] 215) (.cells #[.int .i64 0,.int .i64 0,.int .i64 0] 215) b3
 have u30:=up2 (.cells #[.int .i64 0,.int .i64 0,.int .i64 0] 215) (.cells #[.int .i64 s1,.int .i64 p1,.int .i64 q1] 215) a1
 have u31:=up2 (.cells #[.int .i64 0,.int .i64 0,.int .i64 0] 215) (.cells #[.int .i64 s1,.int .i64 p1,.int .i64 q1] 215) a2
 have u32:=up2 (.cells #[.int .i64 0,.int .i64 0,.int .i64 0] 215) (.cells #[.int .i64 s1,.int .i64 p1,.int .i64 q1] 215) a3
 have u33:=up2 (.cells #[.int .i64 0,.int .i64 0,.int .i64 0] 215) (.cells #[.int .i64 s1,.int .i64 p1,.int .i64 q1] 215) b1
 have u34:=up2 (.cells #[.int .i64 0,.int .i64 0,.int .i64 0] 215) (.cells #[.int .i64 s1,.int .i64 p1,.int .i64 q1] 215) b2
 have u35:=up2 (.cells #[.int .i64 0,.int .i64 0,.int .i64 0] 215) (.cells #[.int .i64 s1,.int .i64 p1,.int .i64 q1] 215) b3
 have u36:=up2 (.cells #[.int .i64 s2,.int .i64 p2,.int .i64 q2] 215) (.cells #[.int .i64 0,.int .i64 0,.int .i64 0] 215) a1
 have u37:=up2 (.cells #[.int .i64 s2,.int .i64 p2,.int .i64 q2] 215) (.cells #[.int .i64 0,.int .i64 0,.int .i64 0] 215) a2
 have u38:=up2 (.cells #[.int .i64 s2,.int .i64 p2,.int .i64 q2] 215) (.cells #[.int .i64 0,.int .i64 0,.int .i64 0] 215) a3
 have u39:=up2 (.cells #[.int .i64 s2,.int .i64 p2,.int .i64 q2] 215) (.cells #[.int .i64 0,.int .i64 0,.int .i64 0] 215) b1
 have u40:=up2 (.cells #[.int .i64 s2,.int .i64 p2,.int .i64 q2] 215) (.cells #[.int .i64 0,.int .i64 0,.int .i64 0] 215) b2
 have u41:=up2 (.cells #[.int .i64 s2,.int .i64 p2,.int .i64 q2] 215) (.cells #[.int .i64 0,.int .i64 0,.int .i64 0] 215) b3
 have u42:=up2 (.cells #[.int .i64 0,.int .i64 0,.int .i64 0] 215) (.cells #[.int .i64 s2,.int .i64 p2,.int .i64 q2] 215) a1
 have u43:=up2 (.cells #[.int .i64 0,.int .i64 0,.int .i64 0] 215) (.cells #[.int .i64 s2,.int .i64 p2,.int .i64 q2] 215) a2
 have u44:=up2 (.cells #[.int .i64 0,.int .i64 0,.int .i64 0] 215) (.cells #[.int .i64 s2,.int .i64 p2,.int .i64 q2] 215) a3
 have u45:=up2 (.cells #[.int .i64 0,.int .i64 0,.int .i64 0] 215) (.cells #[.int .i64 s2,.int .i64 p2,.int .i64 q2] 215) b1
 have u46:=up2 (.cells #[.int .i64 0,.int .i64 0,.int .i64 0] 215) (.cells #[.int .i64 s2,.int .i64 p2,.int .i64 q2] 215) b2
 have u47:=up2 (.cells #[.int .i64 0,.int .i64 0,.int .i64 0] 215) (.cells #[.int .i64 s2,.int .i64 p2,.int .i64 q2] 215) b3
 clear up1 up2
 by_cases h1 : p1 = p2
 · subst h1
   by_cases h2 : q1 = q2
   · subst h2
     have e : lessC (s1,p1,q1) (s2,p1,q1) = decide (s1 < s2):=by simp [lessC]
     rw [e]
     go_enter Tryz.func219,Tryz.ntmps219
     go_wp2_with fail
     go_region
     all_goals
      go_wp2
      go_ret
      exact ⟨rfl,(((Below.refl _ _).alloc (Nat.le_refl _) _).alloc (by simp) _).drew⟩
   · have hb : (q1 == q2) = false:=by simpa using h2
     have e : lessC (s1,p1,q1) (s2,p1,q2) = decide (q2 < q1):=by simp [lessC,h2]
     rw [e]
     go_enter Tryz.func219,Tryz.ntmps219
     go_wp2_with fail
     go_region
     all_goals
      go_wp2
      go_ret
      exact ⟨rfl,(((Below.refl _ _).alloc (Nat.le_refl _) _).alloc (by simp) _).drew⟩
 · have hb : (p1 == p2) = false:=by simpa using h1
   have e : lessC (s1,p1,q1) (s2,p2,q2) = decide (p2 < p1):=by simp [lessC,h1]
   rw [e]
   go_enter Tryz.func219,Tryz.ntmps219
   go_wp2_with fail
   go_region
   all_goals
    go_wp2
    go_ret
    exact ⟨rfl,(((Below.refl _ _).alloc (Nat.le_refl _) _).alloc (by simp) _).drew⟩
set_option maxRecDepth 100000 in
theorem c3q {e0 : TypeId} {base : Nat} {ok : Nat -> Prop} {g n cap : Nat} {xs : List K3} (i j : Nat) (hi : i < n) (hj : j < n) (hne : i ≠ j) (w : World) (h : k3.R e0 w base ok (.slice (some ⟨g,0,none⟩) n cap) xs) :
    Calls Tryz.prog 220 #[.slice (some ⟨g,0,none⟩) n cap,.int .i64 i,.int .i64 j] w λ e w'=>e = .returned (.tuple #[]) /\ k3.R e0 w' base ok (.slice (some ⟨g,0,none⟩) n cap) (swapL xs i j) /\ Only (λ k=>k = g) w w':=by
 obtain ⟨⟨a1,a2,a3⟩,f1,f2,f3⟩:=a3b h i hi
 obtain ⟨⟨b1,b2,b3⟩,g1,g2,g3⟩:=a3b h j hj
 have hr:=Kd.R_reads' h
 have hn : n <= 9223372036854775807:=by rw [hr.1]; exact hr.2.2.2.1
 clear hr
 obtain ⟨x,hx⟩ : ∃ x,x = xs.getD i z3:=⟨_,rfl⟩
 obtain ⟨y,hy⟩ : ∃ x,x = xs.getD j z3:=⟨_,rfl⟩
 rw [<- hx] at a1 a2 a3
 rw [<- hy] at b1 b2 b3
 have HF : Hid (k3.R e0 ((((((w.setCell ⟨g,i * 3,none⟩ (.int .i64 y.1)).setCell ⟨g,i * 3 + 1,none⟩ (.int .i64 y.2.1)).setCell ⟨g,i * 3 + 2,none⟩ (.int .i64 y.2.2)).setCell ⟨g,j * 3,none⟩ (.int .i64 x.1)).setCell ⟨g,j * 3 + 1,none⟩ (.int .i64 x.2.1)).setCell ⟨g,j * 3 + 2,none⟩ (.int .i64 x.2.2)) base ok (.slice (some ⟨g,0,none⟩) n cap) (swapL xs i j)):=by
  have:=a3c (a3c h i hi y) j hj x
  rw [hx,hy] at this ⊢
  exact this
 clear h
 have n00a : ¬ i * 3 = j * 3:=by omega
 have n01a : ¬ i * 3 = j * 3 + 1:=by omega
 have n02a : ¬ i * 3 = j * 3 + 2:=by omega
 have n10a : ¬ i * 3 + 1 = j * 3:=by omega
 have n11a : ¬ i * 3 + 1 = j * 3 + 1:=by omega
 have n12a : ¬ i * 3 + 1 = j * 3 + 2:=by omega
 have n20a : ¬ i * 3 + 2 = j * 3:=by omega
 have n21a : ¬ i * 3 + 2 = j * 3 + 1:=by omega
 have n22a : ¬ i * 3 + 2 = j * 3 + 2:=by omega
 have n00b : ¬ j * 3 = i * 3:=by omega
 have n01b : ¬ j * 3 = i * 3 + 1:=by omega
 have n02b : ¬ j * 3 = i * 3 + 2:=by omega
 have n10b : ¬ j * 3 + 1 = i * 3:=by omega
 have n11b : ¬ j * 3 + 1 = i * 3 + 1:=by omega
 have n12b : ¬ j * 3 + 1 = i * 3 + 2:=by omega
 have n20b : ¬ j * 3 + 2 = i * 3:=by omega
 have n21b : ¬ j * 3 + 2 = i * 3 + 1:=by omega
 have n22b : ¬ j * 3 + 2 = i * 3 + 2:=by omega
 clear hx hy hne
 go_enter Tryz.func220,Tryz.ntmps220
 go_wp2_with fail
 go_region
 go_wp2
 all_goals go_end0
 exact ⟨rfl,Kd.R_drew HF.out,by refine Only.drew ?_; (repeat (refine Only.set1 ?_ _ _)); exact Only.refl _ _⟩
set_option maxRecDepth 100000 in
theorem c3r {e0 : TypeId} {base : Nat} {ok : Nat -> Prop} {g n cap : Nat} {xs : List K3} (i : Nat) (hi : i < n) (w : World) (h : k3.R e0 w base ok (.slice (some ⟨g,0,none⟩) n cap) xs) :
    Calls Tryz.prog 220 #[.slice (some ⟨g,0,none⟩) n cap,.int .i64 i,.int .i64 i] w λ e w'=>e = .returned (.tuple #[]) /\ k3.R e0 w' base ok (.slice (some ⟨g,0,none⟩) n cap) (swapL xs i i) /\ Only (λ k=>k = g) w w':=by
 obtain ⟨⟨a1,a2,a3⟩,f1,f2,f3⟩:=a3b h i hi
 have hr:=Kd.R_reads' h
 have hn : n <= 9223372036854775807:=by rw [hr.1]; exact hr.2.2.2.1
 clear hr
 obtain ⟨x,hx⟩ : ∃ x,x = xs.getD i z3:=⟨_,rfl⟩
 rw [<- hx] at a1 a2 a3
 have HF : Hid (k3.R e0 ((((((w.setCell ⟨g,i * 3,none⟩ (.int .i64 x.1)).setCell ⟨g,i * 3 + 1,none⟩ (.int .i64 x.2.1)).setCell ⟨g,i * 3 + 2,none⟩ (.int .i64 x.2.2)).setCell ⟨g,i * 3,none⟩ (.int .i64 x.1)).setCell ⟨g,i * 3 + 1,none⟩ (.int .i64 x.2.1)).setCell ⟨g,i * 3 + 2,none⟩ (.int .i64 x.2.2)) base ok (.slice (some ⟨g,0,none⟩) n cap) (swapL xs i i)):=by
  have:=a3c (a3c h i hi x) i hi x
  rw [hx] at this ⊢
  exact this
 clear h
 clear hx
 go_enter Tryz.func220,Tryz.ntmps220
 go_wp2_with fail
 go_region
 go_wp2
 all_goals go_end0
 exact ⟨rfl,Kd.R_drew HF.out,by refine Only.drew ?_; (repeat (refine Only.set1 ?_ _ _)); exact Only.refl _ _⟩
theorem b4t {e0 : TypeId} {base : Nat} {ok : Nat -> Prop} {g n cap : Nat} {xs : List K3} (i j : Nat) (hi : i < n) (hj : j < n) (w : World) (h : k3.R e0 w base ok (.slice (some ⟨g,0,none⟩) n cap) xs) :
    Calls Tryz.prog 220 #[.slice (some ⟨g,0,none⟩) n cap,.int .i64 i,.int .i64 j] w λ e w'=>e = .returned (.tuple #[]) /\ k3.R e0 w' base ok (.slice (some ⟨g,0,none⟩) n cap) (swapL xs i j) /\ Only (λ k=>k = g) w w':=by
 by_cases hne : i = j
 · subst hne; exact c3r i hi w h
 · exact c3q i j hi hj hne w h
set_option maxRecDepth 100000 in
theorem a9f (A : Option Addr) (n c : Nat) (w : World) : Calls Tryz.prog 218 #[.slice A n c] w λ e w'=>e = .returned (.int .i64 n) /\ w = w':=by
 go_enter Tryz.func218,Tryz.ntmps218
 go_wp2
 go_ret
 exact ⟨rfl,rfl⟩
theorem a9g : (Tryz.prog.info? 215).map (λ i=>(i.zero,i.size,i.bytes)) = some (some (.agg #[.int .i64 0,.int .i64 0,.int .i64 0]),k3.sz,24):=by kernel_rfl
theorem a9h (v : Value) (w : World) : (Instr.typeAssert (.iface 215 v) 20 215 false).run Tryz.prog w = .ok v w:=by kernel_rfl
set_option maxRecDepth 100000 in
theorem c3s {base p : Nat} {v : Value} {xs : List K3} (x : K3) (w : World) (hb : w.heap[p]? = some (.cells #[v] 213 (0,0))) (hr : k3.R 215 w base (λ k=>k ≠ p) v xs) (hB : base <= w.heap.size) (hl : xs.length <= 1000000) :
    Calls Tryz.prog 222 #[.pointer (some ⟨p,0,none⟩),.iface 215 (.agg #[.int .i64 x.1,.int .i64 x.2.1,.int .i64 x.2.2])] w λ e w'=>e = .returned (.tuple #[]) /\ ∃ v',w'.heap[p]? = some (.cells #[v'] 213 (0,0)) /\ k3.R 215 w' base (λ k=>k ≠ p) v' (xs ++ [x]) /\ (v'.ownBlock = v.ownBlock \/ ∃ b,v'.ownBlock = some b /\ w.heap.size <= b) /\ Only (λ k=>k = p \/ v.ownBlock = some k) w w':=by
 have hc : w.cell? ⟨p,0,none⟩ = some v:=(a0a hb 0).trans rfl
 have hf:=a0c hb 0
 have ta:=a9h
 have hlt : p < w.heap.size:=a0b hb
 have hpn : ¬ p = w.heap.size:=by omega
 have hpn' : ¬ w.heap.size = p:=by omega
 go_enter Tryz.func222,Tryz.ntmps222
 go_wp2_with fail
 have hfr : ∀ k,w.heap.size <= k -> k ≠ p:=λ k hk e=>by have:=a0b hb; omega
 have hl' : (xs.length + 1) * 24 <= 140737488355328:=by omega
 have hne : some p ≠ v.ownBlock:=λ e=>hr.1 p e.symm rfl
 have HN:=Lib.hid hne; have HR:=Lib.hid hr; have HB:=Lib.hid hB; have HF:=Lib.hid hfr; have HL:=Lib.hid hl'; clear hr hfr hl' hB hne
 go_region_law (first | (refine a4I k3 (w0:=w) base rfl (.tmp 7) (.tmp 10) 213 215 _ 24 rfl Tryz.underlying213 a9g rfl (by decide) (by decide) v xs x [.int .i64 x.1,.int .i64 x.2.1,.int .i64 x.2.2] (λ k=>k ≠ p) (λ _=>False) rfl rfl (a4L _ _ _ x) (λ _ h=>h.elim) HF.out HR.out (Below.refl _ _) HB.out HL.out ?_; intro v1 w1 hr1 hb1 hg1 hat1; obtain ⟨A1,c1,rfl⟩:=Kd.R_slice hr1; simp only [List.length_append,List.length_singleton] at hr1 hat1; have hb2:=a0O hb hg1 HN.out; have hc2 : w1.cell? ⟨p,0,none⟩ = some v:=(a0a hb2 0).trans rfl; have hf2:=a0c hb2 0) | fail)
 all_goals
  go_wp2
  go_end0
  refine ⟨rfl,_,a0h hb2 0 _,Kd.R_far (p:=⟨p,0,none⟩) hr1 (λ k hk=>hk) _,hat1,?_⟩
  exact (Only.of_grown hg1 (λ k hk=>.inr hk)).setCell (p:=⟨p,0,none⟩) (.inl rfl) _
set_option maxRecDepth 100000 in
theorem c3t {base p g n cap : Nat} {xs : List K3} (w : World) (hb : w.heap[p]? = some (.cells #[.slice (some ⟨g,0,none⟩) (n + 1) cap] 213 (0,0))) (hr : k3.R 215 w base (λ k=>k ≠ p) (.slice (some ⟨g,0,none⟩) (n + 1) cap) xs) :
    Calls Tryz.prog 221 #[.pointer (some ⟨p,0,none⟩)] w λ e w'=>e = .returned (.iface 215 (.agg #[.int .i64 (xs.getD n z3).1,.int .i64 (xs.getD n z3).2.1,.int .i64 (xs.getD n z3).2.2])) /\ w'.heap[p]? = some (.cells #[.slice (some ⟨g,0,none⟩) n cap] 213 (0,0)) /\ k3.R 215 w' base (λ k=>k ≠ p) (.slice (some ⟨g,0,none⟩) n cap) (xs.take n) /\ Only (λ k=>k = p) w w':=by
 have hc : w.cell? ⟨p,0,none⟩ = some (.slice (some ⟨g,0,none⟩) (n + 1) cap):=(a0a hb 0).trans rfl
 have hf:=a0c hb 0
 have hlt : p < w.heap.size:=a0b hb
 have hpn : ¬ p = w.heap.size:=by omega
 have hpn' : ¬ w.heap.size = p:=by omega
 have hrd:=Kd.R_reads' hr
 have hn : n + 1 <= 9223372036854775807:=by rw [hrd.1]; exact hrd.2.2.2.1
 have hcap : n + 1 <= cap:=hrd.2.1
 obtain ⟨⟨a1,a2,a3⟩,-⟩:=a3b hr n (by omega)
 have hgl : g < w.heap.size:=Kd.R_lt hr g rfl
 have hgn : ¬ g = w.heap.size:=by omega
 have hgn' : ¬ w.heap.size = g:=by omega
 obtain ⟨x,hx⟩ : ∃ x,x = xs.getD n z3:=⟨_,rfl⟩
 rw [<- hx] at a1 a2 a3 ⊢
 have hr2:=Kd.R_take hr (m:=n) (by rw [<- hrd.1]; omega)
 have HR:=Lib.hid hr2; clear hx hr hrd hr2
 go_enter Tryz.func221,Tryz.ntmps221
 go_wp2
 go_ret
 exact ⟨rfl,a0t (a0h hb 0 _) _,Kd.R_alloc (Kd.R_far (p:=⟨p,0,none⟩) HR.out (λ k hk=>hk) _) _,((Only.refl _ _).set1 _ _).alloc _⟩
end Go.Proofs.YtamimiomglipmaaGreat
namespace Go.Proofs.YtamimiomglipmaaGreat
open Go.RowKit Go.Proofs.YtamimiomglipmaaGreatW.PrintWords
section
variable (f : Nat) (a : Addr) (v : Value) (w : World)
theorem a9i (h : w.cell? a = some v) : (method (f + 1) 234 (.pointer (some a)) "Len").run Tryz.prog w = .ok (218, v) w :=
 a3Z (elem:=213) (by kernel_rfl) (by kernel_rfl) (by kernel_rfl) h
theorem b4u (h : w.cell? a = some v) : (method (f + 1) 234 (.pointer (some a)) "Less").run Tryz.prog w = .ok (219, v) w :=
 a3Z (elem:=213) (by kernel_rfl) (by kernel_rfl) (by kernel_rfl) h
theorem a9j (h : w.cell? a = some v) : (method (f + 1) 234 (.pointer (some a)) "Swap").run Tryz.prog w = .ok (220, v) w :=
 a3Z (elem:=213) (by kernel_rfl) (by kernel_rfl) (by kernel_rfl) h
theorem c3u : (method (f + 1) 234 v "Push").run Tryz.prog w = .ok (222, v) w :=
 a5U (elem:=213) (by kernel_rfl) (by kernel_rfl)
theorem c3v : (method (f + 1) 234 v "Pop").run Tryz.prog w = .ok (221, v) w :=
 a5U (elem:=213) (by kernel_rfl) (by kernel_rfl)
end
structure CKp (p base : Nat) (w : World) (v : Value) (xs : List K3) : Prop where
 blk : w.heap[p]? = some (.cells #[v] 213 (0,0))
 row : k3.R 215 w base (λ k=>k ≠ p) v xs
theorem CKp.cell {p base : Nat} {w : World} {v : Value} {xs : List K3} (h : CKp p base w v xs) : w.cell? ⟨p,0,none⟩ = some v:=(a0a h.blk 0).trans rfl
theorem CKp.below {p base : Nat} {w w1 : World} {v : Value} {xs : List K3} (h : CKp p base w v xs) (hb : Below w.heap.size w w1) : CKp p base w1 v xs:=⟨a0e h.blk hb,Kd.R_below h.row hb⟩
open HeapL
set_option maxRecDepth 100000 in
set_option maxHeartbeats 400000 in
theorem c3w {p base g n cap : Nat} {xs : List K3} (o : Ord lessC GC) (j : Nat) (hj : j < n) (w : World) (hk : CKp p base w (.slice (some ⟨g,0,none⟩) n cap) xs) (hg : All GC xs) (hu : Up lessC z3 xs j) :
    Calls Tryz.prog 194 #[.iface 234 (.pointer (some ⟨p,0,none⟩)),.int .i64 j] w λ e w'=>e = .returned (.tuple #[]) /\ ∃ ys : List K3,CKp p base w' (.slice (some ⟨g,0,none⟩) n cap) ys /\ ys.Perm xs /\ From lessC z3 ys 0 n /\ Only (λ k=>k = g) w w':=by
 have hn : n = xs.length:=(Kd.R_reads' hk.row).1
 have hn2 : n <= 9223372036854775807:=by rw [hn]; exact (Kd.R_reads' hk.row).2.2.2.1
 have ml:=b4u
 have HN:=Lib.hid hn; clear hn
 go_enter Tryz.func194,Tryz.ntmps194
 go_wp2_with fail
 go_loopw [1] (λ jv wr=>∃ (jn : Nat) (ys : List K3),jv = .int .i64 jn /\ jn < n /\ Hid (CKp p base wr (.slice (some ⟨g,0,none⟩) n cap) ys /\ ys.Perm xs /\ Up lessC z3 ys jn /\ Only (λ k=>k = g) w wr)) (λ jv _=>(intOf jv).toNat)
 case atStart=>exact ⟨j,xs,rfl,hj,hk,.refl _,hu,Only.refl _ _⟩
 case round=>
  obtain ⟨jn,ys,rfl,hjn,H⟩:=hrel
  have hc:=H.out.1.cell
  by_cases h0 : jn = 0
  · subst h0
    go_wp2_with fail
    go_end0
    obtain ⟨h1,h2,h3,h4⟩:=H.out
    exact ⟨rfl,ys,h1,h2,by rw [(Kd.R_reads' h1.row).1]; exact h3.stop (.inl rfl),h4⟩
  · have ep : ((jn : Int) - 1) / 2 = (((jn - 1) / 2 : Nat) : Int):=by omega
    have hpl : (jn - 1) / 2 < n:=by omega
    have hne : ¬ (jn - 1) / 2 = jn:=by omega
    go_wp2_with fail
    have hC:=(Kd.R_reads' H.out.1.row)
    refine (b4s (some ⟨g,0,none⟩) n cap ys jn ((jn - 1) / 2) hjn hpl _ (by rw [hC.1]; exact hC.2.2)).mono ?_
    rintro e w1 ⟨rfl,hb⟩
    have HB:=Lib.hid hb
    clear hC hb
    have hc1:=(H.out.1.below HB.out).cell
    have ms:=a9j
    cases hls : lessC (ys.getD jn z3) (ys.getD ((jn - 1) / 2) z3) with
    | false=>
     have HL:=Lib.hid hls; clear hls
     go_wp2_with fail
     go_end0
     obtain ⟨h1,h2,h3,h4⟩:=H.out
     exact ⟨rfl,ys,h1.below HB.out,h2,by rw [(Kd.R_reads' h1.row).1]; exact h3.stop (.inr HL.out),h4.trans (Only.of_below HB.out)⟩
    | true=>
     have HL:=Lib.hid hls; clear hls
     go_wp2_with fail
     refine (b4t ((jn - 1) / 2) jn hpl hjn _ (H.out.1.below HB.out).row).mono ?_
     rintro e w2 ⟨rfl,hr2,ho2⟩
     have HR:=Lib.hid hr2; have HO:=Lib.hid ho2; clear hr2 ho2
     go_wp2_with fail
     go_roundw
     case rel=>
      obtain ⟨h1,h2,h3,h4⟩:=H.out
      have hl : n = ys.length:=(Kd.R_reads' h1.row).1
      have hG : All GC ys:=λ x hx=>hg x (h2.subset hx)
      refine ⟨(jn - 1) / 2,_,rfl,hpl,⟨?_,HR.out⟩,(a3E _ _ _ (by omega) (by omega)).trans h2,h3.step o hG (by omega) (by omega) HL.out,(h4.trans (Only.of_below HB.out)).trans HO.out⟩
      exact (HO.out.block p (a0b (a0e h1.blk HB.out)) (λ e=>Kd.R_away h1.row (λ _ hk=>hk) (by rw [e]; rfl))).trans (a0e h1.blk HB.out)
     case measure=>simp [intOf]; omega
end Go.Proofs.YtamimiomglipmaaGreat
namespace Go.Proofs.YtamimiomglipmaaGreat
open Go.RowKit Go.Proofs.YtamimiomglipmaaGreatW.PrintWords HeapL
def c3x (Q : World -> Prop) (e : Ending) (w : World) : Prop:=(∃ b,e = .returned (.bool b)) /\ Q w
def b4v (p base g n cap : Nat) (xs : List K3) (i0 n0 : Nat) (w w' : World) : Prop:=
 ∃ ys : List K3,CKp p base w' (.slice (some ⟨g,0,none⟩) n cap) ys /\ ys.Perm xs /\ From lessC z3 ys i0 n0 /\ (∀ k,n0 <= k -> ys.getD k z3 = xs.getD k z3) /\ Only (λ k=>k = g) w w'
theorem CKp.len {p base g n cap : Nat} {w : World} {xs : List K3} (h : CKp p base w (.slice (some ⟨g,0,none⟩) n cap) xs) : n = xs.length:=(Kd.R_reads' h.row).1
theorem CKp.read {p base g n cap : Nat} {w : World} {xs : List K3} (h : CKp p base w (.slice (some ⟨g,0,none⟩) n cap) xs) : k3.C w (some ⟨g,0,none⟩) n xs:=by
 have:=Kd.R_reads' h.row
 rw [this.1]; exact this.2.2
theorem CKp.swapped {p base g n cap : Nat} {w w1 : World} {xs ys : List K3} (h : CKp p base w (.slice (some ⟨g,0,none⟩) n cap) xs) (hr : k3.R 215 w1 base (λ k=>k ≠ p) (.slice (some ⟨g,0,none⟩) n cap) ys) (ho : Only (λ k=>k = g) w w1) : CKp p base w1 (.slice (some ⟨g,0,none⟩) n cap) ys:=
 ⟨(ho.block p (a0b h.blk) (λ e=>Kd.R_away h.row (λ _ hk=>hk) (by rw [e]; rfl))).trans h.blk,hr⟩
def CDownInv (p base g n cap : Nat) (xs : List K3) (i0 n0 : Nat) (w : World) (i : Nat) (ys : List K3) (wr : World) : Prop:=
 CKp p base wr (.slice (some ⟨g,0,none⟩) n cap) ys /\ ys.Perm xs /\ Down lessC z3 ys i0 i n0 /\ (∀ k,n0 <= k -> ys.getD k z3 = xs.getD k z3) /\ Only (λ k=>k = g) w wr
theorem CDownInv.below {p base g n cap : Nat} {xs : List K3} {i0 n0 : Nat} {w : World} {i : Nat} {ys : List K3} {wr w1 : World} (h : CDownInv p base g n cap xs i0 n0 w i ys wr) (hb : Below wr.heap.size wr w1) : CDownInv p base g n cap xs i0 n0 w i ys w1:=
 ⟨h.1.below hb,h.2.1,h.2.2.1,h.2.2.2.1,h.2.2.2.2.trans (Only.of_below hb)⟩
theorem CDownInv.done {p base g n cap : Nat} {xs : List K3} {i0 n0 : Nat} {w : World} {i : Nat} {ys : List K3} {wr : World} (h : CDownInv p base g n cap xs i0 n0 w i ys wr) (hs : ∀ k,0 < k -> k < n0 -> (k - 1) / 2 = i -> okAt lessC z3 ys k) : b4v p base g n cap xs i0 n0 w wr:=
 ⟨ys,h.1,h.2.1,h.2.2.1.stop hs,h.2.2.2.1,h.2.2.2.2⟩
theorem CDownInv.step {p base g n cap : Nat} {xs : List K3} {i0 n0 : Nat} {w : World} {i j : Nat} {ys : List K3} {wr w1 : World} (o : Ord lessC GC) (hG : All GC xs) (hn : n0 <= n) (h : CDownInv p base g n cap xs i0 n0 w i ys wr) (hi : i0 <= i) (hj : j < n0) (hji : (j - 1) / 2 = i) (hj0 : 0 < j)
    (hm : ∀ k,0 < k -> k < n0 -> (k - 1) / 2 = i -> lessC (ys.getD k z3) (ys.getD j z3) = false) (hs : lessC (ys.getD j z3) (ys.getD i z3) = true)
    (hr : k3.R 215 w1 base (λ k=>k ≠ p) (.slice (some ⟨g,0,none⟩) n cap) (swapL ys i j)) (ho : Only (λ k=>k = g) wr w1) : CDownInv p base g n cap xs i0 n0 w j (swapL ys i j) w1:=by
 obtain ⟨h1,h2,h3,h4,h5⟩:=h
 have hl:=h1.len
 have hGy : All GC ys:=λ x hx=>hG x (h2.subset hx)
 refine ⟨h1.swapped hr ho,(a3E _ _ _ (by omega) (by omega)).trans h2,h3.step o hGy (by omega) hi hj hji hj0 hm hs,λ k hk=>?_,h5.trans ho⟩
 show (swap z3 ys i j).getD k z3 = _
 rw [a2G _ _ _ _ (by omega) (by omega),if_neg (by omega),if_neg (by omega)]; exact h4 k hk
theorem a6Y {i j : Int} (a b : Nat) (ea : i = a) (eb : j = b) (A : Option Addr) (n c : Nat) (xs : List K3) (hi : a < n) (hj : b < n) (w : World) (h : k3.C w A n xs) :
    Calls Tryz.prog 219 #[.slice A n c,.int .i64 i,.int .i64 j] w (Ret (.bool (lessC (xs.getD a z3) (xs.getD b z3))) w):=by
 subst ea eb; exact b4s A n c xs a b hi hj w h
theorem a6Z {i j : Int} (a b : Nat) (ea : i = a) (eb : j = b) {e0 : TypeId} {base : Nat} {ok : Nat -> Prop} {g n cap : Nat} {xs : List K3} (hi : a < n) (hj : b < n) (w : World) (h : k3.R e0 w base ok (.slice (some ⟨g,0,none⟩) n cap) xs) :
    Calls Tryz.prog 220 #[.slice (some ⟨g,0,none⟩) n cap,.int .i64 i,.int .i64 j] w λ e w'=>e = .returned (.tuple #[]) /\ k3.R e0 w' base ok (.slice (some ⟨g,0,none⟩) n cap) (swapL xs a b) /\ Only (λ k=>k = g) w w':=by
 subst ea eb; exact b4t a b hi hj w h
set_option maxRecDepth 100000 in
set_option maxHeartbeats 1000000 in
theorem b4w {p base g n cap : Nat} {xs : List K3} (o : Ord lessC GC) (i0 n0 : Nat) (hn0 : n0 <= n) (hi0 : i0 <= n0) (hbd : n <= 1000000) (w : World) (hk : CKp p base w (.slice (some ⟨g,0,none⟩) n cap) xs) (hg : All GC xs) (hu : From lessC z3 xs (i0 + 1) n0) :
    Calls Tryz.prog 193 #[.iface 234 (.pointer (some ⟨p,0,none⟩)),.int .i64 i0,.int .i64 n0] w (c3x (b4v p base g n cap xs i0 n0 w)):=by
 have HI : Hid (CDownInv p base g n cap xs i0 n0 w i0 xs w):=⟨hk,.refl _,Down.start hu,λ _ _=>rfl,Only.refl _ _⟩
 have ml:=b4u
 have ms:=a9j
 clear hk hu
 go_enter Tryz.func193,Tryz.ntmps193
 go_wp2_with fail
 go_loopw [7] (λ iv wr=>∃ (i : Nat) (ys : List K3),iv = .int .i64 i /\ i0 <= i /\ i <= n0 /\ Hid (CDownInv p base g n cap xs i0 n0 w i ys wr)) (λ iv _=>n0 - (intOf iv).toNat)
 case atStart=>exact ⟨i0,xs,rfl,Nat.le_refl _,hi0,HI⟩
 case round=>
  obtain ⟨i,ys,rfl,hi1,hi2,H⟩:=hrel
  have hc:=H.out.1.cell
  by_cases hj1 : 2 * i + 1 < n0
  · by_cases hj2 : 2 * i + 2 < n0
    · go_wp2_with fail
      refine (a6Y (2 * i + 2) (2 * i + 1) (by omega) (by omega) (some ⟨g,0,none⟩) n cap ys (by omega) (by omega) _ H.out.1.read).mono ?_
      rintro e w1 ⟨rfl,hb⟩
      have H1:=Lib.hid (H.out.below hb)
      clear hb hc
      have hc:=H1.out.1.cell
      cases hl1 : lessC (ys.getD (2 * i + 2) z3) (ys.getD (2 * i + 1) z3) with
      | true=>
       have HL:=Lib.hid hl1; clear hl1
       go_wp2_with fail
       refine (a6Y (2 * i + 2) i (by omega) rfl (some ⟨g,0,none⟩) n cap ys (by omega) (by omega) _ H1.out.1.read).mono ?_
       rintro e w2 ⟨rfl,hb⟩
       have H2:=Lib.hid (H1.out.below hb)
       clear hb hc
       have hc:=H2.out.1.cell
       cases hl2 : lessC (ys.getD (2 * i + 2) z3) (ys.getD i z3) with
       | true=>
        have HM:=Lib.hid hl2; clear hl2
        go_wp2_with fail
        refine (a6Z i (2 * i + 2) rfl (by omega) (by omega) (by omega) _ H2.out.1.row).mono ?_
        rintro e w3 ⟨rfl,hr3,ho3⟩
        have H3 : Hid (CDownInv p base g n cap xs i0 n0 w (2 * i + 2) (swapL ys i (2 * i + 2)) w3):=by
         refine H2.out.step o hg hn0 hi1 hj2 (by omega) (by omega) (λ k h1 h2 h3=>?_) HM.out hr3 ho3
         have hGy : All GC ys:=λ x hx=>hg x (H2.out.2.1.subset hx)
         have hl:=H2.out.1.len
         rcases (by omega : k = 2 * i + 1 \/ k = 2 * i + 2) with rfl | rfl
         · exact o.asym _ _ (hGy.get _ (by omega)) (hGy.get _ (by omega)) HL.out
         · cases e : lessC (ys.getD (2 * i + 2) z3) (ys.getD (2 * i + 2) z3) with
           | false=>rfl
           | true=>have:=o.asym _ _ (hGy.get _ (by omega)) (hGy.get _ (by omega)) e; rw [e] at this; cases this
        clear hr3 ho3
        go_wp2_with fail
        go_roundw
        case rel=>exact ⟨2 * i + 2,_,by first | rfl | (congr 1; omega),by omega,by omega,H3⟩
        case measure=>simp [intOf]; omega
       | false=>
        have HM:=Lib.hid hl2; clear hl2
        go_wp2_with fail
        go_ret
        refine ⟨⟨_,rfl⟩,H2.out.done λ k h1 h2 h3=>?_⟩
        have hGy : All GC ys:=λ x hx=>hg x (H2.out.2.1.subset hx)
        have hl:=H2.out.1.len
        unfold okAt
        rw [h3]
        rcases (by omega : k = 2 * i + 1 \/ k = 2 * i + 2) with rfl | rfl
        · exact o.trans _ _ _ (hGy.get _ (by omega)) (hGy.get _ (by omega)) (hGy.get _ (by omega)) HM.out (o.asym _ _ (hGy.get _ (by omega)) (hGy.get _ (by omega)) HL.out)
        · exact HM.out
      | false=>
       have HL:=Lib.hid hl1; clear hl1
       go_wp2_with fail
       refine (a6Y (2 * i + 1) i (by omega) rfl (some ⟨g,0,none⟩) n cap ys (by omega) (by omega) _ H1.out.1.read).mono ?_
       rintro e w2 ⟨rfl,hb⟩
       have H2:=Lib.hid (H1.out.below hb)
       clear hb hc
       have hc:=H2.out.1.cell
       cases hl2 : lessC (ys.getD (2 * i + 1) z3) (ys.getD i z3) with
       | true=>
        have HM:=Lib.hid hl2; clear hl2
        go_wp2_with fail
        refine (a6Z i (2 * i + 1) rfl (by omega) (by omega) (by omega) _ H2.out.1.row).mono ?_
        rintro e w3 ⟨rfl,hr3,ho3⟩
        have H3 : Hid (CDownInv p base g n cap xs i0 n0 w (2 * i + 1) (swapL ys i (2 * i + 1)) w3):=by
         refine H2.out.step o hg hn0 hi1 hj1 (by omega) (by omega) (λ k h1 h2 h3=>?_) HM.out hr3 ho3
         have hGy : All GC ys:=λ x hx=>hg x (H2.out.2.1.subset hx)
         have hl:=H2.out.1.len
         rcases (by omega : k = 2 * i + 1 \/ k = 2 * i + 2) with rfl | rfl
         · cases e : lessC (ys.getD (2 * i + 1) z3) (ys.getD (2 * i + 1) z3) with
           | false=>rfl
           | true=>have:=o.asym _ _ (hGy.get _ (by omega)) (hGy.get _ (by omega)) e; rw [e] at this; cases this
         · exact HL.out
        clear hr3 ho3
        go_wp2_with fail
        go_roundw
        case rel=>exact ⟨2 * i + 1,_,by first | rfl | (congr 1; omega),by omega,by omega,H3⟩
        case measure=>simp [intOf]; omega
       | false=>
        have HM:=Lib.hid hl2; clear hl2
        go_wp2_with fail
        go_ret
        refine ⟨⟨_,rfl⟩,H2.out.done λ k h1 h2 h3=>?_⟩
        have hGy : All GC ys:=λ x hx=>hg x (H2.out.2.1.subset hx)
        have hl:=H2.out.1.len
        unfold okAt
        rw [h3]
        rcases (by omega : k = 2 * i + 1 \/ k = 2 * i + 2) with rfl | rfl
        · exact HM.out
        · exact o.trans _ _ _ (hGy.get _ (by omega)) (hGy.get _ (by omega)) (hGy.get _ (by omega)) HM.out HL.out
    · go_wp2_with fail
      refine (a6Y (2 * i + 1) i (by omega) rfl (some ⟨g,0,none⟩) n cap ys (by omega) (by omega) _ H.out.1.read).mono ?_
      rintro e w1 ⟨rfl,hb⟩
      have H1:=Lib.hid (H.out.below hb)
      clear hb hc
      have hc:=H1.out.1.cell
      cases hl2 : lessC (ys.getD (2 * i + 1) z3) (ys.getD i z3) with
      | true=>
       have HM:=Lib.hid hl2; clear hl2
       go_wp2_with fail
       refine (a6Z i (2 * i + 1) rfl (by omega) (by omega) (by omega) _ H1.out.1.row).mono ?_
       rintro e w3 ⟨rfl,hr3,ho3⟩
       have H3 : Hid (CDownInv p base g n cap xs i0 n0 w (2 * i + 1) (swapL ys i (2 * i + 1)) w3):=by
        refine H1.out.step o hg hn0 hi1 hj1 (by omega) (by omega) (λ k h1 h2 h3=>?_) HM.out hr3 ho3
        have hGy : All GC ys:=λ x hx=>hg x (H1.out.2.1.subset hx)
        have hl:=H1.out.1.len
        obtain rfl : k = 2 * i + 1:=by omega
        cases e : lessC (ys.getD (2 * i + 1) z3) (ys.getD (2 * i + 1) z3) with
        | false=>rfl
        | true=>have:=o.asym _ _ (hGy.get _ (by omega)) (hGy.get _ (by omega)) e; rw [e] at this; cases this
       clear hr3 ho3
       go_wp2_with fail
       go_roundw
       case rel=>exact ⟨2 * i + 1,_,by first | rfl | (congr 1; omega),by omega,by omega,H3⟩
       case measure=>simp [intOf]; omega
      | false=>
       have HM:=Lib.hid hl2; clear hl2
       go_wp2_with fail
       go_ret
       refine ⟨⟨_,rfl⟩,H1.out.done λ k h1 h2 h3=>?_⟩
       have hGy : All GC ys:=λ x hx=>hg x (H1.out.2.1.subset hx)
       have hl:=H1.out.1.len
       unfold okAt
       rw [h3]
       obtain rfl : k = 2 * i + 1:=by omega
       exact HM.out
  · go_wp2_with fail
    go_ret
    exact ⟨⟨_,rfl⟩,H.out.done λ k h1 h2 h3=>by omega⟩
def b4x (p base : Nat) (v : Value) (xs : List K3) (x : K3) (w : World) (e : Ending) (w' : World) : Prop:=
 e = .returned (.tuple #[]) /\ ∃ v' ys,CKp p base w' v' ys /\ ys.Perm (x :: xs) /\ From lessC z3 ys 0 ys.length /\ (v'.ownBlock = v.ownBlock \/ ∃ b,v'.ownBlock = some b /\ w.heap.size <= b) /\ Only (λ k=>k = p \/ v.ownBlock = some k) w w'
set_option maxRecDepth 100000 in
set_option maxHeartbeats 400000 in
theorem c3y {p base : Nat} {v : Value} {xs : List K3} (o : Ord lessC GC) (x : K3) (w : World) (hk : CKp p base w v xs) (hB : base <= w.heap.size) (hl : xs.length <= 100000) (hg : All GC xs) (hx : GC x) (hf : From lessC z3 xs 0 xs.length) :
    Calls Tryz.prog 189 #[.iface 234 (.pointer (some ⟨p,0,none⟩)),.iface 215 (.agg #[.int .i64 x.1,.int .i64 x.2.1,.int .i64 x.2.2])] w (b4x p base v xs x w):=by
 have mp:=c3u
 have ml:=a9i
 have HK:=Lib.hid hk; have HX:=Lib.hid hx; have HG:=Lib.hid hg; have HF:=Lib.hid hf; clear hk hx hg hf
 go_enter Tryz.func189,Tryz.ntmps189
 go_wp2_with fail
 refine (c3s x w HK.out.blk HK.out.row hB (by omega)).mono ?_
 rintro e w1 ⟨rfl,v1,hb1,hr1,hat,ho⟩
 obtain ⟨g,cap,rfl,-⟩:=Kd.R_form hr1 (by simp)
 have hlen : (xs ++ [x]).length = xs.length + 1:=by simp
 rw [hlen] at hb1 hr1 hat
 have H1 : Hid (CKp p base w1 (.slice (some ⟨g,0,none⟩) (xs.length + 1) cap) (xs ++ [x])):=⟨hb1,hr1⟩
 have HA:=Lib.hid hat; have HO:=Lib.hid ho; clear hb1 hr1 hat ho hlen
 have hc:=H1.out.cell
 go_wp2_with fail
 refine (a9f _ _ _ _).mono ?_
 rintro e w2 ⟨rfl,rfl⟩
 go_wp2_with fail
 refine (c3w o xs.length (Nat.lt_succ_self _) _ H1.out ?hG ?hU).mono ?_
 case hG=>
  intro y hy
  rcases List.mem_append.1 hy with h | h
  · exact HG.out y h
  · rw [List.mem_singleton.1 h]; exact HX.out
 case hU=>exact Up.snoc HF.out
 rintro e w3 ⟨rfl,ys,h1,h2,h3,h4⟩
 have HP : Hid (b4x p base v xs x w (.returned (.tuple #[])) w3):=by
  refine ⟨rfl,_,ys,h1,h2.trans (List.perm_append_singleton _ _),by rw [<- h1.len]; exact h3,HA.out,HO.out.trans2 h4 λ k hk e=>?_⟩
  rcases HA.out with ha | ⟨b,hb,hle⟩
  · exact .inr (by rw [<- ha,e]; rfl)
  · have : g = b:=by simpa [Value.ownBlock] using hb
    omega
 clear h1 h2 h3 h4
 go_wp2_with fail
 go_end0
 exact HP.out
def b4y (p base g n cap : Nat) (xs : List K3) (w : World) (e : Ending) (w' : World) : Prop:=
 e = .returned (.iface 215 (.agg #[.int .i64 (xs.getD 0 z3).1,.int .i64 (xs.getD 0 z3).2.1,.int .i64 (xs.getD 0 z3).2.2])) /\ ∃ ys,CKp p base w' (.slice (some ⟨g,0,none⟩) n cap) ys /\ (xs.getD 0 z3 :: ys).Perm xs /\ From lessC z3 ys 0 n /\ Only (λ k=>k = p \/ k = g) w w'
set_option maxRecDepth 100000 in
set_option maxHeartbeats 400000 in
theorem b4z {p base g n cap : Nat} {xs : List K3} (o : Ord lessC GC) (w : World) (hk : CKp p base w (.slice (some ⟨g,0,none⟩) (n + 1) cap) xs) (hl : n <= 100000) (hg : All GC xs) (hf : From lessC z3 xs 0 (n + 1)) :
    Calls Tryz.prog 188 #[.iface 234 (.pointer (some ⟨p,0,none⟩))] w (b4y p base g n cap xs w):=by
 have mp:=c3v
 have ml:=a9i
 have ms:=a9j
 have HK:=Lib.hid hk; have HG:=Lib.hid hg; have HF:=Lib.hid hf; clear hk hg hf
 have hc:=HK.out.cell
 have HN:=Lib.hid HK.out.len
 go_enter Tryz.func188,Tryz.ntmps188
 go_wp2_with fail
 refine (a9f _ _ _ _).mono ?_
 rintro e w2 ⟨rfl,rfl⟩
 go_wp2_with fail
 refine (a6Z 0 n (by omega) (by omega) (by omega) (by omega) _ HK.out.row).mono ?_
 rintro e w1 ⟨rfl,hr1,ho1⟩
 have H1:=Lib.hid (HK.out.swapped hr1 ho1)
 have HO:=Lib.hid ho1
 clear hr1 ho1 hc
 have hc:=H1.out.cell
 go_wp2_with fail
 refine (b4w o 0 n (by omega) (by omega) (by omega) _ H1.out ?hG ?hU).mono ?_
 case hG=>exact λ y hy=>HG.out y ((a3E _ _ _ (by rw [<- HN.out]; omega) (by rw [<- HN.out]; omega)).subset hy)
 case hU=>exact From.swapped (by rw [<- HN.out]; omega) HF.out
 rintro e w2 ⟨⟨b,rfl⟩,ys,h1,h2,h3,h4,h5⟩
 have H2:=Lib.hid h1; have HP:=Lib.hid h2; have HF2:=Lib.hid h3; have HE:=Lib.hid (h4 n (Nat.le_refl _)); have HO2:=Lib.hid h5
 clear h1 h2 h3 h4 h5 hc
 have hc:=H2.out.cell
 go_wp2_with fail
 refine (c3t _ H2.out.blk H2.out.row).mono ?_
 rintro e w3 ⟨rfl,hb3,hr3,ho3⟩
 have HQ : Hid (b4y p base g n cap xs w (.returned (.iface 215 (.agg #[.int .i64 (ys.getD n z3).1,.int .i64 (ys.getD n z3).2.1,.int .i64 (ys.getD n z3).2.2]))) w3):=by
  have e1 : ys.getD n z3 = xs.getD 0 z3:=by
   rw [HE.out]
   show (swap z3 xs 0 n).getD n z3 = _
   rw [a2G _ _ _ _ (by rw [<- HN.out]; omega) (by rw [<- HN.out]; omega),if_pos rfl]
  refine ⟨by rw [e1],ys.take n,⟨hb3,hr3⟩,popped HN.out.symm HP.out HE.out,HF2.out.taken,?_⟩
  exact ((HO.out.trans HO2.out).mono (S':=λ k=>k = p \/ k = g) (λ _ _ h=>.inr h)).trans (ho3.mono (λ _ _ h=>.inl h))
 clear hb3 hr3 ho3
 go_wp2_with fail
 go_ret
 exact HQ.out
def c3z (p base : Nat) (v : Value) (xs : List K3) (w : World) (e : Ending) (w' : World) : Prop:=
 e = .returned (.tuple #[]) /\ ∃ ys,CKp p base w' v ys /\ ys.Perm xs /\ From lessC z3 ys 0 ys.length /\ Only (λ k=>v.ownBlock = some k) w w'
set_option maxRecDepth 100000 in
set_option maxHeartbeats 400000 in
theorem b4A {p base : Nat} {v : Value} {xs : List K3} (w : World) (hk : CKp p base w v xs) (hl : xs.length <= 100000) :
    Calls Tryz.prog 187 #[.iface 234 (.pointer (some ⟨p,0,none⟩))] w (c3z p base v xs w):=by
 have ml:=a9i
 obtain ⟨A,c,rfl⟩:=Kd.R_slice hk.row
 obtain ⟨n,hn⟩ : ∃ n,n = xs.length:=⟨_,rfl⟩
 rw [<- hn] at hk hl ⊢
 have hc:=hk.cell
 have HI : Hid (CKp p base w (.slice A n c) xs /\ xs.Perm xs /\ From lessC z3 xs (n / 2) n /\ Only (λ k=>(Value.slice A n c).ownBlock = some k) w w):=⟨hk,.refl _,λ k h1 h2 h3=>by omega,Only.refl _ _⟩
 have HN:=Lib.hid hn
 clear hk hn
 go_enter Tryz.func187,Tryz.ntmps187
 go_wp2_with fail
 refine (a9f _ _ _ _).mono ?_
 rintro e w2 ⟨rfl,rfl⟩
 go_wp2_with fail
 go_loopw [3] (λ iv wr=>∃ (j : Nat) (ys : List K3),iv = .int .i64 ((j : Int) - 1) /\ j <= n / 2 /\ Hid (CKp p base wr (.slice A n c) ys /\ ys.Perm xs /\ From lessC z3 ys j n /\ Only (λ k=>(Value.slice A n c).ownBlock = some k) w wr)) (λ iv _=>(intOf iv + 1).toNat)
 case atStart=>exact ⟨n / 2,xs,by go_num,Nat.le_refl _,HI⟩
 case round=>
  obtain ⟨j,ys,rfl,hj,H⟩:=hrel
  by_cases h0 : j = 0
  · subst h0
    go_wp2_with fail
    go_end0
    have hlen:=(Kd.R_reads' H.out.1.row).1
    exact ⟨rfl,ys,H.out.1,H.out.2.1,by rw [<- hlen]; exact H.out.2.2.1,H.out.2.2.2⟩
  · obtain ⟨m,rfl⟩ : ∃ m,j = m + 1:=⟨j - 1,by omega⟩
    have em : (((m + 1 : Nat) : Int) - 1) = (m : Int):=by omega
    rw [em]
    have hlen:=(Kd.R_reads' H.out.1.row).1
    obtain ⟨g,cap,hf,-⟩:=Kd.R_form H.out.1.row (by omega)
    have e1 : A = some ⟨g,0,none⟩:=by injection hf
    have e2 : c = cap:=by injection hf
    subst e1 e2
    have HL:=Lib.hid hlen
    clear hlen hf em h0
    go_wp2_with fail
    refine (b4w ordC m n (Nat.le_refl _) (by omega) (by omega) _ H.out.1 (λ _ _=>trivial) H.out.2.2.1).mono ?_
    rintro e w3 ⟨⟨b,rfl⟩,zs,h1,h2,h3,-,h5⟩
    have H3 : Hid (CKp p base w3 (.slice (some ⟨g,0,none⟩) n c) zs /\ zs.Perm xs /\ From lessC z3 zs m n /\ Only (λ k=>(Value.slice (some ⟨g,0,none⟩) n c).ownBlock = some k) w w3):=
     ⟨h1,h2.trans H.out.2.1,h3,H.out.2.2.2.trans (h5.mono λ k _ e=>by rw [e]; rfl)⟩
    clear h1 h2 h3 h5
    go_wp2_with fail
    go_roundw
    case rel=>exact ⟨m,zs,by first | rfl | (congr 1; omega),by omega,H3⟩
    case measure=>simp [intOf]
end Go.Proofs.YtamimiomglipmaaGreat
namespace Go.Proofs.YtamimiomglipmaaGreat
open Go.RowKit Go.IntWalk Go.Proofs.YtamimiomglipmaaGreatW.PrintWords
set_option maxRecDepth 100000 in
set_option maxHeartbeats 400000 in
theorem c3Z (A : Option Addr) (cp : Nat) (q : List Int) (s : Nat) (w : World) (hr : (Kd.int .i64).C w A 256 q) (hq : q.length = 256) (hs : s <= 256) :
    Calls Tryz.prog 151 #[.slice A 256 cp,.int .i64 s] w λ e w'=>e = .returned (.int .i64 (a0I q s)) /\ w = w':=by
 obtain ⟨z1,z2,z3⟩:=a4Z q s (by omega)
 rw [hq] at z1 z3
 have HR:=Lib.hid (And.intro hr (And.intro hq (And.intro z2 z3)))
 obtain ⟨z,hz⟩ : ∃ z,z = a0I q s:=⟨_,rfl⟩
 rw [<- hz] at z1 HR ⊢
 clear hr hq z2 z3 hz
 go_enter Tryz.func151,Tryz.ntmps151
 go_wp2_with fail
 go_loop [5] (λ kv=>∃ (k : Nat),kv = .int .i64 k /\ k <= z) (λ kv=>256 - (intOf kv).toNat)
 case atStart=>exact ⟨0,rfl,by omega⟩
 case round=>
  obtain ⟨k,rfl,hk⟩:=hrel
  by_cases hlt : s + k < 256
  · obtain ⟨ad,rfl,hcell⟩:=a0u HR.out.1 (s + k) hlt
    obtain ⟨x,hx⟩ : ∃ x,x = q.getD (s + k) 0:=⟨_,rfl⟩
    rw [<- hx] at hcell
    obtain ⟨t,ht⟩ : ∃ t,t = s + k:=⟨_,rfl⟩
    have htI : (s : Int) + (k : Int) = (t : Int):=by omega
    rw [<- ht] at hcell hlt
    by_cases hkz : k < z
    · have hx0 : x = 0:=by rw [hx]; exact HR.out.2.2.1 k hkz
      have hb : (x == 0) = true:=by rw [hx0]; rfl
      have HX:=Lib.hid (And.intro hx (And.intro hx0 ht))
      clear hx hx0 ht
      go_wp2_with fail
      go_round
      case rel=>exact ⟨k + 1,by go_num,by omega⟩
      case measure=>have:=HX.out.2.2; simp [intOf]; omega
    · obtain rfl : k = z:=by omega
      have hx0 : ¬ x = 0:=by rw [hx]; exact HR.out.2.2.2 (by omega)
      have hb : (x == 0) = false:=by simpa using hx0
      clear hx ht
      go_wp2_with fail
      go_ret
      exact ⟨rfl,rfl⟩
  · obtain rfl : k = z:=by omega
    go_wp2_with fail
    go_ret
    exact ⟨rfl,rfl⟩
structure Nrm (q : List Int) (r : Nat) : Prop where
 len : q.length = 256
 nn : ∀ x ∈ q,0 <= x
 sum : q.sum = 2 ^ r
 r1 : 1 <= r
 r12 : r <= 12
theorem Nrm.log {q : List Int} {r : Nat} (h : Nrm q r) : logC q = r:=by
 have hp:=a1H h.r12
 have hR : a0Z q = true:=rightC_iff.2 ⟨h.len,h.nn,by rw [h.sum]; omega⟩
 unfold logC a1g; rw [if_pos hR]
 exact a7U h.r1 h.r12 h.sum
set_option maxRecDepth 100000 in
set_option maxHeartbeats 1000000 in
theorem b4T (base p cp r : Nat) (A : Option Addr) (v0 : Value) (bs : List Bool) (q : List Int) (w0 w : World) (h : WrVal w base p v0 bs) (hB : base <= w.heap.size) (hl : bs.length <= 800000) (hr : (Kd.int .i64).C w0 A 256 q) (hb0 : Below w0.heap.size w0 w) (hb1 : w0.heap.size <= base) (hb2 : w0.heap.size <= p) (hn : Nrm q r) :
    Calls Tryz.prog 116 #[.pointer (some ⟨p,0,none⟩),.slice A 256 cp] w λ e w'=>e = .returned (.bool true) /\ PutRel base p v0 (bs ++ hdrB q 257 0 (2 ^ r)) w w':=by
 have hp12 : 2 ^ r <= 2 ^ 12:=Nat.pow_le_pow_right (by omega) hn.r12
 have HLen : Hid ((bs ++ hdrB q 257 0 (2 ^ r)).length <= 880000):=by
  show _ <= _
  have e2 : (2 : Int) ^ r = ((2 ^ r : Nat) : Int):=by simp
  have h1:=a4q hn.r12 hn.len hn.nn 257 0 (2 ^ r) (by omega) (by rw [List.drop_zero,hn.sum,e2]) (by rw [Nat.pow_succ]; have:=Nat.two_pow_pos r; omega)
  have h2 : (256 - 0) * (r + 3) <= 256 * 15:=Nat.mul_le_mul (by omega) (by have:=hn.r12; omega)
  rw [List.length_append]; omega
 obtain ⟨P,hP⟩ : ∃ P : Nat,P = 2 ^ r:=⟨_,rfl⟩
 have hPI : (2 : Int) ^ r = (P : Int):=by rw [hP]; simp
 have hPb : 1 <= P /\ P <= 4096:=by have:=Nat.two_pow_pos r; omega
 have hlog:=a4N A cp q w (by rw [hn.len]; exact Kd.C_below hr hb0)
 rw [hn.len] at hlog
 unfold a5Z at hlog
 rw [hn.log] at hlog
 have HLog:=Lib.hid hlog
 have hd : decide (r ≠ 0) = true:=decide_eq_true (by have:=hn.r1; omega)
 have hr12 : (r : Int) <= 12:=by have:=hn.r12; omega
 have hr0 : (0 : Int) <= r:=by omega
 have hw1 : IntKind.i64.wrap (2 ^ r) = (P : Int):=by rw [hPI]; exact i64_in _ (by omega)
 have HH:=Lib.hid (And.intro h (And.intro hB (And.intro hl (And.intro hr (And.intro hb0 (And.intro hb1 hb2))))))
 have HN:=Lib.hid hn
 have hsum : (q.drop 0).sum = (P : Int):=by rw [List.drop_zero,hn.sum,hPI]
 have HI : Hid (∃ bs' d,PutRel base p v0 bs' w w /\ bs' ++ hdrB q d 0 P = bs ++ hdrB q 257 0 P /\ (q.drop 0).sum = (P : Int) /\ 257 <= 0 + d):=⟨bs,257,⟨v0,h,.inl rfl,Only.refl _ _⟩,rfl,hsum,by omega⟩
 rw [<- hP] at HLen ⊢
 clear hp12 hP hPI hlog h hB hl hr hb0 hb1 hb2 hn hsum
 go_enter Tryz.func116,Tryz.ntmps116
 go_wp2_with fail
 refine HLog.out.mono ?_
 rintro e w1 ⟨rfl,rfl⟩
 rw [hd]
 go_wp2_with fail
 have HW:=Lib.hid hw1
 clear hw1
 go_loopw [7,8] (λ lv sv wr=>∃ (left s : Nat),lv = .int .i64 left /\ sv = .int .i64 s /\ left <= 4096 /\ s <= 256 /\ Hid (∃ bs' d,PutRel base p v0 bs' w wr /\ bs' ++ hdrB q d s left = bs ++ hdrB q 257 0 P /\ (q.drop s).sum = (left : Int) /\ 257 <= s + d)) (λ _ sv _=>257 - (intOf sv).toNat)
 case atStart=>exact ⟨P,0,rfl,rfl,by omega,by omega,HI⟩
 case round=>
  obtain ⟨left,s,rfl,rfl,hl4,hs,H⟩:=hrel
  obtain ⟨bs',d,hpr,hbs,hsm,hd2⟩:=H.out
  clear H
  by_cases h0 : left = 0
  · have HE : Hid (PutRel base p v0 (bs ++ hdrB q 257 0 P) w wr):=by
      have : hdrB q d s left = []:=by
       cases d with
       | zero=>rfl
       | succ d=>simp only [hdrB]; rw [if_pos h0]
      rw [this,List.append_nil] at hbs
      rw [<- hbs]; exact hpr
    clear hpr hbs hsm hd2
    subst h0
    go_wp2_with fail
    go_ret
    exact ⟨rfl,HE.out⟩
  · have hs256 : s < 256:=by
      by_cases e : s < 256
      · exact e
      · exfalso; rw [List.drop_of_length_le (by have:=HN.out.len; omega)] at hsm; simp at hsm; omega
    obtain ⟨d',rfl⟩ : ∃ d',d = d' + 1:=⟨d - 1,by omega⟩
    have hds:=a6G (q:=q) (s:=s) (by have:=HN.out.len; omega)
    have hdn:=a8E HN.out.nn (s + 1)
    have hx0:=HN.out.nn _ (a1p (show s < q.length by have:=HN.out.len; omega))
    obtain ⟨x,hx⟩ : ∃ x : Nat,q.getD s 0 = x:=⟨(q.getD s 0).toNat,by omega⟩
    have hxl : x <= left:=by omega
    obtain ⟨v1,k1,k2,k3⟩:=hpr
    have hC : (Kd.int .i64).C wr A 256 q:=Kd.C_below HH.out.2.2.2.1 (HH.out.2.2.2.2.1.trans (k3.below HH.out.2.2.2.2.1.size (λ k hk=>by
     rcases hk with hk | hk
     · exact hk ▸ HH.out.2.2.2.2.2.2
     · exact Nat.le_trans HH.out.2.2.2.2.2.1 (Kd.R_base HH.out.1.row k hk))))
    obtain ⟨ad,rfl,hcell⟩:=a0u hC s hs256
    rw [hx] at hcell
    have hunf : hdrB q (d' + 1) s left = a0l x (Lib.bitLen left) ++ (if x = 0 then runB (a0I q (s + 1)) ++ hdrB q d' (s + 1 + a0I q (s + 1)) left else hdrB q d' (s + 1) (left - x)):=by
     simp only [hdrB]
     rw [if_neg h0,hx,Int.toNat_natCast]
     by_cases e : x = 0
     · rw [if_pos (by omega),if_pos e]
     · rw [if_neg (by omega),if_neg e]
    rw [hunf] at hbs
    have hbl : bs'.length <= 880000:=by
     have:=congrArg List.length hbs
     rw [List.length_append] at this
     have:=HLen.out; omega
    have HK:=Lib.hid (And.intro k1 (And.intro k2 k3))
    have HS:=Lib.hid (And.intro hbs (And.intro hbl (And.intro hsm (And.intro hd2 (And.intro hds (And.intro hx hC))))))
    have HB1 : Hid (base <= wr.heap.size):=Nat.le_trans HH.out.2.1 k3.size
    clear k1 k2 k3 hbs hbl hsm hd2 hds hdn hx0 hunf hx hC
    have hs256I : (s : Int) < 256:=by omega
    go_wp2_with fail
    refine (c2Q base p v1 bs' x left wr HK.out.1 HB1.out (by have:=HS.out.2.1; omega) (by omega) hl4 hxl).mono ?_
    rintro e w1 ⟨rfl,hp⟩
    have HP:=Lib.hid (PutRel.trans HK.out hp)
    clear hp
    obtain ⟨v2,m1,m2,m3⟩:=HP.out
    have hC1 : (Kd.int .i64).C w1 (some ad) 256 q:=Kd.C_below HH.out.2.2.2.1 (HH.out.2.2.2.2.1.trans (m3.below HH.out.2.2.2.2.1.size (λ k hk=>by
     rcases hk with hk | hk
     · exact hk ▸ HH.out.2.2.2.2.2.2
     · exact Nat.le_trans HH.out.2.2.2.2.2.1 (Kd.R_base HH.out.1.row k hk))))
    obtain ⟨ad',e',hcell1⟩:=a0u hC1 s hs256
    obtain rfl:=Option.some.inj e'
    rw [HS.out.2.2.2.2.2.1] at hcell1
    have HM:=Lib.hid (And.intro m1 (And.intro m2 (And.intro m3 hC1)))
    have HB2 : Hid (base <= w1.heap.size):=Nat.le_trans HH.out.2.1 m3.size
    clear m1 m2 m3 hC1 e' hcell
    by_cases hx0 : x = 0
    · subst hx0
      have hzs:=a4Z q (s + 1) (by have:=HN.out.len; omega)
      have hzm:=a8F (q:=q) (t:=s + 1) (by have:=HN.out.len; omega) (a0I q (s + 1)) (Nat.le_refl _)
      have hza:=c3Z (some ad) cp q (s + 1) w1 HM.out.2.2.2 HN.out.len (by omega)
      have hbs:=HS.out.1
      rw [if_pos rfl] at hbs
      obtain ⟨z,hz⟩ : ∃ z,z = a0I q (s + 1):=⟨_,rfl⟩
      rw [<- hz] at hzs hzm hza hbs
      have hz255 : s + 1 + z <= 256:=by have:=hzs.1; have:=HN.out.len; omega
      have HZ:=Lib.hid (And.intro hzm (And.intro hza hbs))
      clear hzs hzm hza hz hbs
      go_wp2_with fail
      refine HZ.out.2.1.mono ?_
      rintro e w2 ⟨rfl,rfl⟩
      go_wp2_with fail
      refine (c2S base p v2 (bs' ++ a0l 0 (Lib.bitLen left)) z w1 HM.out.1 HB2.out (by rw [List.length_append,a0F]; have:=HS.out.2.1; have:=(a8W (left:=left) (by omega) hl4).2; omega) (by omega)).mono ?_
      rintro e w3 ⟨rfl,hp3⟩
      have H3 : Hid (∃ bs' d,PutRel base p v0 bs' w w3 /\ bs' ++ hdrB q d (s + z + 1) left = bs ++ hdrB q 257 0 P /\ (q.drop (s + z + 1)).sum = (left : Int) /\ 257 <= s + z + 1 + d):=by
       refine ⟨_,d',PutRel.trans ⟨HM.out.1,HM.out.2.1,HM.out.2.2.1⟩ hp3,?_,?_,?_⟩
       · rw [<- HZ.out.2.2]
         simp only [List.append_assoc]
         rw [show s + 1 + z = s + z + 1 by omega]
       · have h1:=HZ.out.1
         have h2:=HS.out.2.2.2.2.1
         have h3:=HS.out.2.2.1
         rw [HS.out.2.2.2.2.2.1] at h2
         rw [show s + z + 1 = s + 1 + z by omega,<- h1]
         omega
       · have:=HS.out.2.2.2.1; omega
      clear hp3
      go_wp2_with fail
      go_roundw
      case rel=>exact ⟨left,s + z + 1,by first | rfl | go_num,by go_num,by omega,by omega,H3⟩
      case measure=>simp [intOf]; omega
    · have hxb : ((x : Int) == 0) = false:=beq_eq_false_iff_ne.2 (by omega)
      have hls : (left : Int) - (x : Int) = ((left - x : Nat) : Int):=by omega
      have H3 : Hid (∃ bs' d,PutRel base p v0 bs' w w1 /\ bs' ++ hdrB q d (s + 1) (left - x) = bs ++ hdrB q 257 0 P /\ (q.drop (s + 1)).sum = ((left - x : Nat) : Int) /\ 257 <= s + 1 + d):=by
       refine ⟨_,d',HP.out,?_,?_,?_⟩
       · have hbs:=HS.out.1
         rw [if_neg hx0] at hbs
         rw [<- hbs,List.append_assoc]
       · have h2:=HS.out.2.2.2.2.1
         have h3:=HS.out.2.2.1
         rw [HS.out.2.2.2.2.2.1] at h2
         omega
       · have:=HS.out.2.2.2.1; omega
      go_wp2_with fail
      go_roundw
      case rel=>exact ⟨left - x,s + 1,by first | rfl | go_num,by go_num,by omega,by omega,H3⟩
      case measure=>simp [intOf]; omega
end Go.Proofs.YtamimiomglipmaaGreat
namespace Go.Proofs.YtamimiomglipmaaGreat
theorem b0q : (Tryz.prog.mayEnter && (Tryz.prog.liftsFinal == false) && (Tryz.prog.make == some Make.cut)) = true:=by kernel_rfl
theorem c7O : Tryz.prog.mayEnter = true:=by
 have h:=b0q
 simp only [Bool.and_eq_true] at h
 exact h.1.1
theorem c7P : Tryz.prog.liftsFinal = false:=by
 have h:=b0q
 simp only [Bool.and_eq_true,beq_iff_eq] at h
 exact h.1.2
theorem jMake : Tryz.prog.make = some Make.cut:=by
 have h:=b0q
 simp only [Bool.and_eq_true,beq_iff_eq] at h
 exact h.2
end Go.Proofs.YtamimiomglipmaaGreat
