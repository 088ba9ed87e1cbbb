/- The references, as the kit's print reads them (laid by a program of this session; what is not named is left out). -/
import Derived.Test.YtflfjpkmjnnodaaGreatHS1
import Derived.Test.YtflfjpkmjnnodaaGreatHR1
namespace Go.Proofs.YtflfjpkmjnnodaaGreat.PRef
open Go.RowKit Go.Proofs.YtflfjpkmjnnodaaGreatW.PrintWords Go.Proofs.YtflfjpkmjnnodaaGreatW.PrintLast Go.Proofs.YtflfjpkmjnnodaaGreatW.PrintMore
attribute [local go_sem] a1Z a1Q a2a a1R a2p a2q a2r a2s   -- for this text's walks alone
set_option linter.unusedVariables false
set_option linter.unusedSimpArgs false
mutual
def puncheonref16_Right.j0 : Nat -> Bool -> Int -> Bool -> List (List Int) -> Option (Bool)
 | 0,_,_,_,_=>none
 | k + 1,x32,x216000,x216001,x216002=>if x32 = true then (some false) else (puncheonref16_Right.l0 k 0 x216000 x216001 x216002)
def puncheonref16_Right.l0 : Nat -> Int -> Int -> Bool -> List (List Int) -> Option (Bool)
 | 0,_,_,_,_=>none
 | k + 1,x3,x216000,x216001,x216002=>if x3 < (x216002.length : Int) then (if 0 <= x3 then (if ((rd_L3 x216002 x3).length : Int) = 0 then (puncheonref16_Right.j2 k x3 (!x216001) x216000 x216001 x216002) else (puncheonref16_Right.j2 k x3 false x216000 x216001 x216002)) else (none)) else (some true)
def puncheonref16_Right.j2 : Nat -> Int -> Bool -> Int -> Bool -> List (List Int) -> Option (Bool)
 | 0,_,_,_,_,_=>none
 | k + 1,x3,x51,x216000,x216001,x216002=>if x51 = true then (puncheonref16_Right.l0 k (wrap64 (x3 + 1)) x216000 x216001 x216002) else (if 0 <= x3 then (if x3 < (x216002.length : Int) then ((puncheonref08_Log.f k (rd_L3 x216002 x3)).bind λ t218=>(if t218 = x216000 then (puncheonref16_Right.l0 k (wrap64 (x3 + 1)) x216000 x216001 x216002) else (some false))) else (none)) else (none))
end
def puncheonref16_Right.f (k : Nat) (a0_0 : Int) (a0_1 : Bool) (l0_2 : List (List Int)) : Option (Bool):=if a0_0 < 1 then (puncheonref16_Right.j0 k true a0_0 a0_1 l0_2) else (if a0_0 > 12 then (puncheonref16_Right.j0 k true a0_0 a0_1 l0_2) else (if a0_1 = true then (if (l0_2.length : Int) = 1 then (puncheonref16_Right.j0 k false a0_0 a0_1 l0_2) else (puncheonref16_Right.j0 k true a0_0 a0_1 l0_2)) else (puncheonref16_Right.j0 k ((l0_2.length : Int) != 256) a0_0 a0_1 l0_2)))
theorem puncheonref16_Right.mono_l : ∀ k,(∀ y0 y1 y2 y3,LeO (puncheonref16_Right.j0 k y0 y1 y2 y3) (puncheonref16_Right.j0 (k + 1) y0 y1 y2 y3)) /\ (∀ y0 y1 y2 y3,LeO (puncheonref16_Right.l0 k y0 y1 y2 y3) (puncheonref16_Right.l0 (k + 1) y0 y1 y2 y3)) /\ (∀ y0 y1 y2 y3 y4,LeO (puncheonref16_Right.j2 k y0 y1 y2 y3 y4) (puncheonref16_Right.j2 (k + 1) y0 y1 y2 y3 y4))
 | 0=>⟨λ _ _ _ _ r h=>by simp [puncheonref16_Right.j0] at h,λ _ _ _ _ r h=>by simp [puncheonref16_Right.l0] at h,λ _ _ _ _ _ r h=>by simp [puncheonref16_Right.j2] at h⟩
 | k + 1=>by
  obtain ⟨ih0,ih1,ih2⟩:=puncheonref16_Right.mono_l k
  refine ⟨?_,?_,?_⟩
  · intro y0 y1 y2 y3
    unfold puncheonref16_Right.j0
    repeat' first
    | (with_reducible exact ih0 _ _ _ _)
    | (with_reducible exact ih1 _ _ _ _)
    | (with_reducible exact ih2 _ _ _ _ _)
    | (with_reducible exact puncheonref08_Log.mono _ _)
    | (with_reducible exact LeO.refl _)
    | (with_reducible exact LeO.none _)
    | (with_reducible refine LeO.ite ?_ ?_)
    | (with_reducible refine LeO.bind ?_ (λ _=>?_))
    | exact ih0 _ _ _ _
    | exact ih1 _ _ _ _
    | exact ih2 _ _ _ _ _
    | exact puncheonref08_Log.mono _ _
    | exact LeO.none _
    | refine LeO.ite ?_ ?_
    | refine LeO.bind ?_ (λ _=>?_)
  · intro y0 y1 y2 y3
    unfold puncheonref16_Right.l0
    repeat' first
    | (with_reducible exact ih0 _ _ _ _)
    | (with_reducible exact ih1 _ _ _ _)
    | (with_reducible exact ih2 _ _ _ _ _)
    | (with_reducible exact puncheonref08_Log.mono _ _)
    | (with_reducible exact LeO.refl _)
    | (with_reducible exact LeO.none _)
    | (with_reducible refine LeO.ite ?_ ?_)
    | (with_reducible refine LeO.bind ?_ (λ _=>?_))
    | exact ih0 _ _ _ _
    | exact ih1 _ _ _ _
    | exact ih2 _ _ _ _ _
    | exact puncheonref08_Log.mono _ _
    | exact LeO.none _
    | refine LeO.ite ?_ ?_
    | refine LeO.bind ?_ (λ _=>?_)
  · intro y0 y1 y2 y3 y4
    unfold puncheonref16_Right.j2
    repeat' first
    | (with_reducible exact ih0 _ _ _ _)
    | (with_reducible exact ih1 _ _ _ _)
    | (with_reducible exact ih2 _ _ _ _ _)
    | (with_reducible exact puncheonref08_Log.mono _ _)
    | (with_reducible exact LeO.refl _)
    | (with_reducible exact LeO.none _)
    | (with_reducible refine LeO.ite ?_ ?_)
    | (with_reducible refine LeO.bind ?_ (λ _=>?_))
    | exact ih0 _ _ _ _
    | exact ih1 _ _ _ _
    | exact ih2 _ _ _ _ _
    | exact puncheonref08_Log.mono _ _
    | exact LeO.none _
    | refine LeO.ite ?_ ?_
    | refine LeO.bind ?_ (λ _=>?_)
theorem puncheonref16_Right.mono : ∀ a0 a1 a2 k,LeO (puncheonref16_Right.f k a0 a1 a2) (puncheonref16_Right.f (k + 1) a0 a1 a2):=by
 intro a0 a1 a2 k
 obtain ⟨ih0,ih1,ih2⟩:=puncheonref16_Right.mono_l k
 unfold puncheonref16_Right.f
 repeat' first
     | (with_reducible exact ih0 _ _ _ _)
     | (with_reducible exact ih1 _ _ _ _)
     | (with_reducible exact ih2 _ _ _ _ _)
     | (with_reducible exact puncheonref08_Log.mono _ _)
     | (with_reducible exact LeO.refl _)
     | (with_reducible exact LeO.none _)
     | (with_reducible refine LeO.ite ?_ ?_)
     | (with_reducible refine LeO.bind ?_ (λ _=>?_))
     | exact ih0 _ _ _ _
     | exact ih1 _ _ _ _
     | exact ih2 _ _ _ _ _
     | exact puncheonref08_Log.mono _ _
     | exact LeO.none _
     | refine LeO.ite ?_ ?_
     | refine LeO.bind ?_ (λ _=>?_)
set_option maxHeartbeats 8000000 in
set_option maxRecDepth 100000 in
theorem puncheonref16_Right.calls (k : Nat) (a0_0 : Int) (a0_1 : Bool) (A0_2 : Option Addr) (c0_2 : Nat) (l0_2 : List (List Int)) (r : Bool) (w : World) (hr0_2 : Kd.C (Kd.slice 3 (Kd.int .i64)) w A0_2 l0_2.length l0_2) (hc0_2 : l0_2.length <= c0_2) (h : puncheonref16_Right.f k a0_0 a0_1 l0_2 = some r) :
    Calls Tryz.prog 121 #[.agg #[.int .i64 a0_0,.bool a0_1,.slice A0_2 l0_2.length c0_2]] w λ e w'=>e = .returned (.bool r) /\ Below w.heap.size w w':=by
 have hu26:=Tryz.underlying26
 have HR0_2:=Aside0.mk hr0_2
 have HC0_2:=Aside0.mk hc0_2
 clear hr0_2 hc0_2
 have HB:=Aside0.mk (Below.refl w.heap.size w)
 have H : (if a0_0 < 1 then (puncheonref16_Right.j0 k true a0_0 a0_1 l0_2) else (if a0_0 > 12 then (puncheonref16_Right.j0 k true a0_0 a0_1 l0_2) else (if a0_1 = true then (if (l0_2.length : Int) = 1 then (puncheonref16_Right.j0 k false a0_0 a0_1 l0_2) else (puncheonref16_Right.j0 k true a0_0 a0_1 l0_2)) else (puncheonref16_Right.j0 k ((l0_2.length : Int) != 256) a0_0 a0_1 l0_2)))) = some r:=h
 clear h
 have HC2:=Aside0.mk H
 clear H
 go_enter Tryz.func121,Tryz.ntmps121
 go_upto_region 1 with (first | ((with_reducible refine a1E (N:=1) rfl ?_); (try (refine a2x (by rfl) ?_; dsimp only)); refine a2X ?hg (N:=1) ?hd (cs:=#[.int .i64 a0_0,.bool a0_1,.slice A0_2 l0_2.length c0_2]) (t:=26) ?hr ?_; (case hd=>rfl); (case hg=>rfl); (case hr=>first | (go_simp; done) | (go_simp; rfl)); intro gb215 hg w3 hbox hb; have n0_:=Aside0.mk (a1j (by repeat (first | (with_reducible first | exact HB.out | apply a0c | apply a0b | apply a0d) | exact HB.out)) hb); have n1_:=Aside0.mk (hbox); have n2_:=Aside0.mk ((by rw [hg]; exact (a0N (by repeat (first | (with_reducible first | exact HB.out | apply a0c | apply a0b | apply a0d) | exact HB.out))) : w.heap.size <= gb215)); have n3_:=Aside0.mk ((by rw [hg]; exact (a0N (by repeat (first | (with_reducible first | exact HB.out | apply a0c | apply a0b | apply a0d) | exact HB.out))) : w.heap.size <= gb215)); clear HB; have HB:=n0_; have BK215:=n1_; have GW215:=n2_; have GE215:=n3_; clear n0_ n1_ n2_ n3_; clear hb hbox hg))
 repeat (go_quiet (first | ((with_reducible refine a1E (N:=1) rfl ?_); (try (refine a2x (by rfl) ?_; dsimp only)); refine a2X ?hg (N:=1) ?hd (cs:=#[.int .i64 a0_0,.bool a0_1,.slice A0_2 l0_2.length c0_2]) (t:=26) ?hr ?_; (case hd=>rfl); (case hg=>rfl); (case hr=>first | (go_simp; done) | (go_simp; rfl)); intro gb215 hg w3 hbox hb; have n0_:=Aside0.mk (a1j (by repeat (first | (with_reducible first | exact HB.out | apply a0c | apply a0b | apply a0d) | exact HB.out)) hb); have n1_:=Aside0.mk (hbox); have n2_:=Aside0.mk ((by rw [hg]; exact (a0N (by repeat (first | (with_reducible first | exact HB.out | apply a0c | apply a0b | apply a0d) | exact HB.out))) : w.heap.size <= gb215)); have n3_:=Aside0.mk ((by rw [hg]; exact (a0N (by repeat (first | (with_reducible first | exact HB.out | apply a0c | apply a0b | apply a0d) | exact HB.out))) : w.heap.size <= gb215)); clear HB; have HB:=n0_; have BK215:=n1_; have GW215:=n2_; have GE215:=n3_; clear n0_ n1_ n2_ n3_; clear hb hbox hg)); go_upto_region 1 with (first | ((with_reducible refine a1E (N:=1) rfl ?_); (try (refine a2x (by rfl) ?_; dsimp only)); refine a2X ?hg (N:=1) ?hd (cs:=#[.int .i64 a0_0,.bool a0_1,.slice A0_2 l0_2.length c0_2]) (t:=26) ?hr ?_; (case hd=>rfl); (case hg=>rfl); (case hr=>first | (go_simp; done) | (go_simp; rfl)); intro gb215 hg w3 hbox hb; have n0_:=Aside0.mk (a1j (by repeat (first | (with_reducible first | exact HB.out | apply a0c | apply a0b | apply a0d) | exact HB.out)) hb); have n1_:=Aside0.mk (hbox); have n2_:=Aside0.mk ((by rw [hg]; exact (a0N (by repeat (first | (with_reducible first | exact HB.out | apply a0c | apply a0b | apply a0d) | exact HB.out))) : w.heap.size <= gb215)); have n3_:=Aside0.mk ((by rw [hg]; exact (a0N (by repeat (first | (with_reducible first | exact HB.out | apply a0c | apply a0b | apply a0d) | exact HB.out))) : w.heap.size <= gb215)); clear HB; have HB:=n0_; have BK215:=n1_; have GW215:=n2_; have GE215:=n3_; clear n0_ n1_ n2_ n3_; clear hb hbox hg)))
 (try simp only [Act.put,List.setIfInBounds_toArray,List.set_cons_zero,List.set_cons_succ])
 go_cut [32] (λ v32 wc=>∃ (kq : Nat) (x32_1 : Bool),v32 = .bool x32_1 /\ Aside0 (puncheonref16_Right.j0 kq x32_1 a0_0 a0_1 l0_2 = some r) /\ Aside0 (kq <= k) /\ Aside0 (wc.heap[gb215]? = some (.cells #[.int .i64 a0_0,.bool a0_1,(.slice A0_2 l0_2.length c0_2)] 26 (0,0))) /\ Aside0 (Below w.heap.size w wc))
 case first=>
  have H:=HC2.out
  clear HC2
  by_cases c4 : a0_0 < 1
  · rw [if_pos c4] at H
    have c4b0 : decide (a0_0 < 1) = true:=decide_eq_true c4
    clear c4
    (first | rw [c4b0] | (simp only [i64_w,i32_w]; rw [c4b0]) | skip)
    have H':=Aside0.mk H
    clear H
    have hcz5_0 : w3.cell? ⟨gb215,0,none⟩ = some (.int .i64 a0_0):=(a0a BK215.out 0).trans rfl
    have hcz5_1 : w3.cell? ⟨gb215,1,none⟩ = some (.bool a0_1):=(a0a BK215.out 1).trans rfl
    have hcz5_2 : w3.cell? ⟨gb215,2,none⟩ = some (.slice A0_2 l0_2.length c0_2):=(a0a BK215.out 2).trans rfl
    have hfz5_0:=a0e BK215.out 0
    have hfz5_1:=a0e BK215.out 1
    have hfz5_2:=a0e BK215.out 2
    go_wp2
    repeat (go_quiet (fail); try go_wp2)
    go_meet
    case rel=>exact ⟨_,(true),(by first | rfl | (simp; done) | (simp [*]; done)),H',⟨by first | omega | exact Nat.le_refl _⟩,⟨by (with_reducible repeat (first | refine a0X ?_ _ | refine a0U ?_ | refine a0n ?_ _)); exact BK215.out⟩,⟨by repeat (first | (with_reducible first | exact HB.out | apply a0c | apply a0b | apply a0d | refine a0h ?_ GE215.out) | exact HB.out)⟩⟩
  · rw [if_neg c4] at H
    have c4b0 : decide (a0_0 < 1) = false:=decide_eq_false c4
    clear c4
    (first | rw [c4b0] | (simp only [i64_w,i32_w]; rw [c4b0]) | skip)
    by_cases c6 : a0_0 > 12
    · rw [if_pos c6] at H
      have c6b0 : decide (12 < a0_0) = true:=decide_eq_true c6
      clear c6
      have H':=Aside0.mk H
      clear H
      have hcz7_0 : w3.cell? ⟨gb215,0,none⟩ = some (.int .i64 a0_0):=(a0a BK215.out 0).trans rfl
      have hcz7_1 : w3.cell? ⟨gb215,1,none⟩ = some (.bool a0_1):=(a0a BK215.out 1).trans rfl
      have hcz7_2 : w3.cell? ⟨gb215,2,none⟩ = some (.slice A0_2 l0_2.length c0_2):=(a0a BK215.out 2).trans rfl
      have hfz7_0:=a0e BK215.out 0
      have hfz7_1:=a0e BK215.out 1
      have hfz7_2:=a0e BK215.out 2
      go_wp2
      repeat (go_quiet (fail); try go_wp2)
      go_meet
      case rel=>exact ⟨_,(true),(by first | rfl | (simp; done) | (simp [*]; done)),H',⟨by first | omega | exact Nat.le_refl _⟩,⟨by (with_reducible repeat (first | refine a0X ?_ _ | refine a0U ?_ | refine a0n ?_ _)); exact BK215.out⟩,⟨by repeat (first | (with_reducible first | exact HB.out | apply a0c | apply a0b | apply a0d | refine a0h ?_ GE215.out) | exact HB.out)⟩⟩
    · rw [if_neg c6] at H
      have c6b0 : decide (12 < a0_0) = false:=decide_eq_false c6
      clear c6
      by_cases c8 : a0_1 = true
      · subst c8
        have H1 : (if (l0_2.length : Int) = 1 then (puncheonref16_Right.j0 k false a0_0 true l0_2) else (puncheonref16_Right.j0 k true a0_0 true l0_2)) = some r:=by rw [if_pos rfl] at H; exact H
        clear H
        have H:=H1
        clear H1
        by_cases c9 : (l0_2.length : Int) = 1
        · rw [if_pos c9] at H
          have c9b0 : ((l0_2.length : Int) == 1) = true:=beq_iff_eq.mpr c9
          have c9b1 : ((l0_2.length : Int) != 1) = false:=bne_eq_false_iff_eq.mpr c9
          clear c9
          have H':=Aside0.mk H
          clear H
          have hcz10_0 : w3.cell? ⟨gb215,0,none⟩ = some (.int .i64 a0_0):=(a0a BK215.out 0).trans rfl
          have hcz10_1 : w3.cell? ⟨gb215,1,none⟩ = some (.bool true):=(a0a BK215.out 1).trans rfl
          have hcz10_2 : w3.cell? ⟨gb215,2,none⟩ = some (.slice A0_2 l0_2.length c0_2):=(a0a BK215.out 2).trans rfl
          have hfz10_0:=a0e BK215.out 0
          have hfz10_1:=a0e BK215.out 1
          have hfz10_2:=a0e BK215.out 2
          go_wp2
          repeat (go_quiet (fail); try go_wp2)
          go_meet
          case rel=>exact ⟨_,(false),(by first | rfl | (simp; done) | (simp [*]; done)),H',⟨by first | omega | exact Nat.le_refl _⟩,⟨by (with_reducible repeat (first | refine a0X ?_ _ | refine a0U ?_ | refine a0n ?_ _)); exact BK215.out⟩,⟨by repeat (first | (with_reducible first | exact HB.out | apply a0c | apply a0b | apply a0d | refine a0h ?_ GE215.out) | exact HB.out)⟩⟩
        · rw [if_neg c9] at H
          have c9b0 : ((l0_2.length : Int) == 1) = false:=beq_eq_false_iff_ne.mpr c9
          have c9b1 : ((l0_2.length : Int) != 1) = true:=bne_iff_ne.mpr c9
          have H':=Aside0.mk H
          clear H
          have hcz11_0 : w3.cell? ⟨gb215,0,none⟩ = some (.int .i64 a0_0):=(a0a BK215.out 0).trans rfl
          have hcz11_1 : w3.cell? ⟨gb215,1,none⟩ = some (.bool true):=(a0a BK215.out 1).trans rfl
          have hcz11_2 : w3.cell? ⟨gb215,2,none⟩ = some (.slice A0_2 l0_2.length c0_2):=(a0a BK215.out 2).trans rfl
          have hfz11_0:=a0e BK215.out 0
          have hfz11_1:=a0e BK215.out 1
          have hfz11_2:=a0e BK215.out 2
          go_wp2
          repeat (go_quiet (fail); try go_wp2)
          go_meet
          case rel=>exact ⟨_,(true),(by first | rfl | (simp; done) | (simp [*]; done)),H',⟨by first | omega | exact Nat.le_refl _⟩,⟨by (with_reducible repeat (first | refine a0X ?_ _ | refine a0U ?_ | refine a0n ?_ _)); exact BK215.out⟩,⟨by repeat (first | (with_reducible first | exact HB.out | apply a0c | apply a0b | apply a0d | refine a0h ?_ GE215.out) | exact HB.out)⟩⟩
      · replace c8:=Bool.eq_false_iff.mpr c8
        subst c8
        have H1 : (puncheonref16_Right.j0 k ((l0_2.length : Int) != 256) a0_0 false l0_2) = some r:=by rw [if_neg (show ¬ (false = true) by decide)] at H; exact H
        clear H
        have H:=H1
        clear H1
        have H':=Aside0.mk H
        clear H
        have hcz12_0 : w3.cell? ⟨gb215,0,none⟩ = some (.int .i64 a0_0):=(a0a BK215.out 0).trans rfl
        have hcz12_1 : w3.cell? ⟨gb215,1,none⟩ = some (.bool false):=(a0a BK215.out 1).trans rfl
        have hcz12_2 : w3.cell? ⟨gb215,2,none⟩ = some (.slice A0_2 l0_2.length c0_2):=(a0a BK215.out 2).trans rfl
        have hfz12_0:=a0e BK215.out 0
        have hfz12_1:=a0e BK215.out 1
        have hfz12_2:=a0e BK215.out 2
        go_wp2
        repeat (go_quiet (fail); try go_wp2)
        go_meet
        case rel=>exact ⟨_,(((l0_2.length : Int) != 256)),(by first | rfl | (simp; done) | (simp [*]; done)),H',⟨by first | omega | exact Nat.le_refl _⟩,⟨by (with_reducible repeat (first | refine a0X ?_ _ | refine a0U ?_ | refine a0n ?_ _)); exact BK215.out⟩,⟨by repeat (first | (with_reducible first | exact HB.out | apply a0c | apply a0b | apply a0d | refine a0h ?_ GE215.out) | exact HB.out)⟩⟩
 case rest=>
  clear HC2
  try clear c1
  try clear p2
  try clear c4
  try clear c4b0
  try clear c6
  try clear c6b0
  try clear c8
  try clear c9
  try clear c9b0
  try clear c9b1
  try clear c12
  try clear hcz10_0
  try clear hcz10_1
  try clear hcz10_2
  try clear hcz11_0
  try clear hcz11_1
  try clear hcz11_2
  try clear hcz12_0
  try clear hcz12_1
  try clear hcz12_2
  try clear hcz5_0
  try clear hcz5_1
  try clear hcz5_2
  try clear hcz7_0
  try clear hcz7_1
  try clear hcz7_2
  try clear hfz10_0
  try clear hfz10_1
  try clear hfz10_2
  try clear hfz11_0
  try clear hfz11_1
  try clear hfz11_2
  try clear hfz12_0
  try clear hfz12_1
  try clear hfz12_2
  try clear hfz5_0
  try clear hfz5_1
  try clear hfz5_2
  try clear hfz7_0
  try clear hfz7_1
  try clear hfz7_2
  obtain ⟨kq,x32_1,rfl,HA,HJ1,BK215,HB⟩:=hcut
  cases kq with
  | zero=>exact absurd HA.out (by simp [puncheonref16_Right.j0])
  | succ kj1=>
   have H:=HA.out
   clear HA
   simp only [puncheonref16_Right.j0] at H
   by_cases c13 : x32_1 = true
   · subst c13
     have H1 : (some false) = some r:=by rw [if_pos rfl] at H; exact H
     clear H
     have H:=H1
     clear H1
     obtain rfl:=Option.some.inj H
     go_wp2
     repeat (go_quiet (fail); try go_wp2)
     go_ret
     exact ⟨by first | rfl | (simp [a0l,a0m] <;> rfl) | (simp [*,a0l,a0m] <;> rfl),by repeat (first | (with_reducible first | exact HB.out | apply a0c | apply a0b | apply a0d | refine a0h ?_ GE215.out) | exact HB.out)⟩
   · replace c13:=Bool.eq_false_iff.mpr c13
     subst c13
     have H1 : (puncheonref16_Right.l0 kj1 0 a0_0 a0_1 l0_2) = some r:=by rw [if_neg (show ¬ (false = true) by decide)] at H; exact H
     clear H
     have H:=H1
     clear H1
     have H':=Aside0.mk H
     clear H
     go_wp2
     repeat (go_quiet (fail); try go_wp2)
     go_loopg [3] kj1 (λ kq v3 w'=>∃ (x3_2 : Int),v3 = .int .i64 x3_2 /\ Aside0 (puncheonref16_Right.l0 kq x3_2 a0_0 a0_1 l0_2 = some r) /\ Aside0 (kq <= kj1) /\ Aside0 (w'.heap[gb215]? = some (.cells #[.int .i64 a0_0,.bool a0_1,(.slice A0_2 l0_2.length c0_2)] 26 (0,0))) /\ Aside0 (Below w.heap.size w w'))
     case atStart=>exact ⟨(0),(by first | rfl | (simp; done) | (simp [*]; done)),H',⟨Nat.le_refl _⟩,⟨by (with_reducible repeat (first | refine a0X ?_ _ | refine a0U ?_ | refine a0n ?_ _)); exact BK215.out⟩,⟨by repeat (first | (with_reducible first | exact HB.out | apply a0c | apply a0b | apply a0d | refine a0h ?_ GE215.out) | exact HB.out)⟩⟩
     case round=>
      clear H'
      try clear c1
      try clear p2
      try clear c4
      try clear c4b0
      try clear c6
      try clear c6b0
      try clear c8
      try clear c9
      try clear c9b0
      try clear c9b1
      try clear c12
      try clear c13
      try clear hcz10_0
      try clear hcz10_1
      try clear hcz10_2
      try clear hcz11_0
      try clear hcz11_1
      try clear hcz11_2
      try clear hcz12_0
      try clear hcz12_1
      try clear hcz12_2
      try clear hcz5_0
      try clear hcz5_1
      try clear hcz5_2
      try clear hcz7_0
      try clear hcz7_1
      try clear hcz7_2
      try clear hfz10_0
      try clear hfz10_1
      try clear hfz10_2
      try clear hfz11_0
      try clear hfz11_1
      try clear hfz11_2
      try clear hfz12_0
      try clear hfz12_1
      try clear hfz12_2
      try clear hfz5_0
      try clear hfz5_1
      try clear hfz5_2
      try clear hfz7_0
      try clear hfz7_1
      try clear hfz7_2
      try clear p2
      obtain ⟨x3_2,rfl,HA,HK2,BK215,HB⟩:=hrel
      cases gk with
      | zero=>exact absurd HA.out (by simp [puncheonref16_Right.l0])
      | succ k2=>
       have H:=HA.out
       clear HA
       simp only [puncheonref16_Right.l0] at H
       by_cases c14 : x3_2 < (l0_2.length : Int)
       · rw [if_pos c14] at H
         have c14b0 : decide (x3_2 < (l0_2.length : Int)) = true:=decide_eq_true c14
         clear c14
         have HC15:=Aside0.mk H
         clear H
         have hcz16_0 : wr.cell? ⟨gb215,0,none⟩ = some (.int .i64 a0_0):=(a0a BK215.out 0).trans rfl
         have hcz16_1 : wr.cell? ⟨gb215,1,none⟩ = some (.bool a0_1):=(a0a BK215.out 1).trans rfl
         have hcz16_2 : wr.cell? ⟨gb215,2,none⟩ = some (.slice A0_2 l0_2.length c0_2):=(a0a BK215.out 2).trans rfl
         have hfz16_0:=a0e BK215.out 0
         have hfz16_1:=a0e BK215.out 1
         have hfz16_2:=a0e BK215.out 2
         go_upto_region 6 with (fail)
         repeat (go_quiet (fail); go_upto_region 6 with (fail))
         go_cut [51] (λ v51 wc=>∃ (kq : Nat) (x51_14 : Bool),v51 = .bool x51_14 /\ Aside0 (puncheonref16_Right.j2 kq x3_2 x51_14 a0_0 a0_1 l0_2 = some r) /\ Aside0 (kq <= k2) /\ Aside0 (wc.heap[gb215]? = some (.cells #[.int .i64 a0_0,.bool a0_1,(.slice A0_2 l0_2.length c0_2)] 26 (0,0))) /\ Aside0 (Below w.heap.size w wc))
         case first=>
          have H:=HC15.out
          clear HC15
          by_cases c17 : 0 <= x3_2
          · rw [if_pos c17] at H
            have c17b0 : decide (0 <= x3_2) = true:=decide_eq_true c17
            clear c17
            (first | rw [c17b0] | (simp only [i64_w,i32_w]; rw [c17b0]) | skip)
            by_cases c18 : ((rd_L3 l0_2 x3_2).length : Int) = 0
            · rw [if_pos c18] at H
              have c18b0 : (((rd_L3 l0_2 x3_2).length : Int) == 0) = true:=beq_iff_eq.mpr c18
              have c18b1 : (((rd_L3 l0_2 x3_2).length : Int) != 0) = false:=bne_eq_false_iff_eq.mpr c18
              clear c18
              have H':=Aside0.mk H
              clear H
              have hcz19_0 : wr.cell? ⟨gb215,0,none⟩ = some (.int .i64 a0_0):=(a0a BK215.out 0).trans rfl
              have hcz19_1 : wr.cell? ⟨gb215,1,none⟩ = some (.bool a0_1):=(a0a BK215.out 1).trans rfl
              have hcz19_2 : wr.cell? ⟨gb215,2,none⟩ = some (.slice A0_2 l0_2.length c0_2):=(a0a BK215.out 2).trans rfl
              have hfz19_0:=a0e BK215.out 0
              have hfz19_1:=a0e BK215.out 1
              have hfz19_2:=a0e BK215.out 2
              have p216 : 0 <= (x3_2 : Int):=of_decide_eq_true (by first | (with_reducible assumption) | assumption)
              have q216 : x3_2 < (l0_2.length : Int):=of_decide_eq_true (by first | (with_reducible assumption) | assumption)
              obtain ⟨ad216,A216_0,c216_0,e216,hx216_0,hl216_0,hi216_0⟩:=at_L3 HR0_2.out x3_2 p216 q216
              cases e216
              replace hx216_0:=(HB.out.cell (World.block_lt_of_cell? w _ hx216_0)).trans hx216_0
              have HR216_0:=Aside0.mk hi216_0
              have HC216_0:=Aside0.mk hl216_0
              clear hi216_0 hl216_0
              replace p216:=eq_true p216
              replace q216:=eq_true q216
              go_wp2
              repeat (go_quiet (fail); try go_wp2)
              go_meet
              case rel=>exact ⟨_,(!a0_1),(by first | rfl | (simp; done) | (simp [*]; done)),H',⟨by have:=HJ1.out; have:=HK2.out; first | omega | exact Nat.le_refl _⟩,⟨by (with_reducible repeat (first | refine a0X ?_ _ | refine a0U ?_ | refine a0n ?_ _)); exact BK215.out⟩,⟨by repeat (first | (with_reducible first | exact HB.out | apply a0c | apply a0b | apply a0d | refine a0h ?_ GE215.out) | exact HB.out)⟩⟩
            · rw [if_neg c18] at H
              have c18b0 : (((rd_L3 l0_2 x3_2).length : Int) == 0) = false:=beq_eq_false_iff_ne.mpr c18
              have c18b1 : (((rd_L3 l0_2 x3_2).length : Int) != 0) = true:=bne_iff_ne.mpr c18
              have c18b2 : ¬ ((rd_L3 l0_2 x3_2) = []):=λ h_=>c18 (by rw [h_]; rfl)
              have H':=Aside0.mk H
              clear H
              have hcz20_0 : wr.cell? ⟨gb215,0,none⟩ = some (.int .i64 a0_0):=(a0a BK215.out 0).trans rfl
              have hcz20_1 : wr.cell? ⟨gb215,1,none⟩ = some (.bool a0_1):=(a0a BK215.out 1).trans rfl
              have hcz20_2 : wr.cell? ⟨gb215,2,none⟩ = some (.slice A0_2 l0_2.length c0_2):=(a0a BK215.out 2).trans rfl
              have hfz20_0:=a0e BK215.out 0
              have hfz20_1:=a0e BK215.out 1
              have hfz20_2:=a0e BK215.out 2
              have p216 : 0 <= (x3_2 : Int):=of_decide_eq_true (by first | (with_reducible assumption) | assumption)
              have q216 : x3_2 < (l0_2.length : Int):=of_decide_eq_true (by first | (with_reducible assumption) | assumption)
              obtain ⟨ad216,A216_0,c216_0,e216,hx216_0,hl216_0,hi216_0⟩:=at_L3 HR0_2.out x3_2 p216 q216
              cases e216
              replace hx216_0:=(HB.out.cell (World.block_lt_of_cell? w _ hx216_0)).trans hx216_0
              have HR216_0:=Aside0.mk hi216_0
              have HC216_0:=Aside0.mk hl216_0
              clear hi216_0 hl216_0
              replace p216:=eq_true p216
              replace q216:=eq_true q216
              go_wp2
              repeat (go_quiet (fail); try go_wp2)
              go_meet
              case rel=>exact ⟨_,(false),(by first | rfl | (simp; done) | (simp [*]; done)),H',⟨by have:=HJ1.out; have:=HK2.out; first | omega | exact Nat.le_refl _⟩,⟨by (with_reducible repeat (first | refine a0X ?_ _ | refine a0U ?_ | refine a0n ?_ _)); exact BK215.out⟩,⟨by repeat (first | (with_reducible first | exact HB.out | apply a0c | apply a0b | apply a0d | refine a0h ?_ GE215.out) | exact HB.out)⟩⟩
          · rw [if_neg c17] at H
            exact absurd H (by simp)
         case rest=>
          clear HC15
          try clear c1
          try clear c2
          try clear p2
          try clear q2
          try clear hx2
          try clear c4
          try clear c4b0
          try clear c6
          try clear c6b0
          try clear c8
          try clear c9
          try clear c9b0
          try clear c9b1
          try clear c12
          try clear c13
          try clear c14
          try clear c14b0
          try clear c17
          try clear c17b0
          try clear c18
          try clear c18b0
          try clear c18b1
          try clear c18b2
          try clear hcz10_0
          try clear hcz10_1
          try clear hcz10_2
          try clear hcz11_0
          try clear hcz11_1
          try clear hcz11_2
          try clear hcz12_0
          try clear hcz12_1
          try clear hcz12_2
          try clear hcz16_0
          try clear hcz16_1
          try clear hcz16_2
          try clear hcz19_0
          try clear hcz19_1
          try clear hcz19_2
          try clear hcz20_0
          try clear hcz20_1
          try clear hcz20_2
          try clear hcz5_0
          try clear hcz5_1
          try clear hcz5_2
          try clear hcz7_0
          try clear hcz7_1
          try clear hcz7_2
          try clear hfz10_0
          try clear hfz10_1
          try clear hfz10_2
          try clear hfz11_0
          try clear hfz11_1
          try clear hfz11_2
          try clear hfz12_0
          try clear hfz12_1
          try clear hfz12_2
          try clear hfz16_0
          try clear hfz16_1
          try clear hfz16_2
          try clear hfz19_0
          try clear hfz19_1
          try clear hfz19_2
          try clear hfz20_0
          try clear hfz20_1
          try clear hfz20_2
          try clear hfz5_0
          try clear hfz5_1
          try clear hfz5_2
          try clear hfz7_0
          try clear hfz7_1
          try clear hfz7_2
          try clear hx216_0
          try clear p2
          try clear p216
          try clear q216
          obtain ⟨kq,x51_14,rfl,HA,HJ14,BK215,HB⟩:=hcut
          cases kq with
          | zero=>exact absurd HA.out (by simp [puncheonref16_Right.j2])
          | succ kj14=>
           have H:=HA.out
           clear HA
           simp only [puncheonref16_Right.j2] at H
           by_cases c21 : x51_14 = true
           · subst c21
             have H1 : (puncheonref16_Right.l0 kj14 (wrap64 (x3_2 + 1)) a0_0 a0_1 l0_2) = some r:=by rw [if_pos rfl] at H; exact H
             clear H
             have H:=H1
             clear H1
             have H':=Aside0.mk H
             clear H
             go_wp2
             repeat (go_quiet (fail); try go_wp2)
             go_roundg kj14
             case measure=>have:=HJ1.out; have:=HK2.out; have:=HJ14.out; omega
             case rel=>exact ⟨(wrap64 (x3_2 + 1)),(by first | rfl | (simp; done) | (simp [*]; done)),H',⟨by have:=HJ1.out; have:=HK2.out; have:=HJ14.out; omega⟩,⟨by (with_reducible repeat (first | refine a0X ?_ _ | refine a0U ?_ | refine a0n ?_ _)); exact BK215.out⟩,⟨by repeat (first | (with_reducible first | exact HB.out | apply a0c | apply a0b | apply a0d | refine a0h ?_ GE215.out) | exact HB.out)⟩⟩
           · replace c21:=Bool.eq_false_iff.mpr c21
             subst c21
             have H1 : (if 0 <= x3_2 then (if x3_2 < (l0_2.length : Int) then ((puncheonref08_Log.f kj14 (rd_L3 l0_2 x3_2)).bind λ t218=>(if t218 = a0_0 then (puncheonref16_Right.l0 kj14 (wrap64 (x3_2 + 1)) a0_0 a0_1 l0_2) else (some false))) else (none)) else (none)) = some r:=by rw [if_neg (show ¬ (false = true) by decide)] at H; exact H
             clear H
             have H:=H1
             clear H1
             by_cases c22 : 0 <= x3_2
             · rw [if_pos c22] at H
               have c22b0 : decide (0 <= x3_2) = true:=decide_eq_true c22
               clear c22
               by_cases c23 : x3_2 < (l0_2.length : Int)
               · rw [if_pos c23] at H
                 have c23b0 : decide (x3_2 < (l0_2.length : Int)) = true:=decide_eq_true c23
                 clear c23
                 replace H:=Option.bind_eq_some_iff.mp H
                 obtain ⟨t218,A240,H⟩:=H
                 replace H : (if t218 = a0_0 then (puncheonref16_Right.l0 kj14 (wrap64 (x3_2 + 1)) a0_0 a0_1 l0_2) else (some false)) = some r:=H
                 have A24:=Aside0.mk A240
                 clear A240
                 by_cases c25 : t218 = a0_0
                 · rw [if_pos c25] at H
                   have c25b0 : (t218 == a0_0) = true:=beq_iff_eq.mpr c25
                   have c25b1 : (t218 != a0_0) = false:=bne_eq_false_iff_eq.mpr c25
                   clear c25
                   have H':=Aside0.mk H
                   clear H
                   have hcz26_0 : wc.cell? ⟨gb215,0,none⟩ = some (.int .i64 a0_0):=(a0a BK215.out 0).trans rfl
                   have hcz26_1 : wc.cell? ⟨gb215,1,none⟩ = some (.bool a0_1):=(a0a BK215.out 1).trans rfl
                   have hcz26_2 : wc.cell? ⟨gb215,2,none⟩ = some (.slice A0_2 l0_2.length c0_2):=(a0a BK215.out 2).trans rfl
                   have hfz26_0:=a0e BK215.out 0
                   have hfz26_1:=a0e BK215.out 1
                   have hfz26_2:=a0e BK215.out 2
                   have p217 : 0 <= (x3_2 : Int):=of_decide_eq_true (by first | (with_reducible assumption) | assumption)
                   have q217 : x3_2 < (l0_2.length : Int):=of_decide_eq_true (by first | (with_reducible assumption) | assumption)
                   obtain ⟨ad217,A217_0,c217_0,e217,hx217_0,hl217_0,hi217_0⟩:=at_L3 HR0_2.out x3_2 p217 q217
                   cases e217
                   replace hx217_0:=(HB.out.cell (World.block_lt_of_cell? w _ hx217_0)).trans hx217_0
                   have HR217_0:=Aside0.mk hi217_0
                   have HC217_0:=Aside0.mk hl217_0
                   clear hi217_0 hl217_0
                   replace p217:=eq_true p217
                   replace q217:=eq_true q217
                   go_wp2_with (first | (go_at_call 172; (with_reducible refine (puncheonref08_Log.calls kj14 _ _ (rd_L3 l0_2 x3_2) t218 _ ?side1 ?side2 A24.out).mono ?_); (case side1=>repeat (first | exact (Kd.C_below HR217_0.out HB.out) | (with_reducible refine Kd.C_alloc ?_ _) | (with_reducible refine Kd.C_drewN ?_ _) | (with_reducible refine Kd.C_drew ?_))); (case side2=>exact HC217_0.out); rintro e w' ⟨rfl,⟨nd,rfl⟩⟩; (try first | exact ⟨rfl,_,World.drewN_drewN _ _ _⟩ | exact ⟨rfl,_,Eq.trans (World.drewN_drewN _ _ _) (congrArg (World.drewN _) (Nat.add_assoc _ _ _))⟩)))
                   repeat (go_quiet (first | (go_at_call 172; (with_reducible refine (puncheonref08_Log.calls kj14 _ _ (rd_L3 l0_2 x3_2) t218 _ ?side1 ?side2 A24.out).mono ?_); (case side1=>repeat (first | exact (Kd.C_below HR217_0.out HB.out) | (with_reducible refine Kd.C_alloc ?_ _) | (with_reducible refine Kd.C_drewN ?_ _) | (with_reducible refine Kd.C_drew ?_))); (case side2=>exact HC217_0.out); rintro e w' ⟨rfl,⟨nd,rfl⟩⟩; (try first | exact ⟨rfl,_,World.drewN_drewN _ _ _⟩ | exact ⟨rfl,_,Eq.trans (World.drewN_drewN _ _ _) (congrArg (World.drewN _) (Nat.add_assoc _ _ _))⟩))); try go_wp2_with (first | (go_at_call 172; (with_reducible refine (puncheonref08_Log.calls kj14 _ _ (rd_L3 l0_2 x3_2) t218 _ ?side1 ?side2 A24.out).mono ?_); (case side1=>repeat (first | exact (Kd.C_below HR217_0.out HB.out) | (with_reducible refine Kd.C_alloc ?_ _) | (with_reducible refine Kd.C_drewN ?_ _) | (with_reducible refine Kd.C_drew ?_))); (case side2=>exact HC217_0.out); rintro e w' ⟨rfl,⟨nd,rfl⟩⟩; (try first | exact ⟨rfl,_,World.drewN_drewN _ _ _⟩ | exact ⟨rfl,_,Eq.trans (World.drewN_drewN _ _ _) (congrArg (World.drewN _) (Nat.add_assoc _ _ _))⟩))))
                   go_roundg kj14
                   case measure=>have:=HJ1.out; have:=HK2.out; have:=HJ14.out; omega
                   case rel=>exact ⟨(wrap64 (x3_2 + 1)),(by first | rfl | (simp; done) | (simp [*]; done)),H',⟨by have:=HJ1.out; have:=HK2.out; have:=HJ14.out; omega⟩,⟨by (with_reducible repeat (first | refine a0X ?_ _ | refine a0U ?_ | refine a0n ?_ _)); exact BK215.out⟩,⟨by repeat (first | (with_reducible first | exact HB.out | apply a0c | apply a0b | apply a0d | refine a0h ?_ GE215.out) | exact HB.out)⟩⟩
                 · rw [if_neg c25] at H
                   have c25b0 : (t218 == a0_0) = false:=beq_eq_false_iff_ne.mpr c25
                   have c25b1 : (t218 != a0_0) = true:=bne_iff_ne.mpr c25
                   obtain rfl:=Option.some.inj H
                   have hcz27_0 : wc.cell? ⟨gb215,0,none⟩ = some (.int .i64 a0_0):=(a0a BK215.out 0).trans rfl
                   have hcz27_1 : wc.cell? ⟨gb215,1,none⟩ = some (.bool a0_1):=(a0a BK215.out 1).trans rfl
                   have hcz27_2 : wc.cell? ⟨gb215,2,none⟩ = some (.slice A0_2 l0_2.length c0_2):=(a0a BK215.out 2).trans rfl
                   have hfz27_0:=a0e BK215.out 0
                   have hfz27_1:=a0e BK215.out 1
                   have hfz27_2:=a0e BK215.out 2
                   have p217 : 0 <= (x3_2 : Int):=of_decide_eq_true (by first | (with_reducible assumption) | assumption)
                   have q217 : x3_2 < (l0_2.length : Int):=of_decide_eq_true (by first | (with_reducible assumption) | assumption)
                   obtain ⟨ad217,A217_0,c217_0,e217,hx217_0,hl217_0,hi217_0⟩:=at_L3 HR0_2.out x3_2 p217 q217
                   cases e217
                   replace hx217_0:=(HB.out.cell (World.block_lt_of_cell? w _ hx217_0)).trans hx217_0
                   have HR217_0:=Aside0.mk hi217_0
                   have HC217_0:=Aside0.mk hl217_0
                   clear hi217_0 hl217_0
                   replace p217:=eq_true p217
                   replace q217:=eq_true q217
                   go_wp2_with (first | (go_at_call 172; (with_reducible refine (puncheonref08_Log.calls kj14 _ _ (rd_L3 l0_2 x3_2) t218 _ ?side1 ?side2 A24.out).mono ?_); (case side1=>repeat (first | exact (Kd.C_below HR217_0.out HB.out) | (with_reducible refine Kd.C_alloc ?_ _) | (with_reducible refine Kd.C_drewN ?_ _) | (with_reducible refine Kd.C_drew ?_))); (case side2=>exact HC217_0.out); rintro e w' ⟨rfl,⟨nd,rfl⟩⟩; (try first | exact ⟨rfl,_,World.drewN_drewN _ _ _⟩ | exact ⟨rfl,_,Eq.trans (World.drewN_drewN _ _ _) (congrArg (World.drewN _) (Nat.add_assoc _ _ _))⟩)))
                   repeat (go_quiet (first | (go_at_call 172; (with_reducible refine (puncheonref08_Log.calls kj14 _ _ (rd_L3 l0_2 x3_2) t218 _ ?side1 ?side2 A24.out).mono ?_); (case side1=>repeat (first | exact (Kd.C_below HR217_0.out HB.out) | (with_reducible refine Kd.C_alloc ?_ _) | (with_reducible refine Kd.C_drewN ?_ _) | (with_reducible refine Kd.C_drew ?_))); (case side2=>exact HC217_0.out); rintro e w' ⟨rfl,⟨nd,rfl⟩⟩; (try first | exact ⟨rfl,_,World.drewN_drewN _ _ _⟩ | exact ⟨rfl,_,Eq.trans (World.drewN_drewN _ _ _) (congrArg (World.drewN _) (Nat.add_assoc _ _ _))⟩))); try go_wp2_with (first | (go_at_call 172; (with_reducible refine (puncheonref08_Log.calls kj14 _ _ (rd_L3 l0_2 x3_2) t218 _ ?side1 ?side2 A24.out).mono ?_); (case side1=>repeat (first | exact (Kd.C_below HR217_0.out HB.out) | (with_reducible refine Kd.C_alloc ?_ _) | (with_reducible refine Kd.C_drewN ?_ _) | (with_reducible refine Kd.C_drew ?_))); (case side2=>exact HC217_0.out); rintro e w' ⟨rfl,⟨nd,rfl⟩⟩; (try first | exact ⟨rfl,_,World.drewN_drewN _ _ _⟩ | exact ⟨rfl,_,Eq.trans (World.drewN_drewN _ _ _) (congrArg (World.drewN _) (Nat.add_assoc _ _ _))⟩))))
                   go_ret
                   exact ⟨by first | rfl | (simp [a0l,a0m] <;> rfl) | (simp [*,a0l,a0m] <;> rfl),by repeat (first | (with_reducible first | exact HB.out | apply a0c | apply a0b | apply a0d | refine a0h ?_ GE215.out) | exact HB.out)⟩
               · rw [if_neg c23] at H
                 exact absurd H (by simp)
             · rw [if_neg c22] at H
               exact absurd H (by simp)
       · rw [if_neg c14] at H
         have c14b0 : decide (x3_2 < (l0_2.length : Int)) = false:=decide_eq_false c14
         clear c14
         obtain rfl:=Option.some.inj H
         have hcz28_0 : wr.cell? ⟨gb215,0,none⟩ = some (.int .i64 a0_0):=(a0a BK215.out 0).trans rfl
         have hcz28_1 : wr.cell? ⟨gb215,1,none⟩ = some (.bool a0_1):=(a0a BK215.out 1).trans rfl
         have hcz28_2 : wr.cell? ⟨gb215,2,none⟩ = some (.slice A0_2 l0_2.length c0_2):=(a0a BK215.out 2).trans rfl
         have hfz28_0:=a0e BK215.out 0
         have hfz28_1:=a0e BK215.out 1
         have hfz28_2:=a0e BK215.out 2
         go_wp2
         repeat (go_quiet (fail); try go_wp2)
         go_ret
         exact ⟨by first | rfl | (simp [a0l,a0m] <;> rfl) | (simp [*,a0l,a0m] <;> rfl),by repeat (first | (with_reducible first | exact HB.out | apply a0c | apply a0b | apply a0d | refine a0h ?_ GE215.out) | exact HB.out)⟩
end Go.Proofs.YtflfjpkmjnnodaaGreat.PRef
