-- Told by the kit's print.py out of this seat's translation, for this session's own texts (not a PRINTED file).
import Derived.Test.YtanakihfgdgdfaaFx0
import Derived.Test.YtanakihfgdgdfaaFx11
namespace Go.Proofs.Ytanakihfgdgdfaa.F
open Go.RowKit Go.Proofs.YtanakihfgdgdfaaW.PrintWords Go.Proofs.YtanakihfgdgdfaaW.PrintLast Go.Proofs.YtanakihfgdgdfaaW.PrintMore
attribute [local go_sem] max2_int min2_int max_two min_two max_three min_three max_four min_four   -- for this text's walks alone
set_option linter.unusedVariables false
set_option linter.unusedSimpArgs false

/-! ### dormouseref25_Demand: function 17 -/
mutual
def dormouseref25_Demand.l0 : Nat → List (S32) → Int → Int → Int → Int → Option (Int)
  | 0, _, _, _, _, _ => none
  | k + 1, x0, x1, x2, x7, x8 => if x8 < (x0.length : Int) then ((dormouseref25_Right.f k x0).bind fun t196 => (dormouseref25_Demand.j1 k x0 x1 x2 x7 x8 t196)) else (dormouseref25_Demand.j1 k x0 x1 x2 x7 x8 false)
def dormouseref25_Demand.j1 : Nat → List (S32) → Int → Int → Int → Int → Bool → Option (Int)
  | 0, _, _, _, _, _, _ => none
  | k + 1, x0, x1, x2, x7, x8, x16 => if x16 = true then (if 0 ≤ x8 then (if x8 < (x0.length : Int) then (if ((rd_T32 x0 x8).f0) ≥ x1 then (if ((rd_T32 x0 x8).f1) ≤ x2 then (dormouseref25_Demand.l0 k x0 x1 x2 (wrap64 (x7 + ((rd_T32 x0 x8).f2))) (wrap64 (x8 + 1))) else (dormouseref25_Demand.l0 k x0 x1 x2 x7 (wrap64 (x8 + 1)))) else (dormouseref25_Demand.l0 k x0 x1 x2 x7 (wrap64 (x8 + 1)))) else (none)) else (none)) else (some x7)
end
def dormouseref25_Demand.f (k : Nat) (l0 : List (S32)) (a1 : Int) (a2 : Int) : Option (Int) := dormouseref25_Demand.l0 k l0 a1 a2 0 0
theorem dormouseref25_Demand.mono_l : ∀ k, (∀ y0 y1 y2 y3 y4, LeO (dormouseref25_Demand.l0 k y0 y1 y2 y3 y4) (dormouseref25_Demand.l0 (k + 1) y0 y1 y2 y3 y4)) ∧ (∀ y0 y1 y2 y3 y4 y5, LeO (dormouseref25_Demand.j1 k y0 y1 y2 y3 y4 y5) (dormouseref25_Demand.j1 (k + 1) y0 y1 y2 y3 y4 y5))
  | 0 => ⟨fun _ _ _ _ _ r h => by simp [dormouseref25_Demand.l0] at h, fun _ _ _ _ _ _ r h => by simp [dormouseref25_Demand.j1] at h⟩
  | k + 1 => by
    obtain ⟨ih0, ih1⟩ := dormouseref25_Demand.mono_l k
    refine ⟨?_, ?_⟩
    · intro y0 y1 y2 y3 y4
      unfold dormouseref25_Demand.l0
      repeat' first
      | (with_reducible exact ih0 _ _ _ _ _)
      | (with_reducible exact ih1 _ _ _ _ _ _)
      | (with_reducible exact dormouseref25_Right.mono _ _)
      | (with_reducible exact LeO.refl _)
      | (with_reducible exact LeO.none _)
      | (with_reducible refine LeO.ite ?_ ?_)
      | (with_reducible refine LeO.bind ?_ (fun _ => ?_))
      | exact ih0 _ _ _ _ _
      | exact ih1 _ _ _ _ _ _
      | exact dormouseref25_Right.mono _ _
      | exact LeO.none _
      | refine LeO.ite ?_ ?_
      | refine LeO.bind ?_ (fun _ => ?_)
    · intro y0 y1 y2 y3 y4 y5
      unfold dormouseref25_Demand.j1
      repeat' first
      | (with_reducible exact ih0 _ _ _ _ _)
      | (with_reducible exact ih1 _ _ _ _ _ _)
      | (with_reducible exact dormouseref25_Right.mono _ _)
      | (with_reducible exact LeO.refl _)
      | (with_reducible exact LeO.none _)
      | (with_reducible refine LeO.ite ?_ ?_)
      | (with_reducible refine LeO.bind ?_ (fun _ => ?_))
      | exact ih0 _ _ _ _ _
      | exact ih1 _ _ _ _ _ _
      | exact dormouseref25_Right.mono _ _
      | exact LeO.none _
      | refine LeO.ite ?_ ?_
      | refine LeO.bind ?_ (fun _ => ?_)
theorem dormouseref25_Demand.mono : ∀ a0 a1 a2 k, LeO (dormouseref25_Demand.f k a0 a1 a2) (dormouseref25_Demand.f (k + 1) a0 a1 a2) := by
  intro a0 a1 a2 k
  obtain ⟨ih0, ih1⟩ := dormouseref25_Demand.mono_l k
  unfold dormouseref25_Demand.f
  repeat' first
      | (with_reducible exact ih0 _ _ _ _ _)
      | (with_reducible exact ih1 _ _ _ _ _ _)
      | (with_reducible exact dormouseref25_Right.mono _ _)
      | (with_reducible exact LeO.refl _)
      | (with_reducible exact LeO.none _)
      | (with_reducible refine LeO.ite ?_ ?_)
      | (with_reducible refine LeO.bind ?_ (fun _ => ?_))
      | exact ih0 _ _ _ _ _
      | exact ih1 _ _ _ _ _ _
      | exact dormouseref25_Right.mono _ _
      | exact LeO.none _
      | refine LeO.ite ?_ ?_
      | refine LeO.bind ?_ (fun _ => ?_)
set_option maxHeartbeats 8000000 in
set_option maxRecDepth 100000 in
theorem dormouseref25_Demand.calls (k : Nat) (A0 : Option Addr) (c0 : Nat) (l0 : List (S32)) (a1 : Int) (a2 : Int) (r : Int) (w : World) (hr0 : Kd.C k32 w A0 l0.length l0) (hc0 : l0.length ≤ c0) (h : dormouseref25_Demand.f k l0 a1 a2 = some r) :
    Calls Try.prog 17 #[.slice A0 l0.length c0, .int .i64 a1, .int .i64 a2] w fun e w' => e = .returned (.int .i64 r) ∧ Drawn0 w w' := by
  have HR0 := Aside0.mk hr0
  have HC0 := Aside0.mk hc0
  clear hr0 hc0
  have H : (dormouseref25_Demand.l0 k l0 a1 a2 0 0) = some r := h
  clear h
  have H' := Aside0.mk H
  clear H
  go_enter Try.func17, Try.ntmps17
  go_wp2
  go_loopg [7, 8] k (fun kq v7 v8 w' => ∃ (x7_1 : Int) (x8_1 : Int), v7 = .int .i64 x7_1 ∧ v8 = .int .i64 x8_1 ∧ Aside0 (dormouseref25_Demand.l0 kq l0 a1 a2 x7_1 x8_1 = some r) ∧ Aside0 (kq ≤ k) ∧ Drawn0 w w')
  case atStart => exact ⟨(0), (0), (by first | rfl | (simp; done) | (simp [*]; done)), (by first | rfl | (simp; done) | (simp [*]; done)), H', ⟨Nat.le_refl _⟩, by repeat (first | exact Drawn0.refl _ | apply Drawn0.step)⟩
  case round =>
    clear H'
    try clear c1
    try clear p2
    obtain ⟨x7_1, x8_1, rfl, rfl, HA, HK1, ⟨m1, rfl⟩⟩ := hrel
    cases gk with
    | zero => exact absurd HA.out (by simp [dormouseref25_Demand.l0])
    | succ k1 =>
      have H := HA.out
      clear HA
      simp only [dormouseref25_Demand.l0] at H
      have HC4 := Aside0.mk H
      clear H
      go_upto_region 3 with (fail)
      go_cut [16] (fun v16 wc => ∃ (kq : Nat) (x16_3 : Bool), v16 = .bool x16_3 ∧ Aside0 (dormouseref25_Demand.j1 kq l0 a1 a2 x7_1 x8_1 x16_3 = some r) ∧ Aside0 (kq ≤ k1) ∧ Drawn0 w wc)
      case first =>
        have H := HC4.out
        clear HC4
        by_cases c5 : x8_1 < (l0.length : Int)
        · rw [if_pos c5] at H
          have c5b0 : decide (x8_1 < (l0.length : Int)) = true := decide_eq_true c5
          clear c5
          (first | rw [c5b0] | (simp only [i64_w, i32_w]; rw [c5b0]) | skip)
          replace H := Option.bind_eq_some_iff.mp H
          obtain ⟨t196, A60, H⟩ := H
          replace H : (dormouseref25_Demand.j1 k1 l0 a1 a2 x7_1 x8_1 t196) = some r := H
          have A6 := Aside0.mk A60
          clear A60
          have H' := Aside0.mk H
          clear H
          go_wp2_with (first | (go_at_call 20; (with_reducible refine (dormouseref25_Right.calls k1 _ _ l0 t196 _ ?side1 ?side2 A6.out).mono ?_); (case side1 => repeat (first | exact HR0.out | (with_reducible refine Kd.C_alloc ?_ _) | (with_reducible refine Kd.C_drewN ?_ _) | (with_reducible refine Kd.C_drew ?_))); (case side2 => exact HC0.out); rintro e w' ⟨rfl, ⟨nd, rfl⟩⟩))
          go_meet
          case rel => exact ⟨_, (t196), (by first | rfl | (simp; done) | (simp [*]; done)), H', ⟨by have := HK1.out; first | omega | exact Nat.le_refl _⟩, by repeat (first | exact Drawn0.refl _ | apply Drawn0.step)⟩
        · rw [if_neg c5] at H
          have c5b0 : decide (x8_1 < (l0.length : Int)) = false := decide_eq_false c5
          clear c5
          (first | rw [c5b0] | (simp only [i64_w, i32_w]; rw [c5b0]) | skip)
          have H' := Aside0.mk H
          clear H
          go_wp2
          go_meet
          case rel => exact ⟨_, (false), (by first | rfl | (simp; done) | (simp [*]; done)), H', ⟨by have := HK1.out; first | omega | exact Nat.le_refl _⟩, by repeat (first | exact Drawn0.refl _ | apply Drawn0.step)⟩
      case rest =>
        clear HC4
        try clear c1
        try clear p2
        try clear c5
        try clear c5b0
        try clear p2
        obtain ⟨kq, x16_3, rfl, HA, HJ3, ⟨mc3, rfl⟩⟩ := hcut
        cases kq with
        | zero => exact absurd HA.out (by simp [dormouseref25_Demand.j1])
        | succ kj3 =>
          have H := HA.out
          clear HA
          simp only [dormouseref25_Demand.j1] at H
          by_cases c7 : x16_3 = true
          · subst c7
            have H1 : (if 0 ≤ x8_1 then (if x8_1 < (l0.length : Int) then (if ((rd_T32 l0 x8_1).f0) ≥ a1 then (if ((rd_T32 l0 x8_1).f1) ≤ a2 then (dormouseref25_Demand.l0 kj3 l0 a1 a2 (wrap64 (x7_1 + ((rd_T32 l0 x8_1).f2))) (wrap64 (x8_1 + 1))) else (dormouseref25_Demand.l0 kj3 l0 a1 a2 x7_1 (wrap64 (x8_1 + 1)))) else (dormouseref25_Demand.l0 kj3 l0 a1 a2 x7_1 (wrap64 (x8_1 + 1)))) else (none)) else (none)) = some r := by rw [if_pos rfl] at H; exact H
            clear H
            have H := H1
            clear H1
            by_cases c8 : 0 ≤ x8_1
            · rw [if_pos c8] at H
              have c8b0 : decide (0 ≤ x8_1) = true := decide_eq_true c8
              clear c8
              by_cases c9 : x8_1 < (l0.length : Int)
              · rw [if_pos c9] at H
                have c9b0 : decide (x8_1 < (l0.length : Int)) = true := decide_eq_true c9
                clear c9
                by_cases c10 : ((rd_T32 l0 x8_1).f0) ≥ a1
                · rw [if_pos c10] at H
                  have c10b0 : decide (a1 ≤ ((rd_T32 l0 x8_1).f0)) = true := decide_eq_true c10
                  clear c10
                  by_cases c11 : ((rd_T32 l0 x8_1).f1) ≤ a2
                  · rw [if_pos c11] at H
                    have c11b0 : decide (((rd_T32 l0 x8_1).f1) ≤ a2) = true := decide_eq_true c11
                    clear c11
                    have H' := Aside0.mk H
                    clear H
                    have p197 : 0 ≤ (x8_1 : Int) := of_decide_eq_true (by first | (with_reducible assumption) | assumption)
                    have q197 : x8_1 < (l0.length : Int) := of_decide_eq_true (by first | (with_reducible assumption) | assumption)
                    obtain ⟨ad197, e197, hx197_0, hx197_1, hx197_2⟩ := at_T32 HR0.out x8_1 p197 q197
                    cases e197
                    replace p197 := eq_true p197
                    replace q197 := eq_true q197
                    have p198 : 0 ≤ (x8_1 : Int) := of_decide_eq_true (by first | (with_reducible assumption) | assumption)
                    have q198 : x8_1 < (l0.length : Int) := of_decide_eq_true (by first | (with_reducible assumption) | assumption)
                    obtain ⟨ad198, e198, hx198_0, hx198_1, hx198_2⟩ := at_T32 HR0.out x8_1 p198 q198
                    obtain rfl : ad197 = ad198 := (by injection e198)
                    replace p198 := eq_true p198
                    replace q198 := eq_true q198
                    have p199 : 0 ≤ (x8_1 : Int) := of_decide_eq_true (by first | (with_reducible assumption) | assumption)
                    have q199 : x8_1 < (l0.length : Int) := of_decide_eq_true (by first | (with_reducible assumption) | assumption)
                    obtain ⟨ad199, e199, hx199_0, hx199_1, hx199_2⟩ := at_T32 HR0.out x8_1 p199 q199
                    obtain rfl : ad197 = ad199 := (by injection e199)
                    replace p199 := eq_true p199
                    replace q199 := eq_true q199
                    go_wp2
                    go_roundg kj3
                    case measure => have := HK1.out; have := HJ3.out; omega
                    case rel => exact ⟨(wrap64 (x7_1 + ((rd_T32 l0 x8_1).f2))), (wrap64 (x8_1 + 1)), (by first | rfl | (simp; done) | (simp [*]; done)), (by first | rfl | (simp; done) | (simp [*]; done)), H', ⟨by have := HK1.out; have := HJ3.out; omega⟩, by repeat (first | exact Drawn0.refl _ | apply Drawn0.step)⟩
                  · rw [if_neg c11] at H
                    have c11b0 : decide (((rd_T32 l0 x8_1).f1) ≤ a2) = false := decide_eq_false c11
                    clear c11
                    have H' := Aside0.mk H
                    clear H
                    have p197 : 0 ≤ (x8_1 : Int) := of_decide_eq_true (by first | (with_reducible assumption) | assumption)
                    have q197 : x8_1 < (l0.length : Int) := of_decide_eq_true (by first | (with_reducible assumption) | assumption)
                    obtain ⟨ad197, e197, hx197_0, hx197_1, hx197_2⟩ := at_T32 HR0.out x8_1 p197 q197
                    cases e197
                    replace p197 := eq_true p197
                    replace q197 := eq_true q197
                    have p198 : 0 ≤ (x8_1 : Int) := of_decide_eq_true (by first | (with_reducible assumption) | assumption)
                    have q198 : x8_1 < (l0.length : Int) := of_decide_eq_true (by first | (with_reducible assumption) | assumption)
                    obtain ⟨ad198, e198, hx198_0, hx198_1, hx198_2⟩ := at_T32 HR0.out x8_1 p198 q198
                    obtain rfl : ad197 = ad198 := (by injection e198)
                    replace p198 := eq_true p198
                    replace q198 := eq_true q198
                    go_wp2
                    go_roundg kj3
                    case measure => have := HK1.out; have := HJ3.out; omega
                    case rel => exact ⟨(x7_1), (wrap64 (x8_1 + 1)), (by first | rfl | (simp; done) | (simp [*]; done)), (by first | rfl | (simp; done) | (simp [*]; done)), H', ⟨by have := HK1.out; have := HJ3.out; omega⟩, by repeat (first | exact Drawn0.refl _ | apply Drawn0.step)⟩
                · rw [if_neg c10] at H
                  have c10b0 : decide (a1 ≤ ((rd_T32 l0 x8_1).f0)) = false := decide_eq_false c10
                  clear c10
                  have H' := Aside0.mk H
                  clear H
                  have p197 : 0 ≤ (x8_1 : Int) := of_decide_eq_true (by first | (with_reducible assumption) | assumption)
                  have q197 : x8_1 < (l0.length : Int) := of_decide_eq_true (by first | (with_reducible assumption) | assumption)
                  obtain ⟨ad197, e197, hx197_0, hx197_1, hx197_2⟩ := at_T32 HR0.out x8_1 p197 q197
                  cases e197
                  replace p197 := eq_true p197
                  replace q197 := eq_true q197
                  go_wp2
                  go_roundg kj3
                  case measure => have := HK1.out; have := HJ3.out; omega
                  case rel => exact ⟨(x7_1), (wrap64 (x8_1 + 1)), (by first | rfl | (simp; done) | (simp [*]; done)), (by first | rfl | (simp; done) | (simp [*]; done)), H', ⟨by have := HK1.out; have := HJ3.out; omega⟩, by repeat (first | exact Drawn0.refl _ | apply Drawn0.step)⟩
              · rw [if_neg c9] at H
                exact absurd H (by simp)
            · rw [if_neg c8] at H
              exact absurd H (by simp)
          · replace c7 := Bool.eq_false_iff.mpr c7
            subst c7
            have H1 : (some x7_1) = some r := by rw [if_neg (show ¬ (false = true) by decide)] at H; exact H
            clear H
            have H := H1
            clear H1
            obtain rfl := Option.some.inj H
            go_wp2
            go_ret
            exact ⟨by first | rfl | (simp; done) | (simp [*]; done), by repeat (first | exact Drawn0.refl _ | apply Drawn0.step)⟩

end Go.Proofs.Ytanakihfgdgdfaa.F
