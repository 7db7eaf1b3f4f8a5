-- Told by the kit's print.py out of this seat's translation, for this session's own texts (not a PRINTED file).
import Derived.Test.YtdjmcjfdkcckoaaFx0
import Derived.Test.YtdjmcjfdkcckoaaG0
import Derived.Test.YtdjmcjfdkcckoaaG1
import Derived.Test.YtdjmcjfdkcckoaaG4
import Derived.Test.YtdjmcjfdkcckoaaG5
namespace Go.Proofs.Ytdjmcjfdkcckoaa.F
open Go.RowKit Go.Proofs.YtdjmcjfdkcckoaaW.PrintWords Go.Proofs.YtdjmcjfdkcckoaaW.PrintLast Go.Proofs.YtdjmcjfdkcckoaaW.PrintMore
attribute [local go_sem] max2_int min2_int max_two min_two max_three min_three max_four min_four   -- for this text's walks alone
set_option linter.unusedVariables false
set_option linter.unusedSimpArgs false

/-! ### dormouselaw28_DemandSporadic: function 10 -/
mutual
def dormouselaw28_DemandSporadic.j0 : Nat → List (S36) → List (S56) → Bool → Option (Bool)
  | 0, _, _, _ => none
  | k + 1, x0, x1, x28 => if x28 = true then ((dormouselaw28_answers.f k).bind fun t336 => (some t336)) else (if 8 ≤ 35184372088832 then (dormouselaw28_DemandSporadic.l0 k x0 x1 (List.replicate 8 0) ([] : List (S31)) 0) else (none))
def dormouselaw28_DemandSporadic.l0 : Nat → List (S36) → List (S56) → List Int → List (S31) → Int → Option (Bool)
  | 0, _, _, _, _, _ => none
  | k + 1, x0, x1, x5, x6, x7 => if x7 < (x1.length : Int) then (if 0 ≤ x7 then (if (x0.length : Int) = 0 then (none) else (if 0 ≤ (Int.tmod (wrap64 ((rd_T56 x1 x7).f0)) (x0.length : Int)) then (if (Int.tmod (wrap64 ((rd_T56 x1 x7).f0)) (x0.length : Int)) < (x5.length : Int) then (if (Int.tmod (wrap64 ((rd_T56 x1 x7).f0)) (x0.length : Int)) < (x0.length : Int) then ((some (x5.set ((Int.tmod (wrap64 ((rd_T56 x1 x7).f0)) (x0.length : Int)) : Int).toNat (wrap64 ((wrap64 ((rd x5 (Int.tmod (wrap64 ((rd_T56 x1 x7).f0)) (x0.length : Int))) + (wrap64 ((rd_T56 x1 x7).f1)))) + ((rd_T36 x0 (Int.tmod (wrap64 ((rd_T56 x1 x7).f0)) (x0.length : Int))).f1))) : List Int)).bind fun y344 => ((dormouseref25_Right.f k (([(⟨wrap64 ((rd x5 (Int.tmod (wrap64 ((rd_T56 x1 x7).f0)) (x0.length : Int))) + (wrap64 ((rd_T56 x1 x7).f1))), wrap64 ((wrap64 ((rd x5 (Int.tmod (wrap64 ((rd_T56 x1 x7).f0)) (x0.length : Int))) + (wrap64 ((rd_T56 x1 x7).f1)))) + ((rd_T36 x0 (Int.tmod (wrap64 ((rd_T56 x1 x7).f0)) (x0.length : Int))).f2)), mx (wrap64 (((rd_T36 x0 (Int.tmod (wrap64 ((rd_T56 x1 x7).f0)) (x0.length : Int))).f0) - (wrap64 ((rd_T56 x1 x7).f2)))) 0⟩ : S31)] : List (S31)))).bind fun t352 => (if t352 = true then (if x6.length < 5864062014805 then (dormouselaw28_DemandSporadic.l0 k x0 x1 y344 (x6 ++ [(⟨wrap64 ((rd x5 (Int.tmod (wrap64 ((rd_T56 x1 x7).f0)) (x0.length : Int))) + (wrap64 ((rd_T56 x1 x7).f1))), wrap64 ((wrap64 ((rd x5 (Int.tmod (wrap64 ((rd_T56 x1 x7).f0)) (x0.length : Int))) + (wrap64 ((rd_T56 x1 x7).f1)))) + ((rd_T36 x0 (Int.tmod (wrap64 ((rd_T56 x1 x7).f0)) (x0.length : Int))).f2)), mx (wrap64 (((rd_T36 x0 (Int.tmod (wrap64 ((rd_T56 x1 x7).f0)) (x0.length : Int))).f0) - (wrap64 ((rd_T56 x1 x7).f2)))) 0⟩ : S31)]) (wrap64 (x7 + 1))) else (none)) else (dormouselaw28_DemandSporadic.l0 k x0 x1 y344 x6 (wrap64 (x7 + 1)))))) else (none)) else (none)) else (none))) else (none)) else ((dormouselaw28_answers.f k).bind fun t356 => (if t356 = true then ((sim_Late.f k x6).bind fun t357 => (some (!t357))) else (some false)))
end
def dormouselaw28_DemandSporadic.f (k : Nat) (l0 : List (S36)) (l1 : List (S56)) : Option (Bool) := (dormouseref28_Right.f k l0).bind fun t334 => (if t334 = true then (if (l0.length : Int) = 0 then (dormouselaw28_DemandSporadic.j0 k l0 l1 true) else (if (l1.length : Int) > 32 then (dormouselaw28_DemandSporadic.j0 k l0 l1 true) else ((demand_Fits.f k l0).bind fun t335 => (dormouselaw28_DemandSporadic.j0 k l0 l1 (!t335))))) else (dormouselaw28_DemandSporadic.j0 k l0 l1 true))
theorem dormouselaw28_DemandSporadic.mono_l : ∀ k, (∀ y0 y1 y2, LeO (dormouselaw28_DemandSporadic.j0 k y0 y1 y2) (dormouselaw28_DemandSporadic.j0 (k + 1) y0 y1 y2)) ∧ (∀ y0 y1 y2 y3 y4, LeO (dormouselaw28_DemandSporadic.l0 k y0 y1 y2 y3 y4) (dormouselaw28_DemandSporadic.l0 (k + 1) y0 y1 y2 y3 y4))
  | 0 => ⟨fun _ _ _ r h => by simp [dormouselaw28_DemandSporadic.j0] at h, fun _ _ _ _ _ r h => by simp [dormouselaw28_DemandSporadic.l0] at h⟩
  | k + 1 => by
    obtain ⟨ih0, ih1⟩ := dormouselaw28_DemandSporadic.mono_l k
    refine ⟨?_, ?_⟩
    · intro y0 y1 y2
      unfold dormouselaw28_DemandSporadic.j0
      repeat' first
      | (with_reducible exact ih0 _ _ _)
      | (with_reducible exact ih1 _ _ _ _ _)
      | (with_reducible exact demand_Fits.mono _ _)
      | (with_reducible exact dormouselaw28_answers.mono _)
      | (with_reducible exact dormouseref25_Right.mono _ _)
      | (with_reducible exact dormouseref28_Right.mono _ _)
      | (with_reducible exact sim_Late.mono _ _)
      | (with_reducible exact LeO.refl _)
      | (with_reducible exact LeO.none _)
      | (with_reducible refine LeO.ite ?_ ?_)
      | (with_reducible refine LeO.bind ?_ (fun _ => ?_))
      | exact ih0 _ _ _
      | exact ih1 _ _ _ _ _
      | exact demand_Fits.mono _ _
      | exact dormouselaw28_answers.mono _
      | exact dormouseref25_Right.mono _ _
      | exact dormouseref28_Right.mono _ _
      | exact sim_Late.mono _ _
      | exact LeO.none _
      | refine LeO.ite ?_ ?_
      | refine LeO.bind ?_ (fun _ => ?_)
    · intro y0 y1 y2 y3 y4
      unfold dormouselaw28_DemandSporadic.l0
      repeat' first
      | (with_reducible exact ih0 _ _ _)
      | (with_reducible exact ih1 _ _ _ _ _)
      | (with_reducible exact demand_Fits.mono _ _)
      | (with_reducible exact dormouselaw28_answers.mono _)
      | (with_reducible exact dormouseref25_Right.mono _ _)
      | (with_reducible exact dormouseref28_Right.mono _ _)
      | (with_reducible exact sim_Late.mono _ _)
      | (with_reducible exact LeO.refl _)
      | (with_reducible exact LeO.none _)
      | (with_reducible refine LeO.ite ?_ ?_)
      | (with_reducible refine LeO.bind ?_ (fun _ => ?_))
      | exact ih0 _ _ _
      | exact ih1 _ _ _ _ _
      | exact demand_Fits.mono _ _
      | exact dormouselaw28_answers.mono _
      | exact dormouseref25_Right.mono _ _
      | exact dormouseref28_Right.mono _ _
      | exact sim_Late.mono _ _
      | exact LeO.none _
      | refine LeO.ite ?_ ?_
      | refine LeO.bind ?_ (fun _ => ?_)
theorem dormouselaw28_DemandSporadic.mono : ∀ a0 a1 k, LeO (dormouselaw28_DemandSporadic.f k a0 a1) (dormouselaw28_DemandSporadic.f (k + 1) a0 a1) := by
  intro a0 a1 k
  obtain ⟨ih0, ih1⟩ := dormouselaw28_DemandSporadic.mono_l k
  unfold dormouselaw28_DemandSporadic.f
  repeat' first
      | (with_reducible exact ih0 _ _ _)
      | (with_reducible exact ih1 _ _ _ _ _)
      | (with_reducible exact demand_Fits.mono _ _)
      | (with_reducible exact dormouselaw28_answers.mono _)
      | (with_reducible exact dormouseref25_Right.mono _ _)
      | (with_reducible exact dormouseref28_Right.mono _ _)
      | (with_reducible exact sim_Late.mono _ _)
      | (with_reducible exact LeO.refl _)
      | (with_reducible exact LeO.none _)
      | (with_reducible refine LeO.ite ?_ ?_)
      | (with_reducible refine LeO.bind ?_ (fun _ => ?_))
      | exact ih0 _ _ _
      | exact ih1 _ _ _ _ _
      | exact demand_Fits.mono _ _
      | exact dormouselaw28_answers.mono _
      | exact dormouseref25_Right.mono _ _
      | exact dormouseref28_Right.mono _ _
      | exact sim_Late.mono _ _
      | exact LeO.none _
      | refine LeO.ite ?_ ?_
      | refine LeO.bind ?_ (fun _ => ?_)
def dormouselaw28_DemandSporadic.T9 : Bool × List (List Nat × List Nat) := (true, [([], []), ([0], [0]), ([1], [1]), ([], []), ([], []), ([3, 4], [3, 4]), ([5], [5]), ([6], [6]), ([7], [7]), ([2, 8], [2, 8]), ([9, 0, 1, 2, 3, 4, 5, 6, 7, 8, 9], [9])])
def dormouselaw28_DemandSporadic.B9 : List Nat := [0, 1, 3, 0, 0, 24, 56, 120, 248, 511, 1023]
theorem dormouselaw28_DemandSporadic.tab9 : rtab .any (opsOf Try.f10 9) = dormouselaw28_DemandSporadic.T9 := by kernel_rfl
theorem dormouselaw28_DemandSporadic.bits9 : waitsOk dormouselaw28_DemandSporadic.T9.2 dormouselaw28_DemandSporadic.B9 = true := by kernel_rfl
def dormouselaw28_DemandSporadic.T11 : Bool × List (List Nat × List Nat) := (true, [([], []), ([], []), ([], []), ([], []), ([2, 3], [2, 3]), ([4], [4]), ([5], [5]), ([1, 6], [1, 6]), ([], []), ([], []), ([8, 9], [8, 9]), ([10], [10]), ([11], [11]), ([], []), ([], []), ([13, 14], [13, 14]), ([15], [15]), ([16], [16]), ([17], [17]), ([12, 18], [12, 18]), ([19], [19]), ([0, 7, 20], [0, 7, 20]), ([], []), ([22, 21, 0, 1, 2, 3, 4, 5, 6, 7, 8, 9, 10, 11, 12, 13, 14, 15, 16, 17, 18, 19, 20, 21, 22], [21, 22])])
def dormouselaw28_DemandSporadic.B11 : List Nat := [0, 0, 0, 0, 12, 28, 60, 126, 0, 0, 768, 1792, 3840, 0, 0, 24576, 57344, 122880, 253952, 524032, 1048320, 2097151, 0, 8388607]
theorem dormouselaw28_DemandSporadic.tab11 : rtab .any (opsOf Try.f10 11) = dormouselaw28_DemandSporadic.T11 := by kernel_rfl
theorem dormouselaw28_DemandSporadic.bits11 : waitsOk dormouselaw28_DemandSporadic.T11.2 dormouselaw28_DemandSporadic.B11 = true := by kernel_rfl
set_option maxHeartbeats 8000000 in
set_option maxRecDepth 100000 in
theorem dormouselaw28_DemandSporadic.calls (k : Nat) (A0 : Option Addr) (c0 : Nat) (l0 : List (S36)) (A1 : Option Addr) (c1 : Nat) (l1 : List (S56)) (r : Bool) (w : World) (hr0 : Kd.C k36 w A0 l0.length l0) (hc0 : l0.length ≤ c0) (hr1 : Kd.C k56 w A1 l1.length l1) (hc1 : l1.length ≤ c1) (h : dormouselaw28_DemandSporadic.f k l0 l1 = some r) :
    Calls Try.prog 10 #[.slice A0 l0.length c0, .slice A1 l1.length c1] w fun e w' => e = .returned (.bool r) ∧ Below w.heap.size w w' := by
  have hu31 := Try.underlying31
  have HR0 := Aside0.mk hr0
  have HC0 := Aside0.mk hc0
  clear hr0 hc0
  have HR1 := Aside0.mk hr1
  have HC1 := Aside0.mk hc1
  clear hr1 hc1
  have HB := Aside0.mk (Below.refl w.heap.size w)
  have H : ((dormouseref28_Right.f k l0).bind fun t334 => (if t334 = true then (if (l0.length : Int) = 0 then (dormouselaw28_DemandSporadic.j0 k l0 l1 true) else (if (l1.length : Int) > 32 then (dormouselaw28_DemandSporadic.j0 k l0 l1 true) else ((demand_Fits.f k l0).bind fun t335 => (dormouselaw28_DemandSporadic.j0 k l0 l1 (!t335))))) else (dormouselaw28_DemandSporadic.j0 k l0 l1 true))) = some r := h
  clear h
  have HC3 := Aside0.mk H
  clear H
  go_enter Try.func10, Try.ntmps10
  go_upto_region 1 with (fail)
  go_cut [28] (fun v28 wc => ∃ (kq : Nat) (x28_2 : Bool), v28 = .bool x28_2 ∧ Aside0 (dormouselaw28_DemandSporadic.j0 kq l0 l1 x28_2 = some r) ∧ Aside0 (kq ≤ k) ∧ Aside0 (Below w.heap.size w wc))
  case first =>
    have H := HC3.out
    clear HC3
    replace H := Option.bind_eq_some_iff.mp H
    obtain ⟨t334, A40, H⟩ := H
    replace H : (if t334 = true then (if (l0.length : Int) = 0 then (dormouselaw28_DemandSporadic.j0 k l0 l1 true) else (if (l1.length : Int) > 32 then (dormouselaw28_DemandSporadic.j0 k l0 l1 true) else ((demand_Fits.f k l0).bind fun t335 => (dormouselaw28_DemandSporadic.j0 k l0 l1 (!t335))))) else (dormouselaw28_DemandSporadic.j0 k l0 l1 true)) = some r := H
    have A4 := Aside0.mk A40
    clear A40
    by_cases c5 : t334 = true
    · subst c5
      have H1 : (if (l0.length : Int) = 0 then (dormouselaw28_DemandSporadic.j0 k l0 l1 true) else (if (l1.length : Int) > 32 then (dormouselaw28_DemandSporadic.j0 k l0 l1 true) else ((demand_Fits.f k l0).bind fun t335 => (dormouselaw28_DemandSporadic.j0 k l0 l1 (!t335))))) = some r := by rw [if_pos rfl] at H; exact H
      clear H
      have H := H1
      clear H1
      by_cases c6 : (l0.length : Int) = 0
      · rw [if_pos c6] at H
        have c6b0 : ((l0.length : Int) == 0) = true := beq_iff_eq.mpr c6
        have c6b1 : ((l0.length : Int) != 0) = false := bne_eq_false_iff_eq.mpr c6
        clear c6
        (first | rw [c6b0] | (simp only [i64_w, i32_w]; rw [c6b0]) | skip)
        have H' := Aside0.mk H
        clear H
        go_wp2_with (first | ((with_reducible refine gate_callee (f := 22) rfl ?_); refine goesL_ (some 12) rfl rfl Try.func22 (by kernel_rfl) rfl #[.slice A0 l0.length c0] rfl (by (try simp only [List.map_toArray, List.map_cons, List.map_nil]); first | done | rfl | (simp only [List.length_drop, List.length_take]; rfl)) ?_; (with_reducible refine (dormouseref28_Right.calls k _ _ l0 true _ ?side1 ?side2 A4.out).mono ?_); (case side1 => repeat (first | exact (Kd.C_below HR0.out HB.out) | (with_reducible refine Kd.C_alloc ?_ _) | (with_reducible refine Kd.C_drewN ?_ _) | (with_reducible refine Kd.C_drew ?_))); (case side2 => exact HC0.out); rintro e w' ⟨rfl, ⟨nd, rfl⟩⟩; refine ⟨_, rfl, ?_⟩))
        go_meet
        case rel => exact ⟨_, (true), (by first | rfl | (simp; done) | (simp [*]; done)), H', ⟨by first | omega | exact Nat.le_refl _⟩, ⟨by repeat (first | (with_reducible first | exact HB.out | apply below_alloc | apply pw_below_drewN | apply below_drew1) | exact HB.out)⟩⟩
      · rw [if_neg c6] at H
        have c6b0 : ((l0.length : Int) == 0) = false := beq_eq_false_iff_ne.mpr c6
        have c6b1 : ((l0.length : Int) != 0) = true := bne_iff_ne.mpr c6
        have c6b2 : ¬ (l0 = []) := fun h_ => c6 (by rw [h_]; rfl)
        (first | rw [c6b0] | (simp only [i64_w, i32_w]; rw [c6b0]) | skip)
        by_cases c7 : (l1.length : Int) > 32
        · rw [if_pos c7] at H
          have c7b0 : decide (32 < (l1.length : Int)) = true := decide_eq_true c7
          have c7b1 : decide (32 < l1.length) = true := decide_eq_true (by omega)
          clear c7
          have H' := Aside0.mk H
          clear H
          go_wp2_with (first | ((with_reducible refine gate_callee (f := 22) rfl ?_); refine goesL_ (some 12) rfl rfl Try.func22 (by kernel_rfl) rfl #[.slice A0 l0.length c0] rfl (by (try simp only [List.map_toArray, List.map_cons, List.map_nil]); first | done | rfl | (simp only [List.length_drop, List.length_take]; rfl)) ?_; (with_reducible refine (dormouseref28_Right.calls k _ _ l0 true _ ?side1 ?side2 A4.out).mono ?_); (case side1 => repeat (first | exact (Kd.C_below HR0.out HB.out) | (with_reducible refine Kd.C_alloc ?_ _) | (with_reducible refine Kd.C_drewN ?_ _) | (with_reducible refine Kd.C_drew ?_))); (case side2 => exact HC0.out); rintro e w' ⟨rfl, ⟨nd, rfl⟩⟩; refine ⟨_, rfl, ?_⟩))
          go_meet
          case rel => exact ⟨_, (true), (by first | rfl | (simp; done) | (simp [*]; done)), H', ⟨by first | omega | exact Nat.le_refl _⟩, ⟨by repeat (first | (with_reducible first | exact HB.out | apply below_alloc | apply pw_below_drewN | apply below_drew1) | exact HB.out)⟩⟩
        · rw [if_neg c7] at H
          have c7b0 : decide (32 < (l1.length : Int)) = false := decide_eq_false c7
          have c7b1 : decide (32 < l1.length) = false := decide_eq_false (by omega)
          clear c7
          replace H := Option.bind_eq_some_iff.mp H
          obtain ⟨t335, A80, H⟩ := H
          replace H : (dormouselaw28_DemandSporadic.j0 k l0 l1 (!t335)) = some r := H
          have A8 := Aside0.mk A80
          clear A80
          have H' := Aside0.mk H
          clear H
          go_wp2_with (first | ((with_reducible refine gate_callee (f := 22) rfl ?_); refine goesL_ (some 12) rfl rfl Try.func22 (by kernel_rfl) rfl #[.slice A0 l0.length c0] rfl (by (try simp only [List.map_toArray, List.map_cons, List.map_nil]); first | done | rfl | (simp only [List.length_drop, List.length_take]; rfl)) ?_; (with_reducible refine (dormouseref28_Right.calls k _ _ l0 true _ ?side1 ?side2 A4.out).mono ?_); (case side1 => repeat (first | exact (Kd.C_below HR0.out HB.out) | (with_reducible refine Kd.C_alloc ?_ _) | (with_reducible refine Kd.C_drewN ?_ _) | (with_reducible refine Kd.C_drew ?_))); (case side2 => exact HC0.out); rintro e w' ⟨rfl, ⟨nd, rfl⟩⟩; refine ⟨_, rfl, ?_⟩) | (go_at_call 17; (with_reducible refine (demand_Fits.calls k _ _ l0 t335 _ ?side1 ?side2 A8.out).mono ?_); (case side1 => repeat (first | exact (Kd.C_below HR0.out (by repeat (first | (with_reducible first | exact HB.out | apply below_alloc | apply pw_below_drewN | apply below_drew1) | exact HB.out))) | (with_reducible refine Kd.C_alloc ?_ _) | (with_reducible refine Kd.C_drewN ?_ _) | (with_reducible refine Kd.C_drew ?_))); (case side2 => exact HC0.out); rintro e w9 ⟨rfl, hb⟩; have n0_ := Aside0.mk (below_step (by repeat (first | (with_reducible first | exact HB.out | apply below_alloc | apply pw_below_drewN | apply below_drew1) | exact HB.out)) hb); clear HB; have HB := n0_; clear n0_; (try clear hb); (try clear hb2); (try clear hk); (try clear hi)))
          go_meet
          case rel => exact ⟨_, (!t335), (by first | rfl | (simp; done) | (simp [*]; done)), H', ⟨by first | omega | exact Nat.le_refl _⟩, ⟨by repeat (first | (with_reducible first | exact HB.out | apply below_alloc | apply pw_below_drewN | apply below_drew1) | exact HB.out)⟩⟩
    · replace c5 := Bool.eq_false_iff.mpr c5
      subst c5
      have H1 : (dormouselaw28_DemandSporadic.j0 k l0 l1 true) = some r := by rw [if_neg (show ¬ (false = true) by decide)] at H; exact H
      clear H
      have H := H1
      clear H1
      have H' := Aside0.mk H
      clear H
      go_wp2_with (first | ((with_reducible refine gate_callee (f := 22) rfl ?_); refine goesL_ (some 12) rfl rfl Try.func22 (by kernel_rfl) rfl #[.slice A0 l0.length c0] rfl (by (try simp only [List.map_toArray, List.map_cons, List.map_nil]); first | done | rfl | (simp only [List.length_drop, List.length_take]; rfl)) ?_; (with_reducible refine (dormouseref28_Right.calls k _ _ l0 false _ ?side1 ?side2 A4.out).mono ?_); (case side1 => repeat (first | exact (Kd.C_below HR0.out HB.out) | (with_reducible refine Kd.C_alloc ?_ _) | (with_reducible refine Kd.C_drewN ?_ _) | (with_reducible refine Kd.C_drew ?_))); (case side2 => exact HC0.out); rintro e w' ⟨rfl, ⟨nd, rfl⟩⟩; refine ⟨_, rfl, ?_⟩))
      go_meet
      case rel => exact ⟨_, (true), (by first | rfl | (simp; done) | (simp [*]; done)), H', ⟨by first | omega | exact Nat.le_refl _⟩, ⟨by repeat (first | (with_reducible first | exact HB.out | apply below_alloc | apply pw_below_drewN | apply below_drew1) | exact HB.out)⟩⟩
  case rest =>
    clear HC3
    try clear c1
    try clear c2
    try clear p2
    try clear c5
    try clear c6
    try clear c6b0
    try clear c6b1
    try clear c6b2
    try clear c7
    try clear c7b0
    try clear c7b1
    obtain ⟨kq, x28_2, rfl, HA, HJ2, HB⟩ := hcut
    cases kq with
    | zero => exact absurd HA.out (by simp [dormouselaw28_DemandSporadic.j0])
    | succ kj2 =>
      have H := HA.out
      clear HA
      simp only [dormouselaw28_DemandSporadic.j0] at H
      by_cases c10 : x28_2 = true
      · subst c10
        have H1 : ((dormouselaw28_answers.f kj2).bind fun t336 => (some t336)) = some r := by rw [if_pos rfl] at H; exact H
        clear H
        have H := H1
        clear H1
        replace H := Option.bind_eq_some_iff.mp H
        obtain ⟨t336, A110, H⟩ := H
        replace H : (some t336) = some r := H
        have A11 := Aside0.mk A110
        clear A110
        obtain rfl := Option.some.inj H
        go_wp2_with (first | ((with_reducible refine gate_callee (f := 12) rfl ?_); refine goesL_ (some 29) rfl rfl Try.func12 (by kernel_rfl) rfl #[] rfl (by (try simp only [List.map_toArray, List.map_cons, List.map_nil]); first | done | rfl | (simp only [List.length_drop, List.length_take]; rfl)) ?_; (with_reducible refine (dormouselaw28_answers.calls kj2  t336 _ A11.out).mono ?_); rintro e w12 ⟨rfl, hb⟩; refine ⟨_, rfl, ?_⟩; have n0_ := Aside0.mk (below_step (by repeat (first | (with_reducible first | exact HB.out | apply below_alloc | apply pw_below_drewN | apply below_drew1) | exact HB.out)) hb); clear HB; have HB := n0_; clear n0_; (try clear hb); (try clear hb2); (try clear hk); (try clear hi)))
        go_ret
        exact ⟨by first | rfl | (simp [errW_none, errW_some] <;> rfl) | (simp [*, errW_none, errW_some] <;> rfl), by repeat (first | (with_reducible first | exact HB.out | apply below_alloc | apply pw_below_drewN | apply below_drew1) | exact HB.out)⟩
      · replace c10 := Bool.eq_false_iff.mpr c10
        subst c10
        have H1 : (if 8 ≤ 35184372088832 then (dormouselaw28_DemandSporadic.l0 kj2 l0 l1 (List.replicate 8 0) ([] : List (S31)) 0) else (none)) = some r := by rw [if_neg (show ¬ (false = true) by decide)] at H; exact H
        clear H
        have H := H1
        clear H1
        by_cases c13 : 8 ≤ 35184372088832
        · rw [if_pos c13] at H
          have c13b0 := eq_true c13
          have c13b1 : decide (8 ≤ 35184372088832) = true := decide_eq_true c13
          clear c13
          obtain ⟨y337, hy337⟩ : ∃ y_ : List Int, y_ = (List.replicate 8 0) := ⟨_, rfl⟩
          replace H : (dormouselaw28_DemandSporadic.l0 kj2 l0 l1 y337 ([] : List (S31)) 0) = some r := by first | (rw [hy337]; with_reducible exact H) | (have H2_ := (Option.bind_some _ _).symm.trans H; rw [hy337]; with_reducible exact H2_) | (have H2_ := (Option.bind_some _ _).symm.trans H; with_reducible exact H2_) | with_reducible exact H | (rw [hy337]; exact H) | exact H
          have Ny337 := Aside0.mk hy337
          clear hy337
          have H' := Aside0.mk H
          clear H
          go_wp2_with (first | ((with_reducible refine gate_dst (N := 5) rfl ?_); refine box_event ?hg (N := 5) ?hd (cs := #[.int .i64 0, .int .i64 0, .int .i64 0, .int .i64 0, .int .i64 0, .int .i64 0, .int .i64 0, .int .i64 0]) (t := 54) ?hr ?_; (case hd => rfl); (case hg => rfl); (case hr => first | (go_simp; done) | (go_simp; rfl)); intro gbA hg w14 hbox hb; have n2_ := Aside0.mk (by rw [hg]; exact below_size HB.out : w.heap.size ≤ gbA); have n1_ := Aside0.mk (below_step HB.out hb); clear HB; have HB := n1_; have GA := n2_; have BKA := Aside0.mk hbox; clear n1_ n2_ hb hbox hg))
          obtain ⟨v338, hvA⟩ : ∃ v : Value, v = .slice (some ⟨gbA, 0, none⟩) 8 8 := ⟨_, rfl⟩
          have HVA := Aside0.mk hvA
          have HO339 : Aside0 (Kd.R (Kd.int .i64) 54 _ w.heap.size (fun _ => True) v338 y337) := ⟨by rw [hvA, Ny337.out]; exact Kd.R_of_own (xs := List.replicate 8 (0 : Int)) ⟨rfl, .inr ⟨gbA, 8, _, rfl, GA.out, BKA.out, Nat.le_refl _, by unfold maxLen; omega, rfl, rfl⟩⟩ (fun _ _ => trivial)⟩
          clear hvA BKA
          go_loopg [6, 7] kj2 (fun kq v6 v7 w' => ∃ (x5_2 : List Int) (x6_2 : List (S31)) (x7_2 : Int), v7 = .int .i64 x7_2 ∧ Aside0 (dormouselaw28_DemandSporadic.l0 kq l0 l1 x5_2 x6_2 x7_2 = some r) ∧ Aside0 (kq ≤ kj2) ∧ Aside0 (Kd.R (Kd.int .i64) 54 w' w.heap.size (fun _ => True) v338 x5_2) ∧ Aside0 (Kd.R k31 31 w' w.heap.size (fun _ => True) v6 x6_2) ∧ Aside0 (Below w.heap.size w w'))
          case atStart => exact ⟨(y337), (([] : List (S31))), (0), (by first | rfl | (simp; done) | (simp [*]; done)), H', ⟨Nat.le_refl _⟩, ⟨by (with_reducible repeat (first | apply Kd.R_alloc | apply Kd.R_drewN | apply Kd.R_drew)); exact HO339.out⟩, ⟨by first | exact Kd.R_nil _ _ _ _ _ | exact Kd.N_nil _ _ _ _ _ | exact Kd.V_nil _ _ _ _ _ | exact Kd.Q_nil _ _ _ _ _ | exact Kd.S_nil _ _ _ _ _⟩, ⟨by repeat (first | (with_reducible first | exact HB.out | apply below_alloc | apply pw_below_drewN | apply below_drew1) | exact HB.out)⟩⟩
          case round =>
            clear H'
            try clear c1
            try clear c2
            try clear p2
            try clear c5
            try clear c6
            try clear c6b0
            try clear c6b1
            try clear c6b2
            try clear c7
            try clear c7b0
            try clear c7b1
            try clear c10
            try clear c12
            try clear c13
            try clear c13b0
            try clear c13b1
            try clear p2
            obtain ⟨x5_2, x6_2, x7_2, rfl, HA, HK2, HO_5, HO_6, HB⟩ := hrel
            cases gk with
            | zero => exact absurd HA.out (by simp [dormouselaw28_DemandSporadic.l0])
            | succ k2 =>
              have H := HA.out
              clear HA
              simp only [dormouselaw28_DemandSporadic.l0] at H
              by_cases c16 : x7_2 < (l1.length : Int)
              · rw [if_pos c16] at H
                have c16b0 : decide (x7_2 < (l1.length : Int)) = true := decide_eq_true c16
                clear c16
                by_cases c17 : 0 ≤ x7_2
                · rw [if_pos c17] at H
                  have c17b0 : decide (0 ≤ x7_2) = true := decide_eq_true c17
                  clear c17
                  by_cases c18 : (l0.length : Int) = 0
                  · rw [if_pos c18] at H
                    exact absurd H (by simp)
                  · rw [if_neg c18] at H
                    have c18b0 : ((l0.length : Int) == 0) = false := beq_eq_false_iff_ne.mpr c18
                    have c18b1 : ((l0.length : Int) != 0) = true := bne_iff_ne.mpr c18
                    have c18b2 : ¬ (l0 = []) := fun h_ => c18 (by rw [h_]; rfl)
                    obtain ⟨ji19, hji19⟩ : ∃ j_ : Int, (Int.tmod (wrap64 ((rd_T56 l1 x7_2).f0)) (l0.length : Int)) = j_ := ⟨_, rfl⟩
                    replace H : (if 0 ≤ (ji19) then (if (ji19) < (x5_2.length : Int) then (if (ji19) < (l0.length : Int) then ((some (x5_2.set ((ji19) : Int).toNat (wrap64 ((wrap64 ((rd x5_2 (ji19)) + (wrap64 ((rd_T56 l1 x7_2).f1)))) + ((rd_T36 l0 (ji19)).f1))) : List Int)).bind fun y344 => ((dormouseref25_Right.f k2 (([(⟨wrap64 ((rd x5_2 (ji19)) + (wrap64 ((rd_T56 l1 x7_2).f1))), wrap64 ((wrap64 ((rd x5_2 (ji19)) + (wrap64 ((rd_T56 l1 x7_2).f1)))) + ((rd_T36 l0 (ji19)).f2)), mx (wrap64 (((rd_T36 l0 (ji19)).f0) - (wrap64 ((rd_T56 l1 x7_2).f2)))) 0⟩ : S31)] : List (S31)))).bind fun t352 => (if t352 = true then (if x6_2.length < 5864062014805 then (dormouselaw28_DemandSporadic.l0 k2 l0 l1 y344 (x6_2 ++ [(⟨wrap64 ((rd x5_2 (ji19)) + (wrap64 ((rd_T56 l1 x7_2).f1))), wrap64 ((wrap64 ((rd x5_2 (ji19)) + (wrap64 ((rd_T56 l1 x7_2).f1)))) + ((rd_T36 l0 (ji19)).f2)), mx (wrap64 (((rd_T36 l0 (ji19)).f0) - (wrap64 ((rd_T56 l1 x7_2).f2)))) 0⟩ : S31)]) (wrap64 (x7_2 + 1))) else (none)) else (dormouselaw28_DemandSporadic.l0 k2 l0 l1 y344 x6_2 (wrap64 (x7_2 + 1)))))) else (none)) else (none)) else (none)) = some r := by first | (rw [hji19] at H; exact H) | (simp only [hji19] at H ⊢; exact H)
                    by_cases c20 : 0 ≤ (ji19)
                    · rw [if_pos c20] at H
                      have c20b0 : decide (0 ≤ (ji19)) = true := decide_eq_true c20
                      clear c20
                      by_cases c21 : (ji19) < (x5_2.length : Int)
                      · rw [if_pos c21] at H
                        have c21b0 : decide ((ji19) < (x5_2.length : Int)) = true := decide_eq_true c21
                        clear c21
                        by_cases c22 : (ji19) < (l0.length : Int)
                        · rw [if_pos c22] at H
                          have c22b0 : decide ((ji19) < (l0.length : Int)) = true := decide_eq_true c22
                          clear c22
                          obtain ⟨y344, hy344⟩ : ∃ y_ : List Int, y_ = (x5_2.set ((ji19) : Int).toNat (wrap64 ((wrap64 ((rd x5_2 (ji19)) + (wrap64 ((rd_T56 l1 x7_2).f1)))) + ((rd_T36 l0 (ji19)).f1)))) := ⟨_, rfl⟩
                          replace H : ((dormouseref25_Right.f k2 (([(⟨wrap64 ((rd x5_2 (ji19)) + (wrap64 ((rd_T56 l1 x7_2).f1))), wrap64 ((wrap64 ((rd x5_2 (ji19)) + (wrap64 ((rd_T56 l1 x7_2).f1)))) + ((rd_T36 l0 (ji19)).f2)), mx (wrap64 (((rd_T36 l0 (ji19)).f0) - (wrap64 ((rd_T56 l1 x7_2).f2)))) 0⟩ : S31)] : List (S31)))).bind fun t352 => (if t352 = true then (if x6_2.length < 5864062014805 then (dormouselaw28_DemandSporadic.l0 k2 l0 l1 y344 (x6_2 ++ [(⟨wrap64 ((rd x5_2 (ji19)) + (wrap64 ((rd_T56 l1 x7_2).f1))), wrap64 ((wrap64 ((rd x5_2 (ji19)) + (wrap64 ((rd_T56 l1 x7_2).f1)))) + ((rd_T36 l0 (ji19)).f2)), mx (wrap64 (((rd_T36 l0 (ji19)).f0) - (wrap64 ((rd_T56 l1 x7_2).f2)))) 0⟩ : S31)]) (wrap64 (x7_2 + 1))) else (none)) else (dormouselaw28_DemandSporadic.l0 k2 l0 l1 y344 x6_2 (wrap64 (x7_2 + 1))))) = some r := by first | (rw [hy344]; with_reducible exact H) | (have H2_ := (Option.bind_some _ _).symm.trans H; rw [hy344]; with_reducible exact H2_) | (have H2_ := (Option.bind_some _ _).symm.trans H; with_reducible exact H2_) | with_reducible exact H | (rw [hy344]; exact H) | exact H
                          have Ny344 := Aside0.mk hy344
                          clear hy344
                          obtain ⟨ji24, hji24⟩ : ∃ j_ : Int, (mx (wrap64 (((rd_T36 l0 (ji19)).f0) - (wrap64 ((rd_T56 l1 x7_2).f2)))) 0) = j_ := ⟨_, rfl⟩
                          replace H : ((dormouseref25_Right.f k2 (([(⟨wrap64 ((rd x5_2 (ji19)) + (wrap64 ((rd_T56 l1 x7_2).f1))), wrap64 ((wrap64 ((rd x5_2 (ji19)) + (wrap64 ((rd_T56 l1 x7_2).f1)))) + ((rd_T36 l0 (ji19)).f2)), ji24⟩ : S31)] : List (S31)))).bind fun t352 => (if t352 = true then (if x6_2.length < 5864062014805 then (dormouselaw28_DemandSporadic.l0 k2 l0 l1 y344 (x6_2 ++ [(⟨wrap64 ((rd x5_2 (ji19)) + (wrap64 ((rd_T56 l1 x7_2).f1))), wrap64 ((wrap64 ((rd x5_2 (ji19)) + (wrap64 ((rd_T56 l1 x7_2).f1)))) + ((rd_T36 l0 (ji19)).f2)), ji24⟩ : S31)]) (wrap64 (x7_2 + 1))) else (none)) else (dormouselaw28_DemandSporadic.l0 k2 l0 l1 y344 x6_2 (wrap64 (x7_2 + 1))))) = some r := by first | (rw [hji24] at H; exact H) | (simp only [hji24] at H ⊢; exact H)
                          have hji24_ : (if (wrap64 (((rd_T36 l0 (ji19)).f0) - (wrap64 ((rd_T56 l1 x7_2).f2)))) < 0 then 0 else (wrap64 (((rd_T36 l0 (ji19)).f0) - (wrap64 ((rd_T56 l1 x7_2).f2))))) = ji24 := hji24
                          obtain ⟨y349, hy349⟩ : ∃ y_ : List (S31), y_ = (([(⟨wrap64 ((rd x5_2 (ji19)) + (wrap64 ((rd_T56 l1 x7_2).f1))), wrap64 ((wrap64 ((rd x5_2 (ji19)) + (wrap64 ((rd_T56 l1 x7_2).f1)))) + ((rd_T36 l0 (ji19)).f2)), ji24⟩ : S31)] : List (S31))) := ⟨_, rfl⟩
                          replace H : ((dormouseref25_Right.f k2 y349).bind fun t352 => (if t352 = true then (if x6_2.length < 5864062014805 then (dormouselaw28_DemandSporadic.l0 k2 l0 l1 y344 (x6_2 ++ [(⟨wrap64 ((rd x5_2 (ji19)) + (wrap64 ((rd_T56 l1 x7_2).f1))), wrap64 ((wrap64 ((rd x5_2 (ji19)) + (wrap64 ((rd_T56 l1 x7_2).f1)))) + ((rd_T36 l0 (ji19)).f2)), ji24⟩ : S31)]) (wrap64 (x7_2 + 1))) else (none)) else (dormouselaw28_DemandSporadic.l0 k2 l0 l1 y344 x6_2 (wrap64 (x7_2 + 1))))) = some r := by first | (rw [hy349]; with_reducible exact H) | (have H2_ := (Option.bind_some _ _).symm.trans H; rw [hy349]; with_reducible exact H2_) | (have H2_ := (Option.bind_some _ _).symm.trans H; with_reducible exact H2_) | with_reducible exact H | (rw [hy349]; exact H) | exact H
                          have Ny349 := Aside0.mk hy349
                          clear hy349
                          replace H := Option.bind_eq_some_iff.mp H
                          obtain ⟨t352, A250, H⟩ := H
                          replace H : (if t352 = true then (if x6_2.length < 5864062014805 then (dormouselaw28_DemandSporadic.l0 k2 l0 l1 y344 (x6_2 ++ [(⟨wrap64 ((rd x5_2 (ji19)) + (wrap64 ((rd_T56 l1 x7_2).f1))), wrap64 ((wrap64 ((rd x5_2 (ji19)) + (wrap64 ((rd_T56 l1 x7_2).f1)))) + ((rd_T36 l0 (ji19)).f2)), ji24⟩ : S31)]) (wrap64 (x7_2 + 1))) else (none)) else (dormouselaw28_DemandSporadic.l0 k2 l0 l1 y344 x6_2 (wrap64 (x7_2 + 1)))) = some r := H
                          have A25 := Aside0.mk A250
                          clear A250
                          by_cases c26 : t352 = true
                          · subst c26
                            have H1 : (if x6_2.length < 5864062014805 then (dormouselaw28_DemandSporadic.l0 k2 l0 l1 y344 (x6_2 ++ [(⟨wrap64 ((rd x5_2 (ji19)) + (wrap64 ((rd_T56 l1 x7_2).f1))), wrap64 ((wrap64 ((rd x5_2 (ji19)) + (wrap64 ((rd_T56 l1 x7_2).f1)))) + ((rd_T36 l0 (ji19)).f2)), ji24⟩ : S31)]) (wrap64 (x7_2 + 1))) else (none)) = some r := by rw [if_pos rfl] at H; exact H
                            clear H
                            have H := H1
                            clear H1
                            by_cases c27 : x6_2.length < 5864062014805
                            · rw [if_pos c27] at H
                              have LMc27 := Aside0.mk c27
                              clear c27
                              obtain ⟨y353, hy353⟩ : ∃ y_ : List (S31), y_ = (x6_2 ++ [(⟨wrap64 ((rd x5_2 (ji19)) + (wrap64 ((rd_T56 l1 x7_2).f1))), wrap64 ((wrap64 ((rd x5_2 (ji19)) + (wrap64 ((rd_T56 l1 x7_2).f1)))) + ((rd_T36 l0 (ji19)).f2)), ji24⟩ : S31)]) := ⟨_, rfl⟩
                              replace H : (dormouselaw28_DemandSporadic.l0 k2 l0 l1 y344 y353 (wrap64 (x7_2 + 1))) = some r := by first | (rw [hy353]; with_reducible exact H) | (have H2_ := (Option.bind_some _ _).symm.trans H; rw [hy353]; with_reducible exact H2_) | (have H2_ := (Option.bind_some _ _).symm.trans H; with_reducible exact H2_) | with_reducible exact H | (rw [hy353]; exact H) | exact H
                              have Ny353 := Aside0.mk hy353
                              clear hy353
                              have H' := Aside0.mk H
                              clear H
                              have p340 : 0 ≤ (x7_2 : Int) := of_decide_eq_true (by first | (with_reducible assumption) | assumption)
                              have q340 : x7_2 < (l1.length : Int) := of_decide_eq_true (by first | (with_reducible assumption) | assumption)
                              obtain ⟨ad340, e340, hx340_0, hx340_1, hx340_2⟩ := at_T56 HR1.out x7_2 p340 q340
                              cases e340
                              replace hx340_0 := (HB.out.cell (World.block_lt_of_cell? w _ hx340_0)).trans hx340_0
                              replace hx340_1 := (HB.out.cell (World.block_lt_of_cell? w _ hx340_1)).trans hx340_1
                              replace hx340_2 := (HB.out.cell (World.block_lt_of_cell? w _ hx340_2)).trans hx340_2
                              replace p340 := eq_true p340
                              replace q340 := eq_true q340
                              try go_wp2
                              have n0_ := Aside0.mk (Kd.R_drew HO_5.out)
                              have n1_ := Aside0.mk (Kd.R_drew HO_6.out)
                              have n2_ := Aside0.mk (below_drew1 HB.out)
                              clear HO_5
                              clear HO_6
                              clear HB
                              have HO_5 := n0_
                              have HO_6 := n1_
                              have HB := n2_
                              clear n0_ n1_ n2_
                              obtain ⟨Ao29, co29, eo29⟩ := Kd.R_slice HO_5.out
                              (first | subst eo29 | (injection eo29 with f1_ f2_ f3_; have f4_ := f1_.symm; have f5_ := f3_.symm; clear f1_ f2_ f3_; subst f4_; subst f5_))
                              have hv_ := HVA.out
                              injection hv_ with ha_ hl_ hc_
                              subst ha_
                              have q8a_ : (ji19 < 8) = True := eq_true (by have h_ : (ji19) < (x5_2.length : Int) := of_decide_eq_true (by first | (with_reducible assumption) | assumption); omega)
                              have q8b_ : decide (ji19 < 8) = true := decide_eq_true (of_eq_true q8a_)
                              clear hl_ hc_
                              have p341 : 0 ≤ ((ji19) : Int) := of_decide_eq_true (by first | (with_reducible assumption) | assumption)
                              have q341 : (ji19) < (x5_2.length : Int) := of_decide_eq_true (by first | (with_reducible assumption) | assumption)
                              obtain ⟨ad341, e341, hx341_0⟩ := Kd.at_int (Kd.R_reads' HO_5.out).2.2 (ji19) p341 q341
                              cases e341
                              simp only [add_plain] at hx341_0
                              replace p341 := eq_true p341
                              replace q341 := eq_true q341
                              have p342 : 0 ≤ (x7_2 : Int) := of_decide_eq_true (by first | (with_reducible assumption) | assumption)
                              have q342 : x7_2 < (l1.length : Int) := of_decide_eq_true (by first | (with_reducible assumption) | assumption)
                              obtain ⟨ad342, e342, hx342_0, hx342_1, hx342_2⟩ := at_T56 HR1.out x7_2 p342 q342
                              have hw342_2 := hx342_2
                              have hw342_1 := hx342_1
                              have hw342_0 := hx342_0
                              obtain rfl : ad340 = ad342 := (by injection e342)
                              replace hx342_0 := (HB.out.cell (World.block_lt_of_cell? w _ hx342_0)).trans hx342_0
                              replace hx342_1 := (HB.out.cell (World.block_lt_of_cell? w _ hx342_1)).trans hx342_1
                              replace hx342_2 := (HB.out.cell (World.block_lt_of_cell? w _ hx342_2)).trans hx342_2
                              replace p342 := eq_true p342
                              replace q342 := eq_true q342
                              refine start_ (n := 11) (S := fun w' => w'.cell? ⟨gbA, (ji19).toNat, none⟩ = some (.int .i64 (rd x5_2 (ji19))) ∧ w'.cell? (ad340.add ((x7_2).toNat * 3)) = some (.int .u8 ((rd_T56 l1 x7_2).f0)) ∧ w'.cell? ⟨(ad340.add ((x7_2).toNat * 3)).block, (ad340.add ((x7_2).toNat * 3)).off + 1, none⟩ = some (.int .u8 ((rd_T56 l1 x7_2).f1)) ∧ w'.cell? ⟨(ad340.add ((x7_2).toNat * 3)).block, (ad340.add ((x7_2).toNat * 3)).off + 2, none⟩ = some (.int .u8 ((rd_T56 l1 x7_2).f2))) (ds := []) #[false, false, false, false, false, false, false, false, false, false, false] (by kernel_rfl) rfl rfl ⟨hx341_0, ((HB.out.cell (World.block_lt_of_cell? w _ hw342_0)).trans hw342_0), ((HB.out.cell (World.block_lt_of_cell? w _ hw342_1)).trans hw342_1), ((HB.out.cell (World.block_lt_of_cell? w _ hw342_2)).trans hw342_2)⟩ (fun hHeld => ?_); refine with_tabW dormouselaw28_DemandSporadic.tab9 dormouselaw28_DemandSporadic.bits9 (fun HT_ HW_ => ?_)
                              generalize wr.drew = w28 at HO_5 HO_6 HB hx341_0 hx342_0 hx342_1 hx342_2 hHeld ⊢
                              refine pure_ (i := 0) (N := some 45) (v := ?_) (a' := ?_) #[true, false, false, false, false, false, false, false, false, false, false] rfl rfl (any_of HT_.out (by kernel_rfl)) (fun _ _ _ h => h) (Or.inl ⟨by rfl, ?_⟩) ?_ ?_
                              rotate_left
                              · intro w'
                                go_simp
                                with_reducible rfl
                              rotate_left
                              · simp only [Act.put, List.setIfInBounds_toArray, List.set_cons_zero, List.set_cons_succ, i64_w, i32_w]
                                rfl
                              refine pure_ (i := 1) (N := some 46) (v := ?_) (a' := ?_) #[true, true, false, false, false, false, false, false, false, false, false] rfl rfl (any_of HT_.out (by kernel_rfl)) (fun _ _ _ h => h) (Or.inl ⟨by rfl, ?_⟩) ?_ ?_
                              rotate_left
                              · intro w'
                                go_simp
                                with_reducible rfl
                              rotate_left
                              · simp only [Act.put, List.setIfInBounds_toArray, List.set_cons_zero, List.set_cons_succ, i64_w, i32_w]
                                rfl
                              refine pure_ (i := 3) (N := some 48) (v := ?_) (a' := ?_) #[true, true, false, true, false, false, false, false, false, false, false] rfl rfl (any_of HT_.out (by kernel_rfl)) (fun _ _ _ h => h) (Or.inl ⟨by rfl, ?_⟩) ?_ ?_
                              rotate_left
                              · intro w'
                                go_simp
                                with_reducible rfl
                              rotate_left
                              · simp only [Act.put, List.setIfInBounds_toArray, List.set_cons_zero, List.set_cons_succ, i64_w, i32_w]
                                rfl
                              refine pure_ (i := 4) (N := some 49) (v := ?_) (a' := ?_) #[true, true, false, true, true, false, false, false, false, false, false] rfl rfl (any_of HT_.out (by kernel_rfl)) (fun _ _ _ h => h) (Or.inl ⟨by rfl, ?_⟩) ?_ ?_
                              rotate_left
                              · intro w'
                                go_simp
                                with_reducible rfl
                              rotate_left
                              · simp only [Act.put, List.setIfInBounds_toArray, List.set_cons_zero, List.set_cons_succ, i64_w, i32_w]
                                rfl
                              refine pure_ (i := 5) (N := some 50) (v := ?_) (a' := ?_) #[true, true, false, true, true, true, false, false, false, false, false] rfl rfl (any_of HT_.out (by kernel_rfl)) (fun _ _ _ h => h) (Or.inl ⟨by rfl, ?_⟩) ?_ ?_
                              rotate_left
                              · intro w'
                                go_simp
                                with_reducible rfl
                              rotate_left
                              · simp only [Act.put, List.setIfInBounds_toArray, List.set_cons_zero, List.set_cons_succ, i64_w, i32_w]
                                rfl
                              refine pure_ (i := 6) (N := some 51) (v := ?_) (a' := ?_) #[true, true, false, true, true, true, true, false, false, false, false] rfl rfl (any_of HT_.out (by kernel_rfl)) (fun _ _ _ h => h) (Or.inl ⟨by rfl, ?_⟩) ?_ ?_
                              rotate_left
                              · intro w'
                                go_simp
                                with_reducible rfl
                              rotate_left
                              · simp only [Act.put, List.setIfInBounds_toArray, List.set_cons_zero, List.set_cons_succ, i64_w, i32_w]
                                rfl
                              refine take_ (i := 2) (N := some 47) (v := ?_) (a' := ?_) #[true, true, true, true, true, true, true, false, false, false, false] rfl rfl (take_ofW HT_.out HW_.out (by kernel_rfl)) (fun _ _ _ h => h) (Or.inl ⟨by rfl, ?_⟩) hHeld ?_ ?_
                              rotate_left
                              · rintro w' ⟨s0, s1, s2, s3⟩
                                go_simp
                                with_reducible rfl
                              rotate_left
                              · simp only [Act.put, List.setIfInBounds_toArray, List.set_cons_zero, List.set_cons_succ, i64_w, i32_w]
                                rfl
                              refine take_ (i := 7) (N := some 52) (v := ?_) (a' := ?_) #[true, true, true, true, true, true, true, true, false, false, false] rfl rfl (take_ofW HT_.out HW_.out (by kernel_rfl)) (fun _ _ _ h => h) (Or.inl ⟨by rfl, ?_⟩) hHeld ?_ ?_
                              rotate_left
                              · rintro w' ⟨s0, s1, s2, s3⟩
                                go_simp
                                with_reducible rfl
                              rotate_left
                              · simp only [Act.put, List.setIfInBounds_toArray, List.set_cons_zero, List.set_cons_succ, i64_w, i32_w]
                                rfl
                              refine pure_ (i := 8) (N := some 53) (v := ?_) (a' := ?_) #[true, true, true, true, true, true, true, true, true, false, false] rfl rfl (any_of HT_.out (by kernel_rfl)) (fun _ _ _ h => h) (Or.inl ⟨by rfl, ?_⟩) ?_ ?_
                              rotate_left
                              · intro w'
                                go_simp
                                with_reducible rfl
                              rotate_left
                              · simp only [Act.put, List.setIfInBounds_toArray, List.set_cons_zero, List.set_cons_succ, i64_w, i32_w]
                                rfl
                              refine pure_ (i := 9) (N := some 54) (v := ?_) (a' := ?_) #[true, true, true, true, true, true, true, true, true, true, false] rfl rfl (any_of HT_.out (by kernel_rfl)) (fun _ _ _ h => h) (Or.inl ⟨by rfl, ?_⟩) ?_ ?_
                              rotate_left
                              · intro w'
                                go_simp
                                with_reducible rfl
                              rotate_left
                              · simp only [Act.put, List.setIfInBounds_toArray, List.set_cons_zero, List.set_cons_succ, i64_w, i32_w]
                                rfl
                              refine pure_ (i := 10) (N := some 9) (v := ?_) (a' := ?_) #[true, true, true, true, true, true, true, true, true, true, true] rfl rfl (any_of HT_.out (by kernel_rfl)) (fun _ _ _ h => h) (Or.inl ⟨by rfl, ?_⟩) ?_ ?_
                              rotate_left
                              · intro w'
                                go_simp
                                with_reducible rfl
                              rotate_left
                              · simp only [Act.put, List.setIfInBounds_toArray, List.set_cons_zero, List.set_cons_succ, i64_w, i32_w]
                                rfl
                              refine done_ (done_of HT_.out (by kernel_rfl)) ?_
                              have p343 : 0 ≤ ((ji19) : Int) := of_decide_eq_true (by first | (with_reducible assumption) | assumption)
                              have q343 : (ji19) < (l0.length : Int) := of_decide_eq_true (by first | (with_reducible assumption) | assumption)
                              obtain ⟨ad343, e343, hx343_0, hx343_1, hx343_2⟩ := at_T36 HR0.out (ji19) p343 q343
                              cases e343
                              replace hx343_0 := (HB.out.cell (World.block_lt_of_cell? w _ hx343_0)).trans hx343_0
                              replace hx343_1 := (HB.out.cell (World.block_lt_of_cell? w _ hx343_1)).trans hx343_1
                              replace hx343_2 := (HB.out.cell (World.block_lt_of_cell? w _ hx343_2)).trans hx343_2
                              replace p343 := eq_true p343
                              replace q343 := eq_true q343
                              have p23 : 0 ≤ ((ji19) : Int) := of_decide_eq_true (by first | (with_reducible assumption) | assumption)
                              have q23 : ((ji19) : Int) < ((x5_2.length : Int) : Int) := of_decide_eq_true (by first | (with_reducible assumption) | assumption)
                              obtain ⟨go23, co23, eo23, gb23, gl23, cl23, HG23⟩ := Kd.R_form HO_5.out (by omega)
                              (first | cases eo23 | (injection eo23 with ea_ en_ ec_; (first | subst ea_ | (injection ea_ with ea_; subst ea_)); subst ec_; clear en_))
                              have GB23 := Aside0.mk gb23
                              have GG23 := Aside0.mk HG23
                              clear gb23 gl23 HG23
                              (first | simp only [add_plain] at hx341_0 | skip)
                              obtain ⟨hx23_0, hf23_0⟩ := Kd.R_celln 0 HO_5.out ((ji19) : Int) p23 q23
                              replace p23 := eq_true p23
                              replace q23 := eq_true q23
                              obtain ⟨hy30_, hz30_⟩ := Kd.R_celln 0 HO_5.out ((ji19) : Int) (of_decide_eq_true (by first | (with_reducible assumption) | assumption)) (of_decide_eq_true (by first | (with_reducible assumption) | assumption))
                              have HP30 := Kd.R_putg HO_5.out ((ji19) : Int) (wrap64 ((wrap64 ((rd x5_2 (ji19)) + (wrap64 ((rd_T56 l1 x7_2).f1)))) + ((rd_T36 l0 (ji19)).f1)))
                              try go_wp2_with (first | ((with_reducible refine gate_store (t := 3) (p := 63) rfl ?_); refine store_event (t := 3) (p := 63) (v := ?vo_w31) (w1 := (w28.setCell ⟨gbA, ((ji19) : Int).toNat, none⟩ (.int .i64 (wrap64 ((wrap64 ((rd x5_2 (ji19)) + (wrap64 ((rd_T56 l1 x7_2).f1)))) + ((rd_T36 l0 (ji19)).f1)))))) ?hg ?ho ?hn ?hr ?_; (case ho => rfl); (case hg => rfl); (case hn => rfl); (case hr => first | (go_simp; done) | (go_simp; rfl)); intro w31 hw; have hg : w28.grownBy w31 (some gbA) := (by rw [hw]; exact HP30.2); have hp_ : Kd.R (Kd.int .i64) 54 w31 w.heap.size (fun _ => True) (.slice (some ⟨gbA, 0, none⟩) x5_2.length co29) y344 := (by rw [hw, Ny344.out]; exact HP30.1); clear HP30; have n0_ := Aside0.mk (hp_); have n1_ := Aside0.mk (Kd.R_over' (v := (.slice (some ⟨gbA, 0, none⟩) x5_2.length co29)) (by (with_reducible repeat (first | apply Kd.R_alloc | apply Kd.R_drewN | apply Kd.R_drew)); exact HO_6.out) (Kd.R_typed HO_5.out) (by decide) hg); have n2_ := Aside0.mk ((by rw [hw]; exact below_set (HB.out) GB23.out : Below w.heap.size w w31)); clear HO_5; clear HO_6; clear HB; have HO_5 := n0_; have HO_6 := n1_; have HB := n2_; clear n0_ n1_ n2_; clear hg hw hp_))
                              have n0_ := Aside0.mk (Kd.R_drew HO_5.out)
                              have n1_ := Aside0.mk (Kd.R_drew HO_6.out)
                              have n2_ := Aside0.mk (below_drew1 HB.out)
                              clear HO_5
                              clear HO_6
                              clear HB
                              have HO_5 := n0_
                              have HO_6 := n1_
                              have HB := n2_
                              clear n0_ n1_ n2_
                              have p345 : 0 ≤ ((ji19) : Int) := of_decide_eq_true (by first | (with_reducible assumption) | assumption)
                              have q345 : (ji19) < (l0.length : Int) := of_decide_eq_true (by first | (with_reducible assumption) | assumption)
                              obtain ⟨ad345, e345, hx345_0, hx345_1, hx345_2⟩ := at_T36 HR0.out (ji19) p345 q345
                              have hw345_2 := hx345_2
                              have hw345_1 := hx345_1
                              have hw345_0 := hx345_0
                              obtain rfl : ad343 = ad345 := (by injection e345)
                              replace hx345_0 := (HB.out.cell (World.block_lt_of_cell? w _ hx345_0)).trans hx345_0
                              replace hx345_1 := (HB.out.cell (World.block_lt_of_cell? w _ hx345_1)).trans hx345_1
                              replace hx345_2 := (HB.out.cell (World.block_lt_of_cell? w _ hx345_2)).trans hx345_2
                              replace p345 := eq_true p345
                              replace q345 := eq_true q345
                              have p346 : 0 ≤ ((ji19) : Int) := of_decide_eq_true (by first | (with_reducible assumption) | assumption)
                              have q346 : (ji19) < (l0.length : Int) := of_decide_eq_true (by first | (with_reducible assumption) | assumption)
                              obtain ⟨ad346, e346, hx346_0, hx346_1, hx346_2⟩ := at_T36 HR0.out (ji19) p346 q346
                              have hw346_2 := hx346_2
                              have hw346_1 := hx346_1
                              have hw346_0 := hx346_0
                              obtain rfl : ad343 = ad346 := (by injection e346)
                              replace hx346_0 := (HB.out.cell (World.block_lt_of_cell? w _ hx346_0)).trans hx346_0
                              replace hx346_1 := (HB.out.cell (World.block_lt_of_cell? w _ hx346_1)).trans hx346_1
                              replace hx346_2 := (HB.out.cell (World.block_lt_of_cell? w _ hx346_2)).trans hx346_2
                              replace p346 := eq_true p346
                              replace q346 := eq_true q346
                              have p347 : 0 ≤ (x7_2 : Int) := of_decide_eq_true (by first | (with_reducible assumption) | assumption)
                              have q347 : x7_2 < (l1.length : Int) := of_decide_eq_true (by first | (with_reducible assumption) | assumption)
                              obtain ⟨ad347, e347, hx347_0, hx347_1, hx347_2⟩ := at_T56 HR1.out x7_2 p347 q347
                              have hw347_2 := hx347_2
                              have hw347_1 := hx347_1
                              have hw347_0 := hx347_0
                              obtain rfl : ad340 = ad347 := (by injection e347)
                              replace hx347_0 := (HB.out.cell (World.block_lt_of_cell? w _ hx347_0)).trans hx347_0
                              replace hx347_1 := (HB.out.cell (World.block_lt_of_cell? w _ hx347_1)).trans hx347_1
                              replace hx347_2 := (HB.out.cell (World.block_lt_of_cell? w _ hx347_2)).trans hx347_2
                              replace p347 := eq_true p347
                              replace q347 := eq_true q347
                              refine start_ (n := 24) (S := fun w' => w'.cell? (ad343.add (((ji19)).toNat * 3)) = some (.int .i64 ((rd_T36 l0 (ji19)).f0)) ∧ w'.cell? ⟨(ad343.add (((ji19)).toNat * 3)).block, (ad343.add (((ji19)).toNat * 3)).off + 1, none⟩ = some (.int .i64 ((rd_T36 l0 (ji19)).f1)) ∧ w'.cell? ⟨(ad343.add (((ji19)).toNat * 3)).block, (ad343.add (((ji19)).toNat * 3)).off + 2, none⟩ = some (.int .i64 ((rd_T36 l0 (ji19)).f2)) ∧ w'.cell? (ad343.add (((ji19)).toNat * 3)) = some (.int .i64 ((rd_T36 l0 (ji19)).f0)) ∧ w'.cell? ⟨(ad343.add (((ji19)).toNat * 3)).block, (ad343.add (((ji19)).toNat * 3)).off + 1, none⟩ = some (.int .i64 ((rd_T36 l0 (ji19)).f1)) ∧ w'.cell? ⟨(ad343.add (((ji19)).toNat * 3)).block, (ad343.add (((ji19)).toNat * 3)).off + 2, none⟩ = some (.int .i64 ((rd_T36 l0 (ji19)).f2)) ∧ w'.cell? (ad340.add ((x7_2).toNat * 3)) = some (.int .u8 ((rd_T56 l1 x7_2).f0)) ∧ w'.cell? ⟨(ad340.add ((x7_2).toNat * 3)).block, (ad340.add ((x7_2).toNat * 3)).off + 1, none⟩ = some (.int .u8 ((rd_T56 l1 x7_2).f1)) ∧ w'.cell? ⟨(ad340.add ((x7_2).toNat * 3)).block, (ad340.add ((x7_2).toNat * 3)).off + 2, none⟩ = some (.int .u8 ((rd_T56 l1 x7_2).f2))) (ds := []) #[false, false, false, false, false, false, false, false, false, false, false, false, false, false, false, false, false, false, false, false, false, false, false, false] (by kernel_rfl) rfl rfl ⟨((HB.out.cell (World.block_lt_of_cell? w _ hw345_0)).trans hw345_0), ((HB.out.cell (World.block_lt_of_cell? w _ hw345_1)).trans hw345_1), ((HB.out.cell (World.block_lt_of_cell? w _ hw345_2)).trans hw345_2), ((HB.out.cell (World.block_lt_of_cell? w _ hw346_0)).trans hw346_0), ((HB.out.cell (World.block_lt_of_cell? w _ hw346_1)).trans hw346_1), ((HB.out.cell (World.block_lt_of_cell? w _ hw346_2)).trans hw346_2), ((HB.out.cell (World.block_lt_of_cell? w _ hw347_0)).trans hw347_0), ((HB.out.cell (World.block_lt_of_cell? w _ hw347_1)).trans hw347_1), ((HB.out.cell (World.block_lt_of_cell? w _ hw347_2)).trans hw347_2)⟩ (fun hHeld => ?_); refine with_tabW dormouselaw28_DemandSporadic.tab11 dormouselaw28_DemandSporadic.bits11 (fun HT_ HW_ => ?_)
                              generalize w31.drew = w32 at HO_5 HO_6 HB hx345_0 hx345_1 hx345_2 hx346_0 hx346_1 hx346_2 hx347_0 hx347_1 hx347_2 hHeld ⊢
                              refine pure_ (i := 0) (N := some 64) (v := ?_) (a' := ?_) #[true, false, false, false, false, false, false, false, false, false, false, false, false, false, false, false, false, false, false, false, false, false, false, false] rfl rfl (any_of HT_.out (by kernel_rfl)) (fun _ _ _ h => h) (Or.inl ⟨by rfl, ?_⟩) ?_ ?_
                              rotate_left
                              · intro w'
                                go_simp
                                with_reducible rfl
                              rotate_left
                              · simp only [Act.put, List.setIfInBounds_toArray, List.set_cons_zero, List.set_cons_succ, i64_w, i32_w]
                                rfl
                              refine pure_ (i := 1) (N := some 65) (v := ?_) (a' := ?_) #[true, true, false, false, false, false, false, false, false, false, false, false, false, false, false, false, false, false, false, false, false, false, false, false] rfl rfl (any_of HT_.out (by kernel_rfl)) (fun _ _ _ h => h) (Or.inl ⟨by rfl, ?_⟩) ?_ ?_
                              rotate_left
                              · intro w'
                                go_simp
                                with_reducible rfl
                              rotate_left
                              · simp only [Act.put, List.setIfInBounds_toArray, List.set_cons_zero, List.set_cons_succ, i64_w, i32_w]
                                rfl
                              refine pure_ (i := 2) (N := some 66) (v := ?_) (a' := ?_) #[true, true, true, false, false, false, false, false, false, false, false, false, false, false, false, false, false, false, false, false, false, false, false, false] rfl rfl (any_of HT_.out (by kernel_rfl)) (fun _ _ _ h => h) (Or.inl ⟨by rfl, ?_⟩) ?_ ?_
                              rotate_left
                              · intro w'
                                go_simp
                                with_reducible rfl
                              rotate_left
                              · simp only [Act.put, List.setIfInBounds_toArray, List.set_cons_zero, List.set_cons_succ, i64_w, i32_w]
                                rfl
                              refine pure_ (i := 3) (N := some 67) (v := ?_) (a' := ?_) #[true, true, true, true, false, false, false, false, false, false, false, false, false, false, false, false, false, false, false, false, false, false, false, false] rfl rfl (any_of HT_.out (by kernel_rfl)) (fun _ _ _ h => h) (Or.inl ⟨by rfl, ?_⟩) ?_ ?_
                              rotate_left
                              · intro w'
                                go_simp
                                with_reducible rfl
                              rotate_left
                              · simp only [Act.put, List.setIfInBounds_toArray, List.set_cons_zero, List.set_cons_succ, i64_w, i32_w]
                                rfl
                              refine pure_ (i := 4) (N := some 68) (v := ?_) (a' := ?_) #[true, true, true, true, true, false, false, false, false, false, false, false, false, false, false, false, false, false, false, false, false, false, false, false] rfl rfl (any_of HT_.out (by kernel_rfl)) (fun _ _ _ h => h) (Or.inl ⟨by rfl, ?_⟩) ?_ ?_
                              rotate_left
                              · intro w'
                                go_simp
                                with_reducible rfl
                              rotate_left
                              · simp only [Act.put, List.setIfInBounds_toArray, List.set_cons_zero, List.set_cons_succ, i64_w, i32_w]
                                rfl
                              refine pure_ (i := 5) (N := some 69) (v := ?_) (a' := ?_) #[true, true, true, true, true, true, false, false, false, false, false, false, false, false, false, false, false, false, false, false, false, false, false, false] rfl rfl (any_of HT_.out (by kernel_rfl)) (fun _ _ _ h => h) (Or.inl ⟨by rfl, ?_⟩) ?_ ?_
                              rotate_left
                              · intro w'
                                go_simp
                                with_reducible rfl
                              rotate_left
                              · simp only [Act.put, List.setIfInBounds_toArray, List.set_cons_zero, List.set_cons_succ, i64_w, i32_w]
                                rfl
                              refine pure_ (i := 8) (N := some 72) (v := ?_) (a' := ?_) #[true, true, true, true, true, true, false, false, true, false, false, false, false, false, false, false, false, false, false, false, false, false, false, false] rfl rfl (any_of HT_.out (by kernel_rfl)) (fun _ _ _ h => h) (Or.inl ⟨by rfl, ?_⟩) ?_ ?_
                              rotate_left
                              · intro w'
                                go_simp
                                with_reducible rfl
                              rotate_left
                              · simp only [Act.put, List.setIfInBounds_toArray, List.set_cons_zero, List.set_cons_succ, i64_w, i32_w]
                                rfl
                              refine pure_ (i := 9) (N := some 73) (v := ?_) (a' := ?_) #[true, true, true, true, true, true, false, false, true, true, false, false, false, false, false, false, false, false, false, false, false, false, false, false] rfl rfl (any_of HT_.out (by kernel_rfl)) (fun _ _ _ h => h) (Or.inl ⟨by rfl, ?_⟩) ?_ ?_
                              rotate_left
                              · intro w'
                                go_simp
                                with_reducible rfl
                              rotate_left
                              · simp only [Act.put, List.setIfInBounds_toArray, List.set_cons_zero, List.set_cons_succ, i64_w, i32_w]
                                rfl
                              refine pure_ (i := 10) (N := some 74) (v := ?_) (a' := ?_) #[true, true, true, true, true, true, false, false, true, true, true, false, false, false, false, false, false, false, false, false, false, false, false, false] rfl rfl (any_of HT_.out (by kernel_rfl)) (fun _ _ _ h => h) (Or.inl ⟨by rfl, ?_⟩) ?_ ?_
                              rotate_left
                              · intro w'
                                go_simp
                                with_reducible rfl
                              rotate_left
                              · simp only [Act.put, List.setIfInBounds_toArray, List.set_cons_zero, List.set_cons_succ, i64_w, i32_w]
                                rfl
                              refine pure_ (i := 11) (N := some 75) (v := ?_) (a' := ?_) #[true, true, true, true, true, true, false, false, true, true, true, true, false, false, false, false, false, false, false, false, false, false, false, false] rfl rfl (any_of HT_.out (by kernel_rfl)) (fun _ _ _ h => h) (Or.inl ⟨by rfl, ?_⟩) ?_ ?_
                              rotate_left
                              · intro w'
                                go_simp
                                with_reducible rfl
                              rotate_left
                              · simp only [Act.put, List.setIfInBounds_toArray, List.set_cons_zero, List.set_cons_succ, i64_w, i32_w]
                                rfl
                              refine pure_ (i := 13) (N := some 77) (v := ?_) (a' := ?_) #[true, true, true, true, true, true, false, false, true, true, true, true, false, true, false, false, false, false, false, false, false, false, false, false] rfl rfl (any_of HT_.out (by kernel_rfl)) (fun _ _ _ h => h) (Or.inl ⟨by rfl, ?_⟩) ?_ ?_
                              rotate_left
                              · intro w'
                                go_simp
                                with_reducible rfl
                              rotate_left
                              · simp only [Act.put, List.setIfInBounds_toArray, List.set_cons_zero, List.set_cons_succ, i64_w, i32_w]
                                rfl
                              refine pure_ (i := 14) (N := some 78) (v := ?_) (a' := ?_) #[true, true, true, true, true, true, false, false, true, true, true, true, false, true, true, false, false, false, false, false, false, false, false, false] rfl rfl (any_of HT_.out (by kernel_rfl)) (fun _ _ _ h => h) (Or.inl ⟨by rfl, ?_⟩) ?_ ?_
                              rotate_left
                              · intro w'
                                go_simp
                                with_reducible rfl
                              rotate_left
                              · simp only [Act.put, List.setIfInBounds_toArray, List.set_cons_zero, List.set_cons_succ, i64_w, i32_w]
                                rfl
                              refine pure_ (i := 15) (N := some 79) (v := ?_) (a' := ?_) #[true, true, true, true, true, true, false, false, true, true, true, true, false, true, true, true, false, false, false, false, false, false, false, false] rfl rfl (any_of HT_.out (by kernel_rfl)) (fun _ _ _ h => h) (Or.inl ⟨by rfl, ?_⟩) ?_ ?_
                              rotate_left
                              · intro w'
                                go_simp
                                with_reducible rfl
                              rotate_left
                              · simp only [Act.put, List.setIfInBounds_toArray, List.set_cons_zero, List.set_cons_succ, i64_w, i32_w]
                                rfl
                              refine pure_ (i := 16) (N := some 80) (v := ?_) (a' := ?_) #[true, true, true, true, true, true, false, false, true, true, true, true, false, true, true, true, true, false, false, false, false, false, false, false] rfl rfl (any_of HT_.out (by kernel_rfl)) (fun _ _ _ h => h) (Or.inl ⟨by rfl, ?_⟩) ?_ ?_
                              rotate_left
                              · intro w'
                                go_simp
                                with_reducible rfl
                              rotate_left
                              · simp only [Act.put, List.setIfInBounds_toArray, List.set_cons_zero, List.set_cons_succ, i64_w, i32_w]
                                rfl
                              refine take_ (i := 6) (N := some 70) (v := ?_) (a' := ?_) #[true, true, true, true, true, true, true, false, true, true, true, true, false, true, true, true, true, false, false, false, false, false, false, false] rfl rfl (take_ofW HT_.out HW_.out (by kernel_rfl)) (fun _ _ _ h => h) (Or.inl ⟨by rfl, ?_⟩) hHeld ?_ ?_
                              rotate_left
                              · rintro w' ⟨s0, s1, s2, s3, s4, s5, s6, s7, s8⟩
                                go_simp
                                with_reducible rfl
                              rotate_left
                              · simp only [Act.put, List.setIfInBounds_toArray, List.set_cons_zero, List.set_cons_succ, i64_w, i32_w]
                                rfl
                              refine pure_ (i := 7) (N := some 71) (v := ?_) (a' := ?_) #[true, true, true, true, true, true, true, true, true, true, true, true, false, true, true, true, true, false, false, false, false, false, false, false] rfl rfl (any_of HT_.out (by kernel_rfl)) (fun _ _ _ h => h) (Or.inl ⟨by rfl, ?_⟩) ?_ ?_
                              rotate_left
                              · intro w'
                                go_simp
                                with_reducible rfl
                              rotate_left
                              · simp only [Act.put, List.setIfInBounds_toArray, List.set_cons_zero, List.set_cons_succ, i64_w, i32_w]
                                rfl
                              refine take_ (i := 12) (N := some 76) (v := ?_) (a' := ?_) #[true, true, true, true, true, true, true, true, true, true, true, true, true, true, true, true, true, false, false, false, false, false, false, false] rfl rfl (take_ofW HT_.out HW_.out (by kernel_rfl)) (fun _ _ _ h => h) (Or.inl ⟨by rfl, ?_⟩) hHeld ?_ ?_
                              rotate_left
                              · rintro w' ⟨s0, s1, s2, s3, s4, s5, s6, s7, s8⟩
                                go_simp
                                with_reducible rfl
                              rotate_left
                              · simp only [Act.put, List.setIfInBounds_toArray, List.set_cons_zero, List.set_cons_succ, i64_w, i32_w]
                                rfl
                              refine take_ (i := 17) (N := some 81) (v := ?_) (a' := ?_) #[true, true, true, true, true, true, true, true, true, true, true, true, true, true, true, true, true, true, false, false, false, false, false, false] rfl rfl (take_ofW HT_.out HW_.out (by kernel_rfl)) (fun _ _ _ h => h) (Or.inl ⟨by rfl, ?_⟩) hHeld ?_ ?_
                              rotate_left
                              · rintro w' ⟨s0, s1, s2, s3, s4, s5, s6, s7, s8⟩
                                go_simp
                                with_reducible rfl
                              rotate_left
                              · simp only [Act.put, List.setIfInBounds_toArray, List.set_cons_zero, List.set_cons_succ, i64_w, i32_w]
                                rfl
                              refine pure_ (i := 18) (N := some 82) (v := ?_) (a' := ?_) #[true, true, true, true, true, true, true, true, true, true, true, true, true, true, true, true, true, true, true, false, false, false, false, false] rfl rfl (any_of HT_.out (by kernel_rfl)) (fun _ _ _ h => h) (Or.inl ⟨by rfl, ?_⟩) ?_ ?_
                              rotate_left
                              · intro w'
                                go_simp
                                with_reducible rfl
                              rotate_left
                              · simp only [Act.put, List.setIfInBounds_toArray, List.set_cons_zero, List.set_cons_succ, i64_w, i32_w]
                                rfl
                              refine pure_ (i := 19) (N := some 83) (v := ?_) (a' := ?_) #[true, true, true, true, true, true, true, true, true, true, true, true, true, true, true, true, true, true, true, true, false, false, false, false] rfl rfl (any_of HT_.out (by kernel_rfl)) (fun _ _ _ h => h) (Or.inl ⟨by rfl, ?_⟩) ?_ ?_
                              rotate_left
                              · intro w'
                                go_simp
                                with_reducible rfl
                              rotate_left
                              · simp only [Act.put, List.setIfInBounds_toArray, List.set_cons_zero, List.set_cons_succ, i64_w, i32_w]
                                rfl
                              refine pure_ (i := 20) (N := some 84) (v := ?_) (a' := ?_) #[true, true, true, true, true, true, true, true, true, true, true, true, true, true, true, true, true, true, true, true, true, false, false, false] rfl rfl (any_of HT_.out (by kernel_rfl)) (fun _ _ _ h => h) (Or.inl ⟨by rfl, ?_⟩) ?_ ?_
                              rotate_left
                              · intro w'
                                go_simp
                                with_reducible rfl
                              rotate_left
                              · simp only [Act.put, List.setIfInBounds_toArray, List.set_cons_zero, List.set_cons_succ, i64_w, i32_w]
                                rfl
                              refine pure_ (i := 21) (N := some 85) (v := ?_) (a' := ?_) #[true, true, true, true, true, true, true, true, true, true, true, true, true, true, true, true, true, true, true, true, true, true, false, false] rfl rfl (any_of HT_.out (by kernel_rfl)) (fun _ _ _ h => h) (Or.inl ⟨by rfl, ?_⟩) ?_ ?_
                              rotate_left
                              · intro w'
                                go_simp
                                with_reducible rfl
                              rotate_left
                              · simp only [Act.put, List.setIfInBounds_toArray, List.set_cons_zero, List.set_cons_succ, i64_w, i32_w]
                                rfl
                              refine one_ (i := 22) (N := some 10) #[true, true, true, true, true, true, true, true, true, true, true, true, true, true, true, true, true, true, true, true, true, true, true, false] rfl rfl (one_of HT_.out (by kernel_rfl)) (by decide) (fun K hK => ?_)
                              refine box_step ?hg (N := 10) ?hd (cs := #[.int .i64 0, .int .i64 0, .int .i64 0]) (t := 31) ?hr ?_; (case hd => rfl); (case hg => rfl); (case hr => first | (go_simp; done) | (go_simp; rfl))
                              intro gb348 hg w33 hbox hb
                              have n0_ := Aside0.mk (Kd.R_below (by (with_reducible repeat (first | apply Kd.R_alloc | apply Kd.R_drewN | apply Kd.R_drew)); exact HO_5.out) hb)
                              have n1_ := Aside0.mk (Kd.R_below (Kd.R_elderB (by (with_reducible repeat (first | apply Kd.R_alloc | apply Kd.R_drewN | apply Kd.R_drew)); exact HO_6.out) gb348 (Nat.le_of_eq hg.symm)) hb)
                              have n2_ := Aside0.mk (below_step (by repeat (first | (with_reducible first | exact HB.out | apply below_alloc | apply pw_below_drewN | apply below_drew1) | exact HB.out)) hb)
                              have n3_ := Aside0.mk (hbox)
                              have n4_ := Aside0.mk ((by rw [hg]; exact (below_size (by repeat (first | (with_reducible first | exact HB.out | apply below_alloc | apply pw_below_drewN | apply below_drew1) | exact HB.out))) : w.heap.size ≤ gb348))
                              have n5_ := Aside0.mk ((by rw [hg]; exact (below_size (by repeat (first | (with_reducible first | exact HB.out | apply below_alloc | apply pw_below_drewN | apply below_drew1) | exact HB.out))) : w.heap.size ≤ gb348))
                              clear HO_5
                              clear HO_6
                              clear HB
                              have HO_5 := n0_
                              have HO_6 := n1_
                              have HB := n2_
                              have BK348 := n3_
                              have GW348 := n4_
                              have GE348 := n5_
                              clear n0_ n1_ n2_ n3_ n4_ n5_
                              clear hb hbox hg
                              refine hK.out _ _ ⟨((HB.out.cell (World.block_lt_of_cell? w _ hw345_0)).trans hw345_0), ((HB.out.cell (World.block_lt_of_cell? w _ hw345_1)).trans hw345_1), ((HB.out.cell (World.block_lt_of_cell? w _ hw345_2)).trans hw345_2), ((HB.out.cell (World.block_lt_of_cell? w _ hw346_0)).trans hw346_0), ((HB.out.cell (World.block_lt_of_cell? w _ hw346_1)).trans hw346_1), ((HB.out.cell (World.block_lt_of_cell? w _ hw346_2)).trans hw346_2), ((HB.out.cell (World.block_lt_of_cell? w _ hw347_0)).trans hw347_0), ((HB.out.cell (World.block_lt_of_cell? w _ hw347_1)).trans hw347_1), ((HB.out.cell (World.block_lt_of_cell? w _ hw347_2)).trans hw347_2)⟩ (fun hHeld => ?_)
                              clear hK K
                              refine norm_ (a' := ?_) ?_ ?_
                              rotate_left
                              · show Act.put _ (some 10) _ = _
                                simp only [Act.put, List.setIfInBounds_toArray, List.set_cons_zero, List.set_cons_succ, i64_w, i32_w]
                                rfl
                              refine one_ (i := 23) (N := none) #[true, true, true, true, true, true, true, true, true, true, true, true, true, true, true, true, true, true, true, true, true, true, true, true] rfl rfl (one_of HT_.out (by kernel_rfl)) (by decide) (fun K hK => ?_)
                              have hs34 : w33.cell? ⟨gb348, 0, none⟩ = some (.int .i64 0) := (blk_cell BK348.out 0).trans rfl
                              have hfs34 := blk_frozen BK348.out 0
                              have hs35 : w33.cell? ⟨gb348, 1, none⟩ = some (.int .i64 0) := (blk_cell BK348.out 1).trans rfl
                              have hfs35 := blk_frozen BK348.out 1
                              have hs36 : w33.cell? ⟨gb348, 2, none⟩ = some (.int .i64 0) := (blk_cell BK348.out 2).trans rfl
                              have hfs36 := blk_frozen BK348.out 2
                              refine skip_ (w1 := ?_) (by rfl) rfl ?_ ?_
                              rotate_left
                              · go_simp
                                rfl
                              refine hK.out _ _ ⟨((cell_far (p := ⟨gb348, _, none⟩) (by first | exact Nat.ne_of_lt (Nat.lt_of_lt_of_le (by have := World.block_lt_of_cell? _ _ hw345_0; first | rwa [add_block] at this | exact this) GW348.out) | (rw [add_block]; exact Nat.ne_of_lt (Nat.lt_of_lt_of_le (by have := World.block_lt_of_cell? _ _ hw345_0; first | rwa [add_block] at this | exact this) GW348.out)) | (show (Addr.add _ _).block ≠ _; rw [add_block]; exact Nat.ne_of_lt (Nat.lt_of_lt_of_le (by have := World.block_lt_of_cell? _ _ hw345_0; first | rwa [add_block] at this | exact this) GW348.out)) | (dsimp only; exact Nat.ne_of_lt (Nat.lt_of_lt_of_le (by have := World.block_lt_of_cell? _ _ hw345_0; first | rwa [add_block] at this | exact this) GW348.out))) _).trans (((cell_far (p := ⟨gb348, _, none⟩) (by first | exact Nat.ne_of_lt (Nat.lt_of_lt_of_le (by have := World.block_lt_of_cell? _ _ hw345_0; first | rwa [add_block] at this | exact this) GW348.out) | (rw [add_block]; exact Nat.ne_of_lt (Nat.lt_of_lt_of_le (by have := World.block_lt_of_cell? _ _ hw345_0; first | rwa [add_block] at this | exact this) GW348.out)) | (show (Addr.add _ _).block ≠ _; rw [add_block]; exact Nat.ne_of_lt (Nat.lt_of_lt_of_le (by have := World.block_lt_of_cell? _ _ hw345_0; first | rwa [add_block] at this | exact this) GW348.out)) | (dsimp only; exact Nat.ne_of_lt (Nat.lt_of_lt_of_le (by have := World.block_lt_of_cell? _ _ hw345_0; first | rwa [add_block] at this | exact this) GW348.out))) _).trans (((cell_far (p := ⟨gb348, _, none⟩) (by first | exact Nat.ne_of_lt (Nat.lt_of_lt_of_le (by have := World.block_lt_of_cell? _ _ hw345_0; first | rwa [add_block] at this | exact this) GW348.out) | (rw [add_block]; exact Nat.ne_of_lt (Nat.lt_of_lt_of_le (by have := World.block_lt_of_cell? _ _ hw345_0; first | rwa [add_block] at this | exact this) GW348.out)) | (show (Addr.add _ _).block ≠ _; rw [add_block]; exact Nat.ne_of_lt (Nat.lt_of_lt_of_le (by have := World.block_lt_of_cell? _ _ hw345_0; first | rwa [add_block] at this | exact this) GW348.out)) | (dsimp only; exact Nat.ne_of_lt (Nat.lt_of_lt_of_le (by have := World.block_lt_of_cell? _ _ hw345_0; first | rwa [add_block] at this | exact this) GW348.out))) _).trans (hHeld.1)))))), ((cell_far (p := ⟨gb348, _, none⟩) (by first | exact Nat.ne_of_lt (Nat.lt_of_lt_of_le (by have := World.block_lt_of_cell? _ _ hw345_1; first | rwa [add_block] at this | exact this) GW348.out) | (rw [add_block]; exact Nat.ne_of_lt (Nat.lt_of_lt_of_le (by have := World.block_lt_of_cell? _ _ hw345_1; first | rwa [add_block] at this | exact this) GW348.out)) | (show (Addr.add _ _).block ≠ _; rw [add_block]; exact Nat.ne_of_lt (Nat.lt_of_lt_of_le (by have := World.block_lt_of_cell? _ _ hw345_1; first | rwa [add_block] at this | exact this) GW348.out)) | (dsimp only; exact Nat.ne_of_lt (Nat.lt_of_lt_of_le (by have := World.block_lt_of_cell? _ _ hw345_1; first | rwa [add_block] at this | exact this) GW348.out))) _).trans (((cell_far (p := ⟨gb348, _, none⟩) (by first | exact Nat.ne_of_lt (Nat.lt_of_lt_of_le (by have := World.block_lt_of_cell? _ _ hw345_1; first | rwa [add_block] at this | exact this) GW348.out) | (rw [add_block]; exact Nat.ne_of_lt (Nat.lt_of_lt_of_le (by have := World.block_lt_of_cell? _ _ hw345_1; first | rwa [add_block] at this | exact this) GW348.out)) | (show (Addr.add _ _).block ≠ _; rw [add_block]; exact Nat.ne_of_lt (Nat.lt_of_lt_of_le (by have := World.block_lt_of_cell? _ _ hw345_1; first | rwa [add_block] at this | exact this) GW348.out)) | (dsimp only; exact Nat.ne_of_lt (Nat.lt_of_lt_of_le (by have := World.block_lt_of_cell? _ _ hw345_1; first | rwa [add_block] at this | exact this) GW348.out))) _).trans (((cell_far (p := ⟨gb348, _, none⟩) (by first | exact Nat.ne_of_lt (Nat.lt_of_lt_of_le (by have := World.block_lt_of_cell? _ _ hw345_1; first | rwa [add_block] at this | exact this) GW348.out) | (rw [add_block]; exact Nat.ne_of_lt (Nat.lt_of_lt_of_le (by have := World.block_lt_of_cell? _ _ hw345_1; first | rwa [add_block] at this | exact this) GW348.out)) | (show (Addr.add _ _).block ≠ _; rw [add_block]; exact Nat.ne_of_lt (Nat.lt_of_lt_of_le (by have := World.block_lt_of_cell? _ _ hw345_1; first | rwa [add_block] at this | exact this) GW348.out)) | (dsimp only; exact Nat.ne_of_lt (Nat.lt_of_lt_of_le (by have := World.block_lt_of_cell? _ _ hw345_1; first | rwa [add_block] at this | exact this) GW348.out))) _).trans (hHeld.2.1)))))), ((cell_far (p := ⟨gb348, _, none⟩) (by first | exact Nat.ne_of_lt (Nat.lt_of_lt_of_le (by have := World.block_lt_of_cell? _ _ hw345_2; first | rwa [add_block] at this | exact this) GW348.out) | (rw [add_block]; exact Nat.ne_of_lt (Nat.lt_of_lt_of_le (by have := World.block_lt_of_cell? _ _ hw345_2; first | rwa [add_block] at this | exact this) GW348.out)) | (show (Addr.add _ _).block ≠ _; rw [add_block]; exact Nat.ne_of_lt (Nat.lt_of_lt_of_le (by have := World.block_lt_of_cell? _ _ hw345_2; first | rwa [add_block] at this | exact this) GW348.out)) | (dsimp only; exact Nat.ne_of_lt (Nat.lt_of_lt_of_le (by have := World.block_lt_of_cell? _ _ hw345_2; first | rwa [add_block] at this | exact this) GW348.out))) _).trans (((cell_far (p := ⟨gb348, _, none⟩) (by first | exact Nat.ne_of_lt (Nat.lt_of_lt_of_le (by have := World.block_lt_of_cell? _ _ hw345_2; first | rwa [add_block] at this | exact this) GW348.out) | (rw [add_block]; exact Nat.ne_of_lt (Nat.lt_of_lt_of_le (by have := World.block_lt_of_cell? _ _ hw345_2; first | rwa [add_block] at this | exact this) GW348.out)) | (show (Addr.add _ _).block ≠ _; rw [add_block]; exact Nat.ne_of_lt (Nat.lt_of_lt_of_le (by have := World.block_lt_of_cell? _ _ hw345_2; first | rwa [add_block] at this | exact this) GW348.out)) | (dsimp only; exact Nat.ne_of_lt (Nat.lt_of_lt_of_le (by have := World.block_lt_of_cell? _ _ hw345_2; first | rwa [add_block] at this | exact this) GW348.out))) _).trans (((cell_far (p := ⟨gb348, _, none⟩) (by first | exact Nat.ne_of_lt (Nat.lt_of_lt_of_le (by have := World.block_lt_of_cell? _ _ hw345_2; first | rwa [add_block] at this | exact this) GW348.out) | (rw [add_block]; exact Nat.ne_of_lt (Nat.lt_of_lt_of_le (by have := World.block_lt_of_cell? _ _ hw345_2; first | rwa [add_block] at this | exact this) GW348.out)) | (show (Addr.add _ _).block ≠ _; rw [add_block]; exact Nat.ne_of_lt (Nat.lt_of_lt_of_le (by have := World.block_lt_of_cell? _ _ hw345_2; first | rwa [add_block] at this | exact this) GW348.out)) | (dsimp only; exact Nat.ne_of_lt (Nat.lt_of_lt_of_le (by have := World.block_lt_of_cell? _ _ hw345_2; first | rwa [add_block] at this | exact this) GW348.out))) _).trans (hHeld.2.2.1)))))), ((cell_far (p := ⟨gb348, _, none⟩) (by first | exact Nat.ne_of_lt (Nat.lt_of_lt_of_le (by have := World.block_lt_of_cell? _ _ hw346_0; first | rwa [add_block] at this | exact this) GW348.out) | (rw [add_block]; exact Nat.ne_of_lt (Nat.lt_of_lt_of_le (by have := World.block_lt_of_cell? _ _ hw346_0; first | rwa [add_block] at this | exact this) GW348.out)) | (show (Addr.add _ _).block ≠ _; rw [add_block]; exact Nat.ne_of_lt (Nat.lt_of_lt_of_le (by have := World.block_lt_of_cell? _ _ hw346_0; first | rwa [add_block] at this | exact this) GW348.out)) | (dsimp only; exact Nat.ne_of_lt (Nat.lt_of_lt_of_le (by have := World.block_lt_of_cell? _ _ hw346_0; first | rwa [add_block] at this | exact this) GW348.out))) _).trans (((cell_far (p := ⟨gb348, _, none⟩) (by first | exact Nat.ne_of_lt (Nat.lt_of_lt_of_le (by have := World.block_lt_of_cell? _ _ hw346_0; first | rwa [add_block] at this | exact this) GW348.out) | (rw [add_block]; exact Nat.ne_of_lt (Nat.lt_of_lt_of_le (by have := World.block_lt_of_cell? _ _ hw346_0; first | rwa [add_block] at this | exact this) GW348.out)) | (show (Addr.add _ _).block ≠ _; rw [add_block]; exact Nat.ne_of_lt (Nat.lt_of_lt_of_le (by have := World.block_lt_of_cell? _ _ hw346_0; first | rwa [add_block] at this | exact this) GW348.out)) | (dsimp only; exact Nat.ne_of_lt (Nat.lt_of_lt_of_le (by have := World.block_lt_of_cell? _ _ hw346_0; first | rwa [add_block] at this | exact this) GW348.out))) _).trans (((cell_far (p := ⟨gb348, _, none⟩) (by first | exact Nat.ne_of_lt (Nat.lt_of_lt_of_le (by have := World.block_lt_of_cell? _ _ hw346_0; first | rwa [add_block] at this | exact this) GW348.out) | (rw [add_block]; exact Nat.ne_of_lt (Nat.lt_of_lt_of_le (by have := World.block_lt_of_cell? _ _ hw346_0; first | rwa [add_block] at this | exact this) GW348.out)) | (show (Addr.add _ _).block ≠ _; rw [add_block]; exact Nat.ne_of_lt (Nat.lt_of_lt_of_le (by have := World.block_lt_of_cell? _ _ hw346_0; first | rwa [add_block] at this | exact this) GW348.out)) | (dsimp only; exact Nat.ne_of_lt (Nat.lt_of_lt_of_le (by have := World.block_lt_of_cell? _ _ hw346_0; first | rwa [add_block] at this | exact this) GW348.out))) _).trans (hHeld.2.2.2.1)))))), ((cell_far (p := ⟨gb348, _, none⟩) (by first | exact Nat.ne_of_lt (Nat.lt_of_lt_of_le (by have := World.block_lt_of_cell? _ _ hw346_1; first | rwa [add_block] at this | exact this) GW348.out) | (rw [add_block]; exact Nat.ne_of_lt (Nat.lt_of_lt_of_le (by have := World.block_lt_of_cell? _ _ hw346_1; first | rwa [add_block] at this | exact this) GW348.out)) | (show (Addr.add _ _).block ≠ _; rw [add_block]; exact Nat.ne_of_lt (Nat.lt_of_lt_of_le (by have := World.block_lt_of_cell? _ _ hw346_1; first | rwa [add_block] at this | exact this) GW348.out)) | (dsimp only; exact Nat.ne_of_lt (Nat.lt_of_lt_of_le (by have := World.block_lt_of_cell? _ _ hw346_1; first | rwa [add_block] at this | exact this) GW348.out))) _).trans (((cell_far (p := ⟨gb348, _, none⟩) (by first | exact Nat.ne_of_lt (Nat.lt_of_lt_of_le (by have := World.block_lt_of_cell? _ _ hw346_1; first | rwa [add_block] at this | exact this) GW348.out) | (rw [add_block]; exact Nat.ne_of_lt (Nat.lt_of_lt_of_le (by have := World.block_lt_of_cell? _ _ hw346_1; first | rwa [add_block] at this | exact this) GW348.out)) | (show (Addr.add _ _).block ≠ _; rw [add_block]; exact Nat.ne_of_lt (Nat.lt_of_lt_of_le (by have := World.block_lt_of_cell? _ _ hw346_1; first | rwa [add_block] at this | exact this) GW348.out)) | (dsimp only; exact Nat.ne_of_lt (Nat.lt_of_lt_of_le (by have := World.block_lt_of_cell? _ _ hw346_1; first | rwa [add_block] at this | exact this) GW348.out))) _).trans (((cell_far (p := ⟨gb348, _, none⟩) (by first | exact Nat.ne_of_lt (Nat.lt_of_lt_of_le (by have := World.block_lt_of_cell? _ _ hw346_1; first | rwa [add_block] at this | exact this) GW348.out) | (rw [add_block]; exact Nat.ne_of_lt (Nat.lt_of_lt_of_le (by have := World.block_lt_of_cell? _ _ hw346_1; first | rwa [add_block] at this | exact this) GW348.out)) | (show (Addr.add _ _).block ≠ _; rw [add_block]; exact Nat.ne_of_lt (Nat.lt_of_lt_of_le (by have := World.block_lt_of_cell? _ _ hw346_1; first | rwa [add_block] at this | exact this) GW348.out)) | (dsimp only; exact Nat.ne_of_lt (Nat.lt_of_lt_of_le (by have := World.block_lt_of_cell? _ _ hw346_1; first | rwa [add_block] at this | exact this) GW348.out))) _).trans (hHeld.2.2.2.2.1)))))), ((cell_far (p := ⟨gb348, _, none⟩) (by first | exact Nat.ne_of_lt (Nat.lt_of_lt_of_le (by have := World.block_lt_of_cell? _ _ hw346_2; first | rwa [add_block] at this | exact this) GW348.out) | (rw [add_block]; exact Nat.ne_of_lt (Nat.lt_of_lt_of_le (by have := World.block_lt_of_cell? _ _ hw346_2; first | rwa [add_block] at this | exact this) GW348.out)) | (show (Addr.add _ _).block ≠ _; rw [add_block]; exact Nat.ne_of_lt (Nat.lt_of_lt_of_le (by have := World.block_lt_of_cell? _ _ hw346_2; first | rwa [add_block] at this | exact this) GW348.out)) | (dsimp only; exact Nat.ne_of_lt (Nat.lt_of_lt_of_le (by have := World.block_lt_of_cell? _ _ hw346_2; first | rwa [add_block] at this | exact this) GW348.out))) _).trans (((cell_far (p := ⟨gb348, _, none⟩) (by first | exact Nat.ne_of_lt (Nat.lt_of_lt_of_le (by have := World.block_lt_of_cell? _ _ hw346_2; first | rwa [add_block] at this | exact this) GW348.out) | (rw [add_block]; exact Nat.ne_of_lt (Nat.lt_of_lt_of_le (by have := World.block_lt_of_cell? _ _ hw346_2; first | rwa [add_block] at this | exact this) GW348.out)) | (show (Addr.add _ _).block ≠ _; rw [add_block]; exact Nat.ne_of_lt (Nat.lt_of_lt_of_le (by have := World.block_lt_of_cell? _ _ hw346_2; first | rwa [add_block] at this | exact this) GW348.out)) | (dsimp only; exact Nat.ne_of_lt (Nat.lt_of_lt_of_le (by have := World.block_lt_of_cell? _ _ hw346_2; first | rwa [add_block] at this | exact this) GW348.out))) _).trans (((cell_far (p := ⟨gb348, _, none⟩) (by first | exact Nat.ne_of_lt (Nat.lt_of_lt_of_le (by have := World.block_lt_of_cell? _ _ hw346_2; first | rwa [add_block] at this | exact this) GW348.out) | (rw [add_block]; exact Nat.ne_of_lt (Nat.lt_of_lt_of_le (by have := World.block_lt_of_cell? _ _ hw346_2; first | rwa [add_block] at this | exact this) GW348.out)) | (show (Addr.add _ _).block ≠ _; rw [add_block]; exact Nat.ne_of_lt (Nat.lt_of_lt_of_le (by have := World.block_lt_of_cell? _ _ hw346_2; first | rwa [add_block] at this | exact this) GW348.out)) | (dsimp only; exact Nat.ne_of_lt (Nat.lt_of_lt_of_le (by have := World.block_lt_of_cell? _ _ hw346_2; first | rwa [add_block] at this | exact this) GW348.out))) _).trans (hHeld.2.2.2.2.2.1)))))), ((cell_far (p := ⟨gb348, _, none⟩) (by first | exact Nat.ne_of_lt (Nat.lt_of_lt_of_le (by have := World.block_lt_of_cell? _ _ hw347_0; first | rwa [add_block] at this | exact this) GW348.out) | (rw [add_block]; exact Nat.ne_of_lt (Nat.lt_of_lt_of_le (by have := World.block_lt_of_cell? _ _ hw347_0; first | rwa [add_block] at this | exact this) GW348.out)) | (show (Addr.add _ _).block ≠ _; rw [add_block]; exact Nat.ne_of_lt (Nat.lt_of_lt_of_le (by have := World.block_lt_of_cell? _ _ hw347_0; first | rwa [add_block] at this | exact this) GW348.out)) | (dsimp only; exact Nat.ne_of_lt (Nat.lt_of_lt_of_le (by have := World.block_lt_of_cell? _ _ hw347_0; first | rwa [add_block] at this | exact this) GW348.out))) _).trans (((cell_far (p := ⟨gb348, _, none⟩) (by first | exact Nat.ne_of_lt (Nat.lt_of_lt_of_le (by have := World.block_lt_of_cell? _ _ hw347_0; first | rwa [add_block] at this | exact this) GW348.out) | (rw [add_block]; exact Nat.ne_of_lt (Nat.lt_of_lt_of_le (by have := World.block_lt_of_cell? _ _ hw347_0; first | rwa [add_block] at this | exact this) GW348.out)) | (show (Addr.add _ _).block ≠ _; rw [add_block]; exact Nat.ne_of_lt (Nat.lt_of_lt_of_le (by have := World.block_lt_of_cell? _ _ hw347_0; first | rwa [add_block] at this | exact this) GW348.out)) | (dsimp only; exact Nat.ne_of_lt (Nat.lt_of_lt_of_le (by have := World.block_lt_of_cell? _ _ hw347_0; first | rwa [add_block] at this | exact this) GW348.out))) _).trans (((cell_far (p := ⟨gb348, _, none⟩) (by first | exact Nat.ne_of_lt (Nat.lt_of_lt_of_le (by have := World.block_lt_of_cell? _ _ hw347_0; first | rwa [add_block] at this | exact this) GW348.out) | (rw [add_block]; exact Nat.ne_of_lt (Nat.lt_of_lt_of_le (by have := World.block_lt_of_cell? _ _ hw347_0; first | rwa [add_block] at this | exact this) GW348.out)) | (show (Addr.add _ _).block ≠ _; rw [add_block]; exact Nat.ne_of_lt (Nat.lt_of_lt_of_le (by have := World.block_lt_of_cell? _ _ hw347_0; first | rwa [add_block] at this | exact this) GW348.out)) | (dsimp only; exact Nat.ne_of_lt (Nat.lt_of_lt_of_le (by have := World.block_lt_of_cell? _ _ hw347_0; first | rwa [add_block] at this | exact this) GW348.out))) _).trans (hHeld.2.2.2.2.2.2.1)))))), ((cell_far (p := ⟨gb348, _, none⟩) (by first | exact Nat.ne_of_lt (Nat.lt_of_lt_of_le (by have := World.block_lt_of_cell? _ _ hw347_1; first | rwa [add_block] at this | exact this) GW348.out) | (rw [add_block]; exact Nat.ne_of_lt (Nat.lt_of_lt_of_le (by have := World.block_lt_of_cell? _ _ hw347_1; first | rwa [add_block] at this | exact this) GW348.out)) | (show (Addr.add _ _).block ≠ _; rw [add_block]; exact Nat.ne_of_lt (Nat.lt_of_lt_of_le (by have := World.block_lt_of_cell? _ _ hw347_1; first | rwa [add_block] at this | exact this) GW348.out)) | (dsimp only; exact Nat.ne_of_lt (Nat.lt_of_lt_of_le (by have := World.block_lt_of_cell? _ _ hw347_1; first | rwa [add_block] at this | exact this) GW348.out))) _).trans (((cell_far (p := ⟨gb348, _, none⟩) (by first | exact Nat.ne_of_lt (Nat.lt_of_lt_of_le (by have := World.block_lt_of_cell? _ _ hw347_1; first | rwa [add_block] at this | exact this) GW348.out) | (rw [add_block]; exact Nat.ne_of_lt (Nat.lt_of_lt_of_le (by have := World.block_lt_of_cell? _ _ hw347_1; first | rwa [add_block] at this | exact this) GW348.out)) | (show (Addr.add _ _).block ≠ _; rw [add_block]; exact Nat.ne_of_lt (Nat.lt_of_lt_of_le (by have := World.block_lt_of_cell? _ _ hw347_1; first | rwa [add_block] at this | exact this) GW348.out)) | (dsimp only; exact Nat.ne_of_lt (Nat.lt_of_lt_of_le (by have := World.block_lt_of_cell? _ _ hw347_1; first | rwa [add_block] at this | exact this) GW348.out))) _).trans (((cell_far (p := ⟨gb348, _, none⟩) (by first | exact Nat.ne_of_lt (Nat.lt_of_lt_of_le (by have := World.block_lt_of_cell? _ _ hw347_1; first | rwa [add_block] at this | exact this) GW348.out) | (rw [add_block]; exact Nat.ne_of_lt (Nat.lt_of_lt_of_le (by have := World.block_lt_of_cell? _ _ hw347_1; first | rwa [add_block] at this | exact this) GW348.out)) | (show (Addr.add _ _).block ≠ _; rw [add_block]; exact Nat.ne_of_lt (Nat.lt_of_lt_of_le (by have := World.block_lt_of_cell? _ _ hw347_1; first | rwa [add_block] at this | exact this) GW348.out)) | (dsimp only; exact Nat.ne_of_lt (Nat.lt_of_lt_of_le (by have := World.block_lt_of_cell? _ _ hw347_1; first | rwa [add_block] at this | exact this) GW348.out))) _).trans (hHeld.2.2.2.2.2.2.2.1)))))), ((cell_far (p := ⟨gb348, _, none⟩) (by first | exact Nat.ne_of_lt (Nat.lt_of_lt_of_le (by have := World.block_lt_of_cell? _ _ hw347_2; first | rwa [add_block] at this | exact this) GW348.out) | (rw [add_block]; exact Nat.ne_of_lt (Nat.lt_of_lt_of_le (by have := World.block_lt_of_cell? _ _ hw347_2; first | rwa [add_block] at this | exact this) GW348.out)) | (show (Addr.add _ _).block ≠ _; rw [add_block]; exact Nat.ne_of_lt (Nat.lt_of_lt_of_le (by have := World.block_lt_of_cell? _ _ hw347_2; first | rwa [add_block] at this | exact this) GW348.out)) | (dsimp only; exact Nat.ne_of_lt (Nat.lt_of_lt_of_le (by have := World.block_lt_of_cell? _ _ hw347_2; first | rwa [add_block] at this | exact this) GW348.out))) _).trans (((cell_far (p := ⟨gb348, _, none⟩) (by first | exact Nat.ne_of_lt (Nat.lt_of_lt_of_le (by have := World.block_lt_of_cell? _ _ hw347_2; first | rwa [add_block] at this | exact this) GW348.out) | (rw [add_block]; exact Nat.ne_of_lt (Nat.lt_of_lt_of_le (by have := World.block_lt_of_cell? _ _ hw347_2; first | rwa [add_block] at this | exact this) GW348.out)) | (show (Addr.add _ _).block ≠ _; rw [add_block]; exact Nat.ne_of_lt (Nat.lt_of_lt_of_le (by have := World.block_lt_of_cell? _ _ hw347_2; first | rwa [add_block] at this | exact this) GW348.out)) | (dsimp only; exact Nat.ne_of_lt (Nat.lt_of_lt_of_le (by have := World.block_lt_of_cell? _ _ hw347_2; first | rwa [add_block] at this | exact this) GW348.out))) _).trans (((cell_far (p := ⟨gb348, _, none⟩) (by first | exact Nat.ne_of_lt (Nat.lt_of_lt_of_le (by have := World.block_lt_of_cell? _ _ hw347_2; first | rwa [add_block] at this | exact this) GW348.out) | (rw [add_block]; exact Nat.ne_of_lt (Nat.lt_of_lt_of_le (by have := World.block_lt_of_cell? _ _ hw347_2; first | rwa [add_block] at this | exact this) GW348.out)) | (show (Addr.add _ _).block ≠ _; rw [add_block]; exact Nat.ne_of_lt (Nat.lt_of_lt_of_le (by have := World.block_lt_of_cell? _ _ hw347_2; first | rwa [add_block] at this | exact this) GW348.out)) | (dsimp only; exact Nat.ne_of_lt (Nat.lt_of_lt_of_le (by have := World.block_lt_of_cell? _ _ hw347_2; first | rwa [add_block] at this | exact this) GW348.out))) _).trans (hHeld.2.2.2.2.2.2.2.2))))))⟩ (fun hHeld => ?_)
                              clear hK K
                              refine done_ (done_of HT_.out (by kernel_rfl)) ?_
                              have hcz37_0 : w33.cell? ⟨gb348, 0, none⟩ = some (.int .i64 0) := (blk_cell BK348.out 0).trans rfl
                              have hcz37_1 : w33.cell? ⟨gb348, 1, none⟩ = some (.int .i64 0) := (blk_cell BK348.out 1).trans rfl
                              have hcz37_2 : w33.cell? ⟨gb348, 2, none⟩ = some (.int .i64 0) := (blk_cell BK348.out 2).trans rfl
                              have hfz37_0 := blk_frozen BK348.out 0
                              have hfz37_1 := blk_frozen BK348.out 1
                              have hfz37_2 := blk_frozen BK348.out 2
                              try go_wp2_with (first | ((with_reducible refine gate_dst (N := 87) rfl ?_); (try (refine gate_guard (by rfl) ?_; dsimp only)); refine Kd.R_lit k31 _ 31 ?hg (N := 87) ?hd (xs := ([(⟨wrap64 ((rd x5_2 (ji19)) + (wrap64 ((rd_T56 l1 x7_2).f1))), wrap64 ((wrap64 ((rd x5_2 (ji19)) + (wrap64 ((rd_T56 l1 x7_2).f1)))) + ((rd_T36 l0 (ji19)).f2)), ji24⟩ : S31)] : List (S31))) (inner := [.int .i64 (wrap64 ((rd x5_2 (ji19)) + (wrap64 ((rd_T56 l1 x7_2).f1)))), .int .i64 (wrap64 ((wrap64 ((rd x5_2 (ji19)) + (wrap64 ((rd_T56 l1 x7_2).f1)))) + ((rd_T36 l0 (ji19)).f2))), .int .i64 ji24]) (ok := fun _ => True) (okp := fun _ => True) ?hr ?hp (fun _ hk => hk) trivial (Below.refl _ _) (Nat.le_refl _) (by simp) ?_; (case hd => rfl); (case hg => rfl); (case hr => first | (go_simp; done) | (go_simp; rfl)); (case hp => exact (Reps.c3 (show Kd.M k31 _ _ _ (⟨wrap64 ((rd x5_2 (ji19)) + (wrap64 ((rd_T56 l1 x7_2).f1))), wrap64 ((wrap64 ((rd x5_2 (ji19)) + (wrap64 ((rd_T56 l1 x7_2).f1)))) + ((rd_T36 l0 (ji19)).f2)), ji24⟩ : S31) [.int .i64 (wrap64 ((rd x5_2 (ji19)) + (wrap64 ((rd_T56 l1 x7_2).f1)))), .int .i64 (wrap64 ((wrap64 ((rd x5_2 (ji19)) + (wrap64 ((rd_T56 l1 x7_2).f1)))) + ((rd_T36 l0 (ji19)).f2))), .int .i64 ji24] from (k31_mkM _ _ _ (⟨wrap64 ((rd x5_2 (ji19)) + (wrap64 ((rd_T56 l1 x7_2).f1))), wrap64 ((wrap64 ((rd x5_2 (ji19)) + (wrap64 ((rd_T56 l1 x7_2).f1)))) + ((rd_T36 l0 (ji19)).f2)), ji24⟩ : S31) )) (Reps.none _ _))); intro v350 w38 ho39 hb hg_ hnew_; clear hg_ hnew_; (first | rw [← Ny349.out] at ho39 | (simp only [Int.reduceToNat] at ho39; rw [← Ny349.out] at ho39)); have n0_ := Aside0.mk (Kd.R_below (by (with_reducible repeat (first | apply Kd.R_alloc | apply Kd.R_drewN | apply Kd.R_drew)); exact (Kd.R_mono (Kd.R_far (p := ⟨gb348, 2, none⟩) (Kd.R_far (p := ⟨gb348, 1, none⟩) (Kd.R_far (p := ⟨gb348, 0, none⟩) (Kd.R_types HO_5.out BK348.out (by decide)) (fun _ hk => hk.2) (.int .i64 (wrap64 ((rd x5_2 (ji19)) + (wrap64 ((rd_T56 l1 x7_2).f1)))))) (fun _ hk => hk.2) (.int .i64 (wrap64 ((wrap64 ((rd x5_2 (ji19)) + (wrap64 ((rd_T56 l1 x7_2).f1)))) + ((rd_T36 l0 (ji19)).f2))))) (fun _ hk => hk.2) (.int .i64 ji24)) (fun _ h_ => h_.1))) hb); have n1_ := Aside0.mk (Kd.R_elder' (by (with_reducible repeat (first | apply Kd.R_alloc | apply Kd.R_drewN | apply Kd.R_drew)); exact (Kd.R_mono (Kd.R_far (p := ⟨gb348, 2, none⟩) (Kd.R_far (p := ⟨gb348, 1, none⟩) (Kd.R_far (p := ⟨gb348, 0, none⟩) (Kd.R_mono HO_6.out (fun k_ hk => (⟨hk, hk.2⟩ : _ ∧ k_ ≠ gb348))) (fun _ hk => hk.2) (.int .i64 (wrap64 ((rd x5_2 (ji19)) + (wrap64 ((rd_T56 l1 x7_2).f1)))))) (fun _ hk => hk.2) (.int .i64 (wrap64 ((wrap64 ((rd x5_2 (ji19)) + (wrap64 ((rd_T56 l1 x7_2).f1)))) + ((rd_T36 l0 (ji19)).f2))))) (fun _ hk => hk.2) (.int .i64 ji24)) (fun _ h_ => h_.1))) (Kd.R_base ho39) hb); have n2_ := Aside0.mk (Kd.R_lower (Kd.R_newB (Kd.R_new' ho39 (Kd.R_lt (by (with_reducible repeat (first | apply Kd.R_alloc | apply Kd.R_drewN | apply Kd.R_drew)); exact (Kd.R_mono (Kd.R_far (p := ⟨gb348, 2, none⟩) (Kd.R_far (p := ⟨gb348, 1, none⟩) (Kd.R_far (p := ⟨gb348, 0, none⟩) (Kd.R_mono HO_6.out (fun k_ hk => (⟨hk, hk.2⟩ : _ ∧ k_ ≠ gb348))) (fun _ hk => hk.2) (.int .i64 (wrap64 ((rd x5_2 (ji19)) + (wrap64 ((rd_T56 l1 x7_2).f1)))))) (fun _ hk => hk.2) (.int .i64 (wrap64 ((wrap64 ((rd x5_2 (ji19)) + (wrap64 ((rd_T56 l1 x7_2).f1)))) + ((rd_T36 l0 (ji19)).f2))))) (fun _ hk => hk.2) (.int .i64 ji24)) (fun _ h_ => h_.1))))) (g := gb348) (o := .cells #[.int .i64 (wrap64 ((rd x5_2 (ji19)) + (wrap64 ((rd_T56 l1 x7_2).f1)))), .int .i64 (wrap64 ((wrap64 ((rd x5_2 (ji19)) + (wrap64 ((rd_T56 l1 x7_2).f1)))) + ((rd_T36 l0 (ji19)).f2))), .int .i64 ji24] 31 (0, 0)) (by (with_reducible repeat (first | refine blk_drewN ?_ _ | refine blk_drew ?_ | refine blk_alloc ?_ _)); refine blk_put (cs := #[.int .i64 (wrap64 ((rd x5_2 (ji19)) + (wrap64 ((rd_T56 l1 x7_2).f1)))), .int .i64 (wrap64 ((wrap64 ((rd x5_2 (ji19)) + (wrap64 ((rd_T56 l1 x7_2).f1)))) + ((rd_T36 l0 (ji19)).f2))), .int .i64 0]) ?_ 2 _ rfl; (with_reducible repeat (first | refine blk_drewN ?_ _ | refine blk_drew ?_ | refine blk_alloc ?_ _)); refine blk_put (cs := #[.int .i64 (wrap64 ((rd x5_2 (ji19)) + (wrap64 ((rd_T56 l1 x7_2).f1)))), .int .i64 0, .int .i64 0]) ?_ 1 _ rfl; (with_reducible repeat (first | refine blk_drewN ?_ _ | refine blk_drew ?_ | refine blk_alloc ?_ _)); refine blk_put (cs := #[.int .i64 0, .int .i64 0, .int .i64 0]) ?_ 0 _ rfl; (with_reducible repeat (first | refine blk_drewN ?_ _ | refine blk_drew ?_ | refine blk_alloc ?_ _)); exact BK348.out)) (below_size (by repeat (first | (with_reducible first | exact HB.out | apply below_alloc | apply pw_below_drewN | apply below_drew1 | refine below_set ?_ GE348.out) | exact HB.out)))); have n3_ := Aside0.mk (blk_below (g := gb348) (o := .cells #[.int .i64 (wrap64 ((rd x5_2 (ji19)) + (wrap64 ((rd_T56 l1 x7_2).f1)))), .int .i64 (wrap64 ((wrap64 ((rd x5_2 (ji19)) + (wrap64 ((rd_T56 l1 x7_2).f1)))) + ((rd_T36 l0 (ji19)).f2))), .int .i64 ji24] 31 (0, 0)) (by (with_reducible repeat (first | refine blk_drewN ?_ _ | refine blk_drew ?_ | refine blk_alloc ?_ _)); refine blk_put (cs := #[.int .i64 (wrap64 ((rd x5_2 (ji19)) + (wrap64 ((rd_T56 l1 x7_2).f1)))), .int .i64 (wrap64 ((wrap64 ((rd x5_2 (ji19)) + (wrap64 ((rd_T56 l1 x7_2).f1)))) + ((rd_T36 l0 (ji19)).f2))), .int .i64 0]) ?_ 2 _ rfl; (with_reducible repeat (first | refine blk_drewN ?_ _ | refine blk_drew ?_ | refine blk_alloc ?_ _)); refine blk_put (cs := #[.int .i64 (wrap64 ((rd x5_2 (ji19)) + (wrap64 ((rd_T56 l1 x7_2).f1)))), .int .i64 0, .int .i64 0]) ?_ 1 _ rfl; (with_reducible repeat (first | refine blk_drewN ?_ _ | refine blk_drew ?_ | refine blk_alloc ?_ _)); refine blk_put (cs := #[.int .i64 0, .int .i64 0, .int .i64 0]) ?_ 0 _ rfl; (with_reducible repeat (first | refine blk_drewN ?_ _ | refine blk_drew ?_ | refine blk_alloc ?_ _)); exact BK348.out) hb); have n4_ := Aside0.mk (below_step (by repeat (first | (with_reducible first | exact HB.out | apply below_alloc | apply pw_below_drewN | apply below_drew1 | refine below_set ?_ GE348.out) | exact HB.out)) hb); clear HO_5; clear HO_6; clear BK348; clear HB; have HO_5 := n0_; have HO_6 := n1_; have HO351 := n2_; have BK348 := n3_; have HB := n4_; clear n0_ n1_ n2_ n3_ n4_; clear hb ho39; obtain ⟨Ao40, co40, eo40⟩ := Kd.R_slice HO351.out; subst eo40) | ((with_reducible refine gate_callee (f := 27) rfl ?_); refine goesL_ (some 88) rfl rfl Try.func27 (by kernel_rfl) rfl #[.slice Ao40 y349.length co40] rfl (by (try simp only [List.map_toArray, List.map_cons, List.map_nil]); first | done | rfl | (simp only [List.length_drop, List.length_take]; rfl)) ?_; (with_reducible refine (dormouseref25_Right.calls k2 _ _ y349 true _ ?side1 ?side2 A25.out).mono ?_); (case side1 => repeat (first | exact (Kd.R_reads' HO351.out).2.2 | (with_reducible refine Kd.C_alloc ?_ _) | (with_reducible refine Kd.C_drewN ?_ _) | (with_reducible refine Kd.C_drew ?_))); (case side2 => exact (Kd.R_reads' HO351.out).2.1); rintro e w' ⟨rfl, ⟨nd, rfl⟩⟩; refine ⟨_, rfl, ?_⟩; have hcz41_0 : w38.cell? ⟨gb348, 0, none⟩ = some (.int .i64 (wrap64 ((rd x5_2 (ji19)) + (wrap64 ((rd_T56 l1 x7_2).f1))))) := (blk_cell BK348.out 0).trans rfl; have hcz41_1 : w38.cell? ⟨gb348, 1, none⟩ = some (.int .i64 (wrap64 ((wrap64 ((rd x5_2 (ji19)) + (wrap64 ((rd_T56 l1 x7_2).f1)))) + ((rd_T36 l0 (ji19)).f2)))) := (blk_cell BK348.out 1).trans rfl; have hcz41_2 : w38.cell? ⟨gb348, 2, none⟩ = some (.int .i64 ji24) := (blk_cell BK348.out 2).trans rfl; have hfz41_0 := blk_frozen BK348.out 0; have hfz41_1 := blk_frozen BK348.out 1; have hfz41_2 := blk_frozen BK348.out 2) | ((with_reducible refine gate_builtin (b := .append) (xs := #[.tmp 89, .tmp 91]) rfl ?_); (try (refine gate_guard (by rfl) ?_; dsimp only)); at_builtin; refine Kd.R_append k31 (w0 := w) w.heap.size rfl (.tmp 89) (.tmp 91) 28 31 (.agg #[(.int .i64 0), (.int .i64 0), (.int .i64 0)]) 24 rfl Try.underlying28 info31 rfl (by decide) (by omega) u6 x6_2 (⟨wrap64 ((rd x5_2 (ji19)) + (wrap64 ((rd_T56 l1 x7_2).f1))), wrap64 ((wrap64 ((rd x5_2 (ji19)) + (wrap64 ((rd_T56 l1 x7_2).f1)))) + ((rd_T36 l0 (ji19)).f2)), ji24⟩ : S31) [.int .i64 (wrap64 ((rd x5_2 (ji19)) + (wrap64 ((rd_T56 l1 x7_2).f1)))), .int .i64 (wrap64 ((wrap64 ((rd x5_2 (ji19)) + (wrap64 ((rd_T56 l1 x7_2).f1)))) + ((rd_T36 l0 (ji19)).f2))), .int .i64 ji24] (fun k_ => some k_ ≠ (.slice Ao40 y349.length co40 : Value).ownBlock ∧ k_ ≠ gb348) (fun _ => False) rfl rfl ?aP (fun _ hk => hk.elim) ?aF ?aO ?aB ?aS ?aL ?_; (case aP => exact k31_mkM _ _ _ (⟨wrap64 ((rd x5_2 (ji19)) + (wrap64 ((rd_T56 l1 x7_2).f1))), wrap64 ((wrap64 ((rd x5_2 (ji19)) + (wrap64 ((rd_T56 l1 x7_2).f1)))) + ((rd_T36 l0 (ji19)).f2)), ji24⟩ : S31)); (case aB => exact (by repeat (first | (with_reducible first | exact HB.out | apply below_alloc | apply pw_below_drewN | apply below_drew1 | refine below_set ?_ GE348.out) | exact HB.out))); (case aF => exact (fun k_ hk => ⟨Kd.fresh' (Kd.R_lt (by (with_reducible repeat (first | apply Kd.R_alloc | apply Kd.R_drewN | apply Kd.R_drew)); exact HO351.out)) k_ hk, Kd.freshB (g := gb348) (o := .cells #[.int .i64 (wrap64 ((rd x5_2 (ji19)) + (wrap64 ((rd_T56 l1 x7_2).f1)))), .int .i64 (wrap64 ((wrap64 ((rd x5_2 (ji19)) + (wrap64 ((rd_T56 l1 x7_2).f1)))) + ((rd_T36 l0 (ji19)).f2))), .int .i64 ji24] 31 (0, 0)) (by (with_reducible repeat (first | refine blk_drewN ?_ _ | refine blk_drew ?_ | refine blk_alloc ?_ _)); exact BK348.out) k_ hk⟩)); (case aO => exact (by (with_reducible repeat (first | apply Kd.R_alloc | apply Kd.R_drewN | apply Kd.R_drew)); exact Kd.R_mono HO_6.out (fun _ hk => ⟨hk.2, hk.1.2⟩))); (case aS => exact (below_size (by repeat (first | (with_reducible first | exact HB.out | apply below_alloc | apply pw_below_drewN | apply below_drew1 | refine below_set ?_ GE348.out) | exact HB.out)))); (case aL => have := LMc27.out; omega); intro v354 w42 ho hb hg hat; rw [← Ny353.out] at ho; have n0_ := Aside0.mk (Kd.R_over' (by (with_reducible repeat (first | apply Kd.R_alloc | apply Kd.R_drewN | apply Kd.R_drew)); exact HO_5.out) (Kd.R_typed (by (with_reducible repeat (first | apply Kd.R_alloc | apply Kd.R_drewN | apply Kd.R_drew)); exact HO_6.out)) (by decide) hg); have n1_ := Aside0.mk (blk_grown (g := gb348) (o := .cells #[.int .i64 (wrap64 ((rd x5_2 (ji19)) + (wrap64 ((rd_T56 l1 x7_2).f1)))), .int .i64 (wrap64 ((wrap64 ((rd x5_2 (ji19)) + (wrap64 ((rd_T56 l1 x7_2).f1)))) + ((rd_T36 l0 (ji19)).f2))), .int .i64 ji24] 31 (0, 0)) (by (with_reducible repeat (first | refine blk_drewN ?_ _ | refine blk_drew ?_ | refine blk_alloc ?_ _)); exact BK348.out) hg (Kd.R_away HO_6.out (fun _ hk => hk.1.2))); have n2_ := Aside0.mk (Kd.R_after (ok := (fun k_ => k_ ≠ gb348)) (by (with_reducible repeat (first | apply Kd.R_alloc | apply Kd.R_drewN | apply Kd.R_drew)); exact Kd.R_mono HO351.out (fun _ hk => ⟨hk.2, hk.1.2⟩)) hg hat); have n3_ := Aside0.mk (hb); have n4_ := Aside0.mk (ho); clear HO_5; clear BK348; clear HO351; clear HB; clear HO_6; have HO_5 := n0_; have BK348 := n1_; have HO351 := n2_; have HB := n3_; have HO355 := n4_; clear n0_ n1_ n2_ n3_ n4_; clear ho hb hg hat))
                              go_roundg k2
                              case measure => have := HJ2.out; have := HK2.out; omega
                              case rel => exact ⟨(y344), (y353), (wrap64 (x7_2 + 1)), (by first | rfl | (simp; done) | (simp [*]; done)), H', ⟨by have := HJ2.out; have := HK2.out; omega⟩, ⟨by (with_reducible repeat (first | apply Kd.R_alloc | apply Kd.R_drewN | apply Kd.R_drew)); exact HO_5.out⟩, ⟨by (with_reducible repeat (first | apply Kd.R_alloc | apply Kd.R_drewN | apply Kd.R_drew)); exact Kd.R_mono HO355.out (fun _ hk => trivial)⟩, ⟨by repeat (first | (with_reducible first | exact HB.out | apply below_alloc | apply pw_below_drewN | apply below_drew1 | refine below_set ?_ GE348.out) | exact HB.out)⟩⟩
                            · rw [if_neg c27] at H
                              exact absurd H (by simp)
                          · replace c26 := Bool.eq_false_iff.mpr c26
                            subst c26
                            have H1 : (dormouselaw28_DemandSporadic.l0 k2 l0 l1 y344 x6_2 (wrap64 (x7_2 + 1))) = some r := by rw [if_neg (show ¬ (false = true) by decide)] at H; exact H
                            clear H
                            have H := H1
                            clear H1
                            have H' := Aside0.mk H
                            clear H
                            have p340 : 0 ≤ (x7_2 : Int) := of_decide_eq_true (by first | (with_reducible assumption) | assumption)
                            have q340 : x7_2 < (l1.length : Int) := of_decide_eq_true (by first | (with_reducible assumption) | assumption)
                            obtain ⟨ad340, e340, hx340_0, hx340_1, hx340_2⟩ := at_T56 HR1.out x7_2 p340 q340
                            cases e340
                            replace hx340_0 := (HB.out.cell (World.block_lt_of_cell? w _ hx340_0)).trans hx340_0
                            replace hx340_1 := (HB.out.cell (World.block_lt_of_cell? w _ hx340_1)).trans hx340_1
                            replace hx340_2 := (HB.out.cell (World.block_lt_of_cell? w _ hx340_2)).trans hx340_2
                            replace p340 := eq_true p340
                            replace q340 := eq_true q340
                            try go_wp2
                            have n0_ := Aside0.mk (Kd.R_drew HO_5.out)
                            have n1_ := Aside0.mk (Kd.R_drew HO_6.out)
                            have n2_ := Aside0.mk (below_drew1 HB.out)
                            clear HO_5
                            clear HO_6
                            clear HB
                            have HO_5 := n0_
                            have HO_6 := n1_
                            have HB := n2_
                            clear n0_ n1_ n2_
                            obtain ⟨Ao44, co44, eo44⟩ := Kd.R_slice HO_5.out
                            (first | subst eo44 | (injection eo44 with f1_ f2_ f3_; have f4_ := f1_.symm; have f5_ := f3_.symm; clear f1_ f2_ f3_; subst f4_; subst f5_))
                            have hv_ := HVA.out
                            injection hv_ with ha_ hl_ hc_
                            subst ha_
                            have q8a_ : (ji19 < 8) = True := eq_true (by have h_ : (ji19) < (x5_2.length : Int) := of_decide_eq_true (by first | (with_reducible assumption) | assumption); omega)
                            have q8b_ : decide (ji19 < 8) = true := decide_eq_true (of_eq_true q8a_)
                            clear hl_ hc_
                            have p341 : 0 ≤ ((ji19) : Int) := of_decide_eq_true (by first | (with_reducible assumption) | assumption)
                            have q341 : (ji19) < (x5_2.length : Int) := of_decide_eq_true (by first | (with_reducible assumption) | assumption)
                            obtain ⟨ad341, e341, hx341_0⟩ := Kd.at_int (Kd.R_reads' HO_5.out).2.2 (ji19) p341 q341
                            cases e341
                            simp only [add_plain] at hx341_0
                            replace p341 := eq_true p341
                            replace q341 := eq_true q341
                            have p342 : 0 ≤ (x7_2 : Int) := of_decide_eq_true (by first | (with_reducible assumption) | assumption)
                            have q342 : x7_2 < (l1.length : Int) := of_decide_eq_true (by first | (with_reducible assumption) | assumption)
                            obtain ⟨ad342, e342, hx342_0, hx342_1, hx342_2⟩ := at_T56 HR1.out x7_2 p342 q342
                            have hw342_2 := hx342_2
                            have hw342_1 := hx342_1
                            have hw342_0 := hx342_0
                            obtain rfl : ad340 = ad342 := (by injection e342)
                            replace hx342_0 := (HB.out.cell (World.block_lt_of_cell? w _ hx342_0)).trans hx342_0
                            replace hx342_1 := (HB.out.cell (World.block_lt_of_cell? w _ hx342_1)).trans hx342_1
                            replace hx342_2 := (HB.out.cell (World.block_lt_of_cell? w _ hx342_2)).trans hx342_2
                            replace p342 := eq_true p342
                            replace q342 := eq_true q342
                            refine start_ (n := 11) (S := fun w' => w'.cell? ⟨gbA, (ji19).toNat, none⟩ = some (.int .i64 (rd x5_2 (ji19))) ∧ w'.cell? (ad340.add ((x7_2).toNat * 3)) = some (.int .u8 ((rd_T56 l1 x7_2).f0)) ∧ w'.cell? ⟨(ad340.add ((x7_2).toNat * 3)).block, (ad340.add ((x7_2).toNat * 3)).off + 1, none⟩ = some (.int .u8 ((rd_T56 l1 x7_2).f1)) ∧ w'.cell? ⟨(ad340.add ((x7_2).toNat * 3)).block, (ad340.add ((x7_2).toNat * 3)).off + 2, none⟩ = some (.int .u8 ((rd_T56 l1 x7_2).f2))) (ds := []) #[false, false, false, false, false, false, false, false, false, false, false] (by kernel_rfl) rfl rfl ⟨hx341_0, ((HB.out.cell (World.block_lt_of_cell? w _ hw342_0)).trans hw342_0), ((HB.out.cell (World.block_lt_of_cell? w _ hw342_1)).trans hw342_1), ((HB.out.cell (World.block_lt_of_cell? w _ hw342_2)).trans hw342_2)⟩ (fun hHeld => ?_); refine with_tabW dormouselaw28_DemandSporadic.tab9 dormouselaw28_DemandSporadic.bits9 (fun HT_ HW_ => ?_)
                            generalize wr.drew = w43 at HO_5 HO_6 HB hx341_0 hx342_0 hx342_1 hx342_2 hHeld ⊢
                            refine pure_ (i := 0) (N := some 45) (v := ?_) (a' := ?_) #[true, false, false, false, false, false, false, false, false, false, false] rfl rfl (any_of HT_.out (by kernel_rfl)) (fun _ _ _ h => h) (Or.inl ⟨by rfl, ?_⟩) ?_ ?_
                            rotate_left
                            · intro w'
                              go_simp
                              with_reducible rfl
                            rotate_left
                            · simp only [Act.put, List.setIfInBounds_toArray, List.set_cons_zero, List.set_cons_succ, i64_w, i32_w]
                              rfl
                            refine pure_ (i := 1) (N := some 46) (v := ?_) (a' := ?_) #[true, true, false, false, false, false, false, false, false, false, false] rfl rfl (any_of HT_.out (by kernel_rfl)) (fun _ _ _ h => h) (Or.inl ⟨by rfl, ?_⟩) ?_ ?_
                            rotate_left
                            · intro w'
                              go_simp
                              with_reducible rfl
                            rotate_left
                            · simp only [Act.put, List.setIfInBounds_toArray, List.set_cons_zero, List.set_cons_succ, i64_w, i32_w]
                              rfl
                            refine pure_ (i := 3) (N := some 48) (v := ?_) (a' := ?_) #[true, true, false, true, false, false, false, false, false, false, false] rfl rfl (any_of HT_.out (by kernel_rfl)) (fun _ _ _ h => h) (Or.inl ⟨by rfl, ?_⟩) ?_ ?_
                            rotate_left
                            · intro w'
                              go_simp
                              with_reducible rfl
                            rotate_left
                            · simp only [Act.put, List.setIfInBounds_toArray, List.set_cons_zero, List.set_cons_succ, i64_w, i32_w]
                              rfl
                            refine pure_ (i := 4) (N := some 49) (v := ?_) (a' := ?_) #[true, true, false, true, true, false, false, false, false, false, false] rfl rfl (any_of HT_.out (by kernel_rfl)) (fun _ _ _ h => h) (Or.inl ⟨by rfl, ?_⟩) ?_ ?_
                            rotate_left
                            · intro w'
                              go_simp
                              with_reducible rfl
                            rotate_left
                            · simp only [Act.put, List.setIfInBounds_toArray, List.set_cons_zero, List.set_cons_succ, i64_w, i32_w]
                              rfl
                            refine pure_ (i := 5) (N := some 50) (v := ?_) (a' := ?_) #[true, true, false, true, true, true, false, false, false, false, false] rfl rfl (any_of HT_.out (by kernel_rfl)) (fun _ _ _ h => h) (Or.inl ⟨by rfl, ?_⟩) ?_ ?_
                            rotate_left
                            · intro w'
                              go_simp
                              with_reducible rfl
                            rotate_left
                            · simp only [Act.put, List.setIfInBounds_toArray, List.set_cons_zero, List.set_cons_succ, i64_w, i32_w]
                              rfl
                            refine pure_ (i := 6) (N := some 51) (v := ?_) (a' := ?_) #[true, true, false, true, true, true, true, false, false, false, false] rfl rfl (any_of HT_.out (by kernel_rfl)) (fun _ _ _ h => h) (Or.inl ⟨by rfl, ?_⟩) ?_ ?_
                            rotate_left
                            · intro w'
                              go_simp
                              with_reducible rfl
                            rotate_left
                            · simp only [Act.put, List.setIfInBounds_toArray, List.set_cons_zero, List.set_cons_succ, i64_w, i32_w]
                              rfl
                            refine take_ (i := 2) (N := some 47) (v := ?_) (a' := ?_) #[true, true, true, true, true, true, true, false, false, false, false] rfl rfl (take_ofW HT_.out HW_.out (by kernel_rfl)) (fun _ _ _ h => h) (Or.inl ⟨by rfl, ?_⟩) hHeld ?_ ?_
                            rotate_left
                            · rintro w' ⟨s0, s1, s2, s3⟩
                              go_simp
                              with_reducible rfl
                            rotate_left
                            · simp only [Act.put, List.setIfInBounds_toArray, List.set_cons_zero, List.set_cons_succ, i64_w, i32_w]
                              rfl
                            refine take_ (i := 7) (N := some 52) (v := ?_) (a' := ?_) #[true, true, true, true, true, true, true, true, false, false, false] rfl rfl (take_ofW HT_.out HW_.out (by kernel_rfl)) (fun _ _ _ h => h) (Or.inl ⟨by rfl, ?_⟩) hHeld ?_ ?_
                            rotate_left
                            · rintro w' ⟨s0, s1, s2, s3⟩
                              go_simp
                              with_reducible rfl
                            rotate_left
                            · simp only [Act.put, List.setIfInBounds_toArray, List.set_cons_zero, List.set_cons_succ, i64_w, i32_w]
                              rfl
                            refine pure_ (i := 8) (N := some 53) (v := ?_) (a' := ?_) #[true, true, true, true, true, true, true, true, true, false, false] rfl rfl (any_of HT_.out (by kernel_rfl)) (fun _ _ _ h => h) (Or.inl ⟨by rfl, ?_⟩) ?_ ?_
                            rotate_left
                            · intro w'
                              go_simp
                              with_reducible rfl
                            rotate_left
                            · simp only [Act.put, List.setIfInBounds_toArray, List.set_cons_zero, List.set_cons_succ, i64_w, i32_w]
                              rfl
                            refine pure_ (i := 9) (N := some 54) (v := ?_) (a' := ?_) #[true, true, true, true, true, true, true, true, true, true, false] rfl rfl (any_of HT_.out (by kernel_rfl)) (fun _ _ _ h => h) (Or.inl ⟨by rfl, ?_⟩) ?_ ?_
                            rotate_left
                            · intro w'
                              go_simp
                              with_reducible rfl
                            rotate_left
                            · simp only [Act.put, List.setIfInBounds_toArray, List.set_cons_zero, List.set_cons_succ, i64_w, i32_w]
                              rfl
                            refine pure_ (i := 10) (N := some 9) (v := ?_) (a' := ?_) #[true, true, true, true, true, true, true, true, true, true, true] rfl rfl (any_of HT_.out (by kernel_rfl)) (fun _ _ _ h => h) (Or.inl ⟨by rfl, ?_⟩) ?_ ?_
                            rotate_left
                            · intro w'
                              go_simp
                              with_reducible rfl
                            rotate_left
                            · simp only [Act.put, List.setIfInBounds_toArray, List.set_cons_zero, List.set_cons_succ, i64_w, i32_w]
                              rfl
                            refine done_ (done_of HT_.out (by kernel_rfl)) ?_
                            have p343 : 0 ≤ ((ji19) : Int) := of_decide_eq_true (by first | (with_reducible assumption) | assumption)
                            have q343 : (ji19) < (l0.length : Int) := of_decide_eq_true (by first | (with_reducible assumption) | assumption)
                            obtain ⟨ad343, e343, hx343_0, hx343_1, hx343_2⟩ := at_T36 HR0.out (ji19) p343 q343
                            cases e343
                            replace hx343_0 := (HB.out.cell (World.block_lt_of_cell? w _ hx343_0)).trans hx343_0
                            replace hx343_1 := (HB.out.cell (World.block_lt_of_cell? w _ hx343_1)).trans hx343_1
                            replace hx343_2 := (HB.out.cell (World.block_lt_of_cell? w _ hx343_2)).trans hx343_2
                            replace p343 := eq_true p343
                            replace q343 := eq_true q343
                            have p23 : 0 ≤ ((ji19) : Int) := of_decide_eq_true (by first | (with_reducible assumption) | assumption)
                            have q23 : ((ji19) : Int) < ((x5_2.length : Int) : Int) := of_decide_eq_true (by first | (with_reducible assumption) | assumption)
                            obtain ⟨go23, co23, eo23, gb23, gl23, cl23, HG23⟩ := Kd.R_form HO_5.out (by omega)
                            (first | cases eo23 | (injection eo23 with ea_ en_ ec_; (first | subst ea_ | (injection ea_ with ea_; subst ea_)); subst ec_; clear en_))
                            have GB23 := Aside0.mk gb23
                            have GG23 := Aside0.mk HG23
                            clear gb23 gl23 HG23
                            (first | simp only [add_plain] at hx341_0 | skip)
                            obtain ⟨hx23_0, hf23_0⟩ := Kd.R_celln 0 HO_5.out ((ji19) : Int) p23 q23
                            replace p23 := eq_true p23
                            replace q23 := eq_true q23
                            obtain ⟨hy45_, hz45_⟩ := Kd.R_celln 0 HO_5.out ((ji19) : Int) (of_decide_eq_true (by first | (with_reducible assumption) | assumption)) (of_decide_eq_true (by first | (with_reducible assumption) | assumption))
                            have HP45 := Kd.R_putg HO_5.out ((ji19) : Int) (wrap64 ((wrap64 ((rd x5_2 (ji19)) + (wrap64 ((rd_T56 l1 x7_2).f1)))) + ((rd_T36 l0 (ji19)).f1)))
                            try go_wp2_with (first | ((with_reducible refine gate_store (t := 3) (p := 63) rfl ?_); refine store_event (t := 3) (p := 63) (v := ?vo_w46) (w1 := (w43.setCell ⟨gbA, ((ji19) : Int).toNat, none⟩ (.int .i64 (wrap64 ((wrap64 ((rd x5_2 (ji19)) + (wrap64 ((rd_T56 l1 x7_2).f1)))) + ((rd_T36 l0 (ji19)).f1)))))) ?hg ?ho ?hn ?hr ?_; (case ho => rfl); (case hg => rfl); (case hn => rfl); (case hr => first | (go_simp; done) | (go_simp; rfl)); intro w46 hw; have hg : w43.grownBy w46 (some gbA) := (by rw [hw]; exact HP45.2); have hp_ : Kd.R (Kd.int .i64) 54 w46 w.heap.size (fun _ => True) (.slice (some ⟨gbA, 0, none⟩) x5_2.length co44) y344 := (by rw [hw, Ny344.out]; exact HP45.1); clear HP45; have n0_ := Aside0.mk (hp_); have n1_ := Aside0.mk (Kd.R_over' (v := (.slice (some ⟨gbA, 0, none⟩) x5_2.length co44)) (by (with_reducible repeat (first | apply Kd.R_alloc | apply Kd.R_drewN | apply Kd.R_drew)); exact HO_6.out) (Kd.R_typed HO_5.out) (by decide) hg); have n2_ := Aside0.mk ((by rw [hw]; exact below_set (HB.out) GB23.out : Below w.heap.size w w46)); clear HO_5; clear HO_6; clear HB; have HO_5 := n0_; have HO_6 := n1_; have HB := n2_; clear n0_ n1_ n2_; clear hg hw hp_))
                            have n0_ := Aside0.mk (Kd.R_drew HO_5.out)
                            have n1_ := Aside0.mk (Kd.R_drew HO_6.out)
                            have n2_ := Aside0.mk (below_drew1 HB.out)
                            clear HO_5
                            clear HO_6
                            clear HB
                            have HO_5 := n0_
                            have HO_6 := n1_
                            have HB := n2_
                            clear n0_ n1_ n2_
                            have p345 : 0 ≤ ((ji19) : Int) := of_decide_eq_true (by first | (with_reducible assumption) | assumption)
                            have q345 : (ji19) < (l0.length : Int) := of_decide_eq_true (by first | (with_reducible assumption) | assumption)
                            obtain ⟨ad345, e345, hx345_0, hx345_1, hx345_2⟩ := at_T36 HR0.out (ji19) p345 q345
                            have hw345_2 := hx345_2
                            have hw345_1 := hx345_1
                            have hw345_0 := hx345_0
                            obtain rfl : ad343 = ad345 := (by injection e345)
                            replace hx345_0 := (HB.out.cell (World.block_lt_of_cell? w _ hx345_0)).trans hx345_0
                            replace hx345_1 := (HB.out.cell (World.block_lt_of_cell? w _ hx345_1)).trans hx345_1
                            replace hx345_2 := (HB.out.cell (World.block_lt_of_cell? w _ hx345_2)).trans hx345_2
                            replace p345 := eq_true p345
                            replace q345 := eq_true q345
                            have p346 : 0 ≤ ((ji19) : Int) := of_decide_eq_true (by first | (with_reducible assumption) | assumption)
                            have q346 : (ji19) < (l0.length : Int) := of_decide_eq_true (by first | (with_reducible assumption) | assumption)
                            obtain ⟨ad346, e346, hx346_0, hx346_1, hx346_2⟩ := at_T36 HR0.out (ji19) p346 q346
                            have hw346_2 := hx346_2
                            have hw346_1 := hx346_1
                            have hw346_0 := hx346_0
                            obtain rfl : ad343 = ad346 := (by injection e346)
                            replace hx346_0 := (HB.out.cell (World.block_lt_of_cell? w _ hx346_0)).trans hx346_0
                            replace hx346_1 := (HB.out.cell (World.block_lt_of_cell? w _ hx346_1)).trans hx346_1
                            replace hx346_2 := (HB.out.cell (World.block_lt_of_cell? w _ hx346_2)).trans hx346_2
                            replace p346 := eq_true p346
                            replace q346 := eq_true q346
                            have p347 : 0 ≤ (x7_2 : Int) := of_decide_eq_true (by first | (with_reducible assumption) | assumption)
                            have q347 : x7_2 < (l1.length : Int) := of_decide_eq_true (by first | (with_reducible assumption) | assumption)
                            obtain ⟨ad347, e347, hx347_0, hx347_1, hx347_2⟩ := at_T56 HR1.out x7_2 p347 q347
                            have hw347_2 := hx347_2
                            have hw347_1 := hx347_1
                            have hw347_0 := hx347_0
                            obtain rfl : ad340 = ad347 := (by injection e347)
                            replace hx347_0 := (HB.out.cell (World.block_lt_of_cell? w _ hx347_0)).trans hx347_0
                            replace hx347_1 := (HB.out.cell (World.block_lt_of_cell? w _ hx347_1)).trans hx347_1
                            replace hx347_2 := (HB.out.cell (World.block_lt_of_cell? w _ hx347_2)).trans hx347_2
                            replace p347 := eq_true p347
                            replace q347 := eq_true q347
                            refine start_ (n := 24) (S := fun w' => w'.cell? (ad343.add (((ji19)).toNat * 3)) = some (.int .i64 ((rd_T36 l0 (ji19)).f0)) ∧ w'.cell? ⟨(ad343.add (((ji19)).toNat * 3)).block, (ad343.add (((ji19)).toNat * 3)).off + 1, none⟩ = some (.int .i64 ((rd_T36 l0 (ji19)).f1)) ∧ w'.cell? ⟨(ad343.add (((ji19)).toNat * 3)).block, (ad343.add (((ji19)).toNat * 3)).off + 2, none⟩ = some (.int .i64 ((rd_T36 l0 (ji19)).f2)) ∧ w'.cell? (ad343.add (((ji19)).toNat * 3)) = some (.int .i64 ((rd_T36 l0 (ji19)).f0)) ∧ w'.cell? ⟨(ad343.add (((ji19)).toNat * 3)).block, (ad343.add (((ji19)).toNat * 3)).off + 1, none⟩ = some (.int .i64 ((rd_T36 l0 (ji19)).f1)) ∧ w'.cell? ⟨(ad343.add (((ji19)).toNat * 3)).block, (ad343.add (((ji19)).toNat * 3)).off + 2, none⟩ = some (.int .i64 ((rd_T36 l0 (ji19)).f2)) ∧ w'.cell? (ad340.add ((x7_2).toNat * 3)) = some (.int .u8 ((rd_T56 l1 x7_2).f0)) ∧ w'.cell? ⟨(ad340.add ((x7_2).toNat * 3)).block, (ad340.add ((x7_2).toNat * 3)).off + 1, none⟩ = some (.int .u8 ((rd_T56 l1 x7_2).f1)) ∧ w'.cell? ⟨(ad340.add ((x7_2).toNat * 3)).block, (ad340.add ((x7_2).toNat * 3)).off + 2, none⟩ = some (.int .u8 ((rd_T56 l1 x7_2).f2))) (ds := []) #[false, false, false, false, false, false, false, false, false, false, false, false, false, false, false, false, false, false, false, false, false, false, false, false] (by kernel_rfl) rfl rfl ⟨((HB.out.cell (World.block_lt_of_cell? w _ hw345_0)).trans hw345_0), ((HB.out.cell (World.block_lt_of_cell? w _ hw345_1)).trans hw345_1), ((HB.out.cell (World.block_lt_of_cell? w _ hw345_2)).trans hw345_2), ((HB.out.cell (World.block_lt_of_cell? w _ hw346_0)).trans hw346_0), ((HB.out.cell (World.block_lt_of_cell? w _ hw346_1)).trans hw346_1), ((HB.out.cell (World.block_lt_of_cell? w _ hw346_2)).trans hw346_2), ((HB.out.cell (World.block_lt_of_cell? w _ hw347_0)).trans hw347_0), ((HB.out.cell (World.block_lt_of_cell? w _ hw347_1)).trans hw347_1), ((HB.out.cell (World.block_lt_of_cell? w _ hw347_2)).trans hw347_2)⟩ (fun hHeld => ?_); refine with_tabW dormouselaw28_DemandSporadic.tab11 dormouselaw28_DemandSporadic.bits11 (fun HT_ HW_ => ?_)
                            generalize w46.drew = w47 at HO_5 HO_6 HB hx345_0 hx345_1 hx345_2 hx346_0 hx346_1 hx346_2 hx347_0 hx347_1 hx347_2 hHeld ⊢
                            refine pure_ (i := 0) (N := some 64) (v := ?_) (a' := ?_) #[true, false, false, false, false, false, false, false, false, false, false, false, false, false, false, false, false, false, false, false, false, false, false, false] rfl rfl (any_of HT_.out (by kernel_rfl)) (fun _ _ _ h => h) (Or.inl ⟨by rfl, ?_⟩) ?_ ?_
                            rotate_left
                            · intro w'
                              go_simp
                              with_reducible rfl
                            rotate_left
                            · simp only [Act.put, List.setIfInBounds_toArray, List.set_cons_zero, List.set_cons_succ, i64_w, i32_w]
                              rfl
                            refine pure_ (i := 1) (N := some 65) (v := ?_) (a' := ?_) #[true, true, false, false, false, false, false, false, false, false, false, false, false, false, false, false, false, false, false, false, false, false, false, false] rfl rfl (any_of HT_.out (by kernel_rfl)) (fun _ _ _ h => h) (Or.inl ⟨by rfl, ?_⟩) ?_ ?_
                            rotate_left
                            · intro w'
                              go_simp
                              with_reducible rfl
                            rotate_left
                            · simp only [Act.put, List.setIfInBounds_toArray, List.set_cons_zero, List.set_cons_succ, i64_w, i32_w]
                              rfl
                            refine pure_ (i := 2) (N := some 66) (v := ?_) (a' := ?_) #[true, true, true, false, false, false, false, false, false, false, false, false, false, false, false, false, false, false, false, false, false, false, false, false] rfl rfl (any_of HT_.out (by kernel_rfl)) (fun _ _ _ h => h) (Or.inl ⟨by rfl, ?_⟩) ?_ ?_
                            rotate_left
                            · intro w'
                              go_simp
                              with_reducible rfl
                            rotate_left
                            · simp only [Act.put, List.setIfInBounds_toArray, List.set_cons_zero, List.set_cons_succ, i64_w, i32_w]
                              rfl
                            refine pure_ (i := 3) (N := some 67) (v := ?_) (a' := ?_) #[true, true, true, true, false, false, false, false, false, false, false, false, false, false, false, false, false, false, false, false, false, false, false, false] rfl rfl (any_of HT_.out (by kernel_rfl)) (fun _ _ _ h => h) (Or.inl ⟨by rfl, ?_⟩) ?_ ?_
                            rotate_left
                            · intro w'
                              go_simp
                              with_reducible rfl
                            rotate_left
                            · simp only [Act.put, List.setIfInBounds_toArray, List.set_cons_zero, List.set_cons_succ, i64_w, i32_w]
                              rfl
                            refine pure_ (i := 4) (N := some 68) (v := ?_) (a' := ?_) #[true, true, true, true, true, false, false, false, false, false, false, false, false, false, false, false, false, false, false, false, false, false, false, false] rfl rfl (any_of HT_.out (by kernel_rfl)) (fun _ _ _ h => h) (Or.inl ⟨by rfl, ?_⟩) ?_ ?_
                            rotate_left
                            · intro w'
                              go_simp
                              with_reducible rfl
                            rotate_left
                            · simp only [Act.put, List.setIfInBounds_toArray, List.set_cons_zero, List.set_cons_succ, i64_w, i32_w]
                              rfl
                            refine pure_ (i := 5) (N := some 69) (v := ?_) (a' := ?_) #[true, true, true, true, true, true, false, false, false, false, false, false, false, false, false, false, false, false, false, false, false, false, false, false] rfl rfl (any_of HT_.out (by kernel_rfl)) (fun _ _ _ h => h) (Or.inl ⟨by rfl, ?_⟩) ?_ ?_
                            rotate_left
                            · intro w'
                              go_simp
                              with_reducible rfl
                            rotate_left
                            · simp only [Act.put, List.setIfInBounds_toArray, List.set_cons_zero, List.set_cons_succ, i64_w, i32_w]
                              rfl
                            refine pure_ (i := 8) (N := some 72) (v := ?_) (a' := ?_) #[true, true, true, true, true, true, false, false, true, false, false, false, false, false, false, false, false, false, false, false, false, false, false, false] rfl rfl (any_of HT_.out (by kernel_rfl)) (fun _ _ _ h => h) (Or.inl ⟨by rfl, ?_⟩) ?_ ?_
                            rotate_left
                            · intro w'
                              go_simp
                              with_reducible rfl
                            rotate_left
                            · simp only [Act.put, List.setIfInBounds_toArray, List.set_cons_zero, List.set_cons_succ, i64_w, i32_w]
                              rfl
                            refine pure_ (i := 9) (N := some 73) (v := ?_) (a' := ?_) #[true, true, true, true, true, true, false, false, true, true, false, false, false, false, false, false, false, false, false, false, false, false, false, false] rfl rfl (any_of HT_.out (by kernel_rfl)) (fun _ _ _ h => h) (Or.inl ⟨by rfl, ?_⟩) ?_ ?_
                            rotate_left
                            · intro w'
                              go_simp
                              with_reducible rfl
                            rotate_left
                            · simp only [Act.put, List.setIfInBounds_toArray, List.set_cons_zero, List.set_cons_succ, i64_w, i32_w]
                              rfl
                            refine pure_ (i := 10) (N := some 74) (v := ?_) (a' := ?_) #[true, true, true, true, true, true, false, false, true, true, true, false, false, false, false, false, false, false, false, false, false, false, false, false] rfl rfl (any_of HT_.out (by kernel_rfl)) (fun _ _ _ h => h) (Or.inl ⟨by rfl, ?_⟩) ?_ ?_
                            rotate_left
                            · intro w'
                              go_simp
                              with_reducible rfl
                            rotate_left
                            · simp only [Act.put, List.setIfInBounds_toArray, List.set_cons_zero, List.set_cons_succ, i64_w, i32_w]
                              rfl
                            refine pure_ (i := 11) (N := some 75) (v := ?_) (a' := ?_) #[true, true, true, true, true, true, false, false, true, true, true, true, false, false, false, false, false, false, false, false, false, false, false, false] rfl rfl (any_of HT_.out (by kernel_rfl)) (fun _ _ _ h => h) (Or.inl ⟨by rfl, ?_⟩) ?_ ?_
                            rotate_left
                            · intro w'
                              go_simp
                              with_reducible rfl
                            rotate_left
                            · simp only [Act.put, List.setIfInBounds_toArray, List.set_cons_zero, List.set_cons_succ, i64_w, i32_w]
                              rfl
                            refine pure_ (i := 13) (N := some 77) (v := ?_) (a' := ?_) #[true, true, true, true, true, true, false, false, true, true, true, true, false, true, false, false, false, false, false, false, false, false, false, false] rfl rfl (any_of HT_.out (by kernel_rfl)) (fun _ _ _ h => h) (Or.inl ⟨by rfl, ?_⟩) ?_ ?_
                            rotate_left
                            · intro w'
                              go_simp
                              with_reducible rfl
                            rotate_left
                            · simp only [Act.put, List.setIfInBounds_toArray, List.set_cons_zero, List.set_cons_succ, i64_w, i32_w]
                              rfl
                            refine pure_ (i := 14) (N := some 78) (v := ?_) (a' := ?_) #[true, true, true, true, true, true, false, false, true, true, true, true, false, true, true, false, false, false, false, false, false, false, false, false] rfl rfl (any_of HT_.out (by kernel_rfl)) (fun _ _ _ h => h) (Or.inl ⟨by rfl, ?_⟩) ?_ ?_
                            rotate_left
                            · intro w'
                              go_simp
                              with_reducible rfl
                            rotate_left
                            · simp only [Act.put, List.setIfInBounds_toArray, List.set_cons_zero, List.set_cons_succ, i64_w, i32_w]
                              rfl
                            refine pure_ (i := 15) (N := some 79) (v := ?_) (a' := ?_) #[true, true, true, true, true, true, false, false, true, true, true, true, false, true, true, true, false, false, false, false, false, false, false, false] rfl rfl (any_of HT_.out (by kernel_rfl)) (fun _ _ _ h => h) (Or.inl ⟨by rfl, ?_⟩) ?_ ?_
                            rotate_left
                            · intro w'
                              go_simp
                              with_reducible rfl
                            rotate_left
                            · simp only [Act.put, List.setIfInBounds_toArray, List.set_cons_zero, List.set_cons_succ, i64_w, i32_w]
                              rfl
                            refine pure_ (i := 16) (N := some 80) (v := ?_) (a' := ?_) #[true, true, true, true, true, true, false, false, true, true, true, true, false, true, true, true, true, false, false, false, false, false, false, false] rfl rfl (any_of HT_.out (by kernel_rfl)) (fun _ _ _ h => h) (Or.inl ⟨by rfl, ?_⟩) ?_ ?_
                            rotate_left
                            · intro w'
                              go_simp
                              with_reducible rfl
                            rotate_left
                            · simp only [Act.put, List.setIfInBounds_toArray, List.set_cons_zero, List.set_cons_succ, i64_w, i32_w]
                              rfl
                            refine take_ (i := 6) (N := some 70) (v := ?_) (a' := ?_) #[true, true, true, true, true, true, true, false, true, true, true, true, false, true, true, true, true, false, false, false, false, false, false, false] rfl rfl (take_ofW HT_.out HW_.out (by kernel_rfl)) (fun _ _ _ h => h) (Or.inl ⟨by rfl, ?_⟩) hHeld ?_ ?_
                            rotate_left
                            · rintro w' ⟨s0, s1, s2, s3, s4, s5, s6, s7, s8⟩
                              go_simp
                              with_reducible rfl
                            rotate_left
                            · simp only [Act.put, List.setIfInBounds_toArray, List.set_cons_zero, List.set_cons_succ, i64_w, i32_w]
                              rfl
                            refine pure_ (i := 7) (N := some 71) (v := ?_) (a' := ?_) #[true, true, true, true, true, true, true, true, true, true, true, true, false, true, true, true, true, false, false, false, false, false, false, false] rfl rfl (any_of HT_.out (by kernel_rfl)) (fun _ _ _ h => h) (Or.inl ⟨by rfl, ?_⟩) ?_ ?_
                            rotate_left
                            · intro w'
                              go_simp
                              with_reducible rfl
                            rotate_left
                            · simp only [Act.put, List.setIfInBounds_toArray, List.set_cons_zero, List.set_cons_succ, i64_w, i32_w]
                              rfl
                            refine take_ (i := 12) (N := some 76) (v := ?_) (a' := ?_) #[true, true, true, true, true, true, true, true, true, true, true, true, true, true, true, true, true, false, false, false, false, false, false, false] rfl rfl (take_ofW HT_.out HW_.out (by kernel_rfl)) (fun _ _ _ h => h) (Or.inl ⟨by rfl, ?_⟩) hHeld ?_ ?_
                            rotate_left
                            · rintro w' ⟨s0, s1, s2, s3, s4, s5, s6, s7, s8⟩
                              go_simp
                              with_reducible rfl
                            rotate_left
                            · simp only [Act.put, List.setIfInBounds_toArray, List.set_cons_zero, List.set_cons_succ, i64_w, i32_w]
                              rfl
                            refine take_ (i := 17) (N := some 81) (v := ?_) (a' := ?_) #[true, true, true, true, true, true, true, true, true, true, true, true, true, true, true, true, true, true, false, false, false, false, false, false] rfl rfl (take_ofW HT_.out HW_.out (by kernel_rfl)) (fun _ _ _ h => h) (Or.inl ⟨by rfl, ?_⟩) hHeld ?_ ?_
                            rotate_left
                            · rintro w' ⟨s0, s1, s2, s3, s4, s5, s6, s7, s8⟩
                              go_simp
                              with_reducible rfl
                            rotate_left
                            · simp only [Act.put, List.setIfInBounds_toArray, List.set_cons_zero, List.set_cons_succ, i64_w, i32_w]
                              rfl
                            refine pure_ (i := 18) (N := some 82) (v := ?_) (a' := ?_) #[true, true, true, true, true, true, true, true, true, true, true, true, true, true, true, true, true, true, true, false, false, false, false, false] rfl rfl (any_of HT_.out (by kernel_rfl)) (fun _ _ _ h => h) (Or.inl ⟨by rfl, ?_⟩) ?_ ?_
                            rotate_left
                            · intro w'
                              go_simp
                              with_reducible rfl
                            rotate_left
                            · simp only [Act.put, List.setIfInBounds_toArray, List.set_cons_zero, List.set_cons_succ, i64_w, i32_w]
                              rfl
                            refine pure_ (i := 19) (N := some 83) (v := ?_) (a' := ?_) #[true, true, true, true, true, true, true, true, true, true, true, true, true, true, true, true, true, true, true, true, false, false, false, false] rfl rfl (any_of HT_.out (by kernel_rfl)) (fun _ _ _ h => h) (Or.inl ⟨by rfl, ?_⟩) ?_ ?_
                            rotate_left
                            · intro w'
                              go_simp
                              with_reducible rfl
                            rotate_left
                            · simp only [Act.put, List.setIfInBounds_toArray, List.set_cons_zero, List.set_cons_succ, i64_w, i32_w]
                              rfl
                            refine pure_ (i := 20) (N := some 84) (v := ?_) (a' := ?_) #[true, true, true, true, true, true, true, true, true, true, true, true, true, true, true, true, true, true, true, true, true, false, false, false] rfl rfl (any_of HT_.out (by kernel_rfl)) (fun _ _ _ h => h) (Or.inl ⟨by rfl, ?_⟩) ?_ ?_
                            rotate_left
                            · intro w'
                              go_simp
                              with_reducible rfl
                            rotate_left
                            · simp only [Act.put, List.setIfInBounds_toArray, List.set_cons_zero, List.set_cons_succ, i64_w, i32_w]
                              rfl
                            refine pure_ (i := 21) (N := some 85) (v := ?_) (a' := ?_) #[true, true, true, true, true, true, true, true, true, true, true, true, true, true, true, true, true, true, true, true, true, true, false, false] rfl rfl (any_of HT_.out (by kernel_rfl)) (fun _ _ _ h => h) (Or.inl ⟨by rfl, ?_⟩) ?_ ?_
                            rotate_left
                            · intro w'
                              go_simp
                              with_reducible rfl
                            rotate_left
                            · simp only [Act.put, List.setIfInBounds_toArray, List.set_cons_zero, List.set_cons_succ, i64_w, i32_w]
                              rfl
                            refine one_ (i := 22) (N := some 10) #[true, true, true, true, true, true, true, true, true, true, true, true, true, true, true, true, true, true, true, true, true, true, true, false] rfl rfl (one_of HT_.out (by kernel_rfl)) (by decide) (fun K hK => ?_)
                            refine box_step ?hg (N := 10) ?hd (cs := #[.int .i64 0, .int .i64 0, .int .i64 0]) (t := 31) ?hr ?_; (case hd => rfl); (case hg => rfl); (case hr => first | (go_simp; done) | (go_simp; rfl))
                            intro gb348 hg w48 hbox hb
                            have n0_ := Aside0.mk (Kd.R_below (by (with_reducible repeat (first | apply Kd.R_alloc | apply Kd.R_drewN | apply Kd.R_drew)); exact HO_5.out) hb)
                            have n1_ := Aside0.mk (Kd.R_below (Kd.R_elderB (by (with_reducible repeat (first | apply Kd.R_alloc | apply Kd.R_drewN | apply Kd.R_drew)); exact HO_6.out) gb348 (Nat.le_of_eq hg.symm)) hb)
                            have n2_ := Aside0.mk (below_step (by repeat (first | (with_reducible first | exact HB.out | apply below_alloc | apply pw_below_drewN | apply below_drew1) | exact HB.out)) hb)
                            have n3_ := Aside0.mk (hbox)
                            have n4_ := Aside0.mk ((by rw [hg]; exact (below_size (by repeat (first | (with_reducible first | exact HB.out | apply below_alloc | apply pw_below_drewN | apply below_drew1) | exact HB.out))) : w.heap.size ≤ gb348))
                            have n5_ := Aside0.mk ((by rw [hg]; exact (below_size (by repeat (first | (with_reducible first | exact HB.out | apply below_alloc | apply pw_below_drewN | apply below_drew1) | exact HB.out))) : w.heap.size ≤ gb348))
                            clear HO_5
                            clear HO_6
                            clear HB
                            have HO_5 := n0_
                            have HO_6 := n1_
                            have HB := n2_
                            have BK348 := n3_
                            have GW348 := n4_
                            have GE348 := n5_
                            clear n0_ n1_ n2_ n3_ n4_ n5_
                            clear hb hbox hg
                            refine hK.out _ _ ⟨((HB.out.cell (World.block_lt_of_cell? w _ hw345_0)).trans hw345_0), ((HB.out.cell (World.block_lt_of_cell? w _ hw345_1)).trans hw345_1), ((HB.out.cell (World.block_lt_of_cell? w _ hw345_2)).trans hw345_2), ((HB.out.cell (World.block_lt_of_cell? w _ hw346_0)).trans hw346_0), ((HB.out.cell (World.block_lt_of_cell? w _ hw346_1)).trans hw346_1), ((HB.out.cell (World.block_lt_of_cell? w _ hw346_2)).trans hw346_2), ((HB.out.cell (World.block_lt_of_cell? w _ hw347_0)).trans hw347_0), ((HB.out.cell (World.block_lt_of_cell? w _ hw347_1)).trans hw347_1), ((HB.out.cell (World.block_lt_of_cell? w _ hw347_2)).trans hw347_2)⟩ (fun hHeld => ?_)
                            clear hK K
                            refine norm_ (a' := ?_) ?_ ?_
                            rotate_left
                            · show Act.put _ (some 10) _ = _
                              simp only [Act.put, List.setIfInBounds_toArray, List.set_cons_zero, List.set_cons_succ, i64_w, i32_w]
                              rfl
                            refine one_ (i := 23) (N := none) #[true, true, true, true, true, true, true, true, true, true, true, true, true, true, true, true, true, true, true, true, true, true, true, true] rfl rfl (one_of HT_.out (by kernel_rfl)) (by decide) (fun K hK => ?_)
                            have hs49 : w48.cell? ⟨gb348, 0, none⟩ = some (.int .i64 0) := (blk_cell BK348.out 0).trans rfl
                            have hfs49 := blk_frozen BK348.out 0
                            have hs50 : w48.cell? ⟨gb348, 1, none⟩ = some (.int .i64 0) := (blk_cell BK348.out 1).trans rfl
                            have hfs50 := blk_frozen BK348.out 1
                            have hs51 : w48.cell? ⟨gb348, 2, none⟩ = some (.int .i64 0) := (blk_cell BK348.out 2).trans rfl
                            have hfs51 := blk_frozen BK348.out 2
                            refine skip_ (w1 := ?_) (by rfl) rfl ?_ ?_
                            rotate_left
                            · go_simp
                              rfl
                            refine hK.out _ _ ⟨((cell_far (p := ⟨gb348, _, none⟩) (by first | exact Nat.ne_of_lt (Nat.lt_of_lt_of_le (by have := World.block_lt_of_cell? _ _ hw345_0; first | rwa [add_block] at this | exact this) GW348.out) | (rw [add_block]; exact Nat.ne_of_lt (Nat.lt_of_lt_of_le (by have := World.block_lt_of_cell? _ _ hw345_0; first | rwa [add_block] at this | exact this) GW348.out)) | (show (Addr.add _ _).block ≠ _; rw [add_block]; exact Nat.ne_of_lt (Nat.lt_of_lt_of_le (by have := World.block_lt_of_cell? _ _ hw345_0; first | rwa [add_block] at this | exact this) GW348.out)) | (dsimp only; exact Nat.ne_of_lt (Nat.lt_of_lt_of_le (by have := World.block_lt_of_cell? _ _ hw345_0; first | rwa [add_block] at this | exact this) GW348.out))) _).trans (((cell_far (p := ⟨gb348, _, none⟩) (by first | exact Nat.ne_of_lt (Nat.lt_of_lt_of_le (by have := World.block_lt_of_cell? _ _ hw345_0; first | rwa [add_block] at this | exact this) GW348.out) | (rw [add_block]; exact Nat.ne_of_lt (Nat.lt_of_lt_of_le (by have := World.block_lt_of_cell? _ _ hw345_0; first | rwa [add_block] at this | exact this) GW348.out)) | (show (Addr.add _ _).block ≠ _; rw [add_block]; exact Nat.ne_of_lt (Nat.lt_of_lt_of_le (by have := World.block_lt_of_cell? _ _ hw345_0; first | rwa [add_block] at this | exact this) GW348.out)) | (dsimp only; exact Nat.ne_of_lt (Nat.lt_of_lt_of_le (by have := World.block_lt_of_cell? _ _ hw345_0; first | rwa [add_block] at this | exact this) GW348.out))) _).trans (((cell_far (p := ⟨gb348, _, none⟩) (by first | exact Nat.ne_of_lt (Nat.lt_of_lt_of_le (by have := World.block_lt_of_cell? _ _ hw345_0; first | rwa [add_block] at this | exact this) GW348.out) | (rw [add_block]; exact Nat.ne_of_lt (Nat.lt_of_lt_of_le (by have := World.block_lt_of_cell? _ _ hw345_0; first | rwa [add_block] at this | exact this) GW348.out)) | (show (Addr.add _ _).block ≠ _; rw [add_block]; exact Nat.ne_of_lt (Nat.lt_of_lt_of_le (by have := World.block_lt_of_cell? _ _ hw345_0; first | rwa [add_block] at this | exact this) GW348.out)) | (dsimp only; exact Nat.ne_of_lt (Nat.lt_of_lt_of_le (by have := World.block_lt_of_cell? _ _ hw345_0; first | rwa [add_block] at this | exact this) GW348.out))) _).trans (hHeld.1)))))), ((cell_far (p := ⟨gb348, _, none⟩) (by first | exact Nat.ne_of_lt (Nat.lt_of_lt_of_le (by have := World.block_lt_of_cell? _ _ hw345_1; first | rwa [add_block] at this | exact this) GW348.out) | (rw [add_block]; exact Nat.ne_of_lt (Nat.lt_of_lt_of_le (by have := World.block_lt_of_cell? _ _ hw345_1; first | rwa [add_block] at this | exact this) GW348.out)) | (show (Addr.add _ _).block ≠ _; rw [add_block]; exact Nat.ne_of_lt (Nat.lt_of_lt_of_le (by have := World.block_lt_of_cell? _ _ hw345_1; first | rwa [add_block] at this | exact this) GW348.out)) | (dsimp only; exact Nat.ne_of_lt (Nat.lt_of_lt_of_le (by have := World.block_lt_of_cell? _ _ hw345_1; first | rwa [add_block] at this | exact this) GW348.out))) _).trans (((cell_far (p := ⟨gb348, _, none⟩) (by first | exact Nat.ne_of_lt (Nat.lt_of_lt_of_le (by have := World.block_lt_of_cell? _ _ hw345_1; first | rwa [add_block] at this | exact this) GW348.out) | (rw [add_block]; exact Nat.ne_of_lt (Nat.lt_of_lt_of_le (by have := World.block_lt_of_cell? _ _ hw345_1; first | rwa [add_block] at this | exact this) GW348.out)) | (show (Addr.add _ _).block ≠ _; rw [add_block]; exact Nat.ne_of_lt (Nat.lt_of_lt_of_le (by have := World.block_lt_of_cell? _ _ hw345_1; first | rwa [add_block] at this | exact this) GW348.out)) | (dsimp only; exact Nat.ne_of_lt (Nat.lt_of_lt_of_le (by have := World.block_lt_of_cell? _ _ hw345_1; first | rwa [add_block] at this | exact this) GW348.out))) _).trans (((cell_far (p := ⟨gb348, _, none⟩) (by first | exact Nat.ne_of_lt (Nat.lt_of_lt_of_le (by have := World.block_lt_of_cell? _ _ hw345_1; first | rwa [add_block] at this | exact this) GW348.out) | (rw [add_block]; exact Nat.ne_of_lt (Nat.lt_of_lt_of_le (by have := World.block_lt_of_cell? _ _ hw345_1; first | rwa [add_block] at this | exact this) GW348.out)) | (show (Addr.add _ _).block ≠ _; rw [add_block]; exact Nat.ne_of_lt (Nat.lt_of_lt_of_le (by have := World.block_lt_of_cell? _ _ hw345_1; first | rwa [add_block] at this | exact this) GW348.out)) | (dsimp only; exact Nat.ne_of_lt (Nat.lt_of_lt_of_le (by have := World.block_lt_of_cell? _ _ hw345_1; first | rwa [add_block] at this | exact this) GW348.out))) _).trans (hHeld.2.1)))))), ((cell_far (p := ⟨gb348, _, none⟩) (by first | exact Nat.ne_of_lt (Nat.lt_of_lt_of_le (by have := World.block_lt_of_cell? _ _ hw345_2; first | rwa [add_block] at this | exact this) GW348.out) | (rw [add_block]; exact Nat.ne_of_lt (Nat.lt_of_lt_of_le (by have := World.block_lt_of_cell? _ _ hw345_2; first | rwa [add_block] at this | exact this) GW348.out)) | (show (Addr.add _ _).block ≠ _; rw [add_block]; exact Nat.ne_of_lt (Nat.lt_of_lt_of_le (by have := World.block_lt_of_cell? _ _ hw345_2; first | rwa [add_block] at this | exact this) GW348.out)) | (dsimp only; exact Nat.ne_of_lt (Nat.lt_of_lt_of_le (by have := World.block_lt_of_cell? _ _ hw345_2; first | rwa [add_block] at this | exact this) GW348.out))) _).trans (((cell_far (p := ⟨gb348, _, none⟩) (by first | exact Nat.ne_of_lt (Nat.lt_of_lt_of_le (by have := World.block_lt_of_cell? _ _ hw345_2; first | rwa [add_block] at this | exact this) GW348.out) | (rw [add_block]; exact Nat.ne_of_lt (Nat.lt_of_lt_of_le (by have := World.block_lt_of_cell? _ _ hw345_2; first | rwa [add_block] at this | exact this) GW348.out)) | (show (Addr.add _ _).block ≠ _; rw [add_block]; exact Nat.ne_of_lt (Nat.lt_of_lt_of_le (by have := World.block_lt_of_cell? _ _ hw345_2; first | rwa [add_block] at this | exact this) GW348.out)) | (dsimp only; exact Nat.ne_of_lt (Nat.lt_of_lt_of_le (by have := World.block_lt_of_cell? _ _ hw345_2; first | rwa [add_block] at this | exact this) GW348.out))) _).trans (((cell_far (p := ⟨gb348, _, none⟩) (by first | exact Nat.ne_of_lt (Nat.lt_of_lt_of_le (by have := World.block_lt_of_cell? _ _ hw345_2; first | rwa [add_block] at this | exact this) GW348.out) | (rw [add_block]; exact Nat.ne_of_lt (Nat.lt_of_lt_of_le (by have := World.block_lt_of_cell? _ _ hw345_2; first | rwa [add_block] at this | exact this) GW348.out)) | (show (Addr.add _ _).block ≠ _; rw [add_block]; exact Nat.ne_of_lt (Nat.lt_of_lt_of_le (by have := World.block_lt_of_cell? _ _ hw345_2; first | rwa [add_block] at this | exact this) GW348.out)) | (dsimp only; exact Nat.ne_of_lt (Nat.lt_of_lt_of_le (by have := World.block_lt_of_cell? _ _ hw345_2; first | rwa [add_block] at this | exact this) GW348.out))) _).trans (hHeld.2.2.1)))))), ((cell_far (p := ⟨gb348, _, none⟩) (by first | exact Nat.ne_of_lt (Nat.lt_of_lt_of_le (by have := World.block_lt_of_cell? _ _ hw346_0; first | rwa [add_block] at this | exact this) GW348.out) | (rw [add_block]; exact Nat.ne_of_lt (Nat.lt_of_lt_of_le (by have := World.block_lt_of_cell? _ _ hw346_0; first | rwa [add_block] at this | exact this) GW348.out)) | (show (Addr.add _ _).block ≠ _; rw [add_block]; exact Nat.ne_of_lt (Nat.lt_of_lt_of_le (by have := World.block_lt_of_cell? _ _ hw346_0; first | rwa [add_block] at this | exact this) GW348.out)) | (dsimp only; exact Nat.ne_of_lt (Nat.lt_of_lt_of_le (by have := World.block_lt_of_cell? _ _ hw346_0; first | rwa [add_block] at this | exact this) GW348.out))) _).trans (((cell_far (p := ⟨gb348, _, none⟩) (by first | exact Nat.ne_of_lt (Nat.lt_of_lt_of_le (by have := World.block_lt_of_cell? _ _ hw346_0; first | rwa [add_block] at this | exact this) GW348.out) | (rw [add_block]; exact Nat.ne_of_lt (Nat.lt_of_lt_of_le (by have := World.block_lt_of_cell? _ _ hw346_0; first | rwa [add_block] at this | exact this) GW348.out)) | (show (Addr.add _ _).block ≠ _; rw [add_block]; exact Nat.ne_of_lt (Nat.lt_of_lt_of_le (by have := World.block_lt_of_cell? _ _ hw346_0; first | rwa [add_block] at this | exact this) GW348.out)) | (dsimp only; exact Nat.ne_of_lt (Nat.lt_of_lt_of_le (by have := World.block_lt_of_cell? _ _ hw346_0; first | rwa [add_block] at this | exact this) GW348.out))) _).trans (((cell_far (p := ⟨gb348, _, none⟩) (by first | exact Nat.ne_of_lt (Nat.lt_of_lt_of_le (by have := World.block_lt_of_cell? _ _ hw346_0; first | rwa [add_block] at this | exact this) GW348.out) | (rw [add_block]; exact Nat.ne_of_lt (Nat.lt_of_lt_of_le (by have := World.block_lt_of_cell? _ _ hw346_0; first | rwa [add_block] at this | exact this) GW348.out)) | (show (Addr.add _ _).block ≠ _; rw [add_block]; exact Nat.ne_of_lt (Nat.lt_of_lt_of_le (by have := World.block_lt_of_cell? _ _ hw346_0; first | rwa [add_block] at this | exact this) GW348.out)) | (dsimp only; exact Nat.ne_of_lt (Nat.lt_of_lt_of_le (by have := World.block_lt_of_cell? _ _ hw346_0; first | rwa [add_block] at this | exact this) GW348.out))) _).trans (hHeld.2.2.2.1)))))), ((cell_far (p := ⟨gb348, _, none⟩) (by first | exact Nat.ne_of_lt (Nat.lt_of_lt_of_le (by have := World.block_lt_of_cell? _ _ hw346_1; first | rwa [add_block] at this | exact this) GW348.out) | (rw [add_block]; exact Nat.ne_of_lt (Nat.lt_of_lt_of_le (by have := World.block_lt_of_cell? _ _ hw346_1; first | rwa [add_block] at this | exact this) GW348.out)) | (show (Addr.add _ _).block ≠ _; rw [add_block]; exact Nat.ne_of_lt (Nat.lt_of_lt_of_le (by have := World.block_lt_of_cell? _ _ hw346_1; first | rwa [add_block] at this | exact this) GW348.out)) | (dsimp only; exact Nat.ne_of_lt (Nat.lt_of_lt_of_le (by have := World.block_lt_of_cell? _ _ hw346_1; first | rwa [add_block] at this | exact this) GW348.out))) _).trans (((cell_far (p := ⟨gb348, _, none⟩) (by first | exact Nat.ne_of_lt (Nat.lt_of_lt_of_le (by have := World.block_lt_of_cell? _ _ hw346_1; first | rwa [add_block] at this | exact this) GW348.out) | (rw [add_block]; exact Nat.ne_of_lt (Nat.lt_of_lt_of_le (by have := World.block_lt_of_cell? _ _ hw346_1; first | rwa [add_block] at this | exact this) GW348.out)) | (show (Addr.add _ _).block ≠ _; rw [add_block]; exact Nat.ne_of_lt (Nat.lt_of_lt_of_le (by have := World.block_lt_of_cell? _ _ hw346_1; first | rwa [add_block] at this | exact this) GW348.out)) | (dsimp only; exact Nat.ne_of_lt (Nat.lt_of_lt_of_le (by have := World.block_lt_of_cell? _ _ hw346_1; first | rwa [add_block] at this | exact this) GW348.out))) _).trans (((cell_far (p := ⟨gb348, _, none⟩) (by first | exact Nat.ne_of_lt (Nat.lt_of_lt_of_le (by have := World.block_lt_of_cell? _ _ hw346_1; first | rwa [add_block] at this | exact this) GW348.out) | (rw [add_block]; exact Nat.ne_of_lt (Nat.lt_of_lt_of_le (by have := World.block_lt_of_cell? _ _ hw346_1; first | rwa [add_block] at this | exact this) GW348.out)) | (show (Addr.add _ _).block ≠ _; rw [add_block]; exact Nat.ne_of_lt (Nat.lt_of_lt_of_le (by have := World.block_lt_of_cell? _ _ hw346_1; first | rwa [add_block] at this | exact this) GW348.out)) | (dsimp only; exact Nat.ne_of_lt (Nat.lt_of_lt_of_le (by have := World.block_lt_of_cell? _ _ hw346_1; first | rwa [add_block] at this | exact this) GW348.out))) _).trans (hHeld.2.2.2.2.1)))))), ((cell_far (p := ⟨gb348, _, none⟩) (by first | exact Nat.ne_of_lt (Nat.lt_of_lt_of_le (by have := World.block_lt_of_cell? _ _ hw346_2; first | rwa [add_block] at this | exact this) GW348.out) | (rw [add_block]; exact Nat.ne_of_lt (Nat.lt_of_lt_of_le (by have := World.block_lt_of_cell? _ _ hw346_2; first | rwa [add_block] at this | exact this) GW348.out)) | (show (Addr.add _ _).block ≠ _; rw [add_block]; exact Nat.ne_of_lt (Nat.lt_of_lt_of_le (by have := World.block_lt_of_cell? _ _ hw346_2; first | rwa [add_block] at this | exact this) GW348.out)) | (dsimp only; exact Nat.ne_of_lt (Nat.lt_of_lt_of_le (by have := World.block_lt_of_cell? _ _ hw346_2; first | rwa [add_block] at this | exact this) GW348.out))) _).trans (((cell_far (p := ⟨gb348, _, none⟩) (by first | exact Nat.ne_of_lt (Nat.lt_of_lt_of_le (by have := World.block_lt_of_cell? _ _ hw346_2; first | rwa [add_block] at this | exact this) GW348.out) | (rw [add_block]; exact Nat.ne_of_lt (Nat.lt_of_lt_of_le (by have := World.block_lt_of_cell? _ _ hw346_2; first | rwa [add_block] at this | exact this) GW348.out)) | (show (Addr.add _ _).block ≠ _; rw [add_block]; exact Nat.ne_of_lt (Nat.lt_of_lt_of_le (by have := World.block_lt_of_cell? _ _ hw346_2; first | rwa [add_block] at this | exact this) GW348.out)) | (dsimp only; exact Nat.ne_of_lt (Nat.lt_of_lt_of_le (by have := World.block_lt_of_cell? _ _ hw346_2; first | rwa [add_block] at this | exact this) GW348.out))) _).trans (((cell_far (p := ⟨gb348, _, none⟩) (by first | exact Nat.ne_of_lt (Nat.lt_of_lt_of_le (by have := World.block_lt_of_cell? _ _ hw346_2; first | rwa [add_block] at this | exact this) GW348.out) | (rw [add_block]; exact Nat.ne_of_lt (Nat.lt_of_lt_of_le (by have := World.block_lt_of_cell? _ _ hw346_2; first | rwa [add_block] at this | exact this) GW348.out)) | (show (Addr.add _ _).block ≠ _; rw [add_block]; exact Nat.ne_of_lt (Nat.lt_of_lt_of_le (by have := World.block_lt_of_cell? _ _ hw346_2; first | rwa [add_block] at this | exact this) GW348.out)) | (dsimp only; exact Nat.ne_of_lt (Nat.lt_of_lt_of_le (by have := World.block_lt_of_cell? _ _ hw346_2; first | rwa [add_block] at this | exact this) GW348.out))) _).trans (hHeld.2.2.2.2.2.1)))))), ((cell_far (p := ⟨gb348, _, none⟩) (by first | exact Nat.ne_of_lt (Nat.lt_of_lt_of_le (by have := World.block_lt_of_cell? _ _ hw347_0; first | rwa [add_block] at this | exact this) GW348.out) | (rw [add_block]; exact Nat.ne_of_lt (Nat.lt_of_lt_of_le (by have := World.block_lt_of_cell? _ _ hw347_0; first | rwa [add_block] at this | exact this) GW348.out)) | (show (Addr.add _ _).block ≠ _; rw [add_block]; exact Nat.ne_of_lt (Nat.lt_of_lt_of_le (by have := World.block_lt_of_cell? _ _ hw347_0; first | rwa [add_block] at this | exact this) GW348.out)) | (dsimp only; exact Nat.ne_of_lt (Nat.lt_of_lt_of_le (by have := World.block_lt_of_cell? _ _ hw347_0; first | rwa [add_block] at this | exact this) GW348.out))) _).trans (((cell_far (p := ⟨gb348, _, none⟩) (by first | exact Nat.ne_of_lt (Nat.lt_of_lt_of_le (by have := World.block_lt_of_cell? _ _ hw347_0; first | rwa [add_block] at this | exact this) GW348.out) | (rw [add_block]; exact Nat.ne_of_lt (Nat.lt_of_lt_of_le (by have := World.block_lt_of_cell? _ _ hw347_0; first | rwa [add_block] at this | exact this) GW348.out)) | (show (Addr.add _ _).block ≠ _; rw [add_block]; exact Nat.ne_of_lt (Nat.lt_of_lt_of_le (by have := World.block_lt_of_cell? _ _ hw347_0; first | rwa [add_block] at this | exact this) GW348.out)) | (dsimp only; exact Nat.ne_of_lt (Nat.lt_of_lt_of_le (by have := World.block_lt_of_cell? _ _ hw347_0; first | rwa [add_block] at this | exact this) GW348.out))) _).trans (((cell_far (p := ⟨gb348, _, none⟩) (by first | exact Nat.ne_of_lt (Nat.lt_of_lt_of_le (by have := World.block_lt_of_cell? _ _ hw347_0; first | rwa [add_block] at this | exact this) GW348.out) | (rw [add_block]; exact Nat.ne_of_lt (Nat.lt_of_lt_of_le (by have := World.block_lt_of_cell? _ _ hw347_0; first | rwa [add_block] at this | exact this) GW348.out)) | (show (Addr.add _ _).block ≠ _; rw [add_block]; exact Nat.ne_of_lt (Nat.lt_of_lt_of_le (by have := World.block_lt_of_cell? _ _ hw347_0; first | rwa [add_block] at this | exact this) GW348.out)) | (dsimp only; exact Nat.ne_of_lt (Nat.lt_of_lt_of_le (by have := World.block_lt_of_cell? _ _ hw347_0; first | rwa [add_block] at this | exact this) GW348.out))) _).trans (hHeld.2.2.2.2.2.2.1)))))), ((cell_far (p := ⟨gb348, _, none⟩) (by first | exact Nat.ne_of_lt (Nat.lt_of_lt_of_le (by have := World.block_lt_of_cell? _ _ hw347_1; first | rwa [add_block] at this | exact this) GW348.out) | (rw [add_block]; exact Nat.ne_of_lt (Nat.lt_of_lt_of_le (by have := World.block_lt_of_cell? _ _ hw347_1; first | rwa [add_block] at this | exact this) GW348.out)) | (show (Addr.add _ _).block ≠ _; rw [add_block]; exact Nat.ne_of_lt (Nat.lt_of_lt_of_le (by have := World.block_lt_of_cell? _ _ hw347_1; first | rwa [add_block] at this | exact this) GW348.out)) | (dsimp only; exact Nat.ne_of_lt (Nat.lt_of_lt_of_le (by have := World.block_lt_of_cell? _ _ hw347_1; first | rwa [add_block] at this | exact this) GW348.out))) _).trans (((cell_far (p := ⟨gb348, _, none⟩) (by first | exact Nat.ne_of_lt (Nat.lt_of_lt_of_le (by have := World.block_lt_of_cell? _ _ hw347_1; first | rwa [add_block] at this | exact this) GW348.out) | (rw [add_block]; exact Nat.ne_of_lt (Nat.lt_of_lt_of_le (by have := World.block_lt_of_cell? _ _ hw347_1; first | rwa [add_block] at this | exact this) GW348.out)) | (show (Addr.add _ _).block ≠ _; rw [add_block]; exact Nat.ne_of_lt (Nat.lt_of_lt_of_le (by have := World.block_lt_of_cell? _ _ hw347_1; first | rwa [add_block] at this | exact this) GW348.out)) | (dsimp only; exact Nat.ne_of_lt (Nat.lt_of_lt_of_le (by have := World.block_lt_of_cell? _ _ hw347_1; first | rwa [add_block] at this | exact this) GW348.out))) _).trans (((cell_far (p := ⟨gb348, _, none⟩) (by first | exact Nat.ne_of_lt (Nat.lt_of_lt_of_le (by have := World.block_lt_of_cell? _ _ hw347_1; first | rwa [add_block] at this | exact this) GW348.out) | (rw [add_block]; exact Nat.ne_of_lt (Nat.lt_of_lt_of_le (by have := World.block_lt_of_cell? _ _ hw347_1; first | rwa [add_block] at this | exact this) GW348.out)) | (show (Addr.add _ _).block ≠ _; rw [add_block]; exact Nat.ne_of_lt (Nat.lt_of_lt_of_le (by have := World.block_lt_of_cell? _ _ hw347_1; first | rwa [add_block] at this | exact this) GW348.out)) | (dsimp only; exact Nat.ne_of_lt (Nat.lt_of_lt_of_le (by have := World.block_lt_of_cell? _ _ hw347_1; first | rwa [add_block] at this | exact this) GW348.out))) _).trans (hHeld.2.2.2.2.2.2.2.1)))))), ((cell_far (p := ⟨gb348, _, none⟩) (by first | exact Nat.ne_of_lt (Nat.lt_of_lt_of_le (by have := World.block_lt_of_cell? _ _ hw347_2; first | rwa [add_block] at this | exact this) GW348.out) | (rw [add_block]; exact Nat.ne_of_lt (Nat.lt_of_lt_of_le (by have := World.block_lt_of_cell? _ _ hw347_2; first | rwa [add_block] at this | exact this) GW348.out)) | (show (Addr.add _ _).block ≠ _; rw [add_block]; exact Nat.ne_of_lt (Nat.lt_of_lt_of_le (by have := World.block_lt_of_cell? _ _ hw347_2; first | rwa [add_block] at this | exact this) GW348.out)) | (dsimp only; exact Nat.ne_of_lt (Nat.lt_of_lt_of_le (by have := World.block_lt_of_cell? _ _ hw347_2; first | rwa [add_block] at this | exact this) GW348.out))) _).trans (((cell_far (p := ⟨gb348, _, none⟩) (by first | exact Nat.ne_of_lt (Nat.lt_of_lt_of_le (by have := World.block_lt_of_cell? _ _ hw347_2; first | rwa [add_block] at this | exact this) GW348.out) | (rw [add_block]; exact Nat.ne_of_lt (Nat.lt_of_lt_of_le (by have := World.block_lt_of_cell? _ _ hw347_2; first | rwa [add_block] at this | exact this) GW348.out)) | (show (Addr.add _ _).block ≠ _; rw [add_block]; exact Nat.ne_of_lt (Nat.lt_of_lt_of_le (by have := World.block_lt_of_cell? _ _ hw347_2; first | rwa [add_block] at this | exact this) GW348.out)) | (dsimp only; exact Nat.ne_of_lt (Nat.lt_of_lt_of_le (by have := World.block_lt_of_cell? _ _ hw347_2; first | rwa [add_block] at this | exact this) GW348.out))) _).trans (((cell_far (p := ⟨gb348, _, none⟩) (by first | exact Nat.ne_of_lt (Nat.lt_of_lt_of_le (by have := World.block_lt_of_cell? _ _ hw347_2; first | rwa [add_block] at this | exact this) GW348.out) | (rw [add_block]; exact Nat.ne_of_lt (Nat.lt_of_lt_of_le (by have := World.block_lt_of_cell? _ _ hw347_2; first | rwa [add_block] at this | exact this) GW348.out)) | (show (Addr.add _ _).block ≠ _; rw [add_block]; exact Nat.ne_of_lt (Nat.lt_of_lt_of_le (by have := World.block_lt_of_cell? _ _ hw347_2; first | rwa [add_block] at this | exact this) GW348.out)) | (dsimp only; exact Nat.ne_of_lt (Nat.lt_of_lt_of_le (by have := World.block_lt_of_cell? _ _ hw347_2; first | rwa [add_block] at this | exact this) GW348.out))) _).trans (hHeld.2.2.2.2.2.2.2.2))))))⟩ (fun hHeld => ?_)
                            clear hK K
                            refine done_ (done_of HT_.out (by kernel_rfl)) ?_
                            have hcz52_0 : w48.cell? ⟨gb348, 0, none⟩ = some (.int .i64 0) := (blk_cell BK348.out 0).trans rfl
                            have hcz52_1 : w48.cell? ⟨gb348, 1, none⟩ = some (.int .i64 0) := (blk_cell BK348.out 1).trans rfl
                            have hcz52_2 : w48.cell? ⟨gb348, 2, none⟩ = some (.int .i64 0) := (blk_cell BK348.out 2).trans rfl
                            have hfz52_0 := blk_frozen BK348.out 0
                            have hfz52_1 := blk_frozen BK348.out 1
                            have hfz52_2 := blk_frozen BK348.out 2
                            try go_wp2_with (first | ((with_reducible refine gate_dst (N := 87) rfl ?_); (try (refine gate_guard (by rfl) ?_; dsimp only)); refine Kd.R_lit k31 _ 31 ?hg (N := 87) ?hd (xs := ([(⟨wrap64 ((rd x5_2 (ji19)) + (wrap64 ((rd_T56 l1 x7_2).f1))), wrap64 ((wrap64 ((rd x5_2 (ji19)) + (wrap64 ((rd_T56 l1 x7_2).f1)))) + ((rd_T36 l0 (ji19)).f2)), ji24⟩ : S31)] : List (S31))) (inner := [.int .i64 (wrap64 ((rd x5_2 (ji19)) + (wrap64 ((rd_T56 l1 x7_2).f1)))), .int .i64 (wrap64 ((wrap64 ((rd x5_2 (ji19)) + (wrap64 ((rd_T56 l1 x7_2).f1)))) + ((rd_T36 l0 (ji19)).f2))), .int .i64 ji24]) (ok := fun _ => True) (okp := fun _ => True) ?hr ?hp (fun _ hk => hk) trivial (Below.refl _ _) (Nat.le_refl _) (by simp) ?_; (case hd => rfl); (case hg => rfl); (case hr => first | (go_simp; done) | (go_simp; rfl)); (case hp => exact (Reps.c3 (show Kd.M k31 _ _ _ (⟨wrap64 ((rd x5_2 (ji19)) + (wrap64 ((rd_T56 l1 x7_2).f1))), wrap64 ((wrap64 ((rd x5_2 (ji19)) + (wrap64 ((rd_T56 l1 x7_2).f1)))) + ((rd_T36 l0 (ji19)).f2)), ji24⟩ : S31) [.int .i64 (wrap64 ((rd x5_2 (ji19)) + (wrap64 ((rd_T56 l1 x7_2).f1)))), .int .i64 (wrap64 ((wrap64 ((rd x5_2 (ji19)) + (wrap64 ((rd_T56 l1 x7_2).f1)))) + ((rd_T36 l0 (ji19)).f2))), .int .i64 ji24] from (k31_mkM _ _ _ (⟨wrap64 ((rd x5_2 (ji19)) + (wrap64 ((rd_T56 l1 x7_2).f1))), wrap64 ((wrap64 ((rd x5_2 (ji19)) + (wrap64 ((rd_T56 l1 x7_2).f1)))) + ((rd_T36 l0 (ji19)).f2)), ji24⟩ : S31) )) (Reps.none _ _))); intro v350 w53 ho54 hb hg_ hnew_; clear hg_ hnew_; (first | rw [← Ny349.out] at ho54 | (simp only [Int.reduceToNat] at ho54; rw [← Ny349.out] at ho54)); have n0_ := Aside0.mk (Kd.R_below (by (with_reducible repeat (first | apply Kd.R_alloc | apply Kd.R_drewN | apply Kd.R_drew)); exact (Kd.R_mono (Kd.R_far (p := ⟨gb348, 2, none⟩) (Kd.R_far (p := ⟨gb348, 1, none⟩) (Kd.R_far (p := ⟨gb348, 0, none⟩) (Kd.R_types HO_5.out BK348.out (by decide)) (fun _ hk => hk.2) (.int .i64 (wrap64 ((rd x5_2 (ji19)) + (wrap64 ((rd_T56 l1 x7_2).f1)))))) (fun _ hk => hk.2) (.int .i64 (wrap64 ((wrap64 ((rd x5_2 (ji19)) + (wrap64 ((rd_T56 l1 x7_2).f1)))) + ((rd_T36 l0 (ji19)).f2))))) (fun _ hk => hk.2) (.int .i64 ji24)) (fun _ h_ => h_.1))) hb); have n1_ := Aside0.mk (Kd.R_elder' (by (with_reducible repeat (first | apply Kd.R_alloc | apply Kd.R_drewN | apply Kd.R_drew)); exact (Kd.R_mono (Kd.R_far (p := ⟨gb348, 2, none⟩) (Kd.R_far (p := ⟨gb348, 1, none⟩) (Kd.R_far (p := ⟨gb348, 0, none⟩) (Kd.R_mono HO_6.out (fun k_ hk => (⟨hk, hk.2⟩ : _ ∧ k_ ≠ gb348))) (fun _ hk => hk.2) (.int .i64 (wrap64 ((rd x5_2 (ji19)) + (wrap64 ((rd_T56 l1 x7_2).f1)))))) (fun _ hk => hk.2) (.int .i64 (wrap64 ((wrap64 ((rd x5_2 (ji19)) + (wrap64 ((rd_T56 l1 x7_2).f1)))) + ((rd_T36 l0 (ji19)).f2))))) (fun _ hk => hk.2) (.int .i64 ji24)) (fun _ h_ => h_.1))) (Kd.R_base ho54) hb); have n2_ := Aside0.mk (Kd.R_lower (Kd.R_newB (Kd.R_new' ho54 (Kd.R_lt (by (with_reducible repeat (first | apply Kd.R_alloc | apply Kd.R_drewN | apply Kd.R_drew)); exact (Kd.R_mono (Kd.R_far (p := ⟨gb348, 2, none⟩) (Kd.R_far (p := ⟨gb348, 1, none⟩) (Kd.R_far (p := ⟨gb348, 0, none⟩) (Kd.R_mono HO_6.out (fun k_ hk => (⟨hk, hk.2⟩ : _ ∧ k_ ≠ gb348))) (fun _ hk => hk.2) (.int .i64 (wrap64 ((rd x5_2 (ji19)) + (wrap64 ((rd_T56 l1 x7_2).f1)))))) (fun _ hk => hk.2) (.int .i64 (wrap64 ((wrap64 ((rd x5_2 (ji19)) + (wrap64 ((rd_T56 l1 x7_2).f1)))) + ((rd_T36 l0 (ji19)).f2))))) (fun _ hk => hk.2) (.int .i64 ji24)) (fun _ h_ => h_.1))))) (g := gb348) (o := .cells #[.int .i64 (wrap64 ((rd x5_2 (ji19)) + (wrap64 ((rd_T56 l1 x7_2).f1)))), .int .i64 (wrap64 ((wrap64 ((rd x5_2 (ji19)) + (wrap64 ((rd_T56 l1 x7_2).f1)))) + ((rd_T36 l0 (ji19)).f2))), .int .i64 ji24] 31 (0, 0)) (by (with_reducible repeat (first | refine blk_drewN ?_ _ | refine blk_drew ?_ | refine blk_alloc ?_ _)); refine blk_put (cs := #[.int .i64 (wrap64 ((rd x5_2 (ji19)) + (wrap64 ((rd_T56 l1 x7_2).f1)))), .int .i64 (wrap64 ((wrap64 ((rd x5_2 (ji19)) + (wrap64 ((rd_T56 l1 x7_2).f1)))) + ((rd_T36 l0 (ji19)).f2))), .int .i64 0]) ?_ 2 _ rfl; (with_reducible repeat (first | refine blk_drewN ?_ _ | refine blk_drew ?_ | refine blk_alloc ?_ _)); refine blk_put (cs := #[.int .i64 (wrap64 ((rd x5_2 (ji19)) + (wrap64 ((rd_T56 l1 x7_2).f1)))), .int .i64 0, .int .i64 0]) ?_ 1 _ rfl; (with_reducible repeat (first | refine blk_drewN ?_ _ | refine blk_drew ?_ | refine blk_alloc ?_ _)); refine blk_put (cs := #[.int .i64 0, .int .i64 0, .int .i64 0]) ?_ 0 _ rfl; (with_reducible repeat (first | refine blk_drewN ?_ _ | refine blk_drew ?_ | refine blk_alloc ?_ _)); exact BK348.out)) (below_size (by repeat (first | (with_reducible first | exact HB.out | apply below_alloc | apply pw_below_drewN | apply below_drew1 | refine below_set ?_ GE348.out) | exact HB.out)))); have n3_ := Aside0.mk (blk_below (g := gb348) (o := .cells #[.int .i64 (wrap64 ((rd x5_2 (ji19)) + (wrap64 ((rd_T56 l1 x7_2).f1)))), .int .i64 (wrap64 ((wrap64 ((rd x5_2 (ji19)) + (wrap64 ((rd_T56 l1 x7_2).f1)))) + ((rd_T36 l0 (ji19)).f2))), .int .i64 ji24] 31 (0, 0)) (by (with_reducible repeat (first | refine blk_drewN ?_ _ | refine blk_drew ?_ | refine blk_alloc ?_ _)); refine blk_put (cs := #[.int .i64 (wrap64 ((rd x5_2 (ji19)) + (wrap64 ((rd_T56 l1 x7_2).f1)))), .int .i64 (wrap64 ((wrap64 ((rd x5_2 (ji19)) + (wrap64 ((rd_T56 l1 x7_2).f1)))) + ((rd_T36 l0 (ji19)).f2))), .int .i64 0]) ?_ 2 _ rfl; (with_reducible repeat (first | refine blk_drewN ?_ _ | refine blk_drew ?_ | refine blk_alloc ?_ _)); refine blk_put (cs := #[.int .i64 (wrap64 ((rd x5_2 (ji19)) + (wrap64 ((rd_T56 l1 x7_2).f1)))), .int .i64 0, .int .i64 0]) ?_ 1 _ rfl; (with_reducible repeat (first | refine blk_drewN ?_ _ | refine blk_drew ?_ | refine blk_alloc ?_ _)); refine blk_put (cs := #[.int .i64 0, .int .i64 0, .int .i64 0]) ?_ 0 _ rfl; (with_reducible repeat (first | refine blk_drewN ?_ _ | refine blk_drew ?_ | refine blk_alloc ?_ _)); exact BK348.out) hb); have n4_ := Aside0.mk (below_step (by repeat (first | (with_reducible first | exact HB.out | apply below_alloc | apply pw_below_drewN | apply below_drew1 | refine below_set ?_ GE348.out) | exact HB.out)) hb); clear HO_5; clear HO_6; clear BK348; clear HB; have HO_5 := n0_; have HO_6 := n1_; have HO351 := n2_; have BK348 := n3_; have HB := n4_; clear n0_ n1_ n2_ n3_ n4_; clear hb ho54; obtain ⟨Ao55, co55, eo55⟩ := Kd.R_slice HO351.out; subst eo55) | ((with_reducible refine gate_callee (f := 27) rfl ?_); refine goesL_ (some 88) rfl rfl Try.func27 (by kernel_rfl) rfl #[.slice Ao55 y349.length co55] rfl (by (try simp only [List.map_toArray, List.map_cons, List.map_nil]); first | done | rfl | (simp only [List.length_drop, List.length_take]; rfl)) ?_; (with_reducible refine (dormouseref25_Right.calls k2 _ _ y349 false _ ?side1 ?side2 A25.out).mono ?_); (case side1 => repeat (first | exact (Kd.R_reads' HO351.out).2.2 | (with_reducible refine Kd.C_alloc ?_ _) | (with_reducible refine Kd.C_drewN ?_ _) | (with_reducible refine Kd.C_drew ?_))); (case side2 => exact (Kd.R_reads' HO351.out).2.1); rintro e w' ⟨rfl, ⟨nd, rfl⟩⟩; refine ⟨_, rfl, ?_⟩))
                            go_roundg k2
                            case measure => have := HJ2.out; have := HK2.out; omega
                            case rel => exact ⟨(y344), (x6_2), (wrap64 (x7_2 + 1)), (by first | rfl | (simp; done) | (simp [*]; done)), H', ⟨by have := HJ2.out; have := HK2.out; omega⟩, ⟨by (with_reducible repeat (first | apply Kd.R_alloc | apply Kd.R_drewN | apply Kd.R_drew)); exact HO_5.out⟩, ⟨by (with_reducible repeat (first | apply Kd.R_alloc | apply Kd.R_drewN | apply Kd.R_drew)); exact Kd.R_mono HO_6.out (fun _ hk => trivial)⟩, ⟨by repeat (first | (with_reducible first | exact HB.out | apply below_alloc | apply pw_below_drewN | apply below_drew1 | refine below_set ?_ GE348.out) | exact HB.out)⟩⟩
                        · rw [if_neg c22] at H
                          exact absurd H (by simp)
                      · rw [if_neg c21] at H
                        exact absurd H (by simp)
                    · rw [if_neg c20] at H
                      exact absurd H (by simp)
                · rw [if_neg c17] at H
                  exact absurd H (by simp)
              · rw [if_neg c16] at H
                have c16b0 : decide (x7_2 < (l1.length : Int)) = false := decide_eq_false c16
                clear c16
                replace H := Option.bind_eq_some_iff.mp H
                obtain ⟨t356, A560, H⟩ := H
                replace H : (if t356 = true then ((sim_Late.f k2 x6_2).bind fun t357 => (some (!t357))) else (some false)) = some r := H
                have A56 := Aside0.mk A560
                clear A560
                by_cases c57 : t356 = true
                · subst c57
                  have H1 : ((sim_Late.f k2 x6_2).bind fun t357 => (some (!t357))) = some r := by rw [if_pos rfl] at H; exact H
                  clear H
                  have H := H1
                  clear H1
                  replace H := Option.bind_eq_some_iff.mp H
                  obtain ⟨t357, A580, H⟩ := H
                  replace H : (some (!t357)) = some r := H
                  have A58 := Aside0.mk A580
                  clear A580
                  obtain rfl := Option.some.inj H
                  go_wp2_with (first | ((with_reducible refine gate_callee (f := 12) rfl ?_); refine goesL_ (some 93) rfl rfl Try.func12 (by kernel_rfl) rfl #[] rfl (by (try simp only [List.map_toArray, List.map_cons, List.map_nil]); first | done | rfl | (simp only [List.length_drop, List.length_take]; rfl)) ?_; (with_reducible refine (dormouselaw28_answers.calls k2  true _ A56.out).mono ?_); rintro e w59 ⟨rfl, hb⟩; refine ⟨_, rfl, ?_⟩; have n0_ := Aside0.mk (Kd.R_below (by (with_reducible repeat (first | apply Kd.R_alloc | apply Kd.R_drewN | apply Kd.R_drew)); exact HO_5.out) hb); have n1_ := Aside0.mk (Kd.R_below (by (with_reducible repeat (first | apply Kd.R_alloc | apply Kd.R_drewN | apply Kd.R_drew)); exact HO_6.out) hb); have n2_ := Aside0.mk (below_step (by repeat (first | (with_reducible first | exact HB.out | apply below_alloc | apply pw_below_drewN | apply below_drew1) | exact HB.out)) hb); clear HO_5; clear HO_6; clear HB; have HO_5 := n0_; have HO_6 := n1_; have HB := n2_; clear n0_ n1_ n2_; (try clear hb); (try clear hb2); (try clear hk); (try clear hi); obtain ⟨Ao60, co60, eo60⟩ := Kd.R_slice HO_6.out; subst eo60) | (go_at_call 28; (with_reducible refine (sim_Late.calls k2 _ _ x6_2 t357 _ ?side1 ?side2 A58.out).mono ?_); (case side1 => repeat (first | exact (Kd.R_reads' HO_6.out).2.2 | (with_reducible refine Kd.C_alloc ?_ _) | (with_reducible refine Kd.C_drewN ?_ _) | (with_reducible refine Kd.C_drew ?_))); (case side2 => exact (Kd.R_reads' HO_6.out).2.1); rintro e w61 ⟨rfl, hb⟩; have n0_ := Aside0.mk (Kd.R_below (by (with_reducible repeat (first | apply Kd.R_alloc | apply Kd.R_drewN | apply Kd.R_drew)); exact HO_5.out) hb); have n1_ := Aside0.mk (Kd.R_below (by (with_reducible repeat (first | apply Kd.R_alloc | apply Kd.R_drewN | apply Kd.R_drew)); exact HO_6.out) hb); have n2_ := Aside0.mk (below_step (by repeat (first | (with_reducible first | exact HB.out | apply below_alloc | apply pw_below_drewN | apply below_drew1) | exact HB.out)) hb); clear HO_5; clear HO_6; clear HB; have HO_5 := n0_; have HO_6 := n1_; have HB := n2_; clear n0_ n1_ n2_; (try clear hb); (try clear hb2); (try clear hk); (try clear hi)))
                  go_ret
                  exact ⟨by first | rfl | (simp [errW_none, errW_some] <;> rfl) | (simp [*, errW_none, errW_some] <;> rfl), by repeat (first | (with_reducible first | exact HB.out | apply below_alloc | apply pw_below_drewN | apply below_drew1) | exact HB.out)⟩
                · replace c57 := Bool.eq_false_iff.mpr c57
                  subst c57
                  have H1 : (some false) = some r := by rw [if_neg (show ¬ (false = true) by decide)] at H; exact H
                  clear H
                  have H := H1
                  clear H1
                  obtain rfl := Option.some.inj H
                  go_wp2_with (first | ((with_reducible refine gate_callee (f := 12) rfl ?_); refine goesL_ (some 93) rfl rfl Try.func12 (by kernel_rfl) rfl #[] rfl (by (try simp only [List.map_toArray, List.map_cons, List.map_nil]); first | done | rfl | (simp only [List.length_drop, List.length_take]; rfl)) ?_; (with_reducible refine (dormouselaw28_answers.calls k2  false _ A56.out).mono ?_); rintro e w62 ⟨rfl, hb⟩; refine ⟨_, rfl, ?_⟩; have n0_ := Aside0.mk (Kd.R_below (by (with_reducible repeat (first | apply Kd.R_alloc | apply Kd.R_drewN | apply Kd.R_drew)); exact HO_5.out) hb); have n1_ := Aside0.mk (Kd.R_below (by (with_reducible repeat (first | apply Kd.R_alloc | apply Kd.R_drewN | apply Kd.R_drew)); exact HO_6.out) hb); have n2_ := Aside0.mk (below_step (by repeat (first | (with_reducible first | exact HB.out | apply below_alloc | apply pw_below_drewN | apply below_drew1) | exact HB.out)) hb); clear HO_5; clear HO_6; clear HB; have HO_5 := n0_; have HO_6 := n1_; have HB := n2_; clear n0_ n1_ n2_; (try clear hb); (try clear hb2); (try clear hk); (try clear hi)))
                  go_ret
                  exact ⟨by first | rfl | (simp [errW_none, errW_some] <;> rfl) | (simp [*, errW_none, errW_some] <;> rfl), by repeat (first | (with_reducible first | exact HB.out | apply below_alloc | apply pw_below_drewN | apply below_drew1) | exact HB.out)⟩
        · rw [if_neg c13] at H
          exact absurd H (by simp)

end Go.Proofs.Ytdjmcjfdkcckoaa.F
