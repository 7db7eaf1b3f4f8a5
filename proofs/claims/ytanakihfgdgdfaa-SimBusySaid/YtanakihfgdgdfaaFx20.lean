-- Told by the kit's print.py out of this seat's translation, for this session's own texts (not a PRINTED file).
import Derived.Test.YtanakihfgdgdfaaFx0
import Derived.Test.YtanakihfgdgdfaaFx5
import Derived.Test.YtanakihfgdgdfaaFx9
import Derived.Test.YtanakihfgdgdfaaFx11
namespace Go.Proofs.Ytanakihfgdgdfaa.F
open Go.RowKit Go.Proofs.YtanakihfgdgdfaaW.PrintWords Go.Proofs.YtanakihfgdgdfaaW.PrintLast Go.Proofs.YtanakihfgdgdfaaW.PrintMore
attribute [local go_sem] max2_int min2_int max_two min_two max_three min_three max_four min_four   -- for this text's walks alone
set_option linter.unusedVariables false
set_option linter.unusedSimpArgs false

/-! ### dormouselaw25_SimLess: function 7 -/
mutual
def dormouselaw25_SimLess.j0 : Nat → List (S32) → Int → Int → Bool → Option (Bool)
  | 0, _, _, _, _ => none
  | k + 1, x0, x1, x2, x23 => if x23 = true then ((dormouselaw25_answers.f k).bind fun t239 => (some t239)) else (if (x0.length : Int) = 0 then (none) else ((some (([] : List (S32)) : List (S32))).bind fun y240 => (if y240.length + x0.length < 5864062014805 then ((some (y240 ++ x0 : List (S32))).bind fun y243 => (if 0 ≤ (Int.tmod (wrap64 (x1)) (x0.length : Int)) then (if (Int.tmod (wrap64 (x1)) (x0.length : Int)) < (x0.length : Int) then (if (Int.tmod (wrap64 (x1)) (x0.length : Int)) < (y243.length : Int) then ((sim_Run.f k x0).bind fun t248 => ((sim_Run.f k (y243.set ((Int.tmod (wrap64 (x1)) (x0.length : Int)) : Int).toNat (⟨(rd_T32 y243 (Int.tmod (wrap64 (x1)) (x0.length : Int))).f0, (rd_T32 y243 (Int.tmod (wrap64 (x1)) (x0.length : Int))).f1, mx (wrap64 (((rd_T32 x0 (Int.tmod (wrap64 (x1)) (x0.length : Int))).f2) - x2)) 0⟩ : S32))).bind fun t251 => (if (t248.length : Int) = (x0.length : Int) then (dormouselaw25_SimLess.j1 k x0 t248 t251 ((t251.length : Int) != (x0.length : Int))) else (dormouselaw25_SimLess.j1 k x0 t248 t251 true)))) else (none)) else (none)) else (none))) else (none))))
def dormouselaw25_SimLess.j1 : Nat → List (S32) → List Int → List Int → Bool → Option (Bool)
  | 0, _, _, _, _ => none
  | k + 1, x0, x9, x10, x60 => if x60 = true then (some false) else (dormouselaw25_SimLess.l0 k x0 x9 x10 0)
def dormouselaw25_SimLess.l0 : Nat → List (S32) → List Int → List Int → Int → Option (Bool)
  | 0, _, _, _, _ => none
  | k + 1, x0, x9, x10, x11 => if x11 < (x0.length : Int) then (if 0 ≤ x11 then (if x11 < (x10.length : Int) then (if x11 < (x9.length : Int) then (if (rd x10 x11) > (rd x9 x11) then (some false) else (dormouselaw25_SimLess.l0 k x0 x9 x10 (wrap64 (x11 + 1)))) else (none)) else (none)) else (none)) else ((dormouselaw25_answers.f k).bind fun t256 => (some t256))
end
def dormouselaw25_SimLess.f (k : Nat) (l0 : List (S32)) (a1 : Int) (a2 : Int) : Option (Bool) := (dormouseref25_Right.f k l0).bind fun t238 => (if t238 = true then (if (l0.length : Int) = 0 then (dormouselaw25_SimLess.j0 k l0 a1 a2 true) else (dormouselaw25_SimLess.j0 k l0 a1 a2 (decide (a2 < 0)))) else (dormouselaw25_SimLess.j0 k l0 a1 a2 true))
theorem dormouselaw25_SimLess.mono_l : ∀ k, (∀ y0 y1 y2 y3, LeO (dormouselaw25_SimLess.j0 k y0 y1 y2 y3) (dormouselaw25_SimLess.j0 (k + 1) y0 y1 y2 y3)) ∧ (∀ y0 y1 y2 y3, LeO (dormouselaw25_SimLess.j1 k y0 y1 y2 y3) (dormouselaw25_SimLess.j1 (k + 1) y0 y1 y2 y3)) ∧ (∀ y0 y1 y2 y3, LeO (dormouselaw25_SimLess.l0 k y0 y1 y2 y3) (dormouselaw25_SimLess.l0 (k + 1) y0 y1 y2 y3))
  | 0 => ⟨fun _ _ _ _ r h => by simp [dormouselaw25_SimLess.j0] at h, fun _ _ _ _ r h => by simp [dormouselaw25_SimLess.j1] at h, fun _ _ _ _ r h => by simp [dormouselaw25_SimLess.l0] at h⟩
  | k + 1 => by
    obtain ⟨ih0, ih1, ih2⟩ := dormouselaw25_SimLess.mono_l k
    refine ⟨?_, ?_, ?_⟩
    · intro y0 y1 y2 y3
      unfold dormouselaw25_SimLess.j0
      repeat' first
      | (with_reducible exact ih0 _ _ _ _)
      | (with_reducible exact ih1 _ _ _ _)
      | (with_reducible exact ih2 _ _ _ _)
      | (with_reducible exact dormouselaw25_answers.mono _)
      | (with_reducible exact dormouseref25_Right.mono _ _)
      | (with_reducible exact sim_Run.mono _ _)
      | (with_reducible exact LeO.refl _)
      | (with_reducible exact LeO.none _)
      | (with_reducible refine LeO.ite ?_ ?_)
      | (with_reducible refine LeO.bind ?_ (fun _ => ?_))
      | exact ih0 _ _ _ _
      | exact ih1 _ _ _ _
      | exact ih2 _ _ _ _
      | exact dormouselaw25_answers.mono _
      | exact dormouseref25_Right.mono _ _
      | exact sim_Run.mono _ _
      | exact LeO.none _
      | refine LeO.ite ?_ ?_
      | refine LeO.bind ?_ (fun _ => ?_)
    · intro y0 y1 y2 y3
      unfold dormouselaw25_SimLess.j1
      repeat' first
      | (with_reducible exact ih0 _ _ _ _)
      | (with_reducible exact ih1 _ _ _ _)
      | (with_reducible exact ih2 _ _ _ _)
      | (with_reducible exact dormouselaw25_answers.mono _)
      | (with_reducible exact dormouseref25_Right.mono _ _)
      | (with_reducible exact sim_Run.mono _ _)
      | (with_reducible exact LeO.refl _)
      | (with_reducible exact LeO.none _)
      | (with_reducible refine LeO.ite ?_ ?_)
      | (with_reducible refine LeO.bind ?_ (fun _ => ?_))
      | exact ih0 _ _ _ _
      | exact ih1 _ _ _ _
      | exact ih2 _ _ _ _
      | exact dormouselaw25_answers.mono _
      | exact dormouseref25_Right.mono _ _
      | exact sim_Run.mono _ _
      | exact LeO.none _
      | refine LeO.ite ?_ ?_
      | refine LeO.bind ?_ (fun _ => ?_)
    · intro y0 y1 y2 y3
      unfold dormouselaw25_SimLess.l0
      repeat' first
      | (with_reducible exact ih0 _ _ _ _)
      | (with_reducible exact ih1 _ _ _ _)
      | (with_reducible exact ih2 _ _ _ _)
      | (with_reducible exact dormouselaw25_answers.mono _)
      | (with_reducible exact dormouseref25_Right.mono _ _)
      | (with_reducible exact sim_Run.mono _ _)
      | (with_reducible exact LeO.refl _)
      | (with_reducible exact LeO.none _)
      | (with_reducible refine LeO.ite ?_ ?_)
      | (with_reducible refine LeO.bind ?_ (fun _ => ?_))
      | exact ih0 _ _ _ _
      | exact ih1 _ _ _ _
      | exact ih2 _ _ _ _
      | exact dormouselaw25_answers.mono _
      | exact dormouseref25_Right.mono _ _
      | exact sim_Run.mono _ _
      | exact LeO.none _
      | refine LeO.ite ?_ ?_
      | refine LeO.bind ?_ (fun _ => ?_)
theorem dormouselaw25_SimLess.mono : ∀ a0 a1 a2 k, LeO (dormouselaw25_SimLess.f k a0 a1 a2) (dormouselaw25_SimLess.f (k + 1) a0 a1 a2) := by
  intro a0 a1 a2 k
  obtain ⟨ih0, ih1, ih2⟩ := dormouselaw25_SimLess.mono_l k
  unfold dormouselaw25_SimLess.f
  repeat' first
      | (with_reducible exact ih0 _ _ _ _)
      | (with_reducible exact ih1 _ _ _ _)
      | (with_reducible exact ih2 _ _ _ _)
      | (with_reducible exact dormouselaw25_answers.mono _)
      | (with_reducible exact dormouseref25_Right.mono _ _)
      | (with_reducible exact sim_Run.mono _ _)
      | (with_reducible exact LeO.refl _)
      | (with_reducible exact LeO.none _)
      | (with_reducible refine LeO.ite ?_ ?_)
      | (with_reducible refine LeO.bind ?_ (fun _ => ?_))
      | exact ih0 _ _ _ _
      | exact ih1 _ _ _ _
      | exact ih2 _ _ _ _
      | exact dormouselaw25_answers.mono _
      | exact dormouseref25_Right.mono _ _
      | exact sim_Run.mono _ _
      | exact LeO.none _
      | refine LeO.ite ?_ ?_
      | refine LeO.bind ?_ (fun _ => ?_)
set_option maxHeartbeats 8000000 in
set_option maxRecDepth 100000 in
theorem dormouselaw25_SimLess.calls (k : Nat) (A0 : Option Addr) (c0 : Nat) (l0 : List (S32)) (a1 : Int) (a2 : Int) (r : Bool) (w : World) (hr0 : Kd.C k32 w A0 l0.length l0) (hc0 : l0.length ≤ c0) (h : dormouselaw25_SimLess.f k l0 a1 a2 = some r) :
    Calls Try.prog 7 #[.slice A0 l0.length c0, .int .u8 a1, .int .i64 a2] w fun e w' => e = .returned (.bool r) ∧ Below w.heap.size w w' := by
  have HR0 := Aside0.mk hr0
  have HC0 := Aside0.mk hc0
  clear hr0 hc0
  have HB := Aside0.mk (Below.refl w.heap.size w)
  have H : ((dormouseref25_Right.f k l0).bind fun t238 => (if t238 = true then (if (l0.length : Int) = 0 then (dormouselaw25_SimLess.j0 k l0 a1 a2 true) else (dormouselaw25_SimLess.j0 k l0 a1 a2 (decide (a2 < 0)))) else (dormouselaw25_SimLess.j0 k l0 a1 a2 true))) = some r := h
  clear h
  have HC4 := Aside0.mk H
  clear H
  go_enter Try.func7, Try.ntmps7
  go_upto_region 1 with (fail)
  repeat (go_quiet (fail); go_upto_region 1 with (fail))
  go_cut [23] (fun v23 wc => ∃ (kq : Nat) (x23_3 : Bool), v23 = .bool x23_3 ∧ Aside0 (dormouselaw25_SimLess.j0 kq l0 a1 a2 x23_3 = some r) ∧ Aside0 (kq ≤ k) ∧ Aside0 (Below w.heap.size w wc))
  case first =>
    have H := HC4.out
    clear HC4
    replace H := Option.bind_eq_some_iff.mp H
    obtain ⟨t238, A50, H⟩ := H
    replace H : (if t238 = true then (if (l0.length : Int) = 0 then (dormouselaw25_SimLess.j0 k l0 a1 a2 true) else (dormouselaw25_SimLess.j0 k l0 a1 a2 (decide (a2 < 0)))) else (dormouselaw25_SimLess.j0 k l0 a1 a2 true)) = some r := H
    have A5 := Aside0.mk A50
    clear A50
    by_cases c6 : t238 = true
    · subst c6
      have H1 : (if (l0.length : Int) = 0 then (dormouselaw25_SimLess.j0 k l0 a1 a2 true) else (dormouselaw25_SimLess.j0 k l0 a1 a2 (decide (a2 < 0)))) = some r := by rw [if_pos rfl] at H; exact H
      clear H
      have H := H1
      clear H1
      by_cases c7 : (l0.length : Int) = 0
      · rw [if_pos c7] at H
        have c7b0 : ((l0.length : Int) == 0) = true := beq_iff_eq.mpr c7
        have c7b1 : ((l0.length : Int) != 0) = false := bne_eq_false_iff_eq.mpr c7
        clear c7
        (first | rw [c7b0] | (simp only [i64_w, i32_w]; rw [c7b0]) | skip)
        have H' := Aside0.mk H
        clear H
        go_wp2_with (first | (go_at_call 20; (with_reducible refine (dormouseref25_Right.calls k _ _ l0 true _ ?side1 ?side2 A5.out).mono ?_); (case side1 => repeat (first | exact (Kd.C_below HR0.out HB.out) | (with_reducible refine Kd.C_alloc ?_ _) | (with_reducible refine Kd.C_drewN ?_ _) | (with_reducible refine Kd.C_drew ?_))); (case side2 => exact HC0.out); rintro e w' ⟨rfl, ⟨nd, rfl⟩⟩; (try first | exact ⟨rfl, _, World.drewN_drewN _ _ _⟩ | exact ⟨rfl, _, Eq.trans (World.drewN_drewN _ _ _) (congrArg (World.drewN _) (Nat.add_assoc _ _ _))⟩)))
        repeat (go_quiet (first | (go_at_call 20; (with_reducible refine (dormouseref25_Right.calls k _ _ l0 true _ ?side1 ?side2 A5.out).mono ?_); (case side1 => repeat (first | exact (Kd.C_below HR0.out HB.out) | (with_reducible refine Kd.C_alloc ?_ _) | (with_reducible refine Kd.C_drewN ?_ _) | (with_reducible refine Kd.C_drew ?_))); (case side2 => exact HC0.out); rintro e w' ⟨rfl, ⟨nd, rfl⟩⟩; (try first | exact ⟨rfl, _, World.drewN_drewN _ _ _⟩ | exact ⟨rfl, _, Eq.trans (World.drewN_drewN _ _ _) (congrArg (World.drewN _) (Nat.add_assoc _ _ _))⟩))); try go_wp2_with (first | (go_at_call 20; (with_reducible refine (dormouseref25_Right.calls k _ _ l0 true _ ?side1 ?side2 A5.out).mono ?_); (case side1 => repeat (first | exact (Kd.C_below HR0.out HB.out) | (with_reducible refine Kd.C_alloc ?_ _) | (with_reducible refine Kd.C_drewN ?_ _) | (with_reducible refine Kd.C_drew ?_))); (case side2 => exact HC0.out); rintro e w' ⟨rfl, ⟨nd, rfl⟩⟩; (try first | exact ⟨rfl, _, World.drewN_drewN _ _ _⟩ | exact ⟨rfl, _, Eq.trans (World.drewN_drewN _ _ _) (congrArg (World.drewN _) (Nat.add_assoc _ _ _))⟩))))
        go_meet
        case rel => exact ⟨_, (true), (by first | rfl | (simp; done) | (simp [*]; done)), H', ⟨by first | omega | exact Nat.le_refl _⟩, ⟨by repeat (first | (with_reducible first | exact HB.out | apply below_alloc | apply pw_below_drewN | apply below_drew1) | exact HB.out)⟩⟩
      · rw [if_neg c7] at H
        have c7b0 : ((l0.length : Int) == 0) = false := beq_eq_false_iff_ne.mpr c7
        have c7b1 : ((l0.length : Int) != 0) = true := bne_iff_ne.mpr c7
        have c7b2 : ¬ (l0 = []) := fun h_ => c7 (by rw [h_]; rfl)
        (first | rw [c7b0] | (simp only [i64_w, i32_w]; rw [c7b0]) | skip)
        have H' := Aside0.mk H
        clear H
        go_wp2_with (first | (go_at_call 20; (with_reducible refine (dormouseref25_Right.calls k _ _ l0 true _ ?side1 ?side2 A5.out).mono ?_); (case side1 => repeat (first | exact (Kd.C_below HR0.out HB.out) | (with_reducible refine Kd.C_alloc ?_ _) | (with_reducible refine Kd.C_drewN ?_ _) | (with_reducible refine Kd.C_drew ?_))); (case side2 => exact HC0.out); rintro e w' ⟨rfl, ⟨nd, rfl⟩⟩; (try first | exact ⟨rfl, _, World.drewN_drewN _ _ _⟩ | exact ⟨rfl, _, Eq.trans (World.drewN_drewN _ _ _) (congrArg (World.drewN _) (Nat.add_assoc _ _ _))⟩)))
        repeat (go_quiet (first | (go_at_call 20; (with_reducible refine (dormouseref25_Right.calls k _ _ l0 true _ ?side1 ?side2 A5.out).mono ?_); (case side1 => repeat (first | exact (Kd.C_below HR0.out HB.out) | (with_reducible refine Kd.C_alloc ?_ _) | (with_reducible refine Kd.C_drewN ?_ _) | (with_reducible refine Kd.C_drew ?_))); (case side2 => exact HC0.out); rintro e w' ⟨rfl, ⟨nd, rfl⟩⟩; (try first | exact ⟨rfl, _, World.drewN_drewN _ _ _⟩ | exact ⟨rfl, _, Eq.trans (World.drewN_drewN _ _ _) (congrArg (World.drewN _) (Nat.add_assoc _ _ _))⟩))); try go_wp2_with (first | (go_at_call 20; (with_reducible refine (dormouseref25_Right.calls k _ _ l0 true _ ?side1 ?side2 A5.out).mono ?_); (case side1 => repeat (first | exact (Kd.C_below HR0.out HB.out) | (with_reducible refine Kd.C_alloc ?_ _) | (with_reducible refine Kd.C_drewN ?_ _) | (with_reducible refine Kd.C_drew ?_))); (case side2 => exact HC0.out); rintro e w' ⟨rfl, ⟨nd, rfl⟩⟩; (try first | exact ⟨rfl, _, World.drewN_drewN _ _ _⟩ | exact ⟨rfl, _, Eq.trans (World.drewN_drewN _ _ _) (congrArg (World.drewN _) (Nat.add_assoc _ _ _))⟩))))
        go_meet
        case rel => exact ⟨_, (decide (a2 < 0)), (by first | rfl | (simp; done) | (simp [*]; done)), H', ⟨by first | omega | exact Nat.le_refl _⟩, ⟨by repeat (first | (with_reducible first | exact HB.out | apply below_alloc | apply pw_below_drewN | apply below_drew1) | exact HB.out)⟩⟩
    · replace c6 := Bool.eq_false_iff.mpr c6
      subst c6
      have H1 : (dormouselaw25_SimLess.j0 k l0 a1 a2 true) = some r := by rw [if_neg (show ¬ (false = true) by decide)] at H; exact H
      clear H
      have H := H1
      clear H1
      have H' := Aside0.mk H
      clear H
      go_wp2_with (first | (go_at_call 20; (with_reducible refine (dormouseref25_Right.calls k _ _ l0 false _ ?side1 ?side2 A5.out).mono ?_); (case side1 => repeat (first | exact (Kd.C_below HR0.out HB.out) | (with_reducible refine Kd.C_alloc ?_ _) | (with_reducible refine Kd.C_drewN ?_ _) | (with_reducible refine Kd.C_drew ?_))); (case side2 => exact HC0.out); rintro e w' ⟨rfl, ⟨nd, rfl⟩⟩; (try first | exact ⟨rfl, _, World.drewN_drewN _ _ _⟩ | exact ⟨rfl, _, Eq.trans (World.drewN_drewN _ _ _) (congrArg (World.drewN _) (Nat.add_assoc _ _ _))⟩)))
      repeat (go_quiet (first | (go_at_call 20; (with_reducible refine (dormouseref25_Right.calls k _ _ l0 false _ ?side1 ?side2 A5.out).mono ?_); (case side1 => repeat (first | exact (Kd.C_below HR0.out HB.out) | (with_reducible refine Kd.C_alloc ?_ _) | (with_reducible refine Kd.C_drewN ?_ _) | (with_reducible refine Kd.C_drew ?_))); (case side2 => exact HC0.out); rintro e w' ⟨rfl, ⟨nd, rfl⟩⟩; (try first | exact ⟨rfl, _, World.drewN_drewN _ _ _⟩ | exact ⟨rfl, _, Eq.trans (World.drewN_drewN _ _ _) (congrArg (World.drewN _) (Nat.add_assoc _ _ _))⟩))); try go_wp2_with (first | (go_at_call 20; (with_reducible refine (dormouseref25_Right.calls k _ _ l0 false _ ?side1 ?side2 A5.out).mono ?_); (case side1 => repeat (first | exact (Kd.C_below HR0.out HB.out) | (with_reducible refine Kd.C_alloc ?_ _) | (with_reducible refine Kd.C_drewN ?_ _) | (with_reducible refine Kd.C_drew ?_))); (case side2 => exact HC0.out); rintro e w' ⟨rfl, ⟨nd, rfl⟩⟩; (try first | exact ⟨rfl, _, World.drewN_drewN _ _ _⟩ | exact ⟨rfl, _, Eq.trans (World.drewN_drewN _ _ _) (congrArg (World.drewN _) (Nat.add_assoc _ _ _))⟩))))
      go_meet
      case rel => exact ⟨_, (true), (by first | rfl | (simp; done) | (simp [*]; done)), H', ⟨by first | omega | exact Nat.le_refl _⟩, ⟨by repeat (first | (with_reducible first | exact HB.out | apply below_alloc | apply pw_below_drewN | apply below_drew1) | exact HB.out)⟩⟩
  case rest =>
    clear HC4
    try clear p2
    try clear c6
    try clear c7
    try clear c7b0
    try clear c7b1
    try clear c7b2
    obtain ⟨kq, x23_3, rfl, HA, HJ3, HB⟩ := hcut
    cases kq with
    | zero => exact absurd HA.out (by simp [dormouselaw25_SimLess.j0])
    | succ kj3 =>
      have H := HA.out
      clear HA
      simp only [dormouselaw25_SimLess.j0] at H
      by_cases c8 : x23_3 = true
      · subst c8
        have H1 : ((dormouselaw25_answers.f kj3).bind fun t239 => (some t239)) = some r := by rw [if_pos rfl] at H; exact H
        clear H
        have H := H1
        clear H1
        replace H := Option.bind_eq_some_iff.mp H
        obtain ⟨t239, A90, H⟩ := H
        replace H : (some t239) = some r := H
        have A9 := Aside0.mk A90
        clear A90
        obtain rfl := Option.some.inj H
        go_wp2_with (first | (go_at_call 10; (with_reducible refine (dormouselaw25_answers.calls kj3  t239 _ A9.out).mono ?_); rintro e w10 ⟨rfl, hb⟩; have n0_ := Aside0.mk (below_step (by repeat (first | (with_reducible first | exact HB.out | apply below_alloc | apply pw_below_drewN | apply below_drew1) | exact HB.out)) hb); clear HB; have HB := n0_; clear n0_; (try clear hb); (try clear hb2); (try clear hk); (try clear hi)))
        repeat (go_quiet (first | (go_at_call 10; (with_reducible refine (dormouselaw25_answers.calls kj3  t239 _ A9.out).mono ?_); rintro e w10 ⟨rfl, hb⟩; have n0_ := Aside0.mk (below_step (by repeat (first | (with_reducible first | exact HB.out | apply below_alloc | apply pw_below_drewN | apply below_drew1) | exact HB.out)) hb); clear HB; have HB := n0_; clear n0_; (try clear hb); (try clear hb2); (try clear hk); (try clear hi))); try go_wp2_with (first | (go_at_call 10; (with_reducible refine (dormouselaw25_answers.calls kj3  t239 _ A9.out).mono ?_); rintro e w10 ⟨rfl, hb⟩; have n0_ := Aside0.mk (below_step (by repeat (first | (with_reducible first | exact HB.out | apply below_alloc | apply pw_below_drewN | apply below_drew1) | exact HB.out)) hb); clear HB; have HB := n0_; clear n0_; (try clear hb); (try clear hb2); (try clear hk); (try clear hi))))
        go_ret
        exact ⟨by first | rfl | (simp [errW_none, errW_some] <;> rfl) | (simp [*, errW_none, errW_some] <;> rfl), by repeat (first | (with_reducible first | exact HB.out | apply below_alloc | apply pw_below_drewN | apply below_drew1) | exact HB.out)⟩
      · replace c8 := Bool.eq_false_iff.mpr c8
        subst c8
        have H1 : (if (l0.length : Int) = 0 then (none) else ((some (([] : List (S32)) : List (S32))).bind fun y240 => (if y240.length + l0.length < 5864062014805 then ((some (y240 ++ l0 : List (S32))).bind fun y243 => (if 0 ≤ (Int.tmod (wrap64 (a1)) (l0.length : Int)) then (if (Int.tmod (wrap64 (a1)) (l0.length : Int)) < (l0.length : Int) then (if (Int.tmod (wrap64 (a1)) (l0.length : Int)) < (y243.length : Int) then ((sim_Run.f kj3 l0).bind fun t248 => ((sim_Run.f kj3 (y243.set ((Int.tmod (wrap64 (a1)) (l0.length : Int)) : Int).toNat (⟨(rd_T32 y243 (Int.tmod (wrap64 (a1)) (l0.length : Int))).f0, (rd_T32 y243 (Int.tmod (wrap64 (a1)) (l0.length : Int))).f1, mx (wrap64 (((rd_T32 l0 (Int.tmod (wrap64 (a1)) (l0.length : Int))).f2) - a2)) 0⟩ : S32))).bind fun t251 => (if (t248.length : Int) = (l0.length : Int) then (dormouselaw25_SimLess.j1 kj3 l0 t248 t251 ((t251.length : Int) != (l0.length : Int))) else (dormouselaw25_SimLess.j1 kj3 l0 t248 t251 true)))) else (none)) else (none)) else (none))) else (none)))) = some r := by rw [if_neg (show ¬ (false = true) by decide)] at H; exact H
        clear H
        have H := H1
        clear H1
        by_cases c11 : (l0.length : Int) = 0
        · rw [if_pos c11] at H
          exact absurd H (by simp)
        · rw [if_neg c11] at H
          have c11b0 : ((l0.length : Int) == 0) = false := beq_eq_false_iff_ne.mpr c11
          have c11b1 : ((l0.length : Int) != 0) = true := bne_iff_ne.mpr c11
          have c11b2 : ¬ (l0 = []) := fun h_ => c11 (by rw [h_]; rfl)
          obtain ⟨y240, hy240⟩ : ∃ y_ : List (S32), y_ = (([] : List (S32))) := ⟨_, rfl⟩
          replace H : (if y240.length + l0.length < 5864062014805 then ((some (y240 ++ l0 : List (S32))).bind fun y243 => (if 0 ≤ (Int.tmod (wrap64 (a1)) (l0.length : Int)) then (if (Int.tmod (wrap64 (a1)) (l0.length : Int)) < (l0.length : Int) then (if (Int.tmod (wrap64 (a1)) (l0.length : Int)) < (y243.length : Int) then ((sim_Run.f kj3 l0).bind fun t248 => ((sim_Run.f kj3 (y243.set ((Int.tmod (wrap64 (a1)) (l0.length : Int)) : Int).toNat (⟨(rd_T32 y243 (Int.tmod (wrap64 (a1)) (l0.length : Int))).f0, (rd_T32 y243 (Int.tmod (wrap64 (a1)) (l0.length : Int))).f1, mx (wrap64 (((rd_T32 l0 (Int.tmod (wrap64 (a1)) (l0.length : Int))).f2) - a2)) 0⟩ : S32))).bind fun t251 => (if (t248.length : Int) = (l0.length : Int) then (dormouselaw25_SimLess.j1 kj3 l0 t248 t251 ((t251.length : Int) != (l0.length : Int))) else (dormouselaw25_SimLess.j1 kj3 l0 t248 t251 true)))) else (none)) else (none)) else (none))) else (none)) = some r := by first | (rw [hy240]; with_reducible exact H) | (have H2_ := (Option.bind_some _ _).symm.trans H; rw [hy240]; with_reducible exact H2_) | (have H2_ := (Option.bind_some _ _).symm.trans H; with_reducible exact H2_) | with_reducible exact H | (rw [hy240]; exact H) | exact H
          have Ny240 := Aside0.mk hy240
          clear hy240
          by_cases c12 : y240.length + l0.length < 5864062014805
          · rw [if_pos c12] at H
            have LMc12 := Aside0.mk c12
            clear c12
            obtain ⟨y243, hy243⟩ : ∃ y_ : List (S32), y_ = (y240 ++ l0) := ⟨_, rfl⟩
            replace H : (if 0 ≤ (Int.tmod (wrap64 (a1)) (l0.length : Int)) then (if (Int.tmod (wrap64 (a1)) (l0.length : Int)) < (l0.length : Int) then (if (Int.tmod (wrap64 (a1)) (l0.length : Int)) < (y243.length : Int) then ((sim_Run.f kj3 l0).bind fun t248 => ((sim_Run.f kj3 (y243.set ((Int.tmod (wrap64 (a1)) (l0.length : Int)) : Int).toNat (⟨(rd_T32 y243 (Int.tmod (wrap64 (a1)) (l0.length : Int))).f0, (rd_T32 y243 (Int.tmod (wrap64 (a1)) (l0.length : Int))).f1, mx (wrap64 (((rd_T32 l0 (Int.tmod (wrap64 (a1)) (l0.length : Int))).f2) - a2)) 0⟩ : S32))).bind fun t251 => (if (t248.length : Int) = (l0.length : Int) then (dormouselaw25_SimLess.j1 kj3 l0 t248 t251 ((t251.length : Int) != (l0.length : Int))) else (dormouselaw25_SimLess.j1 kj3 l0 t248 t251 true)))) else (none)) else (none)) else (none)) = some r := by first | (rw [hy243]; with_reducible exact H) | (have H2_ := (Option.bind_some _ _).symm.trans H; rw [hy243]; with_reducible exact H2_) | (have H2_ := (Option.bind_some _ _).symm.trans H; with_reducible exact H2_) | with_reducible exact H | (rw [hy243]; exact H) | exact H
            have Ny243 := Aside0.mk hy243
            clear hy243
            obtain ⟨ji13, hji13⟩ : ∃ j_ : Int, (Int.tmod (wrap64 (a1)) (l0.length : Int)) = j_ := ⟨_, rfl⟩
            replace H : (if 0 ≤ (ji13) then (if (ji13) < (l0.length : Int) then (if (ji13) < (y243.length : Int) then ((sim_Run.f kj3 l0).bind fun t248 => ((sim_Run.f kj3 (y243.set ((ji13) : Int).toNat (⟨(rd_T32 y243 (ji13)).f0, (rd_T32 y243 (ji13)).f1, mx (wrap64 (((rd_T32 l0 (ji13)).f2) - a2)) 0⟩ : S32))).bind fun t251 => (if (t248.length : Int) = (l0.length : Int) then (dormouselaw25_SimLess.j1 kj3 l0 t248 t251 ((t251.length : Int) != (l0.length : Int))) else (dormouselaw25_SimLess.j1 kj3 l0 t248 t251 true)))) else (none)) else (none)) else (none)) = some r := by first | (rw [hji13] at H; exact H) | (simp only [hji13] at H ⊢; exact H)
            by_cases c14 : 0 ≤ (ji13)
            · rw [if_pos c14] at H
              have c14b0 : decide (0 ≤ (ji13)) = true := decide_eq_true c14
              clear c14
              by_cases c15 : (ji13) < (l0.length : Int)
              · rw [if_pos c15] at H
                have c15b0 : decide ((ji13) < (l0.length : Int)) = true := decide_eq_true c15
                clear c15
                obtain ⟨ji16, hji16⟩ : ∃ j_ : Int, (mx (wrap64 (((rd_T32 l0 (ji13)).f2) - a2)) 0) = j_ := ⟨_, rfl⟩
                replace H : (if (ji13) < (y243.length : Int) then ((sim_Run.f kj3 l0).bind fun t248 => ((sim_Run.f kj3 (y243.set ((ji13) : Int).toNat (⟨(rd_T32 y243 (ji13)).f0, (rd_T32 y243 (ji13)).f1, ji16⟩ : S32))).bind fun t251 => (if (t248.length : Int) = (l0.length : Int) then (dormouselaw25_SimLess.j1 kj3 l0 t248 t251 ((t251.length : Int) != (l0.length : Int))) else (dormouselaw25_SimLess.j1 kj3 l0 t248 t251 true)))) else (none)) = some r := by first | (rw [hji16] at H; exact H) | (simp only [hji16] at H ⊢; exact H)
                have hji16_ : (if (wrap64 (((rd_T32 l0 (ji13)).f2) - a2)) < 0 then 0 else (wrap64 (((rd_T32 l0 (ji13)).f2) - a2))) = ji16 := hji16
                by_cases c17 : (ji13) < (y243.length : Int)
                · rw [if_pos c17] at H
                  have c17b0 : decide ((ji13) < (y243.length : Int)) = true := decide_eq_true c17
                  clear c17
                  obtain ⟨y247, hy247⟩ : ∃ y_ : List (S32), y_ = (y243.set ((ji13) : Int).toNat (⟨(rd_T32 y243 (ji13)).f0, (rd_T32 y243 (ji13)).f1, ji16⟩ : S32)) := ⟨_, rfl⟩
                  replace H : ((sim_Run.f kj3 l0).bind fun t248 => ((sim_Run.f kj3 y247).bind fun t251 => (if (t248.length : Int) = (l0.length : Int) then (dormouselaw25_SimLess.j1 kj3 l0 t248 t251 ((t251.length : Int) != (l0.length : Int))) else (dormouselaw25_SimLess.j1 kj3 l0 t248 t251 true)))) = some r := by first | (rw [hy247]; with_reducible exact H) | (have H2_ := (Option.bind_some _ _).symm.trans H; rw [hy247]; with_reducible exact H2_) | (have H2_ := (Option.bind_some _ _).symm.trans H; with_reducible exact H2_) | with_reducible exact H | (rw [hy247]; exact H) | exact H
                  have Ny247 := Aside0.mk hy247
                  clear hy247
                  replace H := Option.bind_eq_some_iff.mp H
                  obtain ⟨t248, A190, H⟩ := H
                  replace H : ((sim_Run.f kj3 y247).bind fun t251 => (if (t248.length : Int) = (l0.length : Int) then (dormouselaw25_SimLess.j1 kj3 l0 t248 t251 ((t251.length : Int) != (l0.length : Int))) else (dormouselaw25_SimLess.j1 kj3 l0 t248 t251 true))) = some r := H
                  have A19 := Aside0.mk A190
                  clear A190
                  replace H := Option.bind_eq_some_iff.mp H
                  obtain ⟨t251, A200, H⟩ := H
                  replace H : (if (t248.length : Int) = (l0.length : Int) then (dormouselaw25_SimLess.j1 kj3 l0 t248 t251 ((t251.length : Int) != (l0.length : Int))) else (dormouselaw25_SimLess.j1 kj3 l0 t248 t251 true)) = some r := H
                  have A20 := Aside0.mk A200
                  clear A200
                  have HC21 := Aside0.mk H
                  clear H
                  go_upto_region 7 with (first | ((with_reducible refine gate_dst (N := 30) rfl ?_); (try (refine gate_guard (by rfl) ?_; dsimp only)); refine Kd.R_lit k32 _ 32 ?hg (N := 30) ?hd (xs := ([] : List (S32))) (inner := []) (ok := fun _ => True) (okp := fun _ => True) ?hr ?hp (fun _ hk => hk) trivial (Below.refl _ _) (Nat.le_refl _) (by simp) ?_; (case hd => rfl); (case hg => rfl); (case hr => first | (go_simp; done) | (go_simp; rfl)); (case hp => exact (Reps.none _ _)); intro v241 w22 ho23 hb hg_ hnew_; clear hg_ hnew_; (first | rw [← Ny240.out] at ho23 | (simp only [Int.reduceToNat] at ho23; rw [← Ny240.out] at ho23)); have n0_ := Aside0.mk (Kd.R_lower ho23 (below_size (by repeat (first | (with_reducible first | exact HB.out | apply below_alloc | apply pw_below_drewN | apply below_drew1) | exact HB.out)))); have n1_ := Aside0.mk (below_step (by repeat (first | (with_reducible first | exact HB.out | apply below_alloc | apply pw_below_drewN | apply below_drew1) | exact HB.out)) hb); clear HB; have HO242 := n0_; have HB := n1_; clear n0_ n1_; clear hb ho23) | ((with_reducible refine gate_builtin (b := .append) (xs := #[.tmp 30, .tmp 31]) rfl ?_); (try (refine gate_guard (by rfl) ?_; dsimp only)); at_builtin; refine Kd.R_append_rows k32 (w0 := w) w.heap.size rfl (.tmp 30) (.tmp 31) 22 32 (.agg #[(.int .i64 0), (.int .i64 0), (.int .i64 0)]) 24 rfl Try.underlying22 info32 rfl (by decide) (by omega) v241 y240 l0 _ _ _ (fun _ => True) (fun _ => False) rfl rfl ?aO ?aR (fun _ _ h => h) (fun _ h => h.elim) ?aF ?aB ?aS ?aL ?_; (case aR => repeat (first | exact (Kd.C_below HR0.out HB.out) | (with_reducible refine Kd.C_alloc ?_ _) | (with_reducible refine Kd.C_drewN ?_ _) | (with_reducible refine Kd.C_drew ?_))); (case aB => exact (by repeat (first | (with_reducible first | exact HB.out | apply below_alloc | apply pw_below_drewN | apply below_drew1) | exact HB.out))); (case aF => exact (fun _ _ => trivial)); (case aO => exact (by (with_reducible repeat (first | apply Kd.R_alloc | apply Kd.R_drewN | apply Kd.R_drew)); exact HO242.out)); (case aS => exact (below_size (by repeat (first | (with_reducible first | exact HB.out | apply below_alloc | apply pw_below_drewN | apply below_drew1) | exact HB.out)))); (case aL => have := LMc12.out; omega); intro v244 w24 ho hb hg hat; rw [← Ny243.out] at ho; have n0_ := Aside0.mk (hb); have n1_ := Aside0.mk (ho); clear HB; clear HO242; have HB := n0_; have HO245 := n1_; clear n0_ n1_; clear ho hb hg hat; have p246 : 0 ≤ ((ji13) : Int) := of_decide_eq_true (by first | (with_reducible assumption) | assumption); have q246 : (ji13) < (l0.length : Int) := of_decide_eq_true (by first | (with_reducible assumption) | assumption); obtain ⟨ad246, e246, hx246_0, hx246_1, hx246_2⟩ := at_T32 HR0.out (ji13) p246 q246; cases e246; replace hx246_0 := (HB.out.cell (World.block_lt_of_cell? w _ hx246_0)).trans hx246_0; replace hx246_1 := (HB.out.cell (World.block_lt_of_cell? w _ hx246_1)).trans hx246_1; replace hx246_2 := (HB.out.cell (World.block_lt_of_cell? w _ hx246_2)).trans hx246_2; replace p246 := eq_true p246; replace q246 := eq_true q246; have p18 : 0 ≤ ((ji13) : Int) := of_decide_eq_true (by first | (with_reducible assumption) | assumption); have q18 : ((ji13) : Int) < ((y243.length : Int) : Int) := of_decide_eq_true (by first | (with_reducible assumption) | assumption); obtain ⟨go18, co18, eo18, gb18, gl18, cl18, HG18⟩ := Kd.R_form HO245.out (by omega); (first | cases eo18 | (injection eo18 with ea_ en_ ec_; (first | subst ea_ | (injection ea_ with ea_; subst ea_)); subst ec_; clear en_)); have GB18 := Aside0.mk gb18; have GG18 := Aside0.mk HG18; clear gb18 gl18 HG18; obtain ⟨ce18, hcl18, hM18, hcc18, hfr18⟩ := Kd.R_elem HO245.out z32 ((ji13) : Int) p18 q18; obtain rfl := k32_openM hM18; have hx18_0 : w24.cell? ⟨go18, ((ji13) : Int).toNat * 3, none⟩ = some (.int .i64 ((rd_T32 y243 (ji13)).f0)) := hcc18 0 _ rfl; have hx18_1 : w24.cell? ⟨go18, ((ji13) : Int).toNat * 3 + 1, none⟩ = some (.int .i64 ((rd_T32 y243 (ji13)).f1)) := hcc18 1 _ rfl; have hx18_2 : w24.cell? ⟨go18, ((ji13) : Int).toNat * 3 + 2, none⟩ = some (.int .i64 ((rd_T32 y243 (ji13)).f2)) := hcc18 2 _ rfl; have hf18_0 : w24.frozen? ⟨go18, ((ji13) : Int).toNat * 3, none⟩ = false := hfr18 0; have hf18_1 : w24.frozen? ⟨go18, ((ji13) : Int).toNat * 3 + 1, none⟩ = false := hfr18 1; have hf18_2 : w24.frozen? ⟨go18, ((ji13) : Int).toNat * 3 + 2, none⟩ = false := hfr18 2; clear hcl18 hcc18 hfr18 hM18; replace p18 := eq_true p18; replace q18 := eq_true q18; have HX25 := Aside0.mk (show Kd.R k32 32 w24 w.heap.size (fun _ => True) (.slice (some ⟨go18, 0, none⟩) y243.length co18) y243 from (by (with_reducible repeat (first | apply Kd.R_alloc | apply Kd.R_drewN | apply Kd.R_drew)); exact HO245.out)); obtain ⟨ce25, hcl25, hM25, hcc25, hfr25⟩ := Kd.R_elem HX25.out z32 ((ji13) : Int) (of_decide_eq_true (by first | (with_reducible assumption) | assumption)) (by have h_ : ((ji13) : Int) < ((y243.length : Int) : Int) := of_decide_eq_true (by first | (with_reducible assumption) | assumption); first | exact h_ | (have e_ := (Kd.R_reads' HO245.out).1; omega) | simpa using h_); obtain rfl := k32_openM hM25; have HP25 := Kd.R_seg HX25.out ((ji13) : Int) (of_decide_eq_true (by first | (with_reducible assumption) | assumption)) (by have h_ : ((ji13) : Int) < ((y243.length : Int) : Int) := of_decide_eq_true (by first | (with_reducible assumption) | assumption); first | exact h_ | (have e_ := (Kd.R_reads' HO245.out).1; omega) | simpa using h_) (seg := [.int .i64 ji16]) (j := 2) hcl25 hcc25 (show 3 ≤ 3 from by decide) (x' := (⟨(rd_T32 y243 (ji13)).f0, (rd_T32 y243 (ji13)).f1, ji16⟩ : S32)) (k32_mkM _ _ _ (⟨(rd_T32 y243 (ji13)).f0, (rd_T32 y243 (ji13)).f1, ji16⟩ : S32) ) (fun _ hk => hk); have hx25_2 := hcc25 2 _ rfl; (try simp only [show (k32).sz = 3 from rfl, Nat.mul_one, Nat.add_zero] at hx25_2); have hf25_2 := hfr25 2; (try simp only [show (k32).sz = 3 from rfl, Nat.mul_one, Nat.add_zero] at hf25_2); clear hcl25 hcc25 hfr25 hM25) | ((with_reducible refine gate_store (t := 3) (p := 44) rfl ?_); (try (rw [drewN_self w24]; generalize hq_ : World.drewN w24 _ = w24; have n0_ := Aside0.mk (Kd.R_at hq_ HO245.out); have n1_ := Aside0.mk (below_at hq_ HB.out); clear hq_ HO245 HB; have HO245 := n0_; have HB := n1_; clear n0_ n1_; (try (have HX25 := Aside0.mk (show Kd.R k32 32 w24 w.heap.size (fun _ => True) (.slice (some ⟨go18, 0, none⟩) y243.length co18) y243 from (by (with_reducible repeat (first | apply Kd.R_alloc | apply Kd.R_drewN | apply Kd.R_drew)); exact HO245.out)))); (try (obtain ⟨ce25, hcl25, hM25, hcc25, hfr25⟩ := Kd.R_elem HX25.out z32 ((ji13) : Int) (of_decide_eq_true (by first | (with_reducible assumption) | assumption)) (by have h_ : ((ji13) : Int) < ((y243.length : Int) : Int) := of_decide_eq_true (by first | (with_reducible assumption) | assumption); first | exact h_ | (have e_ := (Kd.R_reads' HO245.out).1; omega) | simpa using h_))); (try (obtain rfl := k32_openM hM25)); (try (have HP25 := Kd.R_seg HX25.out ((ji13) : Int) (of_decide_eq_true (by first | (with_reducible assumption) | assumption)) (by have h_ : ((ji13) : Int) < ((y243.length : Int) : Int) := of_decide_eq_true (by first | (with_reducible assumption) | assumption); first | exact h_ | (have e_ := (Kd.R_reads' HO245.out).1; omega) | simpa using h_) (seg := [.int .i64 ji16]) (j := 2) hcl25 hcc25 (show 3 ≤ 3 from by decide) (x' := (⟨(rd_T32 y243 (ji13)).f0, (rd_T32 y243 (ji13)).f1, ji16⟩ : S32)) (k32_mkM _ _ _ (⟨(rd_T32 y243 (ji13)).f0, (rd_T32 y243 (ji13)).f1, ji16⟩ : S32) ) (fun _ hk => hk))); (try (have hx25_2 := hcc25 2 _ rfl)); (try (try simp only [show (k32).sz = 3 from rfl, Nat.mul_one, Nat.add_zero] at hx25_2)); (try (have hf25_2 := hfr25 2)); (try (try simp only [show (k32).sz = 3 from rfl, Nat.mul_one, Nat.add_zero] at hf25_2)); (try (clear hcl25 hcc25 hfr25 hM25)))); refine store_event (t := 3) (p := 44) (v := ?vo_w26) (w1 := (w24.setCell ⟨go18, ((ji13) : Int).toNat * 3 + 2, none⟩ (.int .i64 ji16))) ?hg ?ho ?hn ?hr ?_; (case ho => rfl); (case hg => rfl); (case hn => rfl); (case hr => first | (go_simp; done) | (go_simp; rfl)); intro w26 hw; have hg : w24.grownBy w26 (some go18) := (by rw [hw]; exact HP25.2); have hp_ : Kd.R k32 32 w26 w.heap.size (fun _ => True) (.slice (some ⟨go18, 0, none⟩) y243.length co18) y247 := (by rw [hw, Ny247.out]; exact HP25.1); clear HP25; have n0_ := Aside0.mk (hp_); have n1_ := Aside0.mk ((by rw [hw]; exact below_set (HB.out) GB18.out : Below w.heap.size w w26)); clear HO245; clear HB; have HO245 := n0_; have HB := n1_; clear n0_ n1_; clear hg hw hp_) | (go_at_call 12; (with_reducible refine (sim_Run.calls kj3 _ _ l0 t248 _ ?side1 ?side2 A19.out).mono ?_); (case side1 => repeat (first | exact (Kd.C_below HR0.out HB.out) | (with_reducible refine Kd.C_alloc ?_ _) | (with_reducible refine Kd.C_drewN ?_ _) | (with_reducible refine Kd.C_drew ?_))); (case side2 => exact HC0.out); rintro e w27 ⟨v249, rfl, ho0, hb⟩; have n0_ := Aside0.mk (Kd.R_below (by (with_reducible repeat (first | apply Kd.R_alloc | apply Kd.R_drewN | apply Kd.R_drew)); exact HO245.out) hb); have n1_ := Aside0.mk (Kd.R_lower ho0 (below_size (by repeat (first | (with_reducible first | exact HB.out | apply below_alloc | apply pw_below_drewN | apply below_drew1) | exact HB.out)))); have n2_ := Aside0.mk (below_step (by repeat (first | (with_reducible first | exact HB.out | apply below_alloc | apply pw_below_drewN | apply below_drew1) | exact HB.out)) hb); clear HO245; clear HB; have HO245 := n0_; have HO250 := n1_; have HB := n2_; clear n0_ n1_ n2_; (try clear hb); (try clear hb2); (try clear hk); (try clear hi); (try clear ho0)) | (go_at_call 12; refine calls_of_args (args' := #[.slice (some ⟨go18, 0, none⟩) y247.length co18]) (by first | (rw [show y247.length = y243.length from (Kd.R_reads' HO245.out).1.symm] <;> rfl) | rfl) ?_; (with_reducible refine (sim_Run.calls kj3 _ _ y247 t251 _ ?side1 ?side2 A20.out).mono ?_); (case side1 => repeat (first | exact (Kd.R_reads' HO245.out).2.2 | (with_reducible refine Kd.C_alloc ?_ _) | (with_reducible refine Kd.C_drewN ?_ _) | (with_reducible refine Kd.C_drew ?_))); (case side2 => rw [show y247.length = y243.length from (Kd.R_reads' HO245.out).1.symm]; exact (Kd.R_reads' HO245.out).2.1); rintro e w28 ⟨v252, rfl, ho0, hb⟩; have n0_ := Aside0.mk (Kd.R_below (by (with_reducible repeat (first | apply Kd.R_alloc | apply Kd.R_drewN | apply Kd.R_drew)); exact HO245.out) hb); have n1_ := Aside0.mk (Kd.R_elder' (by (with_reducible repeat (first | apply Kd.R_alloc | apply Kd.R_drewN | apply Kd.R_drew)); exact HO250.out) (Kd.R_base ho0) hb); have n2_ := Aside0.mk (Kd.R_lower (Kd.R_new' ho0 (Kd.R_lt (by (with_reducible repeat (first | apply Kd.R_alloc | apply Kd.R_drewN | apply Kd.R_drew)); exact HO250.out))) (below_size (by repeat (first | (with_reducible first | exact HB.out | apply below_alloc | apply pw_below_drewN | apply below_drew1) | exact HB.out)))); have n3_ := Aside0.mk (below_step (by repeat (first | (with_reducible first | exact HB.out | apply below_alloc | apply pw_below_drewN | apply below_drew1) | exact HB.out)) hb); clear HO245; clear HO250; clear HB; have HO245 := n0_; have HO250 := n1_; have HO253 := n2_; have HB := n3_; clear n0_ n1_ n2_ n3_; (try clear hb); (try clear hb2); (try clear hk); (try clear hi); (try clear ho0)))
                  repeat (go_quiet (first | ((with_reducible refine gate_dst (N := 30) rfl ?_); (try (refine gate_guard (by rfl) ?_; dsimp only)); refine Kd.R_lit k32 _ 32 ?hg (N := 30) ?hd (xs := ([] : List (S32))) (inner := []) (ok := fun _ => True) (okp := fun _ => True) ?hr ?hp (fun _ hk => hk) trivial (Below.refl _ _) (Nat.le_refl _) (by simp) ?_; (case hd => rfl); (case hg => rfl); (case hr => first | (go_simp; done) | (go_simp; rfl)); (case hp => exact (Reps.none _ _)); intro v241 w22 ho23 hb hg_ hnew_; clear hg_ hnew_; (first | rw [← Ny240.out] at ho23 | (simp only [Int.reduceToNat] at ho23; rw [← Ny240.out] at ho23)); have n0_ := Aside0.mk (Kd.R_lower ho23 (below_size (by repeat (first | (with_reducible first | exact HB.out | apply below_alloc | apply pw_below_drewN | apply below_drew1) | exact HB.out)))); have n1_ := Aside0.mk (below_step (by repeat (first | (with_reducible first | exact HB.out | apply below_alloc | apply pw_below_drewN | apply below_drew1) | exact HB.out)) hb); clear HB; have HO242 := n0_; have HB := n1_; clear n0_ n1_; clear hb ho23) | ((with_reducible refine gate_builtin (b := .append) (xs := #[.tmp 30, .tmp 31]) rfl ?_); (try (refine gate_guard (by rfl) ?_; dsimp only)); at_builtin; refine Kd.R_append_rows k32 (w0 := w) w.heap.size rfl (.tmp 30) (.tmp 31) 22 32 (.agg #[(.int .i64 0), (.int .i64 0), (.int .i64 0)]) 24 rfl Try.underlying22 info32 rfl (by decide) (by omega) v241 y240 l0 _ _ _ (fun _ => True) (fun _ => False) rfl rfl ?aO ?aR (fun _ _ h => h) (fun _ h => h.elim) ?aF ?aB ?aS ?aL ?_; (case aR => repeat (first | exact (Kd.C_below HR0.out HB.out) | (with_reducible refine Kd.C_alloc ?_ _) | (with_reducible refine Kd.C_drewN ?_ _) | (with_reducible refine Kd.C_drew ?_))); (case aB => exact (by repeat (first | (with_reducible first | exact HB.out | apply below_alloc | apply pw_below_drewN | apply below_drew1) | exact HB.out))); (case aF => exact (fun _ _ => trivial)); (case aO => exact (by (with_reducible repeat (first | apply Kd.R_alloc | apply Kd.R_drewN | apply Kd.R_drew)); exact HO242.out)); (case aS => exact (below_size (by repeat (first | (with_reducible first | exact HB.out | apply below_alloc | apply pw_below_drewN | apply below_drew1) | exact HB.out)))); (case aL => have := LMc12.out; omega); intro v244 w24 ho hb hg hat; rw [← Ny243.out] at ho; have n0_ := Aside0.mk (hb); have n1_ := Aside0.mk (ho); clear HB; clear HO242; have HB := n0_; have HO245 := n1_; clear n0_ n1_; clear ho hb hg hat; have p246 : 0 ≤ ((ji13) : Int) := of_decide_eq_true (by first | (with_reducible assumption) | assumption); have q246 : (ji13) < (l0.length : Int) := of_decide_eq_true (by first | (with_reducible assumption) | assumption); obtain ⟨ad246, e246, hx246_0, hx246_1, hx246_2⟩ := at_T32 HR0.out (ji13) p246 q246; cases e246; replace hx246_0 := (HB.out.cell (World.block_lt_of_cell? w _ hx246_0)).trans hx246_0; replace hx246_1 := (HB.out.cell (World.block_lt_of_cell? w _ hx246_1)).trans hx246_1; replace hx246_2 := (HB.out.cell (World.block_lt_of_cell? w _ hx246_2)).trans hx246_2; replace p246 := eq_true p246; replace q246 := eq_true q246; have p18 : 0 ≤ ((ji13) : Int) := of_decide_eq_true (by first | (with_reducible assumption) | assumption); have q18 : ((ji13) : Int) < ((y243.length : Int) : Int) := of_decide_eq_true (by first | (with_reducible assumption) | assumption); obtain ⟨go18, co18, eo18, gb18, gl18, cl18, HG18⟩ := Kd.R_form HO245.out (by omega); (first | cases eo18 | (injection eo18 with ea_ en_ ec_; (first | subst ea_ | (injection ea_ with ea_; subst ea_)); subst ec_; clear en_)); have GB18 := Aside0.mk gb18; have GG18 := Aside0.mk HG18; clear gb18 gl18 HG18; obtain ⟨ce18, hcl18, hM18, hcc18, hfr18⟩ := Kd.R_elem HO245.out z32 ((ji13) : Int) p18 q18; obtain rfl := k32_openM hM18; have hx18_0 : w24.cell? ⟨go18, ((ji13) : Int).toNat * 3, none⟩ = some (.int .i64 ((rd_T32 y243 (ji13)).f0)) := hcc18 0 _ rfl; have hx18_1 : w24.cell? ⟨go18, ((ji13) : Int).toNat * 3 + 1, none⟩ = some (.int .i64 ((rd_T32 y243 (ji13)).f1)) := hcc18 1 _ rfl; have hx18_2 : w24.cell? ⟨go18, ((ji13) : Int).toNat * 3 + 2, none⟩ = some (.int .i64 ((rd_T32 y243 (ji13)).f2)) := hcc18 2 _ rfl; have hf18_0 : w24.frozen? ⟨go18, ((ji13) : Int).toNat * 3, none⟩ = false := hfr18 0; have hf18_1 : w24.frozen? ⟨go18, ((ji13) : Int).toNat * 3 + 1, none⟩ = false := hfr18 1; have hf18_2 : w24.frozen? ⟨go18, ((ji13) : Int).toNat * 3 + 2, none⟩ = false := hfr18 2; clear hcl18 hcc18 hfr18 hM18; replace p18 := eq_true p18; replace q18 := eq_true q18; have HX25 := Aside0.mk (show Kd.R k32 32 w24 w.heap.size (fun _ => True) (.slice (some ⟨go18, 0, none⟩) y243.length co18) y243 from (by (with_reducible repeat (first | apply Kd.R_alloc | apply Kd.R_drewN | apply Kd.R_drew)); exact HO245.out)); obtain ⟨ce25, hcl25, hM25, hcc25, hfr25⟩ := Kd.R_elem HX25.out z32 ((ji13) : Int) (of_decide_eq_true (by first | (with_reducible assumption) | assumption)) (by have h_ : ((ji13) : Int) < ((y243.length : Int) : Int) := of_decide_eq_true (by first | (with_reducible assumption) | assumption); first | exact h_ | (have e_ := (Kd.R_reads' HO245.out).1; omega) | simpa using h_); obtain rfl := k32_openM hM25; have HP25 := Kd.R_seg HX25.out ((ji13) : Int) (of_decide_eq_true (by first | (with_reducible assumption) | assumption)) (by have h_ : ((ji13) : Int) < ((y243.length : Int) : Int) := of_decide_eq_true (by first | (with_reducible assumption) | assumption); first | exact h_ | (have e_ := (Kd.R_reads' HO245.out).1; omega) | simpa using h_) (seg := [.int .i64 ji16]) (j := 2) hcl25 hcc25 (show 3 ≤ 3 from by decide) (x' := (⟨(rd_T32 y243 (ji13)).f0, (rd_T32 y243 (ji13)).f1, ji16⟩ : S32)) (k32_mkM _ _ _ (⟨(rd_T32 y243 (ji13)).f0, (rd_T32 y243 (ji13)).f1, ji16⟩ : S32) ) (fun _ hk => hk); have hx25_2 := hcc25 2 _ rfl; (try simp only [show (k32).sz = 3 from rfl, Nat.mul_one, Nat.add_zero] at hx25_2); have hf25_2 := hfr25 2; (try simp only [show (k32).sz = 3 from rfl, Nat.mul_one, Nat.add_zero] at hf25_2); clear hcl25 hcc25 hfr25 hM25) | ((with_reducible refine gate_store (t := 3) (p := 44) rfl ?_); (try (rw [drewN_self w24]; generalize hq_ : World.drewN w24 _ = w24; have n0_ := Aside0.mk (Kd.R_at hq_ HO245.out); have n1_ := Aside0.mk (below_at hq_ HB.out); clear hq_ HO245 HB; have HO245 := n0_; have HB := n1_; clear n0_ n1_; (try (have HX25 := Aside0.mk (show Kd.R k32 32 w24 w.heap.size (fun _ => True) (.slice (some ⟨go18, 0, none⟩) y243.length co18) y243 from (by (with_reducible repeat (first | apply Kd.R_alloc | apply Kd.R_drewN | apply Kd.R_drew)); exact HO245.out)))); (try (obtain ⟨ce25, hcl25, hM25, hcc25, hfr25⟩ := Kd.R_elem HX25.out z32 ((ji13) : Int) (of_decide_eq_true (by first | (with_reducible assumption) | assumption)) (by have h_ : ((ji13) : Int) < ((y243.length : Int) : Int) := of_decide_eq_true (by first | (with_reducible assumption) | assumption); first | exact h_ | (have e_ := (Kd.R_reads' HO245.out).1; omega) | simpa using h_))); (try (obtain rfl := k32_openM hM25)); (try (have HP25 := Kd.R_seg HX25.out ((ji13) : Int) (of_decide_eq_true (by first | (with_reducible assumption) | assumption)) (by have h_ : ((ji13) : Int) < ((y243.length : Int) : Int) := of_decide_eq_true (by first | (with_reducible assumption) | assumption); first | exact h_ | (have e_ := (Kd.R_reads' HO245.out).1; omega) | simpa using h_) (seg := [.int .i64 ji16]) (j := 2) hcl25 hcc25 (show 3 ≤ 3 from by decide) (x' := (⟨(rd_T32 y243 (ji13)).f0, (rd_T32 y243 (ji13)).f1, ji16⟩ : S32)) (k32_mkM _ _ _ (⟨(rd_T32 y243 (ji13)).f0, (rd_T32 y243 (ji13)).f1, ji16⟩ : S32) ) (fun _ hk => hk))); (try (have hx25_2 := hcc25 2 _ rfl)); (try (try simp only [show (k32).sz = 3 from rfl, Nat.mul_one, Nat.add_zero] at hx25_2)); (try (have hf25_2 := hfr25 2)); (try (try simp only [show (k32).sz = 3 from rfl, Nat.mul_one, Nat.add_zero] at hf25_2)); (try (clear hcl25 hcc25 hfr25 hM25)))); refine store_event (t := 3) (p := 44) (v := ?vo_w26) (w1 := (w24.setCell ⟨go18, ((ji13) : Int).toNat * 3 + 2, none⟩ (.int .i64 ji16))) ?hg ?ho ?hn ?hr ?_; (case ho => rfl); (case hg => rfl); (case hn => rfl); (case hr => first | (go_simp; done) | (go_simp; rfl)); intro w26 hw; have hg : w24.grownBy w26 (some go18) := (by rw [hw]; exact HP25.2); have hp_ : Kd.R k32 32 w26 w.heap.size (fun _ => True) (.slice (some ⟨go18, 0, none⟩) y243.length co18) y247 := (by rw [hw, Ny247.out]; exact HP25.1); clear HP25; have n0_ := Aside0.mk (hp_); have n1_ := Aside0.mk ((by rw [hw]; exact below_set (HB.out) GB18.out : Below w.heap.size w w26)); clear HO245; clear HB; have HO245 := n0_; have HB := n1_; clear n0_ n1_; clear hg hw hp_) | (go_at_call 12; (with_reducible refine (sim_Run.calls kj3 _ _ l0 t248 _ ?side1 ?side2 A19.out).mono ?_); (case side1 => repeat (first | exact (Kd.C_below HR0.out HB.out) | (with_reducible refine Kd.C_alloc ?_ _) | (with_reducible refine Kd.C_drewN ?_ _) | (with_reducible refine Kd.C_drew ?_))); (case side2 => exact HC0.out); rintro e w27 ⟨v249, rfl, ho0, hb⟩; have n0_ := Aside0.mk (Kd.R_below (by (with_reducible repeat (first | apply Kd.R_alloc | apply Kd.R_drewN | apply Kd.R_drew)); exact HO245.out) hb); have n1_ := Aside0.mk (Kd.R_lower ho0 (below_size (by repeat (first | (with_reducible first | exact HB.out | apply below_alloc | apply pw_below_drewN | apply below_drew1) | exact HB.out)))); have n2_ := Aside0.mk (below_step (by repeat (first | (with_reducible first | exact HB.out | apply below_alloc | apply pw_below_drewN | apply below_drew1) | exact HB.out)) hb); clear HO245; clear HB; have HO245 := n0_; have HO250 := n1_; have HB := n2_; clear n0_ n1_ n2_; (try clear hb); (try clear hb2); (try clear hk); (try clear hi); (try clear ho0)) | (go_at_call 12; refine calls_of_args (args' := #[.slice (some ⟨go18, 0, none⟩) y247.length co18]) (by first | (rw [show y247.length = y243.length from (Kd.R_reads' HO245.out).1.symm] <;> rfl) | rfl) ?_; (with_reducible refine (sim_Run.calls kj3 _ _ y247 t251 _ ?side1 ?side2 A20.out).mono ?_); (case side1 => repeat (first | exact (Kd.R_reads' HO245.out).2.2 | (with_reducible refine Kd.C_alloc ?_ _) | (with_reducible refine Kd.C_drewN ?_ _) | (with_reducible refine Kd.C_drew ?_))); (case side2 => rw [show y247.length = y243.length from (Kd.R_reads' HO245.out).1.symm]; exact (Kd.R_reads' HO245.out).2.1); rintro e w28 ⟨v252, rfl, ho0, hb⟩; have n0_ := Aside0.mk (Kd.R_below (by (with_reducible repeat (first | apply Kd.R_alloc | apply Kd.R_drewN | apply Kd.R_drew)); exact HO245.out) hb); have n1_ := Aside0.mk (Kd.R_elder' (by (with_reducible repeat (first | apply Kd.R_alloc | apply Kd.R_drewN | apply Kd.R_drew)); exact HO250.out) (Kd.R_base ho0) hb); have n2_ := Aside0.mk (Kd.R_lower (Kd.R_new' ho0 (Kd.R_lt (by (with_reducible repeat (first | apply Kd.R_alloc | apply Kd.R_drewN | apply Kd.R_drew)); exact HO250.out))) (below_size (by repeat (first | (with_reducible first | exact HB.out | apply below_alloc | apply pw_below_drewN | apply below_drew1) | exact HB.out)))); have n3_ := Aside0.mk (below_step (by repeat (first | (with_reducible first | exact HB.out | apply below_alloc | apply pw_below_drewN | apply below_drew1) | exact HB.out)) hb); clear HO245; clear HO250; clear HB; have HO245 := n0_; have HO250 := n1_; have HO253 := n2_; have HB := n3_; clear n0_ n1_ n2_ n3_; (try clear hb); (try clear hb2); (try clear hk); (try clear hi); (try clear ho0))); go_upto_region 7 with (first | ((with_reducible refine gate_dst (N := 30) rfl ?_); (try (refine gate_guard (by rfl) ?_; dsimp only)); refine Kd.R_lit k32 _ 32 ?hg (N := 30) ?hd (xs := ([] : List (S32))) (inner := []) (ok := fun _ => True) (okp := fun _ => True) ?hr ?hp (fun _ hk => hk) trivial (Below.refl _ _) (Nat.le_refl _) (by simp) ?_; (case hd => rfl); (case hg => rfl); (case hr => first | (go_simp; done) | (go_simp; rfl)); (case hp => exact (Reps.none _ _)); intro v241 w22 ho23 hb hg_ hnew_; clear hg_ hnew_; (first | rw [← Ny240.out] at ho23 | (simp only [Int.reduceToNat] at ho23; rw [← Ny240.out] at ho23)); have n0_ := Aside0.mk (Kd.R_lower ho23 (below_size (by repeat (first | (with_reducible first | exact HB.out | apply below_alloc | apply pw_below_drewN | apply below_drew1) | exact HB.out)))); have n1_ := Aside0.mk (below_step (by repeat (first | (with_reducible first | exact HB.out | apply below_alloc | apply pw_below_drewN | apply below_drew1) | exact HB.out)) hb); clear HB; have HO242 := n0_; have HB := n1_; clear n0_ n1_; clear hb ho23) | ((with_reducible refine gate_builtin (b := .append) (xs := #[.tmp 30, .tmp 31]) rfl ?_); (try (refine gate_guard (by rfl) ?_; dsimp only)); at_builtin; refine Kd.R_append_rows k32 (w0 := w) w.heap.size rfl (.tmp 30) (.tmp 31) 22 32 (.agg #[(.int .i64 0), (.int .i64 0), (.int .i64 0)]) 24 rfl Try.underlying22 info32 rfl (by decide) (by omega) v241 y240 l0 _ _ _ (fun _ => True) (fun _ => False) rfl rfl ?aO ?aR (fun _ _ h => h) (fun _ h => h.elim) ?aF ?aB ?aS ?aL ?_; (case aR => repeat (first | exact (Kd.C_below HR0.out HB.out) | (with_reducible refine Kd.C_alloc ?_ _) | (with_reducible refine Kd.C_drewN ?_ _) | (with_reducible refine Kd.C_drew ?_))); (case aB => exact (by repeat (first | (with_reducible first | exact HB.out | apply below_alloc | apply pw_below_drewN | apply below_drew1) | exact HB.out))); (case aF => exact (fun _ _ => trivial)); (case aO => exact (by (with_reducible repeat (first | apply Kd.R_alloc | apply Kd.R_drewN | apply Kd.R_drew)); exact HO242.out)); (case aS => exact (below_size (by repeat (first | (with_reducible first | exact HB.out | apply below_alloc | apply pw_below_drewN | apply below_drew1) | exact HB.out)))); (case aL => have := LMc12.out; omega); intro v244 w24 ho hb hg hat; rw [← Ny243.out] at ho; have n0_ := Aside0.mk (hb); have n1_ := Aside0.mk (ho); clear HB; clear HO242; have HB := n0_; have HO245 := n1_; clear n0_ n1_; clear ho hb hg hat; have p246 : 0 ≤ ((ji13) : Int) := of_decide_eq_true (by first | (with_reducible assumption) | assumption); have q246 : (ji13) < (l0.length : Int) := of_decide_eq_true (by first | (with_reducible assumption) | assumption); obtain ⟨ad246, e246, hx246_0, hx246_1, hx246_2⟩ := at_T32 HR0.out (ji13) p246 q246; cases e246; replace hx246_0 := (HB.out.cell (World.block_lt_of_cell? w _ hx246_0)).trans hx246_0; replace hx246_1 := (HB.out.cell (World.block_lt_of_cell? w _ hx246_1)).trans hx246_1; replace hx246_2 := (HB.out.cell (World.block_lt_of_cell? w _ hx246_2)).trans hx246_2; replace p246 := eq_true p246; replace q246 := eq_true q246; have p18 : 0 ≤ ((ji13) : Int) := of_decide_eq_true (by first | (with_reducible assumption) | assumption); have q18 : ((ji13) : Int) < ((y243.length : Int) : Int) := of_decide_eq_true (by first | (with_reducible assumption) | assumption); obtain ⟨go18, co18, eo18, gb18, gl18, cl18, HG18⟩ := Kd.R_form HO245.out (by omega); (first | cases eo18 | (injection eo18 with ea_ en_ ec_; (first | subst ea_ | (injection ea_ with ea_; subst ea_)); subst ec_; clear en_)); have GB18 := Aside0.mk gb18; have GG18 := Aside0.mk HG18; clear gb18 gl18 HG18; obtain ⟨ce18, hcl18, hM18, hcc18, hfr18⟩ := Kd.R_elem HO245.out z32 ((ji13) : Int) p18 q18; obtain rfl := k32_openM hM18; have hx18_0 : w24.cell? ⟨go18, ((ji13) : Int).toNat * 3, none⟩ = some (.int .i64 ((rd_T32 y243 (ji13)).f0)) := hcc18 0 _ rfl; have hx18_1 : w24.cell? ⟨go18, ((ji13) : Int).toNat * 3 + 1, none⟩ = some (.int .i64 ((rd_T32 y243 (ji13)).f1)) := hcc18 1 _ rfl; have hx18_2 : w24.cell? ⟨go18, ((ji13) : Int).toNat * 3 + 2, none⟩ = some (.int .i64 ((rd_T32 y243 (ji13)).f2)) := hcc18 2 _ rfl; have hf18_0 : w24.frozen? ⟨go18, ((ji13) : Int).toNat * 3, none⟩ = false := hfr18 0; have hf18_1 : w24.frozen? ⟨go18, ((ji13) : Int).toNat * 3 + 1, none⟩ = false := hfr18 1; have hf18_2 : w24.frozen? ⟨go18, ((ji13) : Int).toNat * 3 + 2, none⟩ = false := hfr18 2; clear hcl18 hcc18 hfr18 hM18; replace p18 := eq_true p18; replace q18 := eq_true q18; have HX25 := Aside0.mk (show Kd.R k32 32 w24 w.heap.size (fun _ => True) (.slice (some ⟨go18, 0, none⟩) y243.length co18) y243 from (by (with_reducible repeat (first | apply Kd.R_alloc | apply Kd.R_drewN | apply Kd.R_drew)); exact HO245.out)); obtain ⟨ce25, hcl25, hM25, hcc25, hfr25⟩ := Kd.R_elem HX25.out z32 ((ji13) : Int) (of_decide_eq_true (by first | (with_reducible assumption) | assumption)) (by have h_ : ((ji13) : Int) < ((y243.length : Int) : Int) := of_decide_eq_true (by first | (with_reducible assumption) | assumption); first | exact h_ | (have e_ := (Kd.R_reads' HO245.out).1; omega) | simpa using h_); obtain rfl := k32_openM hM25; have HP25 := Kd.R_seg HX25.out ((ji13) : Int) (of_decide_eq_true (by first | (with_reducible assumption) | assumption)) (by have h_ : ((ji13) : Int) < ((y243.length : Int) : Int) := of_decide_eq_true (by first | (with_reducible assumption) | assumption); first | exact h_ | (have e_ := (Kd.R_reads' HO245.out).1; omega) | simpa using h_) (seg := [.int .i64 ji16]) (j := 2) hcl25 hcc25 (show 3 ≤ 3 from by decide) (x' := (⟨(rd_T32 y243 (ji13)).f0, (rd_T32 y243 (ji13)).f1, ji16⟩ : S32)) (k32_mkM _ _ _ (⟨(rd_T32 y243 (ji13)).f0, (rd_T32 y243 (ji13)).f1, ji16⟩ : S32) ) (fun _ hk => hk); have hx25_2 := hcc25 2 _ rfl; (try simp only [show (k32).sz = 3 from rfl, Nat.mul_one, Nat.add_zero] at hx25_2); have hf25_2 := hfr25 2; (try simp only [show (k32).sz = 3 from rfl, Nat.mul_one, Nat.add_zero] at hf25_2); clear hcl25 hcc25 hfr25 hM25) | ((with_reducible refine gate_store (t := 3) (p := 44) rfl ?_); (try (rw [drewN_self w24]; generalize hq_ : World.drewN w24 _ = w24; have n0_ := Aside0.mk (Kd.R_at hq_ HO245.out); have n1_ := Aside0.mk (below_at hq_ HB.out); clear hq_ HO245 HB; have HO245 := n0_; have HB := n1_; clear n0_ n1_; (try (have HX25 := Aside0.mk (show Kd.R k32 32 w24 w.heap.size (fun _ => True) (.slice (some ⟨go18, 0, none⟩) y243.length co18) y243 from (by (with_reducible repeat (first | apply Kd.R_alloc | apply Kd.R_drewN | apply Kd.R_drew)); exact HO245.out)))); (try (obtain ⟨ce25, hcl25, hM25, hcc25, hfr25⟩ := Kd.R_elem HX25.out z32 ((ji13) : Int) (of_decide_eq_true (by first | (with_reducible assumption) | assumption)) (by have h_ : ((ji13) : Int) < ((y243.length : Int) : Int) := of_decide_eq_true (by first | (with_reducible assumption) | assumption); first | exact h_ | (have e_ := (Kd.R_reads' HO245.out).1; omega) | simpa using h_))); (try (obtain rfl := k32_openM hM25)); (try (have HP25 := Kd.R_seg HX25.out ((ji13) : Int) (of_decide_eq_true (by first | (with_reducible assumption) | assumption)) (by have h_ : ((ji13) : Int) < ((y243.length : Int) : Int) := of_decide_eq_true (by first | (with_reducible assumption) | assumption); first | exact h_ | (have e_ := (Kd.R_reads' HO245.out).1; omega) | simpa using h_) (seg := [.int .i64 ji16]) (j := 2) hcl25 hcc25 (show 3 ≤ 3 from by decide) (x' := (⟨(rd_T32 y243 (ji13)).f0, (rd_T32 y243 (ji13)).f1, ji16⟩ : S32)) (k32_mkM _ _ _ (⟨(rd_T32 y243 (ji13)).f0, (rd_T32 y243 (ji13)).f1, ji16⟩ : S32) ) (fun _ hk => hk))); (try (have hx25_2 := hcc25 2 _ rfl)); (try (try simp only [show (k32).sz = 3 from rfl, Nat.mul_one, Nat.add_zero] at hx25_2)); (try (have hf25_2 := hfr25 2)); (try (try simp only [show (k32).sz = 3 from rfl, Nat.mul_one, Nat.add_zero] at hf25_2)); (try (clear hcl25 hcc25 hfr25 hM25)))); refine store_event (t := 3) (p := 44) (v := ?vo_w26) (w1 := (w24.setCell ⟨go18, ((ji13) : Int).toNat * 3 + 2, none⟩ (.int .i64 ji16))) ?hg ?ho ?hn ?hr ?_; (case ho => rfl); (case hg => rfl); (case hn => rfl); (case hr => first | (go_simp; done) | (go_simp; rfl)); intro w26 hw; have hg : w24.grownBy w26 (some go18) := (by rw [hw]; exact HP25.2); have hp_ : Kd.R k32 32 w26 w.heap.size (fun _ => True) (.slice (some ⟨go18, 0, none⟩) y243.length co18) y247 := (by rw [hw, Ny247.out]; exact HP25.1); clear HP25; have n0_ := Aside0.mk (hp_); have n1_ := Aside0.mk ((by rw [hw]; exact below_set (HB.out) GB18.out : Below w.heap.size w w26)); clear HO245; clear HB; have HO245 := n0_; have HB := n1_; clear n0_ n1_; clear hg hw hp_) | (go_at_call 12; (with_reducible refine (sim_Run.calls kj3 _ _ l0 t248 _ ?side1 ?side2 A19.out).mono ?_); (case side1 => repeat (first | exact (Kd.C_below HR0.out HB.out) | (with_reducible refine Kd.C_alloc ?_ _) | (with_reducible refine Kd.C_drewN ?_ _) | (with_reducible refine Kd.C_drew ?_))); (case side2 => exact HC0.out); rintro e w27 ⟨v249, rfl, ho0, hb⟩; have n0_ := Aside0.mk (Kd.R_below (by (with_reducible repeat (first | apply Kd.R_alloc | apply Kd.R_drewN | apply Kd.R_drew)); exact HO245.out) hb); have n1_ := Aside0.mk (Kd.R_lower ho0 (below_size (by repeat (first | (with_reducible first | exact HB.out | apply below_alloc | apply pw_below_drewN | apply below_drew1) | exact HB.out)))); have n2_ := Aside0.mk (below_step (by repeat (first | (with_reducible first | exact HB.out | apply below_alloc | apply pw_below_drewN | apply below_drew1) | exact HB.out)) hb); clear HO245; clear HB; have HO245 := n0_; have HO250 := n1_; have HB := n2_; clear n0_ n1_ n2_; (try clear hb); (try clear hb2); (try clear hk); (try clear hi); (try clear ho0)) | (go_at_call 12; refine calls_of_args (args' := #[.slice (some ⟨go18, 0, none⟩) y247.length co18]) (by first | (rw [show y247.length = y243.length from (Kd.R_reads' HO245.out).1.symm] <;> rfl) | rfl) ?_; (with_reducible refine (sim_Run.calls kj3 _ _ y247 t251 _ ?side1 ?side2 A20.out).mono ?_); (case side1 => repeat (first | exact (Kd.R_reads' HO245.out).2.2 | (with_reducible refine Kd.C_alloc ?_ _) | (with_reducible refine Kd.C_drewN ?_ _) | (with_reducible refine Kd.C_drew ?_))); (case side2 => rw [show y247.length = y243.length from (Kd.R_reads' HO245.out).1.symm]; exact (Kd.R_reads' HO245.out).2.1); rintro e w28 ⟨v252, rfl, ho0, hb⟩; have n0_ := Aside0.mk (Kd.R_below (by (with_reducible repeat (first | apply Kd.R_alloc | apply Kd.R_drewN | apply Kd.R_drew)); exact HO245.out) hb); have n1_ := Aside0.mk (Kd.R_elder' (by (with_reducible repeat (first | apply Kd.R_alloc | apply Kd.R_drewN | apply Kd.R_drew)); exact HO250.out) (Kd.R_base ho0) hb); have n2_ := Aside0.mk (Kd.R_lower (Kd.R_new' ho0 (Kd.R_lt (by (with_reducible repeat (first | apply Kd.R_alloc | apply Kd.R_drewN | apply Kd.R_drew)); exact HO250.out))) (below_size (by repeat (first | (with_reducible first | exact HB.out | apply below_alloc | apply pw_below_drewN | apply below_drew1) | exact HB.out)))); have n3_ := Aside0.mk (below_step (by repeat (first | (with_reducible first | exact HB.out | apply below_alloc | apply pw_below_drewN | apply below_drew1) | exact HB.out)) hb); clear HO245; clear HO250; clear HB; have HO245 := n0_; have HO250 := n1_; have HO253 := n2_; have HB := n3_; clear n0_ n1_ n2_ n3_; (try clear hb); (try clear hb2); (try clear hk); (try clear hi); (try clear ho0))))
                  (try simp only [Act.put, List.setIfInBounds_toArray, List.set_cons_zero, List.set_cons_succ])
                  go_cut [60] (fun v60 wc => ∃ (kq : Nat) (x60_20 : Bool), v60 = .bool x60_20 ∧ Aside0 (dormouselaw25_SimLess.j1 kq l0 t248 t251 x60_20 = some r) ∧ Aside0 (kq ≤ kj3) ∧ Aside0 (Kd.R (Kd.int .i64) 3 wc w.heap.size (fun k_ => some k_ ≠ (v252 : Value).ownBlock) v249 t248) ∧ Aside0 (Kd.R (Kd.int .i64) 3 wc w.heap.size (fun k_ => some k_ ≠ (v249 : Value).ownBlock) v252 t251) ∧ Aside0 (Below w.heap.size w wc))
                  case first =>
                    have H := HC21.out
                    clear HC21
                    by_cases c29 : (t248.length : Int) = (l0.length : Int)
                    · rw [if_pos c29] at H
                      have c29b0 : ((t248.length : Int) == (l0.length : Int)) = true := beq_iff_eq.mpr c29
                      have c29b1 : ((t248.length : Int) != (l0.length : Int)) = false := bne_eq_false_iff_eq.mpr c29
                      have c29b2 : (t248.length == l0.length) = true := by first | simpa using c29 | (simp at c29 ⊢; omega)
                      clear c29
                      (first | rw [c29b0] | (simp only [i64_w, i32_w]; rw [c29b0]) | skip)
                      have H' := Aside0.mk H
                      clear H
                      obtain ⟨Ao30, co30, eo30⟩ := Kd.R_slice HO250.out
                      subst eo30
                      obtain ⟨Ao31, co31, eo31⟩ := Kd.R_slice HO253.out
                      subst eo31
                      go_wp2
                      repeat (go_quiet (fail); try go_wp2)
                      go_meet
                      case rel => exact ⟨_, (((t251.length : Int) != (l0.length : Int))), (by first | rfl | (simp; done) | (simp [*]; done)), H', ⟨by have := HJ3.out; first | omega | exact Nat.le_refl _⟩, ⟨by (with_reducible repeat (first | apply Kd.R_alloc | apply Kd.R_drewN | apply Kd.R_drew)); exact Kd.R_mono HO250.out (fun _ hk => hk.2)⟩, ⟨by (with_reducible repeat (first | apply Kd.R_alloc | apply Kd.R_drewN | apply Kd.R_drew)); exact Kd.R_mono HO253.out (fun _ hk => hk.2)⟩, ⟨by repeat (first | (with_reducible first | exact HB.out | apply below_alloc | apply pw_below_drewN | apply below_drew1) | exact HB.out)⟩⟩
                    · rw [if_neg c29] at H
                      have c29b0 : ((t248.length : Int) == (l0.length : Int)) = false := beq_eq_false_iff_ne.mpr c29
                      have c29b1 : ((t248.length : Int) != (l0.length : Int)) = true := bne_iff_ne.mpr c29
                      have c29b2 : (t248.length == l0.length) = false := by first | simpa using c29 | (simp at c29 ⊢; omega)
                      (first | rw [c29b0] | (simp only [i64_w, i32_w]; rw [c29b0]) | skip)
                      have H' := Aside0.mk H
                      clear H
                      obtain ⟨Ao32, co32, eo32⟩ := Kd.R_slice HO250.out
                      subst eo32
                      go_wp2
                      repeat (go_quiet (fail); try go_wp2)
                      go_meet
                      case rel => exact ⟨_, (true), (by first | rfl | (simp; done) | (simp [*]; done)), H', ⟨by have := HJ3.out; first | omega | exact Nat.le_refl _⟩, ⟨by (with_reducible repeat (first | apply Kd.R_alloc | apply Kd.R_drewN | apply Kd.R_drew)); exact Kd.R_mono HO250.out (fun _ hk => hk.2)⟩, ⟨by (with_reducible repeat (first | apply Kd.R_alloc | apply Kd.R_drewN | apply Kd.R_drew)); exact Kd.R_mono HO253.out (fun _ hk => hk.2)⟩, ⟨by repeat (first | (with_reducible first | exact HB.out | apply below_alloc | apply pw_below_drewN | apply below_drew1) | exact HB.out)⟩⟩
                  case rest =>
                    clear HC21
                    try clear c1
                    try clear p1
                    try clear q1
                    try clear hx1
                    try clear c2
                    try clear p2
                    try clear q2
                    try clear hx2
                    try clear c6
                    try clear p6
                    try clear c7
                    try clear c7b0
                    try clear c7b1
                    try clear c7b2
                    try clear c8
                    try clear c11
                    try clear c11b0
                    try clear c11b1
                    try clear c11b2
                    try clear c12
                    try clear c14
                    try clear c14b0
                    try clear c15
                    try clear c15b0
                    try clear c17
                    try clear c17b0
                    try clear c18
                    try clear p18
                    try clear q18
                    try clear hx18
                    try clear hf18
                    try clear p24
                    try clear q24
                    try clear hx24
                    try clear c25
                    try clear hx25
                    try clear hf25
                    try clear c29
                    try clear c29b0
                    try clear c29b1
                    try clear c29b2
                    try clear hx18_0
                    try clear hx18_1
                    try clear hx18_2
                    try clear hx246_0
                    try clear hx246_1
                    try clear hx246_2
                    try clear hx25_2
                    try clear p18
                    try clear p2
                    try clear p246
                    try clear q18
                    try clear q246
                    obtain ⟨kq, x60_20, rfl, HA, HJ20, HO_9, HO_10, HB⟩ := hcut
                    cases kq with
                    | zero => exact absurd HA.out (by simp [dormouselaw25_SimLess.j1])
                    | succ kj20 =>
                      have H := HA.out
                      clear HA
                      simp only [dormouselaw25_SimLess.j1] at H
                      by_cases c33 : x60_20 = true
                      · subst c33
                        have H1 : (some false) = some r := by rw [if_pos rfl] at H; exact H
                        clear H
                        have H := H1
                        clear H1
                        obtain rfl := Option.some.inj H
                        go_wp2
                        repeat (go_quiet (fail); try go_wp2)
                        go_ret
                        exact ⟨by first | rfl | (simp [errW_none, errW_some] <;> rfl) | (simp only [← hji13, ← hji16]; first | rfl | (simp [errW_none, errW_some] <;> rfl)) | (simp [*, errW_none, errW_some] <;> rfl), by repeat (first | (with_reducible first | exact HB.out | apply below_alloc | apply pw_below_drewN | apply below_drew1) | exact HB.out)⟩
                      · replace c33 := Bool.eq_false_iff.mpr c33
                        subst c33
                        have H1 : (dormouselaw25_SimLess.l0 kj20 l0 t248 t251 0) = some r := by rw [if_neg (show ¬ (false = true) by decide)] at H; exact H
                        clear H
                        have H := H1
                        clear H1
                        have H' := Aside0.mk H
                        clear H
                        go_wp2
                        repeat (go_quiet (fail); try go_wp2)
                        go_loopg [11] kj20 (fun kq v11 w' => ∃ (x11_3 : Int), v11 = .int .i64 x11_3 ∧ Aside0 (dormouselaw25_SimLess.l0 kq l0 t248 t251 x11_3 = some r) ∧ Aside0 (kq ≤ kj20) ∧ Aside0 (Kd.R (Kd.int .i64) 3 w' w.heap.size (fun k_ => some k_ ≠ (v252 : Value).ownBlock) v249 t248) ∧ Aside0 (Kd.R (Kd.int .i64) 3 w' w.heap.size (fun k_ => some k_ ≠ (v249 : Value).ownBlock) v252 t251) ∧ Aside0 (Below w.heap.size w w'))
                        case atStart => exact ⟨(0), (by first | rfl | (simp; done) | (simp [*]; done)), H', ⟨Nat.le_refl _⟩, ⟨by (with_reducible repeat (first | apply Kd.R_alloc | apply Kd.R_drewN | apply Kd.R_drew)); exact HO_9.out⟩, ⟨by (with_reducible repeat (first | apply Kd.R_alloc | apply Kd.R_drewN | apply Kd.R_drew)); exact HO_10.out⟩, ⟨by repeat (first | (with_reducible first | exact HB.out | apply below_alloc | apply pw_below_drewN | apply below_drew1) | exact HB.out)⟩⟩
                        case round =>
                          clear H'
                          try clear c1
                          try clear p1
                          try clear q1
                          try clear hx1
                          try clear c2
                          try clear p2
                          try clear q2
                          try clear hx2
                          try clear c3
                          try clear c6
                          try clear p6
                          try clear c7
                          try clear c7b0
                          try clear c7b1
                          try clear c7b2
                          try clear c8
                          try clear c11
                          try clear c11b0
                          try clear c11b1
                          try clear c11b2
                          try clear c12
                          try clear c14
                          try clear c14b0
                          try clear c15
                          try clear c15b0
                          try clear c17
                          try clear c17b0
                          try clear c18
                          try clear p18
                          try clear q18
                          try clear hx18
                          try clear hf18
                          try clear p24
                          try clear q24
                          try clear hx24
                          try clear c25
                          try clear hx25
                          try clear hf25
                          try clear c29
                          try clear c29b0
                          try clear c29b1
                          try clear c29b2
                          try clear c33
                          try clear hx18_0
                          try clear hx18_1
                          try clear hx18_2
                          try clear hx246_0
                          try clear hx246_1
                          try clear hx246_2
                          try clear hx25_2
                          try clear p1
                          try clear p18
                          try clear p2
                          try clear p24
                          try clear p246
                          try clear p6
                          try clear q1
                          try clear q18
                          try clear q2
                          try clear q24
                          try clear q246
                          obtain ⟨x11_3, rfl, HA, HK3, HO_9, HO_10, HB⟩ := hrel
                          cases gk with
                          | zero => exact absurd HA.out (by simp [dormouselaw25_SimLess.l0])
                          | succ k3 =>
                            have H := HA.out
                            clear HA
                            simp only [dormouselaw25_SimLess.l0] at H
                            by_cases c34 : x11_3 < (l0.length : Int)
                            · rw [if_pos c34] at H
                              have c34b0 : decide (x11_3 < (l0.length : Int)) = true := decide_eq_true c34
                              clear c34
                              by_cases c35 : 0 ≤ x11_3
                              · rw [if_pos c35] at H
                                have c35b0 : decide (0 ≤ x11_3) = true := decide_eq_true c35
                                clear c35
                                by_cases c36 : x11_3 < (t251.length : Int)
                                · rw [if_pos c36] at H
                                  have c36b0 : decide (x11_3 < (t251.length : Int)) = true := decide_eq_true c36
                                  clear c36
                                  by_cases c37 : x11_3 < (t248.length : Int)
                                  · rw [if_pos c37] at H
                                    have c37b0 : decide (x11_3 < (t248.length : Int)) = true := decide_eq_true c37
                                    clear c37
                                    by_cases c38 : (rd t251 x11_3) > (rd t248 x11_3)
                                    · rw [if_pos c38] at H
                                      have c38b0 : decide ((rd t248 x11_3) < (rd t251 x11_3)) = true := decide_eq_true c38
                                      clear c38
                                      obtain rfl := Option.some.inj H
                                      obtain ⟨Ao39, co39, eo39⟩ := Kd.R_slice HO_10.out
                                      subst eo39
                                      have p254 : 0 ≤ (x11_3 : Int) := of_decide_eq_true (by first | (with_reducible assumption) | assumption)
                                      have q254 : x11_3 < (t251.length : Int) := of_decide_eq_true (by first | (with_reducible assumption) | assumption)
                                      obtain ⟨ad254, e254, hx254_0⟩ := Kd.at_int (Kd.R_reads' HO_10.out).2.2 x11_3 p254 q254
                                      cases e254
                                      replace p254 := eq_true p254
                                      replace q254 := eq_true q254
                                      obtain ⟨Ao40, co40, eo40⟩ := Kd.R_slice HO_9.out
                                      subst eo40
                                      have p255 : 0 ≤ (x11_3 : Int) := of_decide_eq_true (by first | (with_reducible assumption) | assumption)
                                      have q255 : x11_3 < (t248.length : Int) := of_decide_eq_true (by first | (with_reducible assumption) | assumption)
                                      obtain ⟨ad255, e255, hx255_0⟩ := Kd.at_int (Kd.R_reads' HO_9.out).2.2 x11_3 p255 q255
                                      cases e255
                                      replace p255 := eq_true p255
                                      replace q255 := eq_true q255
                                      go_wp2
                                      repeat (go_quiet (fail); try go_wp2)
                                      go_ret
                                      exact ⟨by first | rfl | (simp [errW_none, errW_some] <;> rfl) | (simp only [← hji13, ← hji16]; first | rfl | (simp [errW_none, errW_some] <;> rfl)) | (simp [*, errW_none, errW_some] <;> rfl), by repeat (first | (with_reducible first | exact HB.out | apply below_alloc | apply pw_below_drewN | apply below_drew1) | exact HB.out)⟩
                                    · rw [if_neg c38] at H
                                      have c38b0 : decide ((rd t248 x11_3) < (rd t251 x11_3)) = false := decide_eq_false c38
                                      clear c38
                                      have H' := Aside0.mk H
                                      clear H
                                      obtain ⟨Ao41, co41, eo41⟩ := Kd.R_slice HO_10.out
                                      subst eo41
                                      have p254 : 0 ≤ (x11_3 : Int) := of_decide_eq_true (by first | (with_reducible assumption) | assumption)
                                      have q254 : x11_3 < (t251.length : Int) := of_decide_eq_true (by first | (with_reducible assumption) | assumption)
                                      obtain ⟨ad254, e254, hx254_0⟩ := Kd.at_int (Kd.R_reads' HO_10.out).2.2 x11_3 p254 q254
                                      cases e254
                                      replace p254 := eq_true p254
                                      replace q254 := eq_true q254
                                      obtain ⟨Ao42, co42, eo42⟩ := Kd.R_slice HO_9.out
                                      subst eo42
                                      have p255 : 0 ≤ (x11_3 : Int) := of_decide_eq_true (by first | (with_reducible assumption) | assumption)
                                      have q255 : x11_3 < (t248.length : Int) := of_decide_eq_true (by first | (with_reducible assumption) | assumption)
                                      obtain ⟨ad255, e255, hx255_0⟩ := Kd.at_int (Kd.R_reads' HO_9.out).2.2 x11_3 p255 q255
                                      cases e255
                                      replace p255 := eq_true p255
                                      replace q255 := eq_true q255
                                      go_wp2
                                      repeat (go_quiet (fail); try go_wp2)
                                      go_roundg k3
                                      case measure => have := HJ3.out; have := HJ20.out; have := HK3.out; omega
                                      case rel => exact ⟨(wrap64 (x11_3 + 1)), (by first | rfl | (simp; done) | (simp [*]; done)), H', ⟨by have := HJ3.out; have := HJ20.out; have := HK3.out; omega⟩, ⟨by (with_reducible repeat (first | apply Kd.R_alloc | apply Kd.R_drewN | apply Kd.R_drew)); exact HO_9.out⟩, ⟨by (with_reducible repeat (first | apply Kd.R_alloc | apply Kd.R_drewN | apply Kd.R_drew)); exact HO_10.out⟩, ⟨by repeat (first | (with_reducible first | exact HB.out | apply below_alloc | apply pw_below_drewN | apply below_drew1) | exact HB.out)⟩⟩
                                  · rw [if_neg c37] at H
                                    exact absurd H (by simp)
                                · rw [if_neg c36] at H
                                  exact absurd H (by simp)
                              · rw [if_neg c35] at H
                                exact absurd H (by simp)
                            · rw [if_neg c34] at H
                              have c34b0 : decide (x11_3 < (l0.length : Int)) = false := decide_eq_false c34
                              clear c34
                              replace H := Option.bind_eq_some_iff.mp H
                              obtain ⟨t256, A430, H⟩ := H
                              replace H : (some t256) = some r := H
                              have A43 := Aside0.mk A430
                              clear A430
                              obtain rfl := Option.some.inj H
                              go_wp2_with (first | (go_at_call 10; (with_reducible refine (dormouselaw25_answers.calls k3  t256 _ A43.out).mono ?_); rintro e w44 ⟨rfl, hb⟩; have n0_ := Aside0.mk (Kd.R_below (by (with_reducible repeat (first | apply Kd.R_alloc | apply Kd.R_drewN | apply Kd.R_drew)); exact HO_9.out) hb); have n1_ := Aside0.mk (Kd.R_below (by (with_reducible repeat (first | apply Kd.R_alloc | apply Kd.R_drewN | apply Kd.R_drew)); exact HO_10.out) hb); have n2_ := Aside0.mk (below_step (by repeat (first | (with_reducible first | exact HB.out | apply below_alloc | apply pw_below_drewN | apply below_drew1) | exact HB.out)) hb); clear HO_9; clear HO_10; clear HB; have HO_9 := n0_; have HO_10 := n1_; have HB := n2_; clear n0_ n1_ n2_; (try clear hb); (try clear hb2); (try clear hk); (try clear hi)))
                              repeat (go_quiet (first | (go_at_call 10; (with_reducible refine (dormouselaw25_answers.calls k3  t256 _ A43.out).mono ?_); rintro e w44 ⟨rfl, hb⟩; have n0_ := Aside0.mk (Kd.R_below (by (with_reducible repeat (first | apply Kd.R_alloc | apply Kd.R_drewN | apply Kd.R_drew)); exact HO_9.out) hb); have n1_ := Aside0.mk (Kd.R_below (by (with_reducible repeat (first | apply Kd.R_alloc | apply Kd.R_drewN | apply Kd.R_drew)); exact HO_10.out) hb); have n2_ := Aside0.mk (below_step (by repeat (first | (with_reducible first | exact HB.out | apply below_alloc | apply pw_below_drewN | apply below_drew1) | exact HB.out)) hb); clear HO_9; clear HO_10; clear HB; have HO_9 := n0_; have HO_10 := n1_; have HB := n2_; clear n0_ n1_ n2_; (try clear hb); (try clear hb2); (try clear hk); (try clear hi))); try go_wp2_with (first | (go_at_call 10; (with_reducible refine (dormouselaw25_answers.calls k3  t256 _ A43.out).mono ?_); rintro e w44 ⟨rfl, hb⟩; have n0_ := Aside0.mk (Kd.R_below (by (with_reducible repeat (first | apply Kd.R_alloc | apply Kd.R_drewN | apply Kd.R_drew)); exact HO_9.out) hb); have n1_ := Aside0.mk (Kd.R_below (by (with_reducible repeat (first | apply Kd.R_alloc | apply Kd.R_drewN | apply Kd.R_drew)); exact HO_10.out) hb); have n2_ := Aside0.mk (below_step (by repeat (first | (with_reducible first | exact HB.out | apply below_alloc | apply pw_below_drewN | apply below_drew1) | exact HB.out)) hb); clear HO_9; clear HO_10; clear HB; have HO_9 := n0_; have HO_10 := n1_; have HB := n2_; clear n0_ n1_ n2_; (try clear hb); (try clear hb2); (try clear hk); (try clear hi))))
                              go_ret
                              exact ⟨by first | rfl | (simp [errW_none, errW_some] <;> rfl) | (simp only [← hji13, ← hji16]; first | rfl | (simp [errW_none, errW_some] <;> rfl)) | (simp [*, errW_none, errW_some] <;> rfl), by repeat (first | (with_reducible first | exact HB.out | apply below_alloc | apply pw_below_drewN | apply below_drew1) | exact HB.out)⟩
                · rw [if_neg c17] at H
                  exact absurd H (by simp)
              · rw [if_neg c15] at H
                exact absurd H (by simp)
            · rw [if_neg c14] at H
              exact absurd H (by simp)
          · rw [if_neg c12] at H
            exact absurd H (by simp)

end Go.Proofs.Ytanakihfgdgdfaa.F
