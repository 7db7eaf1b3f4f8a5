import Derived.Test.YtdjmcjfdkcckoaaFx0
import Derived.Test.YtdjmcjfdkcckoaaRun
import Derived.Test.YtdjmcjfdkcckoaaG4
-- Told by the kit's print.py out of this seat's translation, for this session's own texts (not a PRINTED file).
namespace Go.Proofs.Ytdjmcjfdkcckoaa.F
open Go.RowKit Go.Proofs.YtdjmcjfdkcckoaaW.PrintWords Go.Proofs.YtdjmcjfdkcckoaaW.PrintLast Go.Proofs.YtdjmcjfdkcckoaaW.PrintMore
attribute [local go_sem] max2_int min2_int max_two min_two max_three min_three max_four min_four   -- for this text's walks alone
set_option linter.unusedVariables false
set_option linter.unusedSimpArgs false
end Go.Proofs.Ytdjmcjfdkcckoaa.F

-- Told by the kit's print.py out of this seat's translation, for this session's own texts (not a PRINTED file).
namespace Go.Proofs.Ytdjmcjfdkcckoaa.F
open Go.RowKit Go.Proofs.YtdjmcjfdkcckoaaW.PrintWords Go.Proofs.YtdjmcjfdkcckoaaW.PrintLast Go.Proofs.YtdjmcjfdkcckoaaW.PrintMore
attribute [local go_sem] max2_int min2_int max_two min_two max_three min_three max_four min_four   -- for this text's walks alone
set_option linter.unusedVariables false
set_option linter.unusedSimpArgs false

/-! ### sim_Late: function 28 -/
def sim_Late.l0 : Nat → List (S31) → List Int → Int → Int → Option (Bool)
  | 0, _, _, _, _ => none
  | k + 1, x0, x9, x10, x11 => if x11 < x10 then (if 0 ≤ x11 then (if x11 < (x9.length : Int) then (if x11 < (x0.length : Int) then (if (rd x9 x11) > ((rd_T31 x0 x11).f1) then (some true) else (sim_Late.l0 k x0 x9 x10 (wrap64 (x11 + 1)))) else (none)) else (none)) else (none)) else (some false)
def sim_Late.f (k : Nat) (l0 : List (S31)) : Option (Bool) := (sim_right.f k l0).bind fun t265 => (if t265 = true then ((sim_Run.f k l0).bind fun t266 => (sim_Late.l0 k l0 t266 (t266.length : Int) 0)) else (some true))
theorem sim_Late.mono_l : ∀ k, (∀ y0 y1 y2 y3, LeO (sim_Late.l0 k y0 y1 y2 y3) (sim_Late.l0 (k + 1) y0 y1 y2 y3))
  | 0 => fun _ _ _ _ r h => by simp [sim_Late.l0] at h
  | k + 1 => by
    have ih0 := sim_Late.mono_l k
    · intro y0 y1 y2 y3
      unfold sim_Late.l0
      repeat' first
      | (with_reducible exact ih0 _ _ _ _)
      | (with_reducible exact sim_Run.mono _ _)
      | (with_reducible exact sim_right.mono _ _)
      | (with_reducible exact LeO.refl _)
      | (with_reducible exact LeO.none _)
      | (with_reducible refine LeO.ite ?_ ?_)
      | (with_reducible refine LeO.bind ?_ (fun _ => ?_))
      | exact ih0 _ _ _ _
      | exact sim_Run.mono _ _
      | exact sim_right.mono _ _
      | exact LeO.none _
      | refine LeO.ite ?_ ?_
      | refine LeO.bind ?_ (fun _ => ?_)
theorem sim_Late.mono : ∀ a0 k, LeO (sim_Late.f k a0) (sim_Late.f (k + 1) a0) := by
  intro a0 k
  have ih0 := sim_Late.mono_l k
  unfold sim_Late.f
  repeat' first
      | (with_reducible exact ih0 _ _ _ _)
      | (with_reducible exact sim_Run.mono _ _)
      | (with_reducible exact sim_right.mono _ _)
      | (with_reducible exact LeO.refl _)
      | (with_reducible exact LeO.none _)
      | (with_reducible refine LeO.ite ?_ ?_)
      | (with_reducible refine LeO.bind ?_ (fun _ => ?_))
      | exact ih0 _ _ _ _
      | exact sim_Run.mono _ _
      | exact sim_right.mono _ _
      | exact LeO.none _
      | refine LeO.ite ?_ ?_
      | refine LeO.bind ?_ (fun _ => ?_)
set_option maxHeartbeats 8000000 in
set_option maxRecDepth 100000 in
theorem sim_Late.calls (k : Nat) (A0 : Option Addr) (c0 : Nat) (l0 : List (S31)) (r : Bool) (w : World) (hr0 : Kd.C k31 w A0 l0.length l0) (hc0 : l0.length ≤ c0) (h : sim_Late.f k l0 = some r) :
    Calls Try.prog 28 #[.slice A0 l0.length c0] w fun e w' => e = .returned (.bool r) ∧ Below w.heap.size w w' := by
  have HR0 := Aside0.mk hr0
  have HC0 := Aside0.mk hc0
  clear hr0 hc0
  have HB := Aside0.mk (Below.refl w.heap.size w)
  have H : ((sim_right.f k l0).bind fun t265 => (if t265 = true then ((sim_Run.f k l0).bind fun t266 => (sim_Late.l0 k l0 t266 (t266.length : Int) 0)) else (some true))) = some r := h
  clear h
  replace H := Option.bind_eq_some_iff.mp H
  obtain ⟨t265, A20, H⟩ := H
  replace H : (if t265 = true then ((sim_Run.f k l0).bind fun t266 => (sim_Late.l0 k l0 t266 (t266.length : Int) 0)) else (some true)) = some r := H
  have A2 := Aside0.mk A20
  clear A20
  by_cases c3 : t265 = true
  · subst c3
    have H1 : ((sim_Run.f k l0).bind fun t266 => (sim_Late.l0 k l0 t266 (t266.length : Int) 0)) = some r := by rw [if_pos rfl] at H; exact H
    clear H
    have H := H1
    clear H1
    replace H := Option.bind_eq_some_iff.mp H
    obtain ⟨t266, A40, H⟩ := H
    replace H : (sim_Late.l0 k l0 t266 (t266.length : Int) 0) = some r := H
    have A4 := Aside0.mk A40
    clear A40
    have H' := Aside0.mk H
    clear H
    go_enter Try.func28, Try.ntmps28
    go_wp2_with (first | ((with_reducible refine gate_callee (f := 36) rfl ?_); refine goesL_ (some 6) rfl rfl Try.func36 (by kernel_rfl) rfl #[.slice A0 l0.length c0] rfl (by (try simp only [List.map_toArray, List.map_cons, List.map_nil]); first | done | rfl | (simp only [List.length_drop, List.length_take]; rfl)) ?_; (with_reducible refine (sim_right.calls k _ _ l0 true _ ?side1 ?side2 A2.out).mono ?_); (case side1 => repeat (first | exact HR0.out | (with_reducible refine Kd.C_alloc ?_ _) | (with_reducible refine Kd.C_drewN ?_ _) | (with_reducible refine Kd.C_drew ?_))); (case side2 => exact HC0.out); rintro e w5 ⟨rfl, hb⟩; refine ⟨_, rfl, ?_⟩; have n0_ := Aside0.mk (below_step (by repeat (first | (with_reducible first | exact HB.out | apply below_alloc | apply pw_below_drewN | apply below_drew1) | exact HB.out)) hb); clear HB; have HB := n0_; clear n0_; (try clear hb); (try clear hb2); (try clear hk); (try clear hi)) | ((with_reducible refine gate_callee (f := 37) rfl ?_); refine goesL_ (some 9) rfl rfl Try.func37 (by kernel_rfl) rfl #[.slice A0 l0.length c0] rfl (by (try simp only [List.map_toArray, List.map_cons, List.map_nil]); first | done | rfl | (simp only [List.length_drop, List.length_take]; rfl)) ?_; (with_reducible refine (sim_Run.calls k _ _ l0 t266 _ ?side1 ?side2 A4.out).mono ?_); (case side1 => repeat (first | exact (Kd.C_below HR0.out HB.out) | (with_reducible refine Kd.C_alloc ?_ _) | (with_reducible refine Kd.C_drewN ?_ _) | (with_reducible refine Kd.C_drew ?_))); (case side2 => exact HC0.out); rintro e w6 ⟨v267, rfl, ho0, hb⟩; refine ⟨_, rfl, ?_⟩; have n0_ := Aside0.mk (Kd.R_lower ho0 (below_size (by repeat (first | (with_reducible first | exact HB.out | apply below_alloc | apply pw_below_drewN | apply below_drew1) | exact HB.out)))); have n1_ := Aside0.mk (below_step (by repeat (first | (with_reducible first | exact HB.out | apply below_alloc | apply pw_below_drewN | apply below_drew1) | exact HB.out)) hb); clear HB; have HO268 := n0_; have HB := n1_; clear n0_ n1_; (try clear hb); (try clear hb2); (try clear hk); (try clear hi); (try clear ho0); obtain ⟨Ao7, co7, eo7⟩ := Kd.R_slice HO268.out; subst eo7))
    go_loopg [11] k (fun kq v11 w' => ∃ (x11_1 : Int), v11 = .int .i64 x11_1 ∧ Aside0 (sim_Late.l0 kq l0 t266 (t266.length : Int) x11_1 = some r) ∧ Aside0 (kq ≤ k) ∧ Aside0 (Kd.R (Kd.int .i64) 3 w' w.heap.size (fun _ => True) (.slice Ao7 t266.length co7) t266) ∧ Aside0 (Below w.heap.size w w'))
    case atStart => exact ⟨(0), (by first | rfl | (simp; done) | (simp [*]; done)), H', ⟨Nat.le_refl _⟩, ⟨by (with_reducible repeat (first | apply Kd.R_alloc | apply Kd.R_drewN | apply Kd.R_drew)); exact HO268.out⟩, ⟨by repeat (first | (with_reducible first | exact HB.out | apply below_alloc | apply pw_below_drewN | apply below_drew1) | exact HB.out)⟩⟩
    case round =>
      clear H'
      try clear c2
      try clear p2
      try clear c3
      obtain ⟨x11_1, rfl, HA, HK1, HO_9, HB⟩ := hrel
      cases gk with
      | zero => exact absurd HA.out (by simp [sim_Late.l0])
      | succ k1 =>
        have H := HA.out
        clear HA
        simp only [sim_Late.l0] at H
        by_cases c8 : x11_1 < (t266.length : Int)
        · rw [if_pos c8] at H
          have c8b0 : decide (x11_1 < (t266.length : Int)) = true := decide_eq_true c8
          clear c8
          by_cases c9 : 0 ≤ x11_1
          · rw [if_pos c9] at H
            have c9b0 : decide (0 ≤ x11_1) = true := decide_eq_true c9
            clear c9
            by_cases c10 : x11_1 < (t266.length : Int)
            · rw [if_pos c10] at H
              have c10b0 : decide (x11_1 < (t266.length : Int)) = true := decide_eq_true c10
              clear c10
              by_cases c11 : x11_1 < (l0.length : Int)
              · rw [if_pos c11] at H
                have c11b0 : decide (x11_1 < (l0.length : Int)) = true := decide_eq_true c11
                clear c11
                by_cases c12 : (rd t266 x11_1) > ((rd_T31 l0 x11_1).f1)
                · rw [if_pos c12] at H
                  have c12b0 : decide (((rd_T31 l0 x11_1).f1) < (rd t266 x11_1)) = true := decide_eq_true c12
                  clear c12
                  obtain rfl := Option.some.inj H
                  have p269 : 0 ≤ (x11_1 : Int) := of_decide_eq_true (by first | (with_reducible assumption) | assumption)
                  have q269 : x11_1 < (t266.length : Int) := of_decide_eq_true (by first | (with_reducible assumption) | assumption)
                  obtain ⟨ad269, e269, hx269_0⟩ := Kd.at_int (Kd.R_reads' HO_9.out).2.2 x11_1 p269 q269
                  cases e269
                  replace p269 := eq_true p269
                  replace q269 := eq_true q269
                  have p270 : 0 ≤ (x11_1 : Int) := of_decide_eq_true (by first | (with_reducible assumption) | assumption)
                  have q270 : x11_1 < (l0.length : Int) := of_decide_eq_true (by first | (with_reducible assumption) | assumption)
                  obtain ⟨ad270, e270, hx270_0, hx270_1, hx270_2⟩ := at_T31 HR0.out x11_1 p270 q270
                  cases e270
                  replace hx270_0 := (HB.out.cell (World.block_lt_of_cell? w _ hx270_0)).trans hx270_0
                  replace hx270_1 := (HB.out.cell (World.block_lt_of_cell? w _ hx270_1)).trans hx270_1
                  replace hx270_2 := (HB.out.cell (World.block_lt_of_cell? w _ hx270_2)).trans hx270_2
                  replace p270 := eq_true p270
                  replace q270 := eq_true q270
                  go_wp2
                  go_ret
                  exact ⟨by first | rfl | (simp [errW_none, errW_some] <;> rfl) | (simp [*, errW_none, errW_some] <;> rfl), by repeat (first | (with_reducible first | exact HB.out | apply below_alloc | apply pw_below_drewN | apply below_drew1) | exact HB.out)⟩
                · rw [if_neg c12] at H
                  have c12b0 : decide (((rd_T31 l0 x11_1).f1) < (rd t266 x11_1)) = false := decide_eq_false c12
                  clear c12
                  have H' := Aside0.mk H
                  clear H
                  have p269 : 0 ≤ (x11_1 : Int) := of_decide_eq_true (by first | (with_reducible assumption) | assumption)
                  have q269 : x11_1 < (t266.length : Int) := of_decide_eq_true (by first | (with_reducible assumption) | assumption)
                  obtain ⟨ad269, e269, hx269_0⟩ := Kd.at_int (Kd.R_reads' HO_9.out).2.2 x11_1 p269 q269
                  cases e269
                  replace p269 := eq_true p269
                  replace q269 := eq_true q269
                  have p270 : 0 ≤ (x11_1 : Int) := of_decide_eq_true (by first | (with_reducible assumption) | assumption)
                  have q270 : x11_1 < (l0.length : Int) := of_decide_eq_true (by first | (with_reducible assumption) | assumption)
                  obtain ⟨ad270, e270, hx270_0, hx270_1, hx270_2⟩ := at_T31 HR0.out x11_1 p270 q270
                  cases e270
                  replace hx270_0 := (HB.out.cell (World.block_lt_of_cell? w _ hx270_0)).trans hx270_0
                  replace hx270_1 := (HB.out.cell (World.block_lt_of_cell? w _ hx270_1)).trans hx270_1
                  replace hx270_2 := (HB.out.cell (World.block_lt_of_cell? w _ hx270_2)).trans hx270_2
                  replace p270 := eq_true p270
                  replace q270 := eq_true q270
                  go_wp2
                  go_roundg k1
                  case measure => have := HK1.out; omega
                  case rel => exact ⟨(wrap64 (x11_1 + 1)), (by first | rfl | (simp; done) | (simp [*]; done)), H', ⟨by have := HK1.out; omega⟩, ⟨by (with_reducible repeat (first | apply Kd.R_alloc | apply Kd.R_drewN | apply Kd.R_drew)); exact HO_9.out⟩, ⟨by repeat (first | (with_reducible first | exact HB.out | apply below_alloc | apply pw_below_drewN | apply below_drew1) | exact HB.out)⟩⟩
              · rw [if_neg c11] at H
                exact absurd H (by simp)
            · rw [if_neg c10] at H
              exact absurd H (by simp)
          · rw [if_neg c9] at H
            exact absurd H (by simp)
        · rw [if_neg c8] at H
          have c8b0 : decide (x11_1 < (t266.length : Int)) = false := decide_eq_false c8
          clear c8
          obtain rfl := Option.some.inj H
          go_wp2
          go_ret
          exact ⟨by first | rfl | (simp [errW_none, errW_some] <;> rfl) | (simp [*, errW_none, errW_some] <;> rfl), by repeat (first | (with_reducible first | exact HB.out | apply below_alloc | apply pw_below_drewN | apply below_drew1) | exact HB.out)⟩
  · replace c3 := Bool.eq_false_iff.mpr c3
    subst c3
    have H1 : (some true) = some r := by rw [if_neg (show ¬ (false = true) by decide)] at H; exact H
    clear H
    have H := H1
    clear H1
    obtain rfl := Option.some.inj H
    go_enter Try.func28, Try.ntmps28
    go_wp2_with (first | ((with_reducible refine gate_callee (f := 36) rfl ?_); refine goesL_ (some 6) rfl rfl Try.func36 (by kernel_rfl) rfl #[.slice A0 l0.length c0] rfl (by (try simp only [List.map_toArray, List.map_cons, List.map_nil]); first | done | rfl | (simp only [List.length_drop, List.length_take]; rfl)) ?_; (with_reducible refine (sim_right.calls k _ _ l0 false _ ?side1 ?side2 A2.out).mono ?_); (case side1 => repeat (first | exact HR0.out | (with_reducible refine Kd.C_alloc ?_ _) | (with_reducible refine Kd.C_drewN ?_ _) | (with_reducible refine Kd.C_drew ?_))); (case side2 => exact HC0.out); rintro e w13 ⟨rfl, hb⟩; refine ⟨_, rfl, ?_⟩; have n0_ := Aside0.mk (below_step (by repeat (first | (with_reducible first | exact HB.out | apply below_alloc | apply pw_below_drewN | apply below_drew1) | exact HB.out)) hb); clear HB; have HB := n0_; clear n0_; (try clear hb); (try clear hb2); (try clear hk); (try clear hi)))
    go_ret
    exact ⟨by first | rfl | (simp [errW_none, errW_some] <;> rfl) | (simp [*, errW_none, errW_some] <;> rfl), by repeat (first | (with_reducible first | exact HB.out | apply below_alloc | apply pw_below_drewN | apply below_drew1) | exact HB.out)⟩

end Go.Proofs.Ytdjmcjfdkcckoaa.F
