-- Told by the kit's print.py out of this seat's translation, for this session's own texts (not a PRINTED file).
import Derived.Test.YtonlaboeodddeaaFx0
import Derived.Test.YtonlaboeodddeaaFx10
namespace Go.Proofs.Ytonlaboeodddeaa.F
open Go.RowKit Go.Proofs.YtonlaboeodddeaaW.PrintWords Go.Proofs.YtonlaboeodddeaaW.PrintLast Go.Proofs.YtonlaboeodddeaaW.PrintMore
attribute [local go_sem] max2_int min2_int max_two min_two max_three min_three max_four min_four   -- for this text's walks alone
set_option linter.unusedVariables false
set_option linter.unusedSimpArgs false

/-! ### fix_Util: function 29 -/
def fix_Util.f (a0 : Int) (a1 : Int) : Option (Int) := if a1 < 1 then (some 1099511627776) else ((fix_clamp_int.f a0 0 536870912).bind fun t144 => (if a1 = 0 then (none) else (some (wrap64 ((wrap64 (Int.tdiv (wrap64 (t144 * 4294967296)) a1)) + (mn (Int.tmod (wrap64 (t144 * 4294967296)) a1) 1))))))
set_option maxHeartbeats 8000000 in
set_option maxRecDepth 100000 in
theorem fix_Util.calls (a0 : Int) (a1 : Int) (r : Int) (w : World) (h : fix_Util.f a0 a1 = some r) :
    Calls Try.prog 29 #[.int .i64 a0, .int .i64 a1] w fun e w' => e = .returned (.int .i64 r) ∧ Below w.heap.size w w' := by
  have HB := Aside0.mk (Below.refl w.heap.size w)
  have H : (if a1 < 1 then (some 1099511627776) else ((fix_clamp_int.f a0 0 536870912).bind fun t144 => (if a1 = 0 then (none) else (some (wrap64 ((wrap64 (Int.tdiv (wrap64 (t144 * 4294967296)) a1)) + (mn (Int.tmod (wrap64 (t144 * 4294967296)) a1) 1))))))) = some r := h
  clear h
  by_cases c3 : a1 < 1
  · rw [if_pos c3] at H
    have c3b0 : decide (a1 < 1) = true := decide_eq_true c3
    clear c3
    obtain rfl := Option.some.inj H
    go_enter Try.func29, Try.ntmps29
    go_wp2
    repeat (go_quiet (fail); try go_wp2)
    go_ret
    exact ⟨by first | rfl | (simp [errW_none, errW_some] <;> rfl) | (simp [*, errW_none, errW_some] <;> rfl), by repeat (first | (with_reducible first | exact HB.out | apply below_alloc | apply pw_below_drewN | apply below_drew1) | exact HB.out)⟩
  · rw [if_neg c3] at H
    have c3b0 : decide (a1 < 1) = false := decide_eq_false c3
    clear c3
    replace H := Option.bind_eq_some_iff.mp H
    obtain ⟨t144, A40, H⟩ := H
    replace H : (if a1 = 0 then (none) else (some (wrap64 ((wrap64 (Int.tdiv (wrap64 (t144 * 4294967296)) a1)) + (mn (Int.tmod (wrap64 (t144 * 4294967296)) a1) 1))))) = some r := H
    have A4 := Aside0.mk A40
    clear A40
    by_cases c5 : a1 = 0
    · rw [if_pos c5] at H
      exact absurd H (by simp)
    · rw [if_neg c5] at H
      have c5b0 : (a1 == 0) = false := beq_eq_false_iff_ne.mpr c5
      have c5b1 : (a1 != 0) = true := bne_iff_ne.mpr c5
      obtain ⟨ji6, hji6⟩ : ∃ j_ : Int, (mn (Int.tmod (wrap64 (t144 * 4294967296)) a1) 1) = j_ := ⟨_, rfl⟩
      replace H : (some (wrap64 ((wrap64 (Int.tdiv (wrap64 (t144 * 4294967296)) a1)) + (ji6)))) = some r := by first | (rw [hji6] at H; exact H) | (simp only [hji6] at H ⊢; exact H)
      (try rw [hji6] at A4)
      (try (have hji6h : ji6 ≤ 1 := by (rw [← hji6]; unfold mn; (repeat' split) <;> omega)))
      (try (have hji6g : ji6 ≤ 64 := by omega))
      have hji6_ : (if 1 < (Int.tmod (wrap64 (t144 * 4294967296)) a1) then 1 else (Int.tmod (wrap64 (t144 * 4294967296)) a1)) = ji6 := hji6
      obtain rfl := Option.some.inj H
      go_enter Try.func29, Try.ntmps29
      go_wp2_with (first | (go_at_call 36; (with_reducible refine (fix_clamp_int.calls a0 0 536870912 t144 _ A4.out).mono ?_); rintro e w7 ⟨rfl, hb⟩; have n0_ := Aside0.mk (below_step (by repeat (first | (with_reducible first | exact HB.out | apply below_alloc | apply pw_below_drewN | apply below_drew1) | exact HB.out)) hb); clear HB; have HB := n0_; clear n0_; (try clear hb); (try clear hb2); (try clear hk); (try clear hi)))
      repeat (go_quiet (first | (go_at_call 36; (with_reducible refine (fix_clamp_int.calls a0 0 536870912 t144 _ A4.out).mono ?_); rintro e w7 ⟨rfl, hb⟩; have n0_ := Aside0.mk (below_step (by repeat (first | (with_reducible first | exact HB.out | apply below_alloc | apply pw_below_drewN | apply below_drew1) | exact HB.out)) hb); clear HB; have HB := n0_; clear n0_; (try clear hb); (try clear hb2); (try clear hk); (try clear hi))); try go_wp2_with (first | (go_at_call 36; (with_reducible refine (fix_clamp_int.calls a0 0 536870912 t144 _ A4.out).mono ?_); rintro e w7 ⟨rfl, hb⟩; have n0_ := Aside0.mk (below_step (by repeat (first | (with_reducible first | exact HB.out | apply below_alloc | apply pw_below_drewN | apply below_drew1) | exact HB.out)) hb); clear HB; have HB := n0_; clear n0_; (try clear hb); (try clear hb2); (try clear hk); (try clear hi))))
      go_ret
      exact ⟨by first | rfl | (simp [errW_none, errW_some] <;> rfl) | (simp only [← hji6]; first | rfl | (simp [errW_none, errW_some] <;> rfl)) | (simp [*, errW_none, errW_some] <;> rfl), by repeat (first | (with_reducible first | exact HB.out | apply below_alloc | apply pw_below_drewN | apply below_drew1) | exact HB.out)⟩

end Go.Proofs.Ytonlaboeodddeaa.F
