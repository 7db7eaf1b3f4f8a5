/- Of tasks that fit, without a job, there is time for the longest hold-up ahead of each moment at which a job may have its deadline. Conditions: none. -/
import Derived.Test.YtchlbnlhjllcbaaZIdl3
import Derived.Deep.RegionHeld3
import Derived.Deep.QuietTactic
import Derived.BigQuiet
import Derived.Outline
import Derived.Test.YtchlbnlhjllcbaaRows
import Derived.WalkKit
import Derived.ProofKit
import Derived.OpenShut
import Derived.ShutString
import Derived.ChangeOld
import Derived.Below
import Derived.SizedLaws
namespace Go.Proofs.Ytchlbnlhjllcbaa.F
open Go.RowKit Go.Proofs.YtchlbnlhjllcbaaW.PrintWords Go.Proofs.YtchlbnlhjllcbaaW.PrintLast Go.Proofs.YtchlbnlhjllcbaaW.PrintMore
attribute [local go_sem] max2_int min2_int max_two min_two max_three min_three max_four min_four   -- for this text's walks alone
set_option linter.unusedVariables false
set_option linter.unusedSimpArgs false
def dormouselaw15_answers.f  : Option (Bool) := (some (([(⟨1, 0⟩ : S58)] : List (S58)) : List (S58))).bind fun y251 => ((some (([(⟨4, 1, ([] : List Int), ([] : List Int)⟩ : S36)] : List (S36)) : List (S36))).bind fun y255 => ((slack_Least.f y251 ([] : List (S68)) ([] : List (S71)) 0 0 0 0 0 50 y255 (([0] : List Int)) ([] : List (S38)) ([] : List (S73)) 0 0).bind fun t261 => (if t261 = 12884901888 then ((slack_At.f y251 ([] : List (S68)) ([] : List (S71)) 0 0 0 0 0 50 y255 (([0] : List Int)) ([] : List (S38)) ([] : List (S73)) 0 8).bind fun t265 => (if t265 = 25769803776 then ((slack_Least.f y251 ([] : List (S68)) ([] : List (S71)) 0 0 0 0 0 50 ([] : List (S36)) ([] : List Int) ([] : List (S38)) ([] : List (S73)) 0 0).bind fun t266 => (some (t266 == 4611686018427387904))) else (some false))) else (some false))))
set_option maxHeartbeats 8000000 in
set_option maxRecDepth 100000 in
theorem dormouselaw15_answers.calls  (r : Bool) (w : World) (h : dormouselaw15_answers.f  = some r) :
    Calls Try.prog 10 #[] w fun e w' => e = .returned (.bool r) ∧ Below w.heap.size w w' := by
  have hu58 := Try.underlying58
  have hu26 := Try.underlying26
  have hu36 := Try.underlying36
  have HB := Aside0.mk (Below.refl w.heap.size w)
  have H : ((some (([(⟨1, 0⟩ : S58)] : List (S58)) : List (S58))).bind fun y251 => ((some (([(⟨4, 1, ([] : List Int), ([] : List Int)⟩ : S36)] : List (S36)) : List (S36))).bind fun y255 => ((slack_Least.f y251 ([] : List (S68)) ([] : List (S71)) 0 0 0 0 0 50 y255 (([0] : List Int)) ([] : List (S38)) ([] : List (S73)) 0 0).bind fun t261 => (if t261 = 12884901888 then ((slack_At.f y251 ([] : List (S68)) ([] : List (S71)) 0 0 0 0 0 50 y255 (([0] : List Int)) ([] : List (S38)) ([] : List (S73)) 0 8).bind fun t265 => (if t265 = 25769803776 then ((slack_Least.f y251 ([] : List (S68)) ([] : List (S71)) 0 0 0 0 0 50 ([] : List (S36)) ([] : List Int) ([] : List (S38)) ([] : List (S73)) 0 0).bind fun t266 => (some (t266 == 4611686018427387904))) else (some false))) else (some false))))) = some r := h
  clear h
  obtain ⟨y251, hy251⟩ : ∃ y_ : List (S58), y_ = (([(⟨1, 0⟩ : S58)] : List (S58))) := ⟨_, rfl⟩
  replace H : ((some (([(⟨4, 1, ([] : List Int), ([] : List Int)⟩ : S36)] : List (S36)) : List (S36))).bind fun y255 => ((slack_Least.f y251 ([] : List (S68)) ([] : List (S71)) 0 0 0 0 0 50 y255 (([0] : List Int)) ([] : List (S38)) ([] : List (S73)) 0 0).bind fun t261 => (if t261 = 12884901888 then ((slack_At.f y251 ([] : List (S68)) ([] : List (S71)) 0 0 0 0 0 50 y255 (([0] : List Int)) ([] : List (S38)) ([] : List (S73)) 0 8).bind fun t265 => (if t265 = 25769803776 then ((slack_Least.f y251 ([] : List (S68)) ([] : List (S71)) 0 0 0 0 0 50 ([] : List (S36)) ([] : List Int) ([] : List (S38)) ([] : List (S73)) 0 0).bind fun t266 => (some (t266 == 4611686018427387904))) else (some false))) else (some false)))) = some r := by first | (rw [hy251]; with_reducible exact H) | (have H2_ := (Option.bind_some _ _).symm.trans H; rw [hy251]; with_reducible exact H2_) | (have H2_ := (Option.bind_some _ _).symm.trans H; with_reducible exact H2_) | with_reducible exact H | (rw [hy251]; exact H) | exact H
  have Ny251 := Aside0.mk hy251
  clear hy251
  obtain ⟨y255, hy255⟩ : ∃ y_ : List (S36), y_ = (([(⟨4, 1, ([] : List Int), ([] : List Int)⟩ : S36)] : List (S36))) := ⟨_, rfl⟩
  replace H : ((slack_Least.f y251 ([] : List (S68)) ([] : List (S71)) 0 0 0 0 0 50 y255 (([0] : List Int)) ([] : List (S38)) ([] : List (S73)) 0 0).bind fun t261 => (if t261 = 12884901888 then ((slack_At.f y251 ([] : List (S68)) ([] : List (S71)) 0 0 0 0 0 50 y255 (([0] : List Int)) ([] : List (S38)) ([] : List (S73)) 0 8).bind fun t265 => (if t265 = 25769803776 then ((slack_Least.f y251 ([] : List (S68)) ([] : List (S71)) 0 0 0 0 0 50 ([] : List (S36)) ([] : List Int) ([] : List (S38)) ([] : List (S73)) 0 0).bind fun t266 => (some (t266 == 4611686018427387904))) else (some false))) else (some false))) = some r := by first | (rw [hy255]; with_reducible exact H) | (have H2_ := (Option.bind_some _ _).symm.trans H; rw [hy255]; with_reducible exact H2_) | (have H2_ := (Option.bind_some _ _).symm.trans H; with_reducible exact H2_) | with_reducible exact H | (rw [hy255]; exact H) | exact H
  have Ny255 := Aside0.mk hy255
  clear hy255
  obtain ⟨y258, hy258⟩ : ∃ y_ : List Int, y_ = (([0] : List Int)) := ⟨_, rfl⟩
  replace H : ((slack_Least.f y251 ([] : List (S68)) ([] : List (S71)) 0 0 0 0 0 50 y255 y258 ([] : List (S38)) ([] : List (S73)) 0 0).bind fun t261 => (if t261 = 12884901888 then ((slack_At.f y251 ([] : List (S68)) ([] : List (S71)) 0 0 0 0 0 50 y255 (([0] : List Int)) ([] : List (S38)) ([] : List (S73)) 0 8).bind fun t265 => (if t265 = 25769803776 then ((slack_Least.f y251 ([] : List (S68)) ([] : List (S71)) 0 0 0 0 0 50 ([] : List (S36)) ([] : List Int) ([] : List (S38)) ([] : List (S73)) 0 0).bind fun t266 => (some (t266 == 4611686018427387904))) else (some false))) else (some false))) = some r := by first | (rw [hy258]; with_reducible exact H) | (have H2_ := (Option.bind_some _ _).symm.trans H; rw [hy258]; with_reducible exact H2_) | (have H2_ := (Option.bind_some _ _).symm.trans H; with_reducible exact H2_) | with_reducible exact H | (rw [hy258]; exact H) | exact H
  have Ny258 := Aside0.mk hy258
  clear hy258
  replace H := Option.bind_eq_some_iff.mp H
  obtain ⟨t261, A10, H⟩ := H
  replace H : (if t261 = 12884901888 then ((slack_At.f y251 ([] : List (S68)) ([] : List (S71)) 0 0 0 0 0 50 y255 (([0] : List Int)) ([] : List (S38)) ([] : List (S73)) 0 8).bind fun t265 => (if t265 = 25769803776 then ((slack_Least.f y251 ([] : List (S68)) ([] : List (S71)) 0 0 0 0 0 50 ([] : List (S36)) ([] : List Int) ([] : List (S38)) ([] : List (S73)) 0 0).bind fun t266 => (some (t266 == 4611686018427387904))) else (some false))) else (some false)) = some r := H
  have A1 := Aside0.mk A10
  clear A10
  by_cases c2 : t261 = 12884901888
  · rw [if_pos c2] at H
    have c2b0 : (t261 == 12884901888) = true := beq_iff_eq.mpr c2
    have c2b1 : (t261 != 12884901888) = false := bne_eq_false_iff_eq.mpr c2
    clear c2
    obtain ⟨y262, hy262⟩ : ∃ y_ : List Int, y_ = (([0] : List Int)) := ⟨_, rfl⟩
    replace H : ((slack_At.f y251 ([] : List (S68)) ([] : List (S71)) 0 0 0 0 0 50 y255 y262 ([] : List (S38)) ([] : List (S73)) 0 8).bind fun t265 => (if t265 = 25769803776 then ((slack_Least.f y251 ([] : List (S68)) ([] : List (S71)) 0 0 0 0 0 50 ([] : List (S36)) ([] : List Int) ([] : List (S38)) ([] : List (S73)) 0 0).bind fun t266 => (some (t266 == 4611686018427387904))) else (some false))) = some r := by first | (rw [hy262]; with_reducible exact H) | (have H2_ := (Option.bind_some _ _).symm.trans H; rw [hy262]; with_reducible exact H2_) | (have H2_ := (Option.bind_some _ _).symm.trans H; with_reducible exact H2_) | with_reducible exact H | (rw [hy262]; exact H) | exact H
    have Ny262 := Aside0.mk hy262
    clear hy262
    replace H := Option.bind_eq_some_iff.mp H
    obtain ⟨t265, A30, H⟩ := H
    replace H : (if t265 = 25769803776 then ((slack_Least.f y251 ([] : List (S68)) ([] : List (S71)) 0 0 0 0 0 50 ([] : List (S36)) ([] : List Int) ([] : List (S38)) ([] : List (S73)) 0 0).bind fun t266 => (some (t266 == 4611686018427387904))) else (some false)) = some r := H
    have A3 := Aside0.mk A30
    clear A30
    by_cases c4 : t265 = 25769803776
    · rw [if_pos c4] at H
      have c4b0 : (t265 == 25769803776) = true := beq_iff_eq.mpr c4
      have c4b1 : (t265 != 25769803776) = false := bne_eq_false_iff_eq.mpr c4
      clear c4
      replace H := Option.bind_eq_some_iff.mp H
      obtain ⟨t266, A50, H⟩ := H
      replace H : (some (t266 == 4611686018427387904)) = some r := H
      have A5 := Aside0.mk A50
      clear A50
      obtain rfl := Option.some.inj H
      go_enter Try.func10, Try.ntmps10
      go_wp2_with (first | ((with_reducible refine gate_dst (N := 4) rfl ?_); (try (refine gate_guard (by rfl) ?_; dsimp only)); refine Kd.R_lit k58 _ 58 ?hg (N := 4) ?hd (xs := ([(⟨1, 0⟩ : S58)] : List (S58))) (inner := [.int .i64 1, .int .i64 0]) (ok := fun _ => True) (okp := fun _ => True) ?hr ?hp (fun _ hk => hk) trivial (Below.refl _ _) (Nat.le_refl _) (by simp) ?_; (case hd => rfl); (case hg => rfl); (case hr => first | (go_simp; done) | (go_simp; rfl)); (case hp => exact (Reps.c2 (show Kd.M k58 _ _ _ (⟨1, 0⟩ : S58) [.int .i64 1, .int .i64 0] from (k58_mkM _ _ _ (⟨1, 0⟩ : S58) )) (Reps.none _ _))); intro v252 w6 ho7 hb hg_ hnew_; clear hg_ hnew_; (first | rw [← Ny251.out] at ho7 | (simp only [Int.reduceToNat] at ho7; rw [← Ny251.out] at ho7)); have n0_ := Aside0.mk (Kd.R_lower ho7 (below_size (by repeat (first | (with_reducible first | exact HB.out | apply below_alloc | apply pw_below_drewN | apply below_drew1) | exact HB.out)))); have n1_ := Aside0.mk (below_step (by repeat (first | (with_reducible first | exact HB.out | apply below_alloc | apply pw_below_drewN | apply below_drew1) | exact HB.out)) hb); clear HB; have HO253 := n0_; have HB := n1_; clear n0_ n1_; clear hb ho7; obtain ⟨Ao8, co8, eo8⟩ := Kd.R_slice HO253.out; subst eo8) | ((with_reducible refine gate_dst (N := 1) rfl ?_); (try (refine gate_guard (by rfl) ?_; dsimp only)); refine box_event ?hg (N := 1) ?hd (cs := #[.slice none 0 0, .slice none 0 0, .slice none 0 0, .int .i64 0, .int .i64 0, .int .i64 0, .int .i64 0, .int .i64 0, .int .i64 0]) (t := 26) ?hr ?_; (case hd => rfl); (case hg => rfl); (case hr => first | (go_simp; done) | (go_simp; rfl)); intro gb254 hg w9 hbox hb; have n0_ := Aside0.mk (Kd.R_below (by (with_reducible repeat (first | apply Kd.R_alloc | apply Kd.R_drewN | apply Kd.R_drew)); exact HO253.out) hb); have n1_ := Aside0.mk (below_step (by repeat (first | (with_reducible first | exact HB.out | apply below_alloc | apply pw_below_drewN | apply below_drew1) | exact HB.out)) hb); have n2_ := Aside0.mk (hbox); have n3_ := Aside0.mk ((by rw [hg]; exact (below_size (by repeat (first | (with_reducible first | exact HB.out | apply below_alloc | apply pw_below_drewN | apply below_drew1) | exact HB.out))) : w.heap.size ≤ gb254)); have n4_ := Aside0.mk ((by rw [hg]; exact (below_size (by repeat (first | (with_reducible first | exact HB.out | apply below_alloc | apply pw_below_drewN | apply below_drew1) | exact HB.out))) : w.heap.size ≤ gb254)); clear HO253; clear HB; have HO253 := n0_; have HB := n1_; have BK254 := n2_; have GW254 := n3_; have GE254 := n4_; clear n0_ n1_ n2_ n3_ n4_; clear hb hbox hg; have hcz10_0 : w9.cell? ⟨gb254, 0, none⟩ = some (.slice none 0 0) := (blk_cell BK254.out 0).trans rfl; have hcz10_1 : w9.cell? ⟨gb254, 1, none⟩ = some (.slice none 0 0) := (blk_cell BK254.out 1).trans rfl; have hcz10_2 : w9.cell? ⟨gb254, 2, none⟩ = some (.slice none 0 0) := (blk_cell BK254.out 2).trans rfl; have hcz10_3 : w9.cell? ⟨gb254, 3, none⟩ = some (.int .i64 0) := (blk_cell BK254.out 3).trans rfl; have hcz10_4 : w9.cell? ⟨gb254, 4, none⟩ = some (.int .i64 0) := (blk_cell BK254.out 4).trans rfl; have hcz10_5 : w9.cell? ⟨gb254, 5, none⟩ = some (.int .i64 0) := (blk_cell BK254.out 5).trans rfl; have hcz10_6 : w9.cell? ⟨gb254, 6, none⟩ = some (.int .i64 0) := (blk_cell BK254.out 6).trans rfl; have hcz10_7 : w9.cell? ⟨gb254, 7, none⟩ = some (.int .i64 0) := (blk_cell BK254.out 7).trans rfl; have hcz10_8 : w9.cell? ⟨gb254, 8, none⟩ = some (.int .i64 0) := (blk_cell BK254.out 8).trans rfl; have hfz10_0 := blk_frozen BK254.out 0; have hfz10_1 := blk_frozen BK254.out 1; have hfz10_2 := blk_frozen BK254.out 2; have hfz10_3 := blk_frozen BK254.out 3; have hfz10_4 := blk_frozen BK254.out 4; have hfz10_5 := blk_frozen BK254.out 5; have hfz10_6 := blk_frozen BK254.out 6; have hfz10_7 := blk_frozen BK254.out 7; have hfz10_8 := blk_frozen BK254.out 8) | ((with_reducible refine gate_dst (N := 7) rfl ?_); (try (refine gate_guard (by rfl) ?_; dsimp only)); refine Kd.S_lit k36 _ 36 ?hg (N := 7) ?hd (xs := ([(⟨4, 1, ([] : List Int), ([] : List Int)⟩ : S36)] : List (S36))) (inner := [.int .i64 4, .int .i64 1, .slice none 0 0, .slice none 0 0]) (ok := fun _ => True) (okp := fun _ => True) ?hr ?hp (fun _ hk => hk) trivial (Below.refl _ _) (Nat.le_refl _) (by simp) ?_; (case hd => rfl); (case hg => rfl); (case hr => first | (go_simp; done) | (go_simp; rfl)); (case hp => exact (Reps.c4 (show Kd.M k36 _ _ _ (⟨4, 1, ([] : List Int), ([] : List Int)⟩ : S36) [.int .i64 4, .int .i64 1, .slice none 0 0, .slice none 0 0] from (k36_mkM _ _ _ (⟨4, 1, ([] : List Int), ([] : List Int)⟩ : S36) (Kd.R_nil _ _ _ _ _) (Kd.R_nil _ _ _ _ _))) (Reps.none _ _))); intro v256 w11 ho12 hb hg_ hnew_; clear hg_ hnew_; (first | rw [← Ny255.out] at ho12 | (simp only [Int.reduceToNat] at ho12; rw [← Ny255.out] at ho12)); have n0_ := Aside0.mk (Kd.R_below (by (with_reducible repeat (first | apply Kd.R_alloc | apply Kd.R_drewN | apply Kd.R_drew)); exact (Kd.R_mono (Kd.R_far (p := ⟨gb254, 8, none⟩) (Kd.R_far (p := ⟨gb254, 7, none⟩) (Kd.R_far (p := ⟨gb254, 6, none⟩) (Kd.R_far (p := ⟨gb254, 5, none⟩) (Kd.R_far (p := ⟨gb254, 4, none⟩) (Kd.R_far (p := ⟨gb254, 3, none⟩) (Kd.R_far (p := ⟨gb254, 2, none⟩) (Kd.R_far (p := ⟨gb254, 1, none⟩) (Kd.R_far (p := ⟨gb254, 0, none⟩) (Kd.R_types HO253.out BK254.out (by decide)) (fun _ hk => hk.2) (.slice Ao8 y251.length co8)) (fun _ hk => hk.2) (.slice none 0 0)) (fun _ hk => hk.2) (.slice none 0 0)) (fun _ hk => hk.2) (.int .i64 0)) (fun _ hk => hk.2) (.int .i64 0)) (fun _ hk => hk.2) (.int .i64 0)) (fun _ hk => hk.2) (.int .i64 0)) (fun _ hk => hk.2) (.int .i64 0)) (fun _ hk => hk.2) (.int .i64 50)) (fun _ h_ => h_.1))) hb); have n1_ := Aside0.mk (Kd.S_lower ho12 (below_size (by repeat (first | (with_reducible first | exact HB.out | apply below_alloc | apply pw_below_drewN | apply below_drew1 | refine below_set ?_ GE254.out) | exact HB.out)))); have n2_ := Aside0.mk (blk_below (g := gb254) (o := .cells #[.slice Ao8 y251.length co8, .slice none 0 0, .slice none 0 0, .int .i64 0, .int .i64 0, .int .i64 0, .int .i64 0, .int .i64 0, .int .i64 50] 26 (0, 0)) (by (with_reducible repeat (first | refine blk_drewN ?_ _ | refine blk_drew ?_ | refine blk_alloc ?_ _)); refine blk_put (cs := #[.slice Ao8 y251.length co8, .slice none 0 0, .slice none 0 0, .int .i64 0, .int .i64 0, .int .i64 0, .int .i64 0, .int .i64 0, .int .i64 0]) ?_ 8 _ rfl; (with_reducible repeat (first | refine blk_drewN ?_ _ | refine blk_drew ?_ | refine blk_alloc ?_ _)); refine blk_put (cs := #[.slice Ao8 y251.length co8, .slice none 0 0, .slice none 0 0, .int .i64 0, .int .i64 0, .int .i64 0, .int .i64 0, .int .i64 0, .int .i64 0]) ?_ 7 _ rfl; (with_reducible repeat (first | refine blk_drewN ?_ _ | refine blk_drew ?_ | refine blk_alloc ?_ _)); refine blk_put (cs := #[.slice Ao8 y251.length co8, .slice none 0 0, .slice none 0 0, .int .i64 0, .int .i64 0, .int .i64 0, .int .i64 0, .int .i64 0, .int .i64 0]) ?_ 6 _ rfl; (with_reducible repeat (first | refine blk_drewN ?_ _ | refine blk_drew ?_ | refine blk_alloc ?_ _)); refine blk_put (cs := #[.slice Ao8 y251.length co8, .slice none 0 0, .slice none 0 0, .int .i64 0, .int .i64 0, .int .i64 0, .int .i64 0, .int .i64 0, .int .i64 0]) ?_ 5 _ rfl; (with_reducible repeat (first | refine blk_drewN ?_ _ | refine blk_drew ?_ | refine blk_alloc ?_ _)); refine blk_put (cs := #[.slice Ao8 y251.length co8, .slice none 0 0, .slice none 0 0, .int .i64 0, .int .i64 0, .int .i64 0, .int .i64 0, .int .i64 0, .int .i64 0]) ?_ 4 _ rfl; (with_reducible repeat (first | refine blk_drewN ?_ _ | refine blk_drew ?_ | refine blk_alloc ?_ _)); refine blk_put (cs := #[.slice Ao8 y251.length co8, .slice none 0 0, .slice none 0 0, .int .i64 0, .int .i64 0, .int .i64 0, .int .i64 0, .int .i64 0, .int .i64 0]) ?_ 3 _ rfl; (with_reducible repeat (first | refine blk_drewN ?_ _ | refine blk_drew ?_ | refine blk_alloc ?_ _)); refine blk_put (cs := #[.slice Ao8 y251.length co8, .slice none 0 0, .slice none 0 0, .int .i64 0, .int .i64 0, .int .i64 0, .int .i64 0, .int .i64 0, .int .i64 0]) ?_ 2 _ rfl; (with_reducible repeat (first | refine blk_drewN ?_ _ | refine blk_drew ?_ | refine blk_alloc ?_ _)); refine blk_put (cs := #[.slice Ao8 y251.length co8, .slice none 0 0, .slice none 0 0, .int .i64 0, .int .i64 0, .int .i64 0, .int .i64 0, .int .i64 0, .int .i64 0]) ?_ 1 _ rfl; (with_reducible repeat (first | refine blk_drewN ?_ _ | refine blk_drew ?_ | refine blk_alloc ?_ _)); refine blk_put (cs := #[.slice none 0 0, .slice none 0 0, .slice none 0 0, .int .i64 0, .int .i64 0, .int .i64 0, .int .i64 0, .int .i64 0, .int .i64 0]) ?_ 0 _ rfl; (with_reducible repeat (first | refine blk_drewN ?_ _ | refine blk_drew ?_ | refine blk_alloc ?_ _)); exact BK254.out) hb); have n3_ := Aside0.mk (below_step (by repeat (first | (with_reducible first | exact HB.out | apply below_alloc | apply pw_below_drewN | apply below_drew1 | refine below_set ?_ GE254.out) | exact HB.out)) hb); clear HO253; clear BK254; clear HB; have HO253 := n0_; have HO257 := n1_; have BK254 := n2_; have HB := n3_; clear n0_ n1_ n2_ n3_; clear hb ho12; have hcz13_0 : w11.cell? ⟨gb254, 0, none⟩ = some (.slice Ao8 y251.length co8) := (blk_cell BK254.out 0).trans rfl; have hcz13_1 : w11.cell? ⟨gb254, 1, none⟩ = some (.slice none 0 0) := (blk_cell BK254.out 1).trans rfl; have hcz13_2 : w11.cell? ⟨gb254, 2, none⟩ = some (.slice none 0 0) := (blk_cell BK254.out 2).trans rfl; have hcz13_3 : w11.cell? ⟨gb254, 3, none⟩ = some (.int .i64 0) := (blk_cell BK254.out 3).trans rfl; have hcz13_4 : w11.cell? ⟨gb254, 4, none⟩ = some (.int .i64 0) := (blk_cell BK254.out 4).trans rfl; have hcz13_5 : w11.cell? ⟨gb254, 5, none⟩ = some (.int .i64 0) := (blk_cell BK254.out 5).trans rfl; have hcz13_6 : w11.cell? ⟨gb254, 6, none⟩ = some (.int .i64 0) := (blk_cell BK254.out 6).trans rfl; have hcz13_7 : w11.cell? ⟨gb254, 7, none⟩ = some (.int .i64 0) := (blk_cell BK254.out 7).trans rfl; have hcz13_8 : w11.cell? ⟨gb254, 8, none⟩ = some (.int .i64 50) := (blk_cell BK254.out 8).trans rfl; have hfz13_0 := blk_frozen BK254.out 0; have hfz13_1 := blk_frozen BK254.out 1; have hfz13_2 := blk_frozen BK254.out 2; have hfz13_3 := blk_frozen BK254.out 3; have hfz13_4 := blk_frozen BK254.out 4; have hfz13_5 := blk_frozen BK254.out 5; have hfz13_6 := blk_frozen BK254.out 6; have hfz13_7 := blk_frozen BK254.out 7; have hfz13_8 := blk_frozen BK254.out 8) | ((with_reducible refine gate_dst (N := 10) rfl ?_); (try (refine gate_guard (by rfl) ?_; dsimp only)); refine Kd.R_lit (Kd.int .i64) _ 3 ?hg (N := 10) ?hd (xs := ([0] : List Int)) (inner := [.int .i64 0]) (ok := fun _ => True) (okp := fun _ => True) ?hr ?hp (fun _ hk => hk) trivial (Below.refl _ _) (Nat.le_refl _) (by simp) ?_; (case hd => rfl); (case hg => rfl); (case hr => first | (go_simp; done) | (go_simp; rfl)); (case hp => exact (Reps.one (show Kd.M (Kd.int .i64) _ _ _ 0 [.int .i64 0] from rfl) (Reps.none _ _))); intro v259 w14 ho15 hb hg_ hnew_; clear hg_ hnew_; (first | rw [← Ny258.out] at ho15 | (simp only [Int.reduceToNat] at ho15; rw [← Ny258.out] at ho15)); have n0_ := Aside0.mk (Kd.R_below (by (with_reducible repeat (first | apply Kd.R_alloc | apply Kd.R_drewN | apply Kd.R_drew)); exact HO253.out) hb); have n1_ := Aside0.mk (Kd.S_elder' (by (with_reducible repeat (first | apply Kd.S_alloc | apply Kd.S_drewN | apply Kd.S_drew)); exact HO257.out) (Kd.R_base ho15) hb); have n2_ := Aside0.mk (Kd.R_lower ho15 (below_size (by repeat (first | (with_reducible first | exact HB.out | apply below_alloc | apply pw_below_drewN | apply below_drew1 | refine below_set ?_ GE254.out) | exact HB.out)))); have n3_ := Aside0.mk (blk_below (g := gb254) (o := .cells #[.slice Ao8 y251.length co8, .slice none 0 0, .slice none 0 0, .int .i64 0, .int .i64 0, .int .i64 0, .int .i64 0, .int .i64 0, .int .i64 50] 26 (0, 0)) (by (with_reducible repeat (first | refine blk_drewN ?_ _ | refine blk_drew ?_ | refine blk_alloc ?_ _)); exact BK254.out) hb); have n4_ := Aside0.mk (below_step (by repeat (first | (with_reducible first | exact HB.out | apply below_alloc | apply pw_below_drewN | apply below_drew1 | refine below_set ?_ GE254.out) | exact HB.out)) hb); clear HO253; clear HO257; clear BK254; clear HB; have HO253 := n0_; have HO257 := n1_; have HO260 := n2_; have BK254 := n3_; have HB := n4_; clear n0_ n1_ n2_ n3_ n4_; clear hb ho15; obtain ⟨Ao16, co16, eo16⟩ := Kd.S_slice HO257.out; subst eo16; obtain ⟨Ao17, co17, eo17⟩ := Kd.R_slice HO260.out; subst eo17) | ((with_reducible refine gate_callee (f := 25) rfl ?_); refine goesL_ (some 11) rfl rfl Try.func25 (by kernel_rfl) rfl #[.agg #[.slice Ao8 y251.length co8, .slice none 0 0, .slice none 0 0, .int .i64 0, .int .i64 0, .int .i64 0, .int .i64 0, .int .i64 0, .int .i64 50], .slice Ao16 y255.length co16, .slice Ao17 y258.length co17, .slice none 0 0, .slice none 0 0, .int .i64 0, .int .i64 0] rfl (by (try simp only [List.map_toArray, List.map_cons, List.map_nil]); first | done | rfl | (simp only [List.length_drop, List.length_take]; rfl)) ?_; (refine (slack_Least.calls _ _ y251 _ _ ([] : List (S68)) _ _ ([] : List (S71)) 0 0 0 0 0 50 _ _ y255 _ _ y258 _ _ ([] : List (S38)) _ _ ([] : List (S73)) 0 0 t261 _ ?side1 ?side2 ?side3 ?side4 ?side5 ?side6 ?side7 ?side8 ?side9 ?side10 ?side11 ?side12 ?side13 ?side14 A1.out).mono ?_); (case side1 => repeat (first | exact (Kd.R_reads' HO253.out).2.2 | (with_reducible refine Kd.C_alloc ?_ _) | (with_reducible refine Kd.C_drewN ?_ _) | (with_reducible refine Kd.C_drew ?_))); (case side2 => exact (Kd.R_reads' HO253.out).2.1); (case side3 => exact Kd.C_nil _ _); (case side4 => exact Nat.le_refl _); (case side5 => exact Kd.C_nil _ _); (case side6 => exact Nat.le_refl _); (case side7 => repeat (first | exact (Kd.S_reads' HO257.out).2.2 | (with_reducible refine Kd.C_alloc ?_ _) | (with_reducible refine Kd.C_drewN ?_ _) | (with_reducible refine Kd.C_drew ?_))); (case side8 => exact (Kd.S_reads' HO257.out).2.1); (case side9 => repeat (first | exact (Kd.R_reads' HO260.out).2.2 | (with_reducible refine Kd.C_alloc ?_ _) | (with_reducible refine Kd.C_drewN ?_ _) | (with_reducible refine Kd.C_drew ?_))); (case side10 => exact (Kd.R_reads' HO260.out).2.1); (case side11 => exact Kd.C_nil _ _); (case side12 => exact Nat.le_refl _); (case side13 => exact Kd.C_nil _ _); (case side14 => exact Nat.le_refl _); rintro e w18 ⟨rfl, hb⟩; refine ⟨_, rfl, ?_⟩; have n0_ := Aside0.mk (Kd.R_below (by (with_reducible repeat (first | apply Kd.R_alloc | apply Kd.R_drewN | apply Kd.R_drew)); exact HO253.out) hb); have n1_ := Aside0.mk (Kd.S_below (by (with_reducible repeat (first | apply Kd.S_alloc | apply Kd.S_drewN | apply Kd.S_drew)); exact HO257.out) hb); have n2_ := Aside0.mk (Kd.R_below (by (with_reducible repeat (first | apply Kd.R_alloc | apply Kd.R_drewN | apply Kd.R_drew)); exact HO260.out) hb); have n3_ := Aside0.mk (blk_below (g := gb254) (o := .cells #[.slice Ao8 y251.length co8, .slice none 0 0, .slice none 0 0, .int .i64 0, .int .i64 0, .int .i64 0, .int .i64 0, .int .i64 0, .int .i64 50] 26 (0, 0)) (by (with_reducible repeat (first | refine blk_drewN ?_ _ | refine blk_drew ?_ | refine blk_alloc ?_ _)); exact BK254.out) hb); have n4_ := Aside0.mk (below_step (by repeat (first | (with_reducible first | exact HB.out | apply below_alloc | apply pw_below_drewN | apply below_drew1 | refine below_set ?_ GE254.out) | exact HB.out)) hb); clear HO253; clear HO257; clear HO260; clear BK254; clear HB; have HO253 := n0_; have HO257 := n1_; have HO260 := n2_; have BK254 := n3_; have HB := n4_; clear n0_ n1_ n2_ n3_ n4_; (try clear hb); (try clear hb2); (try clear hk); (try clear hi); have hcz19_0 : w18.cell? ⟨gb254, 0, none⟩ = some (.slice Ao8 y251.length co8) := (blk_cell BK254.out 0).trans rfl; have hcz19_1 : w18.cell? ⟨gb254, 1, none⟩ = some (.slice none 0 0) := (blk_cell BK254.out 1).trans rfl; have hcz19_2 : w18.cell? ⟨gb254, 2, none⟩ = some (.slice none 0 0) := (blk_cell BK254.out 2).trans rfl; have hcz19_3 : w18.cell? ⟨gb254, 3, none⟩ = some (.int .i64 0) := (blk_cell BK254.out 3).trans rfl; have hcz19_4 : w18.cell? ⟨gb254, 4, none⟩ = some (.int .i64 0) := (blk_cell BK254.out 4).trans rfl; have hcz19_5 : w18.cell? ⟨gb254, 5, none⟩ = some (.int .i64 0) := (blk_cell BK254.out 5).trans rfl; have hcz19_6 : w18.cell? ⟨gb254, 6, none⟩ = some (.int .i64 0) := (blk_cell BK254.out 6).trans rfl; have hcz19_7 : w18.cell? ⟨gb254, 7, none⟩ = some (.int .i64 0) := (blk_cell BK254.out 7).trans rfl; have hcz19_8 : w18.cell? ⟨gb254, 8, none⟩ = some (.int .i64 50) := (blk_cell BK254.out 8).trans rfl; have hfz19_0 := blk_frozen BK254.out 0; have hfz19_1 := blk_frozen BK254.out 1; have hfz19_2 := blk_frozen BK254.out 2; have hfz19_3 := blk_frozen BK254.out 3; have hfz19_4 := blk_frozen BK254.out 4; have hfz19_5 := blk_frozen BK254.out 5; have hfz19_6 := blk_frozen BK254.out 6; have hfz19_7 := blk_frozen BK254.out 7; have hfz19_8 := blk_frozen BK254.out 8) | ((with_reducible refine gate_dst (N := 16) rfl ?_); (try (refine gate_guard (by rfl) ?_; dsimp only)); refine Kd.R_lit (Kd.int .i64) _ 3 ?hg (N := 16) ?hd (xs := ([0] : List Int)) (inner := [.int .i64 0]) (ok := fun _ => True) (okp := fun _ => True) ?hr ?hp (fun _ hk => hk) trivial (Below.refl _ _) (Nat.le_refl _) (by simp) ?_; (case hd => rfl); (case hg => rfl); (case hr => first | (go_simp; done) | (go_simp; rfl)); (case hp => exact (Reps.one (show Kd.M (Kd.int .i64) _ _ _ 0 [.int .i64 0] from rfl) (Reps.none _ _))); intro v263 w20 ho21 hb hg_ hnew_; clear hg_ hnew_; (first | rw [← Ny262.out] at ho21 | (simp only [Int.reduceToNat] at ho21; rw [← Ny262.out] at ho21)); have n0_ := Aside0.mk (Kd.R_below (by (with_reducible repeat (first | apply Kd.R_alloc | apply Kd.R_drewN | apply Kd.R_drew)); exact HO253.out) hb); have n1_ := Aside0.mk (Kd.S_elder' (by (with_reducible repeat (first | apply Kd.S_alloc | apply Kd.S_drewN | apply Kd.S_drew)); exact HO257.out) (Kd.R_base ho21) hb); have n2_ := Aside0.mk (Kd.R_elder' (by (with_reducible repeat (first | apply Kd.R_alloc | apply Kd.R_drewN | apply Kd.R_drew)); exact HO260.out) (Kd.R_base ho21) hb); have n3_ := Aside0.mk (Kd.R_lower (Kd.R_new' ho21 (Kd.R_lt (by (with_reducible repeat (first | apply Kd.R_alloc | apply Kd.R_drewN | apply Kd.R_drew)); exact HO260.out))) (below_size (by repeat (first | (with_reducible first | exact HB.out | apply below_alloc | apply pw_below_drewN | apply below_drew1 | refine below_set ?_ GE254.out) | exact HB.out)))); have n4_ := Aside0.mk (blk_below (g := gb254) (o := .cells #[.slice Ao8 y251.length co8, .slice none 0 0, .slice none 0 0, .int .i64 0, .int .i64 0, .int .i64 0, .int .i64 0, .int .i64 0, .int .i64 50] 26 (0, 0)) (by (with_reducible repeat (first | refine blk_drewN ?_ _ | refine blk_drew ?_ | refine blk_alloc ?_ _)); exact BK254.out) hb); have n5_ := Aside0.mk (below_step (by repeat (first | (with_reducible first | exact HB.out | apply below_alloc | apply pw_below_drewN | apply below_drew1 | refine below_set ?_ GE254.out) | exact HB.out)) hb); clear HO253; clear HO257; clear HO260; clear BK254; clear HB; have HO253 := n0_; have HO257 := n1_; have HO260 := n2_; have HO264 := n3_; have BK254 := n4_; have HB := n5_; clear n0_ n1_ n2_ n3_ n4_ n5_; clear hb ho21; obtain ⟨Ao22, co22, eo22⟩ := Kd.R_slice HO264.out; subst eo22) | (go_at_call 19; (refine (slack_At.calls _ _ y251 _ _ ([] : List (S68)) _ _ ([] : List (S71)) 0 0 0 0 0 50 _ _ y255 _ _ y262 _ _ ([] : List (S38)) _ _ ([] : List (S73)) 0 8 t265 _ ?side1 ?side2 ?side3 ?side4 ?side5 ?side6 ?side7 ?side8 ?side9 ?side10 ?side11 ?side12 ?side13 ?side14 A3.out).mono ?_); (case side1 => repeat (first | exact (Kd.R_reads' HO253.out).2.2 | (with_reducible refine Kd.C_alloc ?_ _) | (with_reducible refine Kd.C_drewN ?_ _) | (with_reducible refine Kd.C_drew ?_))); (case side2 => exact (Kd.R_reads' HO253.out).2.1); (case side3 => exact Kd.C_nil _ _); (case side4 => exact Nat.le_refl _); (case side5 => exact Kd.C_nil _ _); (case side6 => exact Nat.le_refl _); (case side7 => repeat (first | exact (Kd.S_reads' HO257.out).2.2 | (with_reducible refine Kd.C_alloc ?_ _) | (with_reducible refine Kd.C_drewN ?_ _) | (with_reducible refine Kd.C_drew ?_))); (case side8 => exact (Kd.S_reads' HO257.out).2.1); (case side9 => repeat (first | exact (Kd.R_reads' HO264.out).2.2 | (with_reducible refine Kd.C_alloc ?_ _) | (with_reducible refine Kd.C_drewN ?_ _) | (with_reducible refine Kd.C_drew ?_))); (case side10 => exact (Kd.R_reads' HO264.out).2.1); (case side11 => exact Kd.C_nil _ _); (case side12 => exact Nat.le_refl _); (case side13 => exact Kd.C_nil _ _); (case side14 => exact Nat.le_refl _); rintro e w23 ⟨rfl, hb⟩; have n0_ := Aside0.mk (Kd.R_below (by (with_reducible repeat (first | apply Kd.R_alloc | apply Kd.R_drewN | apply Kd.R_drew)); exact HO253.out) hb); have n1_ := Aside0.mk (Kd.S_below (by (with_reducible repeat (first | apply Kd.S_alloc | apply Kd.S_drewN | apply Kd.S_drew)); exact HO257.out) hb); have n2_ := Aside0.mk (Kd.R_below (by (with_reducible repeat (first | apply Kd.R_alloc | apply Kd.R_drewN | apply Kd.R_drew)); exact HO260.out) hb); have n3_ := Aside0.mk (Kd.R_below (by (with_reducible repeat (first | apply Kd.R_alloc | apply Kd.R_drewN | apply Kd.R_drew)); exact HO264.out) hb); have n4_ := Aside0.mk (blk_below (g := gb254) (o := .cells #[.slice Ao8 y251.length co8, .slice none 0 0, .slice none 0 0, .int .i64 0, .int .i64 0, .int .i64 0, .int .i64 0, .int .i64 0, .int .i64 50] 26 (0, 0)) (by (with_reducible repeat (first | refine blk_drewN ?_ _ | refine blk_drew ?_ | refine blk_alloc ?_ _)); exact BK254.out) hb); have n5_ := Aside0.mk (below_step (by repeat (first | (with_reducible first | exact HB.out | apply below_alloc | apply pw_below_drewN | apply below_drew1 | refine below_set ?_ GE254.out) | exact HB.out)) hb); clear HO253; clear HO257; clear HO260; clear HO264; clear BK254; clear HB; have HO253 := n0_; have HO257 := n1_; have HO260 := n2_; have HO264 := n3_; have BK254 := n4_; have HB := n5_; clear n0_ n1_ n2_ n3_ n4_ n5_; (try clear hb); (try clear hb2); (try clear hk); (try clear hi); have hcz24_0 : w23.cell? ⟨gb254, 0, none⟩ = some (.slice Ao8 y251.length co8) := (blk_cell BK254.out 0).trans rfl; have hcz24_1 : w23.cell? ⟨gb254, 1, none⟩ = some (.slice none 0 0) := (blk_cell BK254.out 1).trans rfl; have hcz24_2 : w23.cell? ⟨gb254, 2, none⟩ = some (.slice none 0 0) := (blk_cell BK254.out 2).trans rfl; have hcz24_3 : w23.cell? ⟨gb254, 3, none⟩ = some (.int .i64 0) := (blk_cell BK254.out 3).trans rfl; have hcz24_4 : w23.cell? ⟨gb254, 4, none⟩ = some (.int .i64 0) := (blk_cell BK254.out 4).trans rfl; have hcz24_5 : w23.cell? ⟨gb254, 5, none⟩ = some (.int .i64 0) := (blk_cell BK254.out 5).trans rfl; have hcz24_6 : w23.cell? ⟨gb254, 6, none⟩ = some (.int .i64 0) := (blk_cell BK254.out 6).trans rfl; have hcz24_7 : w23.cell? ⟨gb254, 7, none⟩ = some (.int .i64 0) := (blk_cell BK254.out 7).trans rfl; have hcz24_8 : w23.cell? ⟨gb254, 8, none⟩ = some (.int .i64 50) := (blk_cell BK254.out 8).trans rfl; have hfz24_0 := blk_frozen BK254.out 0; have hfz24_1 := blk_frozen BK254.out 1; have hfz24_2 := blk_frozen BK254.out 2; have hfz24_3 := blk_frozen BK254.out 3; have hfz24_4 := blk_frozen BK254.out 4; have hfz24_5 := blk_frozen BK254.out 5; have hfz24_6 := blk_frozen BK254.out 6; have hfz24_7 := blk_frozen BK254.out 7; have hfz24_8 := blk_frozen BK254.out 8) | (go_at_call 25; (refine (slack_Least.calls _ _ y251 _ _ ([] : List (S68)) _ _ ([] : List (S71)) 0 0 0 0 0 50 _ _ ([] : List (S36)) _ _ ([] : List Int) _ _ ([] : List (S38)) _ _ ([] : List (S73)) 0 0 t266 _ ?side1 ?side2 ?side3 ?side4 ?side5 ?side6 ?side7 ?side8 ?side9 ?side10 ?side11 ?side12 ?side13 ?side14 A5.out).mono ?_); (case side1 => repeat (first | exact (Kd.R_reads' HO253.out).2.2 | (with_reducible refine Kd.C_alloc ?_ _) | (with_reducible refine Kd.C_drewN ?_ _) | (with_reducible refine Kd.C_drew ?_))); (case side2 => exact (Kd.R_reads' HO253.out).2.1); (case side3 => exact Kd.C_nil _ _); (case side4 => exact Nat.le_refl _); (case side5 => exact Kd.C_nil _ _); (case side6 => exact Nat.le_refl _); (case side7 => exact Kd.C_nil _ _); (case side8 => exact Nat.le_refl _); (case side9 => exact Kd.C_nil _ _); (case side10 => exact Nat.le_refl _); (case side11 => exact Kd.C_nil _ _); (case side12 => exact Nat.le_refl _); (case side13 => exact Kd.C_nil _ _); (case side14 => exact Nat.le_refl _); rintro e w25 ⟨rfl, hb⟩; have n0_ := Aside0.mk (Kd.R_below (by (with_reducible repeat (first | apply Kd.R_alloc | apply Kd.R_drewN | apply Kd.R_drew)); exact HO253.out) hb); have n1_ := Aside0.mk (Kd.S_below (by (with_reducible repeat (first | apply Kd.S_alloc | apply Kd.S_drewN | apply Kd.S_drew)); exact HO257.out) hb); have n2_ := Aside0.mk (Kd.R_below (by (with_reducible repeat (first | apply Kd.R_alloc | apply Kd.R_drewN | apply Kd.R_drew)); exact HO260.out) hb); have n3_ := Aside0.mk (Kd.R_below (by (with_reducible repeat (first | apply Kd.R_alloc | apply Kd.R_drewN | apply Kd.R_drew)); exact HO264.out) hb); have n4_ := Aside0.mk (blk_below (g := gb254) (o := .cells #[.slice Ao8 y251.length co8, .slice none 0 0, .slice none 0 0, .int .i64 0, .int .i64 0, .int .i64 0, .int .i64 0, .int .i64 0, .int .i64 50] 26 (0, 0)) (by (with_reducible repeat (first | refine blk_drewN ?_ _ | refine blk_drew ?_ | refine blk_alloc ?_ _)); exact BK254.out) hb); have n5_ := Aside0.mk (below_step (by repeat (first | (with_reducible first | exact HB.out | apply below_alloc | apply pw_below_drewN | apply below_drew1 | refine below_set ?_ GE254.out) | exact HB.out)) hb); clear HO253; clear HO257; clear HO260; clear HO264; clear BK254; clear HB; have HO253 := n0_; have HO257 := n1_; have HO260 := n2_; have HO264 := n3_; have BK254 := n4_; have HB := n5_; clear n0_ n1_ n2_ n3_ n4_ n5_; (try clear hb); (try clear hb2); (try clear hk); (try clear hi)))
      go_ret
      exact ⟨by first | rfl | (simp [errW_none, errW_some] <;> rfl) | (simp [*, errW_none, errW_some] <;> rfl), by repeat (first | (with_reducible first | exact HB.out | apply below_alloc | apply pw_below_drewN | apply below_drew1 | refine below_set ?_ GE254.out) | exact HB.out)⟩
    · rw [if_neg c4] at H
      have c4b0 : (t265 == 25769803776) = false := beq_eq_false_iff_ne.mpr c4
      have c4b1 : (t265 != 25769803776) = true := bne_iff_ne.mpr c4
      obtain rfl := Option.some.inj H
      go_enter Try.func10, Try.ntmps10
      go_wp2_with (first | ((with_reducible refine gate_dst (N := 4) rfl ?_); (try (refine gate_guard (by rfl) ?_; dsimp only)); refine Kd.R_lit k58 _ 58 ?hg (N := 4) ?hd (xs := ([(⟨1, 0⟩ : S58)] : List (S58))) (inner := [.int .i64 1, .int .i64 0]) (ok := fun _ => True) (okp := fun _ => True) ?hr ?hp (fun _ hk => hk) trivial (Below.refl _ _) (Nat.le_refl _) (by simp) ?_; (case hd => rfl); (case hg => rfl); (case hr => first | (go_simp; done) | (go_simp; rfl)); (case hp => exact (Reps.c2 (show Kd.M k58 _ _ _ (⟨1, 0⟩ : S58) [.int .i64 1, .int .i64 0] from (k58_mkM _ _ _ (⟨1, 0⟩ : S58) )) (Reps.none _ _))); intro v252 w26 ho27 hb hg_ hnew_; clear hg_ hnew_; (first | rw [← Ny251.out] at ho27 | (simp only [Int.reduceToNat] at ho27; rw [← Ny251.out] at ho27)); have n0_ := Aside0.mk (Kd.R_lower ho27 (below_size (by repeat (first | (with_reducible first | exact HB.out | apply below_alloc | apply pw_below_drewN | apply below_drew1) | exact HB.out)))); have n1_ := Aside0.mk (below_step (by repeat (first | (with_reducible first | exact HB.out | apply below_alloc | apply pw_below_drewN | apply below_drew1) | exact HB.out)) hb); clear HB; have HO253 := n0_; have HB := n1_; clear n0_ n1_; clear hb ho27; obtain ⟨Ao28, co28, eo28⟩ := Kd.R_slice HO253.out; subst eo28) | ((with_reducible refine gate_dst (N := 1) rfl ?_); (try (refine gate_guard (by rfl) ?_; dsimp only)); refine box_event ?hg (N := 1) ?hd (cs := #[.slice none 0 0, .slice none 0 0, .slice none 0 0, .int .i64 0, .int .i64 0, .int .i64 0, .int .i64 0, .int .i64 0, .int .i64 0]) (t := 26) ?hr ?_; (case hd => rfl); (case hg => rfl); (case hr => first | (go_simp; done) | (go_simp; rfl)); intro gb254 hg w29 hbox hb; have n0_ := Aside0.mk (Kd.R_below (by (with_reducible repeat (first | apply Kd.R_alloc | apply Kd.R_drewN | apply Kd.R_drew)); exact HO253.out) hb); have n1_ := Aside0.mk (below_step (by repeat (first | (with_reducible first | exact HB.out | apply below_alloc | apply pw_below_drewN | apply below_drew1) | exact HB.out)) hb); have n2_ := Aside0.mk (hbox); have n3_ := Aside0.mk ((by rw [hg]; exact (below_size (by repeat (first | (with_reducible first | exact HB.out | apply below_alloc | apply pw_below_drewN | apply below_drew1) | exact HB.out))) : w.heap.size ≤ gb254)); have n4_ := Aside0.mk ((by rw [hg]; exact (below_size (by repeat (first | (with_reducible first | exact HB.out | apply below_alloc | apply pw_below_drewN | apply below_drew1) | exact HB.out))) : w.heap.size ≤ gb254)); clear HO253; clear HB; have HO253 := n0_; have HB := n1_; have BK254 := n2_; have GW254 := n3_; have GE254 := n4_; clear n0_ n1_ n2_ n3_ n4_; clear hb hbox hg; have hcz30_0 : w29.cell? ⟨gb254, 0, none⟩ = some (.slice none 0 0) := (blk_cell BK254.out 0).trans rfl; have hcz30_1 : w29.cell? ⟨gb254, 1, none⟩ = some (.slice none 0 0) := (blk_cell BK254.out 1).trans rfl; have hcz30_2 : w29.cell? ⟨gb254, 2, none⟩ = some (.slice none 0 0) := (blk_cell BK254.out 2).trans rfl; have hcz30_3 : w29.cell? ⟨gb254, 3, none⟩ = some (.int .i64 0) := (blk_cell BK254.out 3).trans rfl; have hcz30_4 : w29.cell? ⟨gb254, 4, none⟩ = some (.int .i64 0) := (blk_cell BK254.out 4).trans rfl; have hcz30_5 : w29.cell? ⟨gb254, 5, none⟩ = some (.int .i64 0) := (blk_cell BK254.out 5).trans rfl; have hcz30_6 : w29.cell? ⟨gb254, 6, none⟩ = some (.int .i64 0) := (blk_cell BK254.out 6).trans rfl; have hcz30_7 : w29.cell? ⟨gb254, 7, none⟩ = some (.int .i64 0) := (blk_cell BK254.out 7).trans rfl; have hcz30_8 : w29.cell? ⟨gb254, 8, none⟩ = some (.int .i64 0) := (blk_cell BK254.out 8).trans rfl; have hfz30_0 := blk_frozen BK254.out 0; have hfz30_1 := blk_frozen BK254.out 1; have hfz30_2 := blk_frozen BK254.out 2; have hfz30_3 := blk_frozen BK254.out 3; have hfz30_4 := blk_frozen BK254.out 4; have hfz30_5 := blk_frozen BK254.out 5; have hfz30_6 := blk_frozen BK254.out 6; have hfz30_7 := blk_frozen BK254.out 7; have hfz30_8 := blk_frozen BK254.out 8) | ((with_reducible refine gate_dst (N := 7) rfl ?_); (try (refine gate_guard (by rfl) ?_; dsimp only)); refine Kd.S_lit k36 _ 36 ?hg (N := 7) ?hd (xs := ([(⟨4, 1, ([] : List Int), ([] : List Int)⟩ : S36)] : List (S36))) (inner := [.int .i64 4, .int .i64 1, .slice none 0 0, .slice none 0 0]) (ok := fun _ => True) (okp := fun _ => True) ?hr ?hp (fun _ hk => hk) trivial (Below.refl _ _) (Nat.le_refl _) (by simp) ?_; (case hd => rfl); (case hg => rfl); (case hr => first | (go_simp; done) | (go_simp; rfl)); (case hp => exact (Reps.c4 (show Kd.M k36 _ _ _ (⟨4, 1, ([] : List Int), ([] : List Int)⟩ : S36) [.int .i64 4, .int .i64 1, .slice none 0 0, .slice none 0 0] from (k36_mkM _ _ _ (⟨4, 1, ([] : List Int), ([] : List Int)⟩ : S36) (Kd.R_nil _ _ _ _ _) (Kd.R_nil _ _ _ _ _))) (Reps.none _ _))); intro v256 w31 ho32 hb hg_ hnew_; clear hg_ hnew_; (first | rw [← Ny255.out] at ho32 | (simp only [Int.reduceToNat] at ho32; rw [← Ny255.out] at ho32)); have n0_ := Aside0.mk (Kd.R_below (by (with_reducible repeat (first | apply Kd.R_alloc | apply Kd.R_drewN | apply Kd.R_drew)); exact (Kd.R_mono (Kd.R_far (p := ⟨gb254, 8, none⟩) (Kd.R_far (p := ⟨gb254, 7, none⟩) (Kd.R_far (p := ⟨gb254, 6, none⟩) (Kd.R_far (p := ⟨gb254, 5, none⟩) (Kd.R_far (p := ⟨gb254, 4, none⟩) (Kd.R_far (p := ⟨gb254, 3, none⟩) (Kd.R_far (p := ⟨gb254, 2, none⟩) (Kd.R_far (p := ⟨gb254, 1, none⟩) (Kd.R_far (p := ⟨gb254, 0, none⟩) (Kd.R_types HO253.out BK254.out (by decide)) (fun _ hk => hk.2) (.slice Ao28 y251.length co28)) (fun _ hk => hk.2) (.slice none 0 0)) (fun _ hk => hk.2) (.slice none 0 0)) (fun _ hk => hk.2) (.int .i64 0)) (fun _ hk => hk.2) (.int .i64 0)) (fun _ hk => hk.2) (.int .i64 0)) (fun _ hk => hk.2) (.int .i64 0)) (fun _ hk => hk.2) (.int .i64 0)) (fun _ hk => hk.2) (.int .i64 50)) (fun _ h_ => h_.1))) hb); have n1_ := Aside0.mk (Kd.S_lower ho32 (below_size (by repeat (first | (with_reducible first | exact HB.out | apply below_alloc | apply pw_below_drewN | apply below_drew1 | refine below_set ?_ GE254.out) | exact HB.out)))); have n2_ := Aside0.mk (blk_below (g := gb254) (o := .cells #[.slice Ao28 y251.length co28, .slice none 0 0, .slice none 0 0, .int .i64 0, .int .i64 0, .int .i64 0, .int .i64 0, .int .i64 0, .int .i64 50] 26 (0, 0)) (by (with_reducible repeat (first | refine blk_drewN ?_ _ | refine blk_drew ?_ | refine blk_alloc ?_ _)); refine blk_put (cs := #[.slice Ao28 y251.length co28, .slice none 0 0, .slice none 0 0, .int .i64 0, .int .i64 0, .int .i64 0, .int .i64 0, .int .i64 0, .int .i64 0]) ?_ 8 _ rfl; (with_reducible repeat (first | refine blk_drewN ?_ _ | refine blk_drew ?_ | refine blk_alloc ?_ _)); refine blk_put (cs := #[.slice Ao28 y251.length co28, .slice none 0 0, .slice none 0 0, .int .i64 0, .int .i64 0, .int .i64 0, .int .i64 0, .int .i64 0, .int .i64 0]) ?_ 7 _ rfl; (with_reducible repeat (first | refine blk_drewN ?_ _ | refine blk_drew ?_ | refine blk_alloc ?_ _)); refine blk_put (cs := #[.slice Ao28 y251.length co28, .slice none 0 0, .slice none 0 0, .int .i64 0, .int .i64 0, .int .i64 0, .int .i64 0, .int .i64 0, .int .i64 0]) ?_ 6 _ rfl; (with_reducible repeat (first | refine blk_drewN ?_ _ | refine blk_drew ?_ | refine blk_alloc ?_ _)); refine blk_put (cs := #[.slice Ao28 y251.length co28, .slice none 0 0, .slice none 0 0, .int .i64 0, .int .i64 0, .int .i64 0, .int .i64 0, .int .i64 0, .int .i64 0]) ?_ 5 _ rfl; (with_reducible repeat (first | refine blk_drewN ?_ _ | refine blk_drew ?_ | refine blk_alloc ?_ _)); refine blk_put (cs := #[.slice Ao28 y251.length co28, .slice none 0 0, .slice none 0 0, .int .i64 0, .int .i64 0, .int .i64 0, .int .i64 0, .int .i64 0, .int .i64 0]) ?_ 4 _ rfl; (with_reducible repeat (first | refine blk_drewN ?_ _ | refine blk_drew ?_ | refine blk_alloc ?_ _)); refine blk_put (cs := #[.slice Ao28 y251.length co28, .slice none 0 0, .slice none 0 0, .int .i64 0, .int .i64 0, .int .i64 0, .int .i64 0, .int .i64 0, .int .i64 0]) ?_ 3 _ rfl; (with_reducible repeat (first | refine blk_drewN ?_ _ | refine blk_drew ?_ | refine blk_alloc ?_ _)); refine blk_put (cs := #[.slice Ao28 y251.length co28, .slice none 0 0, .slice none 0 0, .int .i64 0, .int .i64 0, .int .i64 0, .int .i64 0, .int .i64 0, .int .i64 0]) ?_ 2 _ rfl; (with_reducible repeat (first | refine blk_drewN ?_ _ | refine blk_drew ?_ | refine blk_alloc ?_ _)); refine blk_put (cs := #[.slice Ao28 y251.length co28, .slice none 0 0, .slice none 0 0, .int .i64 0, .int .i64 0, .int .i64 0, .int .i64 0, .int .i64 0, .int .i64 0]) ?_ 1 _ rfl; (with_reducible repeat (first | refine blk_drewN ?_ _ | refine blk_drew ?_ | refine blk_alloc ?_ _)); refine blk_put (cs := #[.slice none 0 0, .slice none 0 0, .slice none 0 0, .int .i64 0, .int .i64 0, .int .i64 0, .int .i64 0, .int .i64 0, .int .i64 0]) ?_ 0 _ rfl; (with_reducible repeat (first | refine blk_drewN ?_ _ | refine blk_drew ?_ | refine blk_alloc ?_ _)); exact BK254.out) hb); have n3_ := Aside0.mk (below_step (by repeat (first | (with_reducible first | exact HB.out | apply below_alloc | apply pw_below_drewN | apply below_drew1 | refine below_set ?_ GE254.out) | exact HB.out)) hb); clear HO253; clear BK254; clear HB; have HO253 := n0_; have HO257 := n1_; have BK254 := n2_; have HB := n3_; clear n0_ n1_ n2_ n3_; clear hb ho32; have hcz33_0 : w31.cell? ⟨gb254, 0, none⟩ = some (.slice Ao28 y251.length co28) := (blk_cell BK254.out 0).trans rfl; have hcz33_1 : w31.cell? ⟨gb254, 1, none⟩ = some (.slice none 0 0) := (blk_cell BK254.out 1).trans rfl; have hcz33_2 : w31.cell? ⟨gb254, 2, none⟩ = some (.slice none 0 0) := (blk_cell BK254.out 2).trans rfl; have hcz33_3 : w31.cell? ⟨gb254, 3, none⟩ = some (.int .i64 0) := (blk_cell BK254.out 3).trans rfl; have hcz33_4 : w31.cell? ⟨gb254, 4, none⟩ = some (.int .i64 0) := (blk_cell BK254.out 4).trans rfl; have hcz33_5 : w31.cell? ⟨gb254, 5, none⟩ = some (.int .i64 0) := (blk_cell BK254.out 5).trans rfl; have hcz33_6 : w31.cell? ⟨gb254, 6, none⟩ = some (.int .i64 0) := (blk_cell BK254.out 6).trans rfl; have hcz33_7 : w31.cell? ⟨gb254, 7, none⟩ = some (.int .i64 0) := (blk_cell BK254.out 7).trans rfl; have hcz33_8 : w31.cell? ⟨gb254, 8, none⟩ = some (.int .i64 50) := (blk_cell BK254.out 8).trans rfl; have hfz33_0 := blk_frozen BK254.out 0; have hfz33_1 := blk_frozen BK254.out 1; have hfz33_2 := blk_frozen BK254.out 2; have hfz33_3 := blk_frozen BK254.out 3; have hfz33_4 := blk_frozen BK254.out 4; have hfz33_5 := blk_frozen BK254.out 5; have hfz33_6 := blk_frozen BK254.out 6; have hfz33_7 := blk_frozen BK254.out 7; have hfz33_8 := blk_frozen BK254.out 8) | ((with_reducible refine gate_dst (N := 10) rfl ?_); (try (refine gate_guard (by rfl) ?_; dsimp only)); refine Kd.R_lit (Kd.int .i64) _ 3 ?hg (N := 10) ?hd (xs := ([0] : List Int)) (inner := [.int .i64 0]) (ok := fun _ => True) (okp := fun _ => True) ?hr ?hp (fun _ hk => hk) trivial (Below.refl _ _) (Nat.le_refl _) (by simp) ?_; (case hd => rfl); (case hg => rfl); (case hr => first | (go_simp; done) | (go_simp; rfl)); (case hp => exact (Reps.one (show Kd.M (Kd.int .i64) _ _ _ 0 [.int .i64 0] from rfl) (Reps.none _ _))); intro v259 w34 ho35 hb hg_ hnew_; clear hg_ hnew_; (first | rw [← Ny258.out] at ho35 | (simp only [Int.reduceToNat] at ho35; rw [← Ny258.out] at ho35)); have n0_ := Aside0.mk (Kd.R_below (by (with_reducible repeat (first | apply Kd.R_alloc | apply Kd.R_drewN | apply Kd.R_drew)); exact HO253.out) hb); have n1_ := Aside0.mk (Kd.S_elder' (by (with_reducible repeat (first | apply Kd.S_alloc | apply Kd.S_drewN | apply Kd.S_drew)); exact HO257.out) (Kd.R_base ho35) hb); have n2_ := Aside0.mk (Kd.R_lower ho35 (below_size (by repeat (first | (with_reducible first | exact HB.out | apply below_alloc | apply pw_below_drewN | apply below_drew1 | refine below_set ?_ GE254.out) | exact HB.out)))); have n3_ := Aside0.mk (blk_below (g := gb254) (o := .cells #[.slice Ao28 y251.length co28, .slice none 0 0, .slice none 0 0, .int .i64 0, .int .i64 0, .int .i64 0, .int .i64 0, .int .i64 0, .int .i64 50] 26 (0, 0)) (by (with_reducible repeat (first | refine blk_drewN ?_ _ | refine blk_drew ?_ | refine blk_alloc ?_ _)); exact BK254.out) hb); have n4_ := Aside0.mk (below_step (by repeat (first | (with_reducible first | exact HB.out | apply below_alloc | apply pw_below_drewN | apply below_drew1 | refine below_set ?_ GE254.out) | exact HB.out)) hb); clear HO253; clear HO257; clear BK254; clear HB; have HO253 := n0_; have HO257 := n1_; have HO260 := n2_; have BK254 := n3_; have HB := n4_; clear n0_ n1_ n2_ n3_ n4_; clear hb ho35; obtain ⟨Ao36, co36, eo36⟩ := Kd.S_slice HO257.out; subst eo36; obtain ⟨Ao37, co37, eo37⟩ := Kd.R_slice HO260.out; subst eo37) | ((with_reducible refine gate_callee (f := 25) rfl ?_); refine goesL_ (some 11) rfl rfl Try.func25 (by kernel_rfl) rfl #[.agg #[.slice Ao28 y251.length co28, .slice none 0 0, .slice none 0 0, .int .i64 0, .int .i64 0, .int .i64 0, .int .i64 0, .int .i64 0, .int .i64 50], .slice Ao36 y255.length co36, .slice Ao37 y258.length co37, .slice none 0 0, .slice none 0 0, .int .i64 0, .int .i64 0] rfl (by (try simp only [List.map_toArray, List.map_cons, List.map_nil]); first | done | rfl | (simp only [List.length_drop, List.length_take]; rfl)) ?_; (refine (slack_Least.calls _ _ y251 _ _ ([] : List (S68)) _ _ ([] : List (S71)) 0 0 0 0 0 50 _ _ y255 _ _ y258 _ _ ([] : List (S38)) _ _ ([] : List (S73)) 0 0 t261 _ ?side1 ?side2 ?side3 ?side4 ?side5 ?side6 ?side7 ?side8 ?side9 ?side10 ?side11 ?side12 ?side13 ?side14 A1.out).mono ?_); (case side1 => repeat (first | exact (Kd.R_reads' HO253.out).2.2 | (with_reducible refine Kd.C_alloc ?_ _) | (with_reducible refine Kd.C_drewN ?_ _) | (with_reducible refine Kd.C_drew ?_))); (case side2 => exact (Kd.R_reads' HO253.out).2.1); (case side3 => exact Kd.C_nil _ _); (case side4 => exact Nat.le_refl _); (case side5 => exact Kd.C_nil _ _); (case side6 => exact Nat.le_refl _); (case side7 => repeat (first | exact (Kd.S_reads' HO257.out).2.2 | (with_reducible refine Kd.C_alloc ?_ _) | (with_reducible refine Kd.C_drewN ?_ _) | (with_reducible refine Kd.C_drew ?_))); (case side8 => exact (Kd.S_reads' HO257.out).2.1); (case side9 => repeat (first | exact (Kd.R_reads' HO260.out).2.2 | (with_reducible refine Kd.C_alloc ?_ _) | (with_reducible refine Kd.C_drewN ?_ _) | (with_reducible refine Kd.C_drew ?_))); (case side10 => exact (Kd.R_reads' HO260.out).2.1); (case side11 => exact Kd.C_nil _ _); (case side12 => exact Nat.le_refl _); (case side13 => exact Kd.C_nil _ _); (case side14 => exact Nat.le_refl _); rintro e w38 ⟨rfl, hb⟩; refine ⟨_, rfl, ?_⟩; have n0_ := Aside0.mk (Kd.R_below (by (with_reducible repeat (first | apply Kd.R_alloc | apply Kd.R_drewN | apply Kd.R_drew)); exact HO253.out) hb); have n1_ := Aside0.mk (Kd.S_below (by (with_reducible repeat (first | apply Kd.S_alloc | apply Kd.S_drewN | apply Kd.S_drew)); exact HO257.out) hb); have n2_ := Aside0.mk (Kd.R_below (by (with_reducible repeat (first | apply Kd.R_alloc | apply Kd.R_drewN | apply Kd.R_drew)); exact HO260.out) hb); have n3_ := Aside0.mk (blk_below (g := gb254) (o := .cells #[.slice Ao28 y251.length co28, .slice none 0 0, .slice none 0 0, .int .i64 0, .int .i64 0, .int .i64 0, .int .i64 0, .int .i64 0, .int .i64 50] 26 (0, 0)) (by (with_reducible repeat (first | refine blk_drewN ?_ _ | refine blk_drew ?_ | refine blk_alloc ?_ _)); exact BK254.out) hb); have n4_ := Aside0.mk (below_step (by repeat (first | (with_reducible first | exact HB.out | apply below_alloc | apply pw_below_drewN | apply below_drew1 | refine below_set ?_ GE254.out) | exact HB.out)) hb); clear HO253; clear HO257; clear HO260; clear BK254; clear HB; have HO253 := n0_; have HO257 := n1_; have HO260 := n2_; have BK254 := n3_; have HB := n4_; clear n0_ n1_ n2_ n3_ n4_; (try clear hb); (try clear hb2); (try clear hk); (try clear hi); have hcz39_0 : w38.cell? ⟨gb254, 0, none⟩ = some (.slice Ao28 y251.length co28) := (blk_cell BK254.out 0).trans rfl; have hcz39_1 : w38.cell? ⟨gb254, 1, none⟩ = some (.slice none 0 0) := (blk_cell BK254.out 1).trans rfl; have hcz39_2 : w38.cell? ⟨gb254, 2, none⟩ = some (.slice none 0 0) := (blk_cell BK254.out 2).trans rfl; have hcz39_3 : w38.cell? ⟨gb254, 3, none⟩ = some (.int .i64 0) := (blk_cell BK254.out 3).trans rfl; have hcz39_4 : w38.cell? ⟨gb254, 4, none⟩ = some (.int .i64 0) := (blk_cell BK254.out 4).trans rfl; have hcz39_5 : w38.cell? ⟨gb254, 5, none⟩ = some (.int .i64 0) := (blk_cell BK254.out 5).trans rfl; have hcz39_6 : w38.cell? ⟨gb254, 6, none⟩ = some (.int .i64 0) := (blk_cell BK254.out 6).trans rfl; have hcz39_7 : w38.cell? ⟨gb254, 7, none⟩ = some (.int .i64 0) := (blk_cell BK254.out 7).trans rfl; have hcz39_8 : w38.cell? ⟨gb254, 8, none⟩ = some (.int .i64 50) := (blk_cell BK254.out 8).trans rfl; have hfz39_0 := blk_frozen BK254.out 0; have hfz39_1 := blk_frozen BK254.out 1; have hfz39_2 := blk_frozen BK254.out 2; have hfz39_3 := blk_frozen BK254.out 3; have hfz39_4 := blk_frozen BK254.out 4; have hfz39_5 := blk_frozen BK254.out 5; have hfz39_6 := blk_frozen BK254.out 6; have hfz39_7 := blk_frozen BK254.out 7; have hfz39_8 := blk_frozen BK254.out 8) | ((with_reducible refine gate_dst (N := 16) rfl ?_); (try (refine gate_guard (by rfl) ?_; dsimp only)); refine Kd.R_lit (Kd.int .i64) _ 3 ?hg (N := 16) ?hd (xs := ([0] : List Int)) (inner := [.int .i64 0]) (ok := fun _ => True) (okp := fun _ => True) ?hr ?hp (fun _ hk => hk) trivial (Below.refl _ _) (Nat.le_refl _) (by simp) ?_; (case hd => rfl); (case hg => rfl); (case hr => first | (go_simp; done) | (go_simp; rfl)); (case hp => exact (Reps.one (show Kd.M (Kd.int .i64) _ _ _ 0 [.int .i64 0] from rfl) (Reps.none _ _))); intro v263 w40 ho41 hb hg_ hnew_; clear hg_ hnew_; (first | rw [← Ny262.out] at ho41 | (simp only [Int.reduceToNat] at ho41; rw [← Ny262.out] at ho41)); have n0_ := Aside0.mk (Kd.R_below (by (with_reducible repeat (first | apply Kd.R_alloc | apply Kd.R_drewN | apply Kd.R_drew)); exact HO253.out) hb); have n1_ := Aside0.mk (Kd.S_elder' (by (with_reducible repeat (first | apply Kd.S_alloc | apply Kd.S_drewN | apply Kd.S_drew)); exact HO257.out) (Kd.R_base ho41) hb); have n2_ := Aside0.mk (Kd.R_elder' (by (with_reducible repeat (first | apply Kd.R_alloc | apply Kd.R_drewN | apply Kd.R_drew)); exact HO260.out) (Kd.R_base ho41) hb); have n3_ := Aside0.mk (Kd.R_lower (Kd.R_new' ho41 (Kd.R_lt (by (with_reducible repeat (first | apply Kd.R_alloc | apply Kd.R_drewN | apply Kd.R_drew)); exact HO260.out))) (below_size (by repeat (first | (with_reducible first | exact HB.out | apply below_alloc | apply pw_below_drewN | apply below_drew1 | refine below_set ?_ GE254.out) | exact HB.out)))); have n4_ := Aside0.mk (blk_below (g := gb254) (o := .cells #[.slice Ao28 y251.length co28, .slice none 0 0, .slice none 0 0, .int .i64 0, .int .i64 0, .int .i64 0, .int .i64 0, .int .i64 0, .int .i64 50] 26 (0, 0)) (by (with_reducible repeat (first | refine blk_drewN ?_ _ | refine blk_drew ?_ | refine blk_alloc ?_ _)); exact BK254.out) hb); have n5_ := Aside0.mk (below_step (by repeat (first | (with_reducible first | exact HB.out | apply below_alloc | apply pw_below_drewN | apply below_drew1 | refine below_set ?_ GE254.out) | exact HB.out)) hb); clear HO253; clear HO257; clear HO260; clear BK254; clear HB; have HO253 := n0_; have HO257 := n1_; have HO260 := n2_; have HO264 := n3_; have BK254 := n4_; have HB := n5_; clear n0_ n1_ n2_ n3_ n4_ n5_; clear hb ho41; obtain ⟨Ao42, co42, eo42⟩ := Kd.R_slice HO264.out; subst eo42) | (go_at_call 19; (refine (slack_At.calls _ _ y251 _ _ ([] : List (S68)) _ _ ([] : List (S71)) 0 0 0 0 0 50 _ _ y255 _ _ y262 _ _ ([] : List (S38)) _ _ ([] : List (S73)) 0 8 t265 _ ?side1 ?side2 ?side3 ?side4 ?side5 ?side6 ?side7 ?side8 ?side9 ?side10 ?side11 ?side12 ?side13 ?side14 A3.out).mono ?_); (case side1 => repeat (first | exact (Kd.R_reads' HO253.out).2.2 | (with_reducible refine Kd.C_alloc ?_ _) | (with_reducible refine Kd.C_drewN ?_ _) | (with_reducible refine Kd.C_drew ?_))); (case side2 => exact (Kd.R_reads' HO253.out).2.1); (case side3 => exact Kd.C_nil _ _); (case side4 => exact Nat.le_refl _); (case side5 => exact Kd.C_nil _ _); (case side6 => exact Nat.le_refl _); (case side7 => repeat (first | exact (Kd.S_reads' HO257.out).2.2 | (with_reducible refine Kd.C_alloc ?_ _) | (with_reducible refine Kd.C_drewN ?_ _) | (with_reducible refine Kd.C_drew ?_))); (case side8 => exact (Kd.S_reads' HO257.out).2.1); (case side9 => repeat (first | exact (Kd.R_reads' HO264.out).2.2 | (with_reducible refine Kd.C_alloc ?_ _) | (with_reducible refine Kd.C_drewN ?_ _) | (with_reducible refine Kd.C_drew ?_))); (case side10 => exact (Kd.R_reads' HO264.out).2.1); (case side11 => exact Kd.C_nil _ _); (case side12 => exact Nat.le_refl _); (case side13 => exact Kd.C_nil _ _); (case side14 => exact Nat.le_refl _); rintro e w43 ⟨rfl, hb⟩; have n0_ := Aside0.mk (Kd.R_below (by (with_reducible repeat (first | apply Kd.R_alloc | apply Kd.R_drewN | apply Kd.R_drew)); exact HO253.out) hb); have n1_ := Aside0.mk (Kd.S_below (by (with_reducible repeat (first | apply Kd.S_alloc | apply Kd.S_drewN | apply Kd.S_drew)); exact HO257.out) hb); have n2_ := Aside0.mk (Kd.R_below (by (with_reducible repeat (first | apply Kd.R_alloc | apply Kd.R_drewN | apply Kd.R_drew)); exact HO260.out) hb); have n3_ := Aside0.mk (Kd.R_below (by (with_reducible repeat (first | apply Kd.R_alloc | apply Kd.R_drewN | apply Kd.R_drew)); exact HO264.out) hb); have n4_ := Aside0.mk (blk_below (g := gb254) (o := .cells #[.slice Ao28 y251.length co28, .slice none 0 0, .slice none 0 0, .int .i64 0, .int .i64 0, .int .i64 0, .int .i64 0, .int .i64 0, .int .i64 50] 26 (0, 0)) (by (with_reducible repeat (first | refine blk_drewN ?_ _ | refine blk_drew ?_ | refine blk_alloc ?_ _)); exact BK254.out) hb); have n5_ := Aside0.mk (below_step (by repeat (first | (with_reducible first | exact HB.out | apply below_alloc | apply pw_below_drewN | apply below_drew1 | refine below_set ?_ GE254.out) | exact HB.out)) hb); clear HO253; clear HO257; clear HO260; clear HO264; clear BK254; clear HB; have HO253 := n0_; have HO257 := n1_; have HO260 := n2_; have HO264 := n3_; have BK254 := n4_; have HB := n5_; clear n0_ n1_ n2_ n3_ n4_ n5_; (try clear hb); (try clear hb2); (try clear hk); (try clear hi)))
      go_ret
      exact ⟨by first | rfl | (simp [errW_none, errW_some] <;> rfl) | (simp [*, errW_none, errW_some] <;> rfl), by repeat (first | (with_reducible first | exact HB.out | apply below_alloc | apply pw_below_drewN | apply below_drew1 | refine below_set ?_ GE254.out) | exact HB.out)⟩
  · rw [if_neg c2] at H
    have c2b0 : (t261 == 12884901888) = false := beq_eq_false_iff_ne.mpr c2
    have c2b1 : (t261 != 12884901888) = true := bne_iff_ne.mpr c2
    obtain rfl := Option.some.inj H
    go_enter Try.func10, Try.ntmps10
    go_wp2_with (first | ((with_reducible refine gate_dst (N := 4) rfl ?_); (try (refine gate_guard (by rfl) ?_; dsimp only)); refine Kd.R_lit k58 _ 58 ?hg (N := 4) ?hd (xs := ([(⟨1, 0⟩ : S58)] : List (S58))) (inner := [.int .i64 1, .int .i64 0]) (ok := fun _ => True) (okp := fun _ => True) ?hr ?hp (fun _ hk => hk) trivial (Below.refl _ _) (Nat.le_refl _) (by simp) ?_; (case hd => rfl); (case hg => rfl); (case hr => first | (go_simp; done) | (go_simp; rfl)); (case hp => exact (Reps.c2 (show Kd.M k58 _ _ _ (⟨1, 0⟩ : S58) [.int .i64 1, .int .i64 0] from (k58_mkM _ _ _ (⟨1, 0⟩ : S58) )) (Reps.none _ _))); intro v252 w44 ho45 hb hg_ hnew_; clear hg_ hnew_; (first | rw [← Ny251.out] at ho45 | (simp only [Int.reduceToNat] at ho45; rw [← Ny251.out] at ho45)); have n0_ := Aside0.mk (Kd.R_lower ho45 (below_size (by repeat (first | (with_reducible first | exact HB.out | apply below_alloc | apply pw_below_drewN | apply below_drew1) | exact HB.out)))); have n1_ := Aside0.mk (below_step (by repeat (first | (with_reducible first | exact HB.out | apply below_alloc | apply pw_below_drewN | apply below_drew1) | exact HB.out)) hb); clear HB; have HO253 := n0_; have HB := n1_; clear n0_ n1_; clear hb ho45; obtain ⟨Ao46, co46, eo46⟩ := Kd.R_slice HO253.out; subst eo46) | ((with_reducible refine gate_dst (N := 1) rfl ?_); (try (refine gate_guard (by rfl) ?_; dsimp only)); refine box_event ?hg (N := 1) ?hd (cs := #[.slice none 0 0, .slice none 0 0, .slice none 0 0, .int .i64 0, .int .i64 0, .int .i64 0, .int .i64 0, .int .i64 0, .int .i64 0]) (t := 26) ?hr ?_; (case hd => rfl); (case hg => rfl); (case hr => first | (go_simp; done) | (go_simp; rfl)); intro gb254 hg w47 hbox hb; have n0_ := Aside0.mk (Kd.R_below (by (with_reducible repeat (first | apply Kd.R_alloc | apply Kd.R_drewN | apply Kd.R_drew)); exact HO253.out) hb); have n1_ := Aside0.mk (below_step (by repeat (first | (with_reducible first | exact HB.out | apply below_alloc | apply pw_below_drewN | apply below_drew1) | exact HB.out)) hb); have n2_ := Aside0.mk (hbox); have n3_ := Aside0.mk ((by rw [hg]; exact (below_size (by repeat (first | (with_reducible first | exact HB.out | apply below_alloc | apply pw_below_drewN | apply below_drew1) | exact HB.out))) : w.heap.size ≤ gb254)); have n4_ := Aside0.mk ((by rw [hg]; exact (below_size (by repeat (first | (with_reducible first | exact HB.out | apply below_alloc | apply pw_below_drewN | apply below_drew1) | exact HB.out))) : w.heap.size ≤ gb254)); clear HO253; clear HB; have HO253 := n0_; have HB := n1_; have BK254 := n2_; have GW254 := n3_; have GE254 := n4_; clear n0_ n1_ n2_ n3_ n4_; clear hb hbox hg; have hcz48_0 : w47.cell? ⟨gb254, 0, none⟩ = some (.slice none 0 0) := (blk_cell BK254.out 0).trans rfl; have hcz48_1 : w47.cell? ⟨gb254, 1, none⟩ = some (.slice none 0 0) := (blk_cell BK254.out 1).trans rfl; have hcz48_2 : w47.cell? ⟨gb254, 2, none⟩ = some (.slice none 0 0) := (blk_cell BK254.out 2).trans rfl; have hcz48_3 : w47.cell? ⟨gb254, 3, none⟩ = some (.int .i64 0) := (blk_cell BK254.out 3).trans rfl; have hcz48_4 : w47.cell? ⟨gb254, 4, none⟩ = some (.int .i64 0) := (blk_cell BK254.out 4).trans rfl; have hcz48_5 : w47.cell? ⟨gb254, 5, none⟩ = some (.int .i64 0) := (blk_cell BK254.out 5).trans rfl; have hcz48_6 : w47.cell? ⟨gb254, 6, none⟩ = some (.int .i64 0) := (blk_cell BK254.out 6).trans rfl; have hcz48_7 : w47.cell? ⟨gb254, 7, none⟩ = some (.int .i64 0) := (blk_cell BK254.out 7).trans rfl; have hcz48_8 : w47.cell? ⟨gb254, 8, none⟩ = some (.int .i64 0) := (blk_cell BK254.out 8).trans rfl; have hfz48_0 := blk_frozen BK254.out 0; have hfz48_1 := blk_frozen BK254.out 1; have hfz48_2 := blk_frozen BK254.out 2; have hfz48_3 := blk_frozen BK254.out 3; have hfz48_4 := blk_frozen BK254.out 4; have hfz48_5 := blk_frozen BK254.out 5; have hfz48_6 := blk_frozen BK254.out 6; have hfz48_7 := blk_frozen BK254.out 7; have hfz48_8 := blk_frozen BK254.out 8) | ((with_reducible refine gate_dst (N := 7) rfl ?_); (try (refine gate_guard (by rfl) ?_; dsimp only)); refine Kd.S_lit k36 _ 36 ?hg (N := 7) ?hd (xs := ([(⟨4, 1, ([] : List Int), ([] : List Int)⟩ : S36)] : List (S36))) (inner := [.int .i64 4, .int .i64 1, .slice none 0 0, .slice none 0 0]) (ok := fun _ => True) (okp := fun _ => True) ?hr ?hp (fun _ hk => hk) trivial (Below.refl _ _) (Nat.le_refl _) (by simp) ?_; (case hd => rfl); (case hg => rfl); (case hr => first | (go_simp; done) | (go_simp; rfl)); (case hp => exact (Reps.c4 (show Kd.M k36 _ _ _ (⟨4, 1, ([] : List Int), ([] : List Int)⟩ : S36) [.int .i64 4, .int .i64 1, .slice none 0 0, .slice none 0 0] from (k36_mkM _ _ _ (⟨4, 1, ([] : List Int), ([] : List Int)⟩ : S36) (Kd.R_nil _ _ _ _ _) (Kd.R_nil _ _ _ _ _))) (Reps.none _ _))); intro v256 w49 ho50 hb hg_ hnew_; clear hg_ hnew_; (first | rw [← Ny255.out] at ho50 | (simp only [Int.reduceToNat] at ho50; rw [← Ny255.out] at ho50)); have n0_ := Aside0.mk (Kd.R_below (by (with_reducible repeat (first | apply Kd.R_alloc | apply Kd.R_drewN | apply Kd.R_drew)); exact (Kd.R_mono (Kd.R_far (p := ⟨gb254, 8, none⟩) (Kd.R_far (p := ⟨gb254, 7, none⟩) (Kd.R_far (p := ⟨gb254, 6, none⟩) (Kd.R_far (p := ⟨gb254, 5, none⟩) (Kd.R_far (p := ⟨gb254, 4, none⟩) (Kd.R_far (p := ⟨gb254, 3, none⟩) (Kd.R_far (p := ⟨gb254, 2, none⟩) (Kd.R_far (p := ⟨gb254, 1, none⟩) (Kd.R_far (p := ⟨gb254, 0, none⟩) (Kd.R_types HO253.out BK254.out (by decide)) (fun _ hk => hk.2) (.slice Ao46 y251.length co46)) (fun _ hk => hk.2) (.slice none 0 0)) (fun _ hk => hk.2) (.slice none 0 0)) (fun _ hk => hk.2) (.int .i64 0)) (fun _ hk => hk.2) (.int .i64 0)) (fun _ hk => hk.2) (.int .i64 0)) (fun _ hk => hk.2) (.int .i64 0)) (fun _ hk => hk.2) (.int .i64 0)) (fun _ hk => hk.2) (.int .i64 50)) (fun _ h_ => h_.1))) hb); have n1_ := Aside0.mk (Kd.S_lower ho50 (below_size (by repeat (first | (with_reducible first | exact HB.out | apply below_alloc | apply pw_below_drewN | apply below_drew1 | refine below_set ?_ GE254.out) | exact HB.out)))); have n2_ := Aside0.mk (blk_below (g := gb254) (o := .cells #[.slice Ao46 y251.length co46, .slice none 0 0, .slice none 0 0, .int .i64 0, .int .i64 0, .int .i64 0, .int .i64 0, .int .i64 0, .int .i64 50] 26 (0, 0)) (by (with_reducible repeat (first | refine blk_drewN ?_ _ | refine blk_drew ?_ | refine blk_alloc ?_ _)); refine blk_put (cs := #[.slice Ao46 y251.length co46, .slice none 0 0, .slice none 0 0, .int .i64 0, .int .i64 0, .int .i64 0, .int .i64 0, .int .i64 0, .int .i64 0]) ?_ 8 _ rfl; (with_reducible repeat (first | refine blk_drewN ?_ _ | refine blk_drew ?_ | refine blk_alloc ?_ _)); refine blk_put (cs := #[.slice Ao46 y251.length co46, .slice none 0 0, .slice none 0 0, .int .i64 0, .int .i64 0, .int .i64 0, .int .i64 0, .int .i64 0, .int .i64 0]) ?_ 7 _ rfl; (with_reducible repeat (first | refine blk_drewN ?_ _ | refine blk_drew ?_ | refine blk_alloc ?_ _)); refine blk_put (cs := #[.slice Ao46 y251.length co46, .slice none 0 0, .slice none 0 0, .int .i64 0, .int .i64 0, .int .i64 0, .int .i64 0, .int .i64 0, .int .i64 0]) ?_ 6 _ rfl; (with_reducible repeat (first | refine blk_drewN ?_ _ | refine blk_drew ?_ | refine blk_alloc ?_ _)); refine blk_put (cs := #[.slice Ao46 y251.length co46, .slice none 0 0, .slice none 0 0, .int .i64 0, .int .i64 0, .int .i64 0, .int .i64 0, .int .i64 0, .int .i64 0]) ?_ 5 _ rfl; (with_reducible repeat (first | refine blk_drewN ?_ _ | refine blk_drew ?_ | refine blk_alloc ?_ _)); refine blk_put (cs := #[.slice Ao46 y251.length co46, .slice none 0 0, .slice none 0 0, .int .i64 0, .int .i64 0, .int .i64 0, .int .i64 0, .int .i64 0, .int .i64 0]) ?_ 4 _ rfl; (with_reducible repeat (first | refine blk_drewN ?_ _ | refine blk_drew ?_ | refine blk_alloc ?_ _)); refine blk_put (cs := #[.slice Ao46 y251.length co46, .slice none 0 0, .slice none 0 0, .int .i64 0, .int .i64 0, .int .i64 0, .int .i64 0, .int .i64 0, .int .i64 0]) ?_ 3 _ rfl; (with_reducible repeat (first | refine blk_drewN ?_ _ | refine blk_drew ?_ | refine blk_alloc ?_ _)); refine blk_put (cs := #[.slice Ao46 y251.length co46, .slice none 0 0, .slice none 0 0, .int .i64 0, .int .i64 0, .int .i64 0, .int .i64 0, .int .i64 0, .int .i64 0]) ?_ 2 _ rfl; (with_reducible repeat (first | refine blk_drewN ?_ _ | refine blk_drew ?_ | refine blk_alloc ?_ _)); refine blk_put (cs := #[.slice Ao46 y251.length co46, .slice none 0 0, .slice none 0 0, .int .i64 0, .int .i64 0, .int .i64 0, .int .i64 0, .int .i64 0, .int .i64 0]) ?_ 1 _ rfl; (with_reducible repeat (first | refine blk_drewN ?_ _ | refine blk_drew ?_ | refine blk_alloc ?_ _)); refine blk_put (cs := #[.slice none 0 0, .slice none 0 0, .slice none 0 0, .int .i64 0, .int .i64 0, .int .i64 0, .int .i64 0, .int .i64 0, .int .i64 0]) ?_ 0 _ rfl; (with_reducible repeat (first | refine blk_drewN ?_ _ | refine blk_drew ?_ | refine blk_alloc ?_ _)); exact BK254.out) hb); have n3_ := Aside0.mk (below_step (by repeat (first | (with_reducible first | exact HB.out | apply below_alloc | apply pw_below_drewN | apply below_drew1 | refine below_set ?_ GE254.out) | exact HB.out)) hb); clear HO253; clear BK254; clear HB; have HO253 := n0_; have HO257 := n1_; have BK254 := n2_; have HB := n3_; clear n0_ n1_ n2_ n3_; clear hb ho50; have hcz51_0 : w49.cell? ⟨gb254, 0, none⟩ = some (.slice Ao46 y251.length co46) := (blk_cell BK254.out 0).trans rfl; have hcz51_1 : w49.cell? ⟨gb254, 1, none⟩ = some (.slice none 0 0) := (blk_cell BK254.out 1).trans rfl; have hcz51_2 : w49.cell? ⟨gb254, 2, none⟩ = some (.slice none 0 0) := (blk_cell BK254.out 2).trans rfl; have hcz51_3 : w49.cell? ⟨gb254, 3, none⟩ = some (.int .i64 0) := (blk_cell BK254.out 3).trans rfl; have hcz51_4 : w49.cell? ⟨gb254, 4, none⟩ = some (.int .i64 0) := (blk_cell BK254.out 4).trans rfl; have hcz51_5 : w49.cell? ⟨gb254, 5, none⟩ = some (.int .i64 0) := (blk_cell BK254.out 5).trans rfl; have hcz51_6 : w49.cell? ⟨gb254, 6, none⟩ = some (.int .i64 0) := (blk_cell BK254.out 6).trans rfl; have hcz51_7 : w49.cell? ⟨gb254, 7, none⟩ = some (.int .i64 0) := (blk_cell BK254.out 7).trans rfl; have hcz51_8 : w49.cell? ⟨gb254, 8, none⟩ = some (.int .i64 50) := (blk_cell BK254.out 8).trans rfl; have hfz51_0 := blk_frozen BK254.out 0; have hfz51_1 := blk_frozen BK254.out 1; have hfz51_2 := blk_frozen BK254.out 2; have hfz51_3 := blk_frozen BK254.out 3; have hfz51_4 := blk_frozen BK254.out 4; have hfz51_5 := blk_frozen BK254.out 5; have hfz51_6 := blk_frozen BK254.out 6; have hfz51_7 := blk_frozen BK254.out 7; have hfz51_8 := blk_frozen BK254.out 8) | ((with_reducible refine gate_dst (N := 10) rfl ?_); (try (refine gate_guard (by rfl) ?_; dsimp only)); refine Kd.R_lit (Kd.int .i64) _ 3 ?hg (N := 10) ?hd (xs := ([0] : List Int)) (inner := [.int .i64 0]) (ok := fun _ => True) (okp := fun _ => True) ?hr ?hp (fun _ hk => hk) trivial (Below.refl _ _) (Nat.le_refl _) (by simp) ?_; (case hd => rfl); (case hg => rfl); (case hr => first | (go_simp; done) | (go_simp; rfl)); (case hp => exact (Reps.one (show Kd.M (Kd.int .i64) _ _ _ 0 [.int .i64 0] from rfl) (Reps.none _ _))); intro v259 w52 ho53 hb hg_ hnew_; clear hg_ hnew_; (first | rw [← Ny258.out] at ho53 | (simp only [Int.reduceToNat] at ho53; rw [← Ny258.out] at ho53)); have n0_ := Aside0.mk (Kd.R_below (by (with_reducible repeat (first | apply Kd.R_alloc | apply Kd.R_drewN | apply Kd.R_drew)); exact HO253.out) hb); have n1_ := Aside0.mk (Kd.S_elder' (by (with_reducible repeat (first | apply Kd.S_alloc | apply Kd.S_drewN | apply Kd.S_drew)); exact HO257.out) (Kd.R_base ho53) hb); have n2_ := Aside0.mk (Kd.R_lower ho53 (below_size (by repeat (first | (with_reducible first | exact HB.out | apply below_alloc | apply pw_below_drewN | apply below_drew1 | refine below_set ?_ GE254.out) | exact HB.out)))); have n3_ := Aside0.mk (blk_below (g := gb254) (o := .cells #[.slice Ao46 y251.length co46, .slice none 0 0, .slice none 0 0, .int .i64 0, .int .i64 0, .int .i64 0, .int .i64 0, .int .i64 0, .int .i64 50] 26 (0, 0)) (by (with_reducible repeat (first | refine blk_drewN ?_ _ | refine blk_drew ?_ | refine blk_alloc ?_ _)); exact BK254.out) hb); have n4_ := Aside0.mk (below_step (by repeat (first | (with_reducible first | exact HB.out | apply below_alloc | apply pw_below_drewN | apply below_drew1 | refine below_set ?_ GE254.out) | exact HB.out)) hb); clear HO253; clear HO257; clear BK254; clear HB; have HO253 := n0_; have HO257 := n1_; have HO260 := n2_; have BK254 := n3_; have HB := n4_; clear n0_ n1_ n2_ n3_ n4_; clear hb ho53; obtain ⟨Ao54, co54, eo54⟩ := Kd.S_slice HO257.out; subst eo54; obtain ⟨Ao55, co55, eo55⟩ := Kd.R_slice HO260.out; subst eo55) | ((with_reducible refine gate_callee (f := 25) rfl ?_); refine goesL_ (some 11) rfl rfl Try.func25 (by kernel_rfl) rfl #[.agg #[.slice Ao46 y251.length co46, .slice none 0 0, .slice none 0 0, .int .i64 0, .int .i64 0, .int .i64 0, .int .i64 0, .int .i64 0, .int .i64 50], .slice Ao54 y255.length co54, .slice Ao55 y258.length co55, .slice none 0 0, .slice none 0 0, .int .i64 0, .int .i64 0] rfl (by (try simp only [List.map_toArray, List.map_cons, List.map_nil]); first | done | rfl | (simp only [List.length_drop, List.length_take]; rfl)) ?_; (refine (slack_Least.calls _ _ y251 _ _ ([] : List (S68)) _ _ ([] : List (S71)) 0 0 0 0 0 50 _ _ y255 _ _ y258 _ _ ([] : List (S38)) _ _ ([] : List (S73)) 0 0 t261 _ ?side1 ?side2 ?side3 ?side4 ?side5 ?side6 ?side7 ?side8 ?side9 ?side10 ?side11 ?side12 ?side13 ?side14 A1.out).mono ?_); (case side1 => repeat (first | exact (Kd.R_reads' HO253.out).2.2 | (with_reducible refine Kd.C_alloc ?_ _) | (with_reducible refine Kd.C_drewN ?_ _) | (with_reducible refine Kd.C_drew ?_))); (case side2 => exact (Kd.R_reads' HO253.out).2.1); (case side3 => exact Kd.C_nil _ _); (case side4 => exact Nat.le_refl _); (case side5 => exact Kd.C_nil _ _); (case side6 => exact Nat.le_refl _); (case side7 => repeat (first | exact (Kd.S_reads' HO257.out).2.2 | (with_reducible refine Kd.C_alloc ?_ _) | (with_reducible refine Kd.C_drewN ?_ _) | (with_reducible refine Kd.C_drew ?_))); (case side8 => exact (Kd.S_reads' HO257.out).2.1); (case side9 => repeat (first | exact (Kd.R_reads' HO260.out).2.2 | (with_reducible refine Kd.C_alloc ?_ _) | (with_reducible refine Kd.C_drewN ?_ _) | (with_reducible refine Kd.C_drew ?_))); (case side10 => exact (Kd.R_reads' HO260.out).2.1); (case side11 => exact Kd.C_nil _ _); (case side12 => exact Nat.le_refl _); (case side13 => exact Kd.C_nil _ _); (case side14 => exact Nat.le_refl _); rintro e w56 ⟨rfl, hb⟩; refine ⟨_, rfl, ?_⟩; have n0_ := Aside0.mk (Kd.R_below (by (with_reducible repeat (first | apply Kd.R_alloc | apply Kd.R_drewN | apply Kd.R_drew)); exact HO253.out) hb); have n1_ := Aside0.mk (Kd.S_below (by (with_reducible repeat (first | apply Kd.S_alloc | apply Kd.S_drewN | apply Kd.S_drew)); exact HO257.out) hb); have n2_ := Aside0.mk (Kd.R_below (by (with_reducible repeat (first | apply Kd.R_alloc | apply Kd.R_drewN | apply Kd.R_drew)); exact HO260.out) hb); have n3_ := Aside0.mk (blk_below (g := gb254) (o := .cells #[.slice Ao46 y251.length co46, .slice none 0 0, .slice none 0 0, .int .i64 0, .int .i64 0, .int .i64 0, .int .i64 0, .int .i64 0, .int .i64 50] 26 (0, 0)) (by (with_reducible repeat (first | refine blk_drewN ?_ _ | refine blk_drew ?_ | refine blk_alloc ?_ _)); exact BK254.out) hb); have n4_ := Aside0.mk (below_step (by repeat (first | (with_reducible first | exact HB.out | apply below_alloc | apply pw_below_drewN | apply below_drew1 | refine below_set ?_ GE254.out) | exact HB.out)) hb); clear HO253; clear HO257; clear HO260; clear BK254; clear HB; have HO253 := n0_; have HO257 := n1_; have HO260 := n2_; have BK254 := n3_; have HB := n4_; clear n0_ n1_ n2_ n3_ n4_; (try clear hb); (try clear hb2); (try clear hk); (try clear hi)))
    go_ret
    exact ⟨by first | rfl | (simp [errW_none, errW_some] <;> rfl) | (simp [*, errW_none, errW_some] <;> rfl), by repeat (first | (with_reducible first | exact HB.out | apply below_alloc | apply pw_below_drewN | apply below_drew1 | refine below_set ?_ GE254.out) | exact HB.out)⟩
end Go.Proofs.Ytchlbnlhjllcbaa.F
namespace Go.Proofs.Ytchlbnlhjllcbaa.F
open Go.RowKit Go.Proofs.YtchlbnlhjllcbaaW.PrintWords Go.Proofs.YtchlbnlhjllcbaaW.PrintLast Go.Proofs.YtchlbnlhjllcbaaW.PrintMore
attribute [local go_sem] max2_int min2_int max_two min_two max_three min_three max_four min_four   -- for this text's walks alone
set_option linter.unusedVariables false
set_option linter.unusedSimpArgs false
def dormouselaw15_held.l0 : Nat → List (S56) → List (S73) → Int → Option ((List (S73)))
  | 0, _, _, _ => none
  | k + 1, x0, x3, x4 => if x4 < (x0.length : Int) then (if 0 ≤ x4 then (if x3.length < 5864062014805 then (dormouselaw15_held.l0 k x0 (x3 ++ [(⟨(rd_T56 x0 x4).f0, (rd_T56 x0 x4).f1, (rd_T56 x0 x4).f2⟩ : S73)]) (wrap64 (x4 + 1))) else (none)) else (none)) else (some x3)
def dormouselaw15_held.f (k : Nat) (l0 : List (S56)) : Option ((List (S73))) := dormouselaw15_held.l0 k l0 ([] : List (S73)) 0
def dormouselaw15_held.T5 : Bool × List (List Nat × List Nat) := (true, [([], []), ([], []), ([], []), ([1, 2], [1, 2]), ([3], [3]), ([4], [4]), ([], []), ([], []), ([6, 7], [6, 7]), ([8], [8]), ([9], [9]), ([], []), ([], []), ([11, 12], [11, 12]), ([13], [13]), ([14], [14]), ([5, 10, 15], [5, 10, 15]), ([16], [16]), ([0, 17], [0, 17]), ([18, 18, 0, 1, 2, 3, 4, 5, 6, 7, 8, 9, 10, 11, 12, 13, 14, 15, 16, 17, 18], [0, 18])])
def dormouselaw15_held.B5 : List Nat := [0, 0, 0, 6, 14, 30, 0, 0, 192, 448, 960, 0, 0, 6144, 14336, 30720, 65534, 131070, 262143, 524287]
theorem dormouselaw15_held.tab5 : rtab .any (opsOf Try.f27 5) = dormouselaw15_held.T5 := by kernel_rfl
theorem dormouselaw15_held.bits5 : waitsOk dormouselaw15_held.T5.2 dormouselaw15_held.B5 = true := by kernel_rfl
set_option maxHeartbeats 8000000 in
set_option maxRecDepth 100000 in
theorem dormouselaw15_held.calls (k : Nat) (A0 : Option Addr) (c0 : Nat) (l0 : List (S56)) (r : List (S73)) (w : World) (hr0 : Kd.C k56 w A0 l0.length l0) (hc0 : l0.length ≤ c0) (h : dormouselaw15_held.f k l0 = some r) :
    Calls Try.prog 27 #[.slice A0 l0.length c0] w fun e w' => ∃ v0_ : Value, e = .returned (v0_) ∧ Kd.R k73 73 w' w.heap.size (fun _ => True) v0_ r ∧ Below w.heap.size w w' := by
  have hu73 := Try.underlying73
  have HR0 := Aside0.mk hr0
  have HC0 := Aside0.mk hc0
  clear hr0 hc0
  have HB := Aside0.mk (Below.refl w.heap.size w)
  have H : (dormouselaw15_held.l0 k l0 ([] : List (S73)) 0) = some r := h
  clear h
  have H' := Aside0.mk H
  clear H
  go_enter Try.func27, Try.ntmps27
  go_wp2
  go_loopg [3, 4] k (fun kq v3 v4 w' => ∃ (x3_1 : List (S73)) (x4_1 : Int), v4 = .int .i64 x4_1 ∧ Aside0 (dormouselaw15_held.l0 kq l0 x3_1 x4_1 = some r) ∧ Aside0 (kq ≤ k) ∧ Aside0 (Kd.R k73 73 w' w.heap.size (fun _ => True) v3 x3_1) ∧ Aside0 (Below w.heap.size w w'))
  case atStart => exact ⟨(([] : List (S73))), (0), (by first | rfl | (simp; done) | (simp [*]; done)), H', ⟨Nat.le_refl _⟩, ⟨by first | exact Kd.R_nil _ _ _ _ _ | exact Kd.N_nil _ _ _ _ _ | exact Kd.V_nil _ _ _ _ _ | exact Kd.Q_nil _ _ _ _ _ | exact Kd.S_nil _ _ _ _ _⟩, ⟨by repeat (first | (with_reducible first | exact HB.out | apply below_alloc | apply pw_below_drewN | apply below_drew1) | exact HB.out)⟩⟩
  case round =>
    clear H'
    obtain ⟨x3_1, x4_1, rfl, HA, HK1, HO_3, HB⟩ := hrel
    cases gk with
    | zero => exact absurd HA.out (by simp [dormouselaw15_held.l0])
    | succ k1 =>
      have H := HA.out
      clear HA
      simp only [dormouselaw15_held.l0] at H
      by_cases c2 : x4_1 < (l0.length : Int)
      · rw [if_pos c2] at H
        have c2b0 : decide (x4_1 < (l0.length : Int)) = true := decide_eq_true c2
        clear c2
        by_cases c3 : 0 ≤ x4_1
        · rw [if_pos c3] at H
          have c3b0 : decide (0 ≤ x4_1) = true := decide_eq_true c3
          clear c3
          by_cases c4 : x3_1.length < 5864062014805
          · rw [if_pos c4] at H
            have LMc4 := Aside0.mk c4
            clear c4
            obtain ⟨y276, hy276⟩ : ∃ y_ : List (S73), y_ = (x3_1 ++ [(⟨(rd_T56 l0 x4_1).f0, (rd_T56 l0 x4_1).f1, (rd_T56 l0 x4_1).f2⟩ : S73)]) := ⟨_, rfl⟩
            replace H : (dormouselaw15_held.l0 k1 l0 y276 (wrap64 (x4_1 + 1))) = some r := by first | (rw [hy276]; with_reducible exact H) | (have H2_ := (Option.bind_some _ _).symm.trans H; rw [hy276]; with_reducible exact H2_) | (have H2_ := (Option.bind_some _ _).symm.trans H; with_reducible exact H2_) | with_reducible exact H | (rw [hy276]; exact H) | exact H
            have Ny276 := Aside0.mk hy276
            clear hy276
            have H' := Aside0.mk H
            clear H
            try go_wp2
            have n0_ := Aside0.mk (Kd.R_drew HO_3.out)
            have n1_ := Aside0.mk (below_drew1 HB.out)
            clear HO_3
            clear HB
            have HO_3 := n0_
            have HB := n1_
            clear n0_ n1_
            have p273 : 0 ≤ (x4_1 : Int) := of_decide_eq_true (by first | (with_reducible assumption) | assumption)
            have q273 : x4_1 < (l0.length : Int) := of_decide_eq_true (by first | (with_reducible assumption) | assumption)
            obtain ⟨ad273, e273, hx273_0, hx273_1, hx273_2⟩ := at_T56 HR0.out x4_1 p273 q273
            have hw273_2 := hx273_2
            have hw273_1 := hx273_1
            have hw273_0 := hx273_0
            cases e273
            replace hx273_0 := (HB.out.cell (World.block_lt_of_cell? w _ hx273_0)).trans hx273_0
            replace hx273_1 := (HB.out.cell (World.block_lt_of_cell? w _ hx273_1)).trans hx273_1
            replace hx273_2 := (HB.out.cell (World.block_lt_of_cell? w _ hx273_2)).trans hx273_2
            replace p273 := eq_true p273
            replace q273 := eq_true q273
            have p274 : 0 ≤ (x4_1 : Int) := of_decide_eq_true (by first | (with_reducible assumption) | assumption)
            have q274 : x4_1 < (l0.length : Int) := of_decide_eq_true (by first | (with_reducible assumption) | assumption)
            obtain ⟨ad274, e274, hx274_0, hx274_1, hx274_2⟩ := at_T56 HR0.out x4_1 p274 q274
            have hw274_2 := hx274_2
            have hw274_1 := hx274_1
            have hw274_0 := hx274_0
            obtain rfl : ad273 = ad274 := (by injection e274)
            replace hx274_0 := (HB.out.cell (World.block_lt_of_cell? w _ hx274_0)).trans hx274_0
            replace hx274_1 := (HB.out.cell (World.block_lt_of_cell? w _ hx274_1)).trans hx274_1
            replace hx274_2 := (HB.out.cell (World.block_lt_of_cell? w _ hx274_2)).trans hx274_2
            replace p274 := eq_true p274
            replace q274 := eq_true q274
            have p275 : 0 ≤ (x4_1 : Int) := of_decide_eq_true (by first | (with_reducible assumption) | assumption)
            have q275 : x4_1 < (l0.length : Int) := of_decide_eq_true (by first | (with_reducible assumption) | assumption)
            obtain ⟨ad275, e275, hx275_0, hx275_1, hx275_2⟩ := at_T56 HR0.out x4_1 p275 q275
            have hw275_2 := hx275_2
            have hw275_1 := hx275_1
            have hw275_0 := hx275_0
            obtain rfl : ad273 = ad275 := (by injection e275)
            replace hx275_0 := (HB.out.cell (World.block_lt_of_cell? w _ hx275_0)).trans hx275_0
            replace hx275_1 := (HB.out.cell (World.block_lt_of_cell? w _ hx275_1)).trans hx275_1
            replace hx275_2 := (HB.out.cell (World.block_lt_of_cell? w _ hx275_2)).trans hx275_2
            replace p275 := eq_true p275
            replace q275 := eq_true q275
            refine start_ (n := 20) (S := fun w' => w'.cell? (ad273.add ((x4_1).toNat * 3)) = some (.int .i64 ((rd_T56 l0 x4_1).f0)) ∧ w'.cell? ⟨(ad273.add ((x4_1).toNat * 3)).block, (ad273.add ((x4_1).toNat * 3)).off + 1, none⟩ = some (.int .i64 ((rd_T56 l0 x4_1).f1)) ∧ w'.cell? ⟨(ad273.add ((x4_1).toNat * 3)).block, (ad273.add ((x4_1).toNat * 3)).off + 2, none⟩ = some (.int .i64 ((rd_T56 l0 x4_1).f2)) ∧ w'.cell? (ad273.add ((x4_1).toNat * 3)) = some (.int .i64 ((rd_T56 l0 x4_1).f0)) ∧ w'.cell? ⟨(ad273.add ((x4_1).toNat * 3)).block, (ad273.add ((x4_1).toNat * 3)).off + 1, none⟩ = some (.int .i64 ((rd_T56 l0 x4_1).f1)) ∧ w'.cell? ⟨(ad273.add ((x4_1).toNat * 3)).block, (ad273.add ((x4_1).toNat * 3)).off + 2, none⟩ = some (.int .i64 ((rd_T56 l0 x4_1).f2)) ∧ w'.cell? (ad273.add ((x4_1).toNat * 3)) = some (.int .i64 ((rd_T56 l0 x4_1).f0)) ∧ w'.cell? ⟨(ad273.add ((x4_1).toNat * 3)).block, (ad273.add ((x4_1).toNat * 3)).off + 1, none⟩ = some (.int .i64 ((rd_T56 l0 x4_1).f1)) ∧ w'.cell? ⟨(ad273.add ((x4_1).toNat * 3)).block, (ad273.add ((x4_1).toNat * 3)).off + 2, none⟩ = some (.int .i64 ((rd_T56 l0 x4_1).f2))) (ds := []) #[false, false, false, false, false, false, false, false, false, false, false, false, false, false, false, false, false, false, false, false] (by kernel_rfl) rfl rfl ⟨((HB.out.cell (World.block_lt_of_cell? w _ hw273_0)).trans hw273_0), ((HB.out.cell (World.block_lt_of_cell? w _ hw273_1)).trans hw273_1), ((HB.out.cell (World.block_lt_of_cell? w _ hw273_2)).trans hw273_2), ((HB.out.cell (World.block_lt_of_cell? w _ hw274_0)).trans hw274_0), ((HB.out.cell (World.block_lt_of_cell? w _ hw274_1)).trans hw274_1), ((HB.out.cell (World.block_lt_of_cell? w _ hw274_2)).trans hw274_2), ((HB.out.cell (World.block_lt_of_cell? w _ hw275_0)).trans hw275_0), ((HB.out.cell (World.block_lt_of_cell? w _ hw275_1)).trans hw275_1), ((HB.out.cell (World.block_lt_of_cell? w _ hw275_2)).trans hw275_2)⟩ (fun hHeld => ?_); refine with_tabW dormouselaw15_held.tab5 dormouselaw15_held.bits5 (fun HT_ HW_ => ?_)
            generalize wr.drew = w5 at HO_3 HB hx273_0 hx273_1 hx273_2 hx274_0 hx274_1 hx274_2 hx275_0 hx275_1 hx275_2 hHeld ⊢
            refine pure_ (i := 0) (N := some 11) (v := ?_) (a' := ?_) #[true, false, false, false, false, false, false, false, false, false, false, false, false, false, false, false, false, false, false, false] rfl rfl (any_of HT_.out (by kernel_rfl)) (fun _ _ _ h => h) (Or.inl ⟨by rfl, ?_⟩) ?_ ?_
            rotate_left
            · intro w'
              go_simp
              with_reducible rfl
            rotate_left
            · simp only [Act.put, List.setIfInBounds_toArray, List.set_cons_zero, List.set_cons_succ, i64_w, i32_w]
              rfl
            refine pure_ (i := 1) (N := some 12) (v := ?_) (a' := ?_) #[true, true, false, false, false, false, false, false, false, false, false, false, false, false, false, false, false, false, false, false] rfl rfl (any_of HT_.out (by kernel_rfl)) (fun _ _ _ h => h) (Or.inl ⟨by rfl, ?_⟩) ?_ ?_
            rotate_left
            · intro w'
              go_simp
              with_reducible rfl
            rotate_left
            · simp only [Act.put, List.setIfInBounds_toArray, List.set_cons_zero, List.set_cons_succ, i64_w, i32_w]
              rfl
            refine pure_ (i := 2) (N := some 13) (v := ?_) (a' := ?_) #[true, true, true, false, false, false, false, false, false, false, false, false, false, false, false, false, false, false, false, false] rfl rfl (any_of HT_.out (by kernel_rfl)) (fun _ _ _ h => h) (Or.inl ⟨by rfl, ?_⟩) ?_ ?_
            rotate_left
            · intro w'
              go_simp
              with_reducible rfl
            rotate_left
            · simp only [Act.put, List.setIfInBounds_toArray, List.set_cons_zero, List.set_cons_succ, i64_w, i32_w]
              rfl
            refine pure_ (i := 3) (N := some 14) (v := ?_) (a' := ?_) #[true, true, true, true, false, false, false, false, false, false, false, false, false, false, false, false, false, false, false, false] rfl rfl (any_of HT_.out (by kernel_rfl)) (fun _ _ _ h => h) (Or.inl ⟨by rfl, ?_⟩) ?_ ?_
            rotate_left
            · intro w'
              go_simp
              with_reducible rfl
            rotate_left
            · simp only [Act.put, List.setIfInBounds_toArray, List.set_cons_zero, List.set_cons_succ, i64_w, i32_w]
              rfl
            refine pure_ (i := 4) (N := some 15) (v := ?_) (a' := ?_) #[true, true, true, true, true, false, false, false, false, false, false, false, false, false, false, false, false, false, false, false] rfl rfl (any_of HT_.out (by kernel_rfl)) (fun _ _ _ h => h) (Or.inl ⟨by rfl, ?_⟩) ?_ ?_
            rotate_left
            · intro w'
              go_simp
              with_reducible rfl
            rotate_left
            · simp only [Act.put, List.setIfInBounds_toArray, List.set_cons_zero, List.set_cons_succ, i64_w, i32_w]
              rfl
            refine pure_ (i := 6) (N := some 17) (v := ?_) (a' := ?_) #[true, true, true, true, true, false, true, false, false, false, false, false, false, false, false, false, false, false, false, false] rfl rfl (any_of HT_.out (by kernel_rfl)) (fun _ _ _ h => h) (Or.inl ⟨by rfl, ?_⟩) ?_ ?_
            rotate_left
            · intro w'
              go_simp
              with_reducible rfl
            rotate_left
            · simp only [Act.put, List.setIfInBounds_toArray, List.set_cons_zero, List.set_cons_succ, i64_w, i32_w]
              rfl
            refine pure_ (i := 7) (N := some 18) (v := ?_) (a' := ?_) #[true, true, true, true, true, false, true, true, false, false, false, false, false, false, false, false, false, false, false, false] rfl rfl (any_of HT_.out (by kernel_rfl)) (fun _ _ _ h => h) (Or.inl ⟨by rfl, ?_⟩) ?_ ?_
            rotate_left
            · intro w'
              go_simp
              with_reducible rfl
            rotate_left
            · simp only [Act.put, List.setIfInBounds_toArray, List.set_cons_zero, List.set_cons_succ, i64_w, i32_w]
              rfl
            refine pure_ (i := 8) (N := some 19) (v := ?_) (a' := ?_) #[true, true, true, true, true, false, true, true, true, false, false, false, false, false, false, false, false, false, false, false] rfl rfl (any_of HT_.out (by kernel_rfl)) (fun _ _ _ h => h) (Or.inl ⟨by rfl, ?_⟩) ?_ ?_
            rotate_left
            · intro w'
              go_simp
              with_reducible rfl
            rotate_left
            · simp only [Act.put, List.setIfInBounds_toArray, List.set_cons_zero, List.set_cons_succ, i64_w, i32_w]
              rfl
            refine pure_ (i := 9) (N := some 20) (v := ?_) (a' := ?_) #[true, true, true, true, true, false, true, true, true, true, false, false, false, false, false, false, false, false, false, false] rfl rfl (any_of HT_.out (by kernel_rfl)) (fun _ _ _ h => h) (Or.inl ⟨by rfl, ?_⟩) ?_ ?_
            rotate_left
            · intro w'
              go_simp
              with_reducible rfl
            rotate_left
            · simp only [Act.put, List.setIfInBounds_toArray, List.set_cons_zero, List.set_cons_succ, i64_w, i32_w]
              rfl
            refine pure_ (i := 11) (N := some 22) (v := ?_) (a' := ?_) #[true, true, true, true, true, false, true, true, true, true, false, true, false, false, false, false, false, false, false, false] rfl rfl (any_of HT_.out (by kernel_rfl)) (fun _ _ _ h => h) (Or.inl ⟨by rfl, ?_⟩) ?_ ?_
            rotate_left
            · intro w'
              go_simp
              with_reducible rfl
            rotate_left
            · simp only [Act.put, List.setIfInBounds_toArray, List.set_cons_zero, List.set_cons_succ, i64_w, i32_w]
              rfl
            refine pure_ (i := 12) (N := some 23) (v := ?_) (a' := ?_) #[true, true, true, true, true, false, true, true, true, true, false, true, true, false, false, false, false, false, false, false] rfl rfl (any_of HT_.out (by kernel_rfl)) (fun _ _ _ h => h) (Or.inl ⟨by rfl, ?_⟩) ?_ ?_
            rotate_left
            · intro w'
              go_simp
              with_reducible rfl
            rotate_left
            · simp only [Act.put, List.setIfInBounds_toArray, List.set_cons_zero, List.set_cons_succ, i64_w, i32_w]
              rfl
            refine pure_ (i := 13) (N := some 24) (v := ?_) (a' := ?_) #[true, true, true, true, true, false, true, true, true, true, false, true, true, true, false, false, false, false, false, false] rfl rfl (any_of HT_.out (by kernel_rfl)) (fun _ _ _ h => h) (Or.inl ⟨by rfl, ?_⟩) ?_ ?_
            rotate_left
            · intro w'
              go_simp
              with_reducible rfl
            rotate_left
            · simp only [Act.put, List.setIfInBounds_toArray, List.set_cons_zero, List.set_cons_succ, i64_w, i32_w]
              rfl
            refine pure_ (i := 14) (N := some 25) (v := ?_) (a' := ?_) #[true, true, true, true, true, false, true, true, true, true, false, true, true, true, true, false, false, false, false, false] rfl rfl (any_of HT_.out (by kernel_rfl)) (fun _ _ _ h => h) (Or.inl ⟨by rfl, ?_⟩) ?_ ?_
            rotate_left
            · intro w'
              go_simp
              with_reducible rfl
            rotate_left
            · simp only [Act.put, List.setIfInBounds_toArray, List.set_cons_zero, List.set_cons_succ, i64_w, i32_w]
              rfl
            refine take_ (i := 5) (N := some 16) (v := ?_) (a' := ?_) #[true, true, true, true, true, true, true, true, true, true, false, true, true, true, true, false, false, false, false, false] rfl rfl (take_ofW HT_.out HW_.out (by kernel_rfl)) (fun _ _ _ h => h) (Or.inl ⟨by rfl, ?_⟩) hHeld ?_ ?_
            rotate_left
            · rintro w' ⟨s0, s1, s2, s3, s4, s5, s6, s7, s8⟩
              go_simp
              with_reducible rfl
            rotate_left
            · simp only [Act.put, List.setIfInBounds_toArray, List.set_cons_zero, List.set_cons_succ, i64_w, i32_w]
              rfl
            refine take_ (i := 10) (N := some 21) (v := ?_) (a' := ?_) #[true, true, true, true, true, true, true, true, true, true, true, true, true, true, true, false, false, false, false, false] rfl rfl (take_ofW HT_.out HW_.out (by kernel_rfl)) (fun _ _ _ h => h) (Or.inl ⟨by rfl, ?_⟩) hHeld ?_ ?_
            rotate_left
            · rintro w' ⟨s0, s1, s2, s3, s4, s5, s6, s7, s8⟩
              go_simp
              with_reducible rfl
            rotate_left
            · simp only [Act.put, List.setIfInBounds_toArray, List.set_cons_zero, List.set_cons_succ, i64_w, i32_w]
              rfl
            refine take_ (i := 15) (N := some 26) (v := ?_) (a' := ?_) #[true, true, true, true, true, true, true, true, true, true, true, true, true, true, true, true, false, false, false, false] rfl rfl (take_ofW HT_.out HW_.out (by kernel_rfl)) (fun _ _ _ h => h) (Or.inl ⟨by rfl, ?_⟩) hHeld ?_ ?_
            rotate_left
            · rintro w' ⟨s0, s1, s2, s3, s4, s5, s6, s7, s8⟩
              go_simp
              with_reducible rfl
            rotate_left
            · simp only [Act.put, List.setIfInBounds_toArray, List.set_cons_zero, List.set_cons_succ, i64_w, i32_w]
              rfl
            refine pure_ (i := 16) (N := some 27) (v := ?_) (a' := ?_) #[true, true, true, true, true, true, true, true, true, true, true, true, true, true, true, true, true, false, false, false] rfl rfl (any_of HT_.out (by kernel_rfl)) (fun _ _ _ h => h) (Or.inl ⟨by rfl, ?_⟩) ?_ ?_
            rotate_left
            · intro w'
              go_simp
              with_reducible rfl
            rotate_left
            · simp only [Act.put, List.setIfInBounds_toArray, List.set_cons_zero, List.set_cons_succ, i64_w, i32_w]
              rfl
            refine one_ (i := 17) (N := some 28) #[true, true, true, true, true, true, true, true, true, true, true, true, true, true, true, true, true, true, false, false] rfl rfl (one_of HT_.out (by kernel_rfl)) (by decide) (fun K hK => ?_)
            refine value_ (w1 := ?_) (v := ?_) (by rfl) rfl ?_ ?_
            rotate_left 2
            · go_simp
              constructor
              · rfl
              · rfl
            refine hK.out _ _ ⟨(World.cell?_alloc_lt _ _ _ (World.block_lt_of_cell? _ _ (((HB.out.cell (World.block_lt_of_cell? w _ hw273_0)).trans hw273_0)))).trans (((HB.out.cell (World.block_lt_of_cell? w _ hw273_0)).trans hw273_0)), (World.cell?_alloc_lt _ _ _ (World.block_lt_of_cell? _ _ (((HB.out.cell (World.block_lt_of_cell? w _ hw273_1)).trans hw273_1)))).trans (((HB.out.cell (World.block_lt_of_cell? w _ hw273_1)).trans hw273_1)), (World.cell?_alloc_lt _ _ _ (World.block_lt_of_cell? _ _ (((HB.out.cell (World.block_lt_of_cell? w _ hw273_2)).trans hw273_2)))).trans (((HB.out.cell (World.block_lt_of_cell? w _ hw273_2)).trans hw273_2)), (World.cell?_alloc_lt _ _ _ (World.block_lt_of_cell? _ _ (((HB.out.cell (World.block_lt_of_cell? w _ hw274_0)).trans hw274_0)))).trans (((HB.out.cell (World.block_lt_of_cell? w _ hw274_0)).trans hw274_0)), (World.cell?_alloc_lt _ _ _ (World.block_lt_of_cell? _ _ (((HB.out.cell (World.block_lt_of_cell? w _ hw274_1)).trans hw274_1)))).trans (((HB.out.cell (World.block_lt_of_cell? w _ hw274_1)).trans hw274_1)), (World.cell?_alloc_lt _ _ _ (World.block_lt_of_cell? _ _ (((HB.out.cell (World.block_lt_of_cell? w _ hw274_2)).trans hw274_2)))).trans (((HB.out.cell (World.block_lt_of_cell? w _ hw274_2)).trans hw274_2)), (World.cell?_alloc_lt _ _ _ (World.block_lt_of_cell? _ _ (((HB.out.cell (World.block_lt_of_cell? w _ hw275_0)).trans hw275_0)))).trans (((HB.out.cell (World.block_lt_of_cell? w _ hw275_0)).trans hw275_0)), (World.cell?_alloc_lt _ _ _ (World.block_lt_of_cell? _ _ (((HB.out.cell (World.block_lt_of_cell? w _ hw275_1)).trans hw275_1)))).trans (((HB.out.cell (World.block_lt_of_cell? w _ hw275_1)).trans hw275_1)), (World.cell?_alloc_lt _ _ _ (World.block_lt_of_cell? _ _ (((HB.out.cell (World.block_lt_of_cell? w _ hw275_2)).trans hw275_2)))).trans (((HB.out.cell (World.block_lt_of_cell? w _ hw275_2)).trans hw275_2))⟩ (fun hHeld => ?_)
            clear hK K
            refine norm_ (a' := ?_) ?_ ?_
            rotate_left
            · show Act.put _ (some 28) _ = _
              simp only [Act.put, List.setIfInBounds_toArray, List.set_cons_zero, List.set_cons_succ, i64_w, i32_w]
              rfl
            refine one_ (i := 18) (N := some 29) #[true, true, true, true, true, true, true, true, true, true, true, true, true, true, true, true, true, true, true, false] rfl rfl (one_of HT_.out (by kernel_rfl)) (by decide) (fun K hK => ?_)
            refine Kd.R_append_step k73 (w0 := w) w.heap.size (by rfl) (.tmp 11) (.tmp 28) 59 73 (.agg #[(.int .i64 0), (.int .i64 0), (.int .i64 0)]) 24 rfl Try.underlying59 info73 rfl (by decide) (by omega) u3 x3_1 (⟨(rd_T56 l0 x4_1).f0, (rd_T56 l0 x4_1).f1, (rd_T56 l0 x4_1).f2⟩ : S73) [.int .i64 ((rd_T56 l0 x4_1).f0), .int .i64 ((rd_T56 l0 x4_1).f1), .int .i64 ((rd_T56 l0 x4_1).f2)] (fun _ => True) (fun _ => False) rfl rfl ?aP (fun _ hk => hk.elim) ?aF ?aO ?aB ?aS ?aL ?_
            (case aP => exact k73_mkM _ _ _ (⟨(rd_T56 l0 x4_1).f0, (rd_T56 l0 x4_1).f1, (rd_T56 l0 x4_1).f2⟩ : S73))
            (case aB => exact (by repeat (first | (with_reducible first | exact HB.out | apply below_alloc | apply pw_below_drewN | apply below_drew1) | exact HB.out)))
            (case aF => exact (fun _ _ => trivial))
            (case aO => exact (by (with_reducible repeat (first | apply Kd.R_alloc | apply Kd.R_drewN | apply Kd.R_drew)); exact HO_3.out))
            (case aS => exact (below_size (by repeat (first | (with_reducible first | exact HB.out | apply below_alloc | apply pw_below_drewN | apply below_drew1) | exact HB.out))))
            (case aL => have := LMc4.out; omega)
            intro v277 w6 ho hb hg hat
            rw [← Ny276.out] at ho
            have n0_ := Aside0.mk (hb)
            have n1_ := Aside0.mk (ho)
            clear HB
            clear HO_3
            have HB := n0_
            have HO278 := n1_
            clear n0_ n1_
            clear ho hb hg hat
            refine hK.out _ _ ⟨((HB.out.cell (World.block_lt_of_cell? w _ hw273_0)).trans hw273_0), ((HB.out.cell (World.block_lt_of_cell? w _ hw273_1)).trans hw273_1), ((HB.out.cell (World.block_lt_of_cell? w _ hw273_2)).trans hw273_2), ((HB.out.cell (World.block_lt_of_cell? w _ hw274_0)).trans hw274_0), ((HB.out.cell (World.block_lt_of_cell? w _ hw274_1)).trans hw274_1), ((HB.out.cell (World.block_lt_of_cell? w _ hw274_2)).trans hw274_2), ((HB.out.cell (World.block_lt_of_cell? w _ hw275_0)).trans hw275_0), ((HB.out.cell (World.block_lt_of_cell? w _ hw275_1)).trans hw275_1), ((HB.out.cell (World.block_lt_of_cell? w _ hw275_2)).trans hw275_2)⟩ (fun hHeld => ?_)
            clear hK K
            refine norm_ (a' := ?_) ?_ ?_
            rotate_left
            · show Act.put _ (some 29) _ = _
              simp only [Act.put, List.setIfInBounds_toArray, List.set_cons_zero, List.set_cons_succ, i64_w, i32_w]
              rfl
            refine pure_ (i := 19) (N := some 3) (v := ?_) (a' := ?_) #[true, true, true, true, true, true, true, true, true, true, true, true, true, true, true, true, true, true, true, true] rfl rfl (any_of HT_.out (by kernel_rfl)) (fun _ _ _ h => h) (Or.inl ⟨by rfl, ?_⟩) ?_ ?_
            rotate_left
            · intro w'
              go_simp
              with_reducible rfl
            rotate_left
            · simp only [Act.put, List.setIfInBounds_toArray, List.set_cons_zero, List.set_cons_succ, i64_w, i32_w]
              rfl
            refine done_ (done_of HT_.out (by kernel_rfl)) ?_
            try go_wp2
            go_roundg k1
            case measure => have := HK1.out; omega
            case rel => exact ⟨(y276), (wrap64 (x4_1 + 1)), (by first | rfl | (simp; done) | (simp [*]; done)), H', ⟨by have := HK1.out; omega⟩, ⟨by (with_reducible repeat (first | apply Kd.R_alloc | apply Kd.R_drewN | apply Kd.R_drew)); exact HO278.out⟩, ⟨by repeat (first | (with_reducible first | exact HB.out | apply below_alloc | apply pw_below_drewN | apply below_drew1) | exact HB.out)⟩⟩
          · rw [if_neg c4] at H
            exact absurd H (by simp)
        · rw [if_neg c3] at H
          exact absurd H (by simp)
      · rw [if_neg c2] at H
        have c2b0 : decide (x4_1 < (l0.length : Int)) = false := decide_eq_false c2
        clear c2
        obtain rfl := Option.some.inj H
        go_wp2
        go_ret
        exact ⟨_, by first | rfl | (simp [errW_none, errW_some] <;> rfl) | (simp [*, errW_none, errW_some] <;> rfl), by (with_reducible repeat (first | apply Kd.R_alloc | apply Kd.R_drewN | apply Kd.R_drew)); exact HO_3.out, by repeat (first | (with_reducible first | exact HB.out | apply below_alloc | apply pw_below_drewN | apply below_drew1) | exact HB.out)⟩
end Go.Proofs.Ytchlbnlhjllcbaa.F
namespace Go.Proofs.Ytchlbnlhjllcbaa.F
open Go.RowKit Go.Proofs.YtchlbnlhjllcbaaW.PrintWords Go.Proofs.YtchlbnlhjllcbaaW.PrintLast Go.Proofs.YtchlbnlhjllcbaaW.PrintMore
attribute [local go_sem] max2_int min2_int max_two min_two max_three min_three max_four min_four   -- for this text's walks alone
set_option linter.unusedVariables false
set_option linter.unusedSimpArgs false
def dormouselaw15_at.f (k : Nat) (l0_0 : List (S58)) (l0_1 : List (S68)) (l0_2 : List (S71)) (a0_3 : Int) (a0_4 : Int) (a0_5 : Int) (a0_6 : Int) (a0_7 : Int) (a0_8 : Int) (l0_9 : List (S36)) (l0_10 : List Int) (l0_11 : List (S38)) (l0_12 : List (S56)) (a0_13 : Int) (a0_14 : Int) (a1 : Int) : Option (Int) := (dormouselaw15_held.f k l0_12).bind fun t280 => ((slack_At.f l0_0 l0_1 l0_2 a0_3 a0_4 a0_5 a0_6 a0_7 a0_8 l0_9 l0_10 l0_11 t280 a0_13 a1).bind fun t283 => (some t283))
def dormouselaw15_at.T1 : Bool × List (List Nat × List Nat) := (true, [([], []), ([0], [0]), ([], []), ([2], [2]), ([], []), ([4], [4]), ([], []), ([6], [6]), ([], []), ([8], [8]), ([9], [9]), ([], []), ([11], [11]), ([], []), ([1, 3, 5, 7, 10, 12, 13, 10], [1, 3, 5, 7, 10, 12, 13]), ([14, 14, 0, 1, 2, 3, 4, 5, 6, 7, 8, 9, 10, 11, 12, 13, 14], [14])])
def dormouselaw15_at.B1 : List Nat := [0, 1, 0, 4, 0, 16, 0, 64, 0, 256, 768, 0, 2048, 0, 16383, 32767]
theorem dormouselaw15_at.tab1 : rtab .any (opsOf Try.f13 1) = dormouselaw15_at.T1 := by kernel_rfl
theorem dormouselaw15_at.bits1 : waitsOk dormouselaw15_at.T1.2 dormouselaw15_at.B1 = true := by kernel_rfl
set_option maxHeartbeats 8000000 in
set_option maxRecDepth 100000 in
theorem dormouselaw15_at.calls (k : Nat) (A0_0 : Option Addr) (c0_0 : Nat) (l0_0 : List (S58)) (A0_1 : Option Addr) (c0_1 : Nat) (l0_1 : List (S68)) (A0_2 : Option Addr) (c0_2 : Nat) (l0_2 : List (S71)) (a0_3 : Int) (a0_4 : Int) (a0_5 : Int) (a0_6 : Int) (a0_7 : Int) (a0_8 : Int) (A0_9 : Option Addr) (c0_9 : Nat) (l0_9 : List (S36)) (A0_10 : Option Addr) (c0_10 : Nat) (l0_10 : List Int) (A0_11 : Option Addr) (c0_11 : Nat) (l0_11 : List (S38)) (A0_12 : Option Addr) (c0_12 : Nat) (l0_12 : List (S56)) (a0_13 : Int) (a0_14 : Int) (a1 : Int) (r : Int) (w : World) (hr0_0 : Kd.C k58 w A0_0 l0_0.length l0_0) (hc0_0 : l0_0.length ≤ c0_0) (hr0_1 : Kd.C k68 w A0_1 l0_1.length l0_1) (hc0_1 : l0_1.length ≤ c0_1) (hr0_2 : Kd.C k71 w A0_2 l0_2.length l0_2) (hc0_2 : l0_2.length ≤ c0_2) (hr0_9 : Kd.C k36 w A0_9 l0_9.length l0_9) (hc0_9 : l0_9.length ≤ c0_9) (hr0_10 : Kd.C (Kd.int .i64) w A0_10 l0_10.length l0_10) (hc0_10 : l0_10.length ≤ c0_10) (hr0_11 : Kd.C k38 w A0_11 l0_11.length l0_11) (hc0_11 : l0_11.length ≤ c0_11) (hr0_12 : Kd.C k56 w A0_12 l0_12.length l0_12) (hc0_12 : l0_12.length ≤ c0_12) (h : dormouselaw15_at.f k l0_0 l0_1 l0_2 a0_3 a0_4 a0_5 a0_6 a0_7 a0_8 l0_9 l0_10 l0_11 l0_12 a0_13 a0_14 a1 = some r) :
    Calls Try.prog 13 #[.agg #[.slice A0_0 l0_0.length c0_0, .slice A0_1 l0_1.length c0_1, .slice A0_2 l0_2.length c0_2, .int .i64 a0_3, .int .i64 a0_4, .int .i64 a0_5, .int .i64 a0_6, .int .i64 a0_7, .int .i64 a0_8, .slice A0_9 l0_9.length c0_9, .slice A0_10 l0_10.length c0_10, .slice A0_11 l0_11.length c0_11, .slice A0_12 l0_12.length c0_12, .int .i64 a0_13, .int .i64 a0_14], .int .i64 a1] w fun e w' => e = .returned (.int .i64 r) ∧ Below w.heap.size w w' := by
  have hu32 := Try.underlying32
  have hu26 := Try.underlying26
  have HR0_0 := Aside0.mk hr0_0
  have HC0_0 := Aside0.mk hc0_0
  clear hr0_0 hc0_0
  have HR0_1 := Aside0.mk hr0_1
  have HC0_1 := Aside0.mk hc0_1
  clear hr0_1 hc0_1
  have HR0_2 := Aside0.mk hr0_2
  have HC0_2 := Aside0.mk hc0_2
  clear hr0_2 hc0_2
  have HR0_9 := Aside0.mk hr0_9
  have HC0_9 := Aside0.mk hc0_9
  clear hr0_9 hc0_9
  have HR0_10 := Aside0.mk hr0_10
  have HC0_10 := Aside0.mk hc0_10
  clear hr0_10 hc0_10
  have HR0_11 := Aside0.mk hr0_11
  have HC0_11 := Aside0.mk hc0_11
  clear hr0_11 hc0_11
  have HR0_12 := Aside0.mk hr0_12
  have HC0_12 := Aside0.mk hc0_12
  clear hr0_12 hc0_12
  have HB := Aside0.mk (Below.refl w.heap.size w)
  have H : ((dormouselaw15_held.f k l0_12).bind fun t280 => ((slack_At.f l0_0 l0_1 l0_2 a0_3 a0_4 a0_5 a0_6 a0_7 a0_8 l0_9 l0_10 l0_11 t280 a0_13 a1).bind fun t283 => (some t283))) = some r := h
  clear h
  replace H := Option.bind_eq_some_iff.mp H
  obtain ⟨t280, A30, H⟩ := H
  replace H : ((slack_At.f l0_0 l0_1 l0_2 a0_3 a0_4 a0_5 a0_6 a0_7 a0_8 l0_9 l0_10 l0_11 t280 a0_13 a1).bind fun t283 => (some t283)) = some r := H
  have A3 := Aside0.mk A30
  clear A30
  replace H := Option.bind_eq_some_iff.mp H
  obtain ⟨t283, A40, H⟩ := H
  replace H : (some t283) = some r := H
  have A4 := Aside0.mk A40
  clear A40
  obtain rfl := Option.some.inj H
  go_enter Try.func13, Try.ntmps13
  try go_wp2_with (first | ((with_reducible refine gate_dst (N := 2) rfl ?_); refine box_event ?hg (N := 2) ?hd (cs := #[.slice A0_0 l0_0.length c0_0, .slice A0_1 l0_1.length c0_1, .slice A0_2 l0_2.length c0_2, .int .i64 a0_3, .int .i64 a0_4, .int .i64 a0_5, .int .i64 a0_6, .int .i64 a0_7, .int .i64 a0_8, .slice A0_9 l0_9.length c0_9, .slice A0_10 l0_10.length c0_10, .slice A0_11 l0_11.length c0_11, .slice A0_12 l0_12.length c0_12, .int .i64 a0_13, .int .i64 a0_14]) (t := 32) ?hr ?_; (case hd => rfl); (case hg => rfl); (case hr => first | (go_simp; done) | (go_simp; rfl)); intro gb279 hg w5 hbox hb; have n0_ := Aside0.mk (below_step (by repeat (first | (with_reducible first | exact HB.out | apply below_alloc | apply pw_below_drewN | apply below_drew1) | exact HB.out)) hb); have n1_ := Aside0.mk (hbox); have n2_ := Aside0.mk ((by rw [hg]; exact (below_size (by repeat (first | (with_reducible first | exact HB.out | apply below_alloc | apply pw_below_drewN | apply below_drew1) | exact HB.out))) : w.heap.size ≤ gb279)); have n3_ := Aside0.mk ((by rw [hg]; exact (below_size (by repeat (first | (with_reducible first | exact HB.out | apply below_alloc | apply pw_below_drewN | apply below_drew1) | exact HB.out))) : w.heap.size ≤ gb279)); clear HB; have HB := n0_; have BK279 := n1_; have GW279 := n2_; have GE279 := n3_; clear n0_ n1_ n2_ n3_; clear hb hbox hg))
  have n0_ := Aside0.mk (blk_drew BK279.out)
  have n1_ := Aside0.mk (below_drew1 HB.out)
  clear BK279
  clear HB
  have BK279 := n0_
  have HB := n1_
  clear n0_ n1_
  refine start_ (n := 16) (S := fun w' => w'.cell? ⟨gb279, 0, none⟩ = some (.slice A0_0 l0_0.length c0_0) ∧ w'.cell? ⟨gb279, 1, none⟩ = some (.slice A0_1 l0_1.length c0_1) ∧ w'.cell? ⟨gb279, 2, none⟩ = some (.slice A0_2 l0_2.length c0_2) ∧ w'.cell? ⟨gb279, 3, none⟩ = some (.int .i64 a0_3) ∧ w'.cell? ⟨gb279, 4, none⟩ = some (.int .i64 a0_4) ∧ w'.cell? ⟨gb279, 5, none⟩ = some (.int .i64 a0_5) ∧ w'.cell? ⟨gb279, 6, none⟩ = some (.int .i64 a0_6) ∧ w'.cell? ⟨gb279, 7, none⟩ = some (.int .i64 a0_7) ∧ w'.cell? ⟨gb279, 8, none⟩ = some (.int .i64 a0_8) ∧ w'.cell? ⟨gb279, 9, none⟩ = some (.slice A0_9 l0_9.length c0_9) ∧ w'.cell? ⟨gb279, 10, none⟩ = some (.slice A0_10 l0_10.length c0_10) ∧ w'.cell? ⟨gb279, 11, none⟩ = some (.slice A0_11 l0_11.length c0_11) ∧ w'.cell? ⟨gb279, 12, none⟩ = some (.slice A0_12 l0_12.length c0_12) ∧ w'.cell? ⟨gb279, 13, none⟩ = some (.int .i64 a0_13) ∧ w'.cell? ⟨gb279, 14, none⟩ = some (.int .i64 a0_14)) (ds := []) #[false, false, false, false, false, false, false, false, false, false, false, false, false, false, false, false] (by kernel_rfl) rfl rfl ⟨(blk_cell BK279.out 0).trans rfl, (blk_cell BK279.out 1).trans rfl, (blk_cell BK279.out 2).trans rfl, (blk_cell BK279.out 3).trans rfl, (blk_cell BK279.out 4).trans rfl, (blk_cell BK279.out 5).trans rfl, (blk_cell BK279.out 6).trans rfl, (blk_cell BK279.out 7).trans rfl, (blk_cell BK279.out 8).trans rfl, (blk_cell BK279.out 9).trans rfl, (blk_cell BK279.out 10).trans rfl, (blk_cell BK279.out 11).trans rfl, (blk_cell BK279.out 12).trans rfl, (blk_cell BK279.out 13).trans rfl, (blk_cell BK279.out 14).trans rfl⟩ (fun hHeld => ?_); refine with_tabW dormouselaw15_at.tab1 dormouselaw15_at.bits1 (fun HT_ HW_ => ?_)
  generalize w5.drew = w6 at BK279 HB hHeld ⊢
  refine pure_ (i := 0) (N := some 5) (v := ?_) (a' := ?_) #[true, false, false, false, false, false, false, false, false, false, false, false, false, false, false, false] rfl rfl (any_of HT_.out (by kernel_rfl)) (fun _ _ _ h => h) (Or.inl ⟨by rfl, ?_⟩) ?_ ?_
  rotate_left
  · intro w'
    go_simp
    with_reducible rfl
  rotate_left
  · simp only [Act.put, List.setIfInBounds_toArray, List.set_cons_zero, List.set_cons_succ, i64_w, i32_w]
    rfl
  refine pure_ (i := 2) (N := some 7) (v := ?_) (a' := ?_) #[true, false, true, false, false, false, false, false, false, false, false, false, false, false, false, false] rfl rfl (any_of HT_.out (by kernel_rfl)) (fun _ _ _ h => h) (Or.inl ⟨by rfl, ?_⟩) ?_ ?_
  rotate_left
  · intro w'
    go_simp
    with_reducible rfl
  rotate_left
  · simp only [Act.put, List.setIfInBounds_toArray, List.set_cons_zero, List.set_cons_succ, i64_w, i32_w]
    rfl
  refine pure_ (i := 4) (N := some 9) (v := ?_) (a' := ?_) #[true, false, true, false, true, false, false, false, false, false, false, false, false, false, false, false] rfl rfl (any_of HT_.out (by kernel_rfl)) (fun _ _ _ h => h) (Or.inl ⟨by rfl, ?_⟩) ?_ ?_
  rotate_left
  · intro w'
    go_simp
    with_reducible rfl
  rotate_left
  · simp only [Act.put, List.setIfInBounds_toArray, List.set_cons_zero, List.set_cons_succ, i64_w, i32_w]
    rfl
  refine pure_ (i := 6) (N := some 11) (v := ?_) (a' := ?_) #[true, false, true, false, true, false, true, false, false, false, false, false, false, false, false, false] rfl rfl (any_of HT_.out (by kernel_rfl)) (fun _ _ _ h => h) (Or.inl ⟨by rfl, ?_⟩) ?_ ?_
  rotate_left
  · intro w'
    go_simp
    with_reducible rfl
  rotate_left
  · simp only [Act.put, List.setIfInBounds_toArray, List.set_cons_zero, List.set_cons_succ, i64_w, i32_w]
    rfl
  refine pure_ (i := 8) (N := some 13) (v := ?_) (a' := ?_) #[true, false, true, false, true, false, true, false, true, false, false, false, false, false, false, false] rfl rfl (any_of HT_.out (by kernel_rfl)) (fun _ _ _ h => h) (Or.inl ⟨by rfl, ?_⟩) ?_ ?_
  rotate_left
  · intro w'
    go_simp
    with_reducible rfl
  rotate_left
  · simp only [Act.put, List.setIfInBounds_toArray, List.set_cons_zero, List.set_cons_succ, i64_w, i32_w]
    rfl
  refine pure_ (i := 11) (N := some 16) (v := ?_) (a' := ?_) #[true, false, true, false, true, false, true, false, true, false, false, true, false, false, false, false] rfl rfl (any_of HT_.out (by kernel_rfl)) (fun _ _ _ h => h) (Or.inl ⟨by rfl, ?_⟩) ?_ ?_
  rotate_left
  · intro w'
    go_simp
    with_reducible rfl
  rotate_left
  · simp only [Act.put, List.setIfInBounds_toArray, List.set_cons_zero, List.set_cons_succ, i64_w, i32_w]
    rfl
  refine pure_ (i := 13) (N := some 18) (v := ?_) (a' := ?_) #[true, false, true, false, true, false, true, false, true, false, false, true, false, true, false, false] rfl rfl (any_of HT_.out (by kernel_rfl)) (fun _ _ _ h => h) (Or.inl ⟨by rfl, ?_⟩) ?_ ?_
  rotate_left
  · intro w'
    go_simp
    with_reducible rfl
  rotate_left
  · simp only [Act.put, List.setIfInBounds_toArray, List.set_cons_zero, List.set_cons_succ, i64_w, i32_w]
    rfl
  refine take_ (i := 1) (N := some 6) (v := ?_) (a' := ?_) #[true, true, true, false, true, false, true, false, true, false, false, true, false, true, false, false] rfl rfl (take_ofW HT_.out HW_.out (by kernel_rfl)) (fun _ _ _ h => h) (Or.inl ⟨by rfl, ?_⟩) hHeld ?_ ?_
  rotate_left
  · rintro w' ⟨s0, s1, s2, s3, s4, s5, s6, s7, s8, s9, s10, s11, s12, s13, s14⟩
    go_simp
    with_reducible rfl
  rotate_left
  · simp only [Act.put, List.setIfInBounds_toArray, List.set_cons_zero, List.set_cons_succ, i64_w, i32_w]
    rfl
  refine take_ (i := 3) (N := some 8) (v := ?_) (a' := ?_) #[true, true, true, true, true, false, true, false, true, false, false, true, false, true, false, false] rfl rfl (take_ofW HT_.out HW_.out (by kernel_rfl)) (fun _ _ _ h => h) (Or.inl ⟨by rfl, ?_⟩) hHeld ?_ ?_
  rotate_left
  · rintro w' ⟨s0, s1, s2, s3, s4, s5, s6, s7, s8, s9, s10, s11, s12, s13, s14⟩
    go_simp
    with_reducible rfl
  rotate_left
  · simp only [Act.put, List.setIfInBounds_toArray, List.set_cons_zero, List.set_cons_succ, i64_w, i32_w]
    rfl
  refine take_ (i := 5) (N := some 10) (v := ?_) (a' := ?_) #[true, true, true, true, true, true, true, false, true, false, false, true, false, true, false, false] rfl rfl (take_ofW HT_.out HW_.out (by kernel_rfl)) (fun _ _ _ h => h) (Or.inl ⟨by rfl, ?_⟩) hHeld ?_ ?_
  rotate_left
  · rintro w' ⟨s0, s1, s2, s3, s4, s5, s6, s7, s8, s9, s10, s11, s12, s13, s14⟩
    go_simp
    with_reducible rfl
  rotate_left
  · simp only [Act.put, List.setIfInBounds_toArray, List.set_cons_zero, List.set_cons_succ, i64_w, i32_w]
    rfl
  refine take_ (i := 7) (N := some 12) (v := ?_) (a' := ?_) #[true, true, true, true, true, true, true, true, true, false, false, true, false, true, false, false] rfl rfl (take_ofW HT_.out HW_.out (by kernel_rfl)) (fun _ _ _ h => h) (Or.inl ⟨by rfl, ?_⟩) hHeld ?_ ?_
  rotate_left
  · rintro w' ⟨s0, s1, s2, s3, s4, s5, s6, s7, s8, s9, s10, s11, s12, s13, s14⟩
    go_simp
    with_reducible rfl
  rotate_left
  · simp only [Act.put, List.setIfInBounds_toArray, List.set_cons_zero, List.set_cons_succ, i64_w, i32_w]
    rfl
  refine take_ (i := 9) (N := some 14) (v := ?_) (a' := ?_) #[true, true, true, true, true, true, true, true, true, true, false, true, false, true, false, false] rfl rfl (take_ofW HT_.out HW_.out (by kernel_rfl)) (fun _ _ _ h => h) (Or.inl ⟨by rfl, ?_⟩) hHeld ?_ ?_
  rotate_left
  · rintro w' ⟨s0, s1, s2, s3, s4, s5, s6, s7, s8, s9, s10, s11, s12, s13, s14⟩
    go_simp
    with_reducible rfl
  rotate_left
  · simp only [Act.put, List.setIfInBounds_toArray, List.set_cons_zero, List.set_cons_succ, i64_w, i32_w]
    rfl
  refine take_ (i := 12) (N := some 17) (v := ?_) (a' := ?_) #[true, true, true, true, true, true, true, true, true, true, false, true, true, true, false, false] rfl rfl (take_ofW HT_.out HW_.out (by kernel_rfl)) (fun _ _ _ h => h) (Or.inl ⟨by rfl, ?_⟩) hHeld ?_ ?_
  rotate_left
  · rintro w' ⟨s0, s1, s2, s3, s4, s5, s6, s7, s8, s9, s10, s11, s12, s13, s14⟩
    go_simp
    with_reducible rfl
  rotate_left
  · simp only [Act.put, List.setIfInBounds_toArray, List.set_cons_zero, List.set_cons_succ, i64_w, i32_w]
    rfl
  refine one_ (i := 10) (N := some 15) #[true, true, true, true, true, true, true, true, true, true, true, true, true, true, false, false] rfl rfl (one_of HT_.out (by kernel_rfl)) (by decide) (fun K hK => ?_)
  refine goes_ Try.func27 (by kernel_rfl) rfl #[.slice A0_12 l0_12.length c0_12] (by rfl) rfl rfl (by (try simp only [List.map_toArray, List.map_cons, List.map_nil]); first | done | rfl | (simp only [List.length_drop, List.length_take]; rfl)) ?_
  with_reducible refine (dormouselaw15_held.calls k _ _ l0_12 t280 _ ?side1 ?side2 A3.out).mono ?_
  (case side1 => repeat (first | exact (Kd.C_below HR0_12.out HB.out) | (with_reducible refine Kd.C_alloc ?_ _) | (with_reducible refine Kd.C_drewN ?_ _) | (with_reducible refine Kd.C_drew ?_)))
  (case side2 => exact HC0_12.out)
  rintro e w7 ⟨v281, rfl, ho0, hb⟩
  refine ⟨_, rfl, ?_⟩
  have n0_ := Aside0.mk (Kd.R_lower ho0 (below_size (by repeat (first | (with_reducible first | exact HB.out | apply below_alloc | apply pw_below_drewN | apply below_drew1 | refine below_set ?_ GE279.out) | exact HB.out))))
  have n1_ := Aside0.mk (blk_below (g := gb279) (o := .cells #[.slice A0_0 l0_0.length c0_0, .slice A0_1 l0_1.length c0_1, .slice A0_2 l0_2.length c0_2, .int .i64 a0_3, .int .i64 a0_4, .int .i64 a0_5, .int .i64 a0_6, .int .i64 a0_7, .int .i64 a0_8, .slice A0_9 l0_9.length c0_9, .slice A0_10 l0_10.length c0_10, .slice A0_11 l0_11.length c0_11, .slice A0_12 l0_12.length c0_12, .int .i64 a0_13, .int .i64 a0_14] 32 (0, 0)) (by (with_reducible repeat (first | refine blk_drewN ?_ _ | refine blk_drew ?_ | refine blk_alloc ?_ _)); exact BK279.out) hb)
  have n2_ := Aside0.mk (below_step (by repeat (first | (with_reducible first | exact HB.out | apply below_alloc | apply pw_below_drewN | apply below_drew1 | refine below_set ?_ GE279.out) | exact HB.out)) hb)
  clear BK279
  clear HB
  have HO282 := n0_
  have BK279 := n1_
  have HB := n2_
  clear n0_ n1_ n2_
  (try clear hb)
  (try clear hb2)
  (try clear hk)
  (try clear hi)
  (try clear ho0)
  obtain ⟨Ao8, co8, eo8⟩ := Kd.R_slice HO282.out
  (first | subst eo8 | (injection eo8 with f1_ f2_ f3_; have f4_ := f1_.symm; have f5_ := f3_.symm; clear f1_ f2_ f3_; subst f4_; subst f5_))
  refine hK.out _ _ ⟨(blk_cell BK279.out 0).trans rfl, (blk_cell BK279.out 1).trans rfl, (blk_cell BK279.out 2).trans rfl, (blk_cell BK279.out 3).trans rfl, (blk_cell BK279.out 4).trans rfl, (blk_cell BK279.out 5).trans rfl, (blk_cell BK279.out 6).trans rfl, (blk_cell BK279.out 7).trans rfl, (blk_cell BK279.out 8).trans rfl, (blk_cell BK279.out 9).trans rfl, (blk_cell BK279.out 10).trans rfl, (blk_cell BK279.out 11).trans rfl, (blk_cell BK279.out 12).trans rfl, (blk_cell BK279.out 13).trans rfl, (blk_cell BK279.out 14).trans rfl⟩ (fun hHeld => ?_)
  clear hK K
  refine norm_ (a' := ?_) ?_ ?_
  rotate_left
  · show Act.put _ (some 15) _ = _
    simp only [Act.put, List.setIfInBounds_toArray, List.set_cons_zero, List.set_cons_succ, i64_w, i32_w]
    rfl
  refine one_ (i := 14) (N := some 19) #[true, true, true, true, true, true, true, true, true, true, true, true, true, true, true, false] rfl rfl (one_of HT_.out (by kernel_rfl)) (by decide) (fun K hK => ?_)
  refine goes_ Try.func19 (by kernel_rfl) rfl #[.agg #[.slice A0_0 l0_0.length c0_0, .slice A0_1 l0_1.length c0_1, .slice A0_2 l0_2.length c0_2, .int .i64 a0_3, .int .i64 a0_4, .int .i64 a0_5, .int .i64 a0_6, .int .i64 a0_7, .int .i64 a0_8], .slice A0_9 l0_9.length c0_9, .slice A0_10 l0_10.length c0_10, .slice A0_11 l0_11.length c0_11, .slice Ao8 t280.length co8, .int .i64 a0_13, .int .i64 a1] (by rfl) rfl rfl (by (try simp only [List.map_toArray, List.map_cons, List.map_nil]); first | done | rfl | (simp only [List.length_drop, List.length_take]; rfl)) ?_
  with_reducible refine (slack_At.calls _ _ l0_0 _ _ l0_1 _ _ l0_2 a0_3 a0_4 a0_5 a0_6 a0_7 a0_8 _ _ l0_9 _ _ l0_10 _ _ l0_11 _ _ t280 a0_13 a1 t283 _ ?side1 ?side2 ?side3 ?side4 ?side5 ?side6 ?side7 ?side8 ?side9 ?side10 ?side11 ?side12 ?side13 ?side14 A4.out).mono ?_
  (case side1 => repeat (first | exact (Kd.C_below HR0_0.out HB.out) | (with_reducible refine Kd.C_alloc ?_ _) | (with_reducible refine Kd.C_drewN ?_ _) | (with_reducible refine Kd.C_drew ?_)))
  (case side2 => exact HC0_0.out)
  (case side3 => repeat (first | exact (Kd.C_below HR0_1.out HB.out) | (with_reducible refine Kd.C_alloc ?_ _) | (with_reducible refine Kd.C_drewN ?_ _) | (with_reducible refine Kd.C_drew ?_)))
  (case side4 => exact HC0_1.out)
  (case side5 => repeat (first | exact (Kd.C_below HR0_2.out HB.out) | (with_reducible refine Kd.C_alloc ?_ _) | (with_reducible refine Kd.C_drewN ?_ _) | (with_reducible refine Kd.C_drew ?_)))
  (case side6 => exact HC0_2.out)
  (case side7 => repeat (first | exact (Kd.C_below HR0_9.out HB.out) | (with_reducible refine Kd.C_alloc ?_ _) | (with_reducible refine Kd.C_drewN ?_ _) | (with_reducible refine Kd.C_drew ?_)))
  (case side8 => exact HC0_9.out)
  (case side9 => repeat (first | exact (Kd.C_below HR0_10.out HB.out) | (with_reducible refine Kd.C_alloc ?_ _) | (with_reducible refine Kd.C_drewN ?_ _) | (with_reducible refine Kd.C_drew ?_)))
  (case side10 => exact HC0_10.out)
  (case side11 => repeat (first | exact (Kd.C_below HR0_11.out HB.out) | (with_reducible refine Kd.C_alloc ?_ _) | (with_reducible refine Kd.C_drewN ?_ _) | (with_reducible refine Kd.C_drew ?_)))
  (case side12 => exact HC0_11.out)
  (case side13 => repeat (first | exact (Kd.R_reads' HO282.out).2.2 | (with_reducible refine Kd.C_alloc ?_ _) | (with_reducible refine Kd.C_drewN ?_ _) | (with_reducible refine Kd.C_drew ?_)))
  (case side14 => exact (Kd.R_reads' HO282.out).2.1)
  rintro e w9 ⟨rfl, hb⟩
  refine ⟨_, rfl, ?_⟩
  have n0_ := Aside0.mk (Kd.R_below (by (with_reducible repeat (first | apply Kd.R_alloc | apply Kd.R_drewN | apply Kd.R_drew)); exact HO282.out) hb)
  have n1_ := Aside0.mk (blk_below (g := gb279) (o := .cells #[.slice A0_0 l0_0.length c0_0, .slice A0_1 l0_1.length c0_1, .slice A0_2 l0_2.length c0_2, .int .i64 a0_3, .int .i64 a0_4, .int .i64 a0_5, .int .i64 a0_6, .int .i64 a0_7, .int .i64 a0_8, .slice A0_9 l0_9.length c0_9, .slice A0_10 l0_10.length c0_10, .slice A0_11 l0_11.length c0_11, .slice A0_12 l0_12.length c0_12, .int .i64 a0_13, .int .i64 a0_14] 32 (0, 0)) (by (with_reducible repeat (first | refine blk_drewN ?_ _ | refine blk_drew ?_ | refine blk_alloc ?_ _)); exact BK279.out) hb)
  have n2_ := Aside0.mk (below_step (by repeat (first | (with_reducible first | exact HB.out | apply below_alloc | apply pw_below_drewN | apply below_drew1 | refine below_set ?_ GE279.out) | exact HB.out)) hb)
  clear HO282
  clear BK279
  clear HB
  have HO282 := n0_
  have BK279 := n1_
  have HB := n2_
  clear n0_ n1_ n2_
  (try clear hb)
  (try clear hb2)
  (try clear hk)
  (try clear hi)
  refine hK.out _ _ ⟨(blk_cell BK279.out 0).trans rfl, (blk_cell BK279.out 1).trans rfl, (blk_cell BK279.out 2).trans rfl, (blk_cell BK279.out 3).trans rfl, (blk_cell BK279.out 4).trans rfl, (blk_cell BK279.out 5).trans rfl, (blk_cell BK279.out 6).trans rfl, (blk_cell BK279.out 7).trans rfl, (blk_cell BK279.out 8).trans rfl, (blk_cell BK279.out 9).trans rfl, (blk_cell BK279.out 10).trans rfl, (blk_cell BK279.out 11).trans rfl, (blk_cell BK279.out 12).trans rfl, (blk_cell BK279.out 13).trans rfl, (blk_cell BK279.out 14).trans rfl⟩ (fun hHeld => ?_)
  clear hK K
  refine norm_ (a' := ?_) ?_ ?_
  rotate_left
  · show Act.put _ (some 19) _ = _
    simp only [Act.put, List.setIfInBounds_toArray, List.set_cons_zero, List.set_cons_succ, i64_w, i32_w]
    rfl
  refine pure_ (i := 15) (N := some 4) (v := ?_) (a' := ?_) #[true, true, true, true, true, true, true, true, true, true, true, true, true, true, true, true] rfl rfl (any_of HT_.out (by kernel_rfl)) (fun _ _ _ h => h) (Or.inl ⟨by rfl, ?_⟩) ?_ ?_
  rotate_left
  · intro w'
    go_simp
    with_reducible rfl
  rotate_left
  · simp only [Act.put, List.setIfInBounds_toArray, List.set_cons_zero, List.set_cons_succ, i64_w, i32_w]
    rfl
  refine done_ (done_of HT_.out (by kernel_rfl)) ?_
  try go_wp2
  go_ret
  exact ⟨by first | rfl | (simp [errW_none, errW_some] <;> rfl) | (simp [*, errW_none, errW_some] <;> rfl), by repeat (first | (with_reducible first | exact HB.out | apply below_alloc | apply pw_below_drewN | apply below_drew1 | refine below_set ?_ GE279.out) | exact HB.out)⟩
end Go.Proofs.Ytchlbnlhjllcbaa.F
namespace Go.Proofs.Ytchlbnlhjllcbaa.F
open Go.RowKit Go.Proofs.YtchlbnlhjllcbaaW.PrintWords Go.Proofs.YtchlbnlhjllcbaaW.PrintLast Go.Proofs.YtchlbnlhjllcbaaW.PrintMore
attribute [local go_sem] max2_int min2_int max_two min_two max_three min_three max_four min_four   -- for this text's walks alone
set_option linter.unusedVariables false
set_option linter.unusedSimpArgs false
def dormouseref01_Max.f (a0 : Int) (a1 : Int) : Option (Int) := if a0 > a1 then (some a0) else (some a1)
set_option maxHeartbeats 8000000 in
set_option maxRecDepth 100000 in
theorem dormouseref01_Max.calls (a0 : Int) (a1 : Int) (r : Int) (w : World) (h : dormouseref01_Max.f a0 a1 = some r) :
    Calls Try.prog 18 #[.int .i64 a0, .int .i64 a1] w fun e w' => e = .returned (.int .i64 r) ∧ Drawn0 w w' := by
  have H : (if a0 > a1 then (some a0) else (some a1)) = some r := h
  clear h
  by_cases c3 : a0 > a1
  · rw [if_pos c3] at H
    have c3b0 : decide (a1 < a0) = true := decide_eq_true c3
    clear c3
    obtain rfl := Option.some.inj H
    go_enter Try.func18, Try.ntmps18
    go_wp2
    go_ret
    exact ⟨by first | rfl | (simp; done) | (simp [*]; done), by repeat (first | exact Drawn0.refl _ | apply Drawn0.step)⟩
  · rw [if_neg c3] at H
    have c3b0 : decide (a1 < a0) = false := decide_eq_false c3
    clear c3
    obtain rfl := Option.some.inj H
    go_enter Try.func18, Try.ntmps18
    go_wp2
    go_ret
    exact ⟨by first | rfl | (simp; done) | (simp [*]; done), by repeat (first | exact Drawn0.refl _ | apply Drawn0.step)⟩
end Go.Proofs.Ytchlbnlhjllcbaa.F
namespace Go.Proofs.Ytchlbnlhjllcbaa.Sla
open Go.RowKit Go.Proofs.Ytchlbnlhjllcbaa.F Go.Proofs.Ytchlbnlhjllcbaa.Tbl Go.Proofs.Ytchlbnlhjllcbaa.Adm Go.Proofs.YtchlbnlhjllcbaaW.PrintWords Go.Proofs.YtchlbnlhjllcbaaW.PrintLast
set_option linter.unusedVariables false
section
variable {l0 : List S58} {l1 : List S68} {l2 : List S71} {idle crit sw swE sems hor : Int} {ts : List S36} {nx : List Int} {js : List S38} {now a : Int}
theorem at13_some (g : GoodJ l0 l1 l2 idle crit sw swE sems hor ts nx js now a) (b : Int) {m : Int} (m0 : 0 ≤ m) (h1 : m ≤ 4194304) : dormouselaw15_at.f 5 l0 l1 l2 idle crit sw swE sems hor ts nx js [] now b m = some (atJ l0 sw now nx ts js m) := by
  unfold dormouselaw15_at.f dormouselaw15_held.f
  simp only [dormouselaw15_held.l0]
  rw [if_neg (by simp), Option.bind_some]
  unfold slack_At.f
  rw [if_pos (show ([] : List S73).length = 0 from rfl), atJ_some g m0 h1, Option.bind_some]
theorem answers15 : dormouselaw15_answers.f = some true := by decide +kernel
theorem there_snoc (i : Nat) (hi : i < ts.length) : thereOf (ts.take (i + 1)) = if (rd_T36 ts i).f0 > 0 then thereOf (ts.take i) ++ [rd_T36 ts i] else thereOf (ts.take i) := by
  have e : rd_T36 ts i = ts[i] := by unfold rd_T36; rw [Int.toNat_natCast, List.getD_eq_getElem?_getD, List.getElem?_eq_getElem hi]; rfl
  unfold thereOf
  rw [List.take_succ_eq_append_getElem hi, List.filter_append, e]
  by_cases c : (ts[i]).f0 > 0
  · rw [if_pos c, List.filter_cons, if_pos (by simpa using c)]; rfl
  · rw [if_neg c, List.filter_cons, if_neg (by simpa using c)]; simp
theorem there_len (i : Nat) : (thereOf (ts.take i)).length ≤ ts.length := Nat.le_trans (List.length_filter_le _ _) (by rw [List.length_take]; omega)
theorem task_cells {w : World} {A : Option Addr} {n : Nat} (h : Kd.C k36 w A n ts) (i : Int) (h0 : 0 ≤ i) (h1 : i < n) : ∃ ad A2 c2 A3 c3, A = some ad ∧ w.cell? (ad.add (i.toNat * 4)) = some (.int .i64 (rd_T36 ts i).f0) ∧ w.cell? ⟨(ad.add (i.toNat * 4)).block, (ad.add (i.toNat * 4)).off + 1, none⟩ = some (.int .i64 (rd_T36 ts i).f1) ∧ w.cell? ⟨(ad.add (i.toNat * 4)).block, (ad.add (i.toNat * 4)).off + 2, none⟩ = some (.slice A2 (rd_T36 ts i).f2.length c2) ∧ w.cell? ⟨(ad.add (i.toNat * 4)).block, (ad.add (i.toNat * 4)).off + 3, none⟩ = some (.slice A3 (rd_T36 ts i).f3.length c3) ∧
    k36.K w (rd_T36 ts i) [.int .i64 (rd_T36 ts i).f0, .int .i64 (rd_T36 ts i).f1, .slice A2 (rd_T36 ts i).f2.length c2, .slice A3 (rd_T36 ts i).f3.length c3] := by
  obtain ⟨ad, A2, c2, A3, c3, e, y0, y1, y2, y3, a, b, c, d⟩ := at_T36 h i h0 h1
  exact ⟨ad, A2, c2, A3, c3, e, y0, y1, y2, y3, [.int .i64 (rd_T36 ts i).f0], _, rfl, rfl, [.int .i64 (rd_T36 ts i).f1], _, rfl, rfl, [.slice A2 (rd_T36 ts i).f2.length c2], _, rfl, ⟨A2, c2, rfl, a, b⟩, ⟨A3, c3, rfl, c, d⟩⟩
end
theorem at13_nil (k : Nat) (A0_0 : Option Addr) (c0_0 : Nat) (l0_0 : List (S58)) (A0_1 : Option Addr) (c0_1 : Nat) (l0_1 : List (S68)) (A0_2 : Option Addr) (c0_2 : Nat) (l0_2 : List (S71)) (a0_3 : Int) (a0_4 : Int) (a0_5 : Int) (a0_6 : Int) (a0_7 : Int) (a0_8 : Int) (A0_9 : Option Addr) (c0_9 : Nat) (l0_9 : List (S36)) (A0_10 : Option Addr) (c0_10 : Nat) (l0_10 : List Int) (a0_13 : Int) (a0_14 : Int) (a1 : Int) (r : Int) (w : World) (hr0_0 : Kd.C k58 w A0_0 l0_0.length l0_0) (hc0_0 : l0_0.length ≤ c0_0) (hr0_1 : Kd.C k68 w A0_1 l0_1.length l0_1) (hc0_1 : l0_1.length ≤ c0_1) (hr0_2 : Kd.C k71 w A0_2 l0_2.length l0_2) (hc0_2 : l0_2.length ≤ c0_2) (hr0_9 : Kd.C k36 w A0_9 l0_9.length l0_9) (hc0_9 : l0_9.length ≤ c0_9) (hr0_10 : Kd.C (Kd.int .i64) w A0_10 l0_10.length l0_10) (hc0_10 : l0_10.length ≤ c0_10) (h : dormouselaw15_at.f k l0_0 l0_1 l0_2 a0_3 a0_4 a0_5 a0_6 a0_7 a0_8 l0_9 l0_10 [] [] a0_13 a0_14 a1 = some r) :
    Calls Try.prog 13 #[.agg #[.slice A0_0 l0_0.length c0_0, .slice A0_1 l0_1.length c0_1, .slice A0_2 l0_2.length c0_2, .int .i64 a0_3, .int .i64 a0_4, .int .i64 a0_5, .int .i64 a0_6, .int .i64 a0_7, .int .i64 a0_8, .slice A0_9 l0_9.length c0_9, .slice A0_10 l0_10.length c0_10, .slice none 0 0, .slice none 0 0, .int .i64 a0_13, .int .i64 a0_14], .int .i64 a1] w fun e w' => e = .returned (.int .i64 r) ∧ Below w.heap.size w w' := dormouselaw15_at.calls k A0_0 c0_0 l0_0 A0_1 c0_1 l0_1 A0_2 c0_2 l0_2 a0_3 a0_4 a0_5 a0_6 a0_7 a0_8 A0_9 c0_9 l0_9 A0_10 c0_10 l0_10 none 0 [] none 0 [] a0_13 a0_14 a1 r w hr0_0 hc0_0 hr0_1 hc0_1 hr0_2 hc0_2 hr0_9 hc0_9 hr0_10 hc0_10 (Kd.C_nil _ _) (Nat.le_refl _) (Kd.C_nil _ _) (Nat.le_refl _) h
theorem ref_max (x y : Int) : dormouseref01_Max.f x y = some (mx y x) := by
  unfold dormouseref01_Max.f mx
  by_cases h : x > y
  · rw [if_pos h, if_pos (by omega)]
  · rw [if_neg h, if_neg (by omega)]
end Go.Proofs.Ytchlbnlhjllcbaa.Sla
namespace Go.Proofs.Ytchlbnlhjllcbaa.Sla
open Go.RowKit Go.Proofs.Ytchlbnlhjllcbaa.F Go.Proofs.Ytchlbnlhjllcbaa.Tbl Go.Proofs.Ytchlbnlhjllcbaa.Adm Go.Proofs.Ytchlbnlhjllcbaa.Opn Go.Proofs.YtchlbnlhjllcbaaW.PrintWords Go.Proofs.YtchlbnlhjllcbaaW.PrintLast Go.Proofs.YtchlbnlhjllcbaaW.PrintMore
set_option linter.unusedVariables false
attribute [local go_sem] max2_int min2_int max_two min_two max_three min_three max_four min_four
set_option maxHeartbeats 6400000 in
set_option maxRecDepth 100000 in
theorem idle_walk {w : World} (x : VView) (cs : List Value) (h : kView.K w x cs) (_ok : True) (n : Int) (hn : (Lit.int .u8 n).wf = true) :
    Calls Try.prog 8 #[.agg cs.toArray, .int .u8 n] w fun e w' => e = .returned (.bool true) ∧ Below w.heap.size w w' := by
  obtain ⟨A0, c0, A1, c1, A2, c2, A3, c3, A4, c4, A5, c5, A6, c6, rfl, ⟨g0, r0⟩, ⟨g1, r1⟩, ⟨g2, r2⟩, ⟨g3, r3⟩, ⟨g4, r4⟩, ⟨g5, r5⟩, ⟨g6, r6⟩⟩ := view_open h
  clear h
  obtain ⟨⟨l0, l1, l2, idle, crit, sw, swE, sems, hor⟩, ts, nx, js, hs, now, at_⟩ := x
  dsimp only at *
  have hn2 : 0 ≤ n ∧ n ≤ 255 := by simp [Lit.wf, IntKind.min, IntKind.max, IntKind.signed, IntKind.bits] at hn; omega
  clear hn
  have V := VM.start (idle := idle) (crit := crit) (sw := sw) (swE := swE) (sems := sems) (hor := hor) (jv := .slice A5 js.length c5) (hv := .slice A6 hs.length c6) (now := now) (at_ := at_) g0 r0 g1 r1 g2 r2 g3 r3 g4 r4
  go_enter Try.func8, Try.ntmps8
  go_upto_region 1 with (fail)
  generalize w.alloc (.cells #[.slice A0 l0.length c0, .slice A1 l1.length c1, .slice A2 l2.length c2, .int .i64 idle, .int .i64 crit, .int .i64 sw, .int .i64 swE, .int .i64 sems, .int .i64 hor, .slice A3 ts.length c3, .slice A4 nx.length c4, .slice A5 js.length c5, .slice A6 hs.length c6, .int .i64 now, .int .i64 at_] 32 (0, 0)) = w0 at V ⊢
  clear r0 r1 r2 r3 r4 r5 r6 g0 g1 g2 g3 g4 g5 g6
  obtain ⟨x0, x1, x2, x3, x4, x5, x6, x7, x8, x9, x10, x11, x12, x13, x14⟩ := V.x
  have f12 := blk_frozen V.bv 12
  have f11 := blk_frozen V.bv 11
  go_upto_region 2 with (fail)
  clear x0 x1 x2 x3 x4 x5 x6 x7 x8 x9 x10 x11 x12 x13 x14
  clear f12 f11
  replace V := (V.seth (.slice none 0 0)).setj (.slice none 0 0)
  generalize (w0.setCell ⟨w.heap.size, 12, none⟩ (.slice none 0 0)).setCell ⟨w.heap.size, 11, none⟩ (.slice none 0 0) = w1 at V ⊢
  obtain ⟨x0, x1, x2, x3, x4, x5, x6, x7, x8, x9, x10, x11, x12, x13, x14⟩ := V.x
  go_wp2_with fail
  clear x0 x1 x2 x3 x4 x5 x6 x7 x8 x9 x10 x11 x12 x13 x14
  by_cases hg : GoodJ l0 l1 l2 idle crit sw swE sems hor ts nx [] now at_
  case neg =>
    have NG := Aside0.mk (goodJ_no hg)
    clear hg
    refine (good_walk A0 c0 l0 A1 c1 l1 A2 c2 l2 idle crit sw swE sems hor A3 c3 ts A4 c4 nx none 0 [] now at_ V.g0 V.R0 V.g1 V.R1 V.g2 V.R2 V.g3 V.R3 V.g4 V.R4 (Nat.le_refl _) (Kd.C_nil _ _)).mono ?_; rintro e w2 ⟨rfl, hb⟩
    rw [NG.out]
    replace V := V.step hb
    clear hb
    go_wp2_with fail
    refine (dormouselaw15_answers.calls true _ answers15).mono ?_; rintro e w9 ⟨rfl, hb⟩
    replace V := V.step hb
    clear hb
    go_wp2_with fail
    go_ret
    exact ⟨rfl, V.hb⟩
  case pos =>
    have YG := Aside0.mk (goodJ_yes hg)
    have HG := Aside0.mk hg
    have few := hg.base.few
    have HL := Aside0.mk hg.base.len
    clear hg
    refine (good_walk A0 c0 l0 A1 c1 l1 A2 c2 l2 idle crit sw swE sems hor A3 c3 ts A4 c4 nx none 0 [] now at_ V.g0 V.R0 V.g1 V.R1 V.g2 V.R2 V.g3 V.R3 V.g4 V.R4 (Nat.le_refl _) (Kd.C_nil _ _)).mono ?_; rintro e w2 ⟨rfl, hb⟩
    rw [YG.out]
    replace V := V.step hb
    clear hb
    by_cases z : ts.length = 0
    case pos =>
      have z1 : ((ts.length : Int) == 0) = true := by rw [beq_iff_eq]; omega
      have Z := Aside0.mk z
      clear z
      obtain ⟨x0, x1, x2, x3, x4, x5, x6, x7, x8, x9, x10, x11, x12, x13, x14⟩ := V.x
      go_wp2_with fail
      refine (dormouselaw15_answers.calls true _ answers15).mono ?_; rintro e w9 ⟨rfl, hb⟩
      replace V := V.step hb
      clear hb
      go_wp2_with fail
      go_ret
      exact ⟨rfl, V.hb⟩
    case neg =>
      have z1 : ((ts.length : Int) == 0) = false := by rw [beq_eq_false_iff_ne]; omega
      have Z := Aside0.mk z
      clear z
      obtain ⟨x0, x1, x2, x3, x4, x5, x6, x7, x8, x9, x10, x11, x12, x13, x14⟩ := V.x
      go_wp2_with fail
      try go_wp2_with fail
      clear x0 x1 x2 x3 x4 x5 x6 x7 x8 x9 x10 x11 x12 x13 x14
      clear z1
      have VB := V
      clear V
      go_loopw [5, 6] (fun v6 v7 wr => ∃ i : Nat, v7 = .int .i64 (i : Int) ∧ i ≤ ts.length ∧ OwnT k36 36 w wr w2.heap.size v6 (thereOf (ts.take i)) ∧ Below w2.heap.size w2 wr) (fun _ v7 _ => ts.length - (intOf v7).toNat)
      case atStart => exact ⟨0, by first | rfl | simp, by omega, OwnT.nil _ _ _ _ _, Below.refl _ _⟩
      case round =>
        obtain ⟨i, rfl, hi1, HO, HBl⟩ := hrel
        have V := VB.step HBl
        by_cases hlt : i < ts.length
        case pos =>
          have hlt2 : (i : Int) < (ts.length : Int) := by omega
          have dl : decide ((i : Int) < (ts.length : Int)) = true := decide_eq_true hlt2
          obtain ⟨ad, B2, d2, B3, d3, ea, y0, y1, y2, y3, ky⟩ := task_cells VB.r3 (i : Int) (by omega) hlt2
          cases ea
          replace y0 := pw_cell_below V.hb y0
          replace y1 := pw_cell_below V.hb y1
          replace y2 := pw_cell_below V.hb y2
          replace y3 := pw_cell_below V.hb y3
          simp only [Int.toNat_natCast] at y0 y1 y2 y3
          have TS := Aside0.mk (there_snoc (ts := ts) i hlt)
          have TL := there_len (ts := ts) i
          have KY := Aside0.mk ky
          clear ky
          generalize rd_T36 ts (i : Int) = t at y0 y1 y2 y3 KY TS
          by_cases hp : t.f0 > 0
          case pos =>
            rw [if_pos hp] at TS
            have dp : decide ((0 : Int) < t.f0) = true := decide_eq_true hp
            obtain ⟨x0, x1, x2, x3, x4, x5, x6, x7, x8, x9, x10, x11, x12, x13, x14⟩ := V.x
            have hz := blk_lt V.bv
            have HO2 := Aside0.mk HO
            have HB2 := Aside0.mk HBl
            clear HO HBl hp
            go_wp2_with (at_builtin; (refine app_one (wr := w) (w0 := w2) (d := k36) rfl (.tmp 36) (.tmp 42) 27 36 _ 64 rfl Try.underlying27 info36 rfl (by decide) (by decide) _ (thereOf (ts.take i)) _ t rfl rfl KY.out HO2.out HB2.out (by omega) ?_; intro v9 w9 hO hBB))
            try go_wp2_with fail
            go_roundw
            case rel => exact ⟨i + 1, by first | rfl | simp, by omega, by rw [TS.out]; exact hO, hBB⟩
            case measure => simp [intOf]; omega
          case neg =>
            rw [if_neg hp] at TS
            have dp : decide ((0 : Int) < t.f0) = false := decide_eq_false hp
            obtain ⟨x0, x1, x2, x3, x4, x5, x6, x7, x8, x9, x10, x11, x12, x13, x14⟩ := V.x
            clear hp
            go_wp2_with fail
            try go_wp2_with fail
            clear x0 x1 x2 x3 x4 x5 x6 x7 x8 x9 x10 x11 x12 x13 x14
            go_roundw
            case rel => exact ⟨i + 1, by first | rfl | simp, by omega, by rw [TS.out]; exact HO, HBl⟩
            case measure => simp [intOf]; omega
        case neg =>
          have dl : decide ((i : Int) < (ts.length : Int)) = false := decide_eq_false (by omega)
          obtain rfl : i = ts.length := by omega
          rw [List.take_length] at HO
          have TL : (thereOf ts).length ≤ 64 := Nat.le_trans (List.length_filter_le _ _) few
          obtain ⟨AT, cT, rfl, hcT, CT⟩ := HO.form V.hb (by omega)
          have HT := Aside0.mk CT
          have HTc := Aside0.mk hcT
          clear CT hcT HO hlt hi1
          have hm0 : 1 ≤ (ts.length : Int) := by have := Z.out; omega
          have hm1 : 0 ≤ n % (ts.length : Int) := Int.emod_nonneg _ (by omega)
          have hm2 : n % (ts.length : Int) < ts.length := Int.emod_lt_of_pos _ (by omega)
          obtain ⟨x0, x1, x2, x3, x4, x5, x6, x7, x8, x9, x10, x11, x12, x13, x14⟩ := V.x
          go_upto_region 11 with (fail)
          clear x0 x1 x2 x3 x4 x5 x6 x7 x8 x9 x10 x11 x12 x13 x14
          clear dl VB HBl
          obtain ⟨s, hs2⟩ : ∃ s : Int, n % (ts.length : Int) = s := ⟨_, rfl⟩
          rw [hs2] at hm1 hm2 ⊢
          clear hs2 hn2
          obtain ⟨ad, B2, d2, B3, d3, ea, y0, y1, y2, y3, hl2, hi2, hl3, hi3⟩ := at_T36 V.R3 s hm1 hm2
          cases ea
          clear hl2 hi2 hl3 hi3
          have MEM : Aside0 ((rd_T36 ts s).f0 > 0 → rd_T36 ts s ∈ thereOf ts) := ⟨fun h => by unfold thereOf; refine List.mem_filter.2 ⟨?_, by simpa using h⟩; unfold rd_T36; rw [List.getD_eq_getElem?_getD, List.getElem?_eq_getElem (by omega)]; exact List.getElem_mem _⟩
          have TASK := Aside0.mk (HG.out.base.task s.toNat (by omega))
          have NEXT := Aside0.mk (HG.out.base.next s.toNat (by omega))
          rw [Int.toNat_of_nonneg hm1] at TASK NEXT
          generalize rd_T36 ts s = t at y0 y1 y2 y3 MEM TASK
          have p_ := eq_true hm1
          have q_ := eq_true hm2
          obtain ⟨x0, x1, x2, x3, x4, x5, x6, x7, x8, x9, x10, x11, x12, x13, x14⟩ := V.x
          have hz := blk_lt V.bv
          go_upto_region 12 with (fail)
          clear x0 x1 x2 x3 x4 x5 x6 x7 x8 x9 x10 x11 x12 x13 x14
          clear y0 y1 y2 y3
          have BT := Aside0.mk (heap_alloc_new wr (.cells #[.int .i64 t.f0, .int .i64 t.f1, .slice B2 t.f2.length d2, .slice B3 t.f3.length d3] 36 (0, 0)))
          have hbt : Below wr.heap.size wr (wr.alloc (.cells #[.int .i64 t.f0, .int .i64 t.f1, .slice B2 t.f2.length d2, .slice B3 t.f3.length d3] 36 (0, 0))) := (Below.refl _ _).alloc (Nat.le_refl _) _
          replace V := V.step hbt
          replace HT := Aside0.mk (Kd.C_below HT.out hbt)
          clear hbt hz
          generalize wr.alloc (.cells #[.int .i64 t.f0, .int .i64 t.f1, .slice B2 t.f2.length d2, .slice B3 t.f3.length d3] 36 (0, 0)) = wq at V BT HT ⊢
          generalize wr.heap.size = gb at BT ⊢
          by_cases hp : t.f0 = 0
          case pos =>
            have dp : (t.f0 == 0) = true := by rw [beq_iff_eq]; exact hp
            clear hp
            obtain ⟨x0, x1, x2, x3, x4, x5, x6, x7, x8, x9, x10, x11, x12, x13, x14⟩ := V.x
            have y0 : _ = _ := (blk_cell BT.out 0).trans rfl
            go_wp2_with fail
            refine (dormouselaw15_answers.calls true _ answers15).mono ?_; rintro e w9 ⟨rfl, hb⟩
            replace V := V.step hb
            clear hb
            go_wp2_with fail
            go_ret
            exact ⟨rfl, V.hb⟩
          case neg =>
            have dp : (t.f0 == 0) = false := by rw [beq_eq_false_iff_ne]; exact hp
            have TOK : Aside0 (TaskOk l2.length sems hor t) := ⟨by rcases TASK.out with y | y; exact absurd y.1 hp; exact y⟩
            clear hp
            obtain ⟨x0, x1, x2, x3, x4, x5, x6, x7, x8, x9, x10, x11, x12, x13, x14⟩ := V.x
            have y0 : _ = _ := (blk_cell BT.out 0).trans rfl
            go_wp2_with fail
            try go_wp2_with fail
            clear x0 x1 x2 x3 x4 x5 x6 x7 x8 x9 x10 x11 x12 x13 x14
            clear y0 dp
            have MT := Aside0.mk (mach_there HG.out.base)
            have FF := Aside0.mk (fits_some MT.out (show 1600 < 1601 by decide))
            by_cases hf : Adm.load l0 crit sw (thereOf ts) 0 ≤ 4294967296
            case neg =>
              rw [decide_eq_false hf] at FF
              refine (admit_Fits.calls 1601 A0 c0 l0 A1 c1 l1 A2 c2 l2 idle crit sw swE sems hor AT cT (thereOf ts) false _ V.R0 V.g0 V.R1 V.g1 V.R2 V.g2 HT.out HTc.out FF.out).mono ?_; rintro e w5 ⟨rfl, hb⟩
              replace V := V.step hb
              clear hb
              clear hf
              go_wp2_with fail
              refine (dormouselaw15_answers.calls true _ answers15).mono ?_; rintro e w9 ⟨rfl, hb⟩
              replace V := V.step hb
              clear hb
              go_wp2_with fail
              go_ret
              exact ⟨rfl, V.hb⟩
            case pos =>
              rw [decide_eq_true hf] at FF
              refine (admit_Fits.calls 1601 A0 c0 l0 A1 c1 l1 A2 c2 l2 idle crit sw swE sems hor AT cT (thereOf ts) true _ V.R0 V.g0 V.R1 V.g1 V.R2 V.g2 HT.out HTc.out FF.out).mono ?_; rintro e w5 ⟨rfl, hb⟩
              replace V := V.step hb
              replace BT := Aside0.mk (blk_below BT.out hb)
              replace HT := Aside0.mk (Kd.C_below HT.out hb)
              clear hb
              have HF := Aside0.mk hf
              clear hf FF
              have tp := TOK.out.period
              have hh := Aside0.mk (head_of HG.out.base.table)
              have hnw := HG.out.base.now
              obtain ⟨an, en, xn⟩ := Kd.at_int V.R4 s hm1 (by rw [HL.out]; exact hm2)
              cases en
              have q2_ : (s < (nx.length : Int)) = True := eq_true (by rw [HL.out]; exact hm2)
              obtain ⟨nv, hnv⟩ : ∃ v, rd nx s = v := ⟨_, rfl⟩
              rw [hnv] at xn NEXT
              clear hnv
              have hmx : 0 ≤ mx now nv ∧ now ≤ mx now nv ∧ mx now nv ≤ 2097152 := by have := NEXT.out; unfold mx; split <;> omega
              have HMX := Aside0.mk hmx
              obtain ⟨x0, x1, x2, x3, x4, x5, x6, x7, x8, x9, x10, x11, x12, x13, x14⟩ := V.x
              have y0 : w5.cell? ⟨gb, 0, none⟩ = some (.int .i64 t.f0) := (blk_cell BT.out 0).trans rfl
              go_wp2_with fail
              have XN := Aside0.mk xn
              go_region_held3 (fun w' => w'.cell? ⟨w.heap.size, 0, none⟩ = some (.slice A0 l0.length c0) ∧ w'.cell? ⟨w.heap.size, 1, none⟩ = some (.slice A1 l1.length c1) ∧ w'.cell? ⟨w.heap.size, 2, none⟩ = some (.slice A2 l2.length c2) ∧ w'.cell? ⟨w.heap.size, 3, none⟩ = some (.int .i64 idle) ∧ w'.cell? ⟨w.heap.size, 4, none⟩ = some (.int .i64 crit) ∧ w'.cell? ⟨w.heap.size, 5, none⟩ = some (.int .i64 sw) ∧ w'.cell? ⟨w.heap.size, 6, none⟩ = some (.int .i64 swE) ∧ w'.cell? ⟨w.heap.size, 7, none⟩ = some (.int .i64 sems) ∧ w'.cell? ⟨w.heap.size, 8, none⟩ = some (.int .i64 hor) ∧ w'.cell? ⟨w.heap.size, 9, none⟩ = some (.slice (some ad) ts.length c3) ∧ w'.cell? ⟨w.heap.size, 10, none⟩ = some (.slice (some an) nx.length c4) ∧ w'.cell? ⟨w.heap.size, 11, none⟩ = some (.slice none 0 0) ∧ w'.cell? ⟨w.heap.size, 12, none⟩ = some (.slice none 0 0) ∧ w'.cell? ⟨w.heap.size, 13, none⟩ = some (.int .i64 now) ∧ w'.cell? ⟨w.heap.size, 14, none⟩ = some (.int .i64 at_) ∧ w'.cell? ⟨gb, 0, none⟩ = some (.int .i64 t.f0) ∧ w'.cell? (an.add s.toNat) = some (.int .i64 nv)) (first | exact ⟨x0, x1, x2, x3, x4, x5, x6, x7, x8, x9, x10, x11, x12, x13, x14, y0, xn⟩)
                ((go_at_call 18; (with_reducible refine (dormouseref01_Max.calls nv now (mx now nv) _ (ref_max _ _)).mono ?_); rintro e w6 ⟨rfl, hb⟩; replace hb := below_of_drawn hb; replace hb := below_undrew hb; replace V := V.step hb; replace BT := Aside0.mk (blk_below BT.out hb); replace HT := Aside0.mk (Kd.C_below HT.out hb); replace XN := Aside0.mk (pw_cell_below hb XN.out); clear hb x0 x1 x2 x3 x4 x5 x6 x7 x8 x9 x10 x11 x12 x13 x14 y0 xn; obtain ⟨x0, x1, x2, x3, x4, x5, x6, x7, x8, x9, x10, x11, x12, x13, x14⟩ := V.x; have y0 : w6.cell? ⟨gb, 0, none⟩ = some (.int .i64 t.f0) := (blk_cell BT.out 0).trans rfl; have xn := XN.out))
              rw [show IntKind.i64.wrap (mx now nv + t.f0) = mx now nv + t.f0 from (IntWalk.i64_left _).trans (IntWalk.wrap64_in _ ⟨by have := HMX.out; have := hh.out; omega, by have := HMX.out; have := hh.out; omega⟩)]
              by_cases hm : (2097152 : Int) < mx now nv + t.f0
              case pos =>
                have dm : decide ((2097152 : Int) < mx now nv + t.f0) = true := decide_eq_true hm
                go_wp2_with fail
                refine (dormouselaw15_answers.calls true _ answers15).mono ?_; rintro e w9 ⟨rfl, hb⟩
                replace V := V.step hb
                clear hb
                go_wp2_with fail
                go_ret
                exact ⟨rfl, V.hb⟩
              case neg =>
                have dm : decide ((2097152 : Int) < mx now nv + t.f0) = false := decide_eq_false hm
                go_wp2_with fail
                try go_wp2_with fail
                clear x0 x1 x2 x3 x4 x5 x6 x7 x8 x9 x10 x11 x12 x13 x14
                clear y0 xn dm
                have BLK := Aside0.mk (block_some MT.out t.f0 (show 1400 < 1401 by decide))
                have BD := Aside0.mk (block_bd MT.out t.f0)
                have ID := Aside0.mk (idle_time (now := now) (nx := nx) (a := at_) HG.out.base HF.out (MEM.out (by omega)) (m := mx now nv + t.f0) (by have := HMX.out; omega))
                have E1 := Aside0.mk (at13_some HG.out at_ (m := mx now nv + t.f0) (by have := HMX.out; omega) (by omega))
                generalize atJ l0 sw now nx ts [] (mx now nv + t.f0) = r1 at ID E1
                generalize Adm.block l0 crit sw (thereOf ts) t.f0 = r2 at ID BLK BD
                have hbd : 0 ≤ r2 ∧ r2 ≤ 1048832 := ⟨by have := BD.out; omega, BD.out.2⟩
                obtain ⟨x0, x1, x2, x3, x4, x5, x6, x7, x8, x9, x10, x11, x12, x13, x14⟩ := V.x
                have y0 : w6.cell? ⟨gb, 0, none⟩ = some (.int .i64 t.f0) := (blk_cell BT.out 0).trans rfl
                go_region_held3 (fun w' => w'.cell? ⟨w.heap.size, 0, none⟩ = some (.slice A0 l0.length c0) ∧ w'.cell? ⟨w.heap.size, 1, none⟩ = some (.slice A1 l1.length c1) ∧ w'.cell? ⟨w.heap.size, 2, none⟩ = some (.slice A2 l2.length c2) ∧ w'.cell? ⟨w.heap.size, 3, none⟩ = some (.int .i64 idle) ∧ w'.cell? ⟨w.heap.size, 4, none⟩ = some (.int .i64 crit) ∧ w'.cell? ⟨w.heap.size, 5, none⟩ = some (.int .i64 sw) ∧ w'.cell? ⟨w.heap.size, 6, none⟩ = some (.int .i64 swE) ∧ w'.cell? ⟨w.heap.size, 7, none⟩ = some (.int .i64 sems) ∧ w'.cell? ⟨w.heap.size, 8, none⟩ = some (.int .i64 hor) ∧ w'.cell? ⟨w.heap.size, 9, none⟩ = some (.slice (some ad) ts.length c3) ∧ w'.cell? ⟨w.heap.size, 10, none⟩ = some (.slice (some an) nx.length c4) ∧ w'.cell? ⟨w.heap.size, 11, none⟩ = some (.slice none 0 0) ∧ w'.cell? ⟨w.heap.size, 12, none⟩ = some (.slice none 0 0) ∧ w'.cell? ⟨w.heap.size, 13, none⟩ = some (.int .i64 now) ∧ w'.cell? ⟨w.heap.size, 14, none⟩ = some (.int .i64 at_) ∧ w'.cell? ⟨gb, 0, none⟩ = some (.int .i64 t.f0)) (first | exact ⟨x0, x1, x2, x3, x4, x5, x6, x7, x8, x9, x10, x11, x12, x13, x14, y0⟩)
                  (first
                    | (go_at_call 10; (with_reducible refine (dormouselaw15_answers.calls true _ answers15).mono ?_); rintro e w7 ⟨rfl, hb⟩; replace hb := below_undrew hb; replace V := V.step hb; replace BT := Aside0.mk (blk_below BT.out hb); replace HT := Aside0.mk (Kd.C_below HT.out hb); clear hb x0 x1 x2 x3 x4 x5 x6 x7 x8 x9 x10 x11 x12 x13 x14 y0; obtain ⟨x0, x1, x2, x3, x4, x5, x6, x7, x8, x9, x10, x11, x12, x13, x14⟩ := V.x; have y0 : w7.cell? ⟨gb, 0, none⟩ = some (.int .i64 t.f0) := (blk_cell BT.out 0).trans rfl)
                    | (go_at_call 13; (with_reducible refine (at13_nil 5 A0 c0 l0 A1 c1 l1 A2 c2 l2 idle crit sw swE sems hor (some ad) c3 ts (some an) c4 nx now at_ (mx now nv + t.f0) _ _ V.R0 V.g0 V.R1 V.g1 V.R2 V.g2 V.R3 V.g3 V.R4 V.g4 E1.out).mono ?_); rintro e w8 ⟨rfl, hb⟩; replace V := V.step hb; replace BT := Aside0.mk (blk_below BT.out hb); replace HT := Aside0.mk (Kd.C_below HT.out hb); clear hb x0 x1 x2 x3 x4 x5 x6 x7 x8 x9 x10 x11 x12 x13 x14 y0; obtain ⟨x0, x1, x2, x3, x4, x5, x6, x7, x8, x9, x10, x11, x12, x13, x14⟩ := V.x; have y0 : w8.cell? ⟨gb, 0, none⟩ = some (.int .i64 t.f0) := (blk_cell BT.out 0).trans rfl)
                    | (go_at_call 21; (with_reducible refine (admit_Block.calls 1401 A0 c0 l0 A1 c1 l1 A2 c2 l2 idle crit sw swE sems hor AT cT (thereOf ts) t.f0 _ _ V.R0 V.g0 V.R1 V.g1 V.R2 V.g2 HT.out HTc.out BLK.out).mono ?_); rintro e w9 ⟨rfl, hb⟩; replace V := V.step hb; replace BT := Aside0.mk (blk_below BT.out hb); replace HT := Aside0.mk (Kd.C_below HT.out hb); clear hb x0 x1 x2 x3 x4 x5 x6 x7 x8 x9 x10 x11 x12 x13 x14 y0; obtain ⟨x0, x1, x2, x3, x4, x5, x6, x7, x8, x9, x10, x11, x12, x13, x14⟩ := V.x; have y0 : w9.cell? ⟨gb, 0, none⟩ = some (.int .i64 t.f0) := (blk_cell BT.out 0).trans rfl))
                clear x0 x1 x2 x3 x4 x5 x6 x7 x8 x9 x10 x11 x12 x13 x14
                rw [show IntKind.i64.wrap (r2 * 4294967296) = r2 * 4294967296 from (IntWalk.i64_left _).trans (IntWalk.wrap64_in _ ⟨by omega, by omega⟩)]
                go_wp2_with fail
                go_ret
                exact ⟨congrArg (fun b => Ending.returned (.bool b)) (decide_eq_true ID.out), V.hb⟩
end Go.Proofs.Ytchlbnlhjllcbaa.Sla
namespace Go.Proofs.Ytchlbnlhjllcbaa.slackIdle
open Go.ChangeShapes Go.WideShapes Go.ChangeAt Go.RowKit Go.Proofs.Ytchlbnlhjllcbaa.Opn
set_option linter.unusedVariables false
theorem own : ownKnob Try.prog.godebug = none := by kernel_rfl
theorem laidOut : laidOutB Try.prog = true := by kernel_rfl
set_option maxRecDepth 100000 in
theorem lifted (os : Os) (started : os.Started) (H : Type) (enc : TypeId × Value → H) :
    ReturnsInHanded {} Try.checked os 8 .any (Rows.slackIdleSpec.pre6 enc Try.prog Try.f8 Rows.slackIdleRow.domain false) (Rows.slackIdleSpec.post enc Try.prog Try.f8 false true false false) := by
  refine returnsInHanded_of_change_sized (C := Try.checked) own started (by kernel_rfl) Try.func8
    (ChangeSpec.witness6 (enc := enc) (C := Try.checked) false ⟨#[], #[.agg #[.slice none 0 0, .slice none 0 0, .slice none 0 0, .int .i64 0, .int .i64 0, .int .i64 0, .int .i64 0, .int .i64 0, .int .i64 0, .slice none 0 0, .slice none 0 0, .slice none 0 0, .slice none 0 0, .int .i64 0, .int .i64 0], .int .u8 0], []⟩ 8 (by kernel_rfl) (by kernel_rfl) (by kernel_rfl) (by kernel_rfl)) ?_
  intro W base args ds gs before hval0 hW hcnd hsz0 _
  have hval : ∀ (j : Nat) t v, Try.f8.params[j]? = some t → args[j]? = some v → Value.okWide Try.prog W .any base t v := hval0
  have hW' := hW
  obtain ⟨p, q, hA0, hV, rfl, hfz, hnd⟩ := hW
  have hA : DataW.TrodAll enc Try.prog W 0 (fun _ => true) true Try.f8.params.toList args.toList ds p := hA0
  rw [Try.params8] at hA hval
  obtain ⟨v0, vs0, d0, ds0, p0, q0, hargs, rfl, rfl, h0, r0⟩ := trodAll_cons hA
  obtain ⟨v1, vs1, d1, ds1, p1, q1, rfl, rfl, rfl, h1, r1⟩ := trodAll_cons r0
  obtain ⟨rfl, rfl, rfl⟩ := trodAll_nil r1
  obtain rfl : args = #[v0, v1] := by cases args; simp_all
  obtain ⟨rfl, rfl⟩ := trodVars_none hV
  have k0 := h0
  have lt0 : ∀ x ∈ p0, x.block < W.heap.size := by obtain ⟨m, hm⟩ := k0; exact DataW.trod_lt m _ _ _ hm
  obtain ⟨x0, g0, ok0⟩ := Opens.get oView h0
  obtain ⟨cs0, rfl, e0⟩ := agg_of Try.underlying32 (hval 0 32 v0 rfl rfl)
  rw [e0] at g0
  obtain ⟨a1, rfl, rfl, rfl, w1⟩ := open_int Try.underlying5 (hval 1 5 v1 rfl rfl) h1
  clear hA0 hval0 hsz0
  refine (Sla.idle_walk (w := W) x0 cs0 g0 ok0 a1 w1).mono fun e W' ⟨he, bel⟩ => ?_
  subst he
  exact ⟨_, rfl, _, _, _, [], _, [], hW', trodAll_mk1 (shut_bool Try.underlying4 _), (trodAll_cons_mk (Below.trod laidOut (by kernel_rfl) (of_decide_eq_true (by kernel_rfl)) k0 bel lt0) (trodAll_cons_mk (shut_int Try.underlying5 w1) trodAll_mk0)), rfl, bel.frame _, fun h => by cases h⟩
theorem over : Rows.slackIdleRow.holds Try.pinned (OpenSpec.ofChange Rows.slackIdleSpec) :=
  OpenClaim.holds_of_wide 8 Try.f8 rfl rfl rfl rfl rfl rfl rfl ⟨rfl, rfl, rfl, rfl, rfl⟩ rfl rfl rfl rfl rfl (by kernel_rfl) Try.func8 (by kernel_rfl)
    (of_decide_eq_true (by kernel_rfl)) (by unfold Func.isWrapper; first | (rw [if_pos (by decide +kernel)]; kernel_rfl) | (rw [if_neg (by decide +kernel)]; exact ⟨rfl, rfl⟩))
    (fun os started H enc _ => lifted os started H enc)
theorem proved : Rows.SlackIdleSaid := over
end Go.Proofs.Ytchlbnlhjllcbaa.slackIdle
namespace Go.Proofs.Ytchlbnlhjllcbaa
/-- The row, under a short name, for the claim. -/
theorem slackIdle_holds : Rows.SlackIdleSaid := slackIdle.proved
end Go.Proofs.Ytchlbnlhjllcbaa
