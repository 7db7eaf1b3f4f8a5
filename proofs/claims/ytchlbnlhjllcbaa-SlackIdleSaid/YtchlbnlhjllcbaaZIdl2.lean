/- Part 2 of the law's texts: what its row hangs on. -/
import Derived.Test.YtchlbnlhjllcbaaZIdl1
namespace Go.Proofs.Ytchlbnlhjllcbaa.F
open Go.RowKit Go.Proofs.YtchlbnlhjllcbaaW.PrintWords Go.Proofs.YtchlbnlhjllcbaaW.PrintLast Go.Proofs.YtchlbnlhjllcbaaW.PrintMore
attribute [local go_sem] max2_int min2_int max_two min_two max_three min_three max_four min_four   -- for this text's walks alone
set_option linter.unusedVariables false
set_option linter.unusedSimpArgs false
mutual
def admit_longest.l0 : Nat → List (S36) → Int → Int → List (S36) → Int → Int → Option (Int)
  | 0, _, _, _, _, _, _ => none
  | k + 1, x1, x2, x7, x11, x12, x13 => if x13 < x12 then (if 0 ≤ x13 then (if x13 < (x11.length : Int) then (admit_longest.l1 k x1 x2 x7 x11 x12 x13 (((rd_T36 x11 x13).f2).length : Int) 0 ((rd_T36 x11 x13).f0) ((rd_T36 x11 x13).f1) ((rd_T36 x11 x13).f2) ((rd_T36 x11 x13).f3)) else (none)) else (none)) else (some x7)
def admit_longest.l1 : Nat → List (S36) → Int → Int → List (S36) → Int → Int → Int → Int → Int → Int → List Int → List Int → Option (Int)
  | 0, _, _, _, _, _, _, _, _, _, _, _, _ => none
  | k + 1, x1, x2, x7, x11, x12, x13, x19, x20, x347000, x347001, x347002, x347003 => if x20 < x19 then (if x347000 > x2 then ((task_Uses.f x347000 x347001 x347002 x347003 x20).bind fun t347 => (if t347 = true then ((task_Ceiling.f k x1 x20).bind fun t348 => (if t348 ≤ x2 then (if 0 ≤ x20 then (if x20 < (x347002.length : Int) then (admit_longest.l1 k x1 x2 (mx x7 (rd x347002 x20)) x11 x12 x13 x19 (wrap64 (x20 + 1)) x347000 x347001 x347002 x347003) else (none)) else (none)) else (admit_longest.l1 k x1 x2 x7 x11 x12 x13 x19 (wrap64 (x20 + 1)) x347000 x347001 x347002 x347003))) else (admit_longest.l1 k x1 x2 x7 x11 x12 x13 x19 (wrap64 (x20 + 1)) x347000 x347001 x347002 x347003))) else (admit_longest.l1 k x1 x2 x7 x11 x12 x13 x19 (wrap64 (x20 + 1)) x347000 x347001 x347002 x347003)) else (admit_longest.l0 k x1 x2 x7 x11 x12 (wrap64 (x13 + 1)))
end
def admit_longest.f (k : Nat) (l0_0 : List (S58)) (l0_1 : List (S68)) (l0_2 : List (S71)) (a0_3 : Int) (a0_4 : Int) (a0_5 : Int) (a0_6 : Int) (a0_7 : Int) (a0_8 : Int) (l1 : List (S36)) (a2 : Int) : Option (Int) := admit_longest.l0 k l1 a2 0 l1 (l1.length : Int) 0
set_option maxHeartbeats 8000000 in
set_option maxRecDepth 100000 in
theorem admit_longest.calls (k : Nat) (A0_0 : Option Addr) (c0_0 : Nat) (l0_0 : List (S58)) (A0_1 : Option Addr) (c0_1 : Nat) (l0_1 : List (S68)) (A0_2 : Option Addr) (c0_2 : Nat) (l0_2 : List (S71)) (a0_3 : Int) (a0_4 : Int) (a0_5 : Int) (a0_6 : Int) (a0_7 : Int) (a0_8 : Int) (A1 : Option Addr) (c1 : Nat) (l1 : List (S36)) (a2 : Int) (r : Int) (w : World) (hr0_0 : Kd.C k58 w A0_0 l0_0.length l0_0) (hc0_0 : l0_0.length ≤ c0_0) (hr0_1 : Kd.C k68 w A0_1 l0_1.length l0_1) (hc0_1 : l0_1.length ≤ c0_1) (hr0_2 : Kd.C k71 w A0_2 l0_2.length l0_2) (hc0_2 : l0_2.length ≤ c0_2) (hr1 : Kd.C k36 w A1 l1.length l1) (hc1 : l1.length ≤ c1) (h : admit_longest.f k l0_0 l0_1 l0_2 a0_3 a0_4 a0_5 a0_6 a0_7 a0_8 l1 a2 = some r) :
    Calls Try.prog 34 #[.agg #[.slice A0_0 l0_0.length c0_0, .slice A0_1 l0_1.length c0_1, .slice A0_2 l0_2.length c0_2, .int .i64 a0_3, .int .i64 a0_4, .int .i64 a0_5, .int .i64 a0_6, .int .i64 a0_7, .int .i64 a0_8], .slice A1 l1.length c1, .int .i64 a2] w fun e w' => e = .returned (.int .i64 r) ∧ Below w.heap.size w w' := by
  have hu26 := Try.underlying26
  have hu36 := Try.underlying36
  have HR0_0 := Aside0.mk hr0_0
  have HC0_0 := Aside0.mk hc0_0
  clear hr0_0 hc0_0
  have HR0_1 := Aside0.mk hr0_1
  have HC0_1 := Aside0.mk hc0_1
  clear hr0_1 hc0_1
  have HR0_2 := Aside0.mk hr0_2
  have HC0_2 := Aside0.mk hc0_2
  clear hr0_2 hc0_2
  have HR1 := Aside0.mk hr1
  have HC1 := Aside0.mk hc1
  clear hr1 hc1
  have HB := Aside0.mk (Below.refl w.heap.size w)
  have H : (admit_longest.l0 k l1 a2 0 l1 (l1.length : Int) 0) = some r := h
  clear h
  have H' := Aside0.mk H
  clear H
  go_enter Try.func34, Try.ntmps34
  go_wp2_with (first | ((with_reducible refine gate_dst (N := 3) rfl ?_); refine box_event ?hg (N := 3) ?hd (cs := #[.slice A0_0 l0_0.length c0_0, .slice A0_1 l0_1.length c0_1, .slice A0_2 l0_2.length c0_2, .int .i64 a0_3, .int .i64 a0_4, .int .i64 a0_5, .int .i64 a0_6, .int .i64 a0_7, .int .i64 a0_8]) (t := 26) ?hr ?_; (case hd => rfl); (case hg => rfl); (case hr => first | (go_simp; done) | (go_simp; rfl)); intro gb344 hg w4 hbox hb; have n0_ := Aside0.mk (below_step (by repeat (first | (with_reducible first | exact HB.out | apply below_alloc | apply pw_below_drewN | apply below_drew1) | exact HB.out)) hb); have n1_ := Aside0.mk (hbox); have n2_ := Aside0.mk ((by rw [hg]; exact (below_size (by repeat (first | (with_reducible first | exact HB.out | apply below_alloc | apply pw_below_drewN | apply below_drew1) | exact HB.out))) : w.heap.size ≤ gb344)); have n3_ := Aside0.mk ((by rw [hg]; exact (below_size (by repeat (first | (with_reducible first | exact HB.out | apply below_alloc | apply pw_below_drewN | apply below_drew1) | exact HB.out))) : w.heap.size ≤ gb344)); clear HB; have HB := n0_; have BK344 := n1_; have GW344 := n2_; have GE344 := n3_; clear n0_ n1_ n2_ n3_; clear hb hbox hg))
  go_loopg [7, 13] k (fun kq v7 v13 w' => ∃ (x7_1 : Int) (x13_1 : Int), v7 = .int .i64 x7_1 ∧ v13 = .int .i64 x13_1 ∧ Aside0 (admit_longest.l0 kq l1 a2 x7_1 l1 (l1.length : Int) x13_1 = some r) ∧ Aside0 (kq ≤ k) ∧ Aside0 (w'.heap[gb344]? = some (.cells #[(.slice A0_0 l0_0.length c0_0), (.slice A0_1 l0_1.length c0_1), (.slice A0_2 l0_2.length c0_2), .int .i64 a0_3, .int .i64 a0_4, .int .i64 a0_5, .int .i64 a0_6, .int .i64 a0_7, .int .i64 a0_8] 26 (0, 0))) ∧ Aside0 (Below w.heap.size w w'))
  case atStart => exact ⟨(0), (0), (by first | rfl | (simp; done) | (simp [*]; done)), (by first | rfl | (simp; done) | (simp [*]; done)), H', ⟨Nat.le_refl _⟩, ⟨by (with_reducible repeat (first | refine blk_drewN ?_ _ | refine blk_drew ?_ | refine blk_alloc ?_ _)); exact BK344.out⟩, ⟨by repeat (first | (with_reducible first | exact HB.out | apply below_alloc | apply pw_below_drewN | apply below_drew1 | refine below_set ?_ GE344.out) | exact HB.out)⟩⟩
  case round =>
    clear H'
    try clear c1
    try clear p2
    try clear c3
    obtain ⟨x7_1, x13_1, rfl, rfl, HA, HK1, BK344, HB⟩ := hrel
    cases gk with
    | zero => exact absurd HA.out (by simp [admit_longest.l0])
    | succ k1 =>
      have H := HA.out
      clear HA
      simp only [admit_longest.l0] at H
      by_cases c5 : x13_1 < (l1.length : Int)
      · rw [if_pos c5] at H
        have c5b0 : decide (x13_1 < (l1.length : Int)) = true := decide_eq_true c5
        clear c5
        by_cases c6 : 0 ≤ x13_1
        · rw [if_pos c6] at H
          have c6b0 : decide (0 ≤ x13_1) = true := decide_eq_true c6
          clear c6
          by_cases c7 : x13_1 < (l1.length : Int)
          · rw [if_pos c7] at H
            have c7b0 : decide (x13_1 < (l1.length : Int)) = true := decide_eq_true c7
            clear c7
            have H' := Aside0.mk H
            clear H
            have p345 : 0 ≤ (x13_1 : Int) := of_decide_eq_true (by first | (with_reducible assumption) | assumption)
            have q345 : x13_1 < (l1.length : Int) := of_decide_eq_true (by first | (with_reducible assumption) | assumption)
            obtain ⟨ad345, A345_2, c345_2, A345_3, c345_3, e345, hx345_0, hx345_1, hx345_2, hx345_3, hl345_2, hi345_2, hl345_3, hi345_3⟩ := at_T36 HR1.out x13_1 p345 q345
            cases e345
            replace hx345_0 := (HB.out.cell (World.block_lt_of_cell? w _ hx345_0)).trans hx345_0
            replace hx345_1 := (HB.out.cell (World.block_lt_of_cell? w _ hx345_1)).trans hx345_1
            replace hx345_2 := (HB.out.cell (World.block_lt_of_cell? w _ hx345_2)).trans hx345_2
            replace hx345_3 := (HB.out.cell (World.block_lt_of_cell? w _ hx345_3)).trans hx345_3
            have HR345_2 := Aside0.mk hi345_2
            have HC345_2 := Aside0.mk hl345_2
            clear hi345_2 hl345_2
            have HR345_3 := Aside0.mk hi345_3
            have HC345_3 := Aside0.mk hl345_3
            clear hi345_3 hl345_3
            replace p345 := eq_true p345
            replace q345 := eq_true q345
            go_wp2_with (first | ((with_reducible refine gate_dst (N := 9) rfl ?_); refine box_event ?hg (N := 9) ?hd (cs := #[.int .i64 0, .int .i64 0, .slice none 0 0, .slice none 0 0]) (t := 36) ?hr ?_; (case hd => rfl); (case hg => rfl); (case hr => first | (go_simp; done) | (go_simp; rfl)); intro gb346 hg w8 hbox hb; have n0_ := Aside0.mk (blk_below (g := gb344) (o := .cells #[.slice A0_0 l0_0.length c0_0, .slice A0_1 l0_1.length c0_1, .slice A0_2 l0_2.length c0_2, .int .i64 a0_3, .int .i64 a0_4, .int .i64 a0_5, .int .i64 a0_6, .int .i64 a0_7, .int .i64 a0_8] 26 (0, 0)) (by (with_reducible repeat (first | refine blk_drewN ?_ _ | refine blk_drew ?_ | refine blk_alloc ?_ _)); exact BK344.out) hb); have n1_ := Aside0.mk (below_step (by repeat (first | (with_reducible first | exact HB.out | apply below_alloc | apply pw_below_drewN | apply below_drew1 | refine below_set ?_ GE344.out) | exact HB.out)) hb); have n2_ := Aside0.mk (hbox); have n3_ := Aside0.mk ((by rw [hg]; exact (below_size (by repeat (first | (with_reducible first | exact HB.out | apply below_alloc | apply pw_below_drewN | apply below_drew1 | refine below_set ?_ GE344.out) | exact HB.out))) : w.heap.size ≤ gb346)); have n4_ := Aside0.mk ((by rw [hg]; exact (below_size (by repeat (first | (with_reducible first | exact HB.out | apply below_alloc | apply pw_below_drewN | apply below_drew1 | refine below_set ?_ GE344.out) | exact HB.out))) : w.heap.size ≤ gb346)); have n5_ := Aside0.mk ((by rw [hg]; exact Nat.ne_of_lt (blk_lt (g := gb344) (o := .cells #[.slice A0_0 l0_0.length c0_0, .slice A0_1 l0_1.length c0_1, .slice A0_2 l0_2.length c0_2, .int .i64 a0_3, .int .i64 a0_4, .int .i64 a0_5, .int .i64 a0_6, .int .i64 a0_7, .int .i64 a0_8] 26 (0, 0)) (by (with_reducible repeat (first | refine blk_drewN ?_ _ | refine blk_drew ?_ | refine blk_alloc ?_ _)); exact BK344.out)) : gb344 ≠ gb346)); have n6_ := Aside0.mk ((by rw [hg]; exact Nat.ne_of_gt (blk_lt (g := gb344) (o := .cells #[.slice A0_0 l0_0.length c0_0, .slice A0_1 l0_1.length c0_1, .slice A0_2 l0_2.length c0_2, .int .i64 a0_3, .int .i64 a0_4, .int .i64 a0_5, .int .i64 a0_6, .int .i64 a0_7, .int .i64 a0_8] 26 (0, 0)) (by (with_reducible repeat (first | refine blk_drewN ?_ _ | refine blk_drew ?_ | refine blk_alloc ?_ _)); exact BK344.out)) : gb346 ≠ gb344)); clear BK344; clear HB; have BK344 := n0_; have HB := n1_; have BK346 := n2_; have GW346 := n3_; have GE346 := n4_; have NB344_346 := n5_; have NB346_344 := n6_; clear n0_ n1_ n2_ n3_ n4_ n5_ n6_; clear hb hbox hg; have hnb9 := NB346_344.out; have hnc9 := NB344_346.out; have hcz10_0 : w8.cell? ⟨gb346, 0, none⟩ = some (.int .i64 0) := (blk_cell BK346.out 0).trans rfl; have hcz10_1 : w8.cell? ⟨gb346, 1, none⟩ = some (.int .i64 0) := (blk_cell BK346.out 1).trans rfl; have hcz10_2 : w8.cell? ⟨gb346, 2, none⟩ = some (.slice none 0 0) := (blk_cell BK346.out 2).trans rfl; have hcz10_3 : w8.cell? ⟨gb346, 3, none⟩ = some (.slice none 0 0) := (blk_cell BK346.out 3).trans rfl; have hfz10_0 := blk_frozen BK346.out 0; have hfz10_1 := blk_frozen BK346.out 1; have hfz10_2 := blk_frozen BK346.out 2; have hfz10_3 := blk_frozen BK346.out 3))
            go_loopg [7, 20] k1 (fun kq v7 v20 w' => ∃ (x7_2 : Int) (x20_2 : Int), v7 = .int .i64 x7_2 ∧ v20 = .int .i64 x20_2 ∧ Aside0 (admit_longest.l1 kq l1 a2 x7_2 l1 (l1.length : Int) x13_1 (((rd_T36 l1 x13_1).f2).length : Int) x20_2 ((rd_T36 l1 x13_1).f0) ((rd_T36 l1 x13_1).f1) ((rd_T36 l1 x13_1).f2) ((rd_T36 l1 x13_1).f3) = some r) ∧ Aside0 (kq ≤ k1) ∧ Aside0 (w'.heap[gb344]? = some (.cells #[(.slice A0_0 l0_0.length c0_0), (.slice A0_1 l0_1.length c0_1), (.slice A0_2 l0_2.length c0_2), .int .i64 a0_3, .int .i64 a0_4, .int .i64 a0_5, .int .i64 a0_6, .int .i64 a0_7, .int .i64 a0_8] 26 (0, 0))) ∧ Aside0 (w'.heap[gb346]? = some (.cells #[.int .i64 ((rd_T36 l1 x13_1).f0), .int .i64 ((rd_T36 l1 x13_1).f1), (.slice A345_2 ((rd_T36 l1 x13_1).f2).length c345_2), (.slice A345_3 ((rd_T36 l1 x13_1).f3).length c345_3)] 36 (0, 0))) ∧ Aside0 (Below w.heap.size w w'))
            case atStart => exact ⟨(x7_1), (0), (by first | rfl | (simp; done) | (simp [*]; done)), (by first | rfl | (simp; done) | (simp [*]; done)), H', ⟨Nat.le_refl _⟩, ⟨by (with_reducible repeat (first | refine blk_drewN ?_ _ | refine blk_drew ?_ | refine blk_alloc ?_ _)); refine blk_far ?_ NB344_346.out _; (with_reducible repeat (first | refine blk_drewN ?_ _ | refine blk_drew ?_ | refine blk_alloc ?_ _)); refine blk_far ?_ NB344_346.out _; (with_reducible repeat (first | refine blk_drewN ?_ _ | refine blk_drew ?_ | refine blk_alloc ?_ _)); refine blk_far ?_ NB344_346.out _; (with_reducible repeat (first | refine blk_drewN ?_ _ | refine blk_drew ?_ | refine blk_alloc ?_ _)); refine blk_far ?_ NB344_346.out _; (with_reducible repeat (first | refine blk_drewN ?_ _ | refine blk_drew ?_ | refine blk_alloc ?_ _)); exact BK344.out⟩, ⟨by (with_reducible repeat (first | refine blk_drewN ?_ _ | refine blk_drew ?_ | refine blk_alloc ?_ _)); refine blk_put (cs := #[.int .i64 ((rd_T36 l1 x13_1).f0), .int .i64 ((rd_T36 l1 x13_1).f1), .slice A345_2 ((rd_T36 l1 x13_1).f2).length c345_2, .slice none 0 0]) ?_ 3 _ rfl; (with_reducible repeat (first | refine blk_drewN ?_ _ | refine blk_drew ?_ | refine blk_alloc ?_ _)); refine blk_put (cs := #[.int .i64 ((rd_T36 l1 x13_1).f0), .int .i64 ((rd_T36 l1 x13_1).f1), .slice none 0 0, .slice none 0 0]) ?_ 2 _ rfl; (with_reducible repeat (first | refine blk_drewN ?_ _ | refine blk_drew ?_ | refine blk_alloc ?_ _)); refine blk_put (cs := #[.int .i64 ((rd_T36 l1 x13_1).f0), .int .i64 0, .slice none 0 0, .slice none 0 0]) ?_ 1 _ rfl; (with_reducible repeat (first | refine blk_drewN ?_ _ | refine blk_drew ?_ | refine blk_alloc ?_ _)); refine blk_put (cs := #[.int .i64 0, .int .i64 0, .slice none 0 0, .slice none 0 0]) ?_ 0 _ rfl; (with_reducible repeat (first | refine blk_drewN ?_ _ | refine blk_drew ?_ | refine blk_alloc ?_ _)); exact BK346.out⟩, ⟨by repeat (first | (with_reducible first | exact HB.out | apply below_alloc | apply pw_below_drewN | apply below_drew1 | refine below_set ?_ GE344.out | refine below_set ?_ GE346.out) | exact HB.out)⟩⟩
            case round =>
              clear H'
              try clear c1
              try clear p2
              try clear c3
              try clear p3
              try clear q3
              try clear hx3
              try clear c5
              try clear c5b0
              try clear c6
              try clear c6b0
              try clear c7
              try clear c7b0
              try clear c9
              try clear hcz10_0
              try clear hcz10_1
              try clear hcz10_2
              try clear hcz10_3
              try clear hfz10_0
              try clear hfz10_1
              try clear hfz10_2
              try clear hfz10_3
              try clear hx345_0
              try clear hx345_1
              try clear hx345_2
              try clear hx345_3
              try clear p2
              try clear p345
              try clear q345
              obtain ⟨x7_2, x20_2, rfl, rfl, HA, HK2, BK344, BK346, HB⟩ := hrel
              cases gk with
              | zero => exact absurd HA.out (by simp [admit_longest.l1])
              | succ k2 =>
                have H := HA.out
                clear HA
                simp only [admit_longest.l1] at H
                by_cases c11 : x20_2 < (((rd_T36 l1 x13_1).f2).length : Int)
                · rw [if_pos c11] at H
                  have c11b0 : decide (x20_2 < (((rd_T36 l1 x13_1).f2).length : Int)) = true := decide_eq_true c11
                  clear c11
                  by_cases c12 : ((rd_T36 l1 x13_1).f0) > a2
                  · rw [if_pos c12] at H
                    have c12b0 : decide (a2 < ((rd_T36 l1 x13_1).f0)) = true := decide_eq_true c12
                    clear c12
                    replace H := Option.bind_eq_some_iff.mp H
                    obtain ⟨t347, A130, H⟩ := H
                    replace H : (if t347 = true then ((task_Ceiling.f k2 l1 x20_2).bind fun t348 => (if t348 ≤ a2 then (if 0 ≤ x20_2 then (if x20_2 < (((rd_T36 l1 x13_1).f2).length : Int) then (admit_longest.l1 k2 l1 a2 (mx x7_2 (rd ((rd_T36 l1 x13_1).f2) x20_2)) l1 (l1.length : Int) x13_1 (((rd_T36 l1 x13_1).f2).length : Int) (wrap64 (x20_2 + 1)) ((rd_T36 l1 x13_1).f0) ((rd_T36 l1 x13_1).f1) ((rd_T36 l1 x13_1).f2) ((rd_T36 l1 x13_1).f3)) else (none)) else (none)) else (admit_longest.l1 k2 l1 a2 x7_2 l1 (l1.length : Int) x13_1 (((rd_T36 l1 x13_1).f2).length : Int) (wrap64 (x20_2 + 1)) ((rd_T36 l1 x13_1).f0) ((rd_T36 l1 x13_1).f1) ((rd_T36 l1 x13_1).f2) ((rd_T36 l1 x13_1).f3)))) else (admit_longest.l1 k2 l1 a2 x7_2 l1 (l1.length : Int) x13_1 (((rd_T36 l1 x13_1).f2).length : Int) (wrap64 (x20_2 + 1)) ((rd_T36 l1 x13_1).f0) ((rd_T36 l1 x13_1).f1) ((rd_T36 l1 x13_1).f2) ((rd_T36 l1 x13_1).f3))) = some r := H
                    have A13 := Aside0.mk A130
                    clear A130
                    by_cases c14 : t347 = true
                    · subst c14
                      have H1 : ((task_Ceiling.f k2 l1 x20_2).bind fun t348 => (if t348 ≤ a2 then (if 0 ≤ x20_2 then (if x20_2 < (((rd_T36 l1 x13_1).f2).length : Int) then (admit_longest.l1 k2 l1 a2 (mx x7_2 (rd ((rd_T36 l1 x13_1).f2) x20_2)) l1 (l1.length : Int) x13_1 (((rd_T36 l1 x13_1).f2).length : Int) (wrap64 (x20_2 + 1)) ((rd_T36 l1 x13_1).f0) ((rd_T36 l1 x13_1).f1) ((rd_T36 l1 x13_1).f2) ((rd_T36 l1 x13_1).f3)) else (none)) else (none)) else (admit_longest.l1 k2 l1 a2 x7_2 l1 (l1.length : Int) x13_1 (((rd_T36 l1 x13_1).f2).length : Int) (wrap64 (x20_2 + 1)) ((rd_T36 l1 x13_1).f0) ((rd_T36 l1 x13_1).f1) ((rd_T36 l1 x13_1).f2) ((rd_T36 l1 x13_1).f3)))) = some r := by rw [if_pos rfl] at H; exact H
                      clear H
                      have H := H1
                      clear H1
                      replace H := Option.bind_eq_some_iff.mp H
                      obtain ⟨t348, A150, H⟩ := H
                      replace H : (if t348 ≤ a2 then (if 0 ≤ x20_2 then (if x20_2 < (((rd_T36 l1 x13_1).f2).length : Int) then (admit_longest.l1 k2 l1 a2 (mx x7_2 (rd ((rd_T36 l1 x13_1).f2) x20_2)) l1 (l1.length : Int) x13_1 (((rd_T36 l1 x13_1).f2).length : Int) (wrap64 (x20_2 + 1)) ((rd_T36 l1 x13_1).f0) ((rd_T36 l1 x13_1).f1) ((rd_T36 l1 x13_1).f2) ((rd_T36 l1 x13_1).f3)) else (none)) else (none)) else (admit_longest.l1 k2 l1 a2 x7_2 l1 (l1.length : Int) x13_1 (((rd_T36 l1 x13_1).f2).length : Int) (wrap64 (x20_2 + 1)) ((rd_T36 l1 x13_1).f0) ((rd_T36 l1 x13_1).f1) ((rd_T36 l1 x13_1).f2) ((rd_T36 l1 x13_1).f3))) = some r := H
                      have A15 := Aside0.mk A150
                      clear A150
                      by_cases c16 : t348 ≤ a2
                      · rw [if_pos c16] at H
                        have c16b0 : decide (t348 ≤ a2) = true := decide_eq_true c16
                        clear c16
                        by_cases c17 : 0 ≤ x20_2
                        · rw [if_pos c17] at H
                          have c17b0 : decide (0 ≤ x20_2) = true := decide_eq_true c17
                          clear c17
                          by_cases c18 : x20_2 < (((rd_T36 l1 x13_1).f2).length : Int)
                          · rw [if_pos c18] at H
                            have c18b0 : decide (x20_2 < (((rd_T36 l1 x13_1).f2).length : Int)) = true := decide_eq_true c18
                            clear c18
                            obtain ⟨ji19, hji19⟩ : ∃ j_ : Int, (mx x7_2 (rd ((rd_T36 l1 x13_1).f2) x20_2)) = j_ := ⟨_, rfl⟩
                            replace H : (admit_longest.l1 k2 l1 a2 ji19 l1 (l1.length : Int) x13_1 (((rd_T36 l1 x13_1).f2).length : Int) (wrap64 (x20_2 + 1)) ((rd_T36 l1 x13_1).f0) ((rd_T36 l1 x13_1).f1) ((rd_T36 l1 x13_1).f2) ((rd_T36 l1 x13_1).f3)) = some r := by first | (rw [hji19] at H; exact H) | (simp only [hji19] at H ⊢; exact H)
                            (try rw [hji19] at A13)
                            (try rw [hji19] at A15)
                            have hji19_ : (if x7_2 < (rd ((rd_T36 l1 x13_1).f2) x20_2) then (rd ((rd_T36 l1 x13_1).f2) x20_2) else x7_2) = ji19 := hji19
                            have H' := Aside0.mk H
                            clear H
                            have hnb20 := NB346_344.out
                            have hnc20 := NB344_346.out
                            have hcz21_0 : wr.cell? ⟨gb346, 0, none⟩ = some (.int .i64 ((rd_T36 l1 x13_1).f0)) := (blk_cell BK346.out 0).trans rfl
                            have hcz21_1 : wr.cell? ⟨gb346, 1, none⟩ = some (.int .i64 ((rd_T36 l1 x13_1).f1)) := (blk_cell BK346.out 1).trans rfl
                            have hcz21_2 : wr.cell? ⟨gb346, 2, none⟩ = some (.slice A345_2 ((rd_T36 l1 x13_1).f2).length c345_2) := (blk_cell BK346.out 2).trans rfl
                            have hcz21_3 : wr.cell? ⟨gb346, 3, none⟩ = some (.slice A345_3 ((rd_T36 l1 x13_1).f3).length c345_3) := (blk_cell BK346.out 3).trans rfl
                            have hfz21_0 := blk_frozen BK346.out 0
                            have hfz21_1 := blk_frozen BK346.out 1
                            have hfz21_2 := blk_frozen BK346.out 2
                            have hfz21_3 := blk_frozen BK346.out 3
                            go_wp2_with (first | (go_at_call 49; (with_reducible refine (task_Uses.calls ((rd_T36 l1 x13_1).f0) ((rd_T36 l1 x13_1).f1) _ _ ((rd_T36 l1 x13_1).f2) _ _ ((rd_T36 l1 x13_1).f3) x20_2 true _ ?side1 ?side2 ?side3 ?side4 A13.out).mono ?_); (case side1 => repeat (first | exact (Kd.C_below HR345_2.out HB.out) | (with_reducible refine Kd.C_alloc ?_ _) | (with_reducible refine Kd.C_drewN ?_ _) | (with_reducible refine Kd.C_drew ?_))); (case side2 => exact HC345_2.out); (case side3 => repeat (first | exact (Kd.C_below HR345_3.out HB.out) | (with_reducible refine Kd.C_alloc ?_ _) | (with_reducible refine Kd.C_drewN ?_ _) | (with_reducible refine Kd.C_drew ?_))); (case side4 => exact HC345_3.out); rintro e w22 ⟨rfl, hb⟩; have n0_ := Aside0.mk (blk_below (g := gb344) (o := .cells #[.slice A0_0 l0_0.length c0_0, .slice A0_1 l0_1.length c0_1, .slice A0_2 l0_2.length c0_2, .int .i64 a0_3, .int .i64 a0_4, .int .i64 a0_5, .int .i64 a0_6, .int .i64 a0_7, .int .i64 a0_8] 26 (0, 0)) (by (with_reducible repeat (first | refine blk_drewN ?_ _ | refine blk_drew ?_ | refine blk_alloc ?_ _)); exact BK344.out) hb); have n1_ := Aside0.mk (blk_below (g := gb346) (o := .cells #[.int .i64 ((rd_T36 l1 x13_1).f0), .int .i64 ((rd_T36 l1 x13_1).f1), .slice A345_2 ((rd_T36 l1 x13_1).f2).length c345_2, .slice A345_3 ((rd_T36 l1 x13_1).f3).length c345_3] 36 (0, 0)) (by (with_reducible repeat (first | refine blk_drewN ?_ _ | refine blk_drew ?_ | refine blk_alloc ?_ _)); exact BK346.out) hb); have n2_ := Aside0.mk (below_step (by repeat (first | (with_reducible first | exact HB.out | apply below_alloc | apply pw_below_drewN | apply below_drew1 | refine below_set ?_ GE344.out | refine below_set ?_ GE346.out) | exact HB.out)) hb); clear BK344; clear BK346; clear HB; have BK344 := n0_; have BK346 := n1_; have HB := n2_; clear n0_ n1_ n2_; (try clear hb); (try clear hb2); (try clear hk); (try clear hi)) | (go_at_call 50; (with_reducible refine (task_Ceiling.calls k2 _ _ l1 x20_2 t348 _ ?side1 ?side2 A15.out).mono ?_); (case side1 => repeat (first | exact (Kd.C_below HR1.out HB.out) | (with_reducible refine Kd.C_alloc ?_ _) | (with_reducible refine Kd.C_drewN ?_ _) | (with_reducible refine Kd.C_drew ?_))); (case side2 => exact HC1.out); rintro e w23 ⟨rfl, hb⟩; have n0_ := Aside0.mk (blk_below (g := gb344) (o := .cells #[.slice A0_0 l0_0.length c0_0, .slice A0_1 l0_1.length c0_1, .slice A0_2 l0_2.length c0_2, .int .i64 a0_3, .int .i64 a0_4, .int .i64 a0_5, .int .i64 a0_6, .int .i64 a0_7, .int .i64 a0_8] 26 (0, 0)) (by (with_reducible repeat (first | refine blk_drewN ?_ _ | refine blk_drew ?_ | refine blk_alloc ?_ _)); exact BK344.out) hb); have n1_ := Aside0.mk (blk_below (g := gb346) (o := .cells #[.int .i64 ((rd_T36 l1 x13_1).f0), .int .i64 ((rd_T36 l1 x13_1).f1), .slice A345_2 ((rd_T36 l1 x13_1).f2).length c345_2, .slice A345_3 ((rd_T36 l1 x13_1).f3).length c345_3] 36 (0, 0)) (by (with_reducible repeat (first | refine blk_drewN ?_ _ | refine blk_drew ?_ | refine blk_alloc ?_ _)); exact BK346.out) hb); have n2_ := Aside0.mk (below_step (by repeat (first | (with_reducible first | exact HB.out | apply below_alloc | apply pw_below_drewN | apply below_drew1 | refine below_set ?_ GE344.out | refine below_set ?_ GE346.out) | exact HB.out)) hb); clear BK344; clear BK346; clear HB; have BK344 := n0_; have BK346 := n1_; have HB := n2_; clear n0_ n1_ n2_; (try clear hb); (try clear hb2); (try clear hk); (try clear hi); have hcz24_0 : w23.cell? ⟨gb346, 0, none⟩ = some (.int .i64 ((rd_T36 l1 x13_1).f0)) := (blk_cell BK346.out 0).trans rfl; have hcz24_1 : w23.cell? ⟨gb346, 1, none⟩ = some (.int .i64 ((rd_T36 l1 x13_1).f1)) := (blk_cell BK346.out 1).trans rfl; have hcz24_2 : w23.cell? ⟨gb346, 2, none⟩ = some (.slice A345_2 ((rd_T36 l1 x13_1).f2).length c345_2) := (blk_cell BK346.out 2).trans rfl; have hcz24_3 : w23.cell? ⟨gb346, 3, none⟩ = some (.slice A345_3 ((rd_T36 l1 x13_1).f3).length c345_3) := (blk_cell BK346.out 3).trans rfl; have hfz24_0 := blk_frozen BK346.out 0; have hfz24_1 := blk_frozen BK346.out 1; have hfz24_2 := blk_frozen BK346.out 2; have hfz24_3 := blk_frozen BK346.out 3; have p349 : 0 ≤ (x20_2 : Int) := of_decide_eq_true (by first | (with_reducible assumption) | assumption); have q349 : x20_2 < (((rd_T36 l1 x13_1).f2).length : Int) := of_decide_eq_true (by first | (with_reducible assumption) | assumption); obtain ⟨ad349, e349, hx349_0⟩ := Kd.at_int HR345_2.out x20_2 p349 q349; cases e349; replace hx349_0 := (HB.out.cell (World.block_lt_of_cell? w _ hx349_0)).trans hx349_0; replace p349 := eq_true p349; replace q349 := eq_true q349))
                            go_roundg k2
                            case measure => have := HK1.out; have := HK2.out; omega
                            case rel => exact ⟨(ji19), (wrap64 (x20_2 + 1)), (by first | rfl | (simp; done) | (simp only [← hji19] <;> (first | rfl | simp)) | (simp [*]; done)), (by first | rfl | (simp; done) | (simp [*]; done)), H', ⟨by have := HK1.out; have := HK2.out; omega⟩, ⟨by (with_reducible repeat (first | refine blk_drewN ?_ _ | refine blk_drew ?_ | refine blk_alloc ?_ _)); exact BK344.out⟩, ⟨by (with_reducible repeat (first | refine blk_drewN ?_ _ | refine blk_drew ?_ | refine blk_alloc ?_ _)); exact BK346.out⟩, ⟨by repeat (first | (with_reducible first | exact HB.out | apply below_alloc | apply pw_below_drewN | apply below_drew1 | refine below_set ?_ GE344.out | refine below_set ?_ GE346.out) | exact HB.out)⟩⟩
                          · rw [if_neg c18] at H
                            exact absurd H (by simp)
                        · rw [if_neg c17] at H
                          exact absurd H (by simp)
                      · rw [if_neg c16] at H
                        have c16b0 : decide (t348 ≤ a2) = false := decide_eq_false c16
                        clear c16
                        have H' := Aside0.mk H
                        clear H
                        have hnb25 := NB346_344.out
                        have hnc25 := NB344_346.out
                        have hcz26_0 : wr.cell? ⟨gb346, 0, none⟩ = some (.int .i64 ((rd_T36 l1 x13_1).f0)) := (blk_cell BK346.out 0).trans rfl
                        have hcz26_1 : wr.cell? ⟨gb346, 1, none⟩ = some (.int .i64 ((rd_T36 l1 x13_1).f1)) := (blk_cell BK346.out 1).trans rfl
                        have hcz26_2 : wr.cell? ⟨gb346, 2, none⟩ = some (.slice A345_2 ((rd_T36 l1 x13_1).f2).length c345_2) := (blk_cell BK346.out 2).trans rfl
                        have hcz26_3 : wr.cell? ⟨gb346, 3, none⟩ = some (.slice A345_3 ((rd_T36 l1 x13_1).f3).length c345_3) := (blk_cell BK346.out 3).trans rfl
                        have hfz26_0 := blk_frozen BK346.out 0
                        have hfz26_1 := blk_frozen BK346.out 1
                        have hfz26_2 := blk_frozen BK346.out 2
                        have hfz26_3 := blk_frozen BK346.out 3
                        go_wp2_with (first | (go_at_call 49; (with_reducible refine (task_Uses.calls ((rd_T36 l1 x13_1).f0) ((rd_T36 l1 x13_1).f1) _ _ ((rd_T36 l1 x13_1).f2) _ _ ((rd_T36 l1 x13_1).f3) x20_2 true _ ?side1 ?side2 ?side3 ?side4 A13.out).mono ?_); (case side1 => repeat (first | exact (Kd.C_below HR345_2.out HB.out) | (with_reducible refine Kd.C_alloc ?_ _) | (with_reducible refine Kd.C_drewN ?_ _) | (with_reducible refine Kd.C_drew ?_))); (case side2 => exact HC345_2.out); (case side3 => repeat (first | exact (Kd.C_below HR345_3.out HB.out) | (with_reducible refine Kd.C_alloc ?_ _) | (with_reducible refine Kd.C_drewN ?_ _) | (with_reducible refine Kd.C_drew ?_))); (case side4 => exact HC345_3.out); rintro e w27 ⟨rfl, hb⟩; have n0_ := Aside0.mk (blk_below (g := gb344) (o := .cells #[.slice A0_0 l0_0.length c0_0, .slice A0_1 l0_1.length c0_1, .slice A0_2 l0_2.length c0_2, .int .i64 a0_3, .int .i64 a0_4, .int .i64 a0_5, .int .i64 a0_6, .int .i64 a0_7, .int .i64 a0_8] 26 (0, 0)) (by (with_reducible repeat (first | refine blk_drewN ?_ _ | refine blk_drew ?_ | refine blk_alloc ?_ _)); exact BK344.out) hb); have n1_ := Aside0.mk (blk_below (g := gb346) (o := .cells #[.int .i64 ((rd_T36 l1 x13_1).f0), .int .i64 ((rd_T36 l1 x13_1).f1), .slice A345_2 ((rd_T36 l1 x13_1).f2).length c345_2, .slice A345_3 ((rd_T36 l1 x13_1).f3).length c345_3] 36 (0, 0)) (by (with_reducible repeat (first | refine blk_drewN ?_ _ | refine blk_drew ?_ | refine blk_alloc ?_ _)); exact BK346.out) hb); have n2_ := Aside0.mk (below_step (by repeat (first | (with_reducible first | exact HB.out | apply below_alloc | apply pw_below_drewN | apply below_drew1 | refine below_set ?_ GE344.out | refine below_set ?_ GE346.out) | exact HB.out)) hb); clear BK344; clear BK346; clear HB; have BK344 := n0_; have BK346 := n1_; have HB := n2_; clear n0_ n1_ n2_; (try clear hb); (try clear hb2); (try clear hk); (try clear hi)) | (go_at_call 50; (with_reducible refine (task_Ceiling.calls k2 _ _ l1 x20_2 t348 _ ?side1 ?side2 A15.out).mono ?_); (case side1 => repeat (first | exact (Kd.C_below HR1.out HB.out) | (with_reducible refine Kd.C_alloc ?_ _) | (with_reducible refine Kd.C_drewN ?_ _) | (with_reducible refine Kd.C_drew ?_))); (case side2 => exact HC1.out); rintro e w28 ⟨rfl, hb⟩; have n0_ := Aside0.mk (blk_below (g := gb344) (o := .cells #[.slice A0_0 l0_0.length c0_0, .slice A0_1 l0_1.length c0_1, .slice A0_2 l0_2.length c0_2, .int .i64 a0_3, .int .i64 a0_4, .int .i64 a0_5, .int .i64 a0_6, .int .i64 a0_7, .int .i64 a0_8] 26 (0, 0)) (by (with_reducible repeat (first | refine blk_drewN ?_ _ | refine blk_drew ?_ | refine blk_alloc ?_ _)); exact BK344.out) hb); have n1_ := Aside0.mk (blk_below (g := gb346) (o := .cells #[.int .i64 ((rd_T36 l1 x13_1).f0), .int .i64 ((rd_T36 l1 x13_1).f1), .slice A345_2 ((rd_T36 l1 x13_1).f2).length c345_2, .slice A345_3 ((rd_T36 l1 x13_1).f3).length c345_3] 36 (0, 0)) (by (with_reducible repeat (first | refine blk_drewN ?_ _ | refine blk_drew ?_ | refine blk_alloc ?_ _)); exact BK346.out) hb); have n2_ := Aside0.mk (below_step (by repeat (first | (with_reducible first | exact HB.out | apply below_alloc | apply pw_below_drewN | apply below_drew1 | refine below_set ?_ GE344.out | refine below_set ?_ GE346.out) | exact HB.out)) hb); clear BK344; clear BK346; clear HB; have BK344 := n0_; have BK346 := n1_; have HB := n2_; clear n0_ n1_ n2_; (try clear hb); (try clear hb2); (try clear hk); (try clear hi)))
                        go_roundg k2
                        case measure => have := HK1.out; have := HK2.out; omega
                        case rel => exact ⟨(x7_2), (wrap64 (x20_2 + 1)), (by first | rfl | (simp; done) | (simp [*]; done)), (by first | rfl | (simp; done) | (simp [*]; done)), H', ⟨by have := HK1.out; have := HK2.out; omega⟩, ⟨by (with_reducible repeat (first | refine blk_drewN ?_ _ | refine blk_drew ?_ | refine blk_alloc ?_ _)); exact BK344.out⟩, ⟨by (with_reducible repeat (first | refine blk_drewN ?_ _ | refine blk_drew ?_ | refine blk_alloc ?_ _)); exact BK346.out⟩, ⟨by repeat (first | (with_reducible first | exact HB.out | apply below_alloc | apply pw_below_drewN | apply below_drew1 | refine below_set ?_ GE344.out | refine below_set ?_ GE346.out) | exact HB.out)⟩⟩
                    · replace c14 := Bool.eq_false_iff.mpr c14
                      subst c14
                      have H1 : (admit_longest.l1 k2 l1 a2 x7_2 l1 (l1.length : Int) x13_1 (((rd_T36 l1 x13_1).f2).length : Int) (wrap64 (x20_2 + 1)) ((rd_T36 l1 x13_1).f0) ((rd_T36 l1 x13_1).f1) ((rd_T36 l1 x13_1).f2) ((rd_T36 l1 x13_1).f3)) = some r := by rw [if_neg (show ¬ (false = true) by decide)] at H; exact H
                      clear H
                      have H := H1
                      clear H1
                      have H' := Aside0.mk H
                      clear H
                      have hnb29 := NB346_344.out
                      have hnc29 := NB344_346.out
                      have hcz30_0 : wr.cell? ⟨gb346, 0, none⟩ = some (.int .i64 ((rd_T36 l1 x13_1).f0)) := (blk_cell BK346.out 0).trans rfl
                      have hcz30_1 : wr.cell? ⟨gb346, 1, none⟩ = some (.int .i64 ((rd_T36 l1 x13_1).f1)) := (blk_cell BK346.out 1).trans rfl
                      have hcz30_2 : wr.cell? ⟨gb346, 2, none⟩ = some (.slice A345_2 ((rd_T36 l1 x13_1).f2).length c345_2) := (blk_cell BK346.out 2).trans rfl
                      have hcz30_3 : wr.cell? ⟨gb346, 3, none⟩ = some (.slice A345_3 ((rd_T36 l1 x13_1).f3).length c345_3) := (blk_cell BK346.out 3).trans rfl
                      have hfz30_0 := blk_frozen BK346.out 0
                      have hfz30_1 := blk_frozen BK346.out 1
                      have hfz30_2 := blk_frozen BK346.out 2
                      have hfz30_3 := blk_frozen BK346.out 3
                      go_wp2_with (first | (go_at_call 49; (with_reducible refine (task_Uses.calls ((rd_T36 l1 x13_1).f0) ((rd_T36 l1 x13_1).f1) _ _ ((rd_T36 l1 x13_1).f2) _ _ ((rd_T36 l1 x13_1).f3) x20_2 false _ ?side1 ?side2 ?side3 ?side4 A13.out).mono ?_); (case side1 => repeat (first | exact (Kd.C_below HR345_2.out HB.out) | (with_reducible refine Kd.C_alloc ?_ _) | (with_reducible refine Kd.C_drewN ?_ _) | (with_reducible refine Kd.C_drew ?_))); (case side2 => exact HC345_2.out); (case side3 => repeat (first | exact (Kd.C_below HR345_3.out HB.out) | (with_reducible refine Kd.C_alloc ?_ _) | (with_reducible refine Kd.C_drewN ?_ _) | (with_reducible refine Kd.C_drew ?_))); (case side4 => exact HC345_3.out); rintro e w31 ⟨rfl, hb⟩; have n0_ := Aside0.mk (blk_below (g := gb344) (o := .cells #[.slice A0_0 l0_0.length c0_0, .slice A0_1 l0_1.length c0_1, .slice A0_2 l0_2.length c0_2, .int .i64 a0_3, .int .i64 a0_4, .int .i64 a0_5, .int .i64 a0_6, .int .i64 a0_7, .int .i64 a0_8] 26 (0, 0)) (by (with_reducible repeat (first | refine blk_drewN ?_ _ | refine blk_drew ?_ | refine blk_alloc ?_ _)); exact BK344.out) hb); have n1_ := Aside0.mk (blk_below (g := gb346) (o := .cells #[.int .i64 ((rd_T36 l1 x13_1).f0), .int .i64 ((rd_T36 l1 x13_1).f1), .slice A345_2 ((rd_T36 l1 x13_1).f2).length c345_2, .slice A345_3 ((rd_T36 l1 x13_1).f3).length c345_3] 36 (0, 0)) (by (with_reducible repeat (first | refine blk_drewN ?_ _ | refine blk_drew ?_ | refine blk_alloc ?_ _)); exact BK346.out) hb); have n2_ := Aside0.mk (below_step (by repeat (first | (with_reducible first | exact HB.out | apply below_alloc | apply pw_below_drewN | apply below_drew1 | refine below_set ?_ GE344.out | refine below_set ?_ GE346.out) | exact HB.out)) hb); clear BK344; clear BK346; clear HB; have BK344 := n0_; have BK346 := n1_; have HB := n2_; clear n0_ n1_ n2_; (try clear hb); (try clear hb2); (try clear hk); (try clear hi)))
                      go_roundg k2
                      case measure => have := HK1.out; have := HK2.out; omega
                      case rel => exact ⟨(x7_2), (wrap64 (x20_2 + 1)), (by first | rfl | (simp; done) | (simp [*]; done)), (by first | rfl | (simp; done) | (simp [*]; done)), H', ⟨by have := HK1.out; have := HK2.out; omega⟩, ⟨by (with_reducible repeat (first | refine blk_drewN ?_ _ | refine blk_drew ?_ | refine blk_alloc ?_ _)); exact BK344.out⟩, ⟨by (with_reducible repeat (first | refine blk_drewN ?_ _ | refine blk_drew ?_ | refine blk_alloc ?_ _)); exact BK346.out⟩, ⟨by repeat (first | (with_reducible first | exact HB.out | apply below_alloc | apply pw_below_drewN | apply below_drew1 | refine below_set ?_ GE344.out | refine below_set ?_ GE346.out) | exact HB.out)⟩⟩
                  · rw [if_neg c12] at H
                    have c12b0 : decide (a2 < ((rd_T36 l1 x13_1).f0)) = false := decide_eq_false c12
                    clear c12
                    have H' := Aside0.mk H
                    clear H
                    have hnb32 := NB346_344.out
                    have hnc32 := NB344_346.out
                    have hcz33_0 : wr.cell? ⟨gb346, 0, none⟩ = some (.int .i64 ((rd_T36 l1 x13_1).f0)) := (blk_cell BK346.out 0).trans rfl
                    have hcz33_1 : wr.cell? ⟨gb346, 1, none⟩ = some (.int .i64 ((rd_T36 l1 x13_1).f1)) := (blk_cell BK346.out 1).trans rfl
                    have hcz33_2 : wr.cell? ⟨gb346, 2, none⟩ = some (.slice A345_2 ((rd_T36 l1 x13_1).f2).length c345_2) := (blk_cell BK346.out 2).trans rfl
                    have hcz33_3 : wr.cell? ⟨gb346, 3, none⟩ = some (.slice A345_3 ((rd_T36 l1 x13_1).f3).length c345_3) := (blk_cell BK346.out 3).trans rfl
                    have hfz33_0 := blk_frozen BK346.out 0
                    have hfz33_1 := blk_frozen BK346.out 1
                    have hfz33_2 := blk_frozen BK346.out 2
                    have hfz33_3 := blk_frozen BK346.out 3
                    go_wp2
                    go_roundg k2
                    case measure => have := HK1.out; have := HK2.out; omega
                    case rel => exact ⟨(x7_2), (wrap64 (x20_2 + 1)), (by first | rfl | (simp; done) | (simp [*]; done)), (by first | rfl | (simp; done) | (simp [*]; done)), H', ⟨by have := HK1.out; have := HK2.out; omega⟩, ⟨by (with_reducible repeat (first | refine blk_drewN ?_ _ | refine blk_drew ?_ | refine blk_alloc ?_ _)); exact BK344.out⟩, ⟨by (with_reducible repeat (first | refine blk_drewN ?_ _ | refine blk_drew ?_ | refine blk_alloc ?_ _)); exact BK346.out⟩, ⟨by repeat (first | (with_reducible first | exact HB.out | apply below_alloc | apply pw_below_drewN | apply below_drew1 | refine below_set ?_ GE344.out | refine below_set ?_ GE346.out) | exact HB.out)⟩⟩
                · rw [if_neg c11] at H
                  have c11b0 : decide (x20_2 < (((rd_T36 l1 x13_1).f2).length : Int)) = false := decide_eq_false c11
                  clear c11
                  have H' := Aside0.mk H
                  clear H
                  go_wp2
                  go_roundg k2
                  case measure => have := HK1.out; have := HK2.out; omega
                  case rel => exact ⟨(x7_2), (wrap64 (x13_1 + 1)), (by first | rfl | (simp; done) | (simp [*]; done)), (by first | rfl | (simp; done) | (simp [*]; done)), H', ⟨by have := HK1.out; have := HK2.out; omega⟩, ⟨by (with_reducible repeat (first | refine blk_drewN ?_ _ | refine blk_drew ?_ | refine blk_alloc ?_ _)); exact BK344.out⟩, ⟨by repeat (first | (with_reducible first | exact HB.out | apply below_alloc | apply pw_below_drewN | apply below_drew1 | refine below_set ?_ GE344.out | refine below_set ?_ GE346.out) | exact HB.out)⟩⟩
          · rw [if_neg c7] at H
            exact absurd H (by simp)
        · rw [if_neg c6] at H
          exact absurd H (by simp)
      · rw [if_neg c5] at H
        have c5b0 : decide (x13_1 < (l1.length : Int)) = false := decide_eq_false c5
        clear c5
        obtain rfl := Option.some.inj H
        go_wp2
        go_ret
        exact ⟨by first | rfl | (simp [errW_none, errW_some] <;> rfl) | (simp [*, errW_none, errW_some] <;> rfl), by repeat (first | (with_reducible first | exact HB.out | apply below_alloc | apply pw_below_drewN | apply below_drew1 | refine below_set ?_ GE344.out) | exact HB.out)⟩
end Go.Proofs.Ytchlbnlhjllcbaa.F
namespace Go.Proofs.Ytchlbnlhjllcbaa.F
open Go.RowKit Go.Proofs.YtchlbnlhjllcbaaW.PrintWords Go.Proofs.YtchlbnlhjllcbaaW.PrintLast Go.Proofs.YtchlbnlhjllcbaaW.PrintMore
attribute [local go_sem] max2_int min2_int max_two min_two max_three min_three max_four min_four   -- for this text's walks alone
set_option linter.unusedVariables false
set_option linter.unusedSimpArgs false
def admit_Block.f (k : Nat) (l0_0 : List (S58)) (l0_1 : List (S68)) (l0_2 : List (S71)) (a0_3 : Int) (a0_4 : Int) (a0_5 : Int) (a0_6 : Int) (a0_7 : Int) (a0_8 : Int) (l1 : List (S36)) (a2 : Int) : Option (Int) := if 0 ≤ a0_4 then (if a0_4 < (l0_0.length : Int) then ((admit_longest.f k l0_0 l0_1 l0_2 a0_3 a0_4 a0_5 a0_6 a0_7 a0_8 l1 a2).bind fun t352 => (some (wrap64 ((wrap64 (t352 * ((rd_T58 l0_0 a0_4).f0))) + (mx ((rd_T58 l0_0 a0_4).f0) a0_5))))) else (none)) else (none)
def admit_Block.T2 : Bool × List (List Nat × List Nat) := (true, [([], []), ([], []), ([], []), ([0, 1, 2], [0, 1, 2]), ([], []), ([3, 4], [3, 4]), ([], []), ([], []), ([7], [7]), ([6, 8], [6, 8]), ([5, 9], [5, 9]), ([10, 3, 0, 1, 2, 3, 4, 5, 6, 7, 8, 9, 10], [10])])
def admit_Block.B2 : List Nat := [0, 0, 0, 7, 0, 31, 0, 0, 128, 448, 1023, 2047]
theorem admit_Block.tab2 : rtab .any (opsOf Try.f21 2) = admit_Block.T2 := by kernel_rfl
theorem admit_Block.bits2 : waitsOk admit_Block.T2.2 admit_Block.B2 = true := by kernel_rfl
set_option maxHeartbeats 8000000 in
set_option maxRecDepth 100000 in
theorem admit_Block.calls (k : Nat) (A0_0 : Option Addr) (c0_0 : Nat) (l0_0 : List (S58)) (A0_1 : Option Addr) (c0_1 : Nat) (l0_1 : List (S68)) (A0_2 : Option Addr) (c0_2 : Nat) (l0_2 : List (S71)) (a0_3 : Int) (a0_4 : Int) (a0_5 : Int) (a0_6 : Int) (a0_7 : Int) (a0_8 : Int) (A1 : Option Addr) (c1 : Nat) (l1 : List (S36)) (a2 : Int) (r : Int) (w : World) (hr0_0 : Kd.C k58 w A0_0 l0_0.length l0_0) (hc0_0 : l0_0.length ≤ c0_0) (hr0_1 : Kd.C k68 w A0_1 l0_1.length l0_1) (hc0_1 : l0_1.length ≤ c0_1) (hr0_2 : Kd.C k71 w A0_2 l0_2.length l0_2) (hc0_2 : l0_2.length ≤ c0_2) (hr1 : Kd.C k36 w A1 l1.length l1) (hc1 : l1.length ≤ c1) (h : admit_Block.f k l0_0 l0_1 l0_2 a0_3 a0_4 a0_5 a0_6 a0_7 a0_8 l1 a2 = some r) :
    Calls Try.prog 21 #[.agg #[.slice A0_0 l0_0.length c0_0, .slice A0_1 l0_1.length c0_1, .slice A0_2 l0_2.length c0_2, .int .i64 a0_3, .int .i64 a0_4, .int .i64 a0_5, .int .i64 a0_6, .int .i64 a0_7, .int .i64 a0_8], .slice A1 l1.length c1, .int .i64 a2] w fun e w' => e = .returned (.int .i64 r) ∧ Below w.heap.size w w' := by
  have hu26 := Try.underlying26
  have HR0_0 := Aside0.mk hr0_0
  have HC0_0 := Aside0.mk hc0_0
  clear hr0_0 hc0_0
  have HR0_1 := Aside0.mk hr0_1
  have HC0_1 := Aside0.mk hc0_1
  clear hr0_1 hc0_1
  have HR0_2 := Aside0.mk hr0_2
  have HC0_2 := Aside0.mk hc0_2
  clear hr0_2 hc0_2
  have HR1 := Aside0.mk hr1
  have HC1 := Aside0.mk hc1
  clear hr1 hc1
  have HB := Aside0.mk (Below.refl w.heap.size w)
  have H : (if 0 ≤ a0_4 then (if a0_4 < (l0_0.length : Int) then ((admit_longest.f k l0_0 l0_1 l0_2 a0_3 a0_4 a0_5 a0_6 a0_7 a0_8 l1 a2).bind fun t352 => (some (wrap64 ((wrap64 (t352 * ((rd_T58 l0_0 a0_4).f0))) + (mx ((rd_T58 l0_0 a0_4).f0) a0_5))))) else (none)) else (none)) = some r := h
  clear h
  by_cases c4 : 0 ≤ a0_4
  · rw [if_pos c4] at H
    have c4b0 : decide (0 ≤ a0_4) = true := decide_eq_true c4
    clear c4
    by_cases c5 : a0_4 < (l0_0.length : Int)
    · rw [if_pos c5] at H
      have c5b0 : decide (a0_4 < (l0_0.length : Int)) = true := decide_eq_true c5
      clear c5
      replace H := Option.bind_eq_some_iff.mp H
      obtain ⟨t352, A60, H⟩ := H
      replace H : (some (wrap64 ((wrap64 (t352 * ((rd_T58 l0_0 a0_4).f0))) + (mx ((rd_T58 l0_0 a0_4).f0) a0_5)))) = some r := H
      have A6 := Aside0.mk A60
      clear A60
      obtain ⟨ji7, hji7⟩ : ∃ j_ : Int, (mx ((rd_T58 l0_0 a0_4).f0) a0_5) = j_ := ⟨_, rfl⟩
      replace H : (some (wrap64 ((wrap64 (t352 * ((rd_T58 l0_0 a0_4).f0))) + (ji7)))) = some r := by first | (rw [hji7] at H; exact H) | (simp only [hji7] at H ⊢; exact H)
      (try rw [hji7] at A6)
      have hji7_ : (if ((rd_T58 l0_0 a0_4).f0) < a0_5 then a0_5 else ((rd_T58 l0_0 a0_4).f0)) = ji7 := hji7
      obtain rfl := Option.some.inj H
      go_enter Try.func21, Try.ntmps21
      try go_wp2_with (first | ((with_reducible refine gate_dst (N := 3) rfl ?_); refine box_event ?hg (N := 3) ?hd (cs := #[.slice A0_0 l0_0.length c0_0, .slice A0_1 l0_1.length c0_1, .slice A0_2 l0_2.length c0_2, .int .i64 a0_3, .int .i64 a0_4, .int .i64 a0_5, .int .i64 a0_6, .int .i64 a0_7, .int .i64 a0_8]) (t := 26) ?hr ?_; (case hd => rfl); (case hg => rfl); (case hr => first | (go_simp; done) | (go_simp; rfl)); intro gb350 hg w8 hbox hb; have n0_ := Aside0.mk (below_step (by repeat (first | (with_reducible first | exact HB.out | apply below_alloc | apply pw_below_drewN | apply below_drew1) | exact HB.out)) hb); have n1_ := Aside0.mk (hbox); have n2_ := Aside0.mk ((by rw [hg]; exact (below_size (by repeat (first | (with_reducible first | exact HB.out | apply below_alloc | apply pw_below_drewN | apply below_drew1) | exact HB.out))) : w.heap.size ≤ gb350)); have n3_ := Aside0.mk ((by rw [hg]; exact (below_size (by repeat (first | (with_reducible first | exact HB.out | apply below_alloc | apply pw_below_drewN | apply below_drew1) | exact HB.out))) : w.heap.size ≤ gb350)); clear HB; have HB := n0_; have BK350 := n1_; have GW350 := n2_; have GE350 := n3_; clear n0_ n1_ n2_ n3_; clear hb hbox hg; have hcz9_0 : w8.cell? ⟨gb350, 0, none⟩ = some (.slice A0_0 l0_0.length c0_0) := (blk_cell BK350.out 0).trans rfl; have hcz9_1 : w8.cell? ⟨gb350, 1, none⟩ = some (.slice A0_1 l0_1.length c0_1) := (blk_cell BK350.out 1).trans rfl; have hcz9_2 : w8.cell? ⟨gb350, 2, none⟩ = some (.slice A0_2 l0_2.length c0_2) := (blk_cell BK350.out 2).trans rfl; have hcz9_3 : w8.cell? ⟨gb350, 3, none⟩ = some (.int .i64 a0_3) := (blk_cell BK350.out 3).trans rfl; have hcz9_4 : w8.cell? ⟨gb350, 4, none⟩ = some (.int .i64 a0_4) := (blk_cell BK350.out 4).trans rfl; have hcz9_5 : w8.cell? ⟨gb350, 5, none⟩ = some (.int .i64 a0_5) := (blk_cell BK350.out 5).trans rfl; have hcz9_6 : w8.cell? ⟨gb350, 6, none⟩ = some (.int .i64 a0_6) := (blk_cell BK350.out 6).trans rfl; have hcz9_7 : w8.cell? ⟨gb350, 7, none⟩ = some (.int .i64 a0_7) := (blk_cell BK350.out 7).trans rfl; have hcz9_8 : w8.cell? ⟨gb350, 8, none⟩ = some (.int .i64 a0_8) := (blk_cell BK350.out 8).trans rfl; have hfz9_0 := blk_frozen BK350.out 0; have hfz9_1 := blk_frozen BK350.out 1; have hfz9_2 := blk_frozen BK350.out 2; have hfz9_3 := blk_frozen BK350.out 3; have hfz9_4 := blk_frozen BK350.out 4; have hfz9_5 := blk_frozen BK350.out 5; have hfz9_6 := blk_frozen BK350.out 6; have hfz9_7 := blk_frozen BK350.out 7; have hfz9_8 := blk_frozen BK350.out 8; have p351 : 0 ≤ (a0_4 : Int) := of_decide_eq_true (by first | (with_reducible assumption) | assumption); have q351 : a0_4 < (l0_0.length : Int) := of_decide_eq_true (by first | (with_reducible assumption) | assumption); obtain ⟨ad351, e351, hx351_0, hx351_1⟩ := at_T58 HR0_0.out a0_4 p351 q351; cases e351; replace hx351_0 := (HB.out.cell (World.block_lt_of_cell? w _ hx351_0)).trans hx351_0; replace hx351_1 := (HB.out.cell (World.block_lt_of_cell? w _ hx351_1)).trans hx351_1; replace p351 := eq_true p351; replace q351 := eq_true q351))
      have n0_ := Aside0.mk (blk_drew BK350.out)
      have n1_ := Aside0.mk (below_drew1 HB.out)
      clear BK350
      clear HB
      have BK350 := n0_
      have HB := n1_
      clear n0_ n1_
      refine start_ (n := 12) (S := fun w' => w'.cell? ⟨gb350, 0, none⟩ = some (.slice (some ad351) l0_0.length c0_0) ∧ w'.cell? ⟨gb350, 1, none⟩ = some (.slice A0_1 l0_1.length c0_1) ∧ w'.cell? ⟨gb350, 2, none⟩ = some (.slice A0_2 l0_2.length c0_2) ∧ w'.cell? ⟨gb350, 3, none⟩ = some (.int .i64 a0_3) ∧ w'.cell? ⟨gb350, 4, none⟩ = some (.int .i64 a0_4) ∧ w'.cell? ⟨gb350, 5, none⟩ = some (.int .i64 a0_5) ∧ w'.cell? ⟨gb350, 6, none⟩ = some (.int .i64 a0_6) ∧ w'.cell? ⟨gb350, 7, none⟩ = some (.int .i64 a0_7) ∧ w'.cell? ⟨gb350, 8, none⟩ = some (.int .i64 a0_8)) (ds := []) #[false, false, false, false, false, false, false, false, false, false, false, false] (by kernel_rfl) rfl rfl ⟨(blk_cell BK350.out 0).trans rfl, (blk_cell BK350.out 1).trans rfl, (blk_cell BK350.out 2).trans rfl, (blk_cell BK350.out 3).trans rfl, (blk_cell BK350.out 4).trans rfl, (blk_cell BK350.out 5).trans rfl, (blk_cell BK350.out 6).trans rfl, (blk_cell BK350.out 7).trans rfl, (blk_cell BK350.out 8).trans rfl⟩ (fun hHeld => ?_); refine with_tabW admit_Block.tab2 admit_Block.bits2 (fun HT_ HW_ => ?_)
      generalize w8.drew = w10 at BK350 HB hHeld ⊢
      refine pure_ (i := 1) (N := some 16) (v := ?_) (a' := ?_) #[false, true, false, false, false, false, false, false, false, false, false, false] rfl rfl (any_of HT_.out (by kernel_rfl)) (fun _ _ _ h => h) (Or.inl ⟨by rfl, ?_⟩) ?_ ?_
      rotate_left
      · intro w'
        go_simp
        with_reducible rfl
      rotate_left
      · simp only [Act.put, List.setIfInBounds_toArray, List.set_cons_zero, List.set_cons_succ, i64_w, i32_w]
        rfl
      refine pure_ (i := 2) (N := some 17) (v := ?_) (a' := ?_) #[false, true, true, false, false, false, false, false, false, false, false, false] rfl rfl (any_of HT_.out (by kernel_rfl)) (fun _ _ _ h => h) (Or.inl ⟨by rfl, ?_⟩) ?_ ?_
      rotate_left
      · intro w'
        go_simp
        with_reducible rfl
      rotate_left
      · simp only [Act.put, List.setIfInBounds_toArray, List.set_cons_zero, List.set_cons_succ, i64_w, i32_w]
        rfl
      refine pure_ (i := 4) (N := some 19) (v := ?_) (a' := ?_) #[false, true, true, false, true, false, false, false, false, false, false, false] rfl rfl (any_of HT_.out (by kernel_rfl)) (fun _ _ _ h => h) (Or.inl ⟨by rfl, ?_⟩) ?_ ?_
      rotate_left
      · intro w'
        go_simp
        with_reducible rfl
      rotate_left
      · simp only [Act.put, List.setIfInBounds_toArray, List.set_cons_zero, List.set_cons_succ, i64_w, i32_w]
        rfl
      refine pure_ (i := 6) (N := some 21) (v := ?_) (a' := ?_) #[false, true, true, false, true, false, true, false, false, false, false, false] rfl rfl (any_of HT_.out (by kernel_rfl)) (fun _ _ _ h => h) (Or.inl ⟨by rfl, ?_⟩) ?_ ?_
      rotate_left
      · intro w'
        go_simp
        with_reducible rfl
      rotate_left
      · simp only [Act.put, List.setIfInBounds_toArray, List.set_cons_zero, List.set_cons_succ, i64_w, i32_w]
        rfl
      refine pure_ (i := 7) (N := some 22) (v := ?_) (a' := ?_) #[false, true, true, false, true, false, true, true, false, false, false, false] rfl rfl (any_of HT_.out (by kernel_rfl)) (fun _ _ _ h => h) (Or.inl ⟨by rfl, ?_⟩) ?_ ?_
      rotate_left
      · intro w'
        go_simp
        with_reducible rfl
      rotate_left
      · simp only [Act.put, List.setIfInBounds_toArray, List.set_cons_zero, List.set_cons_succ, i64_w, i32_w]
        rfl
      refine take_ (i := 0) (N := some 15) (v := ?_) (a' := ?_) #[true, true, true, false, true, false, true, true, false, false, false, false] rfl rfl (take_ofW HT_.out HW_.out (by kernel_rfl)) (fun _ _ _ h => h) (Or.inl ⟨by rfl, ?_⟩) hHeld ?_ ?_
      rotate_left
      · rintro w' ⟨s0, s1, s2, s3, s4, s5, s6, s7, s8⟩
        go_simp
        with_reducible rfl
      rotate_left
      · simp only [Act.put, List.setIfInBounds_toArray, List.set_cons_zero, List.set_cons_succ, i64_w, i32_w]
        rfl
      refine take_ (i := 8) (N := some 23) (v := ?_) (a' := ?_) #[true, true, true, false, true, false, true, true, true, false, false, false] rfl rfl (take_ofW HT_.out HW_.out (by kernel_rfl)) (fun _ _ _ h => h) (Or.inl ⟨by rfl, ?_⟩) hHeld ?_ ?_
      rotate_left
      · rintro w' ⟨s0, s1, s2, s3, s4, s5, s6, s7, s8⟩
        go_simp
        with_reducible rfl
      rotate_left
      · simp only [Act.put, List.setIfInBounds_toArray, List.set_cons_zero, List.set_cons_succ, i64_w, i32_w]
        rfl
      refine pure_ (i := 9) (N := some 24) (v := ?_) (a' := ?_) #[true, true, true, false, true, false, true, true, true, true, false, false] rfl rfl (any_of HT_.out (by kernel_rfl)) (fun _ _ _ h => h) (Or.inl ⟨by rfl, ?_⟩) ?_ ?_
      rotate_left
      · intro w'
        go_simp
        with_reducible rfl
      rotate_left
      · simp only [Act.put, List.setIfInBounds_toArray, List.set_cons_zero, List.set_cons_succ, i64_w, i32_w]
        rfl
      refine one_ (i := 3) (N := some 18) #[true, true, true, true, true, false, true, true, true, true, false, false] rfl rfl (one_of HT_.out (by kernel_rfl)) (by decide) (fun K hK => ?_)
      refine goes_ Try.func34 (by kernel_rfl) rfl #[.agg #[.slice (some ad351) l0_0.length c0_0, .slice A0_1 l0_1.length c0_1, .slice A0_2 l0_2.length c0_2, .int .i64 a0_3, .int .i64 a0_4, .int .i64 a0_5, .int .i64 a0_6, .int .i64 a0_7, .int .i64 a0_8], .slice A1 l1.length c1, .int .i64 a2] (by rfl) rfl rfl (by (try simp only [List.map_toArray, List.map_cons, List.map_nil]); first | done | rfl | (simp only [List.length_drop, List.length_take]; rfl)) ?_
      with_reducible refine (admit_longest.calls k _ _ l0_0 _ _ l0_1 _ _ l0_2 a0_3 a0_4 a0_5 a0_6 a0_7 a0_8 _ _ l1 a2 t352 _ ?side1 ?side2 ?side3 ?side4 ?side5 ?side6 ?side7 ?side8 A6.out).mono ?_
      (case side1 => repeat (first | exact (Kd.C_below HR0_0.out HB.out) | (with_reducible refine Kd.C_alloc ?_ _) | (with_reducible refine Kd.C_drewN ?_ _) | (with_reducible refine Kd.C_drew ?_)))
      (case side2 => exact HC0_0.out)
      (case side3 => repeat (first | exact (Kd.C_below HR0_1.out HB.out) | (with_reducible refine Kd.C_alloc ?_ _) | (with_reducible refine Kd.C_drewN ?_ _) | (with_reducible refine Kd.C_drew ?_)))
      (case side4 => exact HC0_1.out)
      (case side5 => repeat (first | exact (Kd.C_below HR0_2.out HB.out) | (with_reducible refine Kd.C_alloc ?_ _) | (with_reducible refine Kd.C_drewN ?_ _) | (with_reducible refine Kd.C_drew ?_)))
      (case side6 => exact HC0_2.out)
      (case side7 => repeat (first | exact (Kd.C_below HR1.out HB.out) | (with_reducible refine Kd.C_alloc ?_ _) | (with_reducible refine Kd.C_drewN ?_ _) | (with_reducible refine Kd.C_drew ?_)))
      (case side8 => exact HC1.out)
      rintro e w11 ⟨rfl, hb⟩
      refine ⟨_, rfl, ?_⟩
      have n0_ := Aside0.mk (blk_below (g := gb350) (o := .cells #[.slice (some ad351) l0_0.length c0_0, .slice A0_1 l0_1.length c0_1, .slice A0_2 l0_2.length c0_2, .int .i64 a0_3, .int .i64 a0_4, .int .i64 a0_5, .int .i64 a0_6, .int .i64 a0_7, .int .i64 a0_8] 26 (0, 0)) (by (with_reducible repeat (first | refine blk_drewN ?_ _ | refine blk_drew ?_ | refine blk_alloc ?_ _)); exact BK350.out) hb)
      have n1_ := Aside0.mk (below_step (by repeat (first | (with_reducible first | exact HB.out | apply below_alloc | apply pw_below_drewN | apply below_drew1 | refine below_set ?_ GE350.out) | exact HB.out)) hb)
      clear BK350
      clear HB
      have BK350 := n0_
      have HB := n1_
      clear n0_ n1_
      (try clear hb)
      (try clear hb2)
      (try clear hk)
      (try clear hi)
      refine hK.out _ _ ⟨(blk_cell BK350.out 0).trans rfl, (blk_cell BK350.out 1).trans rfl, (blk_cell BK350.out 2).trans rfl, (blk_cell BK350.out 3).trans rfl, (blk_cell BK350.out 4).trans rfl, (blk_cell BK350.out 5).trans rfl, (blk_cell BK350.out 6).trans rfl, (blk_cell BK350.out 7).trans rfl, (blk_cell BK350.out 8).trans rfl⟩ (fun hHeld => ?_)
      clear hK K
      refine norm_ (a' := ?_) ?_ ?_
      rotate_left
      · show Act.put _ (some 18) _ = _
        simp only [Act.put, List.setIfInBounds_toArray, List.set_cons_zero, List.set_cons_succ, i64_w, i32_w]
        rfl
      refine pure_ (i := 5) (N := some 20) (v := ?_) (a' := ?_) #[true, true, true, true, true, true, true, true, true, true, false, false] rfl rfl (any_of HT_.out (by kernel_rfl)) (fun _ _ _ h => h) (Or.inl ⟨by rfl, ?_⟩) ?_ ?_
      rotate_left
      · intro w'
        go_simp
        with_reducible rfl
      rotate_left
      · simp only [Act.put, List.setIfInBounds_toArray, List.set_cons_zero, List.set_cons_succ, i64_w, i32_w]
        rfl
      refine pure_ (i := 10) (N := some 25) (v := ?_) (a' := ?_) #[true, true, true, true, true, true, true, true, true, true, true, false] rfl rfl (any_of HT_.out (by kernel_rfl)) (fun _ _ _ h => h) (Or.inl ⟨by rfl, ?_⟩) ?_ ?_
      rotate_left
      · intro w'
        go_simp
        with_reducible rfl
      rotate_left
      · simp only [Act.put, List.setIfInBounds_toArray, List.set_cons_zero, List.set_cons_succ, i64_w, i32_w]
        rfl
      refine pure_ (i := 11) (N := some 6) (v := ?_) (a' := ?_) #[true, true, true, true, true, true, true, true, true, true, true, true] rfl rfl (any_of HT_.out (by kernel_rfl)) (fun _ _ _ h => h) (Or.inl ⟨by rfl, ?_⟩) ?_ ?_
      rotate_left
      · intro w'
        go_simp
        with_reducible rfl
      rotate_left
      · simp only [Act.put, List.setIfInBounds_toArray, List.set_cons_zero, List.set_cons_succ, i64_w, i32_w]
        rfl
      refine done_ (done_of HT_.out (by kernel_rfl)) ?_
      try go_wp2
      go_ret
      exact ⟨by first | rfl | (simp [errW_none, errW_some] <;> rfl) | (simp only [← hji7]; first | rfl | (simp [errW_none, errW_some] <;> rfl)) | (simp [*, errW_none, errW_some] <;> rfl), by repeat (first | (with_reducible first | exact HB.out | apply below_alloc | apply pw_below_drewN | apply below_drew1 | refine below_set ?_ GE350.out) | exact HB.out)⟩
    · rw [if_neg c5] at H
      exact absurd H (by simp)
  · rw [if_neg c4] at H
    exact absurd H (by simp)
end Go.Proofs.Ytchlbnlhjllcbaa.F
namespace Go.Proofs.Ytchlbnlhjllcbaa.F
open Go.RowKit Go.Proofs.YtchlbnlhjllcbaaW.PrintWords Go.Proofs.YtchlbnlhjllcbaaW.PrintLast Go.Proofs.YtchlbnlhjllcbaaW.PrintMore
attribute [local go_sem] max2_int min2_int max_two min_two max_three min_three max_four min_four   -- for this text's walks alone
set_option linter.unusedVariables false
set_option linter.unusedSimpArgs false
def admit_Reserve.l0 : Nat → List (S36) → Int → List (S36) → Int → Int → List (S58) → List (S68) → List (S71) → Int → Int → Int → Int → Int → Int → Option (Int)
  | 0, _, _, _, _, _, _, _, _, _, _, _, _, _, _ => none
  | k + 1, x1, x5, x8, x9, x10, x354000, x354001, x354002, x354003, x354004, x354005, x354006, x354007, x354008 => if x10 < x9 then (if 0 ≤ x10 then (if x10 < (x8.length : Int) then ((admit_Block.f k x354000 x354001 x354002 x354003 x354004 x354005 x354006 x354007 x354008 x1 ((rd_T36 x8 x10).f0)).bind fun t356 => ((fix_Util.f t356 ((rd_T36 x8 x10).f0)).bind fun t357 => (admit_Reserve.l0 k x1 (mx x5 t357) x8 x9 (wrap64 (x10 + 1)) x354000 x354001 x354002 x354003 x354004 x354005 x354006 x354007 x354008))) else (none)) else (none)) else (some x5)
def admit_Reserve.f (k : Nat) (l0_0 : List (S58)) (l0_1 : List (S68)) (l0_2 : List (S71)) (a0_3 : Int) (a0_4 : Int) (a0_5 : Int) (a0_6 : Int) (a0_7 : Int) (a0_8 : Int) (l1 : List (S36)) : Option (Int) := admit_Reserve.l0 k l1 0 l1 (l1.length : Int) 0 l0_0 l0_1 l0_2 a0_3 a0_4 a0_5 a0_6 a0_7 a0_8
def admit_Reserve.T5 : Bool × List (List Nat × List Nat) := (true, [([], []), ([], []), ([], []), ([], []), ([3], [3]), ([1, 2, 4], [1, 2, 4]), ([], []), ([6], [6]), ([5, 7, 5], [5, 7]), ([0, 8], [0, 8]), ([9, 8, 0, 1, 2, 3, 4, 5, 6, 7, 8, 9], [0, 9])])
def admit_Reserve.B5 : List Nat := [0, 0, 0, 0, 8, 30, 0, 64, 254, 511, 1023]
theorem admit_Reserve.tab5 : rtab .any (opsOf Try.f48 5) = admit_Reserve.T5 := by kernel_rfl
theorem admit_Reserve.bits5 : waitsOk admit_Reserve.T5.2 admit_Reserve.B5 = true := by kernel_rfl
set_option maxHeartbeats 8000000 in
set_option maxRecDepth 100000 in
theorem admit_Reserve.calls (k : Nat) (A0_0 : Option Addr) (c0_0 : Nat) (l0_0 : List (S58)) (A0_1 : Option Addr) (c0_1 : Nat) (l0_1 : List (S68)) (A0_2 : Option Addr) (c0_2 : Nat) (l0_2 : List (S71)) (a0_3 : Int) (a0_4 : Int) (a0_5 : Int) (a0_6 : Int) (a0_7 : Int) (a0_8 : Int) (A1 : Option Addr) (c1 : Nat) (l1 : List (S36)) (r : Int) (w : World) (hr0_0 : Kd.C k58 w A0_0 l0_0.length l0_0) (hc0_0 : l0_0.length ≤ c0_0) (hr0_1 : Kd.C k68 w A0_1 l0_1.length l0_1) (hc0_1 : l0_1.length ≤ c0_1) (hr0_2 : Kd.C k71 w A0_2 l0_2.length l0_2) (hc0_2 : l0_2.length ≤ c0_2) (hr1 : Kd.C k36 w A1 l1.length l1) (hc1 : l1.length ≤ c1) (h : admit_Reserve.f k l0_0 l0_1 l0_2 a0_3 a0_4 a0_5 a0_6 a0_7 a0_8 l1 = some r) :
    Calls Try.prog 48 #[.agg #[.slice A0_0 l0_0.length c0_0, .slice A0_1 l0_1.length c0_1, .slice A0_2 l0_2.length c0_2, .int .i64 a0_3, .int .i64 a0_4, .int .i64 a0_5, .int .i64 a0_6, .int .i64 a0_7, .int .i64 a0_8], .slice A1 l1.length c1] w fun e w' => e = .returned (.int .i64 r) ∧ Below w.heap.size w w' := by
  have hu26 := Try.underlying26
  have hu36 := Try.underlying36
  have HR0_0 := Aside0.mk hr0_0
  have HC0_0 := Aside0.mk hc0_0
  clear hr0_0 hc0_0
  have HR0_1 := Aside0.mk hr0_1
  have HC0_1 := Aside0.mk hc0_1
  clear hr0_1 hc0_1
  have HR0_2 := Aside0.mk hr0_2
  have HC0_2 := Aside0.mk hc0_2
  clear hr0_2 hc0_2
  have HR1 := Aside0.mk hr1
  have HC1 := Aside0.mk hc1
  clear hr1 hc1
  have HB := Aside0.mk (Below.refl w.heap.size w)
  have H : (admit_Reserve.l0 k l1 0 l1 (l1.length : Int) 0 l0_0 l0_1 l0_2 a0_3 a0_4 a0_5 a0_6 a0_7 a0_8) = some r := h
  clear h
  have H' := Aside0.mk H
  clear H
  go_enter Try.func48, Try.ntmps48
  go_wp2_with (first | ((with_reducible refine gate_dst (N := 2) rfl ?_); refine box_event ?hg (N := 2) ?hd (cs := #[.slice A0_0 l0_0.length c0_0, .slice A0_1 l0_1.length c0_1, .slice A0_2 l0_2.length c0_2, .int .i64 a0_3, .int .i64 a0_4, .int .i64 a0_5, .int .i64 a0_6, .int .i64 a0_7, .int .i64 a0_8]) (t := 26) ?hr ?_; (case hd => rfl); (case hg => rfl); (case hr => first | (go_simp; done) | (go_simp; rfl)); intro gb353 hg w3 hbox hb; have n0_ := Aside0.mk (below_step (by repeat (first | (with_reducible first | exact HB.out | apply below_alloc | apply pw_below_drewN | apply below_drew1) | exact HB.out)) hb); have n1_ := Aside0.mk (hbox); have n2_ := Aside0.mk ((by rw [hg]; exact (below_size (by repeat (first | (with_reducible first | exact HB.out | apply below_alloc | apply pw_below_drewN | apply below_drew1) | exact HB.out))) : w.heap.size ≤ gb353)); have n3_ := Aside0.mk ((by rw [hg]; exact (below_size (by repeat (first | (with_reducible first | exact HB.out | apply below_alloc | apply pw_below_drewN | apply below_drew1) | exact HB.out))) : w.heap.size ≤ gb353)); clear HB; have HB := n0_; have BK353 := n1_; have GW353 := n2_; have GE353 := n3_; clear n0_ n1_ n2_ n3_; clear hb hbox hg))
  go_loopg [5, 10] k (fun kq v5 v10 w' => ∃ (x5_1 : Int) (x10_1 : Int), v5 = .int .i64 x5_1 ∧ v10 = .int .i64 x10_1 ∧ Aside0 (admit_Reserve.l0 kq l1 x5_1 l1 (l1.length : Int) x10_1 l0_0 l0_1 l0_2 a0_3 a0_4 a0_5 a0_6 a0_7 a0_8 = some r) ∧ Aside0 (kq ≤ k) ∧ Aside0 (w'.heap[gb353]? = some (.cells #[(.slice A0_0 l0_0.length c0_0), (.slice A0_1 l0_1.length c0_1), (.slice A0_2 l0_2.length c0_2), .int .i64 a0_3, .int .i64 a0_4, .int .i64 a0_5, .int .i64 a0_6, .int .i64 a0_7, .int .i64 a0_8] 26 (0, 0))) ∧ Aside0 (Below w.heap.size w w'))
  case atStart => exact ⟨(0), (0), (by first | rfl | (simp; done) | (simp [*]; done)), (by first | rfl | (simp; done) | (simp [*]; done)), H', ⟨Nat.le_refl _⟩, ⟨by (with_reducible repeat (first | refine blk_drewN ?_ _ | refine blk_drew ?_ | refine blk_alloc ?_ _)); exact BK353.out⟩, ⟨by repeat (first | (with_reducible first | exact HB.out | apply below_alloc | apply pw_below_drewN | apply below_drew1 | refine below_set ?_ GE353.out) | exact HB.out)⟩⟩
  case round =>
    clear H'
    try clear c1
    try clear p2
    obtain ⟨x5_1, x10_1, rfl, rfl, HA, HK1, BK353, HB⟩ := hrel
    cases gk with
    | zero => exact absurd HA.out (by simp [admit_Reserve.l0])
    | succ k1 =>
      have H := HA.out
      clear HA
      simp only [admit_Reserve.l0] at H
      by_cases c4 : x10_1 < (l1.length : Int)
      · rw [if_pos c4] at H
        have c4b0 : decide (x10_1 < (l1.length : Int)) = true := decide_eq_true c4
        clear c4
        by_cases c5 : 0 ≤ x10_1
        · rw [if_pos c5] at H
          have c5b0 : decide (0 ≤ x10_1) = true := decide_eq_true c5
          clear c5
          by_cases c6 : x10_1 < (l1.length : Int)
          · rw [if_pos c6] at H
            have c6b0 : decide (x10_1 < (l1.length : Int)) = true := decide_eq_true c6
            clear c6
            replace H := Option.bind_eq_some_iff.mp H
            obtain ⟨t356, A70, H⟩ := H
            replace H : ((fix_Util.f t356 ((rd_T36 l1 x10_1).f0)).bind fun t357 => (admit_Reserve.l0 k1 l1 (mx x5_1 t357) l1 (l1.length : Int) (wrap64 (x10_1 + 1)) l0_0 l0_1 l0_2 a0_3 a0_4 a0_5 a0_6 a0_7 a0_8)) = some r := H
            have A7 := Aside0.mk A70
            clear A70
            replace H := Option.bind_eq_some_iff.mp H
            obtain ⟨t357, A80, H⟩ := H
            replace H : (admit_Reserve.l0 k1 l1 (mx x5_1 t357) l1 (l1.length : Int) (wrap64 (x10_1 + 1)) l0_0 l0_1 l0_2 a0_3 a0_4 a0_5 a0_6 a0_7 a0_8) = some r := H
            have A8 := Aside0.mk A80
            clear A80
            obtain ⟨ji9, hji9⟩ : ∃ j_ : Int, (mx x5_1 t357) = j_ := ⟨_, rfl⟩
            replace H : (admit_Reserve.l0 k1 l1 ji9 l1 (l1.length : Int) (wrap64 (x10_1 + 1)) l0_0 l0_1 l0_2 a0_3 a0_4 a0_5 a0_6 a0_7 a0_8) = some r := by first | (rw [hji9] at H; exact H) | (simp only [hji9] at H ⊢; exact H)
            (try rw [hji9] at A7)
            (try rw [hji9] at A8)
            have hji9_ : (if x5_1 < t357 then t357 else x5_1) = ji9 := hji9
            have H' := Aside0.mk H
            clear H
            have p354 : 0 ≤ (x10_1 : Int) := of_decide_eq_true (by first | (with_reducible assumption) | assumption)
            have q354 : x10_1 < (l1.length : Int) := of_decide_eq_true (by first | (with_reducible assumption) | assumption)
            obtain ⟨ad354, A354_2, c354_2, A354_3, c354_3, e354, hx354_0, hx354_1, hx354_2, hx354_3, hl354_2, hi354_2, hl354_3, hi354_3⟩ := at_T36 HR1.out x10_1 p354 q354
            cases e354
            replace hx354_0 := (HB.out.cell (World.block_lt_of_cell? w _ hx354_0)).trans hx354_0
            replace hx354_1 := (HB.out.cell (World.block_lt_of_cell? w _ hx354_1)).trans hx354_1
            replace hx354_2 := (HB.out.cell (World.block_lt_of_cell? w _ hx354_2)).trans hx354_2
            replace hx354_3 := (HB.out.cell (World.block_lt_of_cell? w _ hx354_3)).trans hx354_3
            have HR354_2 := Aside0.mk hi354_2
            have HC354_2 := Aside0.mk hl354_2
            clear hi354_2 hl354_2
            have HR354_3 := Aside0.mk hi354_3
            have HC354_3 := Aside0.mk hl354_3
            clear hi354_3 hl354_3
            replace p354 := eq_true p354
            replace q354 := eq_true q354
            try go_wp2_with (first | ((with_reducible refine gate_dst (N := 7) rfl ?_); refine box_event ?hg (N := 7) ?hd (cs := #[.int .i64 0, .int .i64 0, .slice none 0 0, .slice none 0 0]) (t := 36) ?hr ?_; (case hd => rfl); (case hg => rfl); (case hr => first | (go_simp; done) | (go_simp; rfl)); intro gb355 hg w10 hbox hb; have n0_ := Aside0.mk (blk_below (g := gb353) (o := .cells #[.slice A0_0 l0_0.length c0_0, .slice A0_1 l0_1.length c0_1, .slice A0_2 l0_2.length c0_2, .int .i64 a0_3, .int .i64 a0_4, .int .i64 a0_5, .int .i64 a0_6, .int .i64 a0_7, .int .i64 a0_8] 26 (0, 0)) (by (with_reducible repeat (first | refine blk_drewN ?_ _ | refine blk_drew ?_ | refine blk_alloc ?_ _)); exact BK353.out) hb); have n1_ := Aside0.mk (below_step (by repeat (first | (with_reducible first | exact HB.out | apply below_alloc | apply pw_below_drewN | apply below_drew1 | refine below_set ?_ GE353.out) | exact HB.out)) hb); have n2_ := Aside0.mk (hbox); have n3_ := Aside0.mk ((by rw [hg]; exact (below_size (by repeat (first | (with_reducible first | exact HB.out | apply below_alloc | apply pw_below_drewN | apply below_drew1 | refine below_set ?_ GE353.out) | exact HB.out))) : w.heap.size ≤ gb355)); have n4_ := Aside0.mk ((by rw [hg]; exact (below_size (by repeat (first | (with_reducible first | exact HB.out | apply below_alloc | apply pw_below_drewN | apply below_drew1 | refine below_set ?_ GE353.out) | exact HB.out))) : w.heap.size ≤ gb355)); have n5_ := Aside0.mk ((by rw [hg]; exact Nat.ne_of_lt (blk_lt (g := gb353) (o := .cells #[.slice A0_0 l0_0.length c0_0, .slice A0_1 l0_1.length c0_1, .slice A0_2 l0_2.length c0_2, .int .i64 a0_3, .int .i64 a0_4, .int .i64 a0_5, .int .i64 a0_6, .int .i64 a0_7, .int .i64 a0_8] 26 (0, 0)) (by (with_reducible repeat (first | refine blk_drewN ?_ _ | refine blk_drew ?_ | refine blk_alloc ?_ _)); exact BK353.out)) : gb353 ≠ gb355)); have n6_ := Aside0.mk ((by rw [hg]; exact Nat.ne_of_gt (blk_lt (g := gb353) (o := .cells #[.slice A0_0 l0_0.length c0_0, .slice A0_1 l0_1.length c0_1, .slice A0_2 l0_2.length c0_2, .int .i64 a0_3, .int .i64 a0_4, .int .i64 a0_5, .int .i64 a0_6, .int .i64 a0_7, .int .i64 a0_8] 26 (0, 0)) (by (with_reducible repeat (first | refine blk_drewN ?_ _ | refine blk_drew ?_ | refine blk_alloc ?_ _)); exact BK353.out)) : gb355 ≠ gb353)); clear BK353; clear HB; have BK353 := n0_; have HB := n1_; have BK355 := n2_; have GW355 := n3_; have GE355 := n4_; have NB353_355 := n5_; have NB355_353 := n6_; clear n0_ n1_ n2_ n3_ n4_ n5_ n6_; clear hb hbox hg; have hnb11 := NB355_353.out; have hnc11 := NB353_355.out; have hcz12_0 : w10.cell? ⟨gb355, 0, none⟩ = some (.int .i64 0) := (blk_cell BK355.out 0).trans rfl; have hcz12_1 : w10.cell? ⟨gb355, 1, none⟩ = some (.int .i64 0) := (blk_cell BK355.out 1).trans rfl; have hcz12_2 : w10.cell? ⟨gb355, 2, none⟩ = some (.slice none 0 0) := (blk_cell BK355.out 2).trans rfl; have hcz12_3 : w10.cell? ⟨gb355, 3, none⟩ = some (.slice none 0 0) := (blk_cell BK355.out 3).trans rfl; have hfz12_0 := blk_frozen BK355.out 0; have hfz12_1 := blk_frozen BK355.out 1; have hfz12_2 := blk_frozen BK355.out 2; have hfz12_3 := blk_frozen BK355.out 3))
            have n0_ : Aside0 (((((w10.setCell ⟨gb355, 0, none⟩ (.int .i64 ((rd_T36 l1 x10_1).f0))).setCell ⟨gb355, 1, none⟩ (.int .i64 ((rd_T36 l1 x10_1).f1))).setCell ⟨gb355, 2, none⟩ (.slice A354_2 ((rd_T36 l1 x10_1).f2).length c354_2)).setCell ⟨gb355, 3, none⟩ (.slice A354_3 ((rd_T36 l1 x10_1).f3).length c354_3)).heap[gb353]? = some (.cells #[.slice A0_0 l0_0.length c0_0, .slice A0_1 l0_1.length c0_1, .slice A0_2 l0_2.length c0_2, .int .i64 a0_3, .int .i64 a0_4, .int .i64 a0_5, .int .i64 a0_6, .int .i64 a0_7, .int .i64 a0_8] 26 (0, 0))) := ⟨by (with_reducible repeat (first | refine blk_drewN ?_ _ | refine blk_drew ?_ | refine blk_alloc ?_ _)); refine blk_far ?_ NB353_355.out _; (with_reducible repeat (first | refine blk_drewN ?_ _ | refine blk_drew ?_ | refine blk_alloc ?_ _)); refine blk_far ?_ NB353_355.out _; (with_reducible repeat (first | refine blk_drewN ?_ _ | refine blk_drew ?_ | refine blk_alloc ?_ _)); refine blk_far ?_ NB353_355.out _; (with_reducible repeat (first | refine blk_drewN ?_ _ | refine blk_drew ?_ | refine blk_alloc ?_ _)); refine blk_far ?_ NB353_355.out _; (with_reducible repeat (first | refine blk_drewN ?_ _ | refine blk_drew ?_ | refine blk_alloc ?_ _)); exact BK353.out⟩
            have n1_ : Aside0 (((((w10.setCell ⟨gb355, 0, none⟩ (.int .i64 ((rd_T36 l1 x10_1).f0))).setCell ⟨gb355, 1, none⟩ (.int .i64 ((rd_T36 l1 x10_1).f1))).setCell ⟨gb355, 2, none⟩ (.slice A354_2 ((rd_T36 l1 x10_1).f2).length c354_2)).setCell ⟨gb355, 3, none⟩ (.slice A354_3 ((rd_T36 l1 x10_1).f3).length c354_3)).heap[gb355]? = some (.cells #[.int .i64 ((rd_T36 l1 x10_1).f0), .int .i64 ((rd_T36 l1 x10_1).f1), .slice A354_2 ((rd_T36 l1 x10_1).f2).length c354_2, .slice A354_3 ((rd_T36 l1 x10_1).f3).length c354_3] 36 (0, 0))) := ⟨by (with_reducible repeat (first | refine blk_drewN ?_ _ | refine blk_drew ?_ | refine blk_alloc ?_ _)); refine blk_put (cs := #[.int .i64 ((rd_T36 l1 x10_1).f0), .int .i64 ((rd_T36 l1 x10_1).f1), .slice A354_2 ((rd_T36 l1 x10_1).f2).length c354_2, .slice none 0 0]) ?_ 3 _ rfl; (with_reducible repeat (first | refine blk_drewN ?_ _ | refine blk_drew ?_ | refine blk_alloc ?_ _)); refine blk_put (cs := #[.int .i64 ((rd_T36 l1 x10_1).f0), .int .i64 ((rd_T36 l1 x10_1).f1), .slice none 0 0, .slice none 0 0]) ?_ 2 _ rfl; (with_reducible repeat (first | refine blk_drewN ?_ _ | refine blk_drew ?_ | refine blk_alloc ?_ _)); refine blk_put (cs := #[.int .i64 ((rd_T36 l1 x10_1).f0), .int .i64 0, .slice none 0 0, .slice none 0 0]) ?_ 1 _ rfl; (with_reducible repeat (first | refine blk_drewN ?_ _ | refine blk_drew ?_ | refine blk_alloc ?_ _)); refine blk_put (cs := #[.int .i64 0, .int .i64 0, .slice none 0 0, .slice none 0 0]) ?_ 0 _ rfl; (with_reducible repeat (first | refine blk_drewN ?_ _ | refine blk_drew ?_ | refine blk_alloc ?_ _)); exact BK355.out⟩
            have n2_ : Aside0 (Below w.heap.size w ((((w10.setCell ⟨gb355, 0, none⟩ (.int .i64 ((rd_T36 l1 x10_1).f0))).setCell ⟨gb355, 1, none⟩ (.int .i64 ((rd_T36 l1 x10_1).f1))).setCell ⟨gb355, 2, none⟩ (.slice A354_2 ((rd_T36 l1 x10_1).f2).length c354_2)).setCell ⟨gb355, 3, none⟩ (.slice A354_3 ((rd_T36 l1 x10_1).f3).length c354_3))) := ⟨by repeat (first | (with_reducible first | exact HB.out | apply below_alloc | apply pw_below_drewN | apply below_drew1 | refine below_set ?_ GE353.out | refine below_set ?_ GE355.out) | exact HB.out)⟩
            (try clear BK353)
            (try clear BK355)
            (try clear HB)
            generalize ((((w10.setCell ⟨gb355, 0, none⟩ (.int .i64 ((rd_T36 l1 x10_1).f0))).setCell ⟨gb355, 1, none⟩ (.int .i64 ((rd_T36 l1 x10_1).f1))).setCell ⟨gb355, 2, none⟩ (.slice A354_2 ((rd_T36 l1 x10_1).f2).length c354_2)).setCell ⟨gb355, 3, none⟩ (.slice A354_3 ((rd_T36 l1 x10_1).f3).length c354_3)) = w13 at n0_ n1_ n2_ ⊢
            have BK353 := n0_
            have BK355 := n1_
            have HB := n2_
            clear n0_ n1_ n2_
            have n0_ := Aside0.mk (blk_drew BK353.out)
            have n1_ := Aside0.mk (blk_drew BK355.out)
            have n2_ := Aside0.mk (below_drew1 HB.out)
            clear BK353
            clear BK355
            clear HB
            have BK353 := n0_
            have BK355 := n1_
            have HB := n2_
            clear n0_ n1_ n2_
            refine start_ (n := 11) (S := fun w' => w'.cell? ⟨gb353, 0, none⟩ = some (.slice A0_0 l0_0.length c0_0) ∧ w'.cell? ⟨gb353, 1, none⟩ = some (.slice A0_1 l0_1.length c0_1) ∧ w'.cell? ⟨gb353, 2, none⟩ = some (.slice A0_2 l0_2.length c0_2) ∧ w'.cell? ⟨gb353, 3, none⟩ = some (.int .i64 a0_3) ∧ w'.cell? ⟨gb353, 4, none⟩ = some (.int .i64 a0_4) ∧ w'.cell? ⟨gb353, 5, none⟩ = some (.int .i64 a0_5) ∧ w'.cell? ⟨gb353, 6, none⟩ = some (.int .i64 a0_6) ∧ w'.cell? ⟨gb353, 7, none⟩ = some (.int .i64 a0_7) ∧ w'.cell? ⟨gb353, 8, none⟩ = some (.int .i64 a0_8) ∧ w'.cell? ⟨gb355, 0, none⟩ = some (.int .i64 ((rd_T36 l1 x10_1).f0)) ∧ w'.cell? ⟨gb355, 1, none⟩ = some (.int .i64 ((rd_T36 l1 x10_1).f1)) ∧ w'.cell? ⟨gb355, 2, none⟩ = some (.slice A354_2 ((rd_T36 l1 x10_1).f2).length c354_2) ∧ w'.cell? ⟨gb355, 3, none⟩ = some (.slice A354_3 ((rd_T36 l1 x10_1).f3).length c354_3)) (ds := []) #[false, false, false, false, false, false, false, false, false, false, false] (by kernel_rfl) rfl rfl ⟨(blk_cell BK353.out 0).trans rfl, (blk_cell BK353.out 1).trans rfl, (blk_cell BK353.out 2).trans rfl, (blk_cell BK353.out 3).trans rfl, (blk_cell BK353.out 4).trans rfl, (blk_cell BK353.out 5).trans rfl, (blk_cell BK353.out 6).trans rfl, (blk_cell BK353.out 7).trans rfl, (blk_cell BK353.out 8).trans rfl, (blk_cell BK355.out 0).trans rfl, (blk_cell BK355.out 1).trans rfl, (blk_cell BK355.out 2).trans rfl, (blk_cell BK355.out 3).trans rfl⟩ (fun hHeld => ?_); refine with_tabW admit_Reserve.tab5 admit_Reserve.bits5 (fun HT_ HW_ => ?_)
            generalize w13.drew = w14 at BK353 BK355 HB hHeld ⊢
            refine pure_ (i := 0) (N := some 14) (v := ?_) (a' := ?_) #[true, false, false, false, false, false, false, false, false, false, false] rfl rfl (any_of HT_.out (by kernel_rfl)) (fun _ _ _ h => h) (Or.inl ⟨by rfl, ?_⟩) ?_ ?_
            rotate_left
            · intro w'
              go_simp
              with_reducible rfl
            rotate_left
            · simp only [Act.put, List.setIfInBounds_toArray, List.set_cons_zero, List.set_cons_succ, i64_w, i32_w]
              rfl
            refine pure_ (i := 2) (N := some 16) (v := ?_) (a' := ?_) #[true, false, true, false, false, false, false, false, false, false, false] rfl rfl (any_of HT_.out (by kernel_rfl)) (fun _ _ _ h => h) (Or.inl ⟨by rfl, ?_⟩) ?_ ?_
            rotate_left
            · intro w'
              go_simp
              with_reducible rfl
            rotate_left
            · simp only [Act.put, List.setIfInBounds_toArray, List.set_cons_zero, List.set_cons_succ, i64_w, i32_w]
              rfl
            refine pure_ (i := 3) (N := some 17) (v := ?_) (a' := ?_) #[true, false, true, true, false, false, false, false, false, false, false] rfl rfl (any_of HT_.out (by kernel_rfl)) (fun _ _ _ h => h) (Or.inl ⟨by rfl, ?_⟩) ?_ ?_
            rotate_left
            · intro w'
              go_simp
              with_reducible rfl
            rotate_left
            · simp only [Act.put, List.setIfInBounds_toArray, List.set_cons_zero, List.set_cons_succ, i64_w, i32_w]
              rfl
            refine pure_ (i := 6) (N := some 20) (v := ?_) (a' := ?_) #[true, false, true, true, false, false, true, false, false, false, false] rfl rfl (any_of HT_.out (by kernel_rfl)) (fun _ _ _ h => h) (Or.inl ⟨by rfl, ?_⟩) ?_ ?_
            rotate_left
            · intro w'
              go_simp
              with_reducible rfl
            rotate_left
            · simp only [Act.put, List.setIfInBounds_toArray, List.set_cons_zero, List.set_cons_succ, i64_w, i32_w]
              rfl
            refine take_ (i := 1) (N := some 15) (v := ?_) (a' := ?_) #[true, true, true, true, false, false, true, false, false, false, false] rfl rfl (take_ofW HT_.out HW_.out (by kernel_rfl)) (fun _ _ _ h => h) (Or.inl ⟨by rfl, ?_⟩) hHeld ?_ ?_
            rotate_left
            · rintro w' ⟨s0, s1, s2, s3, s4, s5, s6, s7, s8, s9, s10, s11, s12⟩
              go_simp
              with_reducible rfl
            rotate_left
            · simp only [Act.put, List.setIfInBounds_toArray, List.set_cons_zero, List.set_cons_succ, i64_w, i32_w]
              rfl
            refine take_ (i := 4) (N := some 18) (v := ?_) (a' := ?_) #[true, true, true, true, true, false, true, false, false, false, false] rfl rfl (take_ofW HT_.out HW_.out (by kernel_rfl)) (fun _ _ _ h => h) (Or.inl ⟨by rfl, ?_⟩) hHeld ?_ ?_
            rotate_left
            · rintro w' ⟨s0, s1, s2, s3, s4, s5, s6, s7, s8, s9, s10, s11, s12⟩
              go_simp
              with_reducible rfl
            rotate_left
            · simp only [Act.put, List.setIfInBounds_toArray, List.set_cons_zero, List.set_cons_succ, i64_w, i32_w]
              rfl
            refine take_ (i := 7) (N := some 21) (v := ?_) (a' := ?_) #[true, true, true, true, true, false, true, true, false, false, false] rfl rfl (take_ofW HT_.out HW_.out (by kernel_rfl)) (fun _ _ _ h => h) (Or.inl ⟨by rfl, ?_⟩) hHeld ?_ ?_
            rotate_left
            · rintro w' ⟨s0, s1, s2, s3, s4, s5, s6, s7, s8, s9, s10, s11, s12⟩
              go_simp
              with_reducible rfl
            rotate_left
            · simp only [Act.put, List.setIfInBounds_toArray, List.set_cons_zero, List.set_cons_succ, i64_w, i32_w]
              rfl
            refine one_ (i := 5) (N := some 19) #[true, true, true, true, true, true, true, true, false, false, false] rfl rfl (one_of HT_.out (by kernel_rfl)) (by decide) (fun K hK => ?_)
            refine goes_ Try.func21 (by kernel_rfl) rfl #[.agg #[.slice A0_0 l0_0.length c0_0, .slice A0_1 l0_1.length c0_1, .slice A0_2 l0_2.length c0_2, .int .i64 a0_3, .int .i64 a0_4, .int .i64 a0_5, .int .i64 a0_6, .int .i64 a0_7, .int .i64 a0_8], .slice (some ad354) l1.length c1, .int .i64 ((rd_T36 l1 x10_1).f0)] (by rfl) rfl rfl (by (try simp only [List.map_toArray, List.map_cons, List.map_nil]); first | done | rfl | (simp only [List.length_drop, List.length_take]; rfl)) ?_
            with_reducible refine (admit_Block.calls k1 _ _ l0_0 _ _ l0_1 _ _ l0_2 a0_3 a0_4 a0_5 a0_6 a0_7 a0_8 _ _ l1 ((rd_T36 l1 x10_1).f0) t356 _ ?side1 ?side2 ?side3 ?side4 ?side5 ?side6 ?side7 ?side8 A7.out).mono ?_
            (case side1 => repeat (first | exact (Kd.C_below HR0_0.out HB.out) | (with_reducible refine Kd.C_alloc ?_ _) | (with_reducible refine Kd.C_drewN ?_ _) | (with_reducible refine Kd.C_drew ?_)))
            (case side2 => exact HC0_0.out)
            (case side3 => repeat (first | exact (Kd.C_below HR0_1.out HB.out) | (with_reducible refine Kd.C_alloc ?_ _) | (with_reducible refine Kd.C_drewN ?_ _) | (with_reducible refine Kd.C_drew ?_)))
            (case side4 => exact HC0_1.out)
            (case side5 => repeat (first | exact (Kd.C_below HR0_2.out HB.out) | (with_reducible refine Kd.C_alloc ?_ _) | (with_reducible refine Kd.C_drewN ?_ _) | (with_reducible refine Kd.C_drew ?_)))
            (case side6 => exact HC0_2.out)
            (case side7 => repeat (first | exact (Kd.C_below HR1.out HB.out) | (with_reducible refine Kd.C_alloc ?_ _) | (with_reducible refine Kd.C_drewN ?_ _) | (with_reducible refine Kd.C_drew ?_)))
            (case side8 => exact HC1.out)
            rintro e w15 ⟨rfl, hb⟩
            refine ⟨_, rfl, ?_⟩
            have n0_ := Aside0.mk (blk_below (g := gb353) (o := .cells #[.slice A0_0 l0_0.length c0_0, .slice A0_1 l0_1.length c0_1, .slice A0_2 l0_2.length c0_2, .int .i64 a0_3, .int .i64 a0_4, .int .i64 a0_5, .int .i64 a0_6, .int .i64 a0_7, .int .i64 a0_8] 26 (0, 0)) (by (with_reducible repeat (first | refine blk_drewN ?_ _ | refine blk_drew ?_ | refine blk_alloc ?_ _)); exact BK353.out) hb)
            have n1_ := Aside0.mk (blk_below (g := gb355) (o := .cells #[.int .i64 ((rd_T36 l1 x10_1).f0), .int .i64 ((rd_T36 l1 x10_1).f1), .slice A354_2 ((rd_T36 l1 x10_1).f2).length c354_2, .slice A354_3 ((rd_T36 l1 x10_1).f3).length c354_3] 36 (0, 0)) (by (with_reducible repeat (first | refine blk_drewN ?_ _ | refine blk_drew ?_ | refine blk_alloc ?_ _)); exact BK355.out) hb)
            have n2_ := Aside0.mk (below_step (by repeat (first | (with_reducible first | exact HB.out | apply below_alloc | apply pw_below_drewN | apply below_drew1 | refine below_set ?_ GE353.out | refine below_set ?_ GE355.out) | exact HB.out)) hb)
            clear BK353
            clear BK355
            clear HB
            have BK353 := n0_
            have BK355 := n1_
            have HB := n2_
            clear n0_ n1_ n2_
            (try clear hb)
            (try clear hb2)
            (try clear hk)
            (try clear hi)
            refine hK.out _ _ ⟨(blk_cell BK353.out 0).trans rfl, (blk_cell BK353.out 1).trans rfl, (blk_cell BK353.out 2).trans rfl, (blk_cell BK353.out 3).trans rfl, (blk_cell BK353.out 4).trans rfl, (blk_cell BK353.out 5).trans rfl, (blk_cell BK353.out 6).trans rfl, (blk_cell BK353.out 7).trans rfl, (blk_cell BK353.out 8).trans rfl, (blk_cell BK355.out 0).trans rfl, (blk_cell BK355.out 1).trans rfl, (blk_cell BK355.out 2).trans rfl, (blk_cell BK355.out 3).trans rfl⟩ (fun hHeld => ?_)
            clear hK K
            refine norm_ (a' := ?_) ?_ ?_
            rotate_left
            · show Act.put _ (some 19) _ = _
              simp only [Act.put, List.setIfInBounds_toArray, List.set_cons_zero, List.set_cons_succ, i64_w, i32_w]
              rfl
            refine one_ (i := 8) (N := some 22) #[true, true, true, true, true, true, true, true, true, false, false] rfl rfl (one_of HT_.out (by kernel_rfl)) (by decide) (fun K hK => ?_)
            refine goes_ Try.func58 (by kernel_rfl) rfl #[.int .i64 t356, .int .i64 ((rd_T36 l1 x10_1).f0)] (by rfl) rfl rfl (by (try simp only [List.map_toArray, List.map_cons, List.map_nil]); first | done | rfl | (simp only [List.length_drop, List.length_take]; rfl)) ?_
            with_reducible refine (fix_Util.calls t356 ((rd_T36 l1 x10_1).f0) t357 _ A8.out).mono ?_
            rintro e w16 ⟨rfl, hb⟩
            refine ⟨_, rfl, ?_⟩
            have n0_ := Aside0.mk (blk_below (g := gb353) (o := .cells #[.slice A0_0 l0_0.length c0_0, .slice A0_1 l0_1.length c0_1, .slice A0_2 l0_2.length c0_2, .int .i64 a0_3, .int .i64 a0_4, .int .i64 a0_5, .int .i64 a0_6, .int .i64 a0_7, .int .i64 a0_8] 26 (0, 0)) (by (with_reducible repeat (first | refine blk_drewN ?_ _ | refine blk_drew ?_ | refine blk_alloc ?_ _)); exact BK353.out) hb)
            have n1_ := Aside0.mk (blk_below (g := gb355) (o := .cells #[.int .i64 ((rd_T36 l1 x10_1).f0), .int .i64 ((rd_T36 l1 x10_1).f1), .slice A354_2 ((rd_T36 l1 x10_1).f2).length c354_2, .slice A354_3 ((rd_T36 l1 x10_1).f3).length c354_3] 36 (0, 0)) (by (with_reducible repeat (first | refine blk_drewN ?_ _ | refine blk_drew ?_ | refine blk_alloc ?_ _)); exact BK355.out) hb)
            have n2_ := Aside0.mk (below_step (by repeat (first | (with_reducible first | exact HB.out | apply below_alloc | apply pw_below_drewN | apply below_drew1 | refine below_set ?_ GE353.out | refine below_set ?_ GE355.out) | exact HB.out)) hb)
            clear BK353
            clear BK355
            clear HB
            have BK353 := n0_
            have BK355 := n1_
            have HB := n2_
            clear n0_ n1_ n2_
            (try clear hb)
            (try clear hb2)
            (try clear hk)
            (try clear hi)
            refine hK.out _ _ ⟨(blk_cell BK353.out 0).trans rfl, (blk_cell BK353.out 1).trans rfl, (blk_cell BK353.out 2).trans rfl, (blk_cell BK353.out 3).trans rfl, (blk_cell BK353.out 4).trans rfl, (blk_cell BK353.out 5).trans rfl, (blk_cell BK353.out 6).trans rfl, (blk_cell BK353.out 7).trans rfl, (blk_cell BK353.out 8).trans rfl, (blk_cell BK355.out 0).trans rfl, (blk_cell BK355.out 1).trans rfl, (blk_cell BK355.out 2).trans rfl, (blk_cell BK355.out 3).trans rfl⟩ (fun hHeld => ?_)
            clear hK K
            refine norm_ (a' := ?_) ?_ ?_
            rotate_left
            · show Act.put _ (some 22) _ = _
              simp only [Act.put, List.setIfInBounds_toArray, List.set_cons_zero, List.set_cons_succ, i64_w, i32_w]
              rfl
            refine pure_ (i := 9) (N := some 23) (v := ?_) (a' := ?_) #[true, true, true, true, true, true, true, true, true, true, false] rfl rfl (any_of HT_.out (by kernel_rfl)) (fun _ _ _ h => h) (Or.inl ⟨by rfl, ?_⟩) ?_ ?_
            rotate_left
            · intro w'
              go_simp
              with_reducible rfl
            rotate_left
            · simp only [Act.put, List.setIfInBounds_toArray, List.set_cons_zero, List.set_cons_succ, i64_w, i32_w]
              rfl
            refine pure_ (i := 10) (N := some 5) (v := ?_) (a' := ?_) #[true, true, true, true, true, true, true, true, true, true, true] rfl rfl (any_of HT_.out (by kernel_rfl)) (fun _ _ _ h => h) (Or.inl ⟨by rfl, ?_⟩) ?_ ?_
            rotate_left
            · intro w'
              go_simp
              with_reducible rfl
            rotate_left
            · simp only [Act.put, List.setIfInBounds_toArray, List.set_cons_zero, List.set_cons_succ, i64_w, i32_w]
              rfl
            refine done_ (done_of HT_.out (by kernel_rfl)) ?_
            try go_wp2
            go_roundg k1
            case measure => have := HK1.out; omega
            case rel => exact ⟨(ji9), (wrap64 (x10_1 + 1)), (by first | rfl | (simp; done) | (simp only [← hji9] <;> (first | rfl | simp)) | (simp [*]; done)), (by first | rfl | (simp; done) | (simp [*]; done)), H', ⟨by have := HK1.out; omega⟩, ⟨by (with_reducible repeat (first | refine blk_drewN ?_ _ | refine blk_drew ?_ | refine blk_alloc ?_ _)); exact BK353.out⟩, ⟨by repeat (first | (with_reducible first | exact HB.out | apply below_alloc | apply pw_below_drewN | apply below_drew1 | refine below_set ?_ GE353.out | refine below_set ?_ GE355.out) | exact HB.out)⟩⟩
          · rw [if_neg c6] at H
            exact absurd H (by simp)
        · rw [if_neg c5] at H
          exact absurd H (by simp)
      · rw [if_neg c4] at H
        have c4b0 : decide (x10_1 < (l1.length : Int)) = false := decide_eq_false c4
        clear c4
        obtain rfl := Option.some.inj H
        go_wp2
        go_ret
        exact ⟨by first | rfl | (simp [errW_none, errW_some] <;> rfl) | (simp [*, errW_none, errW_some] <;> rfl), by repeat (first | (with_reducible first | exact HB.out | apply below_alloc | apply pw_below_drewN | apply below_drew1 | refine below_set ?_ GE353.out) | exact HB.out)⟩
end Go.Proofs.Ytchlbnlhjllcbaa.F
namespace Go.Proofs.Ytchlbnlhjllcbaa.F
open Go.RowKit Go.Proofs.YtchlbnlhjllcbaaW.PrintWords Go.Proofs.YtchlbnlhjllcbaaW.PrintLast Go.Proofs.YtchlbnlhjllcbaaW.PrintMore
attribute [local go_sem] max2_int min2_int max_two min_two max_three min_three max_four min_four   -- for this text's walks alone
set_option linter.unusedVariables false
set_option linter.unusedSimpArgs false
def admit_Load.l0 : Nat → Int → Int → List (S36) → Int → Int → List (S58) → List (S68) → List (S71) → Int → Int → Int → Int → Int → Int → Option (Int)
  | 0, _, _, _, _, _, _, _, _, _, _, _, _, _, _ => none
  | k + 1, x2, x7, x13, x14, x15, x359000, x359001, x359002, x359003, x359004, x359005, x359006, x359007, x359008 => if x15 < x14 then (if 0 ≤ x15 then (if x15 < (x13.length : Int) then ((admit_Part.f x359000 x359001 x359002 x359003 x359004 x359005 x359006 x359007 x359008 ((rd_T36 x13 x15).f0) ((rd_T36 x13 x15).f1) ((rd_T36 x13 x15).f2) ((rd_T36 x13 x15).f3) x2).bind fun t362 => (admit_Load.l0 k x2 (wrap64 (x7 + t362)) x13 x14 (wrap64 (x15 + 1)) x359000 x359001 x359002 x359003 x359004 x359005 x359006 x359007 x359008)) else (none)) else (none)) else (some x7)
def admit_Load.f (k : Nat) (l0_0 : List (S58)) (l0_1 : List (S68)) (l0_2 : List (S71)) (a0_3 : Int) (a0_4 : Int) (a0_5 : Int) (a0_6 : Int) (a0_7 : Int) (a0_8 : Int) (l1 : List (S36)) (a2 : Int) : Option (Int) := (admit_Reserve.f k l0_0 l0_1 l0_2 a0_3 a0_4 a0_5 a0_6 a0_7 a0_8 l1).bind fun t359 => (admit_Load.l0 k a2 t359 l1 (l1.length : Int) 0 l0_0 l0_1 l0_2 a0_3 a0_4 a0_5 a0_6 a0_7 a0_8)
set_option maxHeartbeats 8000000 in
set_option maxRecDepth 100000 in
theorem admit_Load.calls (k : Nat) (A0_0 : Option Addr) (c0_0 : Nat) (l0_0 : List (S58)) (A0_1 : Option Addr) (c0_1 : Nat) (l0_1 : List (S68)) (A0_2 : Option Addr) (c0_2 : Nat) (l0_2 : List (S71)) (a0_3 : Int) (a0_4 : Int) (a0_5 : Int) (a0_6 : Int) (a0_7 : Int) (a0_8 : Int) (A1 : Option Addr) (c1 : Nat) (l1 : List (S36)) (a2 : Int) (r : Int) (w : World) (hr0_0 : Kd.C k58 w A0_0 l0_0.length l0_0) (hc0_0 : l0_0.length ≤ c0_0) (hr0_1 : Kd.C k68 w A0_1 l0_1.length l0_1) (hc0_1 : l0_1.length ≤ c0_1) (hr0_2 : Kd.C k71 w A0_2 l0_2.length l0_2) (hc0_2 : l0_2.length ≤ c0_2) (hr1 : Kd.C k36 w A1 l1.length l1) (hc1 : l1.length ≤ c1) (h : admit_Load.f k l0_0 l0_1 l0_2 a0_3 a0_4 a0_5 a0_6 a0_7 a0_8 l1 a2 = some r) :
    Calls Try.prog 33 #[.agg #[.slice A0_0 l0_0.length c0_0, .slice A0_1 l0_1.length c0_1, .slice A0_2 l0_2.length c0_2, .int .i64 a0_3, .int .i64 a0_4, .int .i64 a0_5, .int .i64 a0_6, .int .i64 a0_7, .int .i64 a0_8], .slice A1 l1.length c1, .int .i64 a2] w fun e w' => e = .returned (.int .i64 r) ∧ Below w.heap.size w w' := by
  have hu26 := Try.underlying26
  have hu36 := Try.underlying36
  have HR0_0 := Aside0.mk hr0_0
  have HC0_0 := Aside0.mk hc0_0
  clear hr0_0 hc0_0
  have HR0_1 := Aside0.mk hr0_1
  have HC0_1 := Aside0.mk hc0_1
  clear hr0_1 hc0_1
  have HR0_2 := Aside0.mk hr0_2
  have HC0_2 := Aside0.mk hc0_2
  clear hr0_2 hc0_2
  have HR1 := Aside0.mk hr1
  have HC1 := Aside0.mk hc1
  clear hr1 hc1
  have HB := Aside0.mk (Below.refl w.heap.size w)
  have H : ((admit_Reserve.f k l0_0 l0_1 l0_2 a0_3 a0_4 a0_5 a0_6 a0_7 a0_8 l1).bind fun t359 => (admit_Load.l0 k a2 t359 l1 (l1.length : Int) 0 l0_0 l0_1 l0_2 a0_3 a0_4 a0_5 a0_6 a0_7 a0_8)) = some r := h
  clear h
  replace H := Option.bind_eq_some_iff.mp H
  obtain ⟨t359, A40, H⟩ := H
  replace H : (admit_Load.l0 k a2 t359 l1 (l1.length : Int) 0 l0_0 l0_1 l0_2 a0_3 a0_4 a0_5 a0_6 a0_7 a0_8) = some r := H
  have A4 := Aside0.mk A40
  clear A40
  have H' := Aside0.mk H
  clear H
  go_enter Try.func33, Try.ntmps33
  go_wp2_with (first | ((with_reducible refine gate_dst (N := 3) rfl ?_); refine box_event ?hg (N := 3) ?hd (cs := #[.slice A0_0 l0_0.length c0_0, .slice A0_1 l0_1.length c0_1, .slice A0_2 l0_2.length c0_2, .int .i64 a0_3, .int .i64 a0_4, .int .i64 a0_5, .int .i64 a0_6, .int .i64 a0_7, .int .i64 a0_8]) (t := 26) ?hr ?_; (case hd => rfl); (case hg => rfl); (case hr => first | (go_simp; done) | (go_simp; rfl)); intro gb358 hg w5 hbox hb; have n0_ := Aside0.mk (below_step (by repeat (first | (with_reducible first | exact HB.out | apply below_alloc | apply pw_below_drewN | apply below_drew1) | exact HB.out)) hb); have n1_ := Aside0.mk (hbox); have n2_ := Aside0.mk ((by rw [hg]; exact (below_size (by repeat (first | (with_reducible first | exact HB.out | apply below_alloc | apply pw_below_drewN | apply below_drew1) | exact HB.out))) : w.heap.size ≤ gb358)); have n3_ := Aside0.mk ((by rw [hg]; exact (below_size (by repeat (first | (with_reducible first | exact HB.out | apply below_alloc | apply pw_below_drewN | apply below_drew1) | exact HB.out))) : w.heap.size ≤ gb358)); clear HB; have HB := n0_; have BK358 := n1_; have GW358 := n2_; have GE358 := n3_; clear n0_ n1_ n2_ n3_; clear hb hbox hg; have hcz6_0 : w5.cell? ⟨gb358, 0, none⟩ = some (.slice A0_0 l0_0.length c0_0) := (blk_cell BK358.out 0).trans rfl; have hcz6_1 : w5.cell? ⟨gb358, 1, none⟩ = some (.slice A0_1 l0_1.length c0_1) := (blk_cell BK358.out 1).trans rfl; have hcz6_2 : w5.cell? ⟨gb358, 2, none⟩ = some (.slice A0_2 l0_2.length c0_2) := (blk_cell BK358.out 2).trans rfl; have hcz6_3 : w5.cell? ⟨gb358, 3, none⟩ = some (.int .i64 a0_3) := (blk_cell BK358.out 3).trans rfl; have hcz6_4 : w5.cell? ⟨gb358, 4, none⟩ = some (.int .i64 a0_4) := (blk_cell BK358.out 4).trans rfl; have hcz6_5 : w5.cell? ⟨gb358, 5, none⟩ = some (.int .i64 a0_5) := (blk_cell BK358.out 5).trans rfl; have hcz6_6 : w5.cell? ⟨gb358, 6, none⟩ = some (.int .i64 a0_6) := (blk_cell BK358.out 6).trans rfl; have hcz6_7 : w5.cell? ⟨gb358, 7, none⟩ = some (.int .i64 a0_7) := (blk_cell BK358.out 7).trans rfl; have hcz6_8 : w5.cell? ⟨gb358, 8, none⟩ = some (.int .i64 a0_8) := (blk_cell BK358.out 8).trans rfl; have hfz6_0 := blk_frozen BK358.out 0; have hfz6_1 := blk_frozen BK358.out 1; have hfz6_2 := blk_frozen BK358.out 2; have hfz6_3 := blk_frozen BK358.out 3; have hfz6_4 := blk_frozen BK358.out 4; have hfz6_5 := blk_frozen BK358.out 5; have hfz6_6 := blk_frozen BK358.out 6; have hfz6_7 := blk_frozen BK358.out 7; have hfz6_8 := blk_frozen BK358.out 8) | ((with_reducible refine gate_callee (f := 48) rfl ?_); refine goesL_ (some 12) rfl rfl Try.func48 (by kernel_rfl) rfl #[.agg #[.slice A0_0 l0_0.length c0_0, .slice A0_1 l0_1.length c0_1, .slice A0_2 l0_2.length c0_2, .int .i64 a0_3, .int .i64 a0_4, .int .i64 a0_5, .int .i64 a0_6, .int .i64 a0_7, .int .i64 a0_8], .slice A1 l1.length c1] rfl (by (try simp only [List.map_toArray, List.map_cons, List.map_nil]); first | done | rfl | (simp only [List.length_drop, List.length_take]; rfl)) ?_; (with_reducible refine (admit_Reserve.calls k _ _ l0_0 _ _ l0_1 _ _ l0_2 a0_3 a0_4 a0_5 a0_6 a0_7 a0_8 _ _ l1 t359 _ ?side1 ?side2 ?side3 ?side4 ?side5 ?side6 ?side7 ?side8 A4.out).mono ?_); (case side1 => repeat (first | exact (Kd.C_below HR0_0.out HB.out) | (with_reducible refine Kd.C_alloc ?_ _) | (with_reducible refine Kd.C_drewN ?_ _) | (with_reducible refine Kd.C_drew ?_))); (case side2 => exact HC0_0.out); (case side3 => repeat (first | exact (Kd.C_below HR0_1.out HB.out) | (with_reducible refine Kd.C_alloc ?_ _) | (with_reducible refine Kd.C_drewN ?_ _) | (with_reducible refine Kd.C_drew ?_))); (case side4 => exact HC0_1.out); (case side5 => repeat (first | exact (Kd.C_below HR0_2.out HB.out) | (with_reducible refine Kd.C_alloc ?_ _) | (with_reducible refine Kd.C_drewN ?_ _) | (with_reducible refine Kd.C_drew ?_))); (case side6 => exact HC0_2.out); (case side7 => repeat (first | exact (Kd.C_below HR1.out HB.out) | (with_reducible refine Kd.C_alloc ?_ _) | (with_reducible refine Kd.C_drewN ?_ _) | (with_reducible refine Kd.C_drew ?_))); (case side8 => exact HC1.out); rintro e w7 ⟨rfl, hb⟩; refine ⟨_, rfl, ?_⟩; have n0_ := Aside0.mk (blk_below (g := gb358) (o := .cells #[.slice A0_0 l0_0.length c0_0, .slice A0_1 l0_1.length c0_1, .slice A0_2 l0_2.length c0_2, .int .i64 a0_3, .int .i64 a0_4, .int .i64 a0_5, .int .i64 a0_6, .int .i64 a0_7, .int .i64 a0_8] 26 (0, 0)) (by (with_reducible repeat (first | refine blk_drewN ?_ _ | refine blk_drew ?_ | refine blk_alloc ?_ _)); exact BK358.out) hb); have n1_ := Aside0.mk (below_step (by repeat (first | (with_reducible first | exact HB.out | apply below_alloc | apply pw_below_drewN | apply below_drew1 | refine below_set ?_ GE358.out) | exact HB.out)) hb); clear BK358; clear HB; have BK358 := n0_; have HB := n1_; clear n0_ n1_; (try clear hb); (try clear hb2); (try clear hk); (try clear hi)))
  go_loopg [7, 15] k (fun kq v7 v15 w' => ∃ (x7_1 : Int) (x15_1 : Int), v7 = .int .i64 x7_1 ∧ v15 = .int .i64 x15_1 ∧ Aside0 (admit_Load.l0 kq a2 x7_1 l1 (l1.length : Int) x15_1 l0_0 l0_1 l0_2 a0_3 a0_4 a0_5 a0_6 a0_7 a0_8 = some r) ∧ Aside0 (kq ≤ k) ∧ Aside0 (w'.heap[gb358]? = some (.cells #[(.slice A0_0 l0_0.length c0_0), (.slice A0_1 l0_1.length c0_1), (.slice A0_2 l0_2.length c0_2), .int .i64 a0_3, .int .i64 a0_4, .int .i64 a0_5, .int .i64 a0_6, .int .i64 a0_7, .int .i64 a0_8] 26 (0, 0))) ∧ Aside0 (Below w.heap.size w w'))
  case atStart => exact ⟨(t359), (0), (by first | rfl | (simp; done) | (simp [*]; done)), (by first | rfl | (simp; done) | (simp [*]; done)), H', ⟨Nat.le_refl _⟩, ⟨by (with_reducible repeat (first | refine blk_drewN ?_ _ | refine blk_drew ?_ | refine blk_alloc ?_ _)); exact BK358.out⟩, ⟨by repeat (first | (with_reducible first | exact HB.out | apply below_alloc | apply pw_below_drewN | apply below_drew1 | refine below_set ?_ GE358.out) | exact HB.out)⟩⟩
  case round =>
    clear H'
    try clear c1
    try clear p2
    try clear c3
    try clear c4
    try clear hcz6_0
    try clear hcz6_1
    try clear hcz6_2
    try clear hcz6_3
    try clear hcz6_4
    try clear hcz6_5
    try clear hcz6_6
    try clear hcz6_7
    try clear hcz6_8
    try clear hfz6_0
    try clear hfz6_1
    try clear hfz6_2
    try clear hfz6_3
    try clear hfz6_4
    try clear hfz6_5
    try clear hfz6_6
    try clear hfz6_7
    try clear hfz6_8
    obtain ⟨x7_1, x15_1, rfl, rfl, HA, HK1, BK358, HB⟩ := hrel
    cases gk with
    | zero => exact absurd HA.out (by simp [admit_Load.l0])
    | succ k1 =>
      have H := HA.out
      clear HA
      simp only [admit_Load.l0] at H
      by_cases c8 : x15_1 < (l1.length : Int)
      · rw [if_pos c8] at H
        have c8b0 : decide (x15_1 < (l1.length : Int)) = true := decide_eq_true c8
        clear c8
        by_cases c9 : 0 ≤ x15_1
        · rw [if_pos c9] at H
          have c9b0 : decide (0 ≤ x15_1) = true := decide_eq_true c9
          clear c9
          by_cases c10 : x15_1 < (l1.length : Int)
          · rw [if_pos c10] at H
            have c10b0 : decide (x15_1 < (l1.length : Int)) = true := decide_eq_true c10
            clear c10
            replace H := Option.bind_eq_some_iff.mp H
            obtain ⟨t362, A110, H⟩ := H
            replace H : (admit_Load.l0 k1 a2 (wrap64 (x7_1 + t362)) l1 (l1.length : Int) (wrap64 (x15_1 + 1)) l0_0 l0_1 l0_2 a0_3 a0_4 a0_5 a0_6 a0_7 a0_8) = some r := H
            have A11 := Aside0.mk A110
            clear A110
            have H' := Aside0.mk H
            clear H
            have p360 : 0 ≤ (x15_1 : Int) := of_decide_eq_true (by first | (with_reducible assumption) | assumption)
            have q360 : x15_1 < (l1.length : Int) := of_decide_eq_true (by first | (with_reducible assumption) | assumption)
            obtain ⟨ad360, A360_2, c360_2, A360_3, c360_3, e360, hx360_0, hx360_1, hx360_2, hx360_3, hl360_2, hi360_2, hl360_3, hi360_3⟩ := at_T36 HR1.out x15_1 p360 q360
            cases e360
            replace hx360_0 := (HB.out.cell (World.block_lt_of_cell? w _ hx360_0)).trans hx360_0
            replace hx360_1 := (HB.out.cell (World.block_lt_of_cell? w _ hx360_1)).trans hx360_1
            replace hx360_2 := (HB.out.cell (World.block_lt_of_cell? w _ hx360_2)).trans hx360_2
            replace hx360_3 := (HB.out.cell (World.block_lt_of_cell? w _ hx360_3)).trans hx360_3
            have HR360_2 := Aside0.mk hi360_2
            have HC360_2 := Aside0.mk hl360_2
            clear hi360_2 hl360_2
            have HR360_3 := Aside0.mk hi360_3
            have HC360_3 := Aside0.mk hl360_3
            clear hi360_3 hl360_3
            replace p360 := eq_true p360
            replace q360 := eq_true q360
            go_wp2_with (first | ((with_reducible refine gate_dst (N := 9) rfl ?_); refine box_event ?hg (N := 9) ?hd (cs := #[.int .i64 0, .int .i64 0, .slice none 0 0, .slice none 0 0]) (t := 36) ?hr ?_; (case hd => rfl); (case hg => rfl); (case hr => first | (go_simp; done) | (go_simp; rfl)); intro gb361 hg w12 hbox hb; have n0_ := Aside0.mk (blk_below (g := gb358) (o := .cells #[.slice A0_0 l0_0.length c0_0, .slice A0_1 l0_1.length c0_1, .slice A0_2 l0_2.length c0_2, .int .i64 a0_3, .int .i64 a0_4, .int .i64 a0_5, .int .i64 a0_6, .int .i64 a0_7, .int .i64 a0_8] 26 (0, 0)) (by (with_reducible repeat (first | refine blk_drewN ?_ _ | refine blk_drew ?_ | refine blk_alloc ?_ _)); exact BK358.out) hb); have n1_ := Aside0.mk (below_step (by repeat (first | (with_reducible first | exact HB.out | apply below_alloc | apply pw_below_drewN | apply below_drew1 | refine below_set ?_ GE358.out) | exact HB.out)) hb); have n2_ := Aside0.mk (hbox); have n3_ := Aside0.mk ((by rw [hg]; exact (below_size (by repeat (first | (with_reducible first | exact HB.out | apply below_alloc | apply pw_below_drewN | apply below_drew1 | refine below_set ?_ GE358.out) | exact HB.out))) : w.heap.size ≤ gb361)); have n4_ := Aside0.mk ((by rw [hg]; exact (below_size (by repeat (first | (with_reducible first | exact HB.out | apply below_alloc | apply pw_below_drewN | apply below_drew1 | refine below_set ?_ GE358.out) | exact HB.out))) : w.heap.size ≤ gb361)); have n5_ := Aside0.mk ((by rw [hg]; exact Nat.ne_of_lt (blk_lt (g := gb358) (o := .cells #[.slice A0_0 l0_0.length c0_0, .slice A0_1 l0_1.length c0_1, .slice A0_2 l0_2.length c0_2, .int .i64 a0_3, .int .i64 a0_4, .int .i64 a0_5, .int .i64 a0_6, .int .i64 a0_7, .int .i64 a0_8] 26 (0, 0)) (by (with_reducible repeat (first | refine blk_drewN ?_ _ | refine blk_drew ?_ | refine blk_alloc ?_ _)); exact BK358.out)) : gb358 ≠ gb361)); have n6_ := Aside0.mk ((by rw [hg]; exact Nat.ne_of_gt (blk_lt (g := gb358) (o := .cells #[.slice A0_0 l0_0.length c0_0, .slice A0_1 l0_1.length c0_1, .slice A0_2 l0_2.length c0_2, .int .i64 a0_3, .int .i64 a0_4, .int .i64 a0_5, .int .i64 a0_6, .int .i64 a0_7, .int .i64 a0_8] 26 (0, 0)) (by (with_reducible repeat (first | refine blk_drewN ?_ _ | refine blk_drew ?_ | refine blk_alloc ?_ _)); exact BK358.out)) : gb361 ≠ gb358)); clear BK358; clear HB; have BK358 := n0_; have HB := n1_; have BK361 := n2_; have GW361 := n3_; have GE361 := n4_; have NB358_361 := n5_; have NB361_358 := n6_; clear n0_ n1_ n2_ n3_ n4_ n5_ n6_; clear hb hbox hg; have hnb13 := NB361_358.out; have hnc13 := NB358_361.out; have hcz14_0 : w12.cell? ⟨gb361, 0, none⟩ = some (.int .i64 0) := (blk_cell BK361.out 0).trans rfl; have hcz14_1 : w12.cell? ⟨gb361, 1, none⟩ = some (.int .i64 0) := (blk_cell BK361.out 1).trans rfl; have hcz14_2 : w12.cell? ⟨gb361, 2, none⟩ = some (.slice none 0 0) := (blk_cell BK361.out 2).trans rfl; have hcz14_3 : w12.cell? ⟨gb361, 3, none⟩ = some (.slice none 0 0) := (blk_cell BK361.out 3).trans rfl; have hfz14_0 := blk_frozen BK361.out 0; have hfz14_1 := blk_frozen BK361.out 1; have hfz14_2 := blk_frozen BK361.out 2; have hfz14_3 := blk_frozen BK361.out 3; have hcz15_0 : w12.cell? ⟨gb358, 0, none⟩ = some (.slice A0_0 l0_0.length c0_0) := (blk_cell BK358.out 0).trans rfl; have hcz15_1 : w12.cell? ⟨gb358, 1, none⟩ = some (.slice A0_1 l0_1.length c0_1) := (blk_cell BK358.out 1).trans rfl; have hcz15_2 : w12.cell? ⟨gb358, 2, none⟩ = some (.slice A0_2 l0_2.length c0_2) := (blk_cell BK358.out 2).trans rfl; have hcz15_3 : w12.cell? ⟨gb358, 3, none⟩ = some (.int .i64 a0_3) := (blk_cell BK358.out 3).trans rfl; have hcz15_4 : w12.cell? ⟨gb358, 4, none⟩ = some (.int .i64 a0_4) := (blk_cell BK358.out 4).trans rfl; have hcz15_5 : w12.cell? ⟨gb358, 5, none⟩ = some (.int .i64 a0_5) := (blk_cell BK358.out 5).trans rfl; have hcz15_6 : w12.cell? ⟨gb358, 6, none⟩ = some (.int .i64 a0_6) := (blk_cell BK358.out 6).trans rfl; have hcz15_7 : w12.cell? ⟨gb358, 7, none⟩ = some (.int .i64 a0_7) := (blk_cell BK358.out 7).trans rfl; have hcz15_8 : w12.cell? ⟨gb358, 8, none⟩ = some (.int .i64 a0_8) := (blk_cell BK358.out 8).trans rfl; have hfz15_0 := blk_frozen BK358.out 0; have hfz15_1 := blk_frozen BK358.out 1; have hfz15_2 := blk_frozen BK358.out 2; have hfz15_3 := blk_frozen BK358.out 3; have hfz15_4 := blk_frozen BK358.out 4; have hfz15_5 := blk_frozen BK358.out 5; have hfz15_6 := blk_frozen BK358.out 6; have hfz15_7 := blk_frozen BK358.out 7; have hfz15_8 := blk_frozen BK358.out 8) | ((with_reducible refine gate_callee (f := 46) rfl ?_); refine goesL_ (some 23) rfl rfl Try.func46 (by kernel_rfl) rfl #[.agg #[.slice A0_0 l0_0.length c0_0, .slice A0_1 l0_1.length c0_1, .slice A0_2 l0_2.length c0_2, .int .i64 a0_3, .int .i64 a0_4, .int .i64 a0_5, .int .i64 a0_6, .int .i64 a0_7, .int .i64 a0_8], .agg #[.int .i64 ((rd_T36 l1 x15_1).f0), .int .i64 ((rd_T36 l1 x15_1).f1), .slice A360_2 ((rd_T36 l1 x15_1).f2).length c360_2, .slice A360_3 ((rd_T36 l1 x15_1).f3).length c360_3], .int .i64 a2] rfl (by (try simp only [List.map_toArray, List.map_cons, List.map_nil]); first | done | rfl | (simp only [List.length_drop, List.length_take]; rfl)) ?_; (with_reducible refine (admit_Part.calls _ _ l0_0 _ _ l0_1 _ _ l0_2 a0_3 a0_4 a0_5 a0_6 a0_7 a0_8 ((rd_T36 l1 x15_1).f0) ((rd_T36 l1 x15_1).f1) _ _ ((rd_T36 l1 x15_1).f2) _ _ ((rd_T36 l1 x15_1).f3) a2 t362 _ ?side1 ?side2 ?side3 ?side4 ?side5 ?side6 ?side7 ?side8 ?side9 ?side10 A11.out).mono ?_); (case side1 => exact Kd.C_below HR0_0.out (by repeat (first | (with_reducible first | exact HB.out | apply below_alloc | apply pw_below_drewN | apply below_drew1 | refine below_set ?_ GE358.out | refine below_set ?_ GE361.out) | exact HB.out))); (case side2 => exact HC0_0.out); (case side3 => exact Kd.C_below HR0_1.out (by repeat (first | (with_reducible first | exact HB.out | apply below_alloc | apply pw_below_drewN | apply below_drew1 | refine below_set ?_ GE358.out | refine below_set ?_ GE361.out) | exact HB.out))); (case side4 => exact HC0_1.out); (case side5 => exact Kd.C_below HR0_2.out (by repeat (first | (with_reducible first | exact HB.out | apply below_alloc | apply pw_below_drewN | apply below_drew1 | refine below_set ?_ GE358.out | refine below_set ?_ GE361.out) | exact HB.out))); (case side6 => exact HC0_2.out); (case side7 => exact Kd.C_below HR360_2.out (by repeat (first | (with_reducible first | exact HB.out | apply below_alloc | apply pw_below_drewN | apply below_drew1 | refine below_set ?_ GE358.out | refine below_set ?_ GE361.out) | exact HB.out))); (case side8 => exact HC360_2.out); (case side9 => exact Kd.C_below HR360_3.out (by repeat (first | (with_reducible first | exact HB.out | apply below_alloc | apply pw_below_drewN | apply below_drew1 | refine below_set ?_ GE358.out | refine below_set ?_ GE361.out) | exact HB.out))); (case side10 => exact HC360_3.out); rintro e w16 ⟨rfl, hb⟩; refine ⟨_, rfl, ?_⟩; have n0_ := Aside0.mk (blk_below (g := gb358) (o := .cells #[.slice A0_0 l0_0.length c0_0, .slice A0_1 l0_1.length c0_1, .slice A0_2 l0_2.length c0_2, .int .i64 a0_3, .int .i64 a0_4, .int .i64 a0_5, .int .i64 a0_6, .int .i64 a0_7, .int .i64 a0_8] 26 (0, 0)) (by (with_reducible repeat (first | refine blk_drewN ?_ _ | refine blk_drew ?_ | refine blk_alloc ?_ _)); refine blk_far ?_ NB358_361.out _; (with_reducible repeat (first | refine blk_drewN ?_ _ | refine blk_drew ?_ | refine blk_alloc ?_ _)); refine blk_far ?_ NB358_361.out _; (with_reducible repeat (first | refine blk_drewN ?_ _ | refine blk_drew ?_ | refine blk_alloc ?_ _)); refine blk_far ?_ NB358_361.out _; (with_reducible repeat (first | refine blk_drewN ?_ _ | refine blk_drew ?_ | refine blk_alloc ?_ _)); refine blk_far ?_ NB358_361.out _; (with_reducible repeat (first | refine blk_drewN ?_ _ | refine blk_drew ?_ | refine blk_alloc ?_ _)); exact BK358.out) hb); have n1_ := Aside0.mk (blk_below (g := gb361) (o := .cells #[.int .i64 ((rd_T36 l1 x15_1).f0), .int .i64 ((rd_T36 l1 x15_1).f1), .slice A360_2 ((rd_T36 l1 x15_1).f2).length c360_2, .slice A360_3 ((rd_T36 l1 x15_1).f3).length c360_3] 36 (0, 0)) (by (with_reducible repeat (first | refine blk_drewN ?_ _ | refine blk_drew ?_ | refine blk_alloc ?_ _)); refine blk_put (cs := #[.int .i64 ((rd_T36 l1 x15_1).f0), .int .i64 ((rd_T36 l1 x15_1).f1), .slice A360_2 ((rd_T36 l1 x15_1).f2).length c360_2, .slice none 0 0]) ?_ 3 _ rfl; (with_reducible repeat (first | refine blk_drewN ?_ _ | refine blk_drew ?_ | refine blk_alloc ?_ _)); refine blk_put (cs := #[.int .i64 ((rd_T36 l1 x15_1).f0), .int .i64 ((rd_T36 l1 x15_1).f1), .slice none 0 0, .slice none 0 0]) ?_ 2 _ rfl; (with_reducible repeat (first | refine blk_drewN ?_ _ | refine blk_drew ?_ | refine blk_alloc ?_ _)); refine blk_put (cs := #[.int .i64 ((rd_T36 l1 x15_1).f0), .int .i64 0, .slice none 0 0, .slice none 0 0]) ?_ 1 _ rfl; (with_reducible repeat (first | refine blk_drewN ?_ _ | refine blk_drew ?_ | refine blk_alloc ?_ _)); refine blk_put (cs := #[.int .i64 0, .int .i64 0, .slice none 0 0, .slice none 0 0]) ?_ 0 _ rfl; (with_reducible repeat (first | refine blk_drewN ?_ _ | refine blk_drew ?_ | refine blk_alloc ?_ _)); exact BK361.out) hb); have n2_ := Aside0.mk (below_step (by repeat (first | (with_reducible first | exact HB.out | apply below_alloc | apply pw_below_drewN | apply below_drew1 | refine below_set ?_ GE358.out | refine below_set ?_ GE361.out) | exact HB.out)) hb); clear BK358; clear BK361; clear HB; have BK358 := n0_; have BK361 := n1_; have HB := n2_; clear n0_ n1_ n2_; (try clear hb); (try clear hb2); (try clear hk); (try clear hi)))
            go_roundg k1
            case measure => have := HK1.out; omega
            case rel => exact ⟨(wrap64 (x7_1 + t362)), (wrap64 (x15_1 + 1)), (by first | rfl | (simp; done) | (simp [*]; done)), (by first | rfl | (simp; done) | (simp [*]; done)), H', ⟨by have := HK1.out; omega⟩, ⟨by (with_reducible repeat (first | refine blk_drewN ?_ _ | refine blk_drew ?_ | refine blk_alloc ?_ _)); exact BK358.out⟩, ⟨by repeat (first | (with_reducible first | exact HB.out | apply below_alloc | apply pw_below_drewN | apply below_drew1 | refine below_set ?_ GE358.out | refine below_set ?_ GE361.out) | exact HB.out)⟩⟩
          · rw [if_neg c10] at H
            exact absurd H (by simp)
        · rw [if_neg c9] at H
          exact absurd H (by simp)
      · rw [if_neg c8] at H
        have c8b0 : decide (x15_1 < (l1.length : Int)) = false := decide_eq_false c8
        clear c8
        obtain rfl := Option.some.inj H
        go_wp2
        go_ret
        exact ⟨by first | rfl | (simp [errW_none, errW_some] <;> rfl) | (simp [*, errW_none, errW_some] <;> rfl), by repeat (first | (with_reducible first | exact HB.out | apply below_alloc | apply pw_below_drewN | apply below_drew1 | refine below_set ?_ GE358.out) | exact HB.out)⟩
end Go.Proofs.Ytchlbnlhjllcbaa.F
namespace Go.Proofs.Ytchlbnlhjllcbaa.F
open Go.RowKit Go.Proofs.YtchlbnlhjllcbaaW.PrintWords Go.Proofs.YtchlbnlhjllcbaaW.PrintLast Go.Proofs.YtchlbnlhjllcbaaW.PrintMore
attribute [local go_sem] max2_int min2_int max_two min_two max_three min_three max_four min_four   -- for this text's walks alone
set_option linter.unusedVariables false
set_option linter.unusedSimpArgs false
def admit_Fits.f (k : Nat) (l0_0 : List (S58)) (l0_1 : List (S68)) (l0_2 : List (S71)) (a0_3 : Int) (a0_4 : Int) (a0_5 : Int) (a0_6 : Int) (a0_7 : Int) (a0_8 : Int) (l1 : List (S36)) : Option (Bool) := (admit_Load.f k l0_0 l0_1 l0_2 a0_3 a0_4 a0_5 a0_6 a0_7 a0_8 l1 0).bind fun t364 => (some (decide (t364 ≤ 4294967296)))
set_option maxHeartbeats 8000000 in
set_option maxRecDepth 100000 in
theorem admit_Fits.calls (k : Nat) (A0_0 : Option Addr) (c0_0 : Nat) (l0_0 : List (S58)) (A0_1 : Option Addr) (c0_1 : Nat) (l0_1 : List (S68)) (A0_2 : Option Addr) (c0_2 : Nat) (l0_2 : List (S71)) (a0_3 : Int) (a0_4 : Int) (a0_5 : Int) (a0_6 : Int) (a0_7 : Int) (a0_8 : Int) (A1 : Option Addr) (c1 : Nat) (l1 : List (S36)) (r : Bool) (w : World) (hr0_0 : Kd.C k58 w A0_0 l0_0.length l0_0) (hc0_0 : l0_0.length ≤ c0_0) (hr0_1 : Kd.C k68 w A0_1 l0_1.length l0_1) (hc0_1 : l0_1.length ≤ c0_1) (hr0_2 : Kd.C k71 w A0_2 l0_2.length l0_2) (hc0_2 : l0_2.length ≤ c0_2) (hr1 : Kd.C k36 w A1 l1.length l1) (hc1 : l1.length ≤ c1) (h : admit_Fits.f k l0_0 l0_1 l0_2 a0_3 a0_4 a0_5 a0_6 a0_7 a0_8 l1 = some r) :
    Calls Try.prog 20 #[.agg #[.slice A0_0 l0_0.length c0_0, .slice A0_1 l0_1.length c0_1, .slice A0_2 l0_2.length c0_2, .int .i64 a0_3, .int .i64 a0_4, .int .i64 a0_5, .int .i64 a0_6, .int .i64 a0_7, .int .i64 a0_8], .slice A1 l1.length c1] w fun e w' => e = .returned (.bool r) ∧ Below w.heap.size w w' := by
  have hu26 := Try.underlying26
  have HR0_0 := Aside0.mk hr0_0
  have HC0_0 := Aside0.mk hc0_0
  clear hr0_0 hc0_0
  have HR0_1 := Aside0.mk hr0_1
  have HC0_1 := Aside0.mk hc0_1
  clear hr0_1 hc0_1
  have HR0_2 := Aside0.mk hr0_2
  have HC0_2 := Aside0.mk hc0_2
  clear hr0_2 hc0_2
  have HR1 := Aside0.mk hr1
  have HC1 := Aside0.mk hc1
  clear hr1 hc1
  have HB := Aside0.mk (Below.refl w.heap.size w)
  have H : ((admit_Load.f k l0_0 l0_1 l0_2 a0_3 a0_4 a0_5 a0_6 a0_7 a0_8 l1 0).bind fun t364 => (some (decide (t364 ≤ 4294967296)))) = some r := h
  clear h
  replace H := Option.bind_eq_some_iff.mp H
  obtain ⟨t364, A30, H⟩ := H
  replace H : (some (decide (t364 ≤ 4294967296))) = some r := H
  have A3 := Aside0.mk A30
  clear A30
  obtain rfl := Option.some.inj H
  go_enter Try.func20, Try.ntmps20
  go_wp2_with (first | ((with_reducible refine gate_dst (N := 2) rfl ?_); refine box_event ?hg (N := 2) ?hd (cs := #[.slice A0_0 l0_0.length c0_0, .slice A0_1 l0_1.length c0_1, .slice A0_2 l0_2.length c0_2, .int .i64 a0_3, .int .i64 a0_4, .int .i64 a0_5, .int .i64 a0_6, .int .i64 a0_7, .int .i64 a0_8]) (t := 26) ?hr ?_; (case hd => rfl); (case hg => rfl); (case hr => first | (go_simp; done) | (go_simp; rfl)); intro gb363 hg w4 hbox hb; have n0_ := Aside0.mk (below_step (by repeat (first | (with_reducible first | exact HB.out | apply below_alloc | apply pw_below_drewN | apply below_drew1) | exact HB.out)) hb); have n1_ := Aside0.mk (hbox); have n2_ := Aside0.mk ((by rw [hg]; exact (below_size (by repeat (first | (with_reducible first | exact HB.out | apply below_alloc | apply pw_below_drewN | apply below_drew1) | exact HB.out))) : w.heap.size ≤ gb363)); have n3_ := Aside0.mk ((by rw [hg]; exact (below_size (by repeat (first | (with_reducible first | exact HB.out | apply below_alloc | apply pw_below_drewN | apply below_drew1) | exact HB.out))) : w.heap.size ≤ gb363)); clear HB; have HB := n0_; have BK363 := n1_; have GW363 := n2_; have GE363 := n3_; clear n0_ n1_ n2_ n3_; clear hb hbox hg; have hcz5_0 : w4.cell? ⟨gb363, 0, none⟩ = some (.slice A0_0 l0_0.length c0_0) := (blk_cell BK363.out 0).trans rfl; have hcz5_1 : w4.cell? ⟨gb363, 1, none⟩ = some (.slice A0_1 l0_1.length c0_1) := (blk_cell BK363.out 1).trans rfl; have hcz5_2 : w4.cell? ⟨gb363, 2, none⟩ = some (.slice A0_2 l0_2.length c0_2) := (blk_cell BK363.out 2).trans rfl; have hcz5_3 : w4.cell? ⟨gb363, 3, none⟩ = some (.int .i64 a0_3) := (blk_cell BK363.out 3).trans rfl; have hcz5_4 : w4.cell? ⟨gb363, 4, none⟩ = some (.int .i64 a0_4) := (blk_cell BK363.out 4).trans rfl; have hcz5_5 : w4.cell? ⟨gb363, 5, none⟩ = some (.int .i64 a0_5) := (blk_cell BK363.out 5).trans rfl; have hcz5_6 : w4.cell? ⟨gb363, 6, none⟩ = some (.int .i64 a0_6) := (blk_cell BK363.out 6).trans rfl; have hcz5_7 : w4.cell? ⟨gb363, 7, none⟩ = some (.int .i64 a0_7) := (blk_cell BK363.out 7).trans rfl; have hcz5_8 : w4.cell? ⟨gb363, 8, none⟩ = some (.int .i64 a0_8) := (blk_cell BK363.out 8).trans rfl; have hfz5_0 := blk_frozen BK363.out 0; have hfz5_1 := blk_frozen BK363.out 1; have hfz5_2 := blk_frozen BK363.out 2; have hfz5_3 := blk_frozen BK363.out 3; have hfz5_4 := blk_frozen BK363.out 4; have hfz5_5 := blk_frozen BK363.out 5; have hfz5_6 := blk_frozen BK363.out 6; have hfz5_7 := blk_frozen BK363.out 7; have hfz5_8 := blk_frozen BK363.out 8) | ((with_reducible refine gate_callee (f := 33) rfl ?_); refine goesL_ (some 7) rfl rfl Try.func33 (by kernel_rfl) rfl #[.agg #[.slice A0_0 l0_0.length c0_0, .slice A0_1 l0_1.length c0_1, .slice A0_2 l0_2.length c0_2, .int .i64 a0_3, .int .i64 a0_4, .int .i64 a0_5, .int .i64 a0_6, .int .i64 a0_7, .int .i64 a0_8], .slice A1 l1.length c1, .int .i64 0] rfl (by (try simp only [List.map_toArray, List.map_cons, List.map_nil]); first | done | rfl | (simp only [List.length_drop, List.length_take]; rfl)) ?_; (with_reducible refine (admit_Load.calls k _ _ l0_0 _ _ l0_1 _ _ l0_2 a0_3 a0_4 a0_5 a0_6 a0_7 a0_8 _ _ l1 0 t364 _ ?side1 ?side2 ?side3 ?side4 ?side5 ?side6 ?side7 ?side8 A3.out).mono ?_); (case side1 => repeat (first | exact (Kd.C_below HR0_0.out HB.out) | (with_reducible refine Kd.C_alloc ?_ _) | (with_reducible refine Kd.C_drewN ?_ _) | (with_reducible refine Kd.C_drew ?_))); (case side2 => exact HC0_0.out); (case side3 => repeat (first | exact (Kd.C_below HR0_1.out HB.out) | (with_reducible refine Kd.C_alloc ?_ _) | (with_reducible refine Kd.C_drewN ?_ _) | (with_reducible refine Kd.C_drew ?_))); (case side4 => exact HC0_1.out); (case side5 => repeat (first | exact (Kd.C_below HR0_2.out HB.out) | (with_reducible refine Kd.C_alloc ?_ _) | (with_reducible refine Kd.C_drewN ?_ _) | (with_reducible refine Kd.C_drew ?_))); (case side6 => exact HC0_2.out); (case side7 => repeat (first | exact (Kd.C_below HR1.out HB.out) | (with_reducible refine Kd.C_alloc ?_ _) | (with_reducible refine Kd.C_drewN ?_ _) | (with_reducible refine Kd.C_drew ?_))); (case side8 => exact HC1.out); rintro e w6 ⟨rfl, hb⟩; refine ⟨_, rfl, ?_⟩; have n0_ := Aside0.mk (blk_below (g := gb363) (o := .cells #[.slice A0_0 l0_0.length c0_0, .slice A0_1 l0_1.length c0_1, .slice A0_2 l0_2.length c0_2, .int .i64 a0_3, .int .i64 a0_4, .int .i64 a0_5, .int .i64 a0_6, .int .i64 a0_7, .int .i64 a0_8] 26 (0, 0)) (by (with_reducible repeat (first | refine blk_drewN ?_ _ | refine blk_drew ?_ | refine blk_alloc ?_ _)); exact BK363.out) hb); have n1_ := Aside0.mk (below_step (by repeat (first | (with_reducible first | exact HB.out | apply below_alloc | apply pw_below_drewN | apply below_drew1 | refine below_set ?_ GE363.out) | exact HB.out)) hb); clear BK363; clear HB; have BK363 := n0_; have HB := n1_; clear n0_ n1_; (try clear hb); (try clear hb2); (try clear hk); (try clear hi)))
  go_ret
  exact ⟨by first | rfl | (simp [errW_none, errW_some] <;> rfl) | (simp [*, errW_none, errW_some] <;> rfl), by repeat (first | (with_reducible first | exact HB.out | apply below_alloc | apply pw_below_drewN | apply below_drew1 | refine below_set ?_ GE363.out) | exact HB.out)⟩
end Go.Proofs.Ytchlbnlhjllcbaa.F
namespace Go.Proofs.Ytchlbnlhjllcbaa.Adm
open Go.RowKit Go.Proofs.Ytchlbnlhjllcbaa.F Go.Proofs.Ytchlbnlhjllcbaa.Tbl Go.Proofs.YtchlbnlhjllcbaaW.PrintWords Go.Proofs.YtchlbnlhjllcbaaW.PrintLast
theorem w64 {n : Int} (h0 : -9223372036854775808 ≤ n) (h1 : n ≤ 9223372036854775807) : wrap64 n = n := by unfold wrap64; omega
/-- so many quanta as a part of a period, rounded up -/
def part (c t : Int) : Int := (c * 4294967296 + t - 1) / t
/-- a number brought into the range of quanta -/
def quanta (c : Int) : Int := if c < 0 then 0 else if 536870912 < c then 536870912 else c
theorem quanta_bd (c : Int) : 0 ≤ quanta c ∧ quanta c ≤ 536870912 := by unfold quanta; split <;> (try split) <;> omega
theorem quanta_id {c : Int} (h0 : 0 ≤ c) (h1 : c ≤ 536870912) : quanta c = c := by unfold quanta; rw [if_neg (by omega), if_neg (by omega)]
theorem ceil_eq {n t : Int} (ht : 1 ≤ t) : n / t + (if n % t = 0 then 0 else 1) = (n + t - 1) / t := by
  have h1 := Int.emod_nonneg n (show t ≠ 0 by omega)
  have h2 := Int.emod_lt_of_pos n (show 0 < t by omega)
  have h3 : n = t * (n / t) + n % t := (Int.mul_ediv_add_emod n t).symm
  have h4 : (n + t - 1) / t = (n % t + t - 1) / t + n / t := by
    have : n + t - 1 = (n % t + t - 1) + t * (n / t) := by omega
    rw [this, Int.add_mul_ediv_left _ _ (show t ≠ 0 by omega)]
  rw [h4]
  by_cases hz : n % t = 0
  · have e : (0 + t - 1) / t = 0 := Int.ediv_eq_zero_of_lt (by omega) (by omega)
    rw [if_pos hz, hz, e]; omega
  · have e : (n % t - 1) / t = 0 := Int.ediv_eq_zero_of_lt (by omega) (by omega)
    rw [if_neg hz]
    have : n % t + t - 1 = (n % t - 1) + t * 1 := by omega
    rw [this, Int.add_mul_ediv_left _ _ (show t ≠ 0 by omega), e]; omega
theorem part_lo (c t : Int) (ht : 1 ≤ t) : c * 4294967296 ≤ part c t * t := by
  unfold part
  have h1 := Int.emod_nonneg (c * 4294967296 + t - 1) (show t ≠ 0 by omega)
  have h2 := Int.emod_lt_of_pos (c * 4294967296 + t - 1) (show 0 < t by omega)
  have h3 := Int.mul_ediv_add_emod (c * 4294967296 + t - 1) t
  rw [Int.mul_comm] at h3
  omega
theorem part_nonneg {c t : Int} (hc : 0 ≤ c) (ht : 1 ≤ t) : 0 ≤ part c t := Int.ediv_nonneg (by omega) (by omega)
theorem part_le {c t : Int} (hc : 0 ≤ c) (ht : 1 ≤ t) : part c t ≤ c * 4294967296 := by
  unfold part
  apply Int.le_of_lt_add_one
  apply Int.ediv_lt_of_lt_mul (by omega)
  have : (c * 4294967296 + 1) * t = c * 4294967296 * t + t := by rw [Int.add_mul]; omega
  have h2 : c * 4294967296 * 1 ≤ c * 4294967296 * t := Int.mul_le_mul_of_nonneg_left ht (by omega)
  omega
theorem clamp_quanta (c : Int) : fix_clamp_int.f c 0 536870912 = some (quanta c) := by
  unfold fix_clamp_int.f quanta mn mx
  congr 1
  (repeat' split) <;> omega
theorem util_some {c t : Int} (ht : 1 ≤ t) : fix_Util.f c t = some (part (quanta c) t) := by
  have hb := quanta_bd c
  unfold fix_Util.f
  rw [if_neg (by omega), clamp_quanta, Option.bind_some, if_neg (by omega)]
  rw [w64 (n := quanta c * 4294967296) (by omega) (by omega)]
  have hn : 0 ≤ quanta c * 4294967296 := by omega
  rw [Int.tdiv_eq_ediv_of_nonneg hn, Int.tmod_eq_emod_of_nonneg hn]
  have h1 := Int.emod_nonneg (quanta c * 4294967296) (show t ≠ 0 by omega)
  have h5 := Int.ediv_nonneg hn (show 0 ≤ t by omega)
  have h6 := Int.ediv_le_self t hn
  have hm : mn (quanta c * 4294967296 % t) 1 = if quanta c * 4294967296 % t = 0 then 0 else 1 := by
    unfold mn; split <;> split <;> omega
  rw [w64 (n := quanta c * 4294967296 / t) (by omega) (by omega), hm]
  have hle : (if quanta c * 4294967296 % t = 0 then (0 : Int) else 1) ≤ 1 ∧ 0 ≤ (if quanta c * 4294967296 % t = 0 then (0 : Int) else 1) := by split <;> omega
  rw [w64 (by omega) (by omega), ceil_eq ht]
  rfl
theorem mn_le (a b : Int) : mn a b ≤ a ∧ mn a b ≤ b := by unfold mn; split <;> omega
theorem mx_ge (a b : Int) : a ≤ mx a b ∧ b ≤ mx a b := by unfold mx; split <;> omega
theorem mx_cases (a b : Int) : mx a b = a ∨ mx a b = b := by unfold mx; split <;> simp
theorem mx_le {a b c : Int} (h0 : a ≤ c) (h1 : b ≤ c) : mx a b ≤ c := by unfold mx; split <;> omega
/-- A list from an index on begins with what stands there. -/
theorem drop_at (l : List S36) {i : Nat} (h : i < l.length) : l.drop i = rd_T36 l i :: l.drop (i + 1) := by
  unfold rd_T36
  rw [Int.toNat_natCast, List.getD_eq_getElem?_getD, List.getElem?_eq_getElem h]
  exact List.drop_eq_getElem_cons h
theorem rd_mem (l : List S36) {i : Nat} (h : i < l.length) : rd_T36 l i ∈ l := by
  unfold rd_T36
  rw [Int.toNat_natCast, List.getD_eq_getElem?_getD, List.getElem?_eq_getElem h]
  exact List.getElem_mem h
def uses (t : S36) (s : Int) : Bool := decide (0 ≤ s ∧ s < t.f2.length ∧ 0 < rd t.f2 s)
theorem uses_some (t : S36) (s : Int) : task_Uses.f t.f0 t.f1 t.f2 t.f3 s = some (uses t s) := by
  unfold task_Uses.f uses
  by_cases h0 : 0 ≤ s
  · by_cases h1 : s < t.f2.length
    · rw [if_pos h0, if_pos h1, if_pos h0]; simp [h0, h1]
    · rw [if_pos h0, if_neg h1]; simp [h1]
  · rw [if_neg h0]; simp [h0]
def ceil (l : List S36) (s : Int) : Int := l.foldr (fun t m => if uses t s = true then mn t.f0 m else m) 1099511627776
theorem ceil_cons (t : S36) (l : List S36) (s : Int) : ceil (t :: l) s = if uses t s = true then mn t.f0 (ceil l s) else ceil l s := rfl
theorem ceil_never (l : List S36) (s : Int) : ceil l s ≤ 1099511627776 := by
  induction l with
  | nil => exact Int.le_refl _
  | cons t l ih => rw [ceil_cons]; have := mn_le t.f0 (ceil l s); split <;> omega
theorem ceil_loop (l : List S36) (s : Int) (hn : l.length ≤ 1000) : ∀ (d k : Nat) (i : Nat) (acc : Int), i + d = l.length → d < k → acc ≤ 1099511627776 →
    task_Ceiling.l0 k s acc l l.length i = some (mn acc (ceil (l.drop i) s))
  | 0, k, i, acc, h, hk, ha => by
    obtain ⟨k, rfl⟩ : ∃ m, k = m + 1 := ⟨k - 1, by omega⟩
    simp only [task_Ceiling.l0]
    rw [if_neg (by omega), List.drop_of_length_le (by omega)]
    congr 1; unfold ceil mn; simp; omega
  | d + 1, k, i, acc, h, hk, ha => by
    obtain ⟨k, rfl⟩ : ∃ m, k = m + 1 := ⟨k - 1, by omega⟩
    have hi : i < l.length := by omega
    simp only [task_Ceiling.l0]
    rw [if_pos (by omega), if_pos (by omega), if_pos (by omega), uses_some, Option.bind_some, w64 (n := (i : Int) + 1) (by omega) (by omega)]
    rw [drop_at l hi, ceil_cons]
    by_cases u : uses (rd_T36 l i) s = true
    · rw [if_pos u, if_pos u]
      have := ceil_loop l s hn d k (i + 1) (mn acc (rd_T36 l i).f0) (by omega) (by omega) (by have := mn_le acc (rd_T36 l i).f0; omega)
      rw [show ((i + 1 : Nat) : Int) = (i : Int) + 1 from by omega] at this
      rw [this]; congr 1; unfold mn; (repeat' split) <;> omega
    · rw [if_neg u, if_neg u]
      have := ceil_loop l s hn d k (i + 1) acc (by omega) (by omega) ha
      rw [show ((i + 1 : Nat) : Int) = (i : Int) + 1 from by omega] at this
      exact this
theorem ceil_some (l : List S36) (s : Int) (hn : l.length ≤ 1000) {k : Nat} (hk : l.length < k) : task_Ceiling.f k l s = some (ceil l s) := by
  unfold task_Ceiling.f
  have := ceil_loop l s hn l.length k 0 1099511627776 (by omega) hk (by omega)
  rw [show ((0 : Nat) : Int) = 0 from rfl] at this
  rw [this, List.drop_zero]; congr 1
  have := ceil_never l s; unfold mn; split <;> omega
/-- may a task of a greater period hold up one of a period by s? -/
def holds (l : List S36) (period : Int) (t : S36) (s : Int) : Prop := period < t.f0 ∧ uses t s = true ∧ ceil l s ≤ period
instance (l : List S36) (period : Int) (t : S36) (s : Int) : Decidable (holds l period t s) := by unfold holds; exact inferInstance
def step (l : List S36) (period : Int) (t : S36) (m s : Int) : Int := if holds l period t s then mx m (rd t.f2 s) else m
def inner (l : List S36) (period : Int) (t : S36) : Int → Nat → Nat → Int
  | m, _, 0 => m
  | m, j, d + 1 => inner l period t (step l period t m j) (j + 1) d
def outer (l : List S36) (period : Int) : Int → List S36 → Int
  | m, [] => m
  | m, t :: ts => outer l period (inner l period t m 0 t.f2.length) ts
def longest (l : List S36) (period : Int) : Int := outer l period 0 l
theorem inner_ge (l : List S36) (period : Int) (t : S36) : ∀ (d j : Nat) (m : Int), m ≤ inner l period t m j d ∧ ∀ s : Nat, j ≤ s → s < j + d → holds l period t s → rd t.f2 s ≤ inner l period t m j d
  | 0, j, m => ⟨Int.le_refl _, fun s h0 h1 => by omega⟩
  | d + 1, j, m => by
    have ih := inner_ge l period t d (j + 1) (step l period t m j)
    have hs : m ≤ step l period t m j := by unfold step; have := mx_ge m (rd t.f2 j); split <;> omega
    refine ⟨by unfold inner; omega, fun s h0 h1 hh => ?_⟩
    unfold inner
    by_cases e : s = j
    · subst e
      have : rd t.f2 s ≤ step l period t m s := by unfold step; rw [if_pos hh]; exact (mx_ge _ _).2
      omega
    · exact ih.2 s (by omega) (by omega) hh
theorem inner_of (l : List S36) (period : Int) (t : S36) : ∀ (d j : Nat) (m : Int), inner l period t m j d = m ∨ ∃ s : Nat, s < j + d ∧ holds l period t s ∧ inner l period t m j d = rd t.f2 s
  | 0, j, m => .inl rfl
  | d + 1, j, m => by
    unfold inner
    rcases inner_of l period t d (j + 1) (step l period t m j) with h | ⟨s, h0, h1, h2⟩
    · rw [h]
      unfold step
      split
      · rename_i hh
        rcases mx_cases m (rd t.f2 j) with e | e
        · exact .inl e
        · exact .inr ⟨j, by omega, hh, e⟩
      · exact .inl rfl
    · exact .inr ⟨s, by omega, h1, h2⟩
theorem outer_ge (l : List S36) (period : Int) : ∀ (ts : List S36) (m : Int), m ≤ outer l period m ts ∧ ∀ t ∈ ts, ∀ s : Nat, s < t.f2.length → holds l period t s → rd t.f2 s ≤ outer l period m ts
  | [], m => ⟨Int.le_refl _, fun t h => by cases h⟩
  | t :: ts, m => by
    have ih := outer_ge l period ts (inner l period t m 0 t.f2.length)
    have hi := inner_ge l period t t.f2.length 0 m
    refine ⟨by unfold outer; omega, fun u hu s hs hh => ?_⟩
    unfold outer
    rcases List.mem_cons.1 hu with rfl | hu
    · have := hi.2 s (by omega) (by omega) hh; omega
    · exact ih.2 u hu s hs hh
theorem outer_of (l : List S36) (period : Int) : ∀ (ts : List S36) (m : Int), outer l period m ts = m ∨ ∃ t ∈ ts, ∃ s : Nat, s < t.f2.length ∧ holds l period t s ∧ outer l period m ts = rd t.f2 s
  | [], m => .inl rfl
  | t :: ts, m => by
    unfold outer
    rcases outer_of l period ts (inner l period t m 0 t.f2.length) with h | ⟨u, hu, s, h0, h1, h2⟩
    · rw [h]
      rcases inner_of l period t t.f2.length 0 m with e | ⟨s, h0, h1, h2⟩
      · exact .inl e
      · exact .inr ⟨t, by simp, s, by omega, h1, h2⟩
    · exact .inr ⟨u, by simp [hu], s, h0, h1, h2⟩
theorem longest_nonneg (l : List S36) (period : Int) : 0 ≤ longest l period := (outer_ge l period l 0).1
theorem longest_of (l : List S36) (period : Int) : longest l period = 0 ∨ ∃ t ∈ l, ∃ s : Nat, s < t.f2.length ∧ holds l period t s ∧ longest l period = rd t.f2 s := outer_of l period l 0
section
variable (l : List S36) (period : Int)
theorem inner_loop (hn : l.length ≤ 1000) (t : S36) (ht : t.f2.length ≤ 1000) (xs : List S36) (n i : Int) : ∀ (d j : Nat) (k : Nat) (m : Int), j + d = t.f2.length → 1002 + d < k →
    admit_longest.l1 k l period m xs n i t.f2.length j t.f0 t.f1 t.f2 t.f3 = admit_longest.l0 (k - (d + 1)) l period (inner l period t m j d) xs n (wrap64 (i + 1))
  | 0, j, k, m, h, hk => by
    obtain ⟨k, rfl⟩ : ∃ q, k = q + 1 := ⟨k - 1, by omega⟩
    simp only [admit_longest.l1]
    rw [if_neg (by omega)]; rfl
  | d + 1, j, k, m, h, hk => by
    obtain ⟨k, rfl⟩ : ∃ q, k = q + 1 := ⟨k - 1, by omega⟩
    have ih := fun m => inner_loop hn t ht xs n i d (j + 1) k m (by omega) (by omega)
    rw [show ((j + 1 : Nat) : Int) = (j : Int) + 1 from by omega] at ih
    have hk' : k + 1 - (d + 1 + 1) = k - (d + 1) := by omega
    rw [hk']
    simp only [admit_longest.l1]
    rw [if_pos (by omega), w64 (n := (j : Int) + 1) (by omega) (by omega)]
    have hin : inner l period t m j (d + 1) = inner l period t (step l period t m j) (j + 1) d := rfl
    rw [hin]
    by_cases h1 : t.f0 > period
    · rw [if_pos h1, uses_some, Option.bind_some]
      by_cases h2 : uses t j = true
      · rw [if_pos h2, ceil_some l j hn (by omega), Option.bind_some]
        by_cases h3 : ceil l j ≤ period
        · rw [if_pos h3, if_pos (by omega), if_pos (by omega), ih]
          have : step l period t m j = mx m (rd t.f2 j) := by unfold step; rw [if_pos ⟨h1, h2, h3⟩]
          rw [this]
        · rw [if_neg h3, ih]
          have : step l period t m j = m := by unfold step; rw [if_neg (fun x => h3 x.2.2)]
          rw [this]
      · rw [if_neg h2, ih]
        have : step l period t m j = m := by unfold step; rw [if_neg (fun x => h2 x.2.1)]
        rw [this]
    · rw [if_neg h1, ih]
      have : step l period t m j = m := by unfold step; rw [if_neg (fun x => h1 x.1)]
      rw [this]
theorem outer_loop (hn : l.length ≤ 1000) (hs : ∀ t ∈ l, t.f2.length ≤ 3) : ∀ (d i : Nat) (k : Nat) (m : Int), i + d = l.length → 1010 + 5 * d < k →
    admit_longest.l0 k l period m l l.length i = some (outer l period m (l.drop i))
  | 0, i, k, m, h, hk => by
    obtain ⟨k, rfl⟩ : ∃ q, k = q + 1 := ⟨k - 1, by omega⟩
    simp only [admit_longest.l0]
    rw [if_neg (by omega), List.drop_of_length_le (by omega)]; rfl
  | d + 1, i, k, m, h, hk => by
    obtain ⟨k, rfl⟩ : ∃ q, k = q + 1 := ⟨k - 1, by omega⟩
    have hi : i < l.length := by omega
    have h3 := hs _ (rd_mem l hi)
    simp only [admit_longest.l0]
    rw [if_pos (by omega), if_pos (by omega), if_pos (by omega)]
    have e := inner_loop l period hn (rd_T36 l i) (by omega) l l.length i (rd_T36 l i).f2.length 0 k m (by omega) (by omega)
    rw [show ((0 : Nat) : Int) = 0 from rfl] at e
    rw [e, w64 (n := (i : Int) + 1) (by omega) (by omega)]
    have ih := outer_loop hn hs d (i + 1) (k - ((rd_T36 l i).f2.length + 1)) (inner l period (rd_T36 l i) m 0 (rd_T36 l i).f2.length) (by omega) (by omega)
    rw [show ((i + 1 : Nat) : Int) = (i : Int) + 1 from by omega] at ih
    rw [ih, drop_at l hi]; rfl
end
theorem longest_some {l0 : List S58} {l1 : List S68} {l2 : List S71} {idle crit sw swE sems hor : Int} (l : List S36) (period : Int) (hn : l.length ≤ 64) (hs : ∀ t ∈ l, t.f2.length ≤ 3) {k : Nat} (hk : 1400 < k) :
    admit_longest.f k l0 l1 l2 idle crit sw swE sems hor l period = some (longest l period) := by
  unfold admit_longest.f
  have := outer_loop l period (by omega) hs l.length 0 k 0 (by omega) (by omega)
  rw [show ((0 : Nat) : Int) = 0 from rfl, List.drop_zero] at this
  exact this
structure TaskOk (nd : Nat) (sems hor : Int) (t : S36) : Prop where
  period : 1 ≤ t.f0 ∧ t.f0 ≤ hor
  cycles : 1 ≤ t.f1 ∧ t.f1 ≤ 4096
  secs : (t.f2.length : Int) ≤ sems
  sec : ∀ i : Int, 0 ≤ i → i < t.f2.length → 0 ≤ rd t.f2 i ∧ rd t.f2 i ≤ t.f1
  dev : ∀ i : Int, 0 ≤ i → i < t.f3.length → 0 ≤ rd t.f3 i ∧ rd t.f3 i < nd
  rising : ∀ i : Int, 0 < i → i < t.f3.length → rd t.f3 (i - 1) < rd t.f3 i
structure Mach (l0 : List S58) (l1 : List S68) (l2 : List S71) (idle crit sw swE sems hor : Int) (l : List S36) : Prop where
  table : TableOk l0 l1 l2 idle crit sw swE sems hor
  few : l.length ≤ 64
  task : ∀ t ∈ l, TaskOk l2.length sems hor t
section
variable {l0 : List S58} {l1 : List S68} {l2 : List S71} {idle crit sw swE sems hor : Int} {l : List S36}
/-- the slowest level's quanta -/
def slow (l0 : List S58) (crit : Int) : Int := (rd_T58 l0 crit).f0
def block (l0 : List S58) (crit sw : Int) (l : List S36) (period : Int) : Int := longest l period * slow l0 crit + mx (slow l0 crit) sw
def reserveOn (l0 : List S58) (crit sw : Int) (l : List S36) (ts : List S36) : Int := ts.foldr (fun t m => mx (part (block l0 crit sw l t.f0) t.f0) m) 0
def reserve (l0 : List S58) (crit sw : Int) (l : List S36) : Int := reserveOn l0 crit sw l l
def most (l0 : List S58) (sw : Int) (level : Int) (t : S36) : Int := if 0 ≤ level ∧ level < l0.length then t.f1 * (rd_T58 l0 level).f0 + 2 * sw else 0
def partOf (l0 : List S58) (sw : Int) (level : Int) (t : S36) : Int := part (most l0 sw level t) t.f0
def sumOf (f : S36 → Int) (l : List S36) : Int := (l.map f).sum
def load (l0 : List S58) (crit sw : Int) (l : List S36) (level : Int) : Int := reserve l0 crit sw l + sumOf (partOf l0 sw level) l
theorem sumOf_cons (f : S36 → Int) (t : S36) (l : List S36) : sumOf f (t :: l) = f t + sumOf f l := by simp [sumOf]
theorem head_of (h : TableOk l0 l1 l2 idle crit sw swE sems hor) : 1 ≤ (l0.length : Int) ∧ (l0.length : Int) ≤ 4 ∧ 0 ≤ crit ∧ crit < l0.length ∧ 0 ≤ sw ∧ sw ≤ 256 ∧ 0 ≤ sems ∧ sems ≤ 3 ∧ 1 ≤ hor ∧ hor ≤ 16384 := by
  have := h.head; unfold Head at this; omega
theorem level_bd (h : TableOk l0 l1 l2 idle crit sw swE sems hor) {n : Int} (h0 : 0 ≤ n) (h1 : n < l0.length) : 1 ≤ (rd_T58 l0 n).f0 ∧ (rd_T58 l0 n).f0 ≤ 256 := by
  have := (h.levels n h0 h1).1; omega
theorem slow_bd (h : TableOk l0 l1 l2 idle crit sw swE sems hor) : 1 ≤ slow l0 crit ∧ slow l0 crit ≤ 256 := by
  have := head_of h; exact level_bd h (by omega) (by omega)
theorem TaskOk.sem {t : S36} {nd : Nat} {sems hor : Int} (ht : TaskOk nd sems hor t) (hs : sems ≤ 3) : t.f2.length ≤ 3 := by have := ht.secs; omega
theorem longest_bd (h : Mach l0 l1 l2 idle crit sw swE sems hor l) (period : Int) : 0 ≤ longest l period ∧ longest l period ≤ 4096 := by
  refine ⟨longest_nonneg l period, ?_⟩
  rcases longest_of l period with e | ⟨t, ht, s, hs, _, e⟩
  · omega
  · have a := (h.task t ht).sec s (by omega) (by omega)
    have b := (h.task t ht).cycles
    omega
theorem block_bd (h : Mach l0 l1 l2 idle crit sw swE sems hor l) (period : Int) : 1 ≤ block l0 crit sw l period ∧ block l0 crit sw l period ≤ 1048832 := by
  have a := longest_bd h period
  have b := slow_bd h.table
  have c := head_of h.table
  have m1 : 0 ≤ longest l period * slow l0 crit := Int.mul_nonneg a.1 (by omega)
  have m2 : longest l period * slow l0 crit ≤ 4096 * 256 := Int.mul_le_mul a.2 b.2 (by omega) (by omega)
  have d := mx_ge (slow l0 crit) sw
  have e := mx_le (c := 256) b.2 (show sw ≤ 256 by omega)
  unfold block; omega
theorem most_bd (h : TableOk l0 l1 l2 idle crit sw swE sems hor) {t : S36} (ht : TaskOk l2.length sems hor t) (level : Int) : 0 ≤ most l0 sw level t ∧ most l0 sw level t ≤ 1049088 := by
  have c := head_of h
  unfold most
  split
  · rename_i hl
    have b := level_bd h hl.1 hl.2
    have y := ht.cycles
    have m1 : 0 ≤ t.f1 * (rd_T58 l0 level).f0 := Int.mul_nonneg (by omega) (by omega)
    have m2 : t.f1 * (rd_T58 l0 level).f0 ≤ 4096 * 256 := Int.mul_le_mul y.2 b.2 (by omega) (by omega)
    omega
  · omega
theorem partOf_bd (h : TableOk l0 l1 l2 idle crit sw swE sems hor) {t : S36} (ht : TaskOk l2.length sems hor t) (level : Int) : 0 ≤ partOf l0 sw level t ∧ partOf l0 sw level t ≤ 4505798650626048 := by
  have a := most_bd h ht level
  have b := part_nonneg a.1 ht.period.1
  have c := part_le a.1 ht.period.1
  unfold partOf; omega
theorem reserveOn_cons (t : S36) (ts : List S36) : reserveOn l0 crit sw l (t :: ts) = mx (part (block l0 crit sw l t.f0) t.f0) (reserveOn l0 crit sw l ts) := rfl
theorem reserveOn_bd (h : Mach l0 l1 l2 idle crit sw swE sems hor l) : ∀ {ts : List S36}, (∀ t ∈ ts, t ∈ l) → 0 ≤ reserveOn l0 crit sw l ts ∧ reserveOn l0 crit sw l ts ≤ 4504699138998272
  | [], _ => by simp [reserveOn]
  | t :: ts, hs => by
    have ih := reserveOn_bd h (ts := ts) (fun u hu => hs u (by simp [hu]))
    have ht := (h.task t (hs t (by simp))).period
    have a := block_bd h t.f0
    have b := part_nonneg (show 0 ≤ block l0 crit sw l t.f0 by omega) ht.1
    have c := part_le (show 0 ≤ block l0 crit sw l t.f0 by omega) ht.1
    have d := mx_ge (part (block l0 crit sw l t.f0) t.f0) (reserveOn l0 crit sw l ts)
    rw [reserveOn_cons]
    exact ⟨by omega, mx_le (by omega) ih.2⟩
theorem reserve_bd (h : Mach l0 l1 l2 idle crit sw swE sems hor l) : 0 ≤ reserve l0 crit sw l ∧ reserve l0 crit sw l ≤ 4504699138998272 := reserveOn_bd h (fun _ h => h)
theorem reserveOn_ge {ts : List S36} {t : S36} (ht : t ∈ ts) : part (block l0 crit sw l t.f0) t.f0 ≤ reserveOn l0 crit sw l ts := by
  induction ts with
  | nil => cases ht
  | cons u ts ih =>
    rw [reserveOn_cons]
    have := mx_ge (part (block l0 crit sw l u.f0) u.f0) (reserveOn l0 crit sw l ts)
    rcases List.mem_cons.1 ht with rfl | ht
    · omega
    · have := ih ht; omega
theorem block_some (h : Mach l0 l1 l2 idle crit sw swE sems hor l) (period : Int) {k : Nat} (hk : 1400 < k) : admit_Block.f k l0 l1 l2 idle crit sw swE sems hor l period = some (block l0 crit sw l period) := by
  have c := head_of h.table
  have a := longest_bd h period
  have b := slow_bd h.table
  have d := block_bd h period
  have m1 : 0 ≤ longest l period * slow l0 crit := Int.mul_nonneg a.1 (by omega)
  have m2 : longest l period * slow l0 crit ≤ 4096 * 256 := Int.mul_le_mul a.2 b.2 (by omega) (by omega)
  unfold admit_Block.f
  rw [if_pos (by omega), if_pos (by omega), longest_some l period h.few (fun t ht => (h.task t ht).sem (by omega)) hk, Option.bind_some]
  have e : (rd_T58 l0 crit).f0 = slow l0 crit := rfl
  rw [e, w64 (n := longest l period * slow l0 crit) (by omega) (by omega)]
  unfold block at d ⊢
  rw [w64 (by omega) (by omega)]
theorem quanta_some (h : TableOk l0 l1 l2 idle crit sw swE sems hor) {t : S36} (ht : TaskOk l2.length sems hor t) (level : Int) : admit_Quanta.f l0 l1 l2 idle crit sw swE sems hor t.f0 t.f1 t.f2 t.f3 level = some (most l0 sw level t) := by
  have c := head_of h
  unfold admit_Quanta.f most
  by_cases h0 : level < 0
  · rw [if_pos h0, if_neg (by omega)]
  · by_cases h1 : level ≥ l0.length
    · rw [if_neg h0, if_pos h1, if_neg (by omega)]
    · rw [if_neg h0, if_neg h1, if_pos (by omega), if_pos (by omega), if_pos (by omega)]
      have b := level_bd h (show 0 ≤ level by omega) (show level < l0.length by omega)
      have y := ht.cycles
      have m1 : 0 ≤ t.f1 * (rd_T58 l0 level).f0 := Int.mul_nonneg (by omega) (by omega)
      have m2 : t.f1 * (rd_T58 l0 level).f0 ≤ 4096 * 256 := Int.mul_le_mul y.2 b.2 (by omega) (by omega)
      rw [w64 (n := t.f1 * (rd_T58 l0 level).f0) (by omega) (by omega), w64 (n := 2 * sw) (by omega) (by omega), w64 (by omega) (by omega)]
theorem part_some (h : TableOk l0 l1 l2 idle crit sw swE sems hor) {t : S36} (ht : TaskOk l2.length sems hor t) (level : Int) : admit_Part.f l0 l1 l2 idle crit sw swE sems hor t.f0 t.f1 t.f2 t.f3 level = some (partOf l0 sw level t) := by
  have a := most_bd h ht level
  unfold admit_Part.f
  rw [quanta_some h ht, Option.bind_some, util_some ht.period.1, quanta_id a.1 (by omega)]; rfl
theorem reserve_loop (h : Mach l0 l1 l2 idle crit sw swE sems hor l) : ∀ (d i k : Nat) (acc : Int), i + d = l.length → 1500 + d < k →
    admit_Reserve.l0 k l acc l l.length i l0 l1 l2 idle crit sw swE sems hor = some (mx acc (reserveOn l0 crit sw l (l.drop i))) ∨ acc < 0
  | 0, i, k, acc, hd, hk => by
    obtain ⟨k, rfl⟩ : ∃ q, k = q + 1 := ⟨k - 1, by omega⟩
    simp only [admit_Reserve.l0]
    rw [if_neg (by omega), List.drop_of_length_le (by omega)]
    by_cases ha : acc < 0
    · exact .inr ha
    · left; congr 1; unfold reserveOn mx; simp; omega
  | d + 1, i, k, acc, hd, hk => by
    by_cases ha : acc < 0
    · exact .inr ha
    left
    obtain ⟨k, rfl⟩ : ∃ q, k = q + 1 := ⟨k - 1, by omega⟩
    have hi : i < l.length := by omega
    have hf := h.few
    have ht := (h.task _ (rd_mem l hi)).period
    have b := block_bd h (rd_T36 l i).f0
    simp only [admit_Reserve.l0]
    rw [if_pos (by omega), if_pos (by omega), if_pos (by omega), block_some h _ (by omega), Option.bind_some, util_some ht.1, Option.bind_some, quanta_id (by omega) (by omega), w64 (n := (i : Int) + 1) (by omega) (by omega)]
    have ih := reserve_loop h d (i + 1) k (mx acc (part (block l0 crit sw l (rd_T36 l i).f0) (rd_T36 l i).f0)) (by omega) (by omega)
    rw [show ((i + 1 : Nat) : Int) = (i : Int) + 1 from by omega] at ih
    have hm := mx_ge acc (part (block l0 crit sw l (rd_T36 l i).f0) (rd_T36 l i).f0)
    rcases ih with ih | ih
    · rw [ih, drop_at l hi, reserveOn_cons]; congr 1; unfold mx; (repeat' split) <;> omega
    · omega
theorem reserve_some (h : Mach l0 l1 l2 idle crit sw swE sems hor l) {k : Nat} (hk : 1600 < k) : admit_Reserve.f k l0 l1 l2 idle crit sw swE sems hor l = some (reserve l0 crit sw l) := by
  unfold admit_Reserve.f
  have hf := h.few
  have := reserve_loop h l.length 0 k 0 (by omega) (by omega)
  rw [show ((0 : Nat) : Int) = 0 from rfl, List.drop_zero] at this
  rcases this with e | e
  · rw [e]; congr 1; have := (reserve_bd h).1; unfold reserve at this ⊢; unfold mx; split <;> omega
  · omega
theorem load_loop (h : Mach l0 l1 l2 idle crit sw swE sems hor l) (level : Int) : ∀ (d i k : Nat) (acc : Int), i + d = l.length → d < k → 0 ≤ acc → acc + d * 4505798650626048 ≤ 4611686018427387904 →
    admit_Load.l0 k level acc l l.length i l0 l1 l2 idle crit sw swE sems hor = some (acc + sumOf (partOf l0 sw level) (l.drop i))
  | 0, i, k, acc, hd, hk, h0, h1 => by
    obtain ⟨k, rfl⟩ : ∃ q, k = q + 1 := ⟨k - 1, by omega⟩
    simp only [admit_Load.l0]
    rw [if_neg (by omega), List.drop_of_length_le (by omega)]
    simp [sumOf]
  | d + 1, i, k, acc, hd, hk, h0, h1 => by
    obtain ⟨k, rfl⟩ : ∃ q, k = q + 1 := ⟨k - 1, by omega⟩
    have hi : i < l.length := by omega
    have hf := h.few
    have ht := h.task _ (rd_mem l hi)
    have b := partOf_bd h.table ht level
    simp only [admit_Load.l0]
    rw [if_pos (by omega), if_pos (by omega), if_pos (by omega), part_some h.table ht, Option.bind_some, w64 (n := (i : Int) + 1) (by omega) (by omega), w64 (n := acc + partOf l0 sw level (rd_T36 l i)) (by omega) (by omega)]
    have ih := load_loop h level d (i + 1) k (acc + partOf l0 sw level (rd_T36 l i)) (by omega) (by omega) (by omega) (by omega)
    rw [show ((i + 1 : Nat) : Int) = (i : Int) + 1 from by omega] at ih
    rw [ih, drop_at l hi, sumOf_cons]; congr 1; omega
theorem load_some (h : Mach l0 l1 l2 idle crit sw swE sems hor l) (level : Int) {k : Nat} (hk : 1600 < k) : admit_Load.f k l0 l1 l2 idle crit sw swE sems hor l level = some (load l0 crit sw l level) := by
  have hf := h.few
  have a := reserve_bd h
  unfold admit_Load.f
  rw [reserve_some h hk, Option.bind_some]
  have := load_loop h level l.length 0 k (reserve l0 crit sw l) (by omega) (by omega) a.1 (by omega)
  rw [show ((0 : Nat) : Int) = 0 from rfl, List.drop_zero] at this
  exact this
theorem fits_some (h : Mach l0 l1 l2 idle crit sw swE sems hor l) {k : Nat} (hk : 1600 < k) : admit_Fits.f k l0 l1 l2 idle crit sw swE sems hor l = some (decide (load l0 crit sw l 0 ≤ 4294967296)) := by
  unfold admit_Fits.f; rw [load_some h 0 hk, Option.bind_some]
end
end Go.Proofs.Ytchlbnlhjllcbaa.Adm
namespace Go.Proofs.Ytchlbnlhjllcbaa.F
open Go.RowKit Go.Proofs.YtchlbnlhjllcbaaW.PrintWords Go.Proofs.YtchlbnlhjllcbaaW.PrintLast Go.Proofs.YtchlbnlhjllcbaaW.PrintMore
attribute [local go_sem] max2_int min2_int max_two min_two max_three min_three max_four min_four   -- for this text's walks alone
set_option linter.unusedVariables false
set_option linter.unusedSimpArgs false
mutual
def dormouseref09_Task.j0 : Nat → Bool → List (S58) → List (S68) → List (S71) → Int → Int → Int → Int → Int → Int → Int → Int → List Int → List Int → Option (Bool)
  | 0, _, _, _, _, _, _, _, _, _, _, _, _, _, _ => none
  | k + 1, x34, x119000, x119001, x119002, x119003, x119004, x119005, x119006, x119007, x119008, x120000, x120001, x120002, x120003 => if x34 = true then (some false) else (dormouseref09_Task.l0 k 0 x119000 x119001 x119002 x119003 x119004 x119005 x119006 x119007 x119008 x120000 x120001 x120002 x120003)
def dormouseref09_Task.l0 : Nat → Int → List (S58) → List (S68) → List (S71) → Int → Int → Int → Int → Int → Int → Int → Int → List Int → List Int → Option (Bool)
  | 0, _, _, _, _, _, _, _, _, _, _, _, _, _, _ => none
  | k + 1, x5, x119000, x119001, x119002, x119003, x119004, x119005, x119006, x119007, x119008, x120000, x120001, x120002, x120003 => if x5 < (x120002.length : Int) then (if 0 ≤ x5 then (if (rd x120002 x5) < 0 then (some false) else (if (rd x120002 x5) > x120001 then (some false) else (dormouseref09_Task.l0 k (wrap64 (x5 + 1)) x119000 x119001 x119002 x119003 x119004 x119005 x119006 x119007 x119008 x120000 x120001 x120002 x120003))) else (none)) else (dormouseref09_Task.l1 k 0 x119000 x119001 x119002 x119003 x119004 x119005 x119006 x119007 x119008 x120000 x120001 x120002 x120003)
def dormouseref09_Task.l1 : Nat → Int → List (S58) → List (S68) → List (S71) → Int → Int → Int → Int → Int → Int → Int → Int → List Int → List Int → Option (Bool)
  | 0, _, _, _, _, _, _, _, _, _, _, _, _, _, _ => none
  | k + 1, x6, x119000, x119001, x119002, x119003, x119004, x119005, x119006, x119007, x119008, x120000, x120001, x120002, x120003 => if x6 < (x120003.length : Int) then (if 0 ≤ x6 then (if (rd x120003 x6) < 0 then (some false) else (if (rd x120003 x6) ≥ (x119002.length : Int) then (some false) else (if x6 > 0 then (if 0 ≤ (wrap64 (x6 - 1)) then (if (wrap64 (x6 - 1)) < (x120003.length : Int) then (if (rd x120003 (wrap64 (x6 - 1))) ≥ (rd x120003 x6) then (some false) else (dormouseref09_Task.l1 k (wrap64 (x6 + 1)) x119000 x119001 x119002 x119003 x119004 x119005 x119006 x119007 x119008 x120000 x120001 x120002 x120003)) else (none)) else (none)) else (dormouseref09_Task.l1 k (wrap64 (x6 + 1)) x119000 x119001 x119002 x119003 x119004 x119005 x119006 x119007 x119008 x120000 x120001 x120002 x120003)))) else (none)) else (some true)
end
def dormouseref09_Task.f (k : Nat) (l0_0 : List (S58)) (l0_1 : List (S68)) (l0_2 : List (S71)) (a0_3 : Int) (a0_4 : Int) (a0_5 : Int) (a0_6 : Int) (a0_7 : Int) (a0_8 : Int) (a1_0 : Int) (a1_1 : Int) (l1_2 : List Int) (l1_3 : List Int) : Option (Bool) := if a1_0 < 1 then (dormouseref09_Task.j0 k true l0_0 l0_1 l0_2 a0_3 a0_4 a0_5 a0_6 a0_7 a0_8 a1_0 a1_1 l1_2 l1_3) else (if a1_0 > a0_8 then (dormouseref09_Task.j0 k true l0_0 l0_1 l0_2 a0_3 a0_4 a0_5 a0_6 a0_7 a0_8 a1_0 a1_1 l1_2 l1_3) else (if a1_1 < 1 then (dormouseref09_Task.j0 k true l0_0 l0_1 l0_2 a0_3 a0_4 a0_5 a0_6 a0_7 a0_8 a1_0 a1_1 l1_2 l1_3) else (if a1_1 > 4096 then (dormouseref09_Task.j0 k true l0_0 l0_1 l0_2 a0_3 a0_4 a0_5 a0_6 a0_7 a0_8 a1_0 a1_1 l1_2 l1_3) else (dormouseref09_Task.j0 k (decide ((l1_2.length : Int) > a0_7)) l0_0 l0_1 l0_2 a0_3 a0_4 a0_5 a0_6 a0_7 a0_8 a1_0 a1_1 l1_2 l1_3))))
set_option maxHeartbeats 8000000 in
set_option maxRecDepth 100000 in
theorem dormouseref09_Task.calls (k : Nat) (A0_0 : Option Addr) (c0_0 : Nat) (l0_0 : List (S58)) (A0_1 : Option Addr) (c0_1 : Nat) (l0_1 : List (S68)) (A0_2 : Option Addr) (c0_2 : Nat) (l0_2 : List (S71)) (a0_3 : Int) (a0_4 : Int) (a0_5 : Int) (a0_6 : Int) (a0_7 : Int) (a0_8 : Int) (a1_0 : Int) (a1_1 : Int) (A1_2 : Option Addr) (c1_2 : Nat) (l1_2 : List Int) (A1_3 : Option Addr) (c1_3 : Nat) (l1_3 : List Int) (r : Bool) (w : World) (hr0_0 : Kd.C k58 w A0_0 l0_0.length l0_0) (hc0_0 : l0_0.length ≤ c0_0) (hr0_1 : Kd.C k68 w A0_1 l0_1.length l0_1) (hc0_1 : l0_1.length ≤ c0_1) (hr0_2 : Kd.C k71 w A0_2 l0_2.length l0_2) (hc0_2 : l0_2.length ≤ c0_2) (hr1_2 : Kd.C (Kd.int .i64) w A1_2 l1_2.length l1_2) (hc1_2 : l1_2.length ≤ c1_2) (hr1_3 : Kd.C (Kd.int .i64) w A1_3 l1_3.length l1_3) (hc1_3 : l1_3.length ≤ c1_3) (h : dormouseref09_Task.f k l0_0 l0_1 l0_2 a0_3 a0_4 a0_5 a0_6 a0_7 a0_8 a1_0 a1_1 l1_2 l1_3 = some r) :
    Calls Try.prog 24 #[.agg #[.slice A0_0 l0_0.length c0_0, .slice A0_1 l0_1.length c0_1, .slice A0_2 l0_2.length c0_2, .int .i64 a0_3, .int .i64 a0_4, .int .i64 a0_5, .int .i64 a0_6, .int .i64 a0_7, .int .i64 a0_8], .agg #[.int .i64 a1_0, .int .i64 a1_1, .slice A1_2 l1_2.length c1_2, .slice A1_3 l1_3.length c1_3]] w fun e w' => e = .returned (.bool r) ∧ Below w.heap.size w w' := by
  have hu26 := Try.underlying26
  have hu36 := Try.underlying36
  have HR0_0 := Aside0.mk hr0_0
  have HC0_0 := Aside0.mk hc0_0
  clear hr0_0 hc0_0
  have HR0_1 := Aside0.mk hr0_1
  have HC0_1 := Aside0.mk hc0_1
  clear hr0_1 hc0_1
  have HR0_2 := Aside0.mk hr0_2
  have HC0_2 := Aside0.mk hc0_2
  clear hr0_2 hc0_2
  have HR1_2 := Aside0.mk hr1_2
  have HC1_2 := Aside0.mk hc1_2
  clear hr1_2 hc1_2
  have HR1_3 := Aside0.mk hr1_3
  have HC1_3 := Aside0.mk hc1_3
  clear hr1_3 hc1_3
  have HB := Aside0.mk (Below.refl w.heap.size w)
  have H : (if a1_0 < 1 then (dormouseref09_Task.j0 k true l0_0 l0_1 l0_2 a0_3 a0_4 a0_5 a0_6 a0_7 a0_8 a1_0 a1_1 l1_2 l1_3) else (if a1_0 > a0_8 then (dormouseref09_Task.j0 k true l0_0 l0_1 l0_2 a0_3 a0_4 a0_5 a0_6 a0_7 a0_8 a1_0 a1_1 l1_2 l1_3) else (if a1_1 < 1 then (dormouseref09_Task.j0 k true l0_0 l0_1 l0_2 a0_3 a0_4 a0_5 a0_6 a0_7 a0_8 a1_0 a1_1 l1_2 l1_3) else (if a1_1 > 4096 then (dormouseref09_Task.j0 k true l0_0 l0_1 l0_2 a0_3 a0_4 a0_5 a0_6 a0_7 a0_8 a1_0 a1_1 l1_2 l1_3) else (dormouseref09_Task.j0 k (decide ((l1_2.length : Int) > a0_7)) l0_0 l0_1 l0_2 a0_3 a0_4 a0_5 a0_6 a0_7 a0_8 a1_0 a1_1 l1_2 l1_3))))) = some r := h
  clear h
  have HC3 := Aside0.mk H
  clear H
  go_enter Try.func24, Try.ntmps24
  go_upto_region 1 with (first | ((with_reducible refine gate_dst (N := 2) rfl ?_); (try (refine gate_guard (by rfl) ?_; dsimp only)); refine box_event ?hg (N := 2) ?hd (cs := #[.slice A0_0 l0_0.length c0_0, .slice A0_1 l0_1.length c0_1, .slice A0_2 l0_2.length c0_2, .int .i64 a0_3, .int .i64 a0_4, .int .i64 a0_5, .int .i64 a0_6, .int .i64 a0_7, .int .i64 a0_8]) (t := 26) ?hr ?_; (case hd => rfl); (case hg => rfl); (case hr => first | (go_simp; done) | (go_simp; rfl)); intro gb118 hg w4 hbox hb; have n0_ := Aside0.mk (below_step (by repeat (first | (with_reducible first | exact HB.out | apply below_alloc | apply pw_below_drewN | apply below_drew1) | exact HB.out)) hb); have n1_ := Aside0.mk (hbox); have n2_ := Aside0.mk ((by rw [hg]; exact (below_size (by repeat (first | (with_reducible first | exact HB.out | apply below_alloc | apply pw_below_drewN | apply below_drew1) | exact HB.out))) : w.heap.size ≤ gb118)); have n3_ := Aside0.mk ((by rw [hg]; exact (below_size (by repeat (first | (with_reducible first | exact HB.out | apply below_alloc | apply pw_below_drewN | apply below_drew1) | exact HB.out))) : w.heap.size ≤ gb118)); clear HB; have HB := n0_; have BK118 := n1_; have GW118 := n2_; have GE118 := n3_; clear n0_ n1_ n2_ n3_; clear hb hbox hg) | ((with_reducible refine gate_dst (N := 3) rfl ?_); (try (refine gate_guard (by rfl) ?_; dsimp only)); refine box_event ?hg (N := 3) ?hd (cs := #[.int .i64 a1_0, .int .i64 a1_1, .slice A1_2 l1_2.length c1_2, .slice A1_3 l1_3.length c1_3]) (t := 36) ?hr ?_; (case hd => rfl); (case hg => rfl); (case hr => first | (go_simp; done) | (go_simp; rfl)); intro gb119 hg w5 hbox hb; have n0_ := Aside0.mk (blk_below (g := gb118) (o := .cells #[.slice A0_0 l0_0.length c0_0, .slice A0_1 l0_1.length c0_1, .slice A0_2 l0_2.length c0_2, .int .i64 a0_3, .int .i64 a0_4, .int .i64 a0_5, .int .i64 a0_6, .int .i64 a0_7, .int .i64 a0_8] 26 (0, 0)) (by (with_reducible repeat (first | refine blk_drewN ?_ _ | refine blk_drew ?_ | refine blk_alloc ?_ _)); exact BK118.out) hb); have n1_ := Aside0.mk (below_step (by repeat (first | (with_reducible first | exact HB.out | apply below_alloc | apply pw_below_drewN | apply below_drew1 | refine below_set ?_ GE118.out) | exact HB.out)) hb); have n2_ := Aside0.mk (hbox); have n3_ := Aside0.mk ((by rw [hg]; exact (below_size (by repeat (first | (with_reducible first | exact HB.out | apply below_alloc | apply pw_below_drewN | apply below_drew1 | refine below_set ?_ GE118.out) | exact HB.out))) : w.heap.size ≤ gb119)); have n4_ := Aside0.mk ((by rw [hg]; exact (below_size (by repeat (first | (with_reducible first | exact HB.out | apply below_alloc | apply pw_below_drewN | apply below_drew1 | refine below_set ?_ GE118.out) | exact HB.out))) : w.heap.size ≤ gb119)); have n5_ := Aside0.mk ((by rw [hg]; exact Nat.ne_of_lt (blk_lt (g := gb118) (o := .cells #[.slice A0_0 l0_0.length c0_0, .slice A0_1 l0_1.length c0_1, .slice A0_2 l0_2.length c0_2, .int .i64 a0_3, .int .i64 a0_4, .int .i64 a0_5, .int .i64 a0_6, .int .i64 a0_7, .int .i64 a0_8] 26 (0, 0)) (by (with_reducible repeat (first | refine blk_drewN ?_ _ | refine blk_drew ?_ | refine blk_alloc ?_ _)); exact BK118.out)) : gb118 ≠ gb119)); have n6_ := Aside0.mk ((by rw [hg]; exact Nat.ne_of_gt (blk_lt (g := gb118) (o := .cells #[.slice A0_0 l0_0.length c0_0, .slice A0_1 l0_1.length c0_1, .slice A0_2 l0_2.length c0_2, .int .i64 a0_3, .int .i64 a0_4, .int .i64 a0_5, .int .i64 a0_6, .int .i64 a0_7, .int .i64 a0_8] 26 (0, 0)) (by (with_reducible repeat (first | refine blk_drewN ?_ _ | refine blk_drew ?_ | refine blk_alloc ?_ _)); exact BK118.out)) : gb119 ≠ gb118)); clear BK118; clear HB; have BK118 := n0_; have HB := n1_; have BK119 := n2_; have GW119 := n3_; have GE119 := n4_; have NB118_119 := n5_; have NB119_118 := n6_; clear n0_ n1_ n2_ n3_ n4_ n5_ n6_; clear hb hbox hg))
  repeat (go_quiet (first | ((with_reducible refine gate_dst (N := 2) rfl ?_); (try (refine gate_guard (by rfl) ?_; dsimp only)); refine box_event ?hg (N := 2) ?hd (cs := #[.slice A0_0 l0_0.length c0_0, .slice A0_1 l0_1.length c0_1, .slice A0_2 l0_2.length c0_2, .int .i64 a0_3, .int .i64 a0_4, .int .i64 a0_5, .int .i64 a0_6, .int .i64 a0_7, .int .i64 a0_8]) (t := 26) ?hr ?_; (case hd => rfl); (case hg => rfl); (case hr => first | (go_simp; done) | (go_simp; rfl)); intro gb118 hg w4 hbox hb; have n0_ := Aside0.mk (below_step (by repeat (first | (with_reducible first | exact HB.out | apply below_alloc | apply pw_below_drewN | apply below_drew1) | exact HB.out)) hb); have n1_ := Aside0.mk (hbox); have n2_ := Aside0.mk ((by rw [hg]; exact (below_size (by repeat (first | (with_reducible first | exact HB.out | apply below_alloc | apply pw_below_drewN | apply below_drew1) | exact HB.out))) : w.heap.size ≤ gb118)); have n3_ := Aside0.mk ((by rw [hg]; exact (below_size (by repeat (first | (with_reducible first | exact HB.out | apply below_alloc | apply pw_below_drewN | apply below_drew1) | exact HB.out))) : w.heap.size ≤ gb118)); clear HB; have HB := n0_; have BK118 := n1_; have GW118 := n2_; have GE118 := n3_; clear n0_ n1_ n2_ n3_; clear hb hbox hg) | ((with_reducible refine gate_dst (N := 3) rfl ?_); (try (refine gate_guard (by rfl) ?_; dsimp only)); refine box_event ?hg (N := 3) ?hd (cs := #[.int .i64 a1_0, .int .i64 a1_1, .slice A1_2 l1_2.length c1_2, .slice A1_3 l1_3.length c1_3]) (t := 36) ?hr ?_; (case hd => rfl); (case hg => rfl); (case hr => first | (go_simp; done) | (go_simp; rfl)); intro gb119 hg w5 hbox hb; have n0_ := Aside0.mk (blk_below (g := gb118) (o := .cells #[.slice A0_0 l0_0.length c0_0, .slice A0_1 l0_1.length c0_1, .slice A0_2 l0_2.length c0_2, .int .i64 a0_3, .int .i64 a0_4, .int .i64 a0_5, .int .i64 a0_6, .int .i64 a0_7, .int .i64 a0_8] 26 (0, 0)) (by (with_reducible repeat (first | refine blk_drewN ?_ _ | refine blk_drew ?_ | refine blk_alloc ?_ _)); exact BK118.out) hb); have n1_ := Aside0.mk (below_step (by repeat (first | (with_reducible first | exact HB.out | apply below_alloc | apply pw_below_drewN | apply below_drew1 | refine below_set ?_ GE118.out) | exact HB.out)) hb); have n2_ := Aside0.mk (hbox); have n3_ := Aside0.mk ((by rw [hg]; exact (below_size (by repeat (first | (with_reducible first | exact HB.out | apply below_alloc | apply pw_below_drewN | apply below_drew1 | refine below_set ?_ GE118.out) | exact HB.out))) : w.heap.size ≤ gb119)); have n4_ := Aside0.mk ((by rw [hg]; exact (below_size (by repeat (first | (with_reducible first | exact HB.out | apply below_alloc | apply pw_below_drewN | apply below_drew1 | refine below_set ?_ GE118.out) | exact HB.out))) : w.heap.size ≤ gb119)); have n5_ := Aside0.mk ((by rw [hg]; exact Nat.ne_of_lt (blk_lt (g := gb118) (o := .cells #[.slice A0_0 l0_0.length c0_0, .slice A0_1 l0_1.length c0_1, .slice A0_2 l0_2.length c0_2, .int .i64 a0_3, .int .i64 a0_4, .int .i64 a0_5, .int .i64 a0_6, .int .i64 a0_7, .int .i64 a0_8] 26 (0, 0)) (by (with_reducible repeat (first | refine blk_drewN ?_ _ | refine blk_drew ?_ | refine blk_alloc ?_ _)); exact BK118.out)) : gb118 ≠ gb119)); have n6_ := Aside0.mk ((by rw [hg]; exact Nat.ne_of_gt (blk_lt (g := gb118) (o := .cells #[.slice A0_0 l0_0.length c0_0, .slice A0_1 l0_1.length c0_1, .slice A0_2 l0_2.length c0_2, .int .i64 a0_3, .int .i64 a0_4, .int .i64 a0_5, .int .i64 a0_6, .int .i64 a0_7, .int .i64 a0_8] 26 (0, 0)) (by (with_reducible repeat (first | refine blk_drewN ?_ _ | refine blk_drew ?_ | refine blk_alloc ?_ _)); exact BK118.out)) : gb119 ≠ gb118)); clear BK118; clear HB; have BK118 := n0_; have HB := n1_; have BK119 := n2_; have GW119 := n3_; have GE119 := n4_; have NB118_119 := n5_; have NB119_118 := n6_; clear n0_ n1_ n2_ n3_ n4_ n5_ n6_; clear hb hbox hg)); go_upto_region 1 with (first | ((with_reducible refine gate_dst (N := 2) rfl ?_); (try (refine gate_guard (by rfl) ?_; dsimp only)); refine box_event ?hg (N := 2) ?hd (cs := #[.slice A0_0 l0_0.length c0_0, .slice A0_1 l0_1.length c0_1, .slice A0_2 l0_2.length c0_2, .int .i64 a0_3, .int .i64 a0_4, .int .i64 a0_5, .int .i64 a0_6, .int .i64 a0_7, .int .i64 a0_8]) (t := 26) ?hr ?_; (case hd => rfl); (case hg => rfl); (case hr => first | (go_simp; done) | (go_simp; rfl)); intro gb118 hg w4 hbox hb; have n0_ := Aside0.mk (below_step (by repeat (first | (with_reducible first | exact HB.out | apply below_alloc | apply pw_below_drewN | apply below_drew1) | exact HB.out)) hb); have n1_ := Aside0.mk (hbox); have n2_ := Aside0.mk ((by rw [hg]; exact (below_size (by repeat (first | (with_reducible first | exact HB.out | apply below_alloc | apply pw_below_drewN | apply below_drew1) | exact HB.out))) : w.heap.size ≤ gb118)); have n3_ := Aside0.mk ((by rw [hg]; exact (below_size (by repeat (first | (with_reducible first | exact HB.out | apply below_alloc | apply pw_below_drewN | apply below_drew1) | exact HB.out))) : w.heap.size ≤ gb118)); clear HB; have HB := n0_; have BK118 := n1_; have GW118 := n2_; have GE118 := n3_; clear n0_ n1_ n2_ n3_; clear hb hbox hg) | ((with_reducible refine gate_dst (N := 3) rfl ?_); (try (refine gate_guard (by rfl) ?_; dsimp only)); refine box_event ?hg (N := 3) ?hd (cs := #[.int .i64 a1_0, .int .i64 a1_1, .slice A1_2 l1_2.length c1_2, .slice A1_3 l1_3.length c1_3]) (t := 36) ?hr ?_; (case hd => rfl); (case hg => rfl); (case hr => first | (go_simp; done) | (go_simp; rfl)); intro gb119 hg w5 hbox hb; have n0_ := Aside0.mk (blk_below (g := gb118) (o := .cells #[.slice A0_0 l0_0.length c0_0, .slice A0_1 l0_1.length c0_1, .slice A0_2 l0_2.length c0_2, .int .i64 a0_3, .int .i64 a0_4, .int .i64 a0_5, .int .i64 a0_6, .int .i64 a0_7, .int .i64 a0_8] 26 (0, 0)) (by (with_reducible repeat (first | refine blk_drewN ?_ _ | refine blk_drew ?_ | refine blk_alloc ?_ _)); exact BK118.out) hb); have n1_ := Aside0.mk (below_step (by repeat (first | (with_reducible first | exact HB.out | apply below_alloc | apply pw_below_drewN | apply below_drew1 | refine below_set ?_ GE118.out) | exact HB.out)) hb); have n2_ := Aside0.mk (hbox); have n3_ := Aside0.mk ((by rw [hg]; exact (below_size (by repeat (first | (with_reducible first | exact HB.out | apply below_alloc | apply pw_below_drewN | apply below_drew1 | refine below_set ?_ GE118.out) | exact HB.out))) : w.heap.size ≤ gb119)); have n4_ := Aside0.mk ((by rw [hg]; exact (below_size (by repeat (first | (with_reducible first | exact HB.out | apply below_alloc | apply pw_below_drewN | apply below_drew1 | refine below_set ?_ GE118.out) | exact HB.out))) : w.heap.size ≤ gb119)); have n5_ := Aside0.mk ((by rw [hg]; exact Nat.ne_of_lt (blk_lt (g := gb118) (o := .cells #[.slice A0_0 l0_0.length c0_0, .slice A0_1 l0_1.length c0_1, .slice A0_2 l0_2.length c0_2, .int .i64 a0_3, .int .i64 a0_4, .int .i64 a0_5, .int .i64 a0_6, .int .i64 a0_7, .int .i64 a0_8] 26 (0, 0)) (by (with_reducible repeat (first | refine blk_drewN ?_ _ | refine blk_drew ?_ | refine blk_alloc ?_ _)); exact BK118.out)) : gb118 ≠ gb119)); have n6_ := Aside0.mk ((by rw [hg]; exact Nat.ne_of_gt (blk_lt (g := gb118) (o := .cells #[.slice A0_0 l0_0.length c0_0, .slice A0_1 l0_1.length c0_1, .slice A0_2 l0_2.length c0_2, .int .i64 a0_3, .int .i64 a0_4, .int .i64 a0_5, .int .i64 a0_6, .int .i64 a0_7, .int .i64 a0_8] 26 (0, 0)) (by (with_reducible repeat (first | refine blk_drewN ?_ _ | refine blk_drew ?_ | refine blk_alloc ?_ _)); exact BK118.out)) : gb119 ≠ gb118)); clear BK118; clear HB; have BK118 := n0_; have HB := n1_; have BK119 := n2_; have GW119 := n3_; have GE119 := n4_; have NB118_119 := n5_; have NB119_118 := n6_; clear n0_ n1_ n2_ n3_ n4_ n5_ n6_; clear hb hbox hg)))
  (try simp only [Act.put, List.setIfInBounds_toArray, List.set_cons_zero, List.set_cons_succ])
  go_cut [34] (fun v34 wc => ∃ (kq : Nat) (x34_2 : Bool), v34 = .bool x34_2 ∧ Aside0 (dormouseref09_Task.j0 kq x34_2 l0_0 l0_1 l0_2 a0_3 a0_4 a0_5 a0_6 a0_7 a0_8 a1_0 a1_1 l1_2 l1_3 = some r) ∧ Aside0 (kq ≤ k) ∧ Aside0 (wc.heap[gb118]? = some (.cells #[(.slice A0_0 l0_0.length c0_0), (.slice A0_1 l0_1.length c0_1), (.slice A0_2 l0_2.length c0_2), .int .i64 a0_3, .int .i64 a0_4, .int .i64 a0_5, .int .i64 a0_6, .int .i64 a0_7, .int .i64 a0_8] 26 (0, 0))) ∧ Aside0 (wc.heap[gb119]? = some (.cells #[.int .i64 a1_0, .int .i64 a1_1, (.slice A1_2 l1_2.length c1_2), (.slice A1_3 l1_3.length c1_3)] 36 (0, 0))) ∧ Aside0 (Below w.heap.size w wc))
  case first =>
    have H := HC3.out
    clear HC3
    by_cases c6 : a1_0 < 1
    · rw [if_pos c6] at H
      have c6b0 : decide (a1_0 < 1) = true := decide_eq_true c6
      clear c6
      (first | rw [c6b0] | (simp only [i64_w, i32_w]; rw [c6b0]) | skip)
      have H' := Aside0.mk H
      clear H
      have hnb7 := NB119_118.out
      have hnc7 := NB118_119.out
      have hcz8_0 : w5.cell? ⟨gb119, 0, none⟩ = some (.int .i64 a1_0) := (blk_cell BK119.out 0).trans rfl
      have hcz8_1 : w5.cell? ⟨gb119, 1, none⟩ = some (.int .i64 a1_1) := (blk_cell BK119.out 1).trans rfl
      have hcz8_2 : w5.cell? ⟨gb119, 2, none⟩ = some (.slice A1_2 l1_2.length c1_2) := (blk_cell BK119.out 2).trans rfl
      have hcz8_3 : w5.cell? ⟨gb119, 3, none⟩ = some (.slice A1_3 l1_3.length c1_3) := (blk_cell BK119.out 3).trans rfl
      have hfz8_0 := blk_frozen BK119.out 0
      have hfz8_1 := blk_frozen BK119.out 1
      have hfz8_2 := blk_frozen BK119.out 2
      have hfz8_3 := blk_frozen BK119.out 3
      go_wp2
      repeat (go_quiet (fail); try go_wp2)
      go_meet
      case rel => exact ⟨_, (true), (by first | rfl | (simp; done) | (simp [*]; done)), H', ⟨by first | omega | exact Nat.le_refl _⟩, ⟨by (with_reducible repeat (first | refine blk_drewN ?_ _ | refine blk_drew ?_ | refine blk_alloc ?_ _)); exact BK118.out⟩, ⟨by (with_reducible repeat (first | refine blk_drewN ?_ _ | refine blk_drew ?_ | refine blk_alloc ?_ _)); exact BK119.out⟩, ⟨by repeat (first | (with_reducible first | exact HB.out | apply below_alloc | apply pw_below_drewN | apply below_drew1 | refine below_set ?_ GE118.out | refine below_set ?_ GE119.out) | exact HB.out)⟩⟩
    · rw [if_neg c6] at H
      have c6b0 : decide (a1_0 < 1) = false := decide_eq_false c6
      clear c6
      (first | rw [c6b0] | (simp only [i64_w, i32_w]; rw [c6b0]) | skip)
      by_cases c9 : a1_0 > a0_8
      · rw [if_pos c9] at H
        have c9b0 : decide (a0_8 < a1_0) = true := decide_eq_true c9
        clear c9
        have H' := Aside0.mk H
        clear H
        have hnb10 := NB119_118.out
        have hnc10 := NB118_119.out
        have hcz11_0 : w5.cell? ⟨gb119, 0, none⟩ = some (.int .i64 a1_0) := (blk_cell BK119.out 0).trans rfl
        have hcz11_1 : w5.cell? ⟨gb119, 1, none⟩ = some (.int .i64 a1_1) := (blk_cell BK119.out 1).trans rfl
        have hcz11_2 : w5.cell? ⟨gb119, 2, none⟩ = some (.slice A1_2 l1_2.length c1_2) := (blk_cell BK119.out 2).trans rfl
        have hcz11_3 : w5.cell? ⟨gb119, 3, none⟩ = some (.slice A1_3 l1_3.length c1_3) := (blk_cell BK119.out 3).trans rfl
        have hfz11_0 := blk_frozen BK119.out 0
        have hfz11_1 := blk_frozen BK119.out 1
        have hfz11_2 := blk_frozen BK119.out 2
        have hfz11_3 := blk_frozen BK119.out 3
        have hcz12_0 : w5.cell? ⟨gb118, 0, none⟩ = some (.slice A0_0 l0_0.length c0_0) := (blk_cell BK118.out 0).trans rfl
        have hcz12_1 : w5.cell? ⟨gb118, 1, none⟩ = some (.slice A0_1 l0_1.length c0_1) := (blk_cell BK118.out 1).trans rfl
        have hcz12_2 : w5.cell? ⟨gb118, 2, none⟩ = some (.slice A0_2 l0_2.length c0_2) := (blk_cell BK118.out 2).trans rfl
        have hcz12_3 : w5.cell? ⟨gb118, 3, none⟩ = some (.int .i64 a0_3) := (blk_cell BK118.out 3).trans rfl
        have hcz12_4 : w5.cell? ⟨gb118, 4, none⟩ = some (.int .i64 a0_4) := (blk_cell BK118.out 4).trans rfl
        have hcz12_5 : w5.cell? ⟨gb118, 5, none⟩ = some (.int .i64 a0_5) := (blk_cell BK118.out 5).trans rfl
        have hcz12_6 : w5.cell? ⟨gb118, 6, none⟩ = some (.int .i64 a0_6) := (blk_cell BK118.out 6).trans rfl
        have hcz12_7 : w5.cell? ⟨gb118, 7, none⟩ = some (.int .i64 a0_7) := (blk_cell BK118.out 7).trans rfl
        have hcz12_8 : w5.cell? ⟨gb118, 8, none⟩ = some (.int .i64 a0_8) := (blk_cell BK118.out 8).trans rfl
        have hfz12_0 := blk_frozen BK118.out 0
        have hfz12_1 := blk_frozen BK118.out 1
        have hfz12_2 := blk_frozen BK118.out 2
        have hfz12_3 := blk_frozen BK118.out 3
        have hfz12_4 := blk_frozen BK118.out 4
        have hfz12_5 := blk_frozen BK118.out 5
        have hfz12_6 := blk_frozen BK118.out 6
        have hfz12_7 := blk_frozen BK118.out 7
        have hfz12_8 := blk_frozen BK118.out 8
        go_wp2
        repeat (go_quiet (fail); try go_wp2)
        go_meet
        case rel => exact ⟨_, (true), (by first | rfl | (simp; done) | (simp [*]; done)), H', ⟨by first | omega | exact Nat.le_refl _⟩, ⟨by (with_reducible repeat (first | refine blk_drewN ?_ _ | refine blk_drew ?_ | refine blk_alloc ?_ _)); exact BK118.out⟩, ⟨by (with_reducible repeat (first | refine blk_drewN ?_ _ | refine blk_drew ?_ | refine blk_alloc ?_ _)); exact BK119.out⟩, ⟨by repeat (first | (with_reducible first | exact HB.out | apply below_alloc | apply pw_below_drewN | apply below_drew1 | refine below_set ?_ GE118.out | refine below_set ?_ GE119.out) | exact HB.out)⟩⟩
      · rw [if_neg c9] at H
        have c9b0 : decide (a0_8 < a1_0) = false := decide_eq_false c9
        clear c9
        by_cases c13 : a1_1 < 1
        · rw [if_pos c13] at H
          have c13b0 : decide (a1_1 < 1) = true := decide_eq_true c13
          clear c13
          have H' := Aside0.mk H
          clear H
          have hnb14 := NB119_118.out
          have hnc14 := NB118_119.out
          have hcz15_0 : w5.cell? ⟨gb119, 0, none⟩ = some (.int .i64 a1_0) := (blk_cell BK119.out 0).trans rfl
          have hcz15_1 : w5.cell? ⟨gb119, 1, none⟩ = some (.int .i64 a1_1) := (blk_cell BK119.out 1).trans rfl
          have hcz15_2 : w5.cell? ⟨gb119, 2, none⟩ = some (.slice A1_2 l1_2.length c1_2) := (blk_cell BK119.out 2).trans rfl
          have hcz15_3 : w5.cell? ⟨gb119, 3, none⟩ = some (.slice A1_3 l1_3.length c1_3) := (blk_cell BK119.out 3).trans rfl
          have hfz15_0 := blk_frozen BK119.out 0
          have hfz15_1 := blk_frozen BK119.out 1
          have hfz15_2 := blk_frozen BK119.out 2
          have hfz15_3 := blk_frozen BK119.out 3
          have hcz16_0 : w5.cell? ⟨gb118, 0, none⟩ = some (.slice A0_0 l0_0.length c0_0) := (blk_cell BK118.out 0).trans rfl
          have hcz16_1 : w5.cell? ⟨gb118, 1, none⟩ = some (.slice A0_1 l0_1.length c0_1) := (blk_cell BK118.out 1).trans rfl
          have hcz16_2 : w5.cell? ⟨gb118, 2, none⟩ = some (.slice A0_2 l0_2.length c0_2) := (blk_cell BK118.out 2).trans rfl
          have hcz16_3 : w5.cell? ⟨gb118, 3, none⟩ = some (.int .i64 a0_3) := (blk_cell BK118.out 3).trans rfl
          have hcz16_4 : w5.cell? ⟨gb118, 4, none⟩ = some (.int .i64 a0_4) := (blk_cell BK118.out 4).trans rfl
          have hcz16_5 : w5.cell? ⟨gb118, 5, none⟩ = some (.int .i64 a0_5) := (blk_cell BK118.out 5).trans rfl
          have hcz16_6 : w5.cell? ⟨gb118, 6, none⟩ = some (.int .i64 a0_6) := (blk_cell BK118.out 6).trans rfl
          have hcz16_7 : w5.cell? ⟨gb118, 7, none⟩ = some (.int .i64 a0_7) := (blk_cell BK118.out 7).trans rfl
          have hcz16_8 : w5.cell? ⟨gb118, 8, none⟩ = some (.int .i64 a0_8) := (blk_cell BK118.out 8).trans rfl
          have hfz16_0 := blk_frozen BK118.out 0
          have hfz16_1 := blk_frozen BK118.out 1
          have hfz16_2 := blk_frozen BK118.out 2
          have hfz16_3 := blk_frozen BK118.out 3
          have hfz16_4 := blk_frozen BK118.out 4
          have hfz16_5 := blk_frozen BK118.out 5
          have hfz16_6 := blk_frozen BK118.out 6
          have hfz16_7 := blk_frozen BK118.out 7
          have hfz16_8 := blk_frozen BK118.out 8
          go_wp2
          repeat (go_quiet (fail); try go_wp2)
          go_meet
          case rel => exact ⟨_, (true), (by first | rfl | (simp; done) | (simp [*]; done)), H', ⟨by first | omega | exact Nat.le_refl _⟩, ⟨by (with_reducible repeat (first | refine blk_drewN ?_ _ | refine blk_drew ?_ | refine blk_alloc ?_ _)); exact BK118.out⟩, ⟨by (with_reducible repeat (first | refine blk_drewN ?_ _ | refine blk_drew ?_ | refine blk_alloc ?_ _)); exact BK119.out⟩, ⟨by repeat (first | (with_reducible first | exact HB.out | apply below_alloc | apply pw_below_drewN | apply below_drew1 | refine below_set ?_ GE118.out | refine below_set ?_ GE119.out) | exact HB.out)⟩⟩
        · rw [if_neg c13] at H
          have c13b0 : decide (a1_1 < 1) = false := decide_eq_false c13
          clear c13
          by_cases c17 : a1_1 > 4096
          · rw [if_pos c17] at H
            have c17b0 : decide (4096 < a1_1) = true := decide_eq_true c17
            clear c17
            have H' := Aside0.mk H
            clear H
            have hnb18 := NB119_118.out
            have hnc18 := NB118_119.out
            have hcz19_0 : w5.cell? ⟨gb119, 0, none⟩ = some (.int .i64 a1_0) := (blk_cell BK119.out 0).trans rfl
            have hcz19_1 : w5.cell? ⟨gb119, 1, none⟩ = some (.int .i64 a1_1) := (blk_cell BK119.out 1).trans rfl
            have hcz19_2 : w5.cell? ⟨gb119, 2, none⟩ = some (.slice A1_2 l1_2.length c1_2) := (blk_cell BK119.out 2).trans rfl
            have hcz19_3 : w5.cell? ⟨gb119, 3, none⟩ = some (.slice A1_3 l1_3.length c1_3) := (blk_cell BK119.out 3).trans rfl
            have hfz19_0 := blk_frozen BK119.out 0
            have hfz19_1 := blk_frozen BK119.out 1
            have hfz19_2 := blk_frozen BK119.out 2
            have hfz19_3 := blk_frozen BK119.out 3
            have hcz20_0 : w5.cell? ⟨gb118, 0, none⟩ = some (.slice A0_0 l0_0.length c0_0) := (blk_cell BK118.out 0).trans rfl
            have hcz20_1 : w5.cell? ⟨gb118, 1, none⟩ = some (.slice A0_1 l0_1.length c0_1) := (blk_cell BK118.out 1).trans rfl
            have hcz20_2 : w5.cell? ⟨gb118, 2, none⟩ = some (.slice A0_2 l0_2.length c0_2) := (blk_cell BK118.out 2).trans rfl
            have hcz20_3 : w5.cell? ⟨gb118, 3, none⟩ = some (.int .i64 a0_3) := (blk_cell BK118.out 3).trans rfl
            have hcz20_4 : w5.cell? ⟨gb118, 4, none⟩ = some (.int .i64 a0_4) := (blk_cell BK118.out 4).trans rfl
            have hcz20_5 : w5.cell? ⟨gb118, 5, none⟩ = some (.int .i64 a0_5) := (blk_cell BK118.out 5).trans rfl
            have hcz20_6 : w5.cell? ⟨gb118, 6, none⟩ = some (.int .i64 a0_6) := (blk_cell BK118.out 6).trans rfl
            have hcz20_7 : w5.cell? ⟨gb118, 7, none⟩ = some (.int .i64 a0_7) := (blk_cell BK118.out 7).trans rfl
            have hcz20_8 : w5.cell? ⟨gb118, 8, none⟩ = some (.int .i64 a0_8) := (blk_cell BK118.out 8).trans rfl
            have hfz20_0 := blk_frozen BK118.out 0
            have hfz20_1 := blk_frozen BK118.out 1
            have hfz20_2 := blk_frozen BK118.out 2
            have hfz20_3 := blk_frozen BK118.out 3
            have hfz20_4 := blk_frozen BK118.out 4
            have hfz20_5 := blk_frozen BK118.out 5
            have hfz20_6 := blk_frozen BK118.out 6
            have hfz20_7 := blk_frozen BK118.out 7
            have hfz20_8 := blk_frozen BK118.out 8
            go_wp2
            repeat (go_quiet (fail); try go_wp2)
            go_meet
            case rel => exact ⟨_, (true), (by first | rfl | (simp; done) | (simp [*]; done)), H', ⟨by first | omega | exact Nat.le_refl _⟩, ⟨by (with_reducible repeat (first | refine blk_drewN ?_ _ | refine blk_drew ?_ | refine blk_alloc ?_ _)); exact BK118.out⟩, ⟨by (with_reducible repeat (first | refine blk_drewN ?_ _ | refine blk_drew ?_ | refine blk_alloc ?_ _)); exact BK119.out⟩, ⟨by repeat (first | (with_reducible first | exact HB.out | apply below_alloc | apply pw_below_drewN | apply below_drew1 | refine below_set ?_ GE118.out | refine below_set ?_ GE119.out) | exact HB.out)⟩⟩
          · rw [if_neg c17] at H
            have c17b0 : decide (4096 < a1_1) = false := decide_eq_false c17
            clear c17
            have H' := Aside0.mk H
            clear H
            have hnb21 := NB119_118.out
            have hnc21 := NB118_119.out
            have hcz22_0 : w5.cell? ⟨gb119, 0, none⟩ = some (.int .i64 a1_0) := (blk_cell BK119.out 0).trans rfl
            have hcz22_1 : w5.cell? ⟨gb119, 1, none⟩ = some (.int .i64 a1_1) := (blk_cell BK119.out 1).trans rfl
            have hcz22_2 : w5.cell? ⟨gb119, 2, none⟩ = some (.slice A1_2 l1_2.length c1_2) := (blk_cell BK119.out 2).trans rfl
            have hcz22_3 : w5.cell? ⟨gb119, 3, none⟩ = some (.slice A1_3 l1_3.length c1_3) := (blk_cell BK119.out 3).trans rfl
            have hfz22_0 := blk_frozen BK119.out 0
            have hfz22_1 := blk_frozen BK119.out 1
            have hfz22_2 := blk_frozen BK119.out 2
            have hfz22_3 := blk_frozen BK119.out 3
            have hcz23_0 : w5.cell? ⟨gb118, 0, none⟩ = some (.slice A0_0 l0_0.length c0_0) := (blk_cell BK118.out 0).trans rfl
            have hcz23_1 : w5.cell? ⟨gb118, 1, none⟩ = some (.slice A0_1 l0_1.length c0_1) := (blk_cell BK118.out 1).trans rfl
            have hcz23_2 : w5.cell? ⟨gb118, 2, none⟩ = some (.slice A0_2 l0_2.length c0_2) := (blk_cell BK118.out 2).trans rfl
            have hcz23_3 : w5.cell? ⟨gb118, 3, none⟩ = some (.int .i64 a0_3) := (blk_cell BK118.out 3).trans rfl
            have hcz23_4 : w5.cell? ⟨gb118, 4, none⟩ = some (.int .i64 a0_4) := (blk_cell BK118.out 4).trans rfl
            have hcz23_5 : w5.cell? ⟨gb118, 5, none⟩ = some (.int .i64 a0_5) := (blk_cell BK118.out 5).trans rfl
            have hcz23_6 : w5.cell? ⟨gb118, 6, none⟩ = some (.int .i64 a0_6) := (blk_cell BK118.out 6).trans rfl
            have hcz23_7 : w5.cell? ⟨gb118, 7, none⟩ = some (.int .i64 a0_7) := (blk_cell BK118.out 7).trans rfl
            have hcz23_8 : w5.cell? ⟨gb118, 8, none⟩ = some (.int .i64 a0_8) := (blk_cell BK118.out 8).trans rfl
            have hfz23_0 := blk_frozen BK118.out 0
            have hfz23_1 := blk_frozen BK118.out 1
            have hfz23_2 := blk_frozen BK118.out 2
            have hfz23_3 := blk_frozen BK118.out 3
            have hfz23_4 := blk_frozen BK118.out 4
            have hfz23_5 := blk_frozen BK118.out 5
            have hfz23_6 := blk_frozen BK118.out 6
            have hfz23_7 := blk_frozen BK118.out 7
            have hfz23_8 := blk_frozen BK118.out 8
            go_wp2
            repeat (go_quiet (fail); try go_wp2)
            go_meet
            case rel => exact ⟨_, (decide ((l1_2.length : Int) > a0_7)), (by first | rfl | (simp; done) | (simp [*]; done)), H', ⟨by first | omega | exact Nat.le_refl _⟩, ⟨by (with_reducible repeat (first | refine blk_drewN ?_ _ | refine blk_drew ?_ | refine blk_alloc ?_ _)); exact BK118.out⟩, ⟨by (with_reducible repeat (first | refine blk_drewN ?_ _ | refine blk_drew ?_ | refine blk_alloc ?_ _)); exact BK119.out⟩, ⟨by repeat (first | (with_reducible first | exact HB.out | apply below_alloc | apply pw_below_drewN | apply below_drew1 | refine below_set ?_ GE118.out | refine below_set ?_ GE119.out) | exact HB.out)⟩⟩
  case rest =>
    clear HC3
    try clear c1
    try clear c2
    try clear p2
    try clear c6
    try clear c6b0
    try clear c7
    try clear c9
    try clear c9b0
    try clear c10
    try clear c13
    try clear c13b0
    try clear c14
    try clear c17
    try clear c17b0
    try clear c18
    try clear c21
    try clear hcz11_0
    try clear hcz11_1
    try clear hcz11_2
    try clear hcz11_3
    try clear hcz12_0
    try clear hcz12_1
    try clear hcz12_2
    try clear hcz12_3
    try clear hcz12_4
    try clear hcz12_5
    try clear hcz12_6
    try clear hcz12_7
    try clear hcz12_8
    try clear hcz15_0
    try clear hcz15_1
    try clear hcz15_2
    try clear hcz15_3
    try clear hcz16_0
    try clear hcz16_1
    try clear hcz16_2
    try clear hcz16_3
    try clear hcz16_4
    try clear hcz16_5
    try clear hcz16_6
    try clear hcz16_7
    try clear hcz16_8
    try clear hcz19_0
    try clear hcz19_1
    try clear hcz19_2
    try clear hcz19_3
    try clear hcz20_0
    try clear hcz20_1
    try clear hcz20_2
    try clear hcz20_3
    try clear hcz20_4
    try clear hcz20_5
    try clear hcz20_6
    try clear hcz20_7
    try clear hcz20_8
    try clear hcz22_0
    try clear hcz22_1
    try clear hcz22_2
    try clear hcz22_3
    try clear hcz23_0
    try clear hcz23_1
    try clear hcz23_2
    try clear hcz23_3
    try clear hcz23_4
    try clear hcz23_5
    try clear hcz23_6
    try clear hcz23_7
    try clear hcz23_8
    try clear hcz8_0
    try clear hcz8_1
    try clear hcz8_2
    try clear hcz8_3
    try clear hfz11_0
    try clear hfz11_1
    try clear hfz11_2
    try clear hfz11_3
    try clear hfz12_0
    try clear hfz12_1
    try clear hfz12_2
    try clear hfz12_3
    try clear hfz12_4
    try clear hfz12_5
    try clear hfz12_6
    try clear hfz12_7
    try clear hfz12_8
    try clear hfz15_0
    try clear hfz15_1
    try clear hfz15_2
    try clear hfz15_3
    try clear hfz16_0
    try clear hfz16_1
    try clear hfz16_2
    try clear hfz16_3
    try clear hfz16_4
    try clear hfz16_5
    try clear hfz16_6
    try clear hfz16_7
    try clear hfz16_8
    try clear hfz19_0
    try clear hfz19_1
    try clear hfz19_2
    try clear hfz19_3
    try clear hfz20_0
    try clear hfz20_1
    try clear hfz20_2
    try clear hfz20_3
    try clear hfz20_4
    try clear hfz20_5
    try clear hfz20_6
    try clear hfz20_7
    try clear hfz20_8
    try clear hfz22_0
    try clear hfz22_1
    try clear hfz22_2
    try clear hfz22_3
    try clear hfz23_0
    try clear hfz23_1
    try clear hfz23_2
    try clear hfz23_3
    try clear hfz23_4
    try clear hfz23_5
    try clear hfz23_6
    try clear hfz23_7
    try clear hfz23_8
    try clear hfz8_0
    try clear hfz8_1
    try clear hfz8_2
    try clear hfz8_3
    obtain ⟨kq, x34_2, rfl, HA, HJ2, BK118, BK119, HB⟩ := hcut
    cases kq with
    | zero => exact absurd HA.out (by simp [dormouseref09_Task.j0])
    | succ kj2 =>
      have H := HA.out
      clear HA
      simp only [dormouseref09_Task.j0] at H
      by_cases c24 : x34_2 = true
      · subst c24
        have H1 : (some false) = some r := by rw [if_pos rfl] at H; exact H
        clear H
        have H := H1
        clear H1
        obtain rfl := Option.some.inj H
        go_wp2
        repeat (go_quiet (fail); try go_wp2)
        go_ret
        exact ⟨by first | rfl | (simp [errW_none, errW_some] <;> rfl) | (simp [*, errW_none, errW_some] <;> rfl), by repeat (first | (with_reducible first | exact HB.out | apply below_alloc | apply pw_below_drewN | apply below_drew1 | refine below_set ?_ GE118.out | refine below_set ?_ GE119.out) | exact HB.out)⟩
      · replace c24 := Bool.eq_false_iff.mpr c24
        subst c24
        have H1 : (dormouseref09_Task.l0 kj2 0 l0_0 l0_1 l0_2 a0_3 a0_4 a0_5 a0_6 a0_7 a0_8 a1_0 a1_1 l1_2 l1_3) = some r := by rw [if_neg (show ¬ (false = true) by decide)] at H; exact H
        clear H
        have H := H1
        clear H1
        have H' := Aside0.mk H
        clear H
        go_wp2
        repeat (go_quiet (fail); try go_wp2)
        go_loopg [5] kj2 (fun kq v5 w' => ∃ (x5_2 : Int), v5 = .int .i64 x5_2 ∧ Aside0 (dormouseref09_Task.l0 kq x5_2 l0_0 l0_1 l0_2 a0_3 a0_4 a0_5 a0_6 a0_7 a0_8 a1_0 a1_1 l1_2 l1_3 = some r) ∧ Aside0 (kq ≤ kj2) ∧ Aside0 (w'.heap[gb118]? = some (.cells #[(.slice A0_0 l0_0.length c0_0), (.slice A0_1 l0_1.length c0_1), (.slice A0_2 l0_2.length c0_2), .int .i64 a0_3, .int .i64 a0_4, .int .i64 a0_5, .int .i64 a0_6, .int .i64 a0_7, .int .i64 a0_8] 26 (0, 0))) ∧ Aside0 (w'.heap[gb119]? = some (.cells #[.int .i64 a1_0, .int .i64 a1_1, (.slice A1_2 l1_2.length c1_2), (.slice A1_3 l1_3.length c1_3)] 36 (0, 0))) ∧ Aside0 (Below w.heap.size w w'))
        case atStart => exact ⟨(0), (by first | rfl | (simp; done) | (simp [*]; done)), H', ⟨Nat.le_refl _⟩, ⟨by (with_reducible repeat (first | refine blk_drewN ?_ _ | refine blk_drew ?_ | refine blk_alloc ?_ _)); exact BK118.out⟩, ⟨by (with_reducible repeat (first | refine blk_drewN ?_ _ | refine blk_drew ?_ | refine blk_alloc ?_ _)); exact BK119.out⟩, ⟨by repeat (first | (with_reducible first | exact HB.out | apply below_alloc | apply pw_below_drewN | apply below_drew1 | refine below_set ?_ GE118.out | refine below_set ?_ GE119.out) | exact HB.out)⟩⟩
        case round =>
          clear H'
          try clear c1
          try clear c2
          try clear p2
          try clear c6
          try clear c6b0
          try clear c7
          try clear c9
          try clear c9b0
          try clear c10
          try clear c13
          try clear c13b0
          try clear c14
          try clear c17
          try clear c17b0
          try clear c18
          try clear c21
          try clear c24
          try clear hcz11_0
          try clear hcz11_1
          try clear hcz11_2
          try clear hcz11_3
          try clear hcz12_0
          try clear hcz12_1
          try clear hcz12_2
          try clear hcz12_3
          try clear hcz12_4
          try clear hcz12_5
          try clear hcz12_6
          try clear hcz12_7
          try clear hcz12_8
          try clear hcz15_0
          try clear hcz15_1
          try clear hcz15_2
          try clear hcz15_3
          try clear hcz16_0
          try clear hcz16_1
          try clear hcz16_2
          try clear hcz16_3
          try clear hcz16_4
          try clear hcz16_5
          try clear hcz16_6
          try clear hcz16_7
          try clear hcz16_8
          try clear hcz19_0
          try clear hcz19_1
          try clear hcz19_2
          try clear hcz19_3
          try clear hcz20_0
          try clear hcz20_1
          try clear hcz20_2
          try clear hcz20_3
          try clear hcz20_4
          try clear hcz20_5
          try clear hcz20_6
          try clear hcz20_7
          try clear hcz20_8
          try clear hcz22_0
          try clear hcz22_1
          try clear hcz22_2
          try clear hcz22_3
          try clear hcz23_0
          try clear hcz23_1
          try clear hcz23_2
          try clear hcz23_3
          try clear hcz23_4
          try clear hcz23_5
          try clear hcz23_6
          try clear hcz23_7
          try clear hcz23_8
          try clear hcz8_0
          try clear hcz8_1
          try clear hcz8_2
          try clear hcz8_3
          try clear hfz11_0
          try clear hfz11_1
          try clear hfz11_2
          try clear hfz11_3
          try clear hfz12_0
          try clear hfz12_1
          try clear hfz12_2
          try clear hfz12_3
          try clear hfz12_4
          try clear hfz12_5
          try clear hfz12_6
          try clear hfz12_7
          try clear hfz12_8
          try clear hfz15_0
          try clear hfz15_1
          try clear hfz15_2
          try clear hfz15_3
          try clear hfz16_0
          try clear hfz16_1
          try clear hfz16_2
          try clear hfz16_3
          try clear hfz16_4
          try clear hfz16_5
          try clear hfz16_6
          try clear hfz16_7
          try clear hfz16_8
          try clear hfz19_0
          try clear hfz19_1
          try clear hfz19_2
          try clear hfz19_3
          try clear hfz20_0
          try clear hfz20_1
          try clear hfz20_2
          try clear hfz20_3
          try clear hfz20_4
          try clear hfz20_5
          try clear hfz20_6
          try clear hfz20_7
          try clear hfz20_8
          try clear hfz22_0
          try clear hfz22_1
          try clear hfz22_2
          try clear hfz22_3
          try clear hfz23_0
          try clear hfz23_1
          try clear hfz23_2
          try clear hfz23_3
          try clear hfz23_4
          try clear hfz23_5
          try clear hfz23_6
          try clear hfz23_7
          try clear hfz23_8
          try clear hfz8_0
          try clear hfz8_1
          try clear hfz8_2
          try clear hfz8_3
          try clear p2
          obtain ⟨x5_2, rfl, HA, HK2, BK118, BK119, HB⟩ := hrel
          cases gk with
          | zero => exact absurd HA.out (by simp [dormouseref09_Task.l0])
          | succ k2 =>
            have H := HA.out
            clear HA
            simp only [dormouseref09_Task.l0] at H
            by_cases c25 : x5_2 < (l1_2.length : Int)
            · rw [if_pos c25] at H
              have c25b0 : decide (x5_2 < (l1_2.length : Int)) = true := decide_eq_true c25
              clear c25
              by_cases c26 : 0 ≤ x5_2
              · rw [if_pos c26] at H
                have c26b0 : decide (0 ≤ x5_2) = true := decide_eq_true c26
                clear c26
                by_cases c27 : (rd l1_2 x5_2) < 0
                · rw [if_pos c27] at H
                  have c27b0 : decide ((rd l1_2 x5_2) < 0) = true := decide_eq_true c27
                  clear c27
                  obtain rfl := Option.some.inj H
                  have hnb28 := NB119_118.out
                  have hnc28 := NB118_119.out
                  have hcz29_0 : wr.cell? ⟨gb119, 0, none⟩ = some (.int .i64 a1_0) := (blk_cell BK119.out 0).trans rfl
                  have hcz29_1 : wr.cell? ⟨gb119, 1, none⟩ = some (.int .i64 a1_1) := (blk_cell BK119.out 1).trans rfl
                  have hcz29_2 : wr.cell? ⟨gb119, 2, none⟩ = some (.slice A1_2 l1_2.length c1_2) := (blk_cell BK119.out 2).trans rfl
                  have hcz29_3 : wr.cell? ⟨gb119, 3, none⟩ = some (.slice A1_3 l1_3.length c1_3) := (blk_cell BK119.out 3).trans rfl
                  have hfz29_0 := blk_frozen BK119.out 0
                  have hfz29_1 := blk_frozen BK119.out 1
                  have hfz29_2 := blk_frozen BK119.out 2
                  have hfz29_3 := blk_frozen BK119.out 3
                  have p120 : 0 ≤ (x5_2 : Int) := of_decide_eq_true (by first | (with_reducible assumption) | assumption)
                  have q120 : x5_2 < (l1_2.length : Int) := of_decide_eq_true (by first | (with_reducible assumption) | assumption)
                  obtain ⟨ad120, e120, hx120_0⟩ := Kd.at_int HR1_2.out x5_2 p120 q120
                  cases e120
                  replace hx120_0 := (HB.out.cell (World.block_lt_of_cell? w _ hx120_0)).trans hx120_0
                  replace p120 := eq_true p120
                  replace q120 := eq_true q120
                  go_wp2
                  repeat (go_quiet (fail); try go_wp2)
                  go_ret
                  exact ⟨by first | rfl | (simp [errW_none, errW_some] <;> rfl) | (simp [*, errW_none, errW_some] <;> rfl), by repeat (first | (with_reducible first | exact HB.out | apply below_alloc | apply pw_below_drewN | apply below_drew1 | refine below_set ?_ GE118.out | refine below_set ?_ GE119.out) | exact HB.out)⟩
                · rw [if_neg c27] at H
                  have c27b0 : decide ((rd l1_2 x5_2) < 0) = false := decide_eq_false c27
                  clear c27
                  by_cases c30 : (rd l1_2 x5_2) > a1_1
                  · rw [if_pos c30] at H
                    have c30b0 : decide (a1_1 < (rd l1_2 x5_2)) = true := decide_eq_true c30
                    clear c30
                    obtain rfl := Option.some.inj H
                    have hnb31 := NB119_118.out
                    have hnc31 := NB118_119.out
                    have hcz32_0 : wr.cell? ⟨gb119, 0, none⟩ = some (.int .i64 a1_0) := (blk_cell BK119.out 0).trans rfl
                    have hcz32_1 : wr.cell? ⟨gb119, 1, none⟩ = some (.int .i64 a1_1) := (blk_cell BK119.out 1).trans rfl
                    have hcz32_2 : wr.cell? ⟨gb119, 2, none⟩ = some (.slice A1_2 l1_2.length c1_2) := (blk_cell BK119.out 2).trans rfl
                    have hcz32_3 : wr.cell? ⟨gb119, 3, none⟩ = some (.slice A1_3 l1_3.length c1_3) := (blk_cell BK119.out 3).trans rfl
                    have hfz32_0 := blk_frozen BK119.out 0
                    have hfz32_1 := blk_frozen BK119.out 1
                    have hfz32_2 := blk_frozen BK119.out 2
                    have hfz32_3 := blk_frozen BK119.out 3
                    have p120 : 0 ≤ (x5_2 : Int) := of_decide_eq_true (by first | (with_reducible assumption) | assumption)
                    have q120 : x5_2 < (l1_2.length : Int) := of_decide_eq_true (by first | (with_reducible assumption) | assumption)
                    obtain ⟨ad120, e120, hx120_0⟩ := Kd.at_int HR1_2.out x5_2 p120 q120
                    cases e120
                    replace hx120_0 := (HB.out.cell (World.block_lt_of_cell? w _ hx120_0)).trans hx120_0
                    replace p120 := eq_true p120
                    replace q120 := eq_true q120
                    have p121 : 0 ≤ (x5_2 : Int) := of_decide_eq_true (by first | (with_reducible assumption) | assumption)
                    have q121 : x5_2 < (l1_2.length : Int) := of_decide_eq_true (by first | (with_reducible assumption) | assumption)
                    obtain ⟨ad121, e121, hx121_0⟩ := Kd.at_int HR1_2.out x5_2 p121 q121
                    obtain rfl : ad120 = ad121 := (by injection e121)
                    replace hx121_0 := (HB.out.cell (World.block_lt_of_cell? w _ hx121_0)).trans hx121_0
                    replace p121 := eq_true p121
                    replace q121 := eq_true q121
                    go_wp2
                    repeat (go_quiet (fail); try go_wp2)
                    go_ret
                    exact ⟨by first | rfl | (simp [errW_none, errW_some] <;> rfl) | (simp [*, errW_none, errW_some] <;> rfl), by repeat (first | (with_reducible first | exact HB.out | apply below_alloc | apply pw_below_drewN | apply below_drew1 | refine below_set ?_ GE118.out | refine below_set ?_ GE119.out) | exact HB.out)⟩
                  · rw [if_neg c30] at H
                    have c30b0 : decide (a1_1 < (rd l1_2 x5_2)) = false := decide_eq_false c30
                    clear c30
                    have H' := Aside0.mk H
                    clear H
                    have hnb33 := NB119_118.out
                    have hnc33 := NB118_119.out
                    have hcz34_0 : wr.cell? ⟨gb119, 0, none⟩ = some (.int .i64 a1_0) := (blk_cell BK119.out 0).trans rfl
                    have hcz34_1 : wr.cell? ⟨gb119, 1, none⟩ = some (.int .i64 a1_1) := (blk_cell BK119.out 1).trans rfl
                    have hcz34_2 : wr.cell? ⟨gb119, 2, none⟩ = some (.slice A1_2 l1_2.length c1_2) := (blk_cell BK119.out 2).trans rfl
                    have hcz34_3 : wr.cell? ⟨gb119, 3, none⟩ = some (.slice A1_3 l1_3.length c1_3) := (blk_cell BK119.out 3).trans rfl
                    have hfz34_0 := blk_frozen BK119.out 0
                    have hfz34_1 := blk_frozen BK119.out 1
                    have hfz34_2 := blk_frozen BK119.out 2
                    have hfz34_3 := blk_frozen BK119.out 3
                    have p120 : 0 ≤ (x5_2 : Int) := of_decide_eq_true (by first | (with_reducible assumption) | assumption)
                    have q120 : x5_2 < (l1_2.length : Int) := of_decide_eq_true (by first | (with_reducible assumption) | assumption)
                    obtain ⟨ad120, e120, hx120_0⟩ := Kd.at_int HR1_2.out x5_2 p120 q120
                    cases e120
                    replace hx120_0 := (HB.out.cell (World.block_lt_of_cell? w _ hx120_0)).trans hx120_0
                    replace p120 := eq_true p120
                    replace q120 := eq_true q120
                    have p121 : 0 ≤ (x5_2 : Int) := of_decide_eq_true (by first | (with_reducible assumption) | assumption)
                    have q121 : x5_2 < (l1_2.length : Int) := of_decide_eq_true (by first | (with_reducible assumption) | assumption)
                    obtain ⟨ad121, e121, hx121_0⟩ := Kd.at_int HR1_2.out x5_2 p121 q121
                    obtain rfl : ad120 = ad121 := (by injection e121)
                    replace hx121_0 := (HB.out.cell (World.block_lt_of_cell? w _ hx121_0)).trans hx121_0
                    replace p121 := eq_true p121
                    replace q121 := eq_true q121
                    go_wp2
                    repeat (go_quiet (fail); try go_wp2)
                    go_roundg k2
                    case measure => have := HJ2.out; have := HK2.out; omega
                    case rel => exact ⟨(wrap64 (x5_2 + 1)), (by first | rfl | (simp; done) | (simp [*]; done)), H', ⟨by have := HJ2.out; have := HK2.out; omega⟩, ⟨by (with_reducible repeat (first | refine blk_drewN ?_ _ | refine blk_drew ?_ | refine blk_alloc ?_ _)); exact BK118.out⟩, ⟨by (with_reducible repeat (first | refine blk_drewN ?_ _ | refine blk_drew ?_ | refine blk_alloc ?_ _)); exact BK119.out⟩, ⟨by repeat (first | (with_reducible first | exact HB.out | apply below_alloc | apply pw_below_drewN | apply below_drew1 | refine below_set ?_ GE118.out | refine below_set ?_ GE119.out) | exact HB.out)⟩⟩
              · rw [if_neg c26] at H
                exact absurd H (by simp)
            · rw [if_neg c25] at H
              have c25b0 : decide (x5_2 < (l1_2.length : Int)) = false := decide_eq_false c25
              clear c25
              have H' := Aside0.mk H
              clear H
              have hnb35 := NB119_118.out
              have hnc35 := NB118_119.out
              have hcz36_0 : wr.cell? ⟨gb119, 0, none⟩ = some (.int .i64 a1_0) := (blk_cell BK119.out 0).trans rfl
              have hcz36_1 : wr.cell? ⟨gb119, 1, none⟩ = some (.int .i64 a1_1) := (blk_cell BK119.out 1).trans rfl
              have hcz36_2 : wr.cell? ⟨gb119, 2, none⟩ = some (.slice A1_2 l1_2.length c1_2) := (blk_cell BK119.out 2).trans rfl
              have hcz36_3 : wr.cell? ⟨gb119, 3, none⟩ = some (.slice A1_3 l1_3.length c1_3) := (blk_cell BK119.out 3).trans rfl
              have hfz36_0 := blk_frozen BK119.out 0
              have hfz36_1 := blk_frozen BK119.out 1
              have hfz36_2 := blk_frozen BK119.out 2
              have hfz36_3 := blk_frozen BK119.out 3
              go_wp2
              repeat (go_quiet (fail); try go_wp2)
              go_loopg [6] k2 (fun kq v6 w' => ∃ (x6_3 : Int), v6 = .int .i64 x6_3 ∧ Aside0 (dormouseref09_Task.l1 kq x6_3 l0_0 l0_1 l0_2 a0_3 a0_4 a0_5 a0_6 a0_7 a0_8 a1_0 a1_1 l1_2 l1_3 = some r) ∧ Aside0 (kq ≤ k2) ∧ Aside0 (w'.heap[gb118]? = some (.cells #[(.slice A0_0 l0_0.length c0_0), (.slice A0_1 l0_1.length c0_1), (.slice A0_2 l0_2.length c0_2), .int .i64 a0_3, .int .i64 a0_4, .int .i64 a0_5, .int .i64 a0_6, .int .i64 a0_7, .int .i64 a0_8] 26 (0, 0))) ∧ Aside0 (w'.heap[gb119]? = some (.cells #[.int .i64 a1_0, .int .i64 a1_1, (.slice A1_2 l1_2.length c1_2), (.slice A1_3 l1_3.length c1_3)] 36 (0, 0))) ∧ Aside0 (Below w.heap.size w w'))
              case atStart => exact ⟨(0), (by first | rfl | (simp; done) | (simp [*]; done)), H', ⟨Nat.le_refl _⟩, ⟨by (with_reducible repeat (first | refine blk_drewN ?_ _ | refine blk_drew ?_ | refine blk_alloc ?_ _)); exact BK118.out⟩, ⟨by (with_reducible repeat (first | refine blk_drewN ?_ _ | refine blk_drew ?_ | refine blk_alloc ?_ _)); exact BK119.out⟩, ⟨by repeat (first | (with_reducible first | exact HB.out | apply below_alloc | apply pw_below_drewN | apply below_drew1 | refine below_set ?_ GE118.out | refine below_set ?_ GE119.out) | exact HB.out)⟩⟩
              case round =>
                clear H'
                try clear c1
                try clear p1
                try clear q1
                try clear hx1
                try clear c2
                try clear p2
                try clear c3
                try clear c6
                try clear c6b0
                try clear p6
                try clear c7
                try clear c9
                try clear c9b0
                try clear c10
                try clear p12
                try clear q12
                try clear hx12
                try clear c13
                try clear c13b0
                try clear c14
                try clear c17
                try clear c17b0
                try clear c18
                try clear c21
                try clear c24
                try clear c25
                try clear c25b0
                try clear c26
                try clear c26b0
                try clear c27
                try clear c27b0
                try clear c28
                try clear c30
                try clear c30b0
                try clear c31
                try clear c33
                try clear c35
                try clear hcz11_0
                try clear hcz11_1
                try clear hcz11_2
                try clear hcz11_3
                try clear hcz12_0
                try clear hcz12_1
                try clear hcz12_2
                try clear hcz12_3
                try clear hcz12_4
                try clear hcz12_5
                try clear hcz12_6
                try clear hcz12_7
                try clear hcz12_8
                try clear hcz15_0
                try clear hcz15_1
                try clear hcz15_2
                try clear hcz15_3
                try clear hcz16_0
                try clear hcz16_1
                try clear hcz16_2
                try clear hcz16_3
                try clear hcz16_4
                try clear hcz16_5
                try clear hcz16_6
                try clear hcz16_7
                try clear hcz16_8
                try clear hcz19_0
                try clear hcz19_1
                try clear hcz19_2
                try clear hcz19_3
                try clear hcz20_0
                try clear hcz20_1
                try clear hcz20_2
                try clear hcz20_3
                try clear hcz20_4
                try clear hcz20_5
                try clear hcz20_6
                try clear hcz20_7
                try clear hcz20_8
                try clear hcz22_0
                try clear hcz22_1
                try clear hcz22_2
                try clear hcz22_3
                try clear hcz23_0
                try clear hcz23_1
                try clear hcz23_2
                try clear hcz23_3
                try clear hcz23_4
                try clear hcz23_5
                try clear hcz23_6
                try clear hcz23_7
                try clear hcz23_8
                try clear hcz29_0
                try clear hcz29_1
                try clear hcz29_2
                try clear hcz29_3
                try clear hcz32_0
                try clear hcz32_1
                try clear hcz32_2
                try clear hcz32_3
                try clear hcz34_0
                try clear hcz34_1
                try clear hcz34_2
                try clear hcz34_3
                try clear hcz36_0
                try clear hcz36_1
                try clear hcz36_2
                try clear hcz36_3
                try clear hcz8_0
                try clear hcz8_1
                try clear hcz8_2
                try clear hcz8_3
                try clear hfz11_0
                try clear hfz11_1
                try clear hfz11_2
                try clear hfz11_3
                try clear hfz12_0
                try clear hfz12_1
                try clear hfz12_2
                try clear hfz12_3
                try clear hfz12_4
                try clear hfz12_5
                try clear hfz12_6
                try clear hfz12_7
                try clear hfz12_8
                try clear hfz15_0
                try clear hfz15_1
                try clear hfz15_2
                try clear hfz15_3
                try clear hfz16_0
                try clear hfz16_1
                try clear hfz16_2
                try clear hfz16_3
                try clear hfz16_4
                try clear hfz16_5
                try clear hfz16_6
                try clear hfz16_7
                try clear hfz16_8
                try clear hfz19_0
                try clear hfz19_1
                try clear hfz19_2
                try clear hfz19_3
                try clear hfz20_0
                try clear hfz20_1
                try clear hfz20_2
                try clear hfz20_3
                try clear hfz20_4
                try clear hfz20_5
                try clear hfz20_6
                try clear hfz20_7
                try clear hfz20_8
                try clear hfz22_0
                try clear hfz22_1
                try clear hfz22_2
                try clear hfz22_3
                try clear hfz23_0
                try clear hfz23_1
                try clear hfz23_2
                try clear hfz23_3
                try clear hfz23_4
                try clear hfz23_5
                try clear hfz23_6
                try clear hfz23_7
                try clear hfz23_8
                try clear hfz29_0
                try clear hfz29_1
                try clear hfz29_2
                try clear hfz29_3
                try clear hfz32_0
                try clear hfz32_1
                try clear hfz32_2
                try clear hfz32_3
                try clear hfz34_0
                try clear hfz34_1
                try clear hfz34_2
                try clear hfz34_3
                try clear hfz36_0
                try clear hfz36_1
                try clear hfz36_2
                try clear hfz36_3
                try clear hfz8_0
                try clear hfz8_1
                try clear hfz8_2
                try clear hfz8_3
                try clear hx120_0
                try clear hx121_0
                try clear p120
                try clear p121
                try clear p2
                try clear q120
                try clear q121
                obtain ⟨x6_3, rfl, HA, HK3, BK118, BK119, HB⟩ := hrel
                cases gk with
                | zero => exact absurd HA.out (by simp [dormouseref09_Task.l1])
                | succ k3 =>
                  have H := HA.out
                  clear HA
                  simp only [dormouseref09_Task.l1] at H
                  by_cases c37 : x6_3 < (l1_3.length : Int)
                  · rw [if_pos c37] at H
                    have c37b0 : decide (x6_3 < (l1_3.length : Int)) = true := decide_eq_true c37
                    clear c37
                    by_cases c38 : 0 ≤ x6_3
                    · rw [if_pos c38] at H
                      have c38b0 : decide (0 ≤ x6_3) = true := decide_eq_true c38
                      clear c38
                      by_cases c39 : (rd l1_3 x6_3) < 0
                      · rw [if_pos c39] at H
                        have c39b0 : decide ((rd l1_3 x6_3) < 0) = true := decide_eq_true c39
                        clear c39
                        obtain rfl := Option.some.inj H
                        have hnb40 := NB119_118.out
                        have hnc40 := NB118_119.out
                        have hcz41_0 : wr.cell? ⟨gb119, 0, none⟩ = some (.int .i64 a1_0) := (blk_cell BK119.out 0).trans rfl
                        have hcz41_1 : wr.cell? ⟨gb119, 1, none⟩ = some (.int .i64 a1_1) := (blk_cell BK119.out 1).trans rfl
                        have hcz41_2 : wr.cell? ⟨gb119, 2, none⟩ = some (.slice A1_2 l1_2.length c1_2) := (blk_cell BK119.out 2).trans rfl
                        have hcz41_3 : wr.cell? ⟨gb119, 3, none⟩ = some (.slice A1_3 l1_3.length c1_3) := (blk_cell BK119.out 3).trans rfl
                        have hfz41_0 := blk_frozen BK119.out 0
                        have hfz41_1 := blk_frozen BK119.out 1
                        have hfz41_2 := blk_frozen BK119.out 2
                        have hfz41_3 := blk_frozen BK119.out 3
                        have p122 : 0 ≤ (x6_3 : Int) := of_decide_eq_true (by first | (with_reducible assumption) | assumption)
                        have q122 : x6_3 < (l1_3.length : Int) := of_decide_eq_true (by first | (with_reducible assumption) | assumption)
                        obtain ⟨ad122, e122, hx122_0⟩ := Kd.at_int HR1_3.out x6_3 p122 q122
                        cases e122
                        replace hx122_0 := (HB.out.cell (World.block_lt_of_cell? w _ hx122_0)).trans hx122_0
                        replace p122 := eq_true p122
                        replace q122 := eq_true q122
                        go_wp2
                        repeat (go_quiet (fail); try go_wp2)
                        go_ret
                        exact ⟨by first | rfl | (simp [errW_none, errW_some] <;> rfl) | (simp [*, errW_none, errW_some] <;> rfl), by repeat (first | (with_reducible first | exact HB.out | apply below_alloc | apply pw_below_drewN | apply below_drew1 | refine below_set ?_ GE118.out | refine below_set ?_ GE119.out) | exact HB.out)⟩
                      · rw [if_neg c39] at H
                        have c39b0 : decide ((rd l1_3 x6_3) < 0) = false := decide_eq_false c39
                        clear c39
                        by_cases c42 : (rd l1_3 x6_3) ≥ (l0_2.length : Int)
                        · rw [if_pos c42] at H
                          have c42b0 : decide ((l0_2.length : Int) ≤ (rd l1_3 x6_3)) = true := decide_eq_true c42
                          clear c42
                          obtain rfl := Option.some.inj H
                          have hnb43 := NB119_118.out
                          have hnc43 := NB118_119.out
                          have hcz44_0 : wr.cell? ⟨gb119, 0, none⟩ = some (.int .i64 a1_0) := (blk_cell BK119.out 0).trans rfl
                          have hcz44_1 : wr.cell? ⟨gb119, 1, none⟩ = some (.int .i64 a1_1) := (blk_cell BK119.out 1).trans rfl
                          have hcz44_2 : wr.cell? ⟨gb119, 2, none⟩ = some (.slice A1_2 l1_2.length c1_2) := (blk_cell BK119.out 2).trans rfl
                          have hcz44_3 : wr.cell? ⟨gb119, 3, none⟩ = some (.slice A1_3 l1_3.length c1_3) := (blk_cell BK119.out 3).trans rfl
                          have hfz44_0 := blk_frozen BK119.out 0
                          have hfz44_1 := blk_frozen BK119.out 1
                          have hfz44_2 := blk_frozen BK119.out 2
                          have hfz44_3 := blk_frozen BK119.out 3
                          have p122 : 0 ≤ (x6_3 : Int) := of_decide_eq_true (by first | (with_reducible assumption) | assumption)
                          have q122 : x6_3 < (l1_3.length : Int) := of_decide_eq_true (by first | (with_reducible assumption) | assumption)
                          obtain ⟨ad122, e122, hx122_0⟩ := Kd.at_int HR1_3.out x6_3 p122 q122
                          cases e122
                          replace hx122_0 := (HB.out.cell (World.block_lt_of_cell? w _ hx122_0)).trans hx122_0
                          replace p122 := eq_true p122
                          replace q122 := eq_true q122
                          have p123 : 0 ≤ (x6_3 : Int) := of_decide_eq_true (by first | (with_reducible assumption) | assumption)
                          have q123 : x6_3 < (l1_3.length : Int) := of_decide_eq_true (by first | (with_reducible assumption) | assumption)
                          obtain ⟨ad123, e123, hx123_0⟩ := Kd.at_int HR1_3.out x6_3 p123 q123
                          obtain rfl : ad122 = ad123 := (by injection e123)
                          replace hx123_0 := (HB.out.cell (World.block_lt_of_cell? w _ hx123_0)).trans hx123_0
                          replace p123 := eq_true p123
                          replace q123 := eq_true q123
                          have hcz45_0 : wr.cell? ⟨gb118, 0, none⟩ = some (.slice A0_0 l0_0.length c0_0) := (blk_cell BK118.out 0).trans rfl
                          have hcz45_1 : wr.cell? ⟨gb118, 1, none⟩ = some (.slice A0_1 l0_1.length c0_1) := (blk_cell BK118.out 1).trans rfl
                          have hcz45_2 : wr.cell? ⟨gb118, 2, none⟩ = some (.slice A0_2 l0_2.length c0_2) := (blk_cell BK118.out 2).trans rfl
                          have hcz45_3 : wr.cell? ⟨gb118, 3, none⟩ = some (.int .i64 a0_3) := (blk_cell BK118.out 3).trans rfl
                          have hcz45_4 : wr.cell? ⟨gb118, 4, none⟩ = some (.int .i64 a0_4) := (blk_cell BK118.out 4).trans rfl
                          have hcz45_5 : wr.cell? ⟨gb118, 5, none⟩ = some (.int .i64 a0_5) := (blk_cell BK118.out 5).trans rfl
                          have hcz45_6 : wr.cell? ⟨gb118, 6, none⟩ = some (.int .i64 a0_6) := (blk_cell BK118.out 6).trans rfl
                          have hcz45_7 : wr.cell? ⟨gb118, 7, none⟩ = some (.int .i64 a0_7) := (blk_cell BK118.out 7).trans rfl
                          have hcz45_8 : wr.cell? ⟨gb118, 8, none⟩ = some (.int .i64 a0_8) := (blk_cell BK118.out 8).trans rfl
                          have hfz45_0 := blk_frozen BK118.out 0
                          have hfz45_1 := blk_frozen BK118.out 1
                          have hfz45_2 := blk_frozen BK118.out 2
                          have hfz45_3 := blk_frozen BK118.out 3
                          have hfz45_4 := blk_frozen BK118.out 4
                          have hfz45_5 := blk_frozen BK118.out 5
                          have hfz45_6 := blk_frozen BK118.out 6
                          have hfz45_7 := blk_frozen BK118.out 7
                          have hfz45_8 := blk_frozen BK118.out 8
                          go_wp2
                          repeat (go_quiet (fail); try go_wp2)
                          go_ret
                          exact ⟨by first | rfl | (simp [errW_none, errW_some] <;> rfl) | (simp [*, errW_none, errW_some] <;> rfl), by repeat (first | (with_reducible first | exact HB.out | apply below_alloc | apply pw_below_drewN | apply below_drew1 | refine below_set ?_ GE118.out | refine below_set ?_ GE119.out) | exact HB.out)⟩
                        · rw [if_neg c42] at H
                          have c42b0 : decide ((l0_2.length : Int) ≤ (rd l1_3 x6_3)) = false := decide_eq_false c42
                          clear c42
                          by_cases c46 : x6_3 > 0
                          · rw [if_pos c46] at H
                            have c46b0 : decide (0 < x6_3) = true := decide_eq_true c46
                            clear c46
                            obtain ⟨ji47, hji47⟩ : ∃ j_ : Int, (wrap64 (x6_3 - 1)) = j_ := ⟨_, rfl⟩
                            replace H : (if 0 ≤ (ji47) then (if (ji47) < (l1_3.length : Int) then (if (rd l1_3 (ji47)) ≥ (rd l1_3 x6_3) then (some false) else (dormouseref09_Task.l1 k3 (wrap64 (x6_3 + 1)) l0_0 l0_1 l0_2 a0_3 a0_4 a0_5 a0_6 a0_7 a0_8 a1_0 a1_1 l1_2 l1_3)) else (none)) else (none)) = some r := by first | (rw [hji47] at H; exact H) | (simp only [hji47] at H ⊢; exact H)
                            have hji47w : (IntKind.i64.wrap (x6_3 - 1)) = ji47 := (i64_w _).trans hji47
                            by_cases c48 : 0 ≤ (ji47)
                            · rw [if_pos c48] at H
                              have c48b0 : decide (0 ≤ (ji47)) = true := decide_eq_true c48
                              clear c48
                              by_cases c49 : (ji47) < (l1_3.length : Int)
                              · rw [if_pos c49] at H
                                have c49b0 : decide ((ji47) < (l1_3.length : Int)) = true := decide_eq_true c49
                                clear c49
                                by_cases c50 : (rd l1_3 (ji47)) ≥ (rd l1_3 x6_3)
                                · rw [if_pos c50] at H
                                  have c50b0 : decide ((rd l1_3 x6_3) ≤ (rd l1_3 (ji47))) = true := decide_eq_true c50
                                  clear c50
                                  obtain rfl := Option.some.inj H
                                  have hnb51 := NB119_118.out
                                  have hnc51 := NB118_119.out
                                  have hcz52_0 : wr.cell? ⟨gb119, 0, none⟩ = some (.int .i64 a1_0) := (blk_cell BK119.out 0).trans rfl
                                  have hcz52_1 : wr.cell? ⟨gb119, 1, none⟩ = some (.int .i64 a1_1) := (blk_cell BK119.out 1).trans rfl
                                  have hcz52_2 : wr.cell? ⟨gb119, 2, none⟩ = some (.slice A1_2 l1_2.length c1_2) := (blk_cell BK119.out 2).trans rfl
                                  have hcz52_3 : wr.cell? ⟨gb119, 3, none⟩ = some (.slice A1_3 l1_3.length c1_3) := (blk_cell BK119.out 3).trans rfl
                                  have hfz52_0 := blk_frozen BK119.out 0
                                  have hfz52_1 := blk_frozen BK119.out 1
                                  have hfz52_2 := blk_frozen BK119.out 2
                                  have hfz52_3 := blk_frozen BK119.out 3
                                  have p122 : 0 ≤ (x6_3 : Int) := of_decide_eq_true (by first | (with_reducible assumption) | assumption)
                                  have q122 : x6_3 < (l1_3.length : Int) := of_decide_eq_true (by first | (with_reducible assumption) | assumption)
                                  obtain ⟨ad122, e122, hx122_0⟩ := Kd.at_int HR1_3.out x6_3 p122 q122
                                  cases e122
                                  replace hx122_0 := (HB.out.cell (World.block_lt_of_cell? w _ hx122_0)).trans hx122_0
                                  replace p122 := eq_true p122
                                  replace q122 := eq_true q122
                                  have p123 : 0 ≤ (x6_3 : Int) := of_decide_eq_true (by first | (with_reducible assumption) | assumption)
                                  have q123 : x6_3 < (l1_3.length : Int) := of_decide_eq_true (by first | (with_reducible assumption) | assumption)
                                  obtain ⟨ad123, e123, hx123_0⟩ := Kd.at_int HR1_3.out x6_3 p123 q123
                                  obtain rfl : ad122 = ad123 := (by injection e123)
                                  replace hx123_0 := (HB.out.cell (World.block_lt_of_cell? w _ hx123_0)).trans hx123_0
                                  replace p123 := eq_true p123
                                  replace q123 := eq_true q123
                                  have hcz53_0 : wr.cell? ⟨gb118, 0, none⟩ = some (.slice A0_0 l0_0.length c0_0) := (blk_cell BK118.out 0).trans rfl
                                  have hcz53_1 : wr.cell? ⟨gb118, 1, none⟩ = some (.slice A0_1 l0_1.length c0_1) := (blk_cell BK118.out 1).trans rfl
                                  have hcz53_2 : wr.cell? ⟨gb118, 2, none⟩ = some (.slice A0_2 l0_2.length c0_2) := (blk_cell BK118.out 2).trans rfl
                                  have hcz53_3 : wr.cell? ⟨gb118, 3, none⟩ = some (.int .i64 a0_3) := (blk_cell BK118.out 3).trans rfl
                                  have hcz53_4 : wr.cell? ⟨gb118, 4, none⟩ = some (.int .i64 a0_4) := (blk_cell BK118.out 4).trans rfl
                                  have hcz53_5 : wr.cell? ⟨gb118, 5, none⟩ = some (.int .i64 a0_5) := (blk_cell BK118.out 5).trans rfl
                                  have hcz53_6 : wr.cell? ⟨gb118, 6, none⟩ = some (.int .i64 a0_6) := (blk_cell BK118.out 6).trans rfl
                                  have hcz53_7 : wr.cell? ⟨gb118, 7, none⟩ = some (.int .i64 a0_7) := (blk_cell BK118.out 7).trans rfl
                                  have hcz53_8 : wr.cell? ⟨gb118, 8, none⟩ = some (.int .i64 a0_8) := (blk_cell BK118.out 8).trans rfl
                                  have hfz53_0 := blk_frozen BK118.out 0
                                  have hfz53_1 := blk_frozen BK118.out 1
                                  have hfz53_2 := blk_frozen BK118.out 2
                                  have hfz53_3 := blk_frozen BK118.out 3
                                  have hfz53_4 := blk_frozen BK118.out 4
                                  have hfz53_5 := blk_frozen BK118.out 5
                                  have hfz53_6 := blk_frozen BK118.out 6
                                  have hfz53_7 := blk_frozen BK118.out 7
                                  have hfz53_8 := blk_frozen BK118.out 8
                                  have p124 : 0 ≤ ((ji47) : Int) := of_decide_eq_true (by first | (with_reducible assumption) | assumption)
                                  have q124 : (ji47) < (l1_3.length : Int) := of_decide_eq_true (by first | (with_reducible assumption) | assumption)
                                  obtain ⟨ad124, e124, hx124_0⟩ := Kd.at_int HR1_3.out (ji47) p124 q124
                                  obtain rfl : ad122 = ad124 := (by injection e124)
                                  replace hx124_0 := (HB.out.cell (World.block_lt_of_cell? w _ hx124_0)).trans hx124_0
                                  replace p124 := eq_true p124
                                  replace q124 := eq_true q124
                                  have p125 : 0 ≤ (x6_3 : Int) := of_decide_eq_true (by first | (with_reducible assumption) | assumption)
                                  have q125 : x6_3 < (l1_3.length : Int) := of_decide_eq_true (by first | (with_reducible assumption) | assumption)
                                  obtain ⟨ad125, e125, hx125_0⟩ := Kd.at_int HR1_3.out x6_3 p125 q125
                                  obtain rfl : ad122 = ad125 := (by injection e125)
                                  replace hx125_0 := (HB.out.cell (World.block_lt_of_cell? w _ hx125_0)).trans hx125_0
                                  replace p125 := eq_true p125
                                  replace q125 := eq_true q125
                                  go_wp2
                                  repeat (go_quiet (fail); try go_wp2)
                                  go_ret
                                  exact ⟨by first | rfl | (simp [errW_none, errW_some] <;> rfl) | (simp only [← hji47]; first | rfl | (simp [errW_none, errW_some] <;> rfl)) | (simp [*, errW_none, errW_some] <;> rfl), by repeat (first | (with_reducible first | exact HB.out | apply below_alloc | apply pw_below_drewN | apply below_drew1 | refine below_set ?_ GE118.out | refine below_set ?_ GE119.out) | exact HB.out)⟩
                                · rw [if_neg c50] at H
                                  have c50b0 : decide ((rd l1_3 x6_3) ≤ (rd l1_3 (ji47))) = false := decide_eq_false c50
                                  clear c50
                                  have H' := Aside0.mk H
                                  clear H
                                  have hnb54 := NB119_118.out
                                  have hnc54 := NB118_119.out
                                  have hcz55_0 : wr.cell? ⟨gb119, 0, none⟩ = some (.int .i64 a1_0) := (blk_cell BK119.out 0).trans rfl
                                  have hcz55_1 : wr.cell? ⟨gb119, 1, none⟩ = some (.int .i64 a1_1) := (blk_cell BK119.out 1).trans rfl
                                  have hcz55_2 : wr.cell? ⟨gb119, 2, none⟩ = some (.slice A1_2 l1_2.length c1_2) := (blk_cell BK119.out 2).trans rfl
                                  have hcz55_3 : wr.cell? ⟨gb119, 3, none⟩ = some (.slice A1_3 l1_3.length c1_3) := (blk_cell BK119.out 3).trans rfl
                                  have hfz55_0 := blk_frozen BK119.out 0
                                  have hfz55_1 := blk_frozen BK119.out 1
                                  have hfz55_2 := blk_frozen BK119.out 2
                                  have hfz55_3 := blk_frozen BK119.out 3
                                  have p122 : 0 ≤ (x6_3 : Int) := of_decide_eq_true (by first | (with_reducible assumption) | assumption)
                                  have q122 : x6_3 < (l1_3.length : Int) := of_decide_eq_true (by first | (with_reducible assumption) | assumption)
                                  obtain ⟨ad122, e122, hx122_0⟩ := Kd.at_int HR1_3.out x6_3 p122 q122
                                  cases e122
                                  replace hx122_0 := (HB.out.cell (World.block_lt_of_cell? w _ hx122_0)).trans hx122_0
                                  replace p122 := eq_true p122
                                  replace q122 := eq_true q122
                                  have p123 : 0 ≤ (x6_3 : Int) := of_decide_eq_true (by first | (with_reducible assumption) | assumption)
                                  have q123 : x6_3 < (l1_3.length : Int) := of_decide_eq_true (by first | (with_reducible assumption) | assumption)
                                  obtain ⟨ad123, e123, hx123_0⟩ := Kd.at_int HR1_3.out x6_3 p123 q123
                                  obtain rfl : ad122 = ad123 := (by injection e123)
                                  replace hx123_0 := (HB.out.cell (World.block_lt_of_cell? w _ hx123_0)).trans hx123_0
                                  replace p123 := eq_true p123
                                  replace q123 := eq_true q123
                                  have hcz56_0 : wr.cell? ⟨gb118, 0, none⟩ = some (.slice A0_0 l0_0.length c0_0) := (blk_cell BK118.out 0).trans rfl
                                  have hcz56_1 : wr.cell? ⟨gb118, 1, none⟩ = some (.slice A0_1 l0_1.length c0_1) := (blk_cell BK118.out 1).trans rfl
                                  have hcz56_2 : wr.cell? ⟨gb118, 2, none⟩ = some (.slice A0_2 l0_2.length c0_2) := (blk_cell BK118.out 2).trans rfl
                                  have hcz56_3 : wr.cell? ⟨gb118, 3, none⟩ = some (.int .i64 a0_3) := (blk_cell BK118.out 3).trans rfl
                                  have hcz56_4 : wr.cell? ⟨gb118, 4, none⟩ = some (.int .i64 a0_4) := (blk_cell BK118.out 4).trans rfl
                                  have hcz56_5 : wr.cell? ⟨gb118, 5, none⟩ = some (.int .i64 a0_5) := (blk_cell BK118.out 5).trans rfl
                                  have hcz56_6 : wr.cell? ⟨gb118, 6, none⟩ = some (.int .i64 a0_6) := (blk_cell BK118.out 6).trans rfl
                                  have hcz56_7 : wr.cell? ⟨gb118, 7, none⟩ = some (.int .i64 a0_7) := (blk_cell BK118.out 7).trans rfl
                                  have hcz56_8 : wr.cell? ⟨gb118, 8, none⟩ = some (.int .i64 a0_8) := (blk_cell BK118.out 8).trans rfl
                                  have hfz56_0 := blk_frozen BK118.out 0
                                  have hfz56_1 := blk_frozen BK118.out 1
                                  have hfz56_2 := blk_frozen BK118.out 2
                                  have hfz56_3 := blk_frozen BK118.out 3
                                  have hfz56_4 := blk_frozen BK118.out 4
                                  have hfz56_5 := blk_frozen BK118.out 5
                                  have hfz56_6 := blk_frozen BK118.out 6
                                  have hfz56_7 := blk_frozen BK118.out 7
                                  have hfz56_8 := blk_frozen BK118.out 8
                                  have p124 : 0 ≤ ((ji47) : Int) := of_decide_eq_true (by first | (with_reducible assumption) | assumption)
                                  have q124 : (ji47) < (l1_3.length : Int) := of_decide_eq_true (by first | (with_reducible assumption) | assumption)
                                  obtain ⟨ad124, e124, hx124_0⟩ := Kd.at_int HR1_3.out (ji47) p124 q124
                                  obtain rfl : ad122 = ad124 := (by injection e124)
                                  replace hx124_0 := (HB.out.cell (World.block_lt_of_cell? w _ hx124_0)).trans hx124_0
                                  replace p124 := eq_true p124
                                  replace q124 := eq_true q124
                                  have p125 : 0 ≤ (x6_3 : Int) := of_decide_eq_true (by first | (with_reducible assumption) | assumption)
                                  have q125 : x6_3 < (l1_3.length : Int) := of_decide_eq_true (by first | (with_reducible assumption) | assumption)
                                  obtain ⟨ad125, e125, hx125_0⟩ := Kd.at_int HR1_3.out x6_3 p125 q125
                                  obtain rfl : ad122 = ad125 := (by injection e125)
                                  replace hx125_0 := (HB.out.cell (World.block_lt_of_cell? w _ hx125_0)).trans hx125_0
                                  replace p125 := eq_true p125
                                  replace q125 := eq_true q125
                                  go_wp2
                                  repeat (go_quiet (fail); try go_wp2)
                                  go_roundg k3
                                  case measure => have := HJ2.out; have := HK2.out; have := HK3.out; omega
                                  case rel => exact ⟨(wrap64 (x6_3 + 1)), (by first | rfl | (simp; done) | (simp [*]; done)), H', ⟨by have := HJ2.out; have := HK2.out; have := HK3.out; omega⟩, ⟨by (with_reducible repeat (first | refine blk_drewN ?_ _ | refine blk_drew ?_ | refine blk_alloc ?_ _)); exact BK118.out⟩, ⟨by (with_reducible repeat (first | refine blk_drewN ?_ _ | refine blk_drew ?_ | refine blk_alloc ?_ _)); exact BK119.out⟩, ⟨by repeat (first | (with_reducible first | exact HB.out | apply below_alloc | apply pw_below_drewN | apply below_drew1 | refine below_set ?_ GE118.out | refine below_set ?_ GE119.out) | exact HB.out)⟩⟩
                              · rw [if_neg c49] at H
                                exact absurd H (by simp)
                            · rw [if_neg c48] at H
                              exact absurd H (by simp)
                          · rw [if_neg c46] at H
                            have c46b0 : decide (0 < x6_3) = false := decide_eq_false c46
                            clear c46
                            have H' := Aside0.mk H
                            clear H
                            have hnb57 := NB119_118.out
                            have hnc57 := NB118_119.out
                            have hcz58_0 : wr.cell? ⟨gb119, 0, none⟩ = some (.int .i64 a1_0) := (blk_cell BK119.out 0).trans rfl
                            have hcz58_1 : wr.cell? ⟨gb119, 1, none⟩ = some (.int .i64 a1_1) := (blk_cell BK119.out 1).trans rfl
                            have hcz58_2 : wr.cell? ⟨gb119, 2, none⟩ = some (.slice A1_2 l1_2.length c1_2) := (blk_cell BK119.out 2).trans rfl
                            have hcz58_3 : wr.cell? ⟨gb119, 3, none⟩ = some (.slice A1_3 l1_3.length c1_3) := (blk_cell BK119.out 3).trans rfl
                            have hfz58_0 := blk_frozen BK119.out 0
                            have hfz58_1 := blk_frozen BK119.out 1
                            have hfz58_2 := blk_frozen BK119.out 2
                            have hfz58_3 := blk_frozen BK119.out 3
                            have p122 : 0 ≤ (x6_3 : Int) := of_decide_eq_true (by first | (with_reducible assumption) | assumption)
                            have q122 : x6_3 < (l1_3.length : Int) := of_decide_eq_true (by first | (with_reducible assumption) | assumption)
                            obtain ⟨ad122, e122, hx122_0⟩ := Kd.at_int HR1_3.out x6_3 p122 q122
                            cases e122
                            replace hx122_0 := (HB.out.cell (World.block_lt_of_cell? w _ hx122_0)).trans hx122_0
                            replace p122 := eq_true p122
                            replace q122 := eq_true q122
                            have p123 : 0 ≤ (x6_3 : Int) := of_decide_eq_true (by first | (with_reducible assumption) | assumption)
                            have q123 : x6_3 < (l1_3.length : Int) := of_decide_eq_true (by first | (with_reducible assumption) | assumption)
                            obtain ⟨ad123, e123, hx123_0⟩ := Kd.at_int HR1_3.out x6_3 p123 q123
                            obtain rfl : ad122 = ad123 := (by injection e123)
                            replace hx123_0 := (HB.out.cell (World.block_lt_of_cell? w _ hx123_0)).trans hx123_0
                            replace p123 := eq_true p123
                            replace q123 := eq_true q123
                            have hcz59_0 : wr.cell? ⟨gb118, 0, none⟩ = some (.slice A0_0 l0_0.length c0_0) := (blk_cell BK118.out 0).trans rfl
                            have hcz59_1 : wr.cell? ⟨gb118, 1, none⟩ = some (.slice A0_1 l0_1.length c0_1) := (blk_cell BK118.out 1).trans rfl
                            have hcz59_2 : wr.cell? ⟨gb118, 2, none⟩ = some (.slice A0_2 l0_2.length c0_2) := (blk_cell BK118.out 2).trans rfl
                            have hcz59_3 : wr.cell? ⟨gb118, 3, none⟩ = some (.int .i64 a0_3) := (blk_cell BK118.out 3).trans rfl
                            have hcz59_4 : wr.cell? ⟨gb118, 4, none⟩ = some (.int .i64 a0_4) := (blk_cell BK118.out 4).trans rfl
                            have hcz59_5 : wr.cell? ⟨gb118, 5, none⟩ = some (.int .i64 a0_5) := (blk_cell BK118.out 5).trans rfl
                            have hcz59_6 : wr.cell? ⟨gb118, 6, none⟩ = some (.int .i64 a0_6) := (blk_cell BK118.out 6).trans rfl
                            have hcz59_7 : wr.cell? ⟨gb118, 7, none⟩ = some (.int .i64 a0_7) := (blk_cell BK118.out 7).trans rfl
                            have hcz59_8 : wr.cell? ⟨gb118, 8, none⟩ = some (.int .i64 a0_8) := (blk_cell BK118.out 8).trans rfl
                            have hfz59_0 := blk_frozen BK118.out 0
                            have hfz59_1 := blk_frozen BK118.out 1
                            have hfz59_2 := blk_frozen BK118.out 2
                            have hfz59_3 := blk_frozen BK118.out 3
                            have hfz59_4 := blk_frozen BK118.out 4
                            have hfz59_5 := blk_frozen BK118.out 5
                            have hfz59_6 := blk_frozen BK118.out 6
                            have hfz59_7 := blk_frozen BK118.out 7
                            have hfz59_8 := blk_frozen BK118.out 8
                            go_wp2
                            repeat (go_quiet (fail); try go_wp2)
                            go_roundg k3
                            case measure => have := HJ2.out; have := HK2.out; have := HK3.out; omega
                            case rel => exact ⟨(wrap64 (x6_3 + 1)), (by first | rfl | (simp; done) | (simp [*]; done)), H', ⟨by have := HJ2.out; have := HK2.out; have := HK3.out; omega⟩, ⟨by (with_reducible repeat (first | refine blk_drewN ?_ _ | refine blk_drew ?_ | refine blk_alloc ?_ _)); exact BK118.out⟩, ⟨by (with_reducible repeat (first | refine blk_drewN ?_ _ | refine blk_drew ?_ | refine blk_alloc ?_ _)); exact BK119.out⟩, ⟨by repeat (first | (with_reducible first | exact HB.out | apply below_alloc | apply pw_below_drewN | apply below_drew1 | refine below_set ?_ GE118.out | refine below_set ?_ GE119.out) | exact HB.out)⟩⟩
                    · rw [if_neg c38] at H
                      exact absurd H (by simp)
                  · rw [if_neg c37] at H
                    have c37b0 : decide (x6_3 < (l1_3.length : Int)) = false := decide_eq_false c37
                    clear c37
                    obtain rfl := Option.some.inj H
                    have hnb60 := NB119_118.out
                    have hnc60 := NB118_119.out
                    have hcz61_0 : wr.cell? ⟨gb119, 0, none⟩ = some (.int .i64 a1_0) := (blk_cell BK119.out 0).trans rfl
                    have hcz61_1 : wr.cell? ⟨gb119, 1, none⟩ = some (.int .i64 a1_1) := (blk_cell BK119.out 1).trans rfl
                    have hcz61_2 : wr.cell? ⟨gb119, 2, none⟩ = some (.slice A1_2 l1_2.length c1_2) := (blk_cell BK119.out 2).trans rfl
                    have hcz61_3 : wr.cell? ⟨gb119, 3, none⟩ = some (.slice A1_3 l1_3.length c1_3) := (blk_cell BK119.out 3).trans rfl
                    have hfz61_0 := blk_frozen BK119.out 0
                    have hfz61_1 := blk_frozen BK119.out 1
                    have hfz61_2 := blk_frozen BK119.out 2
                    have hfz61_3 := blk_frozen BK119.out 3
                    go_wp2
                    repeat (go_quiet (fail); try go_wp2)
                    go_ret
                    exact ⟨by first | rfl | (simp [errW_none, errW_some] <;> rfl) | (simp [*, errW_none, errW_some] <;> rfl), by repeat (first | (with_reducible first | exact HB.out | apply below_alloc | apply pw_below_drewN | apply below_drew1 | refine below_set ?_ GE118.out | refine below_set ?_ GE119.out) | exact HB.out)⟩
end Go.Proofs.Ytchlbnlhjllcbaa.F
namespace Go.Proofs.Ytchlbnlhjllcbaa.Adm
open Go.RowKit Go.Proofs.Ytchlbnlhjllcbaa.F Go.Proofs.Ytchlbnlhjllcbaa.Tbl Go.Proofs.YtchlbnlhjllcbaaW.PrintWords Go.Proofs.YtchlbnlhjllcbaaW.PrintLast
open Classical in
noncomputable def taskB (nd : Nat) (sems hor : Int) (t : S36) : Bool := decide (TaskOk nd sems hor t)
theorem taskB_no {nd : Nat} {sems hor : Int} {t : S36} (h : ¬ TaskOk nd sems hor t) : taskB nd sems hor t = false := by simp [taskB, h]
theorem taskB_yes {nd : Nat} {sems hor : Int} {t : S36} (h : TaskOk nd sems hor t) : taskB nd sems hor t = true := by simp [taskB, h]
section
variable {l0 : List S58} {l1 : List S68} {l2 : List S71} {idle crit sw swE sems hor : Int}
theorem dev_loop (t : S36) (hnd : l2.length ≤ 1000) (hp : 1 ≤ t.f0 ∧ t.f0 ≤ hor) (hc : 1 ≤ t.f1 ∧ t.f1 ≤ 4096) (hs : (t.f2.length : Int) ≤ sems) (hsec : ∀ i : Int, 0 ≤ i → i < t.f2.length → 0 ≤ rd t.f2 i ∧ rd t.f2 i ≤ t.f1) :
    ∀ (d k i : Nat), i ≤ t.f3.length → l2.length + 2 ≤ i + d → d < k → (∀ j : Nat, j < i → (j : Int) ≤ rd t.f3 j ∧ rd t.f3 j < l2.length) → (∀ j : Int, 0 < j → j < i → rd t.f3 (j - 1) < rd t.f3 j) →
    dormouseref09_Task.l1 k i l0 l1 l2 idle crit sw swE sems hor t.f0 t.f1 t.f2 t.f3 = some (taskB l2.length sems hor t)
  | 0, k, i, hi, hd, hk, h1, h2 => by
    exfalso
    have := h1 (i - 1) (by omega)
    rw [show ((i - 1 : Nat) : Int) = (i : Int) - 1 from by omega] at this
    omega
  | d + 1, k, i, hi, hd, hk, h1, h2 => by
    obtain ⟨k, rfl⟩ : ∃ q, k = q + 1 := ⟨k - 1, by omega⟩
    have hi2 : i ≤ l2.length + 1 := by
      rcases Nat.eq_zero_or_pos i with h | h
      · omega
      · have := h1 (i - 1) (by omega)
        rw [show ((i - 1 : Nat) : Int) = (i : Int) - 1 from by omega] at this
        omega
    simp only [dormouseref09_Task.l1]
    by_cases c1 : (i : Int) < t.f3.length
    · rw [if_pos c1, if_pos (by omega)]
      by_cases c2 : rd t.f3 i < 0
      · rw [if_pos c2, taskB_no (fun x => by have := x.dev i (by omega) c1; omega)]
      · rw [if_neg c2]
        by_cases c3 : rd t.f3 i ≥ (l2.length : Int)
        · rw [if_pos c3, taskB_no (fun x => by have := x.dev i (by omega) c1; omega)]
        · rw [if_neg c3]
          have go : (∀ j : Int, 0 < j → j < (i + 1 : Nat) → rd t.f3 (j - 1) < rd t.f3 j) → ((i : Int) ≤ rd t.f3 i) → dormouseref09_Task.l1 k (wrap64 ((i : Int) + 1)) l0 l1 l2 idle crit sw swE sems hor t.f0 t.f1 t.f2 t.f3 = some (taskB l2.length sems hor t) := by
            intro hr hge
            have := dev_loop t hnd hp hc hs hsec d k (i + 1) (by omega) (by omega) (by omega) (fun j hj => by
              rcases Nat.lt_or_ge j i with h | h
              · exact h1 j h
              · obtain rfl : j = i := by omega
                exact ⟨hge, by omega⟩) hr
            rw [w64 (n := (i : Int) + 1) (by omega) (by omega)]
            rw [show ((i + 1 : Nat) : Int) = (i : Int) + 1 from by omega] at this
            exact this
          by_cases c4 : (i : Int) > 0
          · have e : wrap64 ((i : Int) - 1) = (i : Int) - 1 := w64 (by omega) (by omega)
            rw [if_pos c4, e, if_pos (by omega), if_pos (by omega)]
            by_cases c5 : rd t.f3 ((i : Int) - 1) ≥ rd t.f3 i
            · rw [if_pos c5, taskB_no (fun x => by have := x.rising i c4 c1; omega)]
            · rw [if_neg c5]
              refine go (fun j hj hj2 => ?_) ?_
              · rcases Int.lt_or_le j i with h | h
                · exact h2 j hj h
                · obtain rfl : j = i := by omega
                  omega
              · have := h1 (i - 1) (by omega)
                rw [show ((i - 1 : Nat) : Int) = (i : Int) - 1 from by omega] at this
                omega
          · rw [if_neg c4]
            exact go (fun j hj hj2 => by omega) (by omega)
    · rw [if_neg c1]
      rw [taskB_yes ⟨hp, hc, hs, hsec, fun j hj hj2 => ?_, fun j hj hj2 => h2 j hj (by omega)⟩]
      have := h1 j.toNat (by omega)
      rw [show (j.toNat : Int) = j from by omega] at this
      omega
theorem sec_loop (t : S36) (hnd : l2.length ≤ 1000) (hsm : sems ≤ 3) (hp : 1 ≤ t.f0 ∧ t.f0 ≤ hor) (hc : 1 ≤ t.f1 ∧ t.f1 ≤ 4096) (hs : (t.f2.length : Int) ≤ sems) :
    ∀ (d k i : Nat), i + d = t.f2.length → 1010 + d < k → (∀ j : Int, 0 ≤ j → j < i → 0 ≤ rd t.f2 j ∧ rd t.f2 j ≤ t.f1) →
    dormouseref09_Task.l0 k i l0 l1 l2 idle crit sw swE sems hor t.f0 t.f1 t.f2 t.f3 = some (taskB l2.length sems hor t)
  | 0, k, i, hi, hk, h1 => by
    obtain ⟨k, rfl⟩ : ∃ q, k = q + 1 := ⟨k - 1, by omega⟩
    simp only [dormouseref09_Task.l0]
    rw [if_neg (by omega)]
    have := dev_loop (l0 := l0) (l1 := l1) (idle := idle) (crit := crit) (sw := sw) (swE := swE) (sems := sems) (hor := hor) t hnd hp hc hs (fun j hj hj2 => h1 j hj (by omega)) (l2.length + 2) k 0 (by omega) (by omega) (by omega) (fun j hj => by omega) (fun j hj hj2 => by omega)
    rw [show ((0 : Nat) : Int) = 0 from rfl] at this
    exact this
  | d + 1, k, i, hi, hk, h1 => by
    obtain ⟨k, rfl⟩ : ∃ q, k = q + 1 := ⟨k - 1, by omega⟩
    simp only [dormouseref09_Task.l0]
    have c1 : (i : Int) < t.f2.length := by omega
    rw [if_pos c1, if_pos (by omega)]
    by_cases c2 : rd t.f2 i < 0
    · rw [if_pos c2, taskB_no (fun x => by have := x.sec i (by omega) c1; omega)]
    · rw [if_neg c2]
      by_cases c3 : rd t.f2 i > t.f1
      · rw [if_pos c3, taskB_no (fun x => by have := x.sec i (by omega) c1; omega)]
      · rw [if_neg c3, w64 (n := (i : Int) + 1) (by omega) (by omega)]
        have := sec_loop t hnd hsm hp hc hs d k (i + 1) (by omega) (by omega) (fun j hj hj2 => by
          rcases Int.lt_or_le j i with h | h
          · exact h1 j hj h
          · obtain rfl : j = i := by omega
            omega)
        rw [show ((i + 1 : Nat) : Int) = (i : Int) + 1 from by omega] at this
        exact this
theorem task_some (t : S36) (hnd : l2.length ≤ 1000) (hsm : sems ≤ 3) {k : Nat} (hk : 1100 < k) :
    dormouseref09_Task.f k l0 l1 l2 idle crit sw swE sems hor t.f0 t.f1 t.f2 t.f3 = some (taskB l2.length sems hor t) := by
  obtain ⟨k, rfl⟩ : ∃ q, k = q + 1 := ⟨k - 1, by omega⟩
  unfold dormouseref09_Task.f
  by_cases c1 : t.f0 < 1
  · rw [if_pos c1, taskB_no (fun x => by have := x.period; omega)]; simp [dormouseref09_Task.j0]
  rw [if_neg c1]
  by_cases c2 : t.f0 > hor
  · rw [if_pos c2, taskB_no (fun x => by have := x.period; omega)]; simp [dormouseref09_Task.j0]
  rw [if_neg c2]
  by_cases c3 : t.f1 < 1
  · rw [if_pos c3, taskB_no (fun x => by have := x.cycles; omega)]; simp [dormouseref09_Task.j0]
  rw [if_neg c3]
  by_cases c4 : t.f1 > 4096
  · rw [if_pos c4, taskB_no (fun x => by have := x.cycles; omega)]; simp [dormouseref09_Task.j0]
  rw [if_neg c4]
  by_cases c5 : (t.f2.length : Int) > sems
  · rw [decide_eq_true c5, taskB_no (fun x => by have := x.secs; omega)]; simp [dormouseref09_Task.j0]
  · rw [decide_eq_false c5]
    simp only [dormouseref09_Task.j0]
    rw [if_neg (by simp)]
    have := sec_loop (l0 := l0) (l1 := l1) (l2 := l2) (idle := idle) (crit := crit) (sw := sw) (swE := swE) (sems := sems) (hor := hor) t hnd hsm (by omega) (by omega) (by omega) t.f2.length k 0 (by omega) (by omega) (fun j hj hj2 => by omega)
    rw [show ((0 : Nat) : Int) = 0 from rfl] at this
    exact this
end
end Go.Proofs.Ytchlbnlhjllcbaa.Adm
