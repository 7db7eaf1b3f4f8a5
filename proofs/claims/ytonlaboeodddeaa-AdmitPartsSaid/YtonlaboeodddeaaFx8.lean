-- Told by the kit's print.py out of this seat's translation, for this session's own texts (not a PRINTED file).
import Derived.Test.YtonlaboeodddeaaFx0
import Derived.Test.YtonlaboeodddeaaFx6
import Derived.Test.YtonlaboeodddeaaFx7
namespace Go.Proofs.Ytonlaboeodddeaa.F
open Go.RowKit Go.Proofs.YtonlaboeodddeaaW.PrintWords Go.Proofs.YtonlaboeodddeaaW.PrintLast Go.Proofs.YtonlaboeodddeaaW.PrintMore
attribute [local go_sem] max2_int min2_int max_two min_two max_three min_three max_four min_four   -- for this text's walks alone
set_option linter.unusedVariables false
set_option linter.unusedSimpArgs false

/-! ### admit_longest: function 31 -/
mutual
def admit_longest.l0 : Nat → List (S29) → Int → Int → List (S29) → Int → Int → Option (Int)
  | 0, _, _, _, _, _, _ => none
  | k + 1, x1, x2, x7, x11, x12, x13 => if x13 < x12 then (if 0 ≤ x13 then (if x13 < (x11.length : Int) then (admit_longest.l1 k x1 x2 x7 x11 x12 x13 (((rd_T29 x11 x13).f2).length : Int) 0 ((rd_T29 x11 x13).f0) ((rd_T29 x11 x13).f1) ((rd_T29 x11 x13).f2) ((rd_T29 x11 x13).f3)) else (none)) else (none)) else (some x7)
def admit_longest.l1 : Nat → List (S29) → Int → Int → List (S29) → Int → Int → Int → Int → Int → Int → List Int → List Int → Option (Int)
  | 0, _, _, _, _, _, _, _, _, _, _, _, _ => none
  | k + 1, x1, x2, x7, x11, x12, x13, x19, x20, x135000, x135001, x135002, x135003 => if x20 < x19 then (if x135000 > x2 then ((task_Uses.f x135000 x135001 x135002 x135003 x20).bind fun t135 => (if t135 = true then ((task_Ceiling.f k x1 x20).bind fun t136 => (if t136 ≤ x2 then (if 0 ≤ x20 then (if x20 < (x135002.length : Int) then (admit_longest.l1 k x1 x2 (mx x7 (rd x135002 x20)) x11 x12 x13 x19 (wrap64 (x20 + 1)) x135000 x135001 x135002 x135003) else (none)) else (none)) else (admit_longest.l1 k x1 x2 x7 x11 x12 x13 x19 (wrap64 (x20 + 1)) x135000 x135001 x135002 x135003))) else (admit_longest.l1 k x1 x2 x7 x11 x12 x13 x19 (wrap64 (x20 + 1)) x135000 x135001 x135002 x135003))) else (admit_longest.l1 k x1 x2 x7 x11 x12 x13 x19 (wrap64 (x20 + 1)) x135000 x135001 x135002 x135003)) else (admit_longest.l0 k x1 x2 x7 x11 x12 (wrap64 (x13 + 1)))
end
def admit_longest.f (k : Nat) (l0_0 : List (S34)) (l0_1 : List (S55)) (l0_2 : List (S58)) (a0_3 : Int) (a0_4 : Int) (a0_5 : Int) (a0_6 : Int) (a0_7 : Int) (a0_8 : Int) (l1 : List (S29)) (a2 : Int) : Option (Int) := admit_longest.l0 k l1 a2 0 l1 (l1.length : Int) 0
theorem admit_longest.mono_l : ∀ k, (∀ y0 y1 y2 y3 y4 y5, LeO (admit_longest.l0 k y0 y1 y2 y3 y4 y5) (admit_longest.l0 (k + 1) y0 y1 y2 y3 y4 y5)) ∧ (∀ y0 y1 y2 y3 y4 y5 y6 y7 y8 y9 y10 y11, LeO (admit_longest.l1 k y0 y1 y2 y3 y4 y5 y6 y7 y8 y9 y10 y11) (admit_longest.l1 (k + 1) y0 y1 y2 y3 y4 y5 y6 y7 y8 y9 y10 y11))
  | 0 => ⟨fun _ _ _ _ _ _ r h => by simp [admit_longest.l0] at h, fun _ _ _ _ _ _ _ _ _ _ _ _ r h => by simp [admit_longest.l1] at h⟩
  | k + 1 => by
    obtain ⟨ih0, ih1⟩ := admit_longest.mono_l k
    refine ⟨?_, ?_⟩
    · intro y0 y1 y2 y3 y4 y5
      unfold admit_longest.l0
      repeat' first
      | (with_reducible exact ih0 _ _ _ _ _ _)
      | (with_reducible exact ih1 _ _ _ _ _ _ _ _ _ _ _ _)
      | (with_reducible exact task_Ceiling.mono _ _ _)
      | (with_reducible exact LeO.refl _)
      | (with_reducible exact LeO.none _)
      | (with_reducible refine LeO.ite ?_ ?_)
      | (with_reducible refine LeO.bind ?_ (fun _ => ?_))
      | exact ih0 _ _ _ _ _ _
      | exact ih1 _ _ _ _ _ _ _ _ _ _ _ _
      | exact task_Ceiling.mono _ _ _
      | exact LeO.none _
      | refine LeO.ite ?_ ?_
      | refine LeO.bind ?_ (fun _ => ?_)
    · intro y0 y1 y2 y3 y4 y5 y6 y7 y8 y9 y10 y11
      unfold admit_longest.l1
      repeat' first
      | (with_reducible exact ih0 _ _ _ _ _ _)
      | (with_reducible exact ih1 _ _ _ _ _ _ _ _ _ _ _ _)
      | (with_reducible exact task_Ceiling.mono _ _ _)
      | (with_reducible exact LeO.refl _)
      | (with_reducible exact LeO.none _)
      | (with_reducible refine LeO.ite ?_ ?_)
      | (with_reducible refine LeO.bind ?_ (fun _ => ?_))
      | exact ih0 _ _ _ _ _ _
      | exact ih1 _ _ _ _ _ _ _ _ _ _ _ _
      | exact task_Ceiling.mono _ _ _
      | exact LeO.none _
      | refine LeO.ite ?_ ?_
      | refine LeO.bind ?_ (fun _ => ?_)
theorem admit_longest.mono : ∀ a0 a1 a2 a3 a4 a5 a6 a7 a8 a9 a10 k, LeO (admit_longest.f k a0 a1 a2 a3 a4 a5 a6 a7 a8 a9 a10) (admit_longest.f (k + 1) a0 a1 a2 a3 a4 a5 a6 a7 a8 a9 a10) := by
  intro a0 a1 a2 a3 a4 a5 a6 a7 a8 a9 a10 k
  obtain ⟨ih0, ih1⟩ := admit_longest.mono_l k
  unfold admit_longest.f
  repeat' first
      | (with_reducible exact ih0 _ _ _ _ _ _)
      | (with_reducible exact ih1 _ _ _ _ _ _ _ _ _ _ _ _)
      | (with_reducible exact task_Ceiling.mono _ _ _)
      | (with_reducible exact LeO.refl _)
      | (with_reducible exact LeO.none _)
      | (with_reducible refine LeO.ite ?_ ?_)
      | (with_reducible refine LeO.bind ?_ (fun _ => ?_))
      | exact ih0 _ _ _ _ _ _
      | exact ih1 _ _ _ _ _ _ _ _ _ _ _ _
      | exact task_Ceiling.mono _ _ _
      | exact LeO.none _
      | refine LeO.ite ?_ ?_
      | refine LeO.bind ?_ (fun _ => ?_)
set_option maxHeartbeats 8000000 in
set_option maxRecDepth 100000 in
theorem admit_longest.calls (k : Nat) (A0_0 : Option Addr) (c0_0 : Nat) (l0_0 : List (S34)) (A0_1 : Option Addr) (c0_1 : Nat) (l0_1 : List (S55)) (A0_2 : Option Addr) (c0_2 : Nat) (l0_2 : List (S58)) (a0_3 : Int) (a0_4 : Int) (a0_5 : Int) (a0_6 : Int) (a0_7 : Int) (a0_8 : Int) (A1 : Option Addr) (c1 : Nat) (l1 : List (S29)) (a2 : Int) (r : Int) (w : World) (hr0_0 : Kd.C k34 w A0_0 l0_0.length l0_0) (hc0_0 : l0_0.length ≤ c0_0) (hr0_1 : Kd.C k55 w A0_1 l0_1.length l0_1) (hc0_1 : l0_1.length ≤ c0_1) (hr0_2 : Kd.C k58 w A0_2 l0_2.length l0_2) (hc0_2 : l0_2.length ≤ c0_2) (hr1 : Kd.C k29 w A1 l1.length l1) (hc1 : l1.length ≤ c1) (h : admit_longest.f k l0_0 l0_1 l0_2 a0_3 a0_4 a0_5 a0_6 a0_7 a0_8 l1 a2 = some r) :
    Calls Try.prog 31 #[.agg #[.slice A0_0 l0_0.length c0_0, .slice A0_1 l0_1.length c0_1, .slice A0_2 l0_2.length c0_2, .int .i64 a0_3, .int .i64 a0_4, .int .i64 a0_5, .int .i64 a0_6, .int .i64 a0_7, .int .i64 a0_8], .slice A1 l1.length c1, .int .i64 a2] w fun e w' => e = .returned (.int .i64 r) ∧ Below w.heap.size w w' := by
  have hu26 := Try.underlying26
  have hu29 := Try.underlying29
  have HR0_0 := Aside0.mk hr0_0
  have HC0_0 := Aside0.mk hc0_0
  clear hr0_0 hc0_0
  have HR0_1 := Aside0.mk hr0_1
  have HC0_1 := Aside0.mk hc0_1
  clear hr0_1 hc0_1
  have HR0_2 := Aside0.mk hr0_2
  have HC0_2 := Aside0.mk hc0_2
  clear hr0_2 hc0_2
  have HR1 := Aside0.mk hr1
  have HC1 := Aside0.mk hc1
  clear hr1 hc1
  have HB := Aside0.mk (Below.refl w.heap.size w)
  have H : (admit_longest.l0 k l1 a2 0 l1 (l1.length : Int) 0) = some r := h
  clear h
  have H' := Aside0.mk H
  clear H
  go_enter Try.func31, Try.ntmps31
  go_wp2_with (first | ((with_reducible refine gate_dst (N := 3) rfl ?_); refine box_event ?hg (N := 3) ?hd (cs := #[.slice A0_0 l0_0.length c0_0, .slice A0_1 l0_1.length c0_1, .slice A0_2 l0_2.length c0_2, .int .i64 a0_3, .int .i64 a0_4, .int .i64 a0_5, .int .i64 a0_6, .int .i64 a0_7, .int .i64 a0_8]) (t := 26) ?hr ?_; (case hd => rfl); (case hg => rfl); (case hr => first | (go_simp; done) | (go_simp; rfl)); intro gb132 hg w4 hbox hb; have n0_ := Aside0.mk (below_step (by repeat (first | (with_reducible first | exact HB.out | apply below_alloc | apply pw_below_drewN | apply below_drew1) | exact HB.out)) hb); have n1_ := Aside0.mk (hbox); have n2_ := Aside0.mk ((by rw [hg]; exact (below_size (by repeat (first | (with_reducible first | exact HB.out | apply below_alloc | apply pw_below_drewN | apply below_drew1) | exact HB.out))) : w.heap.size ≤ gb132)); have n3_ := Aside0.mk ((by rw [hg]; exact (below_size (by repeat (first | (with_reducible first | exact HB.out | apply below_alloc | apply pw_below_drewN | apply below_drew1) | exact HB.out))) : w.heap.size ≤ gb132)); clear HB; have HB := n0_; have BK132 := n1_; have GW132 := n2_; have GE132 := n3_; clear n0_ n1_ n2_ n3_; clear hb hbox hg))
  go_loopg [7, 13] k (fun kq v7 v13 w' => ∃ (x7_1 : Int) (x13_1 : Int), v7 = .int .i64 x7_1 ∧ v13 = .int .i64 x13_1 ∧ Aside0 (admit_longest.l0 kq l1 a2 x7_1 l1 (l1.length : Int) x13_1 = some r) ∧ Aside0 (kq ≤ k) ∧ Aside0 (w'.heap[gb132]? = some (.cells #[(.slice A0_0 l0_0.length c0_0), (.slice A0_1 l0_1.length c0_1), (.slice A0_2 l0_2.length c0_2), .int .i64 a0_3, .int .i64 a0_4, .int .i64 a0_5, .int .i64 a0_6, .int .i64 a0_7, .int .i64 a0_8] 26 (0, 0))) ∧ Aside0 (Below w.heap.size w w'))
  case atStart => exact ⟨(0), (0), (by first | rfl | (simp; done) | (simp [*]; done)), (by first | rfl | (simp; done) | (simp [*]; done)), H', ⟨Nat.le_refl _⟩, ⟨by (with_reducible repeat (first | refine blk_drewN ?_ _ | refine blk_drew ?_ | refine blk_alloc ?_ _)); exact BK132.out⟩, ⟨by repeat (first | (with_reducible first | exact HB.out | apply below_alloc | apply pw_below_drewN | apply below_drew1 | refine below_set ?_ GE132.out) | exact HB.out)⟩⟩
  case round =>
    clear H'
    try clear c1
    try clear p2
    try clear c3
    obtain ⟨x7_1, x13_1, rfl, rfl, HA, HK1, BK132, HB⟩ := hrel
    cases gk with
    | zero => exact absurd HA.out (by simp [admit_longest.l0])
    | succ k1 =>
      have H := HA.out
      clear HA
      simp only [admit_longest.l0] at H
      by_cases c5 : x13_1 < (l1.length : Int)
      · rw [if_pos c5] at H
        have c5b0 : decide (x13_1 < (l1.length : Int)) = true := decide_eq_true c5
        clear c5
        by_cases c6 : 0 ≤ x13_1
        · rw [if_pos c6] at H
          have c6b0 : decide (0 ≤ x13_1) = true := decide_eq_true c6
          clear c6
          by_cases c7 : x13_1 < (l1.length : Int)
          · rw [if_pos c7] at H
            have c7b0 : decide (x13_1 < (l1.length : Int)) = true := decide_eq_true c7
            clear c7
            have H' := Aside0.mk H
            clear H
            have p133 : 0 ≤ (x13_1 : Int) := of_decide_eq_true (by first | (with_reducible assumption) | assumption)
            have q133 : x13_1 < (l1.length : Int) := of_decide_eq_true (by first | (with_reducible assumption) | assumption)
            obtain ⟨ad133, A133_2, c133_2, A133_3, c133_3, e133, hx133_0, hx133_1, hx133_2, hx133_3, hl133_2, hi133_2, hl133_3, hi133_3⟩ := at_T29 HR1.out x13_1 p133 q133
            cases e133
            replace hx133_0 := (HB.out.cell (World.block_lt_of_cell? w _ hx133_0)).trans hx133_0
            replace hx133_1 := (HB.out.cell (World.block_lt_of_cell? w _ hx133_1)).trans hx133_1
            replace hx133_2 := (HB.out.cell (World.block_lt_of_cell? w _ hx133_2)).trans hx133_2
            replace hx133_3 := (HB.out.cell (World.block_lt_of_cell? w _ hx133_3)).trans hx133_3
            have HR133_2 := Aside0.mk hi133_2
            have HC133_2 := Aside0.mk hl133_2
            clear hi133_2 hl133_2
            have HR133_3 := Aside0.mk hi133_3
            have HC133_3 := Aside0.mk hl133_3
            clear hi133_3 hl133_3
            replace p133 := eq_true p133
            replace q133 := eq_true q133
            go_wp2_with (first | ((with_reducible refine gate_dst (N := 9) rfl ?_); refine box_event ?hg (N := 9) ?hd (cs := #[.int .i64 0, .int .i64 0, .slice none 0 0, .slice none 0 0]) (t := 29) ?hr ?_; (case hd => rfl); (case hg => rfl); (case hr => first | (go_simp; done) | (go_simp; rfl)); intro gb134 hg w8 hbox hb; have n0_ := Aside0.mk (blk_below (g := gb132) (o := .cells #[.slice A0_0 l0_0.length c0_0, .slice A0_1 l0_1.length c0_1, .slice A0_2 l0_2.length c0_2, .int .i64 a0_3, .int .i64 a0_4, .int .i64 a0_5, .int .i64 a0_6, .int .i64 a0_7, .int .i64 a0_8] 26 (0, 0)) (by (with_reducible repeat (first | refine blk_drewN ?_ _ | refine blk_drew ?_ | refine blk_alloc ?_ _)); exact BK132.out) hb); have n1_ := Aside0.mk (below_step (by repeat (first | (with_reducible first | exact HB.out | apply below_alloc | apply pw_below_drewN | apply below_drew1 | refine below_set ?_ GE132.out) | exact HB.out)) hb); have n2_ := Aside0.mk (hbox); have n3_ := Aside0.mk ((by rw [hg]; exact (below_size (by repeat (first | (with_reducible first | exact HB.out | apply below_alloc | apply pw_below_drewN | apply below_drew1 | refine below_set ?_ GE132.out) | exact HB.out))) : w.heap.size ≤ gb134)); have n4_ := Aside0.mk ((by rw [hg]; exact (below_size (by repeat (first | (with_reducible first | exact HB.out | apply below_alloc | apply pw_below_drewN | apply below_drew1 | refine below_set ?_ GE132.out) | exact HB.out))) : w.heap.size ≤ gb134)); have n5_ := Aside0.mk ((by rw [hg]; exact Nat.ne_of_lt (blk_lt (g := gb132) (o := .cells #[.slice A0_0 l0_0.length c0_0, .slice A0_1 l0_1.length c0_1, .slice A0_2 l0_2.length c0_2, .int .i64 a0_3, .int .i64 a0_4, .int .i64 a0_5, .int .i64 a0_6, .int .i64 a0_7, .int .i64 a0_8] 26 (0, 0)) (by (with_reducible repeat (first | refine blk_drewN ?_ _ | refine blk_drew ?_ | refine blk_alloc ?_ _)); exact BK132.out)) : gb132 ≠ gb134)); have n6_ := Aside0.mk ((by rw [hg]; exact Nat.ne_of_gt (blk_lt (g := gb132) (o := .cells #[.slice A0_0 l0_0.length c0_0, .slice A0_1 l0_1.length c0_1, .slice A0_2 l0_2.length c0_2, .int .i64 a0_3, .int .i64 a0_4, .int .i64 a0_5, .int .i64 a0_6, .int .i64 a0_7, .int .i64 a0_8] 26 (0, 0)) (by (with_reducible repeat (first | refine blk_drewN ?_ _ | refine blk_drew ?_ | refine blk_alloc ?_ _)); exact BK132.out)) : gb134 ≠ gb132)); clear BK132; clear HB; have BK132 := n0_; have HB := n1_; have BK134 := n2_; have GW134 := n3_; have GE134 := n4_; have NB132_134 := n5_; have NB134_132 := n6_; clear n0_ n1_ n2_ n3_ n4_ n5_ n6_; clear hb hbox hg; have hnb9 := NB134_132.out; have hnc9 := NB132_134.out; have hcz10_0 : w8.cell? ⟨gb134, 0, none⟩ = some (.int .i64 0) := (blk_cell BK134.out 0).trans rfl; have hcz10_1 : w8.cell? ⟨gb134, 1, none⟩ = some (.int .i64 0) := (blk_cell BK134.out 1).trans rfl; have hcz10_2 : w8.cell? ⟨gb134, 2, none⟩ = some (.slice none 0 0) := (blk_cell BK134.out 2).trans rfl; have hcz10_3 : w8.cell? ⟨gb134, 3, none⟩ = some (.slice none 0 0) := (blk_cell BK134.out 3).trans rfl; have hfz10_0 := blk_frozen BK134.out 0; have hfz10_1 := blk_frozen BK134.out 1; have hfz10_2 := blk_frozen BK134.out 2; have hfz10_3 := blk_frozen BK134.out 3))
            go_loopg [7, 20] k1 (fun kq v7 v20 w' => ∃ (x7_2 : Int) (x20_2 : Int), v7 = .int .i64 x7_2 ∧ v20 = .int .i64 x20_2 ∧ Aside0 (admit_longest.l1 kq l1 a2 x7_2 l1 (l1.length : Int) x13_1 (((rd_T29 l1 x13_1).f2).length : Int) x20_2 ((rd_T29 l1 x13_1).f0) ((rd_T29 l1 x13_1).f1) ((rd_T29 l1 x13_1).f2) ((rd_T29 l1 x13_1).f3) = some r) ∧ Aside0 (kq ≤ k1) ∧ Aside0 (w'.heap[gb132]? = some (.cells #[(.slice A0_0 l0_0.length c0_0), (.slice A0_1 l0_1.length c0_1), (.slice A0_2 l0_2.length c0_2), .int .i64 a0_3, .int .i64 a0_4, .int .i64 a0_5, .int .i64 a0_6, .int .i64 a0_7, .int .i64 a0_8] 26 (0, 0))) ∧ Aside0 (w'.heap[gb134]? = some (.cells #[.int .i64 ((rd_T29 l1 x13_1).f0), .int .i64 ((rd_T29 l1 x13_1).f1), (.slice A133_2 ((rd_T29 l1 x13_1).f2).length c133_2), (.slice A133_3 ((rd_T29 l1 x13_1).f3).length c133_3)] 29 (0, 0))) ∧ Aside0 (Below w.heap.size w w'))
            case atStart => exact ⟨(x7_1), (0), (by first | rfl | (simp; done) | (simp [*]; done)), (by first | rfl | (simp; done) | (simp [*]; done)), H', ⟨Nat.le_refl _⟩, ⟨by (with_reducible repeat (first | refine blk_drewN ?_ _ | refine blk_drew ?_ | refine blk_alloc ?_ _)); refine blk_far ?_ NB132_134.out _; (with_reducible repeat (first | refine blk_drewN ?_ _ | refine blk_drew ?_ | refine blk_alloc ?_ _)); refine blk_far ?_ NB132_134.out _; (with_reducible repeat (first | refine blk_drewN ?_ _ | refine blk_drew ?_ | refine blk_alloc ?_ _)); refine blk_far ?_ NB132_134.out _; (with_reducible repeat (first | refine blk_drewN ?_ _ | refine blk_drew ?_ | refine blk_alloc ?_ _)); refine blk_far ?_ NB132_134.out _; (with_reducible repeat (first | refine blk_drewN ?_ _ | refine blk_drew ?_ | refine blk_alloc ?_ _)); exact BK132.out⟩, ⟨by (with_reducible repeat (first | refine blk_drewN ?_ _ | refine blk_drew ?_ | refine blk_alloc ?_ _)); refine blk_put (cs := #[.int .i64 ((rd_T29 l1 x13_1).f0), .int .i64 ((rd_T29 l1 x13_1).f1), .slice A133_2 ((rd_T29 l1 x13_1).f2).length c133_2, .slice none 0 0]) ?_ 3 _ rfl; (with_reducible repeat (first | refine blk_drewN ?_ _ | refine blk_drew ?_ | refine blk_alloc ?_ _)); refine blk_put (cs := #[.int .i64 ((rd_T29 l1 x13_1).f0), .int .i64 ((rd_T29 l1 x13_1).f1), .slice none 0 0, .slice none 0 0]) ?_ 2 _ rfl; (with_reducible repeat (first | refine blk_drewN ?_ _ | refine blk_drew ?_ | refine blk_alloc ?_ _)); refine blk_put (cs := #[.int .i64 ((rd_T29 l1 x13_1).f0), .int .i64 0, .slice none 0 0, .slice none 0 0]) ?_ 1 _ rfl; (with_reducible repeat (first | refine blk_drewN ?_ _ | refine blk_drew ?_ | refine blk_alloc ?_ _)); refine blk_put (cs := #[.int .i64 0, .int .i64 0, .slice none 0 0, .slice none 0 0]) ?_ 0 _ rfl; (with_reducible repeat (first | refine blk_drewN ?_ _ | refine blk_drew ?_ | refine blk_alloc ?_ _)); exact BK134.out⟩, ⟨by repeat (first | (with_reducible first | exact HB.out | apply below_alloc | apply pw_below_drewN | apply below_drew1 | refine below_set ?_ GE132.out | refine below_set ?_ GE134.out) | exact HB.out)⟩⟩
            case round =>
              clear H'
              try clear c1
              try clear p1
              try clear q1
              try clear hx1
              try clear p2
              try clear c3
              try clear c5
              try clear c5b0
              try clear c6
              try clear c6b0
              try clear c7
              try clear c7b0
              try clear c9
              try clear hcz10_0
              try clear hcz10_1
              try clear hcz10_2
              try clear hcz10_3
              try clear hfz10_0
              try clear hfz10_1
              try clear hfz10_2
              try clear hfz10_3
              try clear hx133_0
              try clear hx133_1
              try clear hx133_2
              try clear hx133_3
              try clear p133
              try clear p2
              try clear q133
              obtain ⟨x7_2, x20_2, rfl, rfl, HA, HK2, BK132, BK134, HB⟩ := hrel
              cases gk with
              | zero => exact absurd HA.out (by simp [admit_longest.l1])
              | succ k2 =>
                have H := HA.out
                clear HA
                simp only [admit_longest.l1] at H
                by_cases c11 : x20_2 < (((rd_T29 l1 x13_1).f2).length : Int)
                · rw [if_pos c11] at H
                  have c11b0 : decide (x20_2 < (((rd_T29 l1 x13_1).f2).length : Int)) = true := decide_eq_true c11
                  clear c11
                  by_cases c12 : ((rd_T29 l1 x13_1).f0) > a2
                  · rw [if_pos c12] at H
                    have c12b0 : decide (a2 < ((rd_T29 l1 x13_1).f0)) = true := decide_eq_true c12
                    clear c12
                    replace H := Option.bind_eq_some_iff.mp H
                    obtain ⟨t135, A130, H⟩ := H
                    replace H : (if t135 = true then ((task_Ceiling.f k2 l1 x20_2).bind fun t136 => (if t136 ≤ a2 then (if 0 ≤ x20_2 then (if x20_2 < (((rd_T29 l1 x13_1).f2).length : Int) then (admit_longest.l1 k2 l1 a2 (mx x7_2 (rd ((rd_T29 l1 x13_1).f2) x20_2)) l1 (l1.length : Int) x13_1 (((rd_T29 l1 x13_1).f2).length : Int) (wrap64 (x20_2 + 1)) ((rd_T29 l1 x13_1).f0) ((rd_T29 l1 x13_1).f1) ((rd_T29 l1 x13_1).f2) ((rd_T29 l1 x13_1).f3)) else (none)) else (none)) else (admit_longest.l1 k2 l1 a2 x7_2 l1 (l1.length : Int) x13_1 (((rd_T29 l1 x13_1).f2).length : Int) (wrap64 (x20_2 + 1)) ((rd_T29 l1 x13_1).f0) ((rd_T29 l1 x13_1).f1) ((rd_T29 l1 x13_1).f2) ((rd_T29 l1 x13_1).f3)))) else (admit_longest.l1 k2 l1 a2 x7_2 l1 (l1.length : Int) x13_1 (((rd_T29 l1 x13_1).f2).length : Int) (wrap64 (x20_2 + 1)) ((rd_T29 l1 x13_1).f0) ((rd_T29 l1 x13_1).f1) ((rd_T29 l1 x13_1).f2) ((rd_T29 l1 x13_1).f3))) = some r := H
                    have A13 := Aside0.mk A130
                    clear A130
                    by_cases c14 : t135 = true
                    · subst c14
                      have H1 : ((task_Ceiling.f k2 l1 x20_2).bind fun t136 => (if t136 ≤ a2 then (if 0 ≤ x20_2 then (if x20_2 < (((rd_T29 l1 x13_1).f2).length : Int) then (admit_longest.l1 k2 l1 a2 (mx x7_2 (rd ((rd_T29 l1 x13_1).f2) x20_2)) l1 (l1.length : Int) x13_1 (((rd_T29 l1 x13_1).f2).length : Int) (wrap64 (x20_2 + 1)) ((rd_T29 l1 x13_1).f0) ((rd_T29 l1 x13_1).f1) ((rd_T29 l1 x13_1).f2) ((rd_T29 l1 x13_1).f3)) else (none)) else (none)) else (admit_longest.l1 k2 l1 a2 x7_2 l1 (l1.length : Int) x13_1 (((rd_T29 l1 x13_1).f2).length : Int) (wrap64 (x20_2 + 1)) ((rd_T29 l1 x13_1).f0) ((rd_T29 l1 x13_1).f1) ((rd_T29 l1 x13_1).f2) ((rd_T29 l1 x13_1).f3)))) = some r := by rw [if_pos rfl] at H; exact H
                      clear H
                      have H := H1
                      clear H1
                      replace H := Option.bind_eq_some_iff.mp H
                      obtain ⟨t136, A150, H⟩ := H
                      replace H : (if t136 ≤ a2 then (if 0 ≤ x20_2 then (if x20_2 < (((rd_T29 l1 x13_1).f2).length : Int) then (admit_longest.l1 k2 l1 a2 (mx x7_2 (rd ((rd_T29 l1 x13_1).f2) x20_2)) l1 (l1.length : Int) x13_1 (((rd_T29 l1 x13_1).f2).length : Int) (wrap64 (x20_2 + 1)) ((rd_T29 l1 x13_1).f0) ((rd_T29 l1 x13_1).f1) ((rd_T29 l1 x13_1).f2) ((rd_T29 l1 x13_1).f3)) else (none)) else (none)) else (admit_longest.l1 k2 l1 a2 x7_2 l1 (l1.length : Int) x13_1 (((rd_T29 l1 x13_1).f2).length : Int) (wrap64 (x20_2 + 1)) ((rd_T29 l1 x13_1).f0) ((rd_T29 l1 x13_1).f1) ((rd_T29 l1 x13_1).f2) ((rd_T29 l1 x13_1).f3))) = some r := H
                      have A15 := Aside0.mk A150
                      clear A150
                      by_cases c16 : t136 ≤ a2
                      · rw [if_pos c16] at H
                        have c16b0 : decide (t136 ≤ a2) = true := decide_eq_true c16
                        clear c16
                        by_cases c17 : 0 ≤ x20_2
                        · rw [if_pos c17] at H
                          have c17b0 : decide (0 ≤ x20_2) = true := decide_eq_true c17
                          clear c17
                          by_cases c18 : x20_2 < (((rd_T29 l1 x13_1).f2).length : Int)
                          · rw [if_pos c18] at H
                            have c18b0 : decide (x20_2 < (((rd_T29 l1 x13_1).f2).length : Int)) = true := decide_eq_true c18
                            clear c18
                            obtain ⟨ji19, hji19⟩ : ∃ j_ : Int, (mx x7_2 (rd ((rd_T29 l1 x13_1).f2) x20_2)) = j_ := ⟨_, rfl⟩
                            replace H : (admit_longest.l1 k2 l1 a2 ji19 l1 (l1.length : Int) x13_1 (((rd_T29 l1 x13_1).f2).length : Int) (wrap64 (x20_2 + 1)) ((rd_T29 l1 x13_1).f0) ((rd_T29 l1 x13_1).f1) ((rd_T29 l1 x13_1).f2) ((rd_T29 l1 x13_1).f3)) = some r := by first | (rw [hji19] at H; exact H) | (simp only [hji19] at H ⊢; exact H)
                            (try rw [hji19] at A13)
                            (try rw [hji19] at A15)
                            have hji19_ : (if x7_2 < (rd ((rd_T29 l1 x13_1).f2) x20_2) then (rd ((rd_T29 l1 x13_1).f2) x20_2) else x7_2) = ji19 := hji19
                            have H' := Aside0.mk H
                            clear H
                            have hnb20 := NB134_132.out
                            have hnc20 := NB132_134.out
                            have hcz21_0 : wr.cell? ⟨gb134, 0, none⟩ = some (.int .i64 ((rd_T29 l1 x13_1).f0)) := (blk_cell BK134.out 0).trans rfl
                            have hcz21_1 : wr.cell? ⟨gb134, 1, none⟩ = some (.int .i64 ((rd_T29 l1 x13_1).f1)) := (blk_cell BK134.out 1).trans rfl
                            have hcz21_2 : wr.cell? ⟨gb134, 2, none⟩ = some (.slice A133_2 ((rd_T29 l1 x13_1).f2).length c133_2) := (blk_cell BK134.out 2).trans rfl
                            have hcz21_3 : wr.cell? ⟨gb134, 3, none⟩ = some (.slice A133_3 ((rd_T29 l1 x13_1).f3).length c133_3) := (blk_cell BK134.out 3).trans rfl
                            have hfz21_0 := blk_frozen BK134.out 0
                            have hfz21_1 := blk_frozen BK134.out 1
                            have hfz21_2 := blk_frozen BK134.out 2
                            have hfz21_3 := blk_frozen BK134.out 3
                            go_wp2_with (first | (go_at_call 38; (with_reducible refine (task_Uses.calls ((rd_T29 l1 x13_1).f0) ((rd_T29 l1 x13_1).f1) _ _ ((rd_T29 l1 x13_1).f2) _ _ ((rd_T29 l1 x13_1).f3) x20_2 true _ ?side1 ?side2 ?side3 ?side4 A13.out).mono ?_); (case side1 => repeat (first | exact (Kd.C_below HR133_2.out HB.out) | (with_reducible refine Kd.C_alloc ?_ _) | (with_reducible refine Kd.C_drewN ?_ _) | (with_reducible refine Kd.C_drew ?_))); (case side2 => exact HC133_2.out); (case side3 => repeat (first | exact (Kd.C_below HR133_3.out HB.out) | (with_reducible refine Kd.C_alloc ?_ _) | (with_reducible refine Kd.C_drewN ?_ _) | (with_reducible refine Kd.C_drew ?_))); (case side4 => exact HC133_3.out); rintro e w22 ⟨rfl, hb⟩; have n0_ := Aside0.mk (blk_below (g := gb132) (o := .cells #[.slice A0_0 l0_0.length c0_0, .slice A0_1 l0_1.length c0_1, .slice A0_2 l0_2.length c0_2, .int .i64 a0_3, .int .i64 a0_4, .int .i64 a0_5, .int .i64 a0_6, .int .i64 a0_7, .int .i64 a0_8] 26 (0, 0)) (by (with_reducible repeat (first | refine blk_drewN ?_ _ | refine blk_drew ?_ | refine blk_alloc ?_ _)); exact BK132.out) hb); have n1_ := Aside0.mk (blk_below (g := gb134) (o := .cells #[.int .i64 ((rd_T29 l1 x13_1).f0), .int .i64 ((rd_T29 l1 x13_1).f1), .slice A133_2 ((rd_T29 l1 x13_1).f2).length c133_2, .slice A133_3 ((rd_T29 l1 x13_1).f3).length c133_3] 29 (0, 0)) (by (with_reducible repeat (first | refine blk_drewN ?_ _ | refine blk_drew ?_ | refine blk_alloc ?_ _)); exact BK134.out) hb); have n2_ := Aside0.mk (below_step (by repeat (first | (with_reducible first | exact HB.out | apply below_alloc | apply pw_below_drewN | apply below_drew1 | refine below_set ?_ GE132.out | refine below_set ?_ GE134.out) | exact HB.out)) hb); clear BK132; clear BK134; clear HB; have BK132 := n0_; have BK134 := n1_; have HB := n2_; clear n0_ n1_ n2_; (try clear hb); (try clear hb2); (try clear hk); (try clear hi)) | (go_at_call 39; (with_reducible refine (task_Ceiling.calls k2 _ _ l1 x20_2 t136 _ ?side1 ?side2 A15.out).mono ?_); (case side1 => repeat (first | exact (Kd.C_below HR1.out HB.out) | (with_reducible refine Kd.C_alloc ?_ _) | (with_reducible refine Kd.C_drewN ?_ _) | (with_reducible refine Kd.C_drew ?_))); (case side2 => exact HC1.out); rintro e w23 ⟨rfl, hb⟩; have n0_ := Aside0.mk (blk_below (g := gb132) (o := .cells #[.slice A0_0 l0_0.length c0_0, .slice A0_1 l0_1.length c0_1, .slice A0_2 l0_2.length c0_2, .int .i64 a0_3, .int .i64 a0_4, .int .i64 a0_5, .int .i64 a0_6, .int .i64 a0_7, .int .i64 a0_8] 26 (0, 0)) (by (with_reducible repeat (first | refine blk_drewN ?_ _ | refine blk_drew ?_ | refine blk_alloc ?_ _)); exact BK132.out) hb); have n1_ := Aside0.mk (blk_below (g := gb134) (o := .cells #[.int .i64 ((rd_T29 l1 x13_1).f0), .int .i64 ((rd_T29 l1 x13_1).f1), .slice A133_2 ((rd_T29 l1 x13_1).f2).length c133_2, .slice A133_3 ((rd_T29 l1 x13_1).f3).length c133_3] 29 (0, 0)) (by (with_reducible repeat (first | refine blk_drewN ?_ _ | refine blk_drew ?_ | refine blk_alloc ?_ _)); exact BK134.out) hb); have n2_ := Aside0.mk (below_step (by repeat (first | (with_reducible first | exact HB.out | apply below_alloc | apply pw_below_drewN | apply below_drew1 | refine below_set ?_ GE132.out | refine below_set ?_ GE134.out) | exact HB.out)) hb); clear BK132; clear BK134; clear HB; have BK132 := n0_; have BK134 := n1_; have HB := n2_; clear n0_ n1_ n2_; (try clear hb); (try clear hb2); (try clear hk); (try clear hi); have hcz24_0 : w23.cell? ⟨gb134, 0, none⟩ = some (.int .i64 ((rd_T29 l1 x13_1).f0)) := (blk_cell BK134.out 0).trans rfl; have hcz24_1 : w23.cell? ⟨gb134, 1, none⟩ = some (.int .i64 ((rd_T29 l1 x13_1).f1)) := (blk_cell BK134.out 1).trans rfl; have hcz24_2 : w23.cell? ⟨gb134, 2, none⟩ = some (.slice A133_2 ((rd_T29 l1 x13_1).f2).length c133_2) := (blk_cell BK134.out 2).trans rfl; have hcz24_3 : w23.cell? ⟨gb134, 3, none⟩ = some (.slice A133_3 ((rd_T29 l1 x13_1).f3).length c133_3) := (blk_cell BK134.out 3).trans rfl; have hfz24_0 := blk_frozen BK134.out 0; have hfz24_1 := blk_frozen BK134.out 1; have hfz24_2 := blk_frozen BK134.out 2; have hfz24_3 := blk_frozen BK134.out 3; have p137 : 0 ≤ (x20_2 : Int) := of_decide_eq_true (by first | (with_reducible assumption) | assumption); have q137 : x20_2 < (((rd_T29 l1 x13_1).f2).length : Int) := of_decide_eq_true (by first | (with_reducible assumption) | assumption); obtain ⟨ad137, e137, hx137_0⟩ := Kd.at_int HR133_2.out x20_2 p137 q137; cases e137; replace hx137_0 := (HB.out.cell (World.block_lt_of_cell? w _ hx137_0)).trans hx137_0; replace p137 := eq_true p137; replace q137 := eq_true q137))
                            go_roundg k2
                            case measure => have := HK1.out; have := HK2.out; omega
                            case rel => exact ⟨(ji19), (wrap64 (x20_2 + 1)), (by first | rfl | (simp; done) | (simp only [← hji19] <;> (first | rfl | simp)) | (simp [*]; done)), (by first | rfl | (simp; done) | (simp [*]; done)), H', ⟨by have := HK1.out; have := HK2.out; omega⟩, ⟨by (with_reducible repeat (first | refine blk_drewN ?_ _ | refine blk_drew ?_ | refine blk_alloc ?_ _)); exact BK132.out⟩, ⟨by (with_reducible repeat (first | refine blk_drewN ?_ _ | refine blk_drew ?_ | refine blk_alloc ?_ _)); exact BK134.out⟩, ⟨by repeat (first | (with_reducible first | exact HB.out | apply below_alloc | apply pw_below_drewN | apply below_drew1 | refine below_set ?_ GE132.out | refine below_set ?_ GE134.out) | exact HB.out)⟩⟩
                          · rw [if_neg c18] at H
                            exact absurd H (by simp)
                        · rw [if_neg c17] at H
                          exact absurd H (by simp)
                      · rw [if_neg c16] at H
                        have c16b0 : decide (t136 ≤ a2) = false := decide_eq_false c16
                        clear c16
                        have H' := Aside0.mk H
                        clear H
                        have hnb25 := NB134_132.out
                        have hnc25 := NB132_134.out
                        have hcz26_0 : wr.cell? ⟨gb134, 0, none⟩ = some (.int .i64 ((rd_T29 l1 x13_1).f0)) := (blk_cell BK134.out 0).trans rfl
                        have hcz26_1 : wr.cell? ⟨gb134, 1, none⟩ = some (.int .i64 ((rd_T29 l1 x13_1).f1)) := (blk_cell BK134.out 1).trans rfl
                        have hcz26_2 : wr.cell? ⟨gb134, 2, none⟩ = some (.slice A133_2 ((rd_T29 l1 x13_1).f2).length c133_2) := (blk_cell BK134.out 2).trans rfl
                        have hcz26_3 : wr.cell? ⟨gb134, 3, none⟩ = some (.slice A133_3 ((rd_T29 l1 x13_1).f3).length c133_3) := (blk_cell BK134.out 3).trans rfl
                        have hfz26_0 := blk_frozen BK134.out 0
                        have hfz26_1 := blk_frozen BK134.out 1
                        have hfz26_2 := blk_frozen BK134.out 2
                        have hfz26_3 := blk_frozen BK134.out 3
                        go_wp2_with (first | (go_at_call 38; (with_reducible refine (task_Uses.calls ((rd_T29 l1 x13_1).f0) ((rd_T29 l1 x13_1).f1) _ _ ((rd_T29 l1 x13_1).f2) _ _ ((rd_T29 l1 x13_1).f3) x20_2 true _ ?side1 ?side2 ?side3 ?side4 A13.out).mono ?_); (case side1 => repeat (first | exact (Kd.C_below HR133_2.out HB.out) | (with_reducible refine Kd.C_alloc ?_ _) | (with_reducible refine Kd.C_drewN ?_ _) | (with_reducible refine Kd.C_drew ?_))); (case side2 => exact HC133_2.out); (case side3 => repeat (first | exact (Kd.C_below HR133_3.out HB.out) | (with_reducible refine Kd.C_alloc ?_ _) | (with_reducible refine Kd.C_drewN ?_ _) | (with_reducible refine Kd.C_drew ?_))); (case side4 => exact HC133_3.out); rintro e w27 ⟨rfl, hb⟩; have n0_ := Aside0.mk (blk_below (g := gb132) (o := .cells #[.slice A0_0 l0_0.length c0_0, .slice A0_1 l0_1.length c0_1, .slice A0_2 l0_2.length c0_2, .int .i64 a0_3, .int .i64 a0_4, .int .i64 a0_5, .int .i64 a0_6, .int .i64 a0_7, .int .i64 a0_8] 26 (0, 0)) (by (with_reducible repeat (first | refine blk_drewN ?_ _ | refine blk_drew ?_ | refine blk_alloc ?_ _)); exact BK132.out) hb); have n1_ := Aside0.mk (blk_below (g := gb134) (o := .cells #[.int .i64 ((rd_T29 l1 x13_1).f0), .int .i64 ((rd_T29 l1 x13_1).f1), .slice A133_2 ((rd_T29 l1 x13_1).f2).length c133_2, .slice A133_3 ((rd_T29 l1 x13_1).f3).length c133_3] 29 (0, 0)) (by (with_reducible repeat (first | refine blk_drewN ?_ _ | refine blk_drew ?_ | refine blk_alloc ?_ _)); exact BK134.out) hb); have n2_ := Aside0.mk (below_step (by repeat (first | (with_reducible first | exact HB.out | apply below_alloc | apply pw_below_drewN | apply below_drew1 | refine below_set ?_ GE132.out | refine below_set ?_ GE134.out) | exact HB.out)) hb); clear BK132; clear BK134; clear HB; have BK132 := n0_; have BK134 := n1_; have HB := n2_; clear n0_ n1_ n2_; (try clear hb); (try clear hb2); (try clear hk); (try clear hi)) | (go_at_call 39; (with_reducible refine (task_Ceiling.calls k2 _ _ l1 x20_2 t136 _ ?side1 ?side2 A15.out).mono ?_); (case side1 => repeat (first | exact (Kd.C_below HR1.out HB.out) | (with_reducible refine Kd.C_alloc ?_ _) | (with_reducible refine Kd.C_drewN ?_ _) | (with_reducible refine Kd.C_drew ?_))); (case side2 => exact HC1.out); rintro e w28 ⟨rfl, hb⟩; have n0_ := Aside0.mk (blk_below (g := gb132) (o := .cells #[.slice A0_0 l0_0.length c0_0, .slice A0_1 l0_1.length c0_1, .slice A0_2 l0_2.length c0_2, .int .i64 a0_3, .int .i64 a0_4, .int .i64 a0_5, .int .i64 a0_6, .int .i64 a0_7, .int .i64 a0_8] 26 (0, 0)) (by (with_reducible repeat (first | refine blk_drewN ?_ _ | refine blk_drew ?_ | refine blk_alloc ?_ _)); exact BK132.out) hb); have n1_ := Aside0.mk (blk_below (g := gb134) (o := .cells #[.int .i64 ((rd_T29 l1 x13_1).f0), .int .i64 ((rd_T29 l1 x13_1).f1), .slice A133_2 ((rd_T29 l1 x13_1).f2).length c133_2, .slice A133_3 ((rd_T29 l1 x13_1).f3).length c133_3] 29 (0, 0)) (by (with_reducible repeat (first | refine blk_drewN ?_ _ | refine blk_drew ?_ | refine blk_alloc ?_ _)); exact BK134.out) hb); have n2_ := Aside0.mk (below_step (by repeat (first | (with_reducible first | exact HB.out | apply below_alloc | apply pw_below_drewN | apply below_drew1 | refine below_set ?_ GE132.out | refine below_set ?_ GE134.out) | exact HB.out)) hb); clear BK132; clear BK134; clear HB; have BK132 := n0_; have BK134 := n1_; have HB := n2_; clear n0_ n1_ n2_; (try clear hb); (try clear hb2); (try clear hk); (try clear hi)))
                        go_roundg k2
                        case measure => have := HK1.out; have := HK2.out; omega
                        case rel => exact ⟨(x7_2), (wrap64 (x20_2 + 1)), (by first | rfl | (simp; done) | (simp [*]; done)), (by first | rfl | (simp; done) | (simp [*]; done)), H', ⟨by have := HK1.out; have := HK2.out; omega⟩, ⟨by (with_reducible repeat (first | refine blk_drewN ?_ _ | refine blk_drew ?_ | refine blk_alloc ?_ _)); exact BK132.out⟩, ⟨by (with_reducible repeat (first | refine blk_drewN ?_ _ | refine blk_drew ?_ | refine blk_alloc ?_ _)); exact BK134.out⟩, ⟨by repeat (first | (with_reducible first | exact HB.out | apply below_alloc | apply pw_below_drewN | apply below_drew1 | refine below_set ?_ GE132.out | refine below_set ?_ GE134.out) | exact HB.out)⟩⟩
                    · replace c14 := Bool.eq_false_iff.mpr c14
                      subst c14
                      have H1 : (admit_longest.l1 k2 l1 a2 x7_2 l1 (l1.length : Int) x13_1 (((rd_T29 l1 x13_1).f2).length : Int) (wrap64 (x20_2 + 1)) ((rd_T29 l1 x13_1).f0) ((rd_T29 l1 x13_1).f1) ((rd_T29 l1 x13_1).f2) ((rd_T29 l1 x13_1).f3)) = some r := by rw [if_neg (show ¬ (false = true) by decide)] at H; exact H
                      clear H
                      have H := H1
                      clear H1
                      have H' := Aside0.mk H
                      clear H
                      have hnb29 := NB134_132.out
                      have hnc29 := NB132_134.out
                      have hcz30_0 : wr.cell? ⟨gb134, 0, none⟩ = some (.int .i64 ((rd_T29 l1 x13_1).f0)) := (blk_cell BK134.out 0).trans rfl
                      have hcz30_1 : wr.cell? ⟨gb134, 1, none⟩ = some (.int .i64 ((rd_T29 l1 x13_1).f1)) := (blk_cell BK134.out 1).trans rfl
                      have hcz30_2 : wr.cell? ⟨gb134, 2, none⟩ = some (.slice A133_2 ((rd_T29 l1 x13_1).f2).length c133_2) := (blk_cell BK134.out 2).trans rfl
                      have hcz30_3 : wr.cell? ⟨gb134, 3, none⟩ = some (.slice A133_3 ((rd_T29 l1 x13_1).f3).length c133_3) := (blk_cell BK134.out 3).trans rfl
                      have hfz30_0 := blk_frozen BK134.out 0
                      have hfz30_1 := blk_frozen BK134.out 1
                      have hfz30_2 := blk_frozen BK134.out 2
                      have hfz30_3 := blk_frozen BK134.out 3
                      go_wp2_with (first | (go_at_call 38; (with_reducible refine (task_Uses.calls ((rd_T29 l1 x13_1).f0) ((rd_T29 l1 x13_1).f1) _ _ ((rd_T29 l1 x13_1).f2) _ _ ((rd_T29 l1 x13_1).f3) x20_2 false _ ?side1 ?side2 ?side3 ?side4 A13.out).mono ?_); (case side1 => repeat (first | exact (Kd.C_below HR133_2.out HB.out) | (with_reducible refine Kd.C_alloc ?_ _) | (with_reducible refine Kd.C_drewN ?_ _) | (with_reducible refine Kd.C_drew ?_))); (case side2 => exact HC133_2.out); (case side3 => repeat (first | exact (Kd.C_below HR133_3.out HB.out) | (with_reducible refine Kd.C_alloc ?_ _) | (with_reducible refine Kd.C_drewN ?_ _) | (with_reducible refine Kd.C_drew ?_))); (case side4 => exact HC133_3.out); rintro e w31 ⟨rfl, hb⟩; have n0_ := Aside0.mk (blk_below (g := gb132) (o := .cells #[.slice A0_0 l0_0.length c0_0, .slice A0_1 l0_1.length c0_1, .slice A0_2 l0_2.length c0_2, .int .i64 a0_3, .int .i64 a0_4, .int .i64 a0_5, .int .i64 a0_6, .int .i64 a0_7, .int .i64 a0_8] 26 (0, 0)) (by (with_reducible repeat (first | refine blk_drewN ?_ _ | refine blk_drew ?_ | refine blk_alloc ?_ _)); exact BK132.out) hb); have n1_ := Aside0.mk (blk_below (g := gb134) (o := .cells #[.int .i64 ((rd_T29 l1 x13_1).f0), .int .i64 ((rd_T29 l1 x13_1).f1), .slice A133_2 ((rd_T29 l1 x13_1).f2).length c133_2, .slice A133_3 ((rd_T29 l1 x13_1).f3).length c133_3] 29 (0, 0)) (by (with_reducible repeat (first | refine blk_drewN ?_ _ | refine blk_drew ?_ | refine blk_alloc ?_ _)); exact BK134.out) hb); have n2_ := Aside0.mk (below_step (by repeat (first | (with_reducible first | exact HB.out | apply below_alloc | apply pw_below_drewN | apply below_drew1 | refine below_set ?_ GE132.out | refine below_set ?_ GE134.out) | exact HB.out)) hb); clear BK132; clear BK134; clear HB; have BK132 := n0_; have BK134 := n1_; have HB := n2_; clear n0_ n1_ n2_; (try clear hb); (try clear hb2); (try clear hk); (try clear hi)))
                      go_roundg k2
                      case measure => have := HK1.out; have := HK2.out; omega
                      case rel => exact ⟨(x7_2), (wrap64 (x20_2 + 1)), (by first | rfl | (simp; done) | (simp [*]; done)), (by first | rfl | (simp; done) | (simp [*]; done)), H', ⟨by have := HK1.out; have := HK2.out; omega⟩, ⟨by (with_reducible repeat (first | refine blk_drewN ?_ _ | refine blk_drew ?_ | refine blk_alloc ?_ _)); exact BK132.out⟩, ⟨by (with_reducible repeat (first | refine blk_drewN ?_ _ | refine blk_drew ?_ | refine blk_alloc ?_ _)); exact BK134.out⟩, ⟨by repeat (first | (with_reducible first | exact HB.out | apply below_alloc | apply pw_below_drewN | apply below_drew1 | refine below_set ?_ GE132.out | refine below_set ?_ GE134.out) | exact HB.out)⟩⟩
                  · rw [if_neg c12] at H
                    have c12b0 : decide (a2 < ((rd_T29 l1 x13_1).f0)) = false := decide_eq_false c12
                    clear c12
                    have H' := Aside0.mk H
                    clear H
                    have hnb32 := NB134_132.out
                    have hnc32 := NB132_134.out
                    have hcz33_0 : wr.cell? ⟨gb134, 0, none⟩ = some (.int .i64 ((rd_T29 l1 x13_1).f0)) := (blk_cell BK134.out 0).trans rfl
                    have hcz33_1 : wr.cell? ⟨gb134, 1, none⟩ = some (.int .i64 ((rd_T29 l1 x13_1).f1)) := (blk_cell BK134.out 1).trans rfl
                    have hcz33_2 : wr.cell? ⟨gb134, 2, none⟩ = some (.slice A133_2 ((rd_T29 l1 x13_1).f2).length c133_2) := (blk_cell BK134.out 2).trans rfl
                    have hcz33_3 : wr.cell? ⟨gb134, 3, none⟩ = some (.slice A133_3 ((rd_T29 l1 x13_1).f3).length c133_3) := (blk_cell BK134.out 3).trans rfl
                    have hfz33_0 := blk_frozen BK134.out 0
                    have hfz33_1 := blk_frozen BK134.out 1
                    have hfz33_2 := blk_frozen BK134.out 2
                    have hfz33_3 := blk_frozen BK134.out 3
                    go_wp2
                    go_roundg k2
                    case measure => have := HK1.out; have := HK2.out; omega
                    case rel => exact ⟨(x7_2), (wrap64 (x20_2 + 1)), (by first | rfl | (simp; done) | (simp [*]; done)), (by first | rfl | (simp; done) | (simp [*]; done)), H', ⟨by have := HK1.out; have := HK2.out; omega⟩, ⟨by (with_reducible repeat (first | refine blk_drewN ?_ _ | refine blk_drew ?_ | refine blk_alloc ?_ _)); exact BK132.out⟩, ⟨by (with_reducible repeat (first | refine blk_drewN ?_ _ | refine blk_drew ?_ | refine blk_alloc ?_ _)); exact BK134.out⟩, ⟨by repeat (first | (with_reducible first | exact HB.out | apply below_alloc | apply pw_below_drewN | apply below_drew1 | refine below_set ?_ GE132.out | refine below_set ?_ GE134.out) | exact HB.out)⟩⟩
                · rw [if_neg c11] at H
                  have c11b0 : decide (x20_2 < (((rd_T29 l1 x13_1).f2).length : Int)) = false := decide_eq_false c11
                  clear c11
                  have H' := Aside0.mk H
                  clear H
                  go_wp2
                  go_roundg k2
                  case measure => have := HK1.out; have := HK2.out; omega
                  case rel => exact ⟨(x7_2), (wrap64 (x13_1 + 1)), (by first | rfl | (simp; done) | (simp [*]; done)), (by first | rfl | (simp; done) | (simp [*]; done)), H', ⟨by have := HK1.out; have := HK2.out; omega⟩, ⟨by (with_reducible repeat (first | refine blk_drewN ?_ _ | refine blk_drew ?_ | refine blk_alloc ?_ _)); exact BK132.out⟩, ⟨by repeat (first | (with_reducible first | exact HB.out | apply below_alloc | apply pw_below_drewN | apply below_drew1 | refine below_set ?_ GE132.out | refine below_set ?_ GE134.out) | exact HB.out)⟩⟩
          · rw [if_neg c7] at H
            exact absurd H (by simp)
        · rw [if_neg c6] at H
          exact absurd H (by simp)
      · rw [if_neg c5] at H
        have c5b0 : decide (x13_1 < (l1.length : Int)) = false := decide_eq_false c5
        clear c5
        obtain rfl := Option.some.inj H
        go_wp2
        go_ret
        exact ⟨by first | rfl | (simp [errW_none, errW_some] <;> rfl) | (simp [*, errW_none, errW_some] <;> rfl), by repeat (first | (with_reducible first | exact HB.out | apply below_alloc | apply pw_below_drewN | apply below_drew1 | refine below_set ?_ GE132.out) | exact HB.out)⟩

end Go.Proofs.Ytonlaboeodddeaa.F
