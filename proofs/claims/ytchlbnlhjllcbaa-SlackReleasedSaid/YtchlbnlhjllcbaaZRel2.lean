/- Part 2 of the law's texts: what its row hangs on. -/
import Derived.Test.YtchlbnlhjllcbaaZRel1
import Derived.StillTailTactics
namespace Go.Proofs.Ytchlbnlhjllcbaa.F
open Go.RowKit Go.Proofs.YtchlbnlhjllcbaaW.PrintWords Go.Proofs.YtchlbnlhjllcbaaW.PrintLast Go.Proofs.YtchlbnlhjllcbaaW.PrintMore
attribute [local go_sem] max2_int min2_int max_two min_two max_three min_three max_four min_four   -- for this text's walks alone
set_option linter.unusedVariables false
set_option linter.unusedSimpArgs false
mutual
def dormouseref09_Task.j0 : Nat → Bool → List (S58) → List (S68) → List (S71) → Int → Int → Int → Int → Int → Int → Int → Int → List Int → List Int → Option (Bool)
  | 0, _, _, _, _, _, _, _, _, _, _, _, _, _, _ => none
  | k + 1, x34, x119000, x119001, x119002, x119003, x119004, x119005, x119006, x119007, x119008, x120000, x120001, x120002, x120003 => if x34 = true then (some false) else (dormouseref09_Task.l0 k 0 x119000 x119001 x119002 x119003 x119004 x119005 x119006 x119007 x119008 x120000 x120001 x120002 x120003)
def dormouseref09_Task.l0 : Nat → Int → List (S58) → List (S68) → List (S71) → Int → Int → Int → Int → Int → Int → Int → Int → List Int → List Int → Option (Bool)
  | 0, _, _, _, _, _, _, _, _, _, _, _, _, _, _ => none
  | k + 1, x5, x119000, x119001, x119002, x119003, x119004, x119005, x119006, x119007, x119008, x120000, x120001, x120002, x120003 => if x5 < (x120002.length : Int) then (if 0 ≤ x5 then (if (rd x120002 x5) < 0 then (some false) else (if (rd x120002 x5) > x120001 then (some false) else (dormouseref09_Task.l0 k (wrap64 (x5 + 1)) x119000 x119001 x119002 x119003 x119004 x119005 x119006 x119007 x119008 x120000 x120001 x120002 x120003))) else (none)) else (dormouseref09_Task.l1 k 0 x119000 x119001 x119002 x119003 x119004 x119005 x119006 x119007 x119008 x120000 x120001 x120002 x120003)
def dormouseref09_Task.l1 : Nat → Int → List (S58) → List (S68) → List (S71) → Int → Int → Int → Int → Int → Int → Int → Int → List Int → List Int → Option (Bool)
  | 0, _, _, _, _, _, _, _, _, _, _, _, _, _, _ => none
  | k + 1, x6, x119000, x119001, x119002, x119003, x119004, x119005, x119006, x119007, x119008, x120000, x120001, x120002, x120003 => if x6 < (x120003.length : Int) then (if 0 ≤ x6 then (if (rd x120003 x6) < 0 then (some false) else (if (rd x120003 x6) ≥ (x119002.length : Int) then (some false) else (if x6 > 0 then (if 0 ≤ (wrap64 (x6 - 1)) then (if (wrap64 (x6 - 1)) < (x120003.length : Int) then (if (rd x120003 (wrap64 (x6 - 1))) ≥ (rd x120003 x6) then (some false) else (dormouseref09_Task.l1 k (wrap64 (x6 + 1)) x119000 x119001 x119002 x119003 x119004 x119005 x119006 x119007 x119008 x120000 x120001 x120002 x120003)) else (none)) else (none)) else (dormouseref09_Task.l1 k (wrap64 (x6 + 1)) x119000 x119001 x119002 x119003 x119004 x119005 x119006 x119007 x119008 x120000 x120001 x120002 x120003)))) else (none)) else (some true)
end
def dormouseref09_Task.f (k : Nat) (l0_0 : List (S58)) (l0_1 : List (S68)) (l0_2 : List (S71)) (a0_3 : Int) (a0_4 : Int) (a0_5 : Int) (a0_6 : Int) (a0_7 : Int) (a0_8 : Int) (a1_0 : Int) (a1_1 : Int) (l1_2 : List Int) (l1_3 : List Int) : Option (Bool) := if a1_0 < 1 then (dormouseref09_Task.j0 k true l0_0 l0_1 l0_2 a0_3 a0_4 a0_5 a0_6 a0_7 a0_8 a1_0 a1_1 l1_2 l1_3) else (if a1_0 > a0_8 then (dormouseref09_Task.j0 k true l0_0 l0_1 l0_2 a0_3 a0_4 a0_5 a0_6 a0_7 a0_8 a1_0 a1_1 l1_2 l1_3) else (if a1_1 < 1 then (dormouseref09_Task.j0 k true l0_0 l0_1 l0_2 a0_3 a0_4 a0_5 a0_6 a0_7 a0_8 a1_0 a1_1 l1_2 l1_3) else (if a1_1 > 4096 then (dormouseref09_Task.j0 k true l0_0 l0_1 l0_2 a0_3 a0_4 a0_5 a0_6 a0_7 a0_8 a1_0 a1_1 l1_2 l1_3) else (dormouseref09_Task.j0 k (decide ((l1_2.length : Int) > a0_7)) l0_0 l0_1 l0_2 a0_3 a0_4 a0_5 a0_6 a0_7 a0_8 a1_0 a1_1 l1_2 l1_3))))
set_option maxHeartbeats 8000000 in
set_option maxRecDepth 100000 in
theorem dormouseref09_Task.calls (k : Nat) (A0_0 : Option Addr) (c0_0 : Nat) (l0_0 : List (S58)) (A0_1 : Option Addr) (c0_1 : Nat) (l0_1 : List (S68)) (A0_2 : Option Addr) (c0_2 : Nat) (l0_2 : List (S71)) (a0_3 : Int) (a0_4 : Int) (a0_5 : Int) (a0_6 : Int) (a0_7 : Int) (a0_8 : Int) (a1_0 : Int) (a1_1 : Int) (A1_2 : Option Addr) (c1_2 : Nat) (l1_2 : List Int) (A1_3 : Option Addr) (c1_3 : Nat) (l1_3 : List Int) (r : Bool) (w : World) (hr0_0 : Kd.C k58 w A0_0 l0_0.length l0_0) (hc0_0 : l0_0.length ≤ c0_0) (hr0_1 : Kd.C k68 w A0_1 l0_1.length l0_1) (hc0_1 : l0_1.length ≤ c0_1) (hr0_2 : Kd.C k71 w A0_2 l0_2.length l0_2) (hc0_2 : l0_2.length ≤ c0_2) (hr1_2 : Kd.C (Kd.int .i64) w A1_2 l1_2.length l1_2) (hc1_2 : l1_2.length ≤ c1_2) (hr1_3 : Kd.C (Kd.int .i64) w A1_3 l1_3.length l1_3) (hc1_3 : l1_3.length ≤ c1_3) (h : dormouseref09_Task.f k l0_0 l0_1 l0_2 a0_3 a0_4 a0_5 a0_6 a0_7 a0_8 a1_0 a1_1 l1_2 l1_3 = some r) :
    Calls Try.prog 24 #[.agg #[.slice A0_0 l0_0.length c0_0, .slice A0_1 l0_1.length c0_1, .slice A0_2 l0_2.length c0_2, .int .i64 a0_3, .int .i64 a0_4, .int .i64 a0_5, .int .i64 a0_6, .int .i64 a0_7, .int .i64 a0_8], .agg #[.int .i64 a1_0, .int .i64 a1_1, .slice A1_2 l1_2.length c1_2, .slice A1_3 l1_3.length c1_3]] w fun e w' => e = .returned (.bool r) ∧ Below w.heap.size w w' := by
  have hu26 := Try.underlying26
  have hu36 := Try.underlying36
  have HR0_0 := Aside0.mk hr0_0
  have HC0_0 := Aside0.mk hc0_0
  clear hr0_0 hc0_0
  have HR0_1 := Aside0.mk hr0_1
  have HC0_1 := Aside0.mk hc0_1
  clear hr0_1 hc0_1
  have HR0_2 := Aside0.mk hr0_2
  have HC0_2 := Aside0.mk hc0_2
  clear hr0_2 hc0_2
  have HR1_2 := Aside0.mk hr1_2
  have HC1_2 := Aside0.mk hc1_2
  clear hr1_2 hc1_2
  have HR1_3 := Aside0.mk hr1_3
  have HC1_3 := Aside0.mk hc1_3
  clear hr1_3 hc1_3
  have HB := Aside0.mk (Below.refl w.heap.size w)
  have H : (if a1_0 < 1 then (dormouseref09_Task.j0 k true l0_0 l0_1 l0_2 a0_3 a0_4 a0_5 a0_6 a0_7 a0_8 a1_0 a1_1 l1_2 l1_3) else (if a1_0 > a0_8 then (dormouseref09_Task.j0 k true l0_0 l0_1 l0_2 a0_3 a0_4 a0_5 a0_6 a0_7 a0_8 a1_0 a1_1 l1_2 l1_3) else (if a1_1 < 1 then (dormouseref09_Task.j0 k true l0_0 l0_1 l0_2 a0_3 a0_4 a0_5 a0_6 a0_7 a0_8 a1_0 a1_1 l1_2 l1_3) else (if a1_1 > 4096 then (dormouseref09_Task.j0 k true l0_0 l0_1 l0_2 a0_3 a0_4 a0_5 a0_6 a0_7 a0_8 a1_0 a1_1 l1_2 l1_3) else (dormouseref09_Task.j0 k (decide ((l1_2.length : Int) > a0_7)) l0_0 l0_1 l0_2 a0_3 a0_4 a0_5 a0_6 a0_7 a0_8 a1_0 a1_1 l1_2 l1_3))))) = some r := h
  clear h
  have HC3 := Aside0.mk H
  clear H
  go_enter Try.func24, Try.ntmps24
  go_upto_region 1 with (first | ((with_reducible refine gate_dst (N := 2) rfl ?_); (try (refine gate_guard (by rfl) ?_; dsimp only)); refine box_event ?hg (N := 2) ?hd (cs := #[.slice A0_0 l0_0.length c0_0, .slice A0_1 l0_1.length c0_1, .slice A0_2 l0_2.length c0_2, .int .i64 a0_3, .int .i64 a0_4, .int .i64 a0_5, .int .i64 a0_6, .int .i64 a0_7, .int .i64 a0_8]) (t := 26) ?hr ?_; (case hd => rfl); (case hg => rfl); (case hr => first | (go_simp; done) | (go_simp; rfl)); intro gb118 hg w4 hbox hb; have n0_ := Aside0.mk (below_step (by repeat (first | (with_reducible first | exact HB.out | apply below_alloc | apply pw_below_drewN | apply below_drew1) | exact HB.out)) hb); have n1_ := Aside0.mk (hbox); have n2_ := Aside0.mk ((by rw [hg]; exact (below_size (by repeat (first | (with_reducible first | exact HB.out | apply below_alloc | apply pw_below_drewN | apply below_drew1) | exact HB.out))) : w.heap.size ≤ gb118)); have n3_ := Aside0.mk ((by rw [hg]; exact (below_size (by repeat (first | (with_reducible first | exact HB.out | apply below_alloc | apply pw_below_drewN | apply below_drew1) | exact HB.out))) : w.heap.size ≤ gb118)); clear HB; have HB := n0_; have BK118 := n1_; have GW118 := n2_; have GE118 := n3_; clear n0_ n1_ n2_ n3_; clear hb hbox hg) | ((with_reducible refine gate_dst (N := 3) rfl ?_); (try (refine gate_guard (by rfl) ?_; dsimp only)); refine box_event ?hg (N := 3) ?hd (cs := #[.int .i64 a1_0, .int .i64 a1_1, .slice A1_2 l1_2.length c1_2, .slice A1_3 l1_3.length c1_3]) (t := 36) ?hr ?_; (case hd => rfl); (case hg => rfl); (case hr => first | (go_simp; done) | (go_simp; rfl)); intro gb119 hg w5 hbox hb; have n0_ := Aside0.mk (blk_below (g := gb118) (o := .cells #[.slice A0_0 l0_0.length c0_0, .slice A0_1 l0_1.length c0_1, .slice A0_2 l0_2.length c0_2, .int .i64 a0_3, .int .i64 a0_4, .int .i64 a0_5, .int .i64 a0_6, .int .i64 a0_7, .int .i64 a0_8] 26 (0, 0)) (by (with_reducible repeat (first | refine blk_drewN ?_ _ | refine blk_drew ?_ | refine blk_alloc ?_ _)); exact BK118.out) hb); have n1_ := Aside0.mk (below_step (by repeat (first | (with_reducible first | exact HB.out | apply below_alloc | apply pw_below_drewN | apply below_drew1 | refine below_set ?_ GE118.out) | exact HB.out)) hb); have n2_ := Aside0.mk (hbox); have n3_ := Aside0.mk ((by rw [hg]; exact (below_size (by repeat (first | (with_reducible first | exact HB.out | apply below_alloc | apply pw_below_drewN | apply below_drew1 | refine below_set ?_ GE118.out) | exact HB.out))) : w.heap.size ≤ gb119)); have n4_ := Aside0.mk ((by rw [hg]; exact (below_size (by repeat (first | (with_reducible first | exact HB.out | apply below_alloc | apply pw_below_drewN | apply below_drew1 | refine below_set ?_ GE118.out) | exact HB.out))) : w.heap.size ≤ gb119)); have n5_ := Aside0.mk ((by rw [hg]; exact Nat.ne_of_lt (blk_lt (g := gb118) (o := .cells #[.slice A0_0 l0_0.length c0_0, .slice A0_1 l0_1.length c0_1, .slice A0_2 l0_2.length c0_2, .int .i64 a0_3, .int .i64 a0_4, .int .i64 a0_5, .int .i64 a0_6, .int .i64 a0_7, .int .i64 a0_8] 26 (0, 0)) (by (with_reducible repeat (first | refine blk_drewN ?_ _ | refine blk_drew ?_ | refine blk_alloc ?_ _)); exact BK118.out)) : gb118 ≠ gb119)); have n6_ := Aside0.mk ((by rw [hg]; exact Nat.ne_of_gt (blk_lt (g := gb118) (o := .cells #[.slice A0_0 l0_0.length c0_0, .slice A0_1 l0_1.length c0_1, .slice A0_2 l0_2.length c0_2, .int .i64 a0_3, .int .i64 a0_4, .int .i64 a0_5, .int .i64 a0_6, .int .i64 a0_7, .int .i64 a0_8] 26 (0, 0)) (by (with_reducible repeat (first | refine blk_drewN ?_ _ | refine blk_drew ?_ | refine blk_alloc ?_ _)); exact BK118.out)) : gb119 ≠ gb118)); clear BK118; clear HB; have BK118 := n0_; have HB := n1_; have BK119 := n2_; have GW119 := n3_; have GE119 := n4_; have NB118_119 := n5_; have NB119_118 := n6_; clear n0_ n1_ n2_ n3_ n4_ n5_ n6_; clear hb hbox hg))
  repeat (go_quiet (first | ((with_reducible refine gate_dst (N := 2) rfl ?_); (try (refine gate_guard (by rfl) ?_; dsimp only)); refine box_event ?hg (N := 2) ?hd (cs := #[.slice A0_0 l0_0.length c0_0, .slice A0_1 l0_1.length c0_1, .slice A0_2 l0_2.length c0_2, .int .i64 a0_3, .int .i64 a0_4, .int .i64 a0_5, .int .i64 a0_6, .int .i64 a0_7, .int .i64 a0_8]) (t := 26) ?hr ?_; (case hd => rfl); (case hg => rfl); (case hr => first | (go_simp; done) | (go_simp; rfl)); intro gb118 hg w4 hbox hb; have n0_ := Aside0.mk (below_step (by repeat (first | (with_reducible first | exact HB.out | apply below_alloc | apply pw_below_drewN | apply below_drew1) | exact HB.out)) hb); have n1_ := Aside0.mk (hbox); have n2_ := Aside0.mk ((by rw [hg]; exact (below_size (by repeat (first | (with_reducible first | exact HB.out | apply below_alloc | apply pw_below_drewN | apply below_drew1) | exact HB.out))) : w.heap.size ≤ gb118)); have n3_ := Aside0.mk ((by rw [hg]; exact (below_size (by repeat (first | (with_reducible first | exact HB.out | apply below_alloc | apply pw_below_drewN | apply below_drew1) | exact HB.out))) : w.heap.size ≤ gb118)); clear HB; have HB := n0_; have BK118 := n1_; have GW118 := n2_; have GE118 := n3_; clear n0_ n1_ n2_ n3_; clear hb hbox hg) | ((with_reducible refine gate_dst (N := 3) rfl ?_); (try (refine gate_guard (by rfl) ?_; dsimp only)); refine box_event ?hg (N := 3) ?hd (cs := #[.int .i64 a1_0, .int .i64 a1_1, .slice A1_2 l1_2.length c1_2, .slice A1_3 l1_3.length c1_3]) (t := 36) ?hr ?_; (case hd => rfl); (case hg => rfl); (case hr => first | (go_simp; done) | (go_simp; rfl)); intro gb119 hg w5 hbox hb; have n0_ := Aside0.mk (blk_below (g := gb118) (o := .cells #[.slice A0_0 l0_0.length c0_0, .slice A0_1 l0_1.length c0_1, .slice A0_2 l0_2.length c0_2, .int .i64 a0_3, .int .i64 a0_4, .int .i64 a0_5, .int .i64 a0_6, .int .i64 a0_7, .int .i64 a0_8] 26 (0, 0)) (by (with_reducible repeat (first | refine blk_drewN ?_ _ | refine blk_drew ?_ | refine blk_alloc ?_ _)); exact BK118.out) hb); have n1_ := Aside0.mk (below_step (by repeat (first | (with_reducible first | exact HB.out | apply below_alloc | apply pw_below_drewN | apply below_drew1 | refine below_set ?_ GE118.out) | exact HB.out)) hb); have n2_ := Aside0.mk (hbox); have n3_ := Aside0.mk ((by rw [hg]; exact (below_size (by repeat (first | (with_reducible first | exact HB.out | apply below_alloc | apply pw_below_drewN | apply below_drew1 | refine below_set ?_ GE118.out) | exact HB.out))) : w.heap.size ≤ gb119)); have n4_ := Aside0.mk ((by rw [hg]; exact (below_size (by repeat (first | (with_reducible first | exact HB.out | apply below_alloc | apply pw_below_drewN | apply below_drew1 | refine below_set ?_ GE118.out) | exact HB.out))) : w.heap.size ≤ gb119)); have n5_ := Aside0.mk ((by rw [hg]; exact Nat.ne_of_lt (blk_lt (g := gb118) (o := .cells #[.slice A0_0 l0_0.length c0_0, .slice A0_1 l0_1.length c0_1, .slice A0_2 l0_2.length c0_2, .int .i64 a0_3, .int .i64 a0_4, .int .i64 a0_5, .int .i64 a0_6, .int .i64 a0_7, .int .i64 a0_8] 26 (0, 0)) (by (with_reducible repeat (first | refine blk_drewN ?_ _ | refine blk_drew ?_ | refine blk_alloc ?_ _)); exact BK118.out)) : gb118 ≠ gb119)); have n6_ := Aside0.mk ((by rw [hg]; exact Nat.ne_of_gt (blk_lt (g := gb118) (o := .cells #[.slice A0_0 l0_0.length c0_0, .slice A0_1 l0_1.length c0_1, .slice A0_2 l0_2.length c0_2, .int .i64 a0_3, .int .i64 a0_4, .int .i64 a0_5, .int .i64 a0_6, .int .i64 a0_7, .int .i64 a0_8] 26 (0, 0)) (by (with_reducible repeat (first | refine blk_drewN ?_ _ | refine blk_drew ?_ | refine blk_alloc ?_ _)); exact BK118.out)) : gb119 ≠ gb118)); clear BK118; clear HB; have BK118 := n0_; have HB := n1_; have BK119 := n2_; have GW119 := n3_; have GE119 := n4_; have NB118_119 := n5_; have NB119_118 := n6_; clear n0_ n1_ n2_ n3_ n4_ n5_ n6_; clear hb hbox hg)); go_upto_region 1 with (first | ((with_reducible refine gate_dst (N := 2) rfl ?_); (try (refine gate_guard (by rfl) ?_; dsimp only)); refine box_event ?hg (N := 2) ?hd (cs := #[.slice A0_0 l0_0.length c0_0, .slice A0_1 l0_1.length c0_1, .slice A0_2 l0_2.length c0_2, .int .i64 a0_3, .int .i64 a0_4, .int .i64 a0_5, .int .i64 a0_6, .int .i64 a0_7, .int .i64 a0_8]) (t := 26) ?hr ?_; (case hd => rfl); (case hg => rfl); (case hr => first | (go_simp; done) | (go_simp; rfl)); intro gb118 hg w4 hbox hb; have n0_ := Aside0.mk (below_step (by repeat (first | (with_reducible first | exact HB.out | apply below_alloc | apply pw_below_drewN | apply below_drew1) | exact HB.out)) hb); have n1_ := Aside0.mk (hbox); have n2_ := Aside0.mk ((by rw [hg]; exact (below_size (by repeat (first | (with_reducible first | exact HB.out | apply below_alloc | apply pw_below_drewN | apply below_drew1) | exact HB.out))) : w.heap.size ≤ gb118)); have n3_ := Aside0.mk ((by rw [hg]; exact (below_size (by repeat (first | (with_reducible first | exact HB.out | apply below_alloc | apply pw_below_drewN | apply below_drew1) | exact HB.out))) : w.heap.size ≤ gb118)); clear HB; have HB := n0_; have BK118 := n1_; have GW118 := n2_; have GE118 := n3_; clear n0_ n1_ n2_ n3_; clear hb hbox hg) | ((with_reducible refine gate_dst (N := 3) rfl ?_); (try (refine gate_guard (by rfl) ?_; dsimp only)); refine box_event ?hg (N := 3) ?hd (cs := #[.int .i64 a1_0, .int .i64 a1_1, .slice A1_2 l1_2.length c1_2, .slice A1_3 l1_3.length c1_3]) (t := 36) ?hr ?_; (case hd => rfl); (case hg => rfl); (case hr => first | (go_simp; done) | (go_simp; rfl)); intro gb119 hg w5 hbox hb; have n0_ := Aside0.mk (blk_below (g := gb118) (o := .cells #[.slice A0_0 l0_0.length c0_0, .slice A0_1 l0_1.length c0_1, .slice A0_2 l0_2.length c0_2, .int .i64 a0_3, .int .i64 a0_4, .int .i64 a0_5, .int .i64 a0_6, .int .i64 a0_7, .int .i64 a0_8] 26 (0, 0)) (by (with_reducible repeat (first | refine blk_drewN ?_ _ | refine blk_drew ?_ | refine blk_alloc ?_ _)); exact BK118.out) hb); have n1_ := Aside0.mk (below_step (by repeat (first | (with_reducible first | exact HB.out | apply below_alloc | apply pw_below_drewN | apply below_drew1 | refine below_set ?_ GE118.out) | exact HB.out)) hb); have n2_ := Aside0.mk (hbox); have n3_ := Aside0.mk ((by rw [hg]; exact (below_size (by repeat (first | (with_reducible first | exact HB.out | apply below_alloc | apply pw_below_drewN | apply below_drew1 | refine below_set ?_ GE118.out) | exact HB.out))) : w.heap.size ≤ gb119)); have n4_ := Aside0.mk ((by rw [hg]; exact (below_size (by repeat (first | (with_reducible first | exact HB.out | apply below_alloc | apply pw_below_drewN | apply below_drew1 | refine below_set ?_ GE118.out) | exact HB.out))) : w.heap.size ≤ gb119)); have n5_ := Aside0.mk ((by rw [hg]; exact Nat.ne_of_lt (blk_lt (g := gb118) (o := .cells #[.slice A0_0 l0_0.length c0_0, .slice A0_1 l0_1.length c0_1, .slice A0_2 l0_2.length c0_2, .int .i64 a0_3, .int .i64 a0_4, .int .i64 a0_5, .int .i64 a0_6, .int .i64 a0_7, .int .i64 a0_8] 26 (0, 0)) (by (with_reducible repeat (first | refine blk_drewN ?_ _ | refine blk_drew ?_ | refine blk_alloc ?_ _)); exact BK118.out)) : gb118 ≠ gb119)); have n6_ := Aside0.mk ((by rw [hg]; exact Nat.ne_of_gt (blk_lt (g := gb118) (o := .cells #[.slice A0_0 l0_0.length c0_0, .slice A0_1 l0_1.length c0_1, .slice A0_2 l0_2.length c0_2, .int .i64 a0_3, .int .i64 a0_4, .int .i64 a0_5, .int .i64 a0_6, .int .i64 a0_7, .int .i64 a0_8] 26 (0, 0)) (by (with_reducible repeat (first | refine blk_drewN ?_ _ | refine blk_drew ?_ | refine blk_alloc ?_ _)); exact BK118.out)) : gb119 ≠ gb118)); clear BK118; clear HB; have BK118 := n0_; have HB := n1_; have BK119 := n2_; have GW119 := n3_; have GE119 := n4_; have NB118_119 := n5_; have NB119_118 := n6_; clear n0_ n1_ n2_ n3_ n4_ n5_ n6_; clear hb hbox hg)))
  (try simp only [Act.put, List.setIfInBounds_toArray, List.set_cons_zero, List.set_cons_succ])
  go_cut [34] (fun v34 wc => ∃ (kq : Nat) (x34_2 : Bool), v34 = .bool x34_2 ∧ Aside0 (dormouseref09_Task.j0 kq x34_2 l0_0 l0_1 l0_2 a0_3 a0_4 a0_5 a0_6 a0_7 a0_8 a1_0 a1_1 l1_2 l1_3 = some r) ∧ Aside0 (kq ≤ k) ∧ Aside0 (wc.heap[gb118]? = some (.cells #[(.slice A0_0 l0_0.length c0_0), (.slice A0_1 l0_1.length c0_1), (.slice A0_2 l0_2.length c0_2), .int .i64 a0_3, .int .i64 a0_4, .int .i64 a0_5, .int .i64 a0_6, .int .i64 a0_7, .int .i64 a0_8] 26 (0, 0))) ∧ Aside0 (wc.heap[gb119]? = some (.cells #[.int .i64 a1_0, .int .i64 a1_1, (.slice A1_2 l1_2.length c1_2), (.slice A1_3 l1_3.length c1_3)] 36 (0, 0))) ∧ Aside0 (Below w.heap.size w wc))
  case first =>
    have H := HC3.out
    clear HC3
    by_cases c6 : a1_0 < 1
    · rw [if_pos c6] at H
      have c6b0 : decide (a1_0 < 1) = true := decide_eq_true c6
      clear c6
      (first | rw [c6b0] | (simp only [i64_w, i32_w]; rw [c6b0]) | skip)
      have H' := Aside0.mk H
      clear H
      have hnb7 := NB119_118.out
      have hnc7 := NB118_119.out
      have hcz8_0 : w5.cell? ⟨gb119, 0, none⟩ = some (.int .i64 a1_0) := (blk_cell BK119.out 0).trans rfl
      have hcz8_1 : w5.cell? ⟨gb119, 1, none⟩ = some (.int .i64 a1_1) := (blk_cell BK119.out 1).trans rfl
      have hcz8_2 : w5.cell? ⟨gb119, 2, none⟩ = some (.slice A1_2 l1_2.length c1_2) := (blk_cell BK119.out 2).trans rfl
      have hcz8_3 : w5.cell? ⟨gb119, 3, none⟩ = some (.slice A1_3 l1_3.length c1_3) := (blk_cell BK119.out 3).trans rfl
      have hfz8_0 := blk_frozen BK119.out 0
      have hfz8_1 := blk_frozen BK119.out 1
      have hfz8_2 := blk_frozen BK119.out 2
      have hfz8_3 := blk_frozen BK119.out 3
      go_wp2
      repeat (go_quiet (fail); try go_wp2)
      go_meet
      case rel => exact ⟨_, (true), (by first | rfl | (simp; done) | (simp [*]; done)), H', ⟨by first | omega | exact Nat.le_refl _⟩, ⟨by (with_reducible repeat (first | refine blk_drewN ?_ _ | refine blk_drew ?_ | refine blk_alloc ?_ _)); exact BK118.out⟩, ⟨by (with_reducible repeat (first | refine blk_drewN ?_ _ | refine blk_drew ?_ | refine blk_alloc ?_ _)); exact BK119.out⟩, ⟨by repeat (first | (with_reducible first | exact HB.out | apply below_alloc | apply pw_below_drewN | apply below_drew1 | refine below_set ?_ GE118.out | refine below_set ?_ GE119.out) | exact HB.out)⟩⟩
    · rw [if_neg c6] at H
      have c6b0 : decide (a1_0 < 1) = false := decide_eq_false c6
      clear c6
      (first | rw [c6b0] | (simp only [i64_w, i32_w]; rw [c6b0]) | skip)
      by_cases c9 : a1_0 > a0_8
      · rw [if_pos c9] at H
        have c9b0 : decide (a0_8 < a1_0) = true := decide_eq_true c9
        clear c9
        have H' := Aside0.mk H
        clear H
        have hnb10 := NB119_118.out
        have hnc10 := NB118_119.out
        have hcz11_0 : w5.cell? ⟨gb119, 0, none⟩ = some (.int .i64 a1_0) := (blk_cell BK119.out 0).trans rfl
        have hcz11_1 : w5.cell? ⟨gb119, 1, none⟩ = some (.int .i64 a1_1) := (blk_cell BK119.out 1).trans rfl
        have hcz11_2 : w5.cell? ⟨gb119, 2, none⟩ = some (.slice A1_2 l1_2.length c1_2) := (blk_cell BK119.out 2).trans rfl
        have hcz11_3 : w5.cell? ⟨gb119, 3, none⟩ = some (.slice A1_3 l1_3.length c1_3) := (blk_cell BK119.out 3).trans rfl
        have hfz11_0 := blk_frozen BK119.out 0
        have hfz11_1 := blk_frozen BK119.out 1
        have hfz11_2 := blk_frozen BK119.out 2
        have hfz11_3 := blk_frozen BK119.out 3
        have hcz12_0 : w5.cell? ⟨gb118, 0, none⟩ = some (.slice A0_0 l0_0.length c0_0) := (blk_cell BK118.out 0).trans rfl
        have hcz12_1 : w5.cell? ⟨gb118, 1, none⟩ = some (.slice A0_1 l0_1.length c0_1) := (blk_cell BK118.out 1).trans rfl
        have hcz12_2 : w5.cell? ⟨gb118, 2, none⟩ = some (.slice A0_2 l0_2.length c0_2) := (blk_cell BK118.out 2).trans rfl
        have hcz12_3 : w5.cell? ⟨gb118, 3, none⟩ = some (.int .i64 a0_3) := (blk_cell BK118.out 3).trans rfl
        have hcz12_4 : w5.cell? ⟨gb118, 4, none⟩ = some (.int .i64 a0_4) := (blk_cell BK118.out 4).trans rfl
        have hcz12_5 : w5.cell? ⟨gb118, 5, none⟩ = some (.int .i64 a0_5) := (blk_cell BK118.out 5).trans rfl
        have hcz12_6 : w5.cell? ⟨gb118, 6, none⟩ = some (.int .i64 a0_6) := (blk_cell BK118.out 6).trans rfl
        have hcz12_7 : w5.cell? ⟨gb118, 7, none⟩ = some (.int .i64 a0_7) := (blk_cell BK118.out 7).trans rfl
        have hcz12_8 : w5.cell? ⟨gb118, 8, none⟩ = some (.int .i64 a0_8) := (blk_cell BK118.out 8).trans rfl
        have hfz12_0 := blk_frozen BK118.out 0
        have hfz12_1 := blk_frozen BK118.out 1
        have hfz12_2 := blk_frozen BK118.out 2
        have hfz12_3 := blk_frozen BK118.out 3
        have hfz12_4 := blk_frozen BK118.out 4
        have hfz12_5 := blk_frozen BK118.out 5
        have hfz12_6 := blk_frozen BK118.out 6
        have hfz12_7 := blk_frozen BK118.out 7
        have hfz12_8 := blk_frozen BK118.out 8
        go_wp2
        repeat (go_quiet (fail); try go_wp2)
        go_meet
        case rel => exact ⟨_, (true), (by first | rfl | (simp; done) | (simp [*]; done)), H', ⟨by first | omega | exact Nat.le_refl _⟩, ⟨by (with_reducible repeat (first | refine blk_drewN ?_ _ | refine blk_drew ?_ | refine blk_alloc ?_ _)); exact BK118.out⟩, ⟨by (with_reducible repeat (first | refine blk_drewN ?_ _ | refine blk_drew ?_ | refine blk_alloc ?_ _)); exact BK119.out⟩, ⟨by repeat (first | (with_reducible first | exact HB.out | apply below_alloc | apply pw_below_drewN | apply below_drew1 | refine below_set ?_ GE118.out | refine below_set ?_ GE119.out) | exact HB.out)⟩⟩
      · rw [if_neg c9] at H
        have c9b0 : decide (a0_8 < a1_0) = false := decide_eq_false c9
        clear c9
        by_cases c13 : a1_1 < 1
        · rw [if_pos c13] at H
          have c13b0 : decide (a1_1 < 1) = true := decide_eq_true c13
          clear c13
          have H' := Aside0.mk H
          clear H
          have hnb14 := NB119_118.out
          have hnc14 := NB118_119.out
          have hcz15_0 : w5.cell? ⟨gb119, 0, none⟩ = some (.int .i64 a1_0) := (blk_cell BK119.out 0).trans rfl
          have hcz15_1 : w5.cell? ⟨gb119, 1, none⟩ = some (.int .i64 a1_1) := (blk_cell BK119.out 1).trans rfl
          have hcz15_2 : w5.cell? ⟨gb119, 2, none⟩ = some (.slice A1_2 l1_2.length c1_2) := (blk_cell BK119.out 2).trans rfl
          have hcz15_3 : w5.cell? ⟨gb119, 3, none⟩ = some (.slice A1_3 l1_3.length c1_3) := (blk_cell BK119.out 3).trans rfl
          have hfz15_0 := blk_frozen BK119.out 0
          have hfz15_1 := blk_frozen BK119.out 1
          have hfz15_2 := blk_frozen BK119.out 2
          have hfz15_3 := blk_frozen BK119.out 3
          have hcz16_0 : w5.cell? ⟨gb118, 0, none⟩ = some (.slice A0_0 l0_0.length c0_0) := (blk_cell BK118.out 0).trans rfl
          have hcz16_1 : w5.cell? ⟨gb118, 1, none⟩ = some (.slice A0_1 l0_1.length c0_1) := (blk_cell BK118.out 1).trans rfl
          have hcz16_2 : w5.cell? ⟨gb118, 2, none⟩ = some (.slice A0_2 l0_2.length c0_2) := (blk_cell BK118.out 2).trans rfl
          have hcz16_3 : w5.cell? ⟨gb118, 3, none⟩ = some (.int .i64 a0_3) := (blk_cell BK118.out 3).trans rfl
          have hcz16_4 : w5.cell? ⟨gb118, 4, none⟩ = some (.int .i64 a0_4) := (blk_cell BK118.out 4).trans rfl
          have hcz16_5 : w5.cell? ⟨gb118, 5, none⟩ = some (.int .i64 a0_5) := (blk_cell BK118.out 5).trans rfl
          have hcz16_6 : w5.cell? ⟨gb118, 6, none⟩ = some (.int .i64 a0_6) := (blk_cell BK118.out 6).trans rfl
          have hcz16_7 : w5.cell? ⟨gb118, 7, none⟩ = some (.int .i64 a0_7) := (blk_cell BK118.out 7).trans rfl
          have hcz16_8 : w5.cell? ⟨gb118, 8, none⟩ = some (.int .i64 a0_8) := (blk_cell BK118.out 8).trans rfl
          have hfz16_0 := blk_frozen BK118.out 0
          have hfz16_1 := blk_frozen BK118.out 1
          have hfz16_2 := blk_frozen BK118.out 2
          have hfz16_3 := blk_frozen BK118.out 3
          have hfz16_4 := blk_frozen BK118.out 4
          have hfz16_5 := blk_frozen BK118.out 5
          have hfz16_6 := blk_frozen BK118.out 6
          have hfz16_7 := blk_frozen BK118.out 7
          have hfz16_8 := blk_frozen BK118.out 8
          go_wp2
          repeat (go_quiet (fail); try go_wp2)
          go_meet
          case rel => exact ⟨_, (true), (by first | rfl | (simp; done) | (simp [*]; done)), H', ⟨by first | omega | exact Nat.le_refl _⟩, ⟨by (with_reducible repeat (first | refine blk_drewN ?_ _ | refine blk_drew ?_ | refine blk_alloc ?_ _)); exact BK118.out⟩, ⟨by (with_reducible repeat (first | refine blk_drewN ?_ _ | refine blk_drew ?_ | refine blk_alloc ?_ _)); exact BK119.out⟩, ⟨by repeat (first | (with_reducible first | exact HB.out | apply below_alloc | apply pw_below_drewN | apply below_drew1 | refine below_set ?_ GE118.out | refine below_set ?_ GE119.out) | exact HB.out)⟩⟩
        · rw [if_neg c13] at H
          have c13b0 : decide (a1_1 < 1) = false := decide_eq_false c13
          clear c13
          by_cases c17 : a1_1 > 4096
          · rw [if_pos c17] at H
            have c17b0 : decide (4096 < a1_1) = true := decide_eq_true c17
            clear c17
            have H' := Aside0.mk H
            clear H
            have hnb18 := NB119_118.out
            have hnc18 := NB118_119.out
            have hcz19_0 : w5.cell? ⟨gb119, 0, none⟩ = some (.int .i64 a1_0) := (blk_cell BK119.out 0).trans rfl
            have hcz19_1 : w5.cell? ⟨gb119, 1, none⟩ = some (.int .i64 a1_1) := (blk_cell BK119.out 1).trans rfl
            have hcz19_2 : w5.cell? ⟨gb119, 2, none⟩ = some (.slice A1_2 l1_2.length c1_2) := (blk_cell BK119.out 2).trans rfl
            have hcz19_3 : w5.cell? ⟨gb119, 3, none⟩ = some (.slice A1_3 l1_3.length c1_3) := (blk_cell BK119.out 3).trans rfl
            have hfz19_0 := blk_frozen BK119.out 0
            have hfz19_1 := blk_frozen BK119.out 1
            have hfz19_2 := blk_frozen BK119.out 2
            have hfz19_3 := blk_frozen BK119.out 3
            have hcz20_0 : w5.cell? ⟨gb118, 0, none⟩ = some (.slice A0_0 l0_0.length c0_0) := (blk_cell BK118.out 0).trans rfl
            have hcz20_1 : w5.cell? ⟨gb118, 1, none⟩ = some (.slice A0_1 l0_1.length c0_1) := (blk_cell BK118.out 1).trans rfl
            have hcz20_2 : w5.cell? ⟨gb118, 2, none⟩ = some (.slice A0_2 l0_2.length c0_2) := (blk_cell BK118.out 2).trans rfl
            have hcz20_3 : w5.cell? ⟨gb118, 3, none⟩ = some (.int .i64 a0_3) := (blk_cell BK118.out 3).trans rfl
            have hcz20_4 : w5.cell? ⟨gb118, 4, none⟩ = some (.int .i64 a0_4) := (blk_cell BK118.out 4).trans rfl
            have hcz20_5 : w5.cell? ⟨gb118, 5, none⟩ = some (.int .i64 a0_5) := (blk_cell BK118.out 5).trans rfl
            have hcz20_6 : w5.cell? ⟨gb118, 6, none⟩ = some (.int .i64 a0_6) := (blk_cell BK118.out 6).trans rfl
            have hcz20_7 : w5.cell? ⟨gb118, 7, none⟩ = some (.int .i64 a0_7) := (blk_cell BK118.out 7).trans rfl
            have hcz20_8 : w5.cell? ⟨gb118, 8, none⟩ = some (.int .i64 a0_8) := (blk_cell BK118.out 8).trans rfl
            have hfz20_0 := blk_frozen BK118.out 0
            have hfz20_1 := blk_frozen BK118.out 1
            have hfz20_2 := blk_frozen BK118.out 2
            have hfz20_3 := blk_frozen BK118.out 3
            have hfz20_4 := blk_frozen BK118.out 4
            have hfz20_5 := blk_frozen BK118.out 5
            have hfz20_6 := blk_frozen BK118.out 6
            have hfz20_7 := blk_frozen BK118.out 7
            have hfz20_8 := blk_frozen BK118.out 8
            go_wp2
            repeat (go_quiet (fail); try go_wp2)
            go_meet
            case rel => exact ⟨_, (true), (by first | rfl | (simp; done) | (simp [*]; done)), H', ⟨by first | omega | exact Nat.le_refl _⟩, ⟨by (with_reducible repeat (first | refine blk_drewN ?_ _ | refine blk_drew ?_ | refine blk_alloc ?_ _)); exact BK118.out⟩, ⟨by (with_reducible repeat (first | refine blk_drewN ?_ _ | refine blk_drew ?_ | refine blk_alloc ?_ _)); exact BK119.out⟩, ⟨by repeat (first | (with_reducible first | exact HB.out | apply below_alloc | apply pw_below_drewN | apply below_drew1 | refine below_set ?_ GE118.out | refine below_set ?_ GE119.out) | exact HB.out)⟩⟩
          · rw [if_neg c17] at H
            have c17b0 : decide (4096 < a1_1) = false := decide_eq_false c17
            clear c17
            have H' := Aside0.mk H
            clear H
            have hnb21 := NB119_118.out
            have hnc21 := NB118_119.out
            have hcz22_0 : w5.cell? ⟨gb119, 0, none⟩ = some (.int .i64 a1_0) := (blk_cell BK119.out 0).trans rfl
            have hcz22_1 : w5.cell? ⟨gb119, 1, none⟩ = some (.int .i64 a1_1) := (blk_cell BK119.out 1).trans rfl
            have hcz22_2 : w5.cell? ⟨gb119, 2, none⟩ = some (.slice A1_2 l1_2.length c1_2) := (blk_cell BK119.out 2).trans rfl
            have hcz22_3 : w5.cell? ⟨gb119, 3, none⟩ = some (.slice A1_3 l1_3.length c1_3) := (blk_cell BK119.out 3).trans rfl
            have hfz22_0 := blk_frozen BK119.out 0
            have hfz22_1 := blk_frozen BK119.out 1
            have hfz22_2 := blk_frozen BK119.out 2
            have hfz22_3 := blk_frozen BK119.out 3
            have hcz23_0 : w5.cell? ⟨gb118, 0, none⟩ = some (.slice A0_0 l0_0.length c0_0) := (blk_cell BK118.out 0).trans rfl
            have hcz23_1 : w5.cell? ⟨gb118, 1, none⟩ = some (.slice A0_1 l0_1.length c0_1) := (blk_cell BK118.out 1).trans rfl
            have hcz23_2 : w5.cell? ⟨gb118, 2, none⟩ = some (.slice A0_2 l0_2.length c0_2) := (blk_cell BK118.out 2).trans rfl
            have hcz23_3 : w5.cell? ⟨gb118, 3, none⟩ = some (.int .i64 a0_3) := (blk_cell BK118.out 3).trans rfl
            have hcz23_4 : w5.cell? ⟨gb118, 4, none⟩ = some (.int .i64 a0_4) := (blk_cell BK118.out 4).trans rfl
            have hcz23_5 : w5.cell? ⟨gb118, 5, none⟩ = some (.int .i64 a0_5) := (blk_cell BK118.out 5).trans rfl
            have hcz23_6 : w5.cell? ⟨gb118, 6, none⟩ = some (.int .i64 a0_6) := (blk_cell BK118.out 6).trans rfl
            have hcz23_7 : w5.cell? ⟨gb118, 7, none⟩ = some (.int .i64 a0_7) := (blk_cell BK118.out 7).trans rfl
            have hcz23_8 : w5.cell? ⟨gb118, 8, none⟩ = some (.int .i64 a0_8) := (blk_cell BK118.out 8).trans rfl
            have hfz23_0 := blk_frozen BK118.out 0
            have hfz23_1 := blk_frozen BK118.out 1
            have hfz23_2 := blk_frozen BK118.out 2
            have hfz23_3 := blk_frozen BK118.out 3
            have hfz23_4 := blk_frozen BK118.out 4
            have hfz23_5 := blk_frozen BK118.out 5
            have hfz23_6 := blk_frozen BK118.out 6
            have hfz23_7 := blk_frozen BK118.out 7
            have hfz23_8 := blk_frozen BK118.out 8
            go_wp2
            repeat (go_quiet (fail); try go_wp2)
            go_meet
            case rel => exact ⟨_, (decide ((l1_2.length : Int) > a0_7)), (by first | rfl | (simp; done) | (simp [*]; done)), H', ⟨by first | omega | exact Nat.le_refl _⟩, ⟨by (with_reducible repeat (first | refine blk_drewN ?_ _ | refine blk_drew ?_ | refine blk_alloc ?_ _)); exact BK118.out⟩, ⟨by (with_reducible repeat (first | refine blk_drewN ?_ _ | refine blk_drew ?_ | refine blk_alloc ?_ _)); exact BK119.out⟩, ⟨by repeat (first | (with_reducible first | exact HB.out | apply below_alloc | apply pw_below_drewN | apply below_drew1 | refine below_set ?_ GE118.out | refine below_set ?_ GE119.out) | exact HB.out)⟩⟩
  case rest =>
    clear HC3
    try clear c1
    try clear c2
    try clear p2
    try clear c6
    try clear c6b0
    try clear c7
    try clear c9
    try clear c9b0
    try clear c10
    try clear c13
    try clear c13b0
    try clear c14
    try clear c17
    try clear c17b0
    try clear c18
    try clear c21
    try clear hcz11_0
    try clear hcz11_1
    try clear hcz11_2
    try clear hcz11_3
    try clear hcz12_0
    try clear hcz12_1
    try clear hcz12_2
    try clear hcz12_3
    try clear hcz12_4
    try clear hcz12_5
    try clear hcz12_6
    try clear hcz12_7
    try clear hcz12_8
    try clear hcz15_0
    try clear hcz15_1
    try clear hcz15_2
    try clear hcz15_3
    try clear hcz16_0
    try clear hcz16_1
    try clear hcz16_2
    try clear hcz16_3
    try clear hcz16_4
    try clear hcz16_5
    try clear hcz16_6
    try clear hcz16_7
    try clear hcz16_8
    try clear hcz19_0
    try clear hcz19_1
    try clear hcz19_2
    try clear hcz19_3
    try clear hcz20_0
    try clear hcz20_1
    try clear hcz20_2
    try clear hcz20_3
    try clear hcz20_4
    try clear hcz20_5
    try clear hcz20_6
    try clear hcz20_7
    try clear hcz20_8
    try clear hcz22_0
    try clear hcz22_1
    try clear hcz22_2
    try clear hcz22_3
    try clear hcz23_0
    try clear hcz23_1
    try clear hcz23_2
    try clear hcz23_3
    try clear hcz23_4
    try clear hcz23_5
    try clear hcz23_6
    try clear hcz23_7
    try clear hcz23_8
    try clear hcz8_0
    try clear hcz8_1
    try clear hcz8_2
    try clear hcz8_3
    try clear hfz11_0
    try clear hfz11_1
    try clear hfz11_2
    try clear hfz11_3
    try clear hfz12_0
    try clear hfz12_1
    try clear hfz12_2
    try clear hfz12_3
    try clear hfz12_4
    try clear hfz12_5
    try clear hfz12_6
    try clear hfz12_7
    try clear hfz12_8
    try clear hfz15_0
    try clear hfz15_1
    try clear hfz15_2
    try clear hfz15_3
    try clear hfz16_0
    try clear hfz16_1
    try clear hfz16_2
    try clear hfz16_3
    try clear hfz16_4
    try clear hfz16_5
    try clear hfz16_6
    try clear hfz16_7
    try clear hfz16_8
    try clear hfz19_0
    try clear hfz19_1
    try clear hfz19_2
    try clear hfz19_3
    try clear hfz20_0
    try clear hfz20_1
    try clear hfz20_2
    try clear hfz20_3
    try clear hfz20_4
    try clear hfz20_5
    try clear hfz20_6
    try clear hfz20_7
    try clear hfz20_8
    try clear hfz22_0
    try clear hfz22_1
    try clear hfz22_2
    try clear hfz22_3
    try clear hfz23_0
    try clear hfz23_1
    try clear hfz23_2
    try clear hfz23_3
    try clear hfz23_4
    try clear hfz23_5
    try clear hfz23_6
    try clear hfz23_7
    try clear hfz23_8
    try clear hfz8_0
    try clear hfz8_1
    try clear hfz8_2
    try clear hfz8_3
    obtain ⟨kq, x34_2, rfl, HA, HJ2, BK118, BK119, HB⟩ := hcut
    cases kq with
    | zero => exact absurd HA.out (by simp [dormouseref09_Task.j0])
    | succ kj2 =>
      have H := HA.out
      clear HA
      simp only [dormouseref09_Task.j0] at H
      by_cases c24 : x34_2 = true
      · subst c24
        have H1 : (some false) = some r := by rw [if_pos rfl] at H; exact H
        clear H
        have H := H1
        clear H1
        obtain rfl := Option.some.inj H
        go_wp2
        repeat (go_quiet (fail); try go_wp2)
        go_ret
        exact ⟨by first | rfl | (simp [errW_none, errW_some] <;> rfl) | (simp [*, errW_none, errW_some] <;> rfl), by repeat (first | (with_reducible first | exact HB.out | apply below_alloc | apply pw_below_drewN | apply below_drew1 | refine below_set ?_ GE118.out | refine below_set ?_ GE119.out) | exact HB.out)⟩
      · replace c24 := Bool.eq_false_iff.mpr c24
        subst c24
        have H1 : (dormouseref09_Task.l0 kj2 0 l0_0 l0_1 l0_2 a0_3 a0_4 a0_5 a0_6 a0_7 a0_8 a1_0 a1_1 l1_2 l1_3) = some r := by rw [if_neg (show ¬ (false = true) by decide)] at H; exact H
        clear H
        have H := H1
        clear H1
        have H' := Aside0.mk H
        clear H
        go_wp2
        repeat (go_quiet (fail); try go_wp2)
        go_loopg [5] kj2 (fun kq v5 w' => ∃ (x5_2 : Int), v5 = .int .i64 x5_2 ∧ Aside0 (dormouseref09_Task.l0 kq x5_2 l0_0 l0_1 l0_2 a0_3 a0_4 a0_5 a0_6 a0_7 a0_8 a1_0 a1_1 l1_2 l1_3 = some r) ∧ Aside0 (kq ≤ kj2) ∧ Aside0 (w'.heap[gb118]? = some (.cells #[(.slice A0_0 l0_0.length c0_0), (.slice A0_1 l0_1.length c0_1), (.slice A0_2 l0_2.length c0_2), .int .i64 a0_3, .int .i64 a0_4, .int .i64 a0_5, .int .i64 a0_6, .int .i64 a0_7, .int .i64 a0_8] 26 (0, 0))) ∧ Aside0 (w'.heap[gb119]? = some (.cells #[.int .i64 a1_0, .int .i64 a1_1, (.slice A1_2 l1_2.length c1_2), (.slice A1_3 l1_3.length c1_3)] 36 (0, 0))) ∧ Aside0 (Below w.heap.size w w'))
        case atStart => exact ⟨(0), (by first | rfl | (simp; done) | (simp [*]; done)), H', ⟨Nat.le_refl _⟩, ⟨by (with_reducible repeat (first | refine blk_drewN ?_ _ | refine blk_drew ?_ | refine blk_alloc ?_ _)); exact BK118.out⟩, ⟨by (with_reducible repeat (first | refine blk_drewN ?_ _ | refine blk_drew ?_ | refine blk_alloc ?_ _)); exact BK119.out⟩, ⟨by repeat (first | (with_reducible first | exact HB.out | apply below_alloc | apply pw_below_drewN | apply below_drew1 | refine below_set ?_ GE118.out | refine below_set ?_ GE119.out) | exact HB.out)⟩⟩
        case round =>
          clear H'
          try clear c1
          try clear c2
          try clear p2
          try clear c6
          try clear c6b0
          try clear c7
          try clear c9
          try clear c9b0
          try clear c10
          try clear c13
          try clear c13b0
          try clear c14
          try clear c17
          try clear c17b0
          try clear c18
          try clear c21
          try clear c24
          try clear hcz11_0
          try clear hcz11_1
          try clear hcz11_2
          try clear hcz11_3
          try clear hcz12_0
          try clear hcz12_1
          try clear hcz12_2
          try clear hcz12_3
          try clear hcz12_4
          try clear hcz12_5
          try clear hcz12_6
          try clear hcz12_7
          try clear hcz12_8
          try clear hcz15_0
          try clear hcz15_1
          try clear hcz15_2
          try clear hcz15_3
          try clear hcz16_0
          try clear hcz16_1
          try clear hcz16_2
          try clear hcz16_3
          try clear hcz16_4
          try clear hcz16_5
          try clear hcz16_6
          try clear hcz16_7
          try clear hcz16_8
          try clear hcz19_0
          try clear hcz19_1
          try clear hcz19_2
          try clear hcz19_3
          try clear hcz20_0
          try clear hcz20_1
          try clear hcz20_2
          try clear hcz20_3
          try clear hcz20_4
          try clear hcz20_5
          try clear hcz20_6
          try clear hcz20_7
          try clear hcz20_8
          try clear hcz22_0
          try clear hcz22_1
          try clear hcz22_2
          try clear hcz22_3
          try clear hcz23_0
          try clear hcz23_1
          try clear hcz23_2
          try clear hcz23_3
          try clear hcz23_4
          try clear hcz23_5
          try clear hcz23_6
          try clear hcz23_7
          try clear hcz23_8
          try clear hcz8_0
          try clear hcz8_1
          try clear hcz8_2
          try clear hcz8_3
          try clear hfz11_0
          try clear hfz11_1
          try clear hfz11_2
          try clear hfz11_3
          try clear hfz12_0
          try clear hfz12_1
          try clear hfz12_2
          try clear hfz12_3
          try clear hfz12_4
          try clear hfz12_5
          try clear hfz12_6
          try clear hfz12_7
          try clear hfz12_8
          try clear hfz15_0
          try clear hfz15_1
          try clear hfz15_2
          try clear hfz15_3
          try clear hfz16_0
          try clear hfz16_1
          try clear hfz16_2
          try clear hfz16_3
          try clear hfz16_4
          try clear hfz16_5
          try clear hfz16_6
          try clear hfz16_7
          try clear hfz16_8
          try clear hfz19_0
          try clear hfz19_1
          try clear hfz19_2
          try clear hfz19_3
          try clear hfz20_0
          try clear hfz20_1
          try clear hfz20_2
          try clear hfz20_3
          try clear hfz20_4
          try clear hfz20_5
          try clear hfz20_6
          try clear hfz20_7
          try clear hfz20_8
          try clear hfz22_0
          try clear hfz22_1
          try clear hfz22_2
          try clear hfz22_3
          try clear hfz23_0
          try clear hfz23_1
          try clear hfz23_2
          try clear hfz23_3
          try clear hfz23_4
          try clear hfz23_5
          try clear hfz23_6
          try clear hfz23_7
          try clear hfz23_8
          try clear hfz8_0
          try clear hfz8_1
          try clear hfz8_2
          try clear hfz8_3
          try clear p2
          obtain ⟨x5_2, rfl, HA, HK2, BK118, BK119, HB⟩ := hrel
          cases gk with
          | zero => exact absurd HA.out (by simp [dormouseref09_Task.l0])
          | succ k2 =>
            have H := HA.out
            clear HA
            simp only [dormouseref09_Task.l0] at H
            by_cases c25 : x5_2 < (l1_2.length : Int)
            · rw [if_pos c25] at H
              have c25b0 : decide (x5_2 < (l1_2.length : Int)) = true := decide_eq_true c25
              clear c25
              by_cases c26 : 0 ≤ x5_2
              · rw [if_pos c26] at H
                have c26b0 : decide (0 ≤ x5_2) = true := decide_eq_true c26
                clear c26
                by_cases c27 : (rd l1_2 x5_2) < 0
                · rw [if_pos c27] at H
                  have c27b0 : decide ((rd l1_2 x5_2) < 0) = true := decide_eq_true c27
                  clear c27
                  obtain rfl := Option.some.inj H
                  have hnb28 := NB119_118.out
                  have hnc28 := NB118_119.out
                  have hcz29_0 : wr.cell? ⟨gb119, 0, none⟩ = some (.int .i64 a1_0) := (blk_cell BK119.out 0).trans rfl
                  have hcz29_1 : wr.cell? ⟨gb119, 1, none⟩ = some (.int .i64 a1_1) := (blk_cell BK119.out 1).trans rfl
                  have hcz29_2 : wr.cell? ⟨gb119, 2, none⟩ = some (.slice A1_2 l1_2.length c1_2) := (blk_cell BK119.out 2).trans rfl
                  have hcz29_3 : wr.cell? ⟨gb119, 3, none⟩ = some (.slice A1_3 l1_3.length c1_3) := (blk_cell BK119.out 3).trans rfl
                  have hfz29_0 := blk_frozen BK119.out 0
                  have hfz29_1 := blk_frozen BK119.out 1
                  have hfz29_2 := blk_frozen BK119.out 2
                  have hfz29_3 := blk_frozen BK119.out 3
                  have p120 : 0 ≤ (x5_2 : Int) := of_decide_eq_true (by first | (with_reducible assumption) | assumption)
                  have q120 : x5_2 < (l1_2.length : Int) := of_decide_eq_true (by first | (with_reducible assumption) | assumption)
                  obtain ⟨ad120, e120, hx120_0⟩ := Kd.at_int HR1_2.out x5_2 p120 q120
                  cases e120
                  replace hx120_0 := (HB.out.cell (World.block_lt_of_cell? w _ hx120_0)).trans hx120_0
                  replace p120 := eq_true p120
                  replace q120 := eq_true q120
                  go_wp2
                  repeat (go_quiet (fail); try go_wp2)
                  go_ret
                  exact ⟨by first | rfl | (simp [errW_none, errW_some] <;> rfl) | (simp [*, errW_none, errW_some] <;> rfl), by repeat (first | (with_reducible first | exact HB.out | apply below_alloc | apply pw_below_drewN | apply below_drew1 | refine below_set ?_ GE118.out | refine below_set ?_ GE119.out) | exact HB.out)⟩
                · rw [if_neg c27] at H
                  have c27b0 : decide ((rd l1_2 x5_2) < 0) = false := decide_eq_false c27
                  clear c27
                  by_cases c30 : (rd l1_2 x5_2) > a1_1
                  · rw [if_pos c30] at H
                    have c30b0 : decide (a1_1 < (rd l1_2 x5_2)) = true := decide_eq_true c30
                    clear c30
                    obtain rfl := Option.some.inj H
                    have hnb31 := NB119_118.out
                    have hnc31 := NB118_119.out
                    have hcz32_0 : wr.cell? ⟨gb119, 0, none⟩ = some (.int .i64 a1_0) := (blk_cell BK119.out 0).trans rfl
                    have hcz32_1 : wr.cell? ⟨gb119, 1, none⟩ = some (.int .i64 a1_1) := (blk_cell BK119.out 1).trans rfl
                    have hcz32_2 : wr.cell? ⟨gb119, 2, none⟩ = some (.slice A1_2 l1_2.length c1_2) := (blk_cell BK119.out 2).trans rfl
                    have hcz32_3 : wr.cell? ⟨gb119, 3, none⟩ = some (.slice A1_3 l1_3.length c1_3) := (blk_cell BK119.out 3).trans rfl
                    have hfz32_0 := blk_frozen BK119.out 0
                    have hfz32_1 := blk_frozen BK119.out 1
                    have hfz32_2 := blk_frozen BK119.out 2
                    have hfz32_3 := blk_frozen BK119.out 3
                    have p120 : 0 ≤ (x5_2 : Int) := of_decide_eq_true (by first | (with_reducible assumption) | assumption)
                    have q120 : x5_2 < (l1_2.length : Int) := of_decide_eq_true (by first | (with_reducible assumption) | assumption)
                    obtain ⟨ad120, e120, hx120_0⟩ := Kd.at_int HR1_2.out x5_2 p120 q120
                    cases e120
                    replace hx120_0 := (HB.out.cell (World.block_lt_of_cell? w _ hx120_0)).trans hx120_0
                    replace p120 := eq_true p120
                    replace q120 := eq_true q120
                    have p121 : 0 ≤ (x5_2 : Int) := of_decide_eq_true (by first | (with_reducible assumption) | assumption)
                    have q121 : x5_2 < (l1_2.length : Int) := of_decide_eq_true (by first | (with_reducible assumption) | assumption)
                    obtain ⟨ad121, e121, hx121_0⟩ := Kd.at_int HR1_2.out x5_2 p121 q121
                    obtain rfl : ad120 = ad121 := (by injection e121)
                    replace hx121_0 := (HB.out.cell (World.block_lt_of_cell? w _ hx121_0)).trans hx121_0
                    replace p121 := eq_true p121
                    replace q121 := eq_true q121
                    go_wp2
                    repeat (go_quiet (fail); try go_wp2)
                    go_ret
                    exact ⟨by first | rfl | (simp [errW_none, errW_some] <;> rfl) | (simp [*, errW_none, errW_some] <;> rfl), by repeat (first | (with_reducible first | exact HB.out | apply below_alloc | apply pw_below_drewN | apply below_drew1 | refine below_set ?_ GE118.out | refine below_set ?_ GE119.out) | exact HB.out)⟩
                  · rw [if_neg c30] at H
                    have c30b0 : decide (a1_1 < (rd l1_2 x5_2)) = false := decide_eq_false c30
                    clear c30
                    have H' := Aside0.mk H
                    clear H
                    have hnb33 := NB119_118.out
                    have hnc33 := NB118_119.out
                    have hcz34_0 : wr.cell? ⟨gb119, 0, none⟩ = some (.int .i64 a1_0) := (blk_cell BK119.out 0).trans rfl
                    have hcz34_1 : wr.cell? ⟨gb119, 1, none⟩ = some (.int .i64 a1_1) := (blk_cell BK119.out 1).trans rfl
                    have hcz34_2 : wr.cell? ⟨gb119, 2, none⟩ = some (.slice A1_2 l1_2.length c1_2) := (blk_cell BK119.out 2).trans rfl
                    have hcz34_3 : wr.cell? ⟨gb119, 3, none⟩ = some (.slice A1_3 l1_3.length c1_3) := (blk_cell BK119.out 3).trans rfl
                    have hfz34_0 := blk_frozen BK119.out 0
                    have hfz34_1 := blk_frozen BK119.out 1
                    have hfz34_2 := blk_frozen BK119.out 2
                    have hfz34_3 := blk_frozen BK119.out 3
                    have p120 : 0 ≤ (x5_2 : Int) := of_decide_eq_true (by first | (with_reducible assumption) | assumption)
                    have q120 : x5_2 < (l1_2.length : Int) := of_decide_eq_true (by first | (with_reducible assumption) | assumption)
                    obtain ⟨ad120, e120, hx120_0⟩ := Kd.at_int HR1_2.out x5_2 p120 q120
                    cases e120
                    replace hx120_0 := (HB.out.cell (World.block_lt_of_cell? w _ hx120_0)).trans hx120_0
                    replace p120 := eq_true p120
                    replace q120 := eq_true q120
                    have p121 : 0 ≤ (x5_2 : Int) := of_decide_eq_true (by first | (with_reducible assumption) | assumption)
                    have q121 : x5_2 < (l1_2.length : Int) := of_decide_eq_true (by first | (with_reducible assumption) | assumption)
                    obtain ⟨ad121, e121, hx121_0⟩ := Kd.at_int HR1_2.out x5_2 p121 q121
                    obtain rfl : ad120 = ad121 := (by injection e121)
                    replace hx121_0 := (HB.out.cell (World.block_lt_of_cell? w _ hx121_0)).trans hx121_0
                    replace p121 := eq_true p121
                    replace q121 := eq_true q121
                    go_wp2
                    repeat (go_quiet (fail); try go_wp2)
                    go_roundg k2
                    case measure => have := HJ2.out; have := HK2.out; omega
                    case rel => exact ⟨(wrap64 (x5_2 + 1)), (by first | rfl | (simp; done) | (simp [*]; done)), H', ⟨by have := HJ2.out; have := HK2.out; omega⟩, ⟨by (with_reducible repeat (first | refine blk_drewN ?_ _ | refine blk_drew ?_ | refine blk_alloc ?_ _)); exact BK118.out⟩, ⟨by (with_reducible repeat (first | refine blk_drewN ?_ _ | refine blk_drew ?_ | refine blk_alloc ?_ _)); exact BK119.out⟩, ⟨by repeat (first | (with_reducible first | exact HB.out | apply below_alloc | apply pw_below_drewN | apply below_drew1 | refine below_set ?_ GE118.out | refine below_set ?_ GE119.out) | exact HB.out)⟩⟩
              · rw [if_neg c26] at H
                exact absurd H (by simp)
            · rw [if_neg c25] at H
              have c25b0 : decide (x5_2 < (l1_2.length : Int)) = false := decide_eq_false c25
              clear c25
              have H' := Aside0.mk H
              clear H
              have hnb35 := NB119_118.out
              have hnc35 := NB118_119.out
              have hcz36_0 : wr.cell? ⟨gb119, 0, none⟩ = some (.int .i64 a1_0) := (blk_cell BK119.out 0).trans rfl
              have hcz36_1 : wr.cell? ⟨gb119, 1, none⟩ = some (.int .i64 a1_1) := (blk_cell BK119.out 1).trans rfl
              have hcz36_2 : wr.cell? ⟨gb119, 2, none⟩ = some (.slice A1_2 l1_2.length c1_2) := (blk_cell BK119.out 2).trans rfl
              have hcz36_3 : wr.cell? ⟨gb119, 3, none⟩ = some (.slice A1_3 l1_3.length c1_3) := (blk_cell BK119.out 3).trans rfl
              have hfz36_0 := blk_frozen BK119.out 0
              have hfz36_1 := blk_frozen BK119.out 1
              have hfz36_2 := blk_frozen BK119.out 2
              have hfz36_3 := blk_frozen BK119.out 3
              go_wp2
              repeat (go_quiet (fail); try go_wp2)
              go_loopg [6] k2 (fun kq v6 w' => ∃ (x6_3 : Int), v6 = .int .i64 x6_3 ∧ Aside0 (dormouseref09_Task.l1 kq x6_3 l0_0 l0_1 l0_2 a0_3 a0_4 a0_5 a0_6 a0_7 a0_8 a1_0 a1_1 l1_2 l1_3 = some r) ∧ Aside0 (kq ≤ k2) ∧ Aside0 (w'.heap[gb118]? = some (.cells #[(.slice A0_0 l0_0.length c0_0), (.slice A0_1 l0_1.length c0_1), (.slice A0_2 l0_2.length c0_2), .int .i64 a0_3, .int .i64 a0_4, .int .i64 a0_5, .int .i64 a0_6, .int .i64 a0_7, .int .i64 a0_8] 26 (0, 0))) ∧ Aside0 (w'.heap[gb119]? = some (.cells #[.int .i64 a1_0, .int .i64 a1_1, (.slice A1_2 l1_2.length c1_2), (.slice A1_3 l1_3.length c1_3)] 36 (0, 0))) ∧ Aside0 (Below w.heap.size w w'))
              case atStart => exact ⟨(0), (by first | rfl | (simp; done) | (simp [*]; done)), H', ⟨Nat.le_refl _⟩, ⟨by (with_reducible repeat (first | refine blk_drewN ?_ _ | refine blk_drew ?_ | refine blk_alloc ?_ _)); exact BK118.out⟩, ⟨by (with_reducible repeat (first | refine blk_drewN ?_ _ | refine blk_drew ?_ | refine blk_alloc ?_ _)); exact BK119.out⟩, ⟨by repeat (first | (with_reducible first | exact HB.out | apply below_alloc | apply pw_below_drewN | apply below_drew1 | refine below_set ?_ GE118.out | refine below_set ?_ GE119.out) | exact HB.out)⟩⟩
              case round =>
                clear H'
                try clear c1
                try clear p1
                try clear q1
                try clear hx1
                try clear c2
                try clear p2
                try clear c3
                try clear c6
                try clear c6b0
                try clear p6
                try clear c7
                try clear c9
                try clear c9b0
                try clear c10
                try clear p12
                try clear q12
                try clear hx12
                try clear c13
                try clear c13b0
                try clear c14
                try clear c17
                try clear c17b0
                try clear c18
                try clear c21
                try clear c24
                try clear c25
                try clear c25b0
                try clear c26
                try clear c26b0
                try clear c27
                try clear c27b0
                try clear c28
                try clear c30
                try clear c30b0
                try clear c31
                try clear c33
                try clear c35
                try clear hcz11_0
                try clear hcz11_1
                try clear hcz11_2
                try clear hcz11_3
                try clear hcz12_0
                try clear hcz12_1
                try clear hcz12_2
                try clear hcz12_3
                try clear hcz12_4
                try clear hcz12_5
                try clear hcz12_6
                try clear hcz12_7
                try clear hcz12_8
                try clear hcz15_0
                try clear hcz15_1
                try clear hcz15_2
                try clear hcz15_3
                try clear hcz16_0
                try clear hcz16_1
                try clear hcz16_2
                try clear hcz16_3
                try clear hcz16_4
                try clear hcz16_5
                try clear hcz16_6
                try clear hcz16_7
                try clear hcz16_8
                try clear hcz19_0
                try clear hcz19_1
                try clear hcz19_2
                try clear hcz19_3
                try clear hcz20_0
                try clear hcz20_1
                try clear hcz20_2
                try clear hcz20_3
                try clear hcz20_4
                try clear hcz20_5
                try clear hcz20_6
                try clear hcz20_7
                try clear hcz20_8
                try clear hcz22_0
                try clear hcz22_1
                try clear hcz22_2
                try clear hcz22_3
                try clear hcz23_0
                try clear hcz23_1
                try clear hcz23_2
                try clear hcz23_3
                try clear hcz23_4
                try clear hcz23_5
                try clear hcz23_6
                try clear hcz23_7
                try clear hcz23_8
                try clear hcz29_0
                try clear hcz29_1
                try clear hcz29_2
                try clear hcz29_3
                try clear hcz32_0
                try clear hcz32_1
                try clear hcz32_2
                try clear hcz32_3
                try clear hcz34_0
                try clear hcz34_1
                try clear hcz34_2
                try clear hcz34_3
                try clear hcz36_0
                try clear hcz36_1
                try clear hcz36_2
                try clear hcz36_3
                try clear hcz8_0
                try clear hcz8_1
                try clear hcz8_2
                try clear hcz8_3
                try clear hfz11_0
                try clear hfz11_1
                try clear hfz11_2
                try clear hfz11_3
                try clear hfz12_0
                try clear hfz12_1
                try clear hfz12_2
                try clear hfz12_3
                try clear hfz12_4
                try clear hfz12_5
                try clear hfz12_6
                try clear hfz12_7
                try clear hfz12_8
                try clear hfz15_0
                try clear hfz15_1
                try clear hfz15_2
                try clear hfz15_3
                try clear hfz16_0
                try clear hfz16_1
                try clear hfz16_2
                try clear hfz16_3
                try clear hfz16_4
                try clear hfz16_5
                try clear hfz16_6
                try clear hfz16_7
                try clear hfz16_8
                try clear hfz19_0
                try clear hfz19_1
                try clear hfz19_2
                try clear hfz19_3
                try clear hfz20_0
                try clear hfz20_1
                try clear hfz20_2
                try clear hfz20_3
                try clear hfz20_4
                try clear hfz20_5
                try clear hfz20_6
                try clear hfz20_7
                try clear hfz20_8
                try clear hfz22_0
                try clear hfz22_1
                try clear hfz22_2
                try clear hfz22_3
                try clear hfz23_0
                try clear hfz23_1
                try clear hfz23_2
                try clear hfz23_3
                try clear hfz23_4
                try clear hfz23_5
                try clear hfz23_6
                try clear hfz23_7
                try clear hfz23_8
                try clear hfz29_0
                try clear hfz29_1
                try clear hfz29_2
                try clear hfz29_3
                try clear hfz32_0
                try clear hfz32_1
                try clear hfz32_2
                try clear hfz32_3
                try clear hfz34_0
                try clear hfz34_1
                try clear hfz34_2
                try clear hfz34_3
                try clear hfz36_0
                try clear hfz36_1
                try clear hfz36_2
                try clear hfz36_3
                try clear hfz8_0
                try clear hfz8_1
                try clear hfz8_2
                try clear hfz8_3
                try clear hx120_0
                try clear hx121_0
                try clear p120
                try clear p121
                try clear p2
                try clear q120
                try clear q121
                obtain ⟨x6_3, rfl, HA, HK3, BK118, BK119, HB⟩ := hrel
                cases gk with
                | zero => exact absurd HA.out (by simp [dormouseref09_Task.l1])
                | succ k3 =>
                  have H := HA.out
                  clear HA
                  simp only [dormouseref09_Task.l1] at H
                  by_cases c37 : x6_3 < (l1_3.length : Int)
                  · rw [if_pos c37] at H
                    have c37b0 : decide (x6_3 < (l1_3.length : Int)) = true := decide_eq_true c37
                    clear c37
                    by_cases c38 : 0 ≤ x6_3
                    · rw [if_pos c38] at H
                      have c38b0 : decide (0 ≤ x6_3) = true := decide_eq_true c38
                      clear c38
                      by_cases c39 : (rd l1_3 x6_3) < 0
                      · rw [if_pos c39] at H
                        have c39b0 : decide ((rd l1_3 x6_3) < 0) = true := decide_eq_true c39
                        clear c39
                        obtain rfl := Option.some.inj H
                        have hnb40 := NB119_118.out
                        have hnc40 := NB118_119.out
                        have hcz41_0 : wr.cell? ⟨gb119, 0, none⟩ = some (.int .i64 a1_0) := (blk_cell BK119.out 0).trans rfl
                        have hcz41_1 : wr.cell? ⟨gb119, 1, none⟩ = some (.int .i64 a1_1) := (blk_cell BK119.out 1).trans rfl
                        have hcz41_2 : wr.cell? ⟨gb119, 2, none⟩ = some (.slice A1_2 l1_2.length c1_2) := (blk_cell BK119.out 2).trans rfl
                        have hcz41_3 : wr.cell? ⟨gb119, 3, none⟩ = some (.slice A1_3 l1_3.length c1_3) := (blk_cell BK119.out 3).trans rfl
                        have hfz41_0 := blk_frozen BK119.out 0
                        have hfz41_1 := blk_frozen BK119.out 1
                        have hfz41_2 := blk_frozen BK119.out 2
                        have hfz41_3 := blk_frozen BK119.out 3
                        have p122 : 0 ≤ (x6_3 : Int) := of_decide_eq_true (by first | (with_reducible assumption) | assumption)
                        have q122 : x6_3 < (l1_3.length : Int) := of_decide_eq_true (by first | (with_reducible assumption) | assumption)
                        obtain ⟨ad122, e122, hx122_0⟩ := Kd.at_int HR1_3.out x6_3 p122 q122
                        cases e122
                        replace hx122_0 := (HB.out.cell (World.block_lt_of_cell? w _ hx122_0)).trans hx122_0
                        replace p122 := eq_true p122
                        replace q122 := eq_true q122
                        go_wp2
                        repeat (go_quiet (fail); try go_wp2)
                        go_ret
                        exact ⟨by first | rfl | (simp [errW_none, errW_some] <;> rfl) | (simp [*, errW_none, errW_some] <;> rfl), by repeat (first | (with_reducible first | exact HB.out | apply below_alloc | apply pw_below_drewN | apply below_drew1 | refine below_set ?_ GE118.out | refine below_set ?_ GE119.out) | exact HB.out)⟩
                      · rw [if_neg c39] at H
                        have c39b0 : decide ((rd l1_3 x6_3) < 0) = false := decide_eq_false c39
                        clear c39
                        by_cases c42 : (rd l1_3 x6_3) ≥ (l0_2.length : Int)
                        · rw [if_pos c42] at H
                          have c42b0 : decide ((l0_2.length : Int) ≤ (rd l1_3 x6_3)) = true := decide_eq_true c42
                          clear c42
                          obtain rfl := Option.some.inj H
                          have hnb43 := NB119_118.out
                          have hnc43 := NB118_119.out
                          have hcz44_0 : wr.cell? ⟨gb119, 0, none⟩ = some (.int .i64 a1_0) := (blk_cell BK119.out 0).trans rfl
                          have hcz44_1 : wr.cell? ⟨gb119, 1, none⟩ = some (.int .i64 a1_1) := (blk_cell BK119.out 1).trans rfl
                          have hcz44_2 : wr.cell? ⟨gb119, 2, none⟩ = some (.slice A1_2 l1_2.length c1_2) := (blk_cell BK119.out 2).trans rfl
                          have hcz44_3 : wr.cell? ⟨gb119, 3, none⟩ = some (.slice A1_3 l1_3.length c1_3) := (blk_cell BK119.out 3).trans rfl
                          have hfz44_0 := blk_frozen BK119.out 0
                          have hfz44_1 := blk_frozen BK119.out 1
                          have hfz44_2 := blk_frozen BK119.out 2
                          have hfz44_3 := blk_frozen BK119.out 3
                          have p122 : 0 ≤ (x6_3 : Int) := of_decide_eq_true (by first | (with_reducible assumption) | assumption)
                          have q122 : x6_3 < (l1_3.length : Int) := of_decide_eq_true (by first | (with_reducible assumption) | assumption)
                          obtain ⟨ad122, e122, hx122_0⟩ := Kd.at_int HR1_3.out x6_3 p122 q122
                          cases e122
                          replace hx122_0 := (HB.out.cell (World.block_lt_of_cell? w _ hx122_0)).trans hx122_0
                          replace p122 := eq_true p122
                          replace q122 := eq_true q122
                          have p123 : 0 ≤ (x6_3 : Int) := of_decide_eq_true (by first | (with_reducible assumption) | assumption)
                          have q123 : x6_3 < (l1_3.length : Int) := of_decide_eq_true (by first | (with_reducible assumption) | assumption)
                          obtain ⟨ad123, e123, hx123_0⟩ := Kd.at_int HR1_3.out x6_3 p123 q123
                          obtain rfl : ad122 = ad123 := (by injection e123)
                          replace hx123_0 := (HB.out.cell (World.block_lt_of_cell? w _ hx123_0)).trans hx123_0
                          replace p123 := eq_true p123
                          replace q123 := eq_true q123
                          have hcz45_0 : wr.cell? ⟨gb118, 0, none⟩ = some (.slice A0_0 l0_0.length c0_0) := (blk_cell BK118.out 0).trans rfl
                          have hcz45_1 : wr.cell? ⟨gb118, 1, none⟩ = some (.slice A0_1 l0_1.length c0_1) := (blk_cell BK118.out 1).trans rfl
                          have hcz45_2 : wr.cell? ⟨gb118, 2, none⟩ = some (.slice A0_2 l0_2.length c0_2) := (blk_cell BK118.out 2).trans rfl
                          have hcz45_3 : wr.cell? ⟨gb118, 3, none⟩ = some (.int .i64 a0_3) := (blk_cell BK118.out 3).trans rfl
                          have hcz45_4 : wr.cell? ⟨gb118, 4, none⟩ = some (.int .i64 a0_4) := (blk_cell BK118.out 4).trans rfl
                          have hcz45_5 : wr.cell? ⟨gb118, 5, none⟩ = some (.int .i64 a0_5) := (blk_cell BK118.out 5).trans rfl
                          have hcz45_6 : wr.cell? ⟨gb118, 6, none⟩ = some (.int .i64 a0_6) := (blk_cell BK118.out 6).trans rfl
                          have hcz45_7 : wr.cell? ⟨gb118, 7, none⟩ = some (.int .i64 a0_7) := (blk_cell BK118.out 7).trans rfl
                          have hcz45_8 : wr.cell? ⟨gb118, 8, none⟩ = some (.int .i64 a0_8) := (blk_cell BK118.out 8).trans rfl
                          have hfz45_0 := blk_frozen BK118.out 0
                          have hfz45_1 := blk_frozen BK118.out 1
                          have hfz45_2 := blk_frozen BK118.out 2
                          have hfz45_3 := blk_frozen BK118.out 3
                          have hfz45_4 := blk_frozen BK118.out 4
                          have hfz45_5 := blk_frozen BK118.out 5
                          have hfz45_6 := blk_frozen BK118.out 6
                          have hfz45_7 := blk_frozen BK118.out 7
                          have hfz45_8 := blk_frozen BK118.out 8
                          go_wp2
                          repeat (go_quiet (fail); try go_wp2)
                          go_ret
                          exact ⟨by first | rfl | (simp [errW_none, errW_some] <;> rfl) | (simp [*, errW_none, errW_some] <;> rfl), by repeat (first | (with_reducible first | exact HB.out | apply below_alloc | apply pw_below_drewN | apply below_drew1 | refine below_set ?_ GE118.out | refine below_set ?_ GE119.out) | exact HB.out)⟩
                        · rw [if_neg c42] at H
                          have c42b0 : decide ((l0_2.length : Int) ≤ (rd l1_3 x6_3)) = false := decide_eq_false c42
                          clear c42
                          by_cases c46 : x6_3 > 0
                          · rw [if_pos c46] at H
                            have c46b0 : decide (0 < x6_3) = true := decide_eq_true c46
                            clear c46
                            obtain ⟨ji47, hji47⟩ : ∃ j_ : Int, (wrap64 (x6_3 - 1)) = j_ := ⟨_, rfl⟩
                            replace H : (if 0 ≤ (ji47) then (if (ji47) < (l1_3.length : Int) then (if (rd l1_3 (ji47)) ≥ (rd l1_3 x6_3) then (some false) else (dormouseref09_Task.l1 k3 (wrap64 (x6_3 + 1)) l0_0 l0_1 l0_2 a0_3 a0_4 a0_5 a0_6 a0_7 a0_8 a1_0 a1_1 l1_2 l1_3)) else (none)) else (none)) = some r := by first | (rw [hji47] at H; exact H) | (simp only [hji47] at H ⊢; exact H)
                            have hji47w : (IntKind.i64.wrap (x6_3 - 1)) = ji47 := (i64_w _).trans hji47
                            by_cases c48 : 0 ≤ (ji47)
                            · rw [if_pos c48] at H
                              have c48b0 : decide (0 ≤ (ji47)) = true := decide_eq_true c48
                              clear c48
                              by_cases c49 : (ji47) < (l1_3.length : Int)
                              · rw [if_pos c49] at H
                                have c49b0 : decide ((ji47) < (l1_3.length : Int)) = true := decide_eq_true c49
                                clear c49
                                by_cases c50 : (rd l1_3 (ji47)) ≥ (rd l1_3 x6_3)
                                · rw [if_pos c50] at H
                                  have c50b0 : decide ((rd l1_3 x6_3) ≤ (rd l1_3 (ji47))) = true := decide_eq_true c50
                                  clear c50
                                  obtain rfl := Option.some.inj H
                                  have hnb51 := NB119_118.out
                                  have hnc51 := NB118_119.out
                                  have hcz52_0 : wr.cell? ⟨gb119, 0, none⟩ = some (.int .i64 a1_0) := (blk_cell BK119.out 0).trans rfl
                                  have hcz52_1 : wr.cell? ⟨gb119, 1, none⟩ = some (.int .i64 a1_1) := (blk_cell BK119.out 1).trans rfl
                                  have hcz52_2 : wr.cell? ⟨gb119, 2, none⟩ = some (.slice A1_2 l1_2.length c1_2) := (blk_cell BK119.out 2).trans rfl
                                  have hcz52_3 : wr.cell? ⟨gb119, 3, none⟩ = some (.slice A1_3 l1_3.length c1_3) := (blk_cell BK119.out 3).trans rfl
                                  have hfz52_0 := blk_frozen BK119.out 0
                                  have hfz52_1 := blk_frozen BK119.out 1
                                  have hfz52_2 := blk_frozen BK119.out 2
                                  have hfz52_3 := blk_frozen BK119.out 3
                                  have p122 : 0 ≤ (x6_3 : Int) := of_decide_eq_true (by first | (with_reducible assumption) | assumption)
                                  have q122 : x6_3 < (l1_3.length : Int) := of_decide_eq_true (by first | (with_reducible assumption) | assumption)
                                  obtain ⟨ad122, e122, hx122_0⟩ := Kd.at_int HR1_3.out x6_3 p122 q122
                                  cases e122
                                  replace hx122_0 := (HB.out.cell (World.block_lt_of_cell? w _ hx122_0)).trans hx122_0
                                  replace p122 := eq_true p122
                                  replace q122 := eq_true q122
                                  have p123 : 0 ≤ (x6_3 : Int) := of_decide_eq_true (by first | (with_reducible assumption) | assumption)
                                  have q123 : x6_3 < (l1_3.length : Int) := of_decide_eq_true (by first | (with_reducible assumption) | assumption)
                                  obtain ⟨ad123, e123, hx123_0⟩ := Kd.at_int HR1_3.out x6_3 p123 q123
                                  obtain rfl : ad122 = ad123 := (by injection e123)
                                  replace hx123_0 := (HB.out.cell (World.block_lt_of_cell? w _ hx123_0)).trans hx123_0
                                  replace p123 := eq_true p123
                                  replace q123 := eq_true q123
                                  have hcz53_0 : wr.cell? ⟨gb118, 0, none⟩ = some (.slice A0_0 l0_0.length c0_0) := (blk_cell BK118.out 0).trans rfl
                                  have hcz53_1 : wr.cell? ⟨gb118, 1, none⟩ = some (.slice A0_1 l0_1.length c0_1) := (blk_cell BK118.out 1).trans rfl
                                  have hcz53_2 : wr.cell? ⟨gb118, 2, none⟩ = some (.slice A0_2 l0_2.length c0_2) := (blk_cell BK118.out 2).trans rfl
                                  have hcz53_3 : wr.cell? ⟨gb118, 3, none⟩ = some (.int .i64 a0_3) := (blk_cell BK118.out 3).trans rfl
                                  have hcz53_4 : wr.cell? ⟨gb118, 4, none⟩ = some (.int .i64 a0_4) := (blk_cell BK118.out 4).trans rfl
                                  have hcz53_5 : wr.cell? ⟨gb118, 5, none⟩ = some (.int .i64 a0_5) := (blk_cell BK118.out 5).trans rfl
                                  have hcz53_6 : wr.cell? ⟨gb118, 6, none⟩ = some (.int .i64 a0_6) := (blk_cell BK118.out 6).trans rfl
                                  have hcz53_7 : wr.cell? ⟨gb118, 7, none⟩ = some (.int .i64 a0_7) := (blk_cell BK118.out 7).trans rfl
                                  have hcz53_8 : wr.cell? ⟨gb118, 8, none⟩ = some (.int .i64 a0_8) := (blk_cell BK118.out 8).trans rfl
                                  have hfz53_0 := blk_frozen BK118.out 0
                                  have hfz53_1 := blk_frozen BK118.out 1
                                  have hfz53_2 := blk_frozen BK118.out 2
                                  have hfz53_3 := blk_frozen BK118.out 3
                                  have hfz53_4 := blk_frozen BK118.out 4
                                  have hfz53_5 := blk_frozen BK118.out 5
                                  have hfz53_6 := blk_frozen BK118.out 6
                                  have hfz53_7 := blk_frozen BK118.out 7
                                  have hfz53_8 := blk_frozen BK118.out 8
                                  have p124 : 0 ≤ ((ji47) : Int) := of_decide_eq_true (by first | (with_reducible assumption) | assumption)
                                  have q124 : (ji47) < (l1_3.length : Int) := of_decide_eq_true (by first | (with_reducible assumption) | assumption)
                                  obtain ⟨ad124, e124, hx124_0⟩ := Kd.at_int HR1_3.out (ji47) p124 q124
                                  obtain rfl : ad122 = ad124 := (by injection e124)
                                  replace hx124_0 := (HB.out.cell (World.block_lt_of_cell? w _ hx124_0)).trans hx124_0
                                  replace p124 := eq_true p124
                                  replace q124 := eq_true q124
                                  have p125 : 0 ≤ (x6_3 : Int) := of_decide_eq_true (by first | (with_reducible assumption) | assumption)
                                  have q125 : x6_3 < (l1_3.length : Int) := of_decide_eq_true (by first | (with_reducible assumption) | assumption)
                                  obtain ⟨ad125, e125, hx125_0⟩ := Kd.at_int HR1_3.out x6_3 p125 q125
                                  obtain rfl : ad122 = ad125 := (by injection e125)
                                  replace hx125_0 := (HB.out.cell (World.block_lt_of_cell? w _ hx125_0)).trans hx125_0
                                  replace p125 := eq_true p125
                                  replace q125 := eq_true q125
                                  go_wp2
                                  repeat (go_quiet (fail); try go_wp2)
                                  go_ret
                                  exact ⟨by first | rfl | (simp [errW_none, errW_some] <;> rfl) | (simp only [← hji47]; first | rfl | (simp [errW_none, errW_some] <;> rfl)) | (simp [*, errW_none, errW_some] <;> rfl), by repeat (first | (with_reducible first | exact HB.out | apply below_alloc | apply pw_below_drewN | apply below_drew1 | refine below_set ?_ GE118.out | refine below_set ?_ GE119.out) | exact HB.out)⟩
                                · rw [if_neg c50] at H
                                  have c50b0 : decide ((rd l1_3 x6_3) ≤ (rd l1_3 (ji47))) = false := decide_eq_false c50
                                  clear c50
                                  have H' := Aside0.mk H
                                  clear H
                                  have hnb54 := NB119_118.out
                                  have hnc54 := NB118_119.out
                                  have hcz55_0 : wr.cell? ⟨gb119, 0, none⟩ = some (.int .i64 a1_0) := (blk_cell BK119.out 0).trans rfl
                                  have hcz55_1 : wr.cell? ⟨gb119, 1, none⟩ = some (.int .i64 a1_1) := (blk_cell BK119.out 1).trans rfl
                                  have hcz55_2 : wr.cell? ⟨gb119, 2, none⟩ = some (.slice A1_2 l1_2.length c1_2) := (blk_cell BK119.out 2).trans rfl
                                  have hcz55_3 : wr.cell? ⟨gb119, 3, none⟩ = some (.slice A1_3 l1_3.length c1_3) := (blk_cell BK119.out 3).trans rfl
                                  have hfz55_0 := blk_frozen BK119.out 0
                                  have hfz55_1 := blk_frozen BK119.out 1
                                  have hfz55_2 := blk_frozen BK119.out 2
                                  have hfz55_3 := blk_frozen BK119.out 3
                                  have p122 : 0 ≤ (x6_3 : Int) := of_decide_eq_true (by first | (with_reducible assumption) | assumption)
                                  have q122 : x6_3 < (l1_3.length : Int) := of_decide_eq_true (by first | (with_reducible assumption) | assumption)
                                  obtain ⟨ad122, e122, hx122_0⟩ := Kd.at_int HR1_3.out x6_3 p122 q122
                                  cases e122
                                  replace hx122_0 := (HB.out.cell (World.block_lt_of_cell? w _ hx122_0)).trans hx122_0
                                  replace p122 := eq_true p122
                                  replace q122 := eq_true q122
                                  have p123 : 0 ≤ (x6_3 : Int) := of_decide_eq_true (by first | (with_reducible assumption) | assumption)
                                  have q123 : x6_3 < (l1_3.length : Int) := of_decide_eq_true (by first | (with_reducible assumption) | assumption)
                                  obtain ⟨ad123, e123, hx123_0⟩ := Kd.at_int HR1_3.out x6_3 p123 q123
                                  obtain rfl : ad122 = ad123 := (by injection e123)
                                  replace hx123_0 := (HB.out.cell (World.block_lt_of_cell? w _ hx123_0)).trans hx123_0
                                  replace p123 := eq_true p123
                                  replace q123 := eq_true q123
                                  have hcz56_0 : wr.cell? ⟨gb118, 0, none⟩ = some (.slice A0_0 l0_0.length c0_0) := (blk_cell BK118.out 0).trans rfl
                                  have hcz56_1 : wr.cell? ⟨gb118, 1, none⟩ = some (.slice A0_1 l0_1.length c0_1) := (blk_cell BK118.out 1).trans rfl
                                  have hcz56_2 : wr.cell? ⟨gb118, 2, none⟩ = some (.slice A0_2 l0_2.length c0_2) := (blk_cell BK118.out 2).trans rfl
                                  have hcz56_3 : wr.cell? ⟨gb118, 3, none⟩ = some (.int .i64 a0_3) := (blk_cell BK118.out 3).trans rfl
                                  have hcz56_4 : wr.cell? ⟨gb118, 4, none⟩ = some (.int .i64 a0_4) := (blk_cell BK118.out 4).trans rfl
                                  have hcz56_5 : wr.cell? ⟨gb118, 5, none⟩ = some (.int .i64 a0_5) := (blk_cell BK118.out 5).trans rfl
                                  have hcz56_6 : wr.cell? ⟨gb118, 6, none⟩ = some (.int .i64 a0_6) := (blk_cell BK118.out 6).trans rfl
                                  have hcz56_7 : wr.cell? ⟨gb118, 7, none⟩ = some (.int .i64 a0_7) := (blk_cell BK118.out 7).trans rfl
                                  have hcz56_8 : wr.cell? ⟨gb118, 8, none⟩ = some (.int .i64 a0_8) := (blk_cell BK118.out 8).trans rfl
                                  have hfz56_0 := blk_frozen BK118.out 0
                                  have hfz56_1 := blk_frozen BK118.out 1
                                  have hfz56_2 := blk_frozen BK118.out 2
                                  have hfz56_3 := blk_frozen BK118.out 3
                                  have hfz56_4 := blk_frozen BK118.out 4
                                  have hfz56_5 := blk_frozen BK118.out 5
                                  have hfz56_6 := blk_frozen BK118.out 6
                                  have hfz56_7 := blk_frozen BK118.out 7
                                  have hfz56_8 := blk_frozen BK118.out 8
                                  have p124 : 0 ≤ ((ji47) : Int) := of_decide_eq_true (by first | (with_reducible assumption) | assumption)
                                  have q124 : (ji47) < (l1_3.length : Int) := of_decide_eq_true (by first | (with_reducible assumption) | assumption)
                                  obtain ⟨ad124, e124, hx124_0⟩ := Kd.at_int HR1_3.out (ji47) p124 q124
                                  obtain rfl : ad122 = ad124 := (by injection e124)
                                  replace hx124_0 := (HB.out.cell (World.block_lt_of_cell? w _ hx124_0)).trans hx124_0
                                  replace p124 := eq_true p124
                                  replace q124 := eq_true q124
                                  have p125 : 0 ≤ (x6_3 : Int) := of_decide_eq_true (by first | (with_reducible assumption) | assumption)
                                  have q125 : x6_3 < (l1_3.length : Int) := of_decide_eq_true (by first | (with_reducible assumption) | assumption)
                                  obtain ⟨ad125, e125, hx125_0⟩ := Kd.at_int HR1_3.out x6_3 p125 q125
                                  obtain rfl : ad122 = ad125 := (by injection e125)
                                  replace hx125_0 := (HB.out.cell (World.block_lt_of_cell? w _ hx125_0)).trans hx125_0
                                  replace p125 := eq_true p125
                                  replace q125 := eq_true q125
                                  go_wp2
                                  repeat (go_quiet (fail); try go_wp2)
                                  go_roundg k3
                                  case measure => have := HJ2.out; have := HK2.out; have := HK3.out; omega
                                  case rel => exact ⟨(wrap64 (x6_3 + 1)), (by first | rfl | (simp; done) | (simp [*]; done)), H', ⟨by have := HJ2.out; have := HK2.out; have := HK3.out; omega⟩, ⟨by (with_reducible repeat (first | refine blk_drewN ?_ _ | refine blk_drew ?_ | refine blk_alloc ?_ _)); exact BK118.out⟩, ⟨by (with_reducible repeat (first | refine blk_drewN ?_ _ | refine blk_drew ?_ | refine blk_alloc ?_ _)); exact BK119.out⟩, ⟨by repeat (first | (with_reducible first | exact HB.out | apply below_alloc | apply pw_below_drewN | apply below_drew1 | refine below_set ?_ GE118.out | refine below_set ?_ GE119.out) | exact HB.out)⟩⟩
                              · rw [if_neg c49] at H
                                exact absurd H (by simp)
                            · rw [if_neg c48] at H
                              exact absurd H (by simp)
                          · rw [if_neg c46] at H
                            have c46b0 : decide (0 < x6_3) = false := decide_eq_false c46
                            clear c46
                            have H' := Aside0.mk H
                            clear H
                            have hnb57 := NB119_118.out
                            have hnc57 := NB118_119.out
                            have hcz58_0 : wr.cell? ⟨gb119, 0, none⟩ = some (.int .i64 a1_0) := (blk_cell BK119.out 0).trans rfl
                            have hcz58_1 : wr.cell? ⟨gb119, 1, none⟩ = some (.int .i64 a1_1) := (blk_cell BK119.out 1).trans rfl
                            have hcz58_2 : wr.cell? ⟨gb119, 2, none⟩ = some (.slice A1_2 l1_2.length c1_2) := (blk_cell BK119.out 2).trans rfl
                            have hcz58_3 : wr.cell? ⟨gb119, 3, none⟩ = some (.slice A1_3 l1_3.length c1_3) := (blk_cell BK119.out 3).trans rfl
                            have hfz58_0 := blk_frozen BK119.out 0
                            have hfz58_1 := blk_frozen BK119.out 1
                            have hfz58_2 := blk_frozen BK119.out 2
                            have hfz58_3 := blk_frozen BK119.out 3
                            have p122 : 0 ≤ (x6_3 : Int) := of_decide_eq_true (by first | (with_reducible assumption) | assumption)
                            have q122 : x6_3 < (l1_3.length : Int) := of_decide_eq_true (by first | (with_reducible assumption) | assumption)
                            obtain ⟨ad122, e122, hx122_0⟩ := Kd.at_int HR1_3.out x6_3 p122 q122
                            cases e122
                            replace hx122_0 := (HB.out.cell (World.block_lt_of_cell? w _ hx122_0)).trans hx122_0
                            replace p122 := eq_true p122
                            replace q122 := eq_true q122
                            have p123 : 0 ≤ (x6_3 : Int) := of_decide_eq_true (by first | (with_reducible assumption) | assumption)
                            have q123 : x6_3 < (l1_3.length : Int) := of_decide_eq_true (by first | (with_reducible assumption) | assumption)
                            obtain ⟨ad123, e123, hx123_0⟩ := Kd.at_int HR1_3.out x6_3 p123 q123
                            obtain rfl : ad122 = ad123 := (by injection e123)
                            replace hx123_0 := (HB.out.cell (World.block_lt_of_cell? w _ hx123_0)).trans hx123_0
                            replace p123 := eq_true p123
                            replace q123 := eq_true q123
                            have hcz59_0 : wr.cell? ⟨gb118, 0, none⟩ = some (.slice A0_0 l0_0.length c0_0) := (blk_cell BK118.out 0).trans rfl
                            have hcz59_1 : wr.cell? ⟨gb118, 1, none⟩ = some (.slice A0_1 l0_1.length c0_1) := (blk_cell BK118.out 1).trans rfl
                            have hcz59_2 : wr.cell? ⟨gb118, 2, none⟩ = some (.slice A0_2 l0_2.length c0_2) := (blk_cell BK118.out 2).trans rfl
                            have hcz59_3 : wr.cell? ⟨gb118, 3, none⟩ = some (.int .i64 a0_3) := (blk_cell BK118.out 3).trans rfl
                            have hcz59_4 : wr.cell? ⟨gb118, 4, none⟩ = some (.int .i64 a0_4) := (blk_cell BK118.out 4).trans rfl
                            have hcz59_5 : wr.cell? ⟨gb118, 5, none⟩ = some (.int .i64 a0_5) := (blk_cell BK118.out 5).trans rfl
                            have hcz59_6 : wr.cell? ⟨gb118, 6, none⟩ = some (.int .i64 a0_6) := (blk_cell BK118.out 6).trans rfl
                            have hcz59_7 : wr.cell? ⟨gb118, 7, none⟩ = some (.int .i64 a0_7) := (blk_cell BK118.out 7).trans rfl
                            have hcz59_8 : wr.cell? ⟨gb118, 8, none⟩ = some (.int .i64 a0_8) := (blk_cell BK118.out 8).trans rfl
                            have hfz59_0 := blk_frozen BK118.out 0
                            have hfz59_1 := blk_frozen BK118.out 1
                            have hfz59_2 := blk_frozen BK118.out 2
                            have hfz59_3 := blk_frozen BK118.out 3
                            have hfz59_4 := blk_frozen BK118.out 4
                            have hfz59_5 := blk_frozen BK118.out 5
                            have hfz59_6 := blk_frozen BK118.out 6
                            have hfz59_7 := blk_frozen BK118.out 7
                            have hfz59_8 := blk_frozen BK118.out 8
                            go_wp2
                            repeat (go_quiet (fail); try go_wp2)
                            go_roundg k3
                            case measure => have := HJ2.out; have := HK2.out; have := HK3.out; omega
                            case rel => exact ⟨(wrap64 (x6_3 + 1)), (by first | rfl | (simp; done) | (simp [*]; done)), H', ⟨by have := HJ2.out; have := HK2.out; have := HK3.out; omega⟩, ⟨by (with_reducible repeat (first | refine blk_drewN ?_ _ | refine blk_drew ?_ | refine blk_alloc ?_ _)); exact BK118.out⟩, ⟨by (with_reducible repeat (first | refine blk_drewN ?_ _ | refine blk_drew ?_ | refine blk_alloc ?_ _)); exact BK119.out⟩, ⟨by repeat (first | (with_reducible first | exact HB.out | apply below_alloc | apply pw_below_drewN | apply below_drew1 | refine below_set ?_ GE118.out | refine below_set ?_ GE119.out) | exact HB.out)⟩⟩
                    · rw [if_neg c38] at H
                      exact absurd H (by simp)
                  · rw [if_neg c37] at H
                    have c37b0 : decide (x6_3 < (l1_3.length : Int)) = false := decide_eq_false c37
                    clear c37
                    obtain rfl := Option.some.inj H
                    have hnb60 := NB119_118.out
                    have hnc60 := NB118_119.out
                    have hcz61_0 : wr.cell? ⟨gb119, 0, none⟩ = some (.int .i64 a1_0) := (blk_cell BK119.out 0).trans rfl
                    have hcz61_1 : wr.cell? ⟨gb119, 1, none⟩ = some (.int .i64 a1_1) := (blk_cell BK119.out 1).trans rfl
                    have hcz61_2 : wr.cell? ⟨gb119, 2, none⟩ = some (.slice A1_2 l1_2.length c1_2) := (blk_cell BK119.out 2).trans rfl
                    have hcz61_3 : wr.cell? ⟨gb119, 3, none⟩ = some (.slice A1_3 l1_3.length c1_3) := (blk_cell BK119.out 3).trans rfl
                    have hfz61_0 := blk_frozen BK119.out 0
                    have hfz61_1 := blk_frozen BK119.out 1
                    have hfz61_2 := blk_frozen BK119.out 2
                    have hfz61_3 := blk_frozen BK119.out 3
                    go_wp2
                    repeat (go_quiet (fail); try go_wp2)
                    go_ret
                    exact ⟨by first | rfl | (simp [errW_none, errW_some] <;> rfl) | (simp [*, errW_none, errW_some] <;> rfl), by repeat (first | (with_reducible first | exact HB.out | apply below_alloc | apply pw_below_drewN | apply below_drew1 | refine below_set ?_ GE118.out | refine below_set ?_ GE119.out) | exact HB.out)⟩
end Go.Proofs.Ytchlbnlhjllcbaa.F
namespace Go.Proofs.Ytchlbnlhjllcbaa.Adm
open Go.RowKit Go.Proofs.Ytchlbnlhjllcbaa.F Go.Proofs.Ytchlbnlhjllcbaa.Tbl Go.Proofs.YtchlbnlhjllcbaaW.PrintWords Go.Proofs.YtchlbnlhjllcbaaW.PrintLast
open Classical in
noncomputable def taskB (nd : Nat) (sems hor : Int) (t : S36) : Bool := decide (TaskOk nd sems hor t)
theorem taskB_no {nd : Nat} {sems hor : Int} {t : S36} (h : ¬ TaskOk nd sems hor t) : taskB nd sems hor t = false := by simp [taskB, h]
theorem taskB_yes {nd : Nat} {sems hor : Int} {t : S36} (h : TaskOk nd sems hor t) : taskB nd sems hor t = true := by simp [taskB, h]
section
variable {l0 : List S58} {l1 : List S68} {l2 : List S71} {idle crit sw swE sems hor : Int}
theorem dev_loop (t : S36) (hnd : l2.length ≤ 1000) (hp : 1 ≤ t.f0 ∧ t.f0 ≤ hor) (hc : 1 ≤ t.f1 ∧ t.f1 ≤ 4096) (hs : (t.f2.length : Int) ≤ sems) (hsec : ∀ i : Int, 0 ≤ i → i < t.f2.length → 0 ≤ rd t.f2 i ∧ rd t.f2 i ≤ t.f1) :
    ∀ (d k i : Nat), i ≤ t.f3.length → l2.length + 2 ≤ i + d → d < k → (∀ j : Nat, j < i → (j : Int) ≤ rd t.f3 j ∧ rd t.f3 j < l2.length) → (∀ j : Int, 0 < j → j < i → rd t.f3 (j - 1) < rd t.f3 j) →
    dormouseref09_Task.l1 k i l0 l1 l2 idle crit sw swE sems hor t.f0 t.f1 t.f2 t.f3 = some (taskB l2.length sems hor t)
  | 0, k, i, hi, hd, hk, h1, h2 => by
    exfalso
    have := h1 (i - 1) (by omega)
    rw [show ((i - 1 : Nat) : Int) = (i : Int) - 1 from by omega] at this
    omega
  | d + 1, k, i, hi, hd, hk, h1, h2 => by
    obtain ⟨k, rfl⟩ : ∃ q, k = q + 1 := ⟨k - 1, by omega⟩
    have hi2 : i ≤ l2.length + 1 := by
      rcases Nat.eq_zero_or_pos i with h | h
      · omega
      · have := h1 (i - 1) (by omega)
        rw [show ((i - 1 : Nat) : Int) = (i : Int) - 1 from by omega] at this
        omega
    simp only [dormouseref09_Task.l1]
    by_cases c1 : (i : Int) < t.f3.length
    · rw [if_pos c1, if_pos (by omega)]
      by_cases c2 : rd t.f3 i < 0
      · rw [if_pos c2, taskB_no (fun x => by have := x.dev i (by omega) c1; omega)]
      · rw [if_neg c2]
        by_cases c3 : rd t.f3 i ≥ (l2.length : Int)
        · rw [if_pos c3, taskB_no (fun x => by have := x.dev i (by omega) c1; omega)]
        · rw [if_neg c3]
          have go : (∀ j : Int, 0 < j → j < (i + 1 : Nat) → rd t.f3 (j - 1) < rd t.f3 j) → ((i : Int) ≤ rd t.f3 i) → dormouseref09_Task.l1 k (wrap64 ((i : Int) + 1)) l0 l1 l2 idle crit sw swE sems hor t.f0 t.f1 t.f2 t.f3 = some (taskB l2.length sems hor t) := by
            intro hr hge
            have := dev_loop t hnd hp hc hs hsec d k (i + 1) (by omega) (by omega) (by omega) (fun j hj => by
              rcases Nat.lt_or_ge j i with h | h
              · exact h1 j h
              · obtain rfl : j = i := by omega
                exact ⟨hge, by omega⟩) hr
            rw [w64 (n := (i : Int) + 1) (by omega) (by omega)]
            rw [show ((i + 1 : Nat) : Int) = (i : Int) + 1 from by omega] at this
            exact this
          by_cases c4 : (i : Int) > 0
          · have e : wrap64 ((i : Int) - 1) = (i : Int) - 1 := w64 (by omega) (by omega)
            rw [if_pos c4, e, if_pos (by omega), if_pos (by omega)]
            by_cases c5 : rd t.f3 ((i : Int) - 1) ≥ rd t.f3 i
            · rw [if_pos c5, taskB_no (fun x => by have := x.rising i c4 c1; omega)]
            · rw [if_neg c5]
              refine go (fun j hj hj2 => ?_) ?_
              · rcases Int.lt_or_le j i with h | h
                · exact h2 j hj h
                · obtain rfl : j = i := by omega
                  omega
              · have := h1 (i - 1) (by omega)
                rw [show ((i - 1 : Nat) : Int) = (i : Int) - 1 from by omega] at this
                omega
          · rw [if_neg c4]
            exact go (fun j hj hj2 => by omega) (by omega)
    · rw [if_neg c1]
      rw [taskB_yes ⟨hp, hc, hs, hsec, fun j hj hj2 => ?_, fun j hj hj2 => h2 j hj (by omega)⟩]
      have := h1 j.toNat (by omega)
      rw [show (j.toNat : Int) = j from by omega] at this
      omega
theorem sec_loop (t : S36) (hnd : l2.length ≤ 1000) (hsm : sems ≤ 3) (hp : 1 ≤ t.f0 ∧ t.f0 ≤ hor) (hc : 1 ≤ t.f1 ∧ t.f1 ≤ 4096) (hs : (t.f2.length : Int) ≤ sems) :
    ∀ (d k i : Nat), i + d = t.f2.length → 1010 + d < k → (∀ j : Int, 0 ≤ j → j < i → 0 ≤ rd t.f2 j ∧ rd t.f2 j ≤ t.f1) →
    dormouseref09_Task.l0 k i l0 l1 l2 idle crit sw swE sems hor t.f0 t.f1 t.f2 t.f3 = some (taskB l2.length sems hor t)
  | 0, k, i, hi, hk, h1 => by
    obtain ⟨k, rfl⟩ : ∃ q, k = q + 1 := ⟨k - 1, by omega⟩
    simp only [dormouseref09_Task.l0]
    rw [if_neg (by omega)]
    have := dev_loop (l0 := l0) (l1 := l1) (idle := idle) (crit := crit) (sw := sw) (swE := swE) (sems := sems) (hor := hor) t hnd hp hc hs (fun j hj hj2 => h1 j hj (by omega)) (l2.length + 2) k 0 (by omega) (by omega) (by omega) (fun j hj => by omega) (fun j hj hj2 => by omega)
    rw [show ((0 : Nat) : Int) = 0 from rfl] at this
    exact this
  | d + 1, k, i, hi, hk, h1 => by
    obtain ⟨k, rfl⟩ : ∃ q, k = q + 1 := ⟨k - 1, by omega⟩
    simp only [dormouseref09_Task.l0]
    have c1 : (i : Int) < t.f2.length := by omega
    rw [if_pos c1, if_pos (by omega)]
    by_cases c2 : rd t.f2 i < 0
    · rw [if_pos c2, taskB_no (fun x => by have := x.sec i (by omega) c1; omega)]
    · rw [if_neg c2]
      by_cases c3 : rd t.f2 i > t.f1
      · rw [if_pos c3, taskB_no (fun x => by have := x.sec i (by omega) c1; omega)]
      · rw [if_neg c3, w64 (n := (i : Int) + 1) (by omega) (by omega)]
        have := sec_loop t hnd hsm hp hc hs d k (i + 1) (by omega) (by omega) (fun j hj hj2 => by
          rcases Int.lt_or_le j i with h | h
          · exact h1 j hj h
          · obtain rfl : j = i := by omega
            omega)
        rw [show ((i + 1 : Nat) : Int) = (i : Int) + 1 from by omega] at this
        exact this
theorem task_some (t : S36) (hnd : l2.length ≤ 1000) (hsm : sems ≤ 3) {k : Nat} (hk : 1100 < k) :
    dormouseref09_Task.f k l0 l1 l2 idle crit sw swE sems hor t.f0 t.f1 t.f2 t.f3 = some (taskB l2.length sems hor t) := by
  obtain ⟨k, rfl⟩ : ∃ q, k = q + 1 := ⟨k - 1, by omega⟩
  unfold dormouseref09_Task.f
  by_cases c1 : t.f0 < 1
  · rw [if_pos c1, taskB_no (fun x => by have := x.period; omega)]; simp [dormouseref09_Task.j0]
  rw [if_neg c1]
  by_cases c2 : t.f0 > hor
  · rw [if_pos c2, taskB_no (fun x => by have := x.period; omega)]; simp [dormouseref09_Task.j0]
  rw [if_neg c2]
  by_cases c3 : t.f1 < 1
  · rw [if_pos c3, taskB_no (fun x => by have := x.cycles; omega)]; simp [dormouseref09_Task.j0]
  rw [if_neg c3]
  by_cases c4 : t.f1 > 4096
  · rw [if_pos c4, taskB_no (fun x => by have := x.cycles; omega)]; simp [dormouseref09_Task.j0]
  rw [if_neg c4]
  by_cases c5 : (t.f2.length : Int) > sems
  · rw [decide_eq_true c5, taskB_no (fun x => by have := x.secs; omega)]; simp [dormouseref09_Task.j0]
  · rw [decide_eq_false c5]
    simp only [dormouseref09_Task.j0]
    rw [if_neg (by simp)]
    have := sec_loop (l0 := l0) (l1 := l1) (l2 := l2) (idle := idle) (crit := crit) (sw := sw) (swE := swE) (sems := sems) (hor := hor) t hnd hsm (by omega) (by omega) (by omega) t.f2.length k 0 (by omega) (by omega) (fun j hj hj2 => by omega)
    rw [show ((0 : Nat) : Int) = 0 from rfl] at this
    exact this
end
end Go.Proofs.Ytchlbnlhjllcbaa.Adm
namespace Go.Proofs.Ytchlbnlhjllcbaa.F
open Go.RowKit Go.Proofs.YtchlbnlhjllcbaaW.PrintWords Go.Proofs.YtchlbnlhjllcbaaW.PrintLast Go.Proofs.YtchlbnlhjllcbaaW.PrintMore
attribute [local go_sem] max2_int min2_int max_two min_two max_three min_three max_four min_four   -- for this text's walks alone
set_option linter.unusedVariables false
set_option linter.unusedSimpArgs false
/-- A state of type 65 at block g of W; what its slices lead to came in by w0. -/
def IsS65 (w0 W : World) (g : Nat) (f0 : List (S58)) (f1 : List (S68)) (f2 : List (S71)) (f3 : Int) (f4 : Int) (f5 : Int) (f6 : Int) (f7 : Int) (f8 : Int) (f9 : List (S36)) (f10 : List Int) (f11 : List (S38)) (f12 : List (S73)) (f13 : Int) : Prop := ∃ A0 c0, ∃ A1 c1, ∃ A2 c2, ∃ A9 c9, ∃ A10 c10, ∃ A11 c11, ∃ A12 c12, W.heap[g]? = some (.cells #[.slice A0 f0.length c0, .slice A1 f1.length c1, .slice A2 f2.length c2, .int .i64 f3, .int .i64 f4, .int .i64 f5, .int .i64 f6, .int .i64 f7, .int .i64 f8, .slice A9 f9.length c9, .slice A10 f10.length c10, .slice A11 f11.length c11, .slice A12 f12.length c12, .int .i64 f13] 65 (0, 0)) ∧ (w0.heap.size ≤ g ∧ f0.length ≤ c0 ∧ f1.length ≤ c1 ∧ f2.length ≤ c2 ∧ f9.length ≤ c9 ∧ f10.length ≤ c10 ∧ f11.length ≤ c11 ∧ f12.length ≤ c12) ∧ Kd.C k58 w0 A0 f0.length f0 ∧ Kd.C k68 w0 A1 f1.length f1 ∧ Kd.C k71 w0 A2 f2.length f2 ∧ Kd.C k36 w0 A9 f9.length f9 ∧ Kd.C (Kd.int .i64) w0 A10 f10.length f10 ∧ Kd.C k38 w0 A11 f11.length f11 ∧ Kd.C k73 w0 A12 f12.length f12
theorem IsS65.grown {w0 W : World} {g : Nat} {f0 : List (S58)} {f1 : List (S68)} {f2 : List (S71)} {f3 : Int} {f4 : Int} {f5 : Int} {f6 : Int} {f7 : Int} {f8 : Int} {f9 : List (S36)} {f10 : List Int} {f11 : List (S38)} {f12 : List (S73)} {f13 : Int} {W1 : World} {row : Option Nat} (h : IsS65 w0 W g f0 f1 f2 f3 f4 f5 f6 f7 f8 f9 f10 f11 f12 f13) (hw : W.grownBy W1 row) (hne : some g ≠ row) : IsS65 w0 W1 g f0 f1 f2 f3 f4 f5 f6 f7 f8 f9 f10 f11 f12 f13 := by
  obtain ⟨A0, c0, A1, c1, A2, c2, A9, c9, A10, c10, A11, c11, A12, c12, hb, hg, hr0, hr1, hr2, hr9, hr10, hr11, hr12⟩ := h
  exact ⟨A0, c0, A1, c1, A2, c2, A9, c9, A10, c10, A11, c11, A12, c12, blk_grown hb hw hne, hg, hr0, hr1, hr2, hr9, hr10, hr11, hr12⟩
theorem IsS65.kept {w0 W : World} {g : Nat} {f0 : List (S58)} {f1 : List (S68)} {f2 : List (S71)} {f3 : Int} {f4 : Int} {f5 : Int} {f6 : Int} {f7 : Int} {f8 : Int} {f9 : List (S36)} {f10 : List Int} {f11 : List (S38)} {f12 : List (S73)} {f13 : Int} {W1 : World} {S : Nat → Prop} (h : IsS65 w0 W g f0 f1 f2 f3 f4 f5 f6 f7 f8 f9 f10 f11 f12 f13) (hk : Kept W W1 S) (hne : ¬ S g) : IsS65 w0 W1 g f0 f1 f2 f3 f4 f5 f6 f7 f8 f9 f10 f11 f12 f13 := by
  obtain ⟨A0, c0, A1, c1, A2, c2, A9, c9, A10, c10, A11, c11, A12, c12, hb, hg, hr0, hr1, hr2, hr9, hr10, hr11, hr12⟩ := h
  exact ⟨A0, c0, A1, c1, A2, c2, A9, c9, A10, c10, A11, c11, A12, c12, blk_kept hb hk hne, hg, hr0, hr1, hr2, hr9, hr10, hr11, hr12⟩
theorem IsS65.below {w0 W : World} {g : Nat} {f0 : List (S58)} {f1 : List (S68)} {f2 : List (S71)} {f3 : Int} {f4 : Int} {f5 : Int} {f6 : Int} {f7 : Int} {f8 : Int} {f9 : List (S36)} {f10 : List Int} {f11 : List (S38)} {f12 : List (S73)} {f13 : Int} {W1 : World} (h : IsS65 w0 W g f0 f1 f2 f3 f4 f5 f6 f7 f8 f9 f10 f11 f12 f13) (hw : Below W.heap.size W W1) : IsS65 w0 W1 g f0 f1 f2 f3 f4 f5 f6 f7 f8 f9 f10 f11 f12 f13 := h.grown (grown_of_below hw none) (by simp)
theorem IsS65.alloc {w0 W : World} {g : Nat} {f0 : List (S58)} {f1 : List (S68)} {f2 : List (S71)} {f3 : Int} {f4 : Int} {f5 : Int} {f6 : Int} {f7 : Int} {f8 : Int} {f9 : List (S36)} {f10 : List Int} {f11 : List (S38)} {f12 : List (S73)} {f13 : Int} (h : IsS65 w0 W g f0 f1 f2 f3 f4 f5 f6 f7 f8 f9 f10 f11 f12 f13) (o : Obj) : IsS65 w0 (W.alloc o) g f0 f1 f2 f3 f4 f5 f6 f7 f8 f9 f10 f11 f12 f13 := h.below (below_alloc (Below.refl _ _) o)
theorem IsS65.drewN {w0 W : World} {g : Nat} {f0 : List (S58)} {f1 : List (S68)} {f2 : List (S71)} {f3 : Int} {f4 : Int} {f5 : Int} {f6 : Int} {f7 : Int} {f8 : Int} {f9 : List (S36)} {f10 : List Int} {f11 : List (S38)} {f12 : List (S73)} {f13 : Int} (h : IsS65 w0 W g f0 f1 f2 f3 f4 f5 f6 f7 f8 f9 f10 f11 f12 f13) (m : Nat) : IsS65 w0 (W.drewN m) g f0 f1 f2 f3 f4 f5 f6 f7 f8 f9 f10 f11 f12 f13 := h
theorem IsS65.drew {w0 W : World} {g : Nat} {f0 : List (S58)} {f1 : List (S68)} {f2 : List (S71)} {f3 : Int} {f4 : Int} {f5 : Int} {f6 : Int} {f7 : Int} {f8 : Int} {f9 : List (S36)} {f10 : List Int} {f11 : List (S38)} {f12 : List (S73)} {f13 : Int} (h : IsS65 w0 W g f0 f1 f2 f3 f4 f5 f6 f7 f8 f9 f10 f11 f12 f13) : IsS65 w0 W.drew g f0 f1 f2 f3 f4 f5 f6 f7 f8 f9 f10 f11 f12 f13 := h
theorem IsS65.at_ {w0 W : World} {g : Nat} {f0 : List (S58)} {f1 : List (S68)} {f2 : List (S71)} {f3 : Int} {f4 : Int} {f5 : Int} {f6 : Int} {f7 : Int} {f8 : Int} {f9 : List (S36)} {f10 : List Int} {f11 : List (S38)} {f12 : List (S73)} {f13 : Int} {w' : World} {m : Nat} (hq : W.drewN m = w') (h : IsS65 w0 W g f0 f1 f2 f3 f4 f5 f6 f7 f8 f9 f10 f11 f12 f13) : IsS65 w0 w' g f0 f1 f2 f3 f4 f5 f6 f7 f8 f9 f10 f11 f12 f13 := by subst hq; exact IsS65.drewN h m
theorem IsS65.apart {w0 W : World} {g : Nat} {f0 : List (S58)} {f1 : List (S68)} {f2 : List (S71)} {f3 : Int} {f4 : Int} {f5 : Int} {f6 : Int} {f7 : Int} {f8 : Int} {f9 : List (S36)} {f10 : List Int} {f11 : List (S38)} {f12 : List (S73)} {f13 : Int} {α : Type} {d : Kd α} {e : Nat} {base : Nat} {ok : Nat → Prop} {v : Value} {xs : List α} (h : IsS65 w0 W g f0 f1 f2 f3 f4 f5 f6 f7 f8 f9 f10 f11 f12 f13) (ho : d.R e W base ok v xs) (ht : ∀ q, q ∈ e :: d.E → q ≠ 65) : d.R e W base (fun k => ok k ∧ k ≠ g) v xs := by
  obtain ⟨A0, c0, A1, c1, A2, c2, A9, c9, A10, c10, A11, c11, A12, c12, hb, hg, hr0, hr1, hr2, hr9, hr10, hr11, hr12⟩ := h
  exact Kd.R_types ho hb ht
theorem IsS65.own_ne {w0 W : World} {g : Nat} {f0 : List (S58)} {f1 : List (S68)} {f2 : List (S71)} {f3 : Int} {f4 : Int} {f5 : Int} {f6 : Int} {f7 : Int} {f8 : Int} {f9 : List (S36)} {f10 : List Int} {f11 : List (S38)} {f12 : List (S73)} {f13 : Int} {α : Type} {d : Kd α} {e : Nat} {base : Nat} {ok : Nat → Prop} {v : Value} {xs : List α} (h : IsS65 w0 W g f0 f1 f2 f3 f4 f5 f6 f7 f8 f9 f10 f11 f12 f13) (ho : d.R e W base ok v xs) (ht : e ≠ 65) : some g ≠ v.ownBlock := by
  obtain ⟨A0, c0, A1, c1, A2, c2, A9, c9, A10, c10, A11, c11, A12, c12, hb, hg, hr0, hr1, hr2, hr9, hr10, hr11, hr12⟩ := h
  exact Kd.R_ne ho hb ht
theorem IsS65.lt {w0 W : World} {g : Nat} {f0 : List (S58)} {f1 : List (S68)} {f2 : List (S71)} {f3 : Int} {f4 : Int} {f5 : Int} {f6 : Int} {f7 : Int} {f8 : Int} {f9 : List (S36)} {f10 : List Int} {f11 : List (S38)} {f12 : List (S73)} {f13 : Int} (h : IsS65 w0 W g f0 f1 f2 f3 f4 f5 f6 f7 f8 f9 f10 f11 f12 f13) : g < W.heap.size := by
  obtain ⟨A0, c0, A1, c1, A2, c2, A9, c9, A10, c10, A11, c11, A12, c12, hb, hg, hr0, hr1, hr2, hr9, hr10, hr11, hr12⟩ := h
  exact blk_lt hb
theorem IsS65.ge {w0 W : World} {g : Nat} {f0 : List (S58)} {f1 : List (S68)} {f2 : List (S71)} {f3 : Int} {f4 : Int} {f5 : Int} {f6 : Int} {f7 : Int} {f8 : Int} {f9 : List (S36)} {f10 : List Int} {f11 : List (S38)} {f12 : List (S73)} {f13 : Int} (h : IsS65 w0 W g f0 f1 f2 f3 f4 f5 f6 f7 f8 f9 f10 f11 f12 f13) : w0.heap.size ≤ g := by
  obtain ⟨A0, c0, A1, c1, A2, c2, A9, c9, A10, c10, A11, c11, A12, c12, hb, hg, hr0, hr1, hr2, hr9, hr10, hr11, hr12⟩ := h
  exact hg.1
theorem IsS65.far {w0 W : World} {g : Nat} {f0 : List (S58)} {f1 : List (S68)} {f2 : List (S71)} {f3 : Int} {f4 : Int} {f5 : Int} {f6 : Int} {f7 : Int} {f8 : Int} {f9 : List (S36)} {f10 : List Int} {f11 : List (S38)} {f12 : List (S73)} {f13 : Int} {p : Addr} (h : IsS65 w0 W g f0 f1 f2 f3 f4 f5 f6 f7 f8 f9 f10 f11 f12 f13) (hne : g ≠ p.block) (u : Value) : IsS65 w0 (W.setCell p u) g f0 f1 f2 f3 f4 f5 f6 f7 f8 f9 f10 f11 f12 f13 := by
  obtain ⟨A0, c0, A1, c1, A2, c2, A9, c9, A10, c10, A11, c11, A12, c12, hb, hg, hr0, hr1, hr2, hr9, hr10, hr11, hr12⟩ := h
  exact ⟨A0, c0, A1, c1, A2, c2, A9, c9, A10, c10, A11, c11, A12, c12, blk_far hb hne u, hg, hr0, hr1, hr2, hr9, hr10, hr11, hr12⟩
theorem cellS65_0 {W : World} {g : Nat} {A0 : Option Addr} {c0 : Nat} {A1 : Option Addr} {c1 : Nat} {A2 : Option Addr} {c2 : Nat} {A9 : Option Addr} {c9 : Nat} {A10 : Option Addr} {c10 : Nat} {A11 : Option Addr} {c11 : Nat} {A12 : Option Addr} {c12 : Nat} {f0 : List (S58)} {f1 : List (S68)} {f2 : List (S71)} {f3 : Int} {f4 : Int} {f5 : Int} {f6 : Int} {f7 : Int} {f8 : Int} {f9 : List (S36)} {f10 : List Int} {f11 : List (S38)} {f12 : List (S73)} {f13 : Int} (h : W.heap[g]? = some (.cells #[.slice A0 f0.length c0, .slice A1 f1.length c1, .slice A2 f2.length c2, .int .i64 f3, .int .i64 f4, .int .i64 f5, .int .i64 f6, .int .i64 f7, .int .i64 f8, .slice A9 f9.length c9, .slice A10 f10.length c10, .slice A11 f11.length c11, .slice A12 f12.length c12, .int .i64 f13] 65 (0, 0))) : W.cell? ⟨g, 0, none⟩ = some (.slice A0 f0.length c0) := (blk_cell h 0).trans rfl
theorem cellS65_1 {W : World} {g : Nat} {A0 : Option Addr} {c0 : Nat} {A1 : Option Addr} {c1 : Nat} {A2 : Option Addr} {c2 : Nat} {A9 : Option Addr} {c9 : Nat} {A10 : Option Addr} {c10 : Nat} {A11 : Option Addr} {c11 : Nat} {A12 : Option Addr} {c12 : Nat} {f0 : List (S58)} {f1 : List (S68)} {f2 : List (S71)} {f3 : Int} {f4 : Int} {f5 : Int} {f6 : Int} {f7 : Int} {f8 : Int} {f9 : List (S36)} {f10 : List Int} {f11 : List (S38)} {f12 : List (S73)} {f13 : Int} (h : W.heap[g]? = some (.cells #[.slice A0 f0.length c0, .slice A1 f1.length c1, .slice A2 f2.length c2, .int .i64 f3, .int .i64 f4, .int .i64 f5, .int .i64 f6, .int .i64 f7, .int .i64 f8, .slice A9 f9.length c9, .slice A10 f10.length c10, .slice A11 f11.length c11, .slice A12 f12.length c12, .int .i64 f13] 65 (0, 0))) : W.cell? ⟨g, 1, none⟩ = some (.slice A1 f1.length c1) := (blk_cell h 1).trans rfl
theorem cellS65_2 {W : World} {g : Nat} {A0 : Option Addr} {c0 : Nat} {A1 : Option Addr} {c1 : Nat} {A2 : Option Addr} {c2 : Nat} {A9 : Option Addr} {c9 : Nat} {A10 : Option Addr} {c10 : Nat} {A11 : Option Addr} {c11 : Nat} {A12 : Option Addr} {c12 : Nat} {f0 : List (S58)} {f1 : List (S68)} {f2 : List (S71)} {f3 : Int} {f4 : Int} {f5 : Int} {f6 : Int} {f7 : Int} {f8 : Int} {f9 : List (S36)} {f10 : List Int} {f11 : List (S38)} {f12 : List (S73)} {f13 : Int} (h : W.heap[g]? = some (.cells #[.slice A0 f0.length c0, .slice A1 f1.length c1, .slice A2 f2.length c2, .int .i64 f3, .int .i64 f4, .int .i64 f5, .int .i64 f6, .int .i64 f7, .int .i64 f8, .slice A9 f9.length c9, .slice A10 f10.length c10, .slice A11 f11.length c11, .slice A12 f12.length c12, .int .i64 f13] 65 (0, 0))) : W.cell? ⟨g, 2, none⟩ = some (.slice A2 f2.length c2) := (blk_cell h 2).trans rfl
theorem cellS65_3 {W : World} {g : Nat} {A0 : Option Addr} {c0 : Nat} {A1 : Option Addr} {c1 : Nat} {A2 : Option Addr} {c2 : Nat} {A9 : Option Addr} {c9 : Nat} {A10 : Option Addr} {c10 : Nat} {A11 : Option Addr} {c11 : Nat} {A12 : Option Addr} {c12 : Nat} {f0 : List (S58)} {f1 : List (S68)} {f2 : List (S71)} {f3 : Int} {f4 : Int} {f5 : Int} {f6 : Int} {f7 : Int} {f8 : Int} {f9 : List (S36)} {f10 : List Int} {f11 : List (S38)} {f12 : List (S73)} {f13 : Int} (h : W.heap[g]? = some (.cells #[.slice A0 f0.length c0, .slice A1 f1.length c1, .slice A2 f2.length c2, .int .i64 f3, .int .i64 f4, .int .i64 f5, .int .i64 f6, .int .i64 f7, .int .i64 f8, .slice A9 f9.length c9, .slice A10 f10.length c10, .slice A11 f11.length c11, .slice A12 f12.length c12, .int .i64 f13] 65 (0, 0))) : W.cell? ⟨g, 3, none⟩ = some (.int .i64 f3) := (blk_cell h 3).trans rfl
theorem IsS65.set_3 {w0 W : World} {g : Nat} {f0 : List (S58)} {f1 : List (S68)} {f2 : List (S71)} {f3 : Int} {f4 : Int} {f5 : Int} {f6 : Int} {f7 : Int} {f8 : Int} {f9 : List (S36)} {f10 : List Int} {f11 : List (S38)} {f12 : List (S73)} {f13 : Int} (h : IsS65 w0 W g f0 f1 f2 f3 f4 f5 f6 f7 f8 f9 f10 f11 f12 f13) (x : Int) : IsS65 w0 (W.setCell ⟨g, 3, none⟩ (.int .i64 x)) g f0 f1 f2 x f4 f5 f6 f7 f8 f9 f10 f11 f12 f13 := by
  obtain ⟨A0, c0, A1, c1, A2, c2, A9, c9, A10, c10, A11, c11, A12, c12, hb, hg, hr0, hr1, hr2, hr9, hr10, hr11, hr12⟩ := h
  exact ⟨A0, c0, A1, c1, A2, c2, A9, c9, A10, c10, A11, c11, A12, c12, by simpa using blk_set hb 3 (.int .i64 x), hg, hr0, hr1, hr2, hr9, hr10, hr11, hr12⟩
theorem cellS65_4 {W : World} {g : Nat} {A0 : Option Addr} {c0 : Nat} {A1 : Option Addr} {c1 : Nat} {A2 : Option Addr} {c2 : Nat} {A9 : Option Addr} {c9 : Nat} {A10 : Option Addr} {c10 : Nat} {A11 : Option Addr} {c11 : Nat} {A12 : Option Addr} {c12 : Nat} {f0 : List (S58)} {f1 : List (S68)} {f2 : List (S71)} {f3 : Int} {f4 : Int} {f5 : Int} {f6 : Int} {f7 : Int} {f8 : Int} {f9 : List (S36)} {f10 : List Int} {f11 : List (S38)} {f12 : List (S73)} {f13 : Int} (h : W.heap[g]? = some (.cells #[.slice A0 f0.length c0, .slice A1 f1.length c1, .slice A2 f2.length c2, .int .i64 f3, .int .i64 f4, .int .i64 f5, .int .i64 f6, .int .i64 f7, .int .i64 f8, .slice A9 f9.length c9, .slice A10 f10.length c10, .slice A11 f11.length c11, .slice A12 f12.length c12, .int .i64 f13] 65 (0, 0))) : W.cell? ⟨g, 4, none⟩ = some (.int .i64 f4) := (blk_cell h 4).trans rfl
theorem IsS65.set_4 {w0 W : World} {g : Nat} {f0 : List (S58)} {f1 : List (S68)} {f2 : List (S71)} {f3 : Int} {f4 : Int} {f5 : Int} {f6 : Int} {f7 : Int} {f8 : Int} {f9 : List (S36)} {f10 : List Int} {f11 : List (S38)} {f12 : List (S73)} {f13 : Int} (h : IsS65 w0 W g f0 f1 f2 f3 f4 f5 f6 f7 f8 f9 f10 f11 f12 f13) (x : Int) : IsS65 w0 (W.setCell ⟨g, 4, none⟩ (.int .i64 x)) g f0 f1 f2 f3 x f5 f6 f7 f8 f9 f10 f11 f12 f13 := by
  obtain ⟨A0, c0, A1, c1, A2, c2, A9, c9, A10, c10, A11, c11, A12, c12, hb, hg, hr0, hr1, hr2, hr9, hr10, hr11, hr12⟩ := h
  exact ⟨A0, c0, A1, c1, A2, c2, A9, c9, A10, c10, A11, c11, A12, c12, by simpa using blk_set hb 4 (.int .i64 x), hg, hr0, hr1, hr2, hr9, hr10, hr11, hr12⟩
theorem cellS65_5 {W : World} {g : Nat} {A0 : Option Addr} {c0 : Nat} {A1 : Option Addr} {c1 : Nat} {A2 : Option Addr} {c2 : Nat} {A9 : Option Addr} {c9 : Nat} {A10 : Option Addr} {c10 : Nat} {A11 : Option Addr} {c11 : Nat} {A12 : Option Addr} {c12 : Nat} {f0 : List (S58)} {f1 : List (S68)} {f2 : List (S71)} {f3 : Int} {f4 : Int} {f5 : Int} {f6 : Int} {f7 : Int} {f8 : Int} {f9 : List (S36)} {f10 : List Int} {f11 : List (S38)} {f12 : List (S73)} {f13 : Int} (h : W.heap[g]? = some (.cells #[.slice A0 f0.length c0, .slice A1 f1.length c1, .slice A2 f2.length c2, .int .i64 f3, .int .i64 f4, .int .i64 f5, .int .i64 f6, .int .i64 f7, .int .i64 f8, .slice A9 f9.length c9, .slice A10 f10.length c10, .slice A11 f11.length c11, .slice A12 f12.length c12, .int .i64 f13] 65 (0, 0))) : W.cell? ⟨g, 5, none⟩ = some (.int .i64 f5) := (blk_cell h 5).trans rfl
theorem IsS65.set_5 {w0 W : World} {g : Nat} {f0 : List (S58)} {f1 : List (S68)} {f2 : List (S71)} {f3 : Int} {f4 : Int} {f5 : Int} {f6 : Int} {f7 : Int} {f8 : Int} {f9 : List (S36)} {f10 : List Int} {f11 : List (S38)} {f12 : List (S73)} {f13 : Int} (h : IsS65 w0 W g f0 f1 f2 f3 f4 f5 f6 f7 f8 f9 f10 f11 f12 f13) (x : Int) : IsS65 w0 (W.setCell ⟨g, 5, none⟩ (.int .i64 x)) g f0 f1 f2 f3 f4 x f6 f7 f8 f9 f10 f11 f12 f13 := by
  obtain ⟨A0, c0, A1, c1, A2, c2, A9, c9, A10, c10, A11, c11, A12, c12, hb, hg, hr0, hr1, hr2, hr9, hr10, hr11, hr12⟩ := h
  exact ⟨A0, c0, A1, c1, A2, c2, A9, c9, A10, c10, A11, c11, A12, c12, by simpa using blk_set hb 5 (.int .i64 x), hg, hr0, hr1, hr2, hr9, hr10, hr11, hr12⟩
theorem cellS65_6 {W : World} {g : Nat} {A0 : Option Addr} {c0 : Nat} {A1 : Option Addr} {c1 : Nat} {A2 : Option Addr} {c2 : Nat} {A9 : Option Addr} {c9 : Nat} {A10 : Option Addr} {c10 : Nat} {A11 : Option Addr} {c11 : Nat} {A12 : Option Addr} {c12 : Nat} {f0 : List (S58)} {f1 : List (S68)} {f2 : List (S71)} {f3 : Int} {f4 : Int} {f5 : Int} {f6 : Int} {f7 : Int} {f8 : Int} {f9 : List (S36)} {f10 : List Int} {f11 : List (S38)} {f12 : List (S73)} {f13 : Int} (h : W.heap[g]? = some (.cells #[.slice A0 f0.length c0, .slice A1 f1.length c1, .slice A2 f2.length c2, .int .i64 f3, .int .i64 f4, .int .i64 f5, .int .i64 f6, .int .i64 f7, .int .i64 f8, .slice A9 f9.length c9, .slice A10 f10.length c10, .slice A11 f11.length c11, .slice A12 f12.length c12, .int .i64 f13] 65 (0, 0))) : W.cell? ⟨g, 6, none⟩ = some (.int .i64 f6) := (blk_cell h 6).trans rfl
theorem IsS65.set_6 {w0 W : World} {g : Nat} {f0 : List (S58)} {f1 : List (S68)} {f2 : List (S71)} {f3 : Int} {f4 : Int} {f5 : Int} {f6 : Int} {f7 : Int} {f8 : Int} {f9 : List (S36)} {f10 : List Int} {f11 : List (S38)} {f12 : List (S73)} {f13 : Int} (h : IsS65 w0 W g f0 f1 f2 f3 f4 f5 f6 f7 f8 f9 f10 f11 f12 f13) (x : Int) : IsS65 w0 (W.setCell ⟨g, 6, none⟩ (.int .i64 x)) g f0 f1 f2 f3 f4 f5 x f7 f8 f9 f10 f11 f12 f13 := by
  obtain ⟨A0, c0, A1, c1, A2, c2, A9, c9, A10, c10, A11, c11, A12, c12, hb, hg, hr0, hr1, hr2, hr9, hr10, hr11, hr12⟩ := h
  exact ⟨A0, c0, A1, c1, A2, c2, A9, c9, A10, c10, A11, c11, A12, c12, by simpa using blk_set hb 6 (.int .i64 x), hg, hr0, hr1, hr2, hr9, hr10, hr11, hr12⟩
theorem cellS65_7 {W : World} {g : Nat} {A0 : Option Addr} {c0 : Nat} {A1 : Option Addr} {c1 : Nat} {A2 : Option Addr} {c2 : Nat} {A9 : Option Addr} {c9 : Nat} {A10 : Option Addr} {c10 : Nat} {A11 : Option Addr} {c11 : Nat} {A12 : Option Addr} {c12 : Nat} {f0 : List (S58)} {f1 : List (S68)} {f2 : List (S71)} {f3 : Int} {f4 : Int} {f5 : Int} {f6 : Int} {f7 : Int} {f8 : Int} {f9 : List (S36)} {f10 : List Int} {f11 : List (S38)} {f12 : List (S73)} {f13 : Int} (h : W.heap[g]? = some (.cells #[.slice A0 f0.length c0, .slice A1 f1.length c1, .slice A2 f2.length c2, .int .i64 f3, .int .i64 f4, .int .i64 f5, .int .i64 f6, .int .i64 f7, .int .i64 f8, .slice A9 f9.length c9, .slice A10 f10.length c10, .slice A11 f11.length c11, .slice A12 f12.length c12, .int .i64 f13] 65 (0, 0))) : W.cell? ⟨g, 7, none⟩ = some (.int .i64 f7) := (blk_cell h 7).trans rfl
theorem IsS65.set_7 {w0 W : World} {g : Nat} {f0 : List (S58)} {f1 : List (S68)} {f2 : List (S71)} {f3 : Int} {f4 : Int} {f5 : Int} {f6 : Int} {f7 : Int} {f8 : Int} {f9 : List (S36)} {f10 : List Int} {f11 : List (S38)} {f12 : List (S73)} {f13 : Int} (h : IsS65 w0 W g f0 f1 f2 f3 f4 f5 f6 f7 f8 f9 f10 f11 f12 f13) (x : Int) : IsS65 w0 (W.setCell ⟨g, 7, none⟩ (.int .i64 x)) g f0 f1 f2 f3 f4 f5 f6 x f8 f9 f10 f11 f12 f13 := by
  obtain ⟨A0, c0, A1, c1, A2, c2, A9, c9, A10, c10, A11, c11, A12, c12, hb, hg, hr0, hr1, hr2, hr9, hr10, hr11, hr12⟩ := h
  exact ⟨A0, c0, A1, c1, A2, c2, A9, c9, A10, c10, A11, c11, A12, c12, by simpa using blk_set hb 7 (.int .i64 x), hg, hr0, hr1, hr2, hr9, hr10, hr11, hr12⟩
theorem cellS65_8 {W : World} {g : Nat} {A0 : Option Addr} {c0 : Nat} {A1 : Option Addr} {c1 : Nat} {A2 : Option Addr} {c2 : Nat} {A9 : Option Addr} {c9 : Nat} {A10 : Option Addr} {c10 : Nat} {A11 : Option Addr} {c11 : Nat} {A12 : Option Addr} {c12 : Nat} {f0 : List (S58)} {f1 : List (S68)} {f2 : List (S71)} {f3 : Int} {f4 : Int} {f5 : Int} {f6 : Int} {f7 : Int} {f8 : Int} {f9 : List (S36)} {f10 : List Int} {f11 : List (S38)} {f12 : List (S73)} {f13 : Int} (h : W.heap[g]? = some (.cells #[.slice A0 f0.length c0, .slice A1 f1.length c1, .slice A2 f2.length c2, .int .i64 f3, .int .i64 f4, .int .i64 f5, .int .i64 f6, .int .i64 f7, .int .i64 f8, .slice A9 f9.length c9, .slice A10 f10.length c10, .slice A11 f11.length c11, .slice A12 f12.length c12, .int .i64 f13] 65 (0, 0))) : W.cell? ⟨g, 8, none⟩ = some (.int .i64 f8) := (blk_cell h 8).trans rfl
theorem IsS65.set_8 {w0 W : World} {g : Nat} {f0 : List (S58)} {f1 : List (S68)} {f2 : List (S71)} {f3 : Int} {f4 : Int} {f5 : Int} {f6 : Int} {f7 : Int} {f8 : Int} {f9 : List (S36)} {f10 : List Int} {f11 : List (S38)} {f12 : List (S73)} {f13 : Int} (h : IsS65 w0 W g f0 f1 f2 f3 f4 f5 f6 f7 f8 f9 f10 f11 f12 f13) (x : Int) : IsS65 w0 (W.setCell ⟨g, 8, none⟩ (.int .i64 x)) g f0 f1 f2 f3 f4 f5 f6 f7 x f9 f10 f11 f12 f13 := by
  obtain ⟨A0, c0, A1, c1, A2, c2, A9, c9, A10, c10, A11, c11, A12, c12, hb, hg, hr0, hr1, hr2, hr9, hr10, hr11, hr12⟩ := h
  exact ⟨A0, c0, A1, c1, A2, c2, A9, c9, A10, c10, A11, c11, A12, c12, by simpa using blk_set hb 8 (.int .i64 x), hg, hr0, hr1, hr2, hr9, hr10, hr11, hr12⟩
theorem cellS65_9 {W : World} {g : Nat} {A0 : Option Addr} {c0 : Nat} {A1 : Option Addr} {c1 : Nat} {A2 : Option Addr} {c2 : Nat} {A9 : Option Addr} {c9 : Nat} {A10 : Option Addr} {c10 : Nat} {A11 : Option Addr} {c11 : Nat} {A12 : Option Addr} {c12 : Nat} {f0 : List (S58)} {f1 : List (S68)} {f2 : List (S71)} {f3 : Int} {f4 : Int} {f5 : Int} {f6 : Int} {f7 : Int} {f8 : Int} {f9 : List (S36)} {f10 : List Int} {f11 : List (S38)} {f12 : List (S73)} {f13 : Int} (h : W.heap[g]? = some (.cells #[.slice A0 f0.length c0, .slice A1 f1.length c1, .slice A2 f2.length c2, .int .i64 f3, .int .i64 f4, .int .i64 f5, .int .i64 f6, .int .i64 f7, .int .i64 f8, .slice A9 f9.length c9, .slice A10 f10.length c10, .slice A11 f11.length c11, .slice A12 f12.length c12, .int .i64 f13] 65 (0, 0))) : W.cell? ⟨g, 9, none⟩ = some (.slice A9 f9.length c9) := (blk_cell h 9).trans rfl
theorem cellS65_10 {W : World} {g : Nat} {A0 : Option Addr} {c0 : Nat} {A1 : Option Addr} {c1 : Nat} {A2 : Option Addr} {c2 : Nat} {A9 : Option Addr} {c9 : Nat} {A10 : Option Addr} {c10 : Nat} {A11 : Option Addr} {c11 : Nat} {A12 : Option Addr} {c12 : Nat} {f0 : List (S58)} {f1 : List (S68)} {f2 : List (S71)} {f3 : Int} {f4 : Int} {f5 : Int} {f6 : Int} {f7 : Int} {f8 : Int} {f9 : List (S36)} {f10 : List Int} {f11 : List (S38)} {f12 : List (S73)} {f13 : Int} (h : W.heap[g]? = some (.cells #[.slice A0 f0.length c0, .slice A1 f1.length c1, .slice A2 f2.length c2, .int .i64 f3, .int .i64 f4, .int .i64 f5, .int .i64 f6, .int .i64 f7, .int .i64 f8, .slice A9 f9.length c9, .slice A10 f10.length c10, .slice A11 f11.length c11, .slice A12 f12.length c12, .int .i64 f13] 65 (0, 0))) : W.cell? ⟨g, 10, none⟩ = some (.slice A10 f10.length c10) := (blk_cell h 10).trans rfl
theorem cellS65_11 {W : World} {g : Nat} {A0 : Option Addr} {c0 : Nat} {A1 : Option Addr} {c1 : Nat} {A2 : Option Addr} {c2 : Nat} {A9 : Option Addr} {c9 : Nat} {A10 : Option Addr} {c10 : Nat} {A11 : Option Addr} {c11 : Nat} {A12 : Option Addr} {c12 : Nat} {f0 : List (S58)} {f1 : List (S68)} {f2 : List (S71)} {f3 : Int} {f4 : Int} {f5 : Int} {f6 : Int} {f7 : Int} {f8 : Int} {f9 : List (S36)} {f10 : List Int} {f11 : List (S38)} {f12 : List (S73)} {f13 : Int} (h : W.heap[g]? = some (.cells #[.slice A0 f0.length c0, .slice A1 f1.length c1, .slice A2 f2.length c2, .int .i64 f3, .int .i64 f4, .int .i64 f5, .int .i64 f6, .int .i64 f7, .int .i64 f8, .slice A9 f9.length c9, .slice A10 f10.length c10, .slice A11 f11.length c11, .slice A12 f12.length c12, .int .i64 f13] 65 (0, 0))) : W.cell? ⟨g, 11, none⟩ = some (.slice A11 f11.length c11) := (blk_cell h 11).trans rfl
theorem cellS65_12 {W : World} {g : Nat} {A0 : Option Addr} {c0 : Nat} {A1 : Option Addr} {c1 : Nat} {A2 : Option Addr} {c2 : Nat} {A9 : Option Addr} {c9 : Nat} {A10 : Option Addr} {c10 : Nat} {A11 : Option Addr} {c11 : Nat} {A12 : Option Addr} {c12 : Nat} {f0 : List (S58)} {f1 : List (S68)} {f2 : List (S71)} {f3 : Int} {f4 : Int} {f5 : Int} {f6 : Int} {f7 : Int} {f8 : Int} {f9 : List (S36)} {f10 : List Int} {f11 : List (S38)} {f12 : List (S73)} {f13 : Int} (h : W.heap[g]? = some (.cells #[.slice A0 f0.length c0, .slice A1 f1.length c1, .slice A2 f2.length c2, .int .i64 f3, .int .i64 f4, .int .i64 f5, .int .i64 f6, .int .i64 f7, .int .i64 f8, .slice A9 f9.length c9, .slice A10 f10.length c10, .slice A11 f11.length c11, .slice A12 f12.length c12, .int .i64 f13] 65 (0, 0))) : W.cell? ⟨g, 12, none⟩ = some (.slice A12 f12.length c12) := (blk_cell h 12).trans rfl
theorem cellS65_13 {W : World} {g : Nat} {A0 : Option Addr} {c0 : Nat} {A1 : Option Addr} {c1 : Nat} {A2 : Option Addr} {c2 : Nat} {A9 : Option Addr} {c9 : Nat} {A10 : Option Addr} {c10 : Nat} {A11 : Option Addr} {c11 : Nat} {A12 : Option Addr} {c12 : Nat} {f0 : List (S58)} {f1 : List (S68)} {f2 : List (S71)} {f3 : Int} {f4 : Int} {f5 : Int} {f6 : Int} {f7 : Int} {f8 : Int} {f9 : List (S36)} {f10 : List Int} {f11 : List (S38)} {f12 : List (S73)} {f13 : Int} (h : W.heap[g]? = some (.cells #[.slice A0 f0.length c0, .slice A1 f1.length c1, .slice A2 f2.length c2, .int .i64 f3, .int .i64 f4, .int .i64 f5, .int .i64 f6, .int .i64 f7, .int .i64 f8, .slice A9 f9.length c9, .slice A10 f10.length c10, .slice A11 f11.length c11, .slice A12 f12.length c12, .int .i64 f13] 65 (0, 0))) : W.cell? ⟨g, 13, none⟩ = some (.int .i64 f13) := (blk_cell h 13).trans rfl
theorem IsS65.set_13 {w0 W : World} {g : Nat} {f0 : List (S58)} {f1 : List (S68)} {f2 : List (S71)} {f3 : Int} {f4 : Int} {f5 : Int} {f6 : Int} {f7 : Int} {f8 : Int} {f9 : List (S36)} {f10 : List Int} {f11 : List (S38)} {f12 : List (S73)} {f13 : Int} (h : IsS65 w0 W g f0 f1 f2 f3 f4 f5 f6 f7 f8 f9 f10 f11 f12 f13) (x : Int) : IsS65 w0 (W.setCell ⟨g, 13, none⟩ (.int .i64 x)) g f0 f1 f2 f3 f4 f5 f6 f7 f8 f9 f10 f11 f12 x := by
  obtain ⟨A0, c0, A1, c1, A2, c2, A9, c9, A10, c10, A11, c11, A12, c12, hb, hg, hr0, hr1, hr2, hr9, hr10, hr11, hr12⟩ := h
  exact ⟨A0, c0, A1, c1, A2, c2, A9, c9, A10, c10, A11, c11, A12, c12, by simpa using blk_set hb 13 (.int .i64 x), hg, hr0, hr1, hr2, hr9, hr10, hr11, hr12⟩
end Go.Proofs.Ytchlbnlhjllcbaa.F
namespace Go.Proofs.Ytchlbnlhjllcbaa.F
open Go.RowKit Go.Proofs.YtchlbnlhjllcbaaW.PrintWords Go.Proofs.YtchlbnlhjllcbaaW.PrintLast Go.Proofs.YtchlbnlhjllcbaaW.PrintMore
attribute [local go_sem] max2_int min2_int max_two min_two max_three min_three max_four min_four   -- for this text's walks alone
set_option linter.unusedVariables false
set_option linter.unusedSimpArgs false
def slack_view_from.f (s0_0 : List (S58)) (s0_1 : List (S68)) (s0_2 : List (S71)) (s0_3 : Int) (s0_4 : Int) (s0_5 : Int) (s0_6 : Int) (s0_7 : Int) (s0_8 : Int) (s0_9 : List (S36)) (s0_10 : List Int) (s0_11 : List (S38)) (s0_12 : List (S73)) (s0_13 : Int) (a1 : Int) : Option (Int × Int × Int × Int × Int × Int × Int × Int) := if 0 ≤ a1 then (if a1 < (s0_10.length : Int) then (some (mx s0_13 (rd s0_10 a1), s0_3, s0_4, s0_5, s0_6, s0_7, s0_8, s0_13)) else (none)) else (none)
set_option maxHeartbeats 8000000 in
set_option maxRecDepth 100000 in
theorem slack_view_from.calls (g : Nat) (s0_0 : List (S58)) (s0_1 : List (S68)) (s0_2 : List (S71)) (s0_3 : Int) (s0_4 : Int) (s0_5 : Int) (s0_6 : Int) (s0_7 : Int) (s0_8 : Int) (s0_9 : List (S36)) (s0_10 : List Int) (s0_11 : List (S38)) (s0_12 : List (S73)) (s0_13 : Int) (a1 : Int) (r1 : Int) (r2 : Int) (r3 : Int) (r4 : Int) (r5 : Int) (r6 : Int) (r7 : Int) (r8 : Int) (w0 w : World) (hI : IsS65 w0 w g s0_0 s0_1 s0_2 s0_3 s0_4 s0_5 s0_6 s0_7 s0_8 s0_9 s0_10 s0_11 s0_12 s0_13) (hB : Below w0.heap.size w0 w) (h : slack_view_from.f s0_0 s0_1 s0_2 s0_3 s0_4 s0_5 s0_6 s0_7 s0_8 s0_9 s0_10 s0_11 s0_12 s0_13 a1 = some (r1, r2, r3, r4, r5, r6, r7, r8)) :
    Calls Try.prog 47 #[.pointer (some ⟨g, 0, none⟩), .int .i64 a1] w fun e w' => e = .returned (.int .i64 r1) ∧ IsS65 w0 w' g s0_0 s0_1 s0_2 r2 r3 r4 r5 r6 r7 s0_9 s0_10 s0_11 s0_12 r8 ∧ Below w0.heap.size w0 w' ∧ KeepBut w w' g none := by
  have HI0 := Aside0.mk hI
  have HK := Aside0.mk (KeepBut.refl w g none)
  have HL := Aside0.mk hB.size
  clear hI
  have HW0 := Aside0.mk hB.size
  have HB := Aside0.mk hB
  clear hB
  have H : (if 0 ≤ a1 then (if a1 < (s0_10.length : Int) then (some (mx s0_13 (rd s0_10 a1), s0_3, s0_4, s0_5, s0_6, s0_7, s0_8, s0_13)) else (none)) else (none)) = some (r1, r2, r3, r4, r5, r6, r7, r8) := h
  clear h
  by_cases c3 : 0 ≤ a1
  · rw [if_pos c3] at H
    have c3b0 : decide (0 ≤ a1) = true := decide_eq_true c3
    clear c3
    by_cases c4 : a1 < (s0_10.length : Int)
    · rw [if_pos c4] at H
      have c4b0 : decide (a1 < (s0_10.length : Int)) = true := decide_eq_true c4
      clear c4
      obtain ⟨ji5, hji5⟩ : ∃ j_ : Int, (mx s0_13 (rd s0_10 a1)) = j_ := ⟨_, rfl⟩
      replace H : (some (ji5, s0_3, s0_4, s0_5, s0_6, s0_7, s0_8, s0_13)) = some (r1, r2, r3, r4, r5, r6, r7, r8) := by first | (rw [hji5] at H; exact H) | (simp only [hji5] at H ⊢; exact H)
      have hji5_ : (if s0_13 < (rd s0_10 a1) then (rd s0_10 a1) else s0_13) = ji5 := hji5
      simp only [Option.some.injEq, Prod.mk.injEq] at H
      obtain ⟨rfl, rfl, rfl, rfl, rfl, rfl, rfl, rfl⟩ := H
      obtain ⟨ASz6_0, cSz6_0, ASz6_1, cSz6_1, ASz6_2, cSz6_2, ASz6_9, cSz6_9, ASz6_10, cSz6_10, ASz6_11, cSz6_11, ASz6_12, cSz6_12, HGz6, hgz6, HSz6_0, HSz6_1, HSz6_2, HSz6_9, HSz6_10, HSz6_11, HSz6_12⟩ := HI0.out
      have hcz6_0 := cellS65_0 HGz6
      have hcz6_1 := cellS65_1 HGz6
      have hcz6_2 := cellS65_2 HGz6
      have hcz6_3 := cellS65_3 HGz6
      have hcz6_4 := cellS65_4 HGz6
      have hcz6_5 := cellS65_5 HGz6
      have hcz6_6 := cellS65_6 HGz6
      have hcz6_7 := cellS65_7 HGz6
      have hcz6_8 := cellS65_8 HGz6
      have hcz6_9 := cellS65_9 HGz6
      have hcz6_10 := cellS65_10 HGz6
      have hcz6_11 := cellS65_11 HGz6
      have hcz6_12 := cellS65_12 HGz6
      have hcz6_13 := cellS65_13 HGz6
      have hfz6_3 := blk_frozen HGz6 3
      have hfz6_4 := blk_frozen HGz6 4
      have hfz6_5 := blk_frozen HGz6 5
      have hfz6_6 := blk_frozen HGz6 6
      have hfz6_7 := blk_frozen HGz6 7
      have hfz6_8 := blk_frozen HGz6 8
      have hfz6_13 := blk_frozen HGz6 13
      clear HGz6 hgz6
      have p160 : 0 ≤ (a1 : Int) := of_decide_eq_true (by first | (with_reducible assumption) | assumption)
      have q160 : a1 < (s0_10.length : Int) := of_decide_eq_true (by first | (with_reducible assumption) | assumption)
      obtain ⟨ad160, e160, hx160_0⟩ := Kd.at_int HSz6_10 a1 p160 q160
      cases e160
      replace hx160_0 := pw_cell_below HB.out hx160_0
      replace p160 := eq_true p160
      replace q160 := eq_true q160
      go_enter Try.func47, Try.ntmps47
      go_wp2
      repeat (go_quiet (fail); try go_wp2)
      go_ret
      exact ⟨by first | rfl | (simp [errW_none, errW_some] <;> rfl) | (simp only [← hji5]; first | rfl | (simp [errW_none, errW_some] <;> rfl)) | (simp [*, errW_none, errW_some] <;> rfl), by repeat (first | (with_reducible first | exact HI0.out | apply IsS65.alloc | apply IsS65.drewN | apply IsS65.drew | apply IsS65.set_3 | apply IsS65.set_4 | apply IsS65.set_5 | apply IsS65.set_6 | apply IsS65.set_7 | apply IsS65.set_8 | apply IsS65.set_13) | exact HI0.out), by repeat (first | (with_reducible first | exact HB.out | apply below_alloc | apply pw_below_drewN | apply below_drew1 | refine below_set ?_ (IsS65.ge HI0.out)) | exact HB.out), by repeat (first | (with_reducible first | exact HK.out | apply KeepBut.set_ | apply keep_drewN | apply keep_drew | apply keep_alloc) | exact HK.out)⟩
    · rw [if_neg c4] at H
      exact absurd H (by simp)
  · rw [if_neg c3] at H
    exact absurd H (by simp)
end Go.Proofs.Ytchlbnlhjllcbaa.F
namespace Go.Proofs.Ytchlbnlhjllcbaa.F
open Go.RowKit Go.Proofs.YtchlbnlhjllcbaaW.PrintWords Go.Proofs.YtchlbnlhjllcbaaW.PrintLast Go.Proofs.YtchlbnlhjllcbaaW.PrintMore
attribute [local go_sem] max2_int min2_int max_two min_two max_three min_three max_four min_four
set_option linter.unusedVariables false
/-- what the jobs due take -/
def slack_view_at.jobs (l0 : List S58) (l1 : List S68) (l2 : List S71) (p3 p4 p5 p6 p7 p8 : Int) (a : Int) : List S38 → Int → Option Int
  | [], n => some n
  | j :: l, n => if j.f2 ≤ a then (job_Quanta.f l0 l1 l2 p3 p4 p5 p6 p7 p8 j.f0 j.f1 j.f2 j.f3 j.f4 j.f5).bind fun q => slack_view_at.jobs l0 l1 l2 p3 p4 p5 p6 p7 p8 a l (wrap64 (n - q)) else slack_view_at.jobs l0 l1 l2 p3 p4 p5 p6 p7 p8 a l n
/-- what the tasks ask for -/
def slack_view_at.tasks (l0 : List S58) (l1 : List S68) (l2 : List S71) (p3 p4 p5 p6 p7 p8 : Int) (a now : Int) (nx : List Int) : List S36 → Int → Int → Option Int
  | [], _, s => some s
  | t :: l, i, s => if 0 < t.f0 then (admit_Part.f l0 l1 l2 p3 p4 p5 p6 p7 p8 t.f0 t.f1 t.f2 t.f3 0).bind fun q => if i < nx.length then (fix_Times.f q (wrap64 (a - mx now (rd nx i)))).bind fun z => slack_view_at.tasks l0 l1 l2 p3 p4 p5 p6 p7 p8 a now nx l (i + 1) (wrap64 (s - z)) else none else slack_view_at.tasks l0 l1 l2 p3 p4 p5 p6 p7 p8 a now nx l (i + 1) s
def slack_view_at.r (l0 : List S58) (l1 : List S68) (l2 : List S71) (p3 p4 p5 p6 p7 p8 : Int) (ts : List S36) (nx : List Int) (js : List S38) (now a : Int) : Option Int :=
  (slack_view_at.jobs l0 l1 l2 p3 p4 p5 p6 p7 p8 a js (wrap64 (wrap64 (a - now) - 0))).bind fun n => (fix_Whole.f n).bind fun s => slack_view_at.tasks l0 l1 l2 p3 p4 p5 p6 p7 p8 a now nx ts 0 s
theorem at_jobs_drop {l0 : List S58} {l1 : List S68} {l2 : List S71} {p3 p4 p5 p6 p7 p8 a : Int} {js : List S38} {i : Int} {n : Int} (h0 : 0 ≤ i) (h1 : i < js.length) :
    slack_view_at.jobs l0 l1 l2 p3 p4 p5 p6 p7 p8 a (js.drop i.toNat) n = if (rd_T38 js i).f2 ≤ a then (job_Quanta.f l0 l1 l2 p3 p4 p5 p6 p7 p8 (rd_T38 js i).f0 (rd_T38 js i).f1 (rd_T38 js i).f2 (rd_T38 js i).f3 (rd_T38 js i).f4 (rd_T38 js i).f5).bind fun q => slack_view_at.jobs l0 l1 l2 p3 p4 p5 p6 p7 p8 a (js.drop (i + 1).toNat) (wrap64 (n - q)) else slack_view_at.jobs l0 l1 l2 p3 p4 p5 p6 p7 p8 a (js.drop (i + 1).toNat) n := by
  have h2 : i.toNat < js.length := by omega
  have e : rd_T38 js i = js[i.toNat] := by unfold rd_T38; rw [List.getD_eq_getElem?_getD, List.getElem?_eq_getElem h2]; rfl
  rw [List.drop_eq_getElem_cons h2, e, show (i + 1).toNat = i.toNat + 1 from by omega]
  rfl
theorem at_tasks_drop {l0 : List S58} {l1 : List S68} {l2 : List S71} {p3 p4 p5 p6 p7 p8 a now : Int} {nx : List Int} {ts : List S36} {i : Int} {s : Int} (h0 : 0 ≤ i) (h1 : i < ts.length) :
    slack_view_at.tasks l0 l1 l2 p3 p4 p5 p6 p7 p8 a now nx (ts.drop i.toNat) i s = if 0 < (rd_T36 ts i).f0 then (admit_Part.f l0 l1 l2 p3 p4 p5 p6 p7 p8 (rd_T36 ts i).f0 (rd_T36 ts i).f1 (rd_T36 ts i).f2 (rd_T36 ts i).f3 0).bind fun q => if i < nx.length then (fix_Times.f q (wrap64 (a - mx now (rd nx i)))).bind fun z => slack_view_at.tasks l0 l1 l2 p3 p4 p5 p6 p7 p8 a now nx (ts.drop (i + 1).toNat) (i + 1) (wrap64 (s - z)) else none else slack_view_at.tasks l0 l1 l2 p3 p4 p5 p6 p7 p8 a now nx (ts.drop (i + 1).toNat) (i + 1) s := by
  have h2 : i.toNat < ts.length := by omega
  have e : rd_T36 ts i = ts[i.toNat] := by unfold rd_T36; rw [List.getD_eq_getElem?_getD, List.getElem?_eq_getElem h2]; rfl
  rw [List.drop_eq_getElem_cons h2, e, show (i + 1).toNat = i.toNat + 1 from by omega]
  rfl
theorem at_from {g : Nat} {w : World} (A0 : Option Addr) (c0 : Nat) (l0 : List S58) (A1 : Option Addr) (c1 : Nat) (l1 : List S68) (A2 : Option Addr) (c2 : Nat) (l2 : List S71) (p3 p4 p5 p6 p7 p8 : Int) (A9 : Option Addr) (c9 : Nat) (ts : List S36) (A10 : Option Addr) (c10 : Nat) (nx : List Int) (A11 : Option Addr) (c11 : Nat) (js : List S38) (A12 : Option Addr) (c12 : Nat) (now : Int) (hb : w.heap[g]? = some (.cells #[.slice A0 l0.length c0, .slice A1 l1.length c1, .slice A2 l2.length c2, .int .i64 p3, .int .i64 p4, .int .i64 p5, .int .i64 p6, .int .i64 p7, .int .i64 p8, .slice A9 ts.length c9, .slice A10 nx.length c10, .slice A11 js.length c11, .slice A12 0 c12, .int .i64 now] 65 (0, 0))) (hr : Kd.C (Kd.int .i64) w A10 nx.length nx) (i : Int) (h0 : 0 ≤ i) (h1 : i < nx.length) :
    Calls Try.prog 47 #[.pointer (some ⟨g, 0, none⟩), .int .i64 i] w fun e w' => e = .returned (.int .i64 (mx now (rd nx i))) ∧ Below w.heap.size w w' := by
  obtain ⟨ad, e, hx⟩ := Kd.at_int hr i h0 h1
  cases e
  have x10_ : w.cell? ⟨g, 10, none⟩ = some (.slice (some ad) nx.length c10) := (blk_cell hb 10).trans rfl
  have x13_ : w.cell? ⟨g, 13, none⟩ = some (.int .i64 now) := (blk_cell hb 13).trans rfl
  have HB := Aside0.mk (Below.refl w.heap.size w)
  obtain ⟨j_, hj⟩ : ∃ j_ : Int, mx now (rd nx i) = j_ := ⟨_, rfl⟩
  have hj' : (if now < rd nx i then rd nx i else now) = j_ := hj
  rw [hj]
  have p_ := eq_true h0
  have q_ := eq_true h1
  have c1b : decide (0 ≤ i) = true := decide_eq_true h0
  have c2b : decide (i < (nx.length : Int)) = true := decide_eq_true h1
  clear hb hr h0 h1
  go_enter Try.func47, Try.ntmps47
  go_wp2
  repeat (go_quiet (fail); try go_wp2)
  go_ret
  exact ⟨by first | rfl | simp [*], by repeat (first | (with_reducible first | exact HB.out | apply below_alloc | apply pw_below_drewN | apply below_drew1) | exact HB.out)⟩
theorem at_hinders {g : Nat} {w : World} (A0 : Option Addr) (c0 : Nat) (l0 : List S58) (A1 : Option Addr) (c1 : Nat) (l1 : List S68) (A2 : Option Addr) (c2 : Nat) (l2 : List S71) (p3 p4 p5 p6 p7 p8 : Int) (A9 : Option Addr) (c9 : Nat) (ts : List S36) (A10 : Option Addr) (c10 : Nat) (nx : List Int) (A11 : Option Addr) (c11 : Nat) (js : List S38) (A12 : Option Addr) (c12 : Nat) (now : Int) (hb : w.heap[g]? = some (.cells #[.slice A0 l0.length c0, .slice A1 l1.length c1, .slice A2 l2.length c2, .int .i64 p3, .int .i64 p4, .int .i64 p5, .int .i64 p6, .int .i64 p7, .int .i64 p8, .slice A9 ts.length c9, .slice A10 nx.length c10, .slice A11 js.length c11, .slice A12 0 c12, .int .i64 now] 65 (0, 0))) (a : Int) :
    Calls Try.prog 42 #[.pointer (some ⟨g, 0, none⟩), .int .i64 a] w fun e w' => e = .returned (.int .i64 0) ∧ Below w.heap.size w w' := by
  have x12_ : w.cell? ⟨g, 12, none⟩ = some (.slice A12 0 c12) := (blk_cell hb 12).trans rfl
  have HB := Aside0.mk (Below.refl w.heap.size w)
  clear hb
  go_enter Try.func42, Try.ntmps42
  go_wp2
  go_loopw [5, 15] (fun v5 v15 wr => v5 = .int .i64 0 ∧ v15 = .int .i64 0 ∧ Aside0 (Below w.heap.size w wr)) (fun v15 _ _ => 0)
  case atStart => exact ⟨by first | rfl | simp, by first | rfl | simp, ⟨HB.out⟩⟩
  case round =>
    obtain ⟨rfl, rfl, HW⟩ := hrel
    go_wp2
    go_ret
    exact ⟨rfl, HW.out⟩
theorem wr_ (n : Int) : IntKind.i64.wrap n = wrap64 n := by first | rfl | (unfold wrap64 IntKind.wrap; rfl) | (simp [IntKind.wrap, wrap64, IntKind.bits, IntKind.signed]; done) | (unfold wrap64; simp [IntKind.wrap, IntKind.bits, IntKind.signed]; omega)
theorem below_undrew {w w2 : World} (h : Below w.drew.heap.size w.drew w2) : Below w.heap.size w w2 := ⟨h.os, h.tape, h.output, h.size, h.block⟩
set_option maxHeartbeats 8000000 in
set_option maxRecDepth 100000 in
theorem at_walk {g : Nat} {w : World} (A0 : Option Addr) (c0 : Nat) (l0 : List S58) (A1 : Option Addr) (c1 : Nat) (l1 : List S68) (A2 : Option Addr) (c2 : Nat) (l2 : List S71) (p3 p4 p5 p6 p7 p8 : Int) (A9 : Option Addr) (c9 : Nat) (ts : List S36) (A10 : Option Addr) (c10 : Nat) (nx : List Int) (A11 : Option Addr) (c11 : Nat) (js : List S38) (A12 : Option Addr) (c12 : Nat) (now : Int) (hb : w.heap[g]? = some (.cells #[.slice A0 l0.length c0, .slice A1 l1.length c1, .slice A2 l2.length c2, .int .i64 p3, .int .i64 p4, .int .i64 p5, .int .i64 p6, .int .i64 p7, .int .i64 p8, .slice A9 ts.length c9, .slice A10 nx.length c10, .slice A11 js.length c11, .slice A12 0 c12, .int .i64 now] 65 (0, 0))) (hc0 : l0.length ≤ c0) (hr0 : Kd.C k58 w A0 l0.length l0) (hc1 : l1.length ≤ c1) (hr1 : Kd.C k68 w A1 l1.length l1) (hc2 : l2.length ≤ c2) (hr2 : Kd.C k71 w A2 l2.length l2) (hr9 : Kd.C k36 w A9 ts.length ts) (hr10 : Kd.C (Kd.int .i64) w A10 nx.length nx) (hr11 : Kd.C k38 w A11 js.length js) (a r : Int) (h : slack_view_at.r l0 l1 l2 p3 p4 p5 p6 p7 p8 ts nx js now a = some r) :
    Calls Try.prog 32 #[.pointer (some ⟨g, 0, none⟩), .int .i64 a] w fun e w' => e = .returned (.int .i64 r) ∧ Below w.heap.size w w' := by
  have hu26 := Try.underlying26
  have hu36 := Try.underlying36
  have hu38 := Try.underlying38
  have gw : g < w.heap.size := by
    rcases Nat.lt_or_ge g w.heap.size with x | x
    · exact x
    · rw [Array.getElem?_eq_none x] at hb; cases hb
  have HR0 := Aside0.mk hr0
  have HR1 := Aside0.mk hr1
  have HR2 := Aside0.mk hr2
  have HR9 := Aside0.mk hr9
  have HR10 := Aside0.mk hr10
  have HR11 := Aside0.mk hr11
  have HC0 := Aside0.mk hc0
  have HC1 := Aside0.mk hc1
  have HC2 := Aside0.mk hc2
  have BK := Aside0.mk hb
  have GW := Aside0.mk gw
  have lj := hr11.2.1
  have lt := hr9.2.1
  unfold maxLen at lj lt
  have HB := Aside0.mk (Below.refl w.heap.size w)
  unfold slack_view_at.r at h
  obtain ⟨n1, hn1, h'⟩ := Option.bind_eq_some_iff.mp h
  obtain ⟨s1, hs1, h2⟩ := Option.bind_eq_some_iff.mp h'
  have HN := Aside0.mk hn1
  have HS := Aside0.mk hs1
  have HT := Aside0.mk h2
  clear hr0 hr1 hr2 hr9 hr10 hr11 hc0 hc1 hc2 hb gw h h' h2 hn1 hs1
  go_enter Try.func32, Try.ntmps32
  go_wp2_with fail
  have x13_ : w.cell? ⟨g, 13, none⟩ = some (.int .i64 now) := (blk_cell BK.out 13).trans rfl
  go_region_held3 (fun w' => w'.cell? ⟨g, 13, none⟩ = some (.int .i64 now)) (first | exact x13_)
    (first | (go_at_call 42; (with_reducible refine Calls.mono (at_hinders A0 c0 l0 A1 c1 l1 A2 c2 l2 p3 p4 p5 p6 p7 p8 A9 c9 ts A10 c10 nx A11 c11 js A12 c12 now ?s1 a) ?_); (case s1 => first | exact BK.out | exact blk_drew BK.out); rintro e w1 ⟨rfl, hb⟩; replace hb := below_undrew hb; replace HB : Aside0 (Below w.heap.size w w1) := ⟨hb⟩; replace BK : Aside0 (w1.heap[g]? = some (.cells #[.slice A0 l0.length c0, .slice A1 l1.length c1, .slice A2 l2.length c2, .int .i64 p3, .int .i64 p4, .int .i64 p5, .int .i64 p6, .int .i64 p7, .int .i64 p8, .slice A9 ts.length c9, .slice A10 nx.length c10, .slice A11 js.length c11, .slice A12 0 c12, .int .i64 now] 65 (0, 0))) := ⟨blk_below BK.out hb⟩; clear hb x13_; have x13_ : w1.cell? ⟨g, 13, none⟩ = some (.int .i64 now) := (blk_cell BK.out 13).trans rfl))
  clear x13_
  have x11_ : w1.cell? ⟨g, 11, none⟩ = some (.slice A11 js.length c11) := (blk_cell BK.out 11).trans rfl
  go_wp2_with fail
  go_loopw [5, 26] (fun v5 v26 wr => ∃ n i : Int, v5 = .int .i64 n ∧ v26 = .int .i64 i ∧ 0 ≤ i ∧ i ≤ js.length ∧ Aside0 (slack_view_at.jobs l0 l1 l2 p3 p4 p5 p6 p7 p8 a (js.drop i.toNat) n = some n1) ∧ Aside0 (wr.heap[g]? = some (.cells #[.slice A0 l0.length c0, .slice A1 l1.length c1, .slice A2 l2.length c2, .int .i64 p3, .int .i64 p4, .int .i64 p5, .int .i64 p6, .int .i64 p7, .int .i64 p8, .slice A9 ts.length c9, .slice A10 nx.length c10, .slice A11 js.length c11, .slice A12 0 c12, .int .i64 now] 65 (0, 0))) ∧ Aside0 (Below w.heap.size w wr)) (fun _ v26 _ => js.length - (intOf v26).toNat)
  case atStart => exact ⟨wrap64 (wrap64 (a - now) - 0), 0, by first | rfl | (simp [wr_]; done), by first | rfl | simp, by omega, by omega, HN, BK, HB⟩
  case round =>
    clear HN BK HB x11_
    obtain ⟨n, i, rfl, rfl, h0, h1, HN, BK, HB⟩ := hrel
    by_cases lt1 : i < (js.length : Int)
    · have d1 : decide (i < (js.length : Int)) = true := decide_eq_true lt1
      obtain ⟨ad, e, y0, y1, y2, y3, y4, y5⟩ := at_T38 HR11.out i h0 lt1
      cases e
      replace y0 := pw_cell_below HB.out y0
      replace y1 := pw_cell_below HB.out y1
      replace y2 := pw_cell_below HB.out y2
      replace y3 := pw_cell_below HB.out y3
      replace y4 := pw_cell_below HB.out y4
      replace y5 := pw_cell_below HB.out y5
      have hN := HN.out
      rw [at_jobs_drop h0 lt1] at hN
      clear HN
      have hw1 : IntKind.i64.wrap (i + 1) = i + 1 := IntWalk.i64_in _ (by omega)
      have p_ := eq_true h0
      have q_ := eq_true lt1
      by_cases due : (rd_T38 js i).f2 ≤ a
      · rw [if_pos due] at hN
        obtain ⟨q, hq, hN⟩ := Option.bind_eq_some_iff.mp hN
        have HQ := Aside0.mk hq
        have HN := Aside0.mk hN
        have d2 : decide ((rd_T38 js i).f2 ≤ a) = true := decide_eq_true due
        clear hq due
        go_wp2_with fail
        generalize hwq : wr.alloc (.cells #[(.int .i64 (rd_T38 js i).f0), (.int .i64 (rd_T38 js i).f1), (.int .i64 (rd_T38 js i).f2), (.int .i64 (rd_T38 js i).f3), (.int .i64 (rd_T38 js i).f4), (.bool (rd_T38 js i).f5)] 38 (0, 0)) = wq
        obtain ⟨gb, hgb⟩ : ∃ gb, wr.heap.size = gb := ⟨_, rfl⟩
        have hb : Below wr.heap.size wr wq := by rw [← hwq]; exact (Below.refl _ _).alloc (Nat.le_refl _) _
        have BJ : Aside0 (wq.heap[gb]? = some (.cells #[(.int .i64 (rd_T38 js i).f0), (.int .i64 (rd_T38 js i).f1), (.int .i64 (rd_T38 js i).f2), (.int .i64 (rd_T38 js i).f3), (.int .i64 (rd_T38 js i).f4), (.bool (rd_T38 js i).f5)] 38 (0, 0))) := ⟨by rw [← hwq, ← hgb]; exact heap_alloc_new wr _⟩
        replace BK : Aside0 (wq.heap[g]? = some (.cells #[.slice A0 l0.length c0, .slice A1 l1.length c1, .slice A2 l2.length c2, .int .i64 p3, .int .i64 p4, .int .i64 p5, .int .i64 p6, .int .i64 p7, .int .i64 p8, .slice A9 ts.length c9, .slice A10 nx.length c10, .slice (some ad) js.length c11, .slice A12 0 c12, .int .i64 now] 65 (0, 0))) := ⟨blk_below BK.out hb⟩
        replace HB : Aside0 (Below w.heap.size w wq) := ⟨below_step HB.out hb⟩
        try rw [hgb]
        clear hwq hb y0 y1 y2 y3 y4 y5
        have y2_ : wq.cell? ⟨gb, 2, none⟩ = some (.int .i64 (rd_T38 js i).f2) := (blk_cell BJ.out 2).trans rfl
        go_wp2_with fail
        clear y2_
        have x0_ : wq.cell? ⟨g, 0, none⟩ = some (.slice A0 l0.length c0) := (blk_cell BK.out 0).trans rfl
        have x1_ : wq.cell? ⟨g, 1, none⟩ = some (.slice A1 l1.length c1) := (blk_cell BK.out 1).trans rfl
        have x2_ : wq.cell? ⟨g, 2, none⟩ = some (.slice A2 l2.length c2) := (blk_cell BK.out 2).trans rfl
        have x3_ : wq.cell? ⟨g, 3, none⟩ = some (.int .i64 p3) := (blk_cell BK.out 3).trans rfl
        have x4_ : wq.cell? ⟨g, 4, none⟩ = some (.int .i64 p4) := (blk_cell BK.out 4).trans rfl
        have x5_ : wq.cell? ⟨g, 5, none⟩ = some (.int .i64 p5) := (blk_cell BK.out 5).trans rfl
        have x6_ : wq.cell? ⟨g, 6, none⟩ = some (.int .i64 p6) := (blk_cell BK.out 6).trans rfl
        have x7_ : wq.cell? ⟨g, 7, none⟩ = some (.int .i64 p7) := (blk_cell BK.out 7).trans rfl
        have x8_ : wq.cell? ⟨g, 8, none⟩ = some (.int .i64 p8) := (blk_cell BK.out 8).trans rfl
        have y0_ : wq.cell? ⟨gb, 0, none⟩ = some (.int .i64 (rd_T38 js i).f0) := (blk_cell BJ.out 0).trans rfl
        have y1_ : wq.cell? ⟨gb, 1, none⟩ = some (.int .i64 (rd_T38 js i).f1) := (blk_cell BJ.out 1).trans rfl
        have y2_ : wq.cell? ⟨gb, 2, none⟩ = some (.int .i64 (rd_T38 js i).f2) := (blk_cell BJ.out 2).trans rfl
        have y3_ : wq.cell? ⟨gb, 3, none⟩ = some (.int .i64 (rd_T38 js i).f3) := (blk_cell BJ.out 3).trans rfl
        have y4_ : wq.cell? ⟨gb, 4, none⟩ = some (.int .i64 (rd_T38 js i).f4) := (blk_cell BJ.out 4).trans rfl
        have y5_ : wq.cell? ⟨gb, 5, none⟩ = some (.bool (rd_T38 js i).f5) := (blk_cell BJ.out 5).trans rfl
        go_region_held3 (fun w' => w'.cell? ⟨g, 0, none⟩ = some (.slice A0 l0.length c0) ∧ w'.cell? ⟨g, 1, none⟩ = some (.slice A1 l1.length c1) ∧ w'.cell? ⟨g, 2, none⟩ = some (.slice A2 l2.length c2) ∧ w'.cell? ⟨g, 3, none⟩ = some (.int .i64 p3) ∧ w'.cell? ⟨g, 4, none⟩ = some (.int .i64 p4) ∧ w'.cell? ⟨g, 5, none⟩ = some (.int .i64 p5) ∧ w'.cell? ⟨g, 6, none⟩ = some (.int .i64 p6) ∧ w'.cell? ⟨g, 7, none⟩ = some (.int .i64 p7) ∧ w'.cell? ⟨g, 8, none⟩ = some (.int .i64 p8) ∧ w'.cell? ⟨gb, 0, none⟩ = some (.int .i64 (rd_T38 js i).f0) ∧ w'.cell? ⟨gb, 1, none⟩ = some (.int .i64 (rd_T38 js i).f1) ∧ w'.cell? ⟨gb, 2, none⟩ = some (.int .i64 (rd_T38 js i).f2) ∧ w'.cell? ⟨gb, 3, none⟩ = some (.int .i64 (rd_T38 js i).f3) ∧ w'.cell? ⟨gb, 4, none⟩ = some (.int .i64 (rd_T38 js i).f4) ∧ w'.cell? ⟨gb, 5, none⟩ = some (.bool (rd_T38 js i).f5)) (first | exact ⟨x0_, x1_, x2_, x3_, x4_, x5_, x6_, x7_, x8_, y0_, y1_, y2_, y3_, y4_, y5_⟩)
          (first | (go_at_call 43; (with_reducible refine Calls.mono (job_Quanta.calls A0 c0 l0 A1 c1 l1 A2 c2 l2 p3 p4 p5 p6 p7 p8 _ _ _ _ _ _ q _ ?s1 HC0.out ?s2 HC1.out ?s3 HC2.out HQ.out) ?_); (case s1 => first | exact Kd.C_below HR0.out HB.out | exact Kd.C_drew (Kd.C_below HR0.out HB.out)); (case s2 => first | exact Kd.C_below HR1.out HB.out | exact Kd.C_drew (Kd.C_below HR1.out HB.out)); (case s3 => first | exact Kd.C_below HR2.out HB.out | exact Kd.C_drew (Kd.C_below HR2.out HB.out)); rintro e w3 ⟨rfl, hb⟩; replace hb := below_undrew hb; replace BK : Aside0 (w3.heap[g]? = some (.cells #[.slice A0 l0.length c0, .slice A1 l1.length c1, .slice A2 l2.length c2, .int .i64 p3, .int .i64 p4, .int .i64 p5, .int .i64 p6, .int .i64 p7, .int .i64 p8, .slice A9 ts.length c9, .slice A10 nx.length c10, .slice (some ad) js.length c11, .slice A12 0 c12, .int .i64 now] 65 (0, 0))) := ⟨blk_below BK.out hb⟩; replace BJ : Aside0 (w3.heap[gb]? = some (.cells #[(.int .i64 (rd_T38 js i).f0), (.int .i64 (rd_T38 js i).f1), (.int .i64 (rd_T38 js i).f2), (.int .i64 (rd_T38 js i).f3), (.int .i64 (rd_T38 js i).f4), (.bool (rd_T38 js i).f5)] 38 (0, 0))) := ⟨blk_below BJ.out hb⟩; replace HB : Aside0 (Below w.heap.size w w3) := ⟨below_step HB.out hb⟩; clear hb x0_ x1_ x2_ x3_ x4_ x5_ x6_ x7_ x8_ y0_ y1_ y2_ y3_ y4_ y5_; have x0_ : w3.cell? ⟨g, 0, none⟩ = some (.slice A0 l0.length c0) := (blk_cell BK.out 0).trans rfl; have x1_ : w3.cell? ⟨g, 1, none⟩ = some (.slice A1 l1.length c1) := (blk_cell BK.out 1).trans rfl; have x2_ : w3.cell? ⟨g, 2, none⟩ = some (.slice A2 l2.length c2) := (blk_cell BK.out 2).trans rfl; have x3_ : w3.cell? ⟨g, 3, none⟩ = some (.int .i64 p3) := (blk_cell BK.out 3).trans rfl; have x4_ : w3.cell? ⟨g, 4, none⟩ = some (.int .i64 p4) := (blk_cell BK.out 4).trans rfl; have x5_ : w3.cell? ⟨g, 5, none⟩ = some (.int .i64 p5) := (blk_cell BK.out 5).trans rfl; have x6_ : w3.cell? ⟨g, 6, none⟩ = some (.int .i64 p6) := (blk_cell BK.out 6).trans rfl; have x7_ : w3.cell? ⟨g, 7, none⟩ = some (.int .i64 p7) := (blk_cell BK.out 7).trans rfl; have x8_ : w3.cell? ⟨g, 8, none⟩ = some (.int .i64 p8) := (blk_cell BK.out 8).trans rfl; have y0_ : w3.cell? ⟨gb, 0, none⟩ = some (.int .i64 (rd_T38 js i).f0) := (blk_cell BJ.out 0).trans rfl; have y1_ : w3.cell? ⟨gb, 1, none⟩ = some (.int .i64 (rd_T38 js i).f1) := (blk_cell BJ.out 1).trans rfl; have y2_ : w3.cell? ⟨gb, 2, none⟩ = some (.int .i64 (rd_T38 js i).f2) := (blk_cell BJ.out 2).trans rfl; have y3_ : w3.cell? ⟨gb, 3, none⟩ = some (.int .i64 (rd_T38 js i).f3) := (blk_cell BJ.out 3).trans rfl; have y4_ : w3.cell? ⟨gb, 4, none⟩ = some (.int .i64 (rd_T38 js i).f4) := (blk_cell BJ.out 4).trans rfl; have y5_ : w3.cell? ⟨gb, 5, none⟩ = some (.bool (rd_T38 js i).f5) := (blk_cell BJ.out 5).trans rfl))
        go_wp2_with fail
        go_roundw
        case rel => exact ⟨wrap64 (n - q), i + 1, by first | rfl | exact congrArg _ (wr_ _), by first | rfl | simp [hw1], by omega, by omega, HN, BK, HB⟩
        case measure => simp [intOf]; omega
      · rw [if_neg due] at hN
        have HN := Aside0.mk hN
        have d2 : decide ((rd_T38 js i).f2 ≤ a) = false := decide_eq_false due
        clear due
        go_wp2_with fail
        generalize hwq : wr.alloc (.cells #[(.int .i64 (rd_T38 js i).f0), (.int .i64 (rd_T38 js i).f1), (.int .i64 (rd_T38 js i).f2), (.int .i64 (rd_T38 js i).f3), (.int .i64 (rd_T38 js i).f4), (.bool (rd_T38 js i).f5)] 38 (0, 0)) = wq
        obtain ⟨gb, hgb⟩ : ∃ gb, wr.heap.size = gb := ⟨_, rfl⟩
        have hb : Below wr.heap.size wr wq := by rw [← hwq]; exact (Below.refl _ _).alloc (Nat.le_refl _) _
        have BJ : Aside0 (wq.heap[gb]? = some (.cells #[(.int .i64 (rd_T38 js i).f0), (.int .i64 (rd_T38 js i).f1), (.int .i64 (rd_T38 js i).f2), (.int .i64 (rd_T38 js i).f3), (.int .i64 (rd_T38 js i).f4), (.bool (rd_T38 js i).f5)] 38 (0, 0))) := ⟨by rw [← hwq, ← hgb]; exact heap_alloc_new wr _⟩
        replace BK : Aside0 (wq.heap[g]? = some (.cells #[.slice A0 l0.length c0, .slice A1 l1.length c1, .slice A2 l2.length c2, .int .i64 p3, .int .i64 p4, .int .i64 p5, .int .i64 p6, .int .i64 p7, .int .i64 p8, .slice A9 ts.length c9, .slice A10 nx.length c10, .slice (some ad) js.length c11, .slice A12 0 c12, .int .i64 now] 65 (0, 0))) := ⟨blk_below BK.out hb⟩
        replace HB : Aside0 (Below w.heap.size w wq) := ⟨below_step HB.out hb⟩
        try rw [hgb]
        clear hwq hb y0 y1 y2 y3 y4 y5
        have y2_ : wq.cell? ⟨gb, 2, none⟩ = some (.int .i64 (rd_T38 js i).f2) := (blk_cell BJ.out 2).trans rfl
        try go_wp2_with fail
        go_roundw
        case rel => exact ⟨n, i + 1, by first | rfl | exact congrArg _ (wr_ _), by first | rfl | simp [hw1], by omega, by omega, HN, BK, HB⟩
        case measure => simp [intOf]; omega
    · have d1 : decide (i < (js.length : Int)) = false := decide_eq_false lt1
      have ei : i = js.length := by omega
      have hn : n = n1 := by
        have := HN.out
        rw [List.drop_eq_nil_of_le (by omega)] at this
        exact Option.some.inj this
      subst hn
      clear ei HN
      have x9_ : wr.cell? ⟨g, 9, none⟩ = some (.slice A9 ts.length c9) := (blk_cell BK.out 9).trans rfl
      go_wp2_with (first | (go_at_call 44; (with_reducible refine Calls.mono (fix_Whole.calls n s1 _ HS.out) ?_); rintro e w2 ⟨rfl, hb⟩; replace BK : Aside0 (w2.heap[g]? = some (.cells #[.slice A0 l0.length c0, .slice A1 l1.length c1, .slice A2 l2.length c2, .int .i64 p3, .int .i64 p4, .int .i64 p5, .int .i64 p6, .int .i64 p7, .int .i64 p8, .slice A9 ts.length c9, .slice A10 nx.length c10, .slice A11 js.length c11, .slice A12 0 c12, .int .i64 now] 65 (0, 0))) := ⟨blk_below BK.out hb⟩; replace HB : Aside0 (Below w.heap.size w w2) := ⟨below_step HB.out hb⟩; clear hb x9_; have x9_ : w2.cell? ⟨g, 9, none⟩ = some (.slice A9 ts.length c9) := (blk_cell BK.out 9).trans rfl))
      go_loopw [8, 50] (fun v8 v50 wr => ∃ s i : Int, v8 = .int .i64 s ∧ v50 = .int .i64 i ∧ 0 ≤ i ∧ i ≤ ts.length ∧ Aside0 (slack_view_at.tasks l0 l1 l2 p3 p4 p5 p6 p7 p8 a now nx (ts.drop i.toNat) i s = some r) ∧ Aside0 (wr.heap[g]? = some (.cells #[.slice A0 l0.length c0, .slice A1 l1.length c1, .slice A2 l2.length c2, .int .i64 p3, .int .i64 p4, .int .i64 p5, .int .i64 p6, .int .i64 p7, .int .i64 p8, .slice A9 ts.length c9, .slice A10 nx.length c10, .slice A11 js.length c11, .slice A12 0 c12, .int .i64 now] 65 (0, 0))) ∧ Aside0 (Below w.heap.size w wr)) (fun _ v50 _ => ts.length - (intOf v50).toNat)
      case atStart => exact ⟨s1, 0, by first | rfl | simp, by first | rfl | simp, by omega, by omega, HT, BK, HB⟩
      case round =>
        clear HT BK HB x9_ d1
        obtain ⟨s, i, rfl, rfl, h0, h1, HT, BK, HB⟩ := hrel
        by_cases lt1 : i < (ts.length : Int)
        · have d1 : decide (i < (ts.length : Int)) = true := decide_eq_true lt1
          obtain ⟨ad, B2, d2, B3, d3, e, y0, y1, y2, y3, hl2, hi2, hl3, hi3⟩ := at_T36 HR9.out i h0 lt1
          cases e
          have hT := HT.out
          rw [at_tasks_drop h0 lt1] at hT
          clear HT
          generalize rd_T36 ts i = t at *
          replace y0 := pw_cell_below HB.out y0
          replace y1 := pw_cell_below HB.out y1
          replace y2 := pw_cell_below HB.out y2
          replace y3 := pw_cell_below HB.out y3
          have HR12 := Aside0.mk hi2
          have HR13 := Aside0.mk hi3
          have HC12 := Aside0.mk hl2
          have HC13 := Aside0.mk hl3
          have hw1 : IntKind.i64.wrap (i + 1) = i + 1 := IntWalk.i64_in _ (by omega)
          have p_ := eq_true h0
          have q_ := eq_true lt1
          clear hi2 hi3 hl2 hl3
          by_cases due : 0 < t.f0
          · rw [if_pos due] at hT
            obtain ⟨q, hq, hT⟩ := Option.bind_eq_some_iff.mp hT
            by_cases lx : i < (nx.length : Int)
            · rw [if_pos lx] at hT
              obtain ⟨z, hz, hT⟩ := Option.bind_eq_some_iff.mp hT
              have HQ := Aside0.mk hq
              have HZ : Aside0 (fix_Times.f q (IntKind.i64.wrap (a - mx now (rd nx i))) = some z) := ⟨by rw [wr_]; exact hz⟩
              have HT := Aside0.mk hT
              have HX := Aside0.mk lx
              have HI := Aside0.mk h0
              have dd : decide (0 < t.f0) = true := decide_eq_true due
              clear hq hz due lx
              go_wp2_with fail
              generalize hwq : wr.alloc (.cells #[(.int .i64 t.f0), (.int .i64 t.f1), (.slice B2 t.f2.length d2), (.slice B3 t.f3.length d3)] 36 (0, 0)) = wq
              obtain ⟨gb, hgb⟩ : ∃ gb, wr.heap.size = gb := ⟨_, rfl⟩
              have hb : Below wr.heap.size wr wq := by rw [← hwq]; exact (Below.refl _ _).alloc (Nat.le_refl _) _
              have BJ : Aside0 (wq.heap[gb]? = some (.cells #[(.int .i64 t.f0), (.int .i64 t.f1), (.slice B2 t.f2.length d2), (.slice B3 t.f3.length d3)] 36 (0, 0))) := ⟨by rw [← hwq, ← hgb]; exact heap_alloc_new wr _⟩
              replace BK : Aside0 (wq.heap[g]? = some (.cells #[.slice A0 l0.length c0, .slice A1 l1.length c1, .slice A2 l2.length c2, .int .i64 p3, .int .i64 p4, .int .i64 p5, .int .i64 p6, .int .i64 p7, .int .i64 p8, .slice (some ad) ts.length c9, .slice A10 nx.length c10, .slice A11 js.length c11, .slice A12 0 c12, .int .i64 now] 65 (0, 0))) := ⟨blk_below BK.out hb⟩
              replace HB : Aside0 (Below w.heap.size w wq) := ⟨below_step HB.out hb⟩
              try rw [hgb]
              clear hwq hb y0 y1 y2 y3
              have y0_ : wq.cell? ⟨gb, 0, none⟩ = some (.int .i64 t.f0) := (blk_cell BJ.out 0).trans rfl
              go_wp2_with fail
              clear y0_
              have x0_ : wq.cell? ⟨g, 0, none⟩ = some (.slice A0 l0.length c0) := (blk_cell BK.out 0).trans rfl
              have x1_ : wq.cell? ⟨g, 1, none⟩ = some (.slice A1 l1.length c1) := (blk_cell BK.out 1).trans rfl
              have x2_ : wq.cell? ⟨g, 2, none⟩ = some (.slice A2 l2.length c2) := (blk_cell BK.out 2).trans rfl
              have x3_ : wq.cell? ⟨g, 3, none⟩ = some (.int .i64 p3) := (blk_cell BK.out 3).trans rfl
              have x4_ : wq.cell? ⟨g, 4, none⟩ = some (.int .i64 p4) := (blk_cell BK.out 4).trans rfl
              have x5_ : wq.cell? ⟨g, 5, none⟩ = some (.int .i64 p5) := (blk_cell BK.out 5).trans rfl
              have x6_ : wq.cell? ⟨g, 6, none⟩ = some (.int .i64 p6) := (blk_cell BK.out 6).trans rfl
              have x7_ : wq.cell? ⟨g, 7, none⟩ = some (.int .i64 p7) := (blk_cell BK.out 7).trans rfl
              have x8_ : wq.cell? ⟨g, 8, none⟩ = some (.int .i64 p8) := (blk_cell BK.out 8).trans rfl
              have y0_ : wq.cell? ⟨gb, 0, none⟩ = some (.int .i64 t.f0) := (blk_cell BJ.out 0).trans rfl
              have y1_ : wq.cell? ⟨gb, 1, none⟩ = some (.int .i64 t.f1) := (blk_cell BJ.out 1).trans rfl
              have y2_ : wq.cell? ⟨gb, 2, none⟩ = some (.slice B2 t.f2.length d2) := (blk_cell BJ.out 2).trans rfl
              have y3_ : wq.cell? ⟨gb, 3, none⟩ = some (.slice B3 t.f3.length d3) := (blk_cell BJ.out 3).trans rfl
              go_region_held3 (fun w' => w'.cell? ⟨g, 0, none⟩ = some (.slice A0 l0.length c0) ∧ w'.cell? ⟨g, 1, none⟩ = some (.slice A1 l1.length c1) ∧ w'.cell? ⟨g, 2, none⟩ = some (.slice A2 l2.length c2) ∧ w'.cell? ⟨g, 3, none⟩ = some (.int .i64 p3) ∧ w'.cell? ⟨g, 4, none⟩ = some (.int .i64 p4) ∧ w'.cell? ⟨g, 5, none⟩ = some (.int .i64 p5) ∧ w'.cell? ⟨g, 6, none⟩ = some (.int .i64 p6) ∧ w'.cell? ⟨g, 7, none⟩ = some (.int .i64 p7) ∧ w'.cell? ⟨g, 8, none⟩ = some (.int .i64 p8) ∧ w'.cell? ⟨gb, 0, none⟩ = some (.int .i64 t.f0) ∧ w'.cell? ⟨gb, 1, none⟩ = some (.int .i64 t.f1) ∧ w'.cell? ⟨gb, 2, none⟩ = some (.slice B2 t.f2.length d2) ∧ w'.cell? ⟨gb, 3, none⟩ = some (.slice B3 t.f3.length d3)) (first | exact ⟨x0_, x1_, x2_, x3_, x4_, x5_, x6_, x7_, x8_, y0_, y1_, y2_, y3_⟩)
                (first
                  | (go_at_call 46; (with_reducible refine Calls.mono (admit_Part.calls A0 c0 l0 A1 c1 l1 A2 c2 l2 p3 p4 p5 p6 p7 p8 _ _ B2 d2 _ B3 d3 _ 0 q _ ?s1 HC0.out ?s2 HC1.out ?s3 HC2.out ?s4 HC12.out ?s5 HC13.out HQ.out) ?_); (case s1 => first | exact Kd.C_below HR0.out HB.out | exact Kd.C_drew (Kd.C_below HR0.out HB.out)); (case s2 => first | exact Kd.C_below HR1.out HB.out | exact Kd.C_drew (Kd.C_below HR1.out HB.out)); (case s3 => first | exact Kd.C_below HR2.out HB.out | exact Kd.C_drew (Kd.C_below HR2.out HB.out)); (case s4 => first | exact Kd.C_below HR12.out HB.out | exact Kd.C_drew (Kd.C_below HR12.out HB.out)); (case s5 => first | exact Kd.C_below HR13.out HB.out | exact Kd.C_drew (Kd.C_below HR13.out HB.out)); rintro e w3 ⟨rfl, hb⟩; replace hb := below_undrew hb; replace BK : Aside0 (w3.heap[g]? = some (.cells #[.slice A0 l0.length c0, .slice A1 l1.length c1, .slice A2 l2.length c2, .int .i64 p3, .int .i64 p4, .int .i64 p5, .int .i64 p6, .int .i64 p7, .int .i64 p8, .slice (some ad) ts.length c9, .slice A10 nx.length c10, .slice A11 js.length c11, .slice A12 0 c12, .int .i64 now] 65 (0, 0))) := ⟨blk_below BK.out hb⟩; replace BJ : Aside0 (w3.heap[gb]? = some (.cells #[(.int .i64 t.f0), (.int .i64 t.f1), (.slice B2 t.f2.length d2), (.slice B3 t.f3.length d3)] 36 (0, 0))) := ⟨blk_below BJ.out hb⟩; replace HB : Aside0 (Below w.heap.size w w3) := ⟨below_step HB.out hb⟩; clear hb x0_ x1_ x2_ x3_ x4_ x5_ x6_ x7_ x8_ y0_ y1_ y2_ y3_; have x0_ : w3.cell? ⟨g, 0, none⟩ = some (.slice A0 l0.length c0) := (blk_cell BK.out 0).trans rfl; have x1_ : w3.cell? ⟨g, 1, none⟩ = some (.slice A1 l1.length c1) := (blk_cell BK.out 1).trans rfl; have x2_ : w3.cell? ⟨g, 2, none⟩ = some (.slice A2 l2.length c2) := (blk_cell BK.out 2).trans rfl; have x3_ : w3.cell? ⟨g, 3, none⟩ = some (.int .i64 p3) := (blk_cell BK.out 3).trans rfl; have x4_ : w3.cell? ⟨g, 4, none⟩ = some (.int .i64 p4) := (blk_cell BK.out 4).trans rfl; have x5_ : w3.cell? ⟨g, 5, none⟩ = some (.int .i64 p5) := (blk_cell BK.out 5).trans rfl; have x6_ : w3.cell? ⟨g, 6, none⟩ = some (.int .i64 p6) := (blk_cell BK.out 6).trans rfl; have x7_ : w3.cell? ⟨g, 7, none⟩ = some (.int .i64 p7) := (blk_cell BK.out 7).trans rfl; have x8_ : w3.cell? ⟨g, 8, none⟩ = some (.int .i64 p8) := (blk_cell BK.out 8).trans rfl; have y0_ : w3.cell? ⟨gb, 0, none⟩ = some (.int .i64 t.f0) := (blk_cell BJ.out 0).trans rfl; have y1_ : w3.cell? ⟨gb, 1, none⟩ = some (.int .i64 t.f1) := (blk_cell BJ.out 1).trans rfl; have y2_ : w3.cell? ⟨gb, 2, none⟩ = some (.slice B2 t.f2.length d2) := (blk_cell BJ.out 2).trans rfl; have y3_ : w3.cell? ⟨gb, 3, none⟩ = some (.slice B3 t.f3.length d3) := (blk_cell BJ.out 3).trans rfl)
                  | (go_at_call 47; (with_reducible refine Calls.mono (at_from A0 c0 l0 A1 c1 l1 A2 c2 l2 p3 p4 p5 p6 p7 p8 (some ad) c9 ts A10 c10 nx A11 c11 js A12 c12 now ?s1 ?s2 i HI.out HX.out) ?_); (case s1 => first | exact BK.out | exact blk_drew BK.out); (case s2 => first | exact Kd.C_below HR10.out HB.out | exact Kd.C_drew (Kd.C_below HR10.out HB.out)); rintro e w4 ⟨rfl, hb⟩; replace BK : Aside0 (w4.heap[g]? = some (.cells #[.slice A0 l0.length c0, .slice A1 l1.length c1, .slice A2 l2.length c2, .int .i64 p3, .int .i64 p4, .int .i64 p5, .int .i64 p6, .int .i64 p7, .int .i64 p8, .slice (some ad) ts.length c9, .slice A10 nx.length c10, .slice A11 js.length c11, .slice A12 0 c12, .int .i64 now] 65 (0, 0))) := ⟨blk_below BK.out hb⟩; replace BJ : Aside0 (w4.heap[gb]? = some (.cells #[(.int .i64 t.f0), (.int .i64 t.f1), (.slice B2 t.f2.length d2), (.slice B3 t.f3.length d3)] 36 (0, 0))) := ⟨blk_below BJ.out hb⟩; replace HB : Aside0 (Below w.heap.size w w4) := ⟨below_step HB.out hb⟩; clear hb x0_ x1_ x2_ x3_ x4_ x5_ x6_ x7_ x8_ y0_ y1_ y2_ y3_; have x0_ : w4.cell? ⟨g, 0, none⟩ = some (.slice A0 l0.length c0) := (blk_cell BK.out 0).trans rfl; have x1_ : w4.cell? ⟨g, 1, none⟩ = some (.slice A1 l1.length c1) := (blk_cell BK.out 1).trans rfl; have x2_ : w4.cell? ⟨g, 2, none⟩ = some (.slice A2 l2.length c2) := (blk_cell BK.out 2).trans rfl; have x3_ : w4.cell? ⟨g, 3, none⟩ = some (.int .i64 p3) := (blk_cell BK.out 3).trans rfl; have x4_ : w4.cell? ⟨g, 4, none⟩ = some (.int .i64 p4) := (blk_cell BK.out 4).trans rfl; have x5_ : w4.cell? ⟨g, 5, none⟩ = some (.int .i64 p5) := (blk_cell BK.out 5).trans rfl; have x6_ : w4.cell? ⟨g, 6, none⟩ = some (.int .i64 p6) := (blk_cell BK.out 6).trans rfl; have x7_ : w4.cell? ⟨g, 7, none⟩ = some (.int .i64 p7) := (blk_cell BK.out 7).trans rfl; have x8_ : w4.cell? ⟨g, 8, none⟩ = some (.int .i64 p8) := (blk_cell BK.out 8).trans rfl; have y0_ : w4.cell? ⟨gb, 0, none⟩ = some (.int .i64 t.f0) := (blk_cell BJ.out 0).trans rfl; have y1_ : w4.cell? ⟨gb, 1, none⟩ = some (.int .i64 t.f1) := (blk_cell BJ.out 1).trans rfl; have y2_ : w4.cell? ⟨gb, 2, none⟩ = some (.slice B2 t.f2.length d2) := (blk_cell BJ.out 2).trans rfl; have y3_ : w4.cell? ⟨gb, 3, none⟩ = some (.slice B3 t.f3.length d3) := (blk_cell BJ.out 3).trans rfl)
                  | (go_at_call 45; (with_reducible refine Calls.mono (fix_Times.calls q _ z _ HZ.out) ?_);  rintro e w5 ⟨rfl, hb⟩; replace BK : Aside0 (w5.heap[g]? = some (.cells #[.slice A0 l0.length c0, .slice A1 l1.length c1, .slice A2 l2.length c2, .int .i64 p3, .int .i64 p4, .int .i64 p5, .int .i64 p6, .int .i64 p7, .int .i64 p8, .slice (some ad) ts.length c9, .slice A10 nx.length c10, .slice A11 js.length c11, .slice A12 0 c12, .int .i64 now] 65 (0, 0))) := ⟨blk_below BK.out hb⟩; replace BJ : Aside0 (w5.heap[gb]? = some (.cells #[(.int .i64 t.f0), (.int .i64 t.f1), (.slice B2 t.f2.length d2), (.slice B3 t.f3.length d3)] 36 (0, 0))) := ⟨blk_below BJ.out hb⟩; replace HB : Aside0 (Below w.heap.size w w5) := ⟨below_step HB.out hb⟩; clear hb x0_ x1_ x2_ x3_ x4_ x5_ x6_ x7_ x8_ y0_ y1_ y2_ y3_; have x0_ : w5.cell? ⟨g, 0, none⟩ = some (.slice A0 l0.length c0) := (blk_cell BK.out 0).trans rfl; have x1_ : w5.cell? ⟨g, 1, none⟩ = some (.slice A1 l1.length c1) := (blk_cell BK.out 1).trans rfl; have x2_ : w5.cell? ⟨g, 2, none⟩ = some (.slice A2 l2.length c2) := (blk_cell BK.out 2).trans rfl; have x3_ : w5.cell? ⟨g, 3, none⟩ = some (.int .i64 p3) := (blk_cell BK.out 3).trans rfl; have x4_ : w5.cell? ⟨g, 4, none⟩ = some (.int .i64 p4) := (blk_cell BK.out 4).trans rfl; have x5_ : w5.cell? ⟨g, 5, none⟩ = some (.int .i64 p5) := (blk_cell BK.out 5).trans rfl; have x6_ : w5.cell? ⟨g, 6, none⟩ = some (.int .i64 p6) := (blk_cell BK.out 6).trans rfl; have x7_ : w5.cell? ⟨g, 7, none⟩ = some (.int .i64 p7) := (blk_cell BK.out 7).trans rfl; have x8_ : w5.cell? ⟨g, 8, none⟩ = some (.int .i64 p8) := (blk_cell BK.out 8).trans rfl; have y0_ : w5.cell? ⟨gb, 0, none⟩ = some (.int .i64 t.f0) := (blk_cell BJ.out 0).trans rfl; have y1_ : w5.cell? ⟨gb, 1, none⟩ = some (.int .i64 t.f1) := (blk_cell BJ.out 1).trans rfl; have y2_ : w5.cell? ⟨gb, 2, none⟩ = some (.slice B2 t.f2.length d2) := (blk_cell BJ.out 2).trans rfl; have y3_ : w5.cell? ⟨gb, 3, none⟩ = some (.slice B3 t.f3.length d3) := (blk_cell BJ.out 3).trans rfl))
              go_wp2_with fail
              go_roundw
              case rel => exact ⟨wrap64 (s - z), i + 1, by first | rfl | exact congrArg _ (wr_ _), by first | rfl | simp [hw1], by omega, by omega, HT, BK, HB⟩
              case measure => simp [intOf]; omega
            · rw [if_neg lx] at hT; cases hT
          · rw [if_neg due] at hT
            have HT := Aside0.mk hT
            have dd : decide (0 < t.f0) = false := decide_eq_false due
            clear due
            go_wp2_with fail
            generalize hwq : wr.alloc (.cells #[(.int .i64 t.f0), (.int .i64 t.f1), (.slice B2 t.f2.length d2), (.slice B3 t.f3.length d3)] 36 (0, 0)) = wq
            obtain ⟨gb, hgb⟩ : ∃ gb, wr.heap.size = gb := ⟨_, rfl⟩
            have hb : Below wr.heap.size wr wq := by rw [← hwq]; exact (Below.refl _ _).alloc (Nat.le_refl _) _
            have BJ : Aside0 (wq.heap[gb]? = some (.cells #[(.int .i64 t.f0), (.int .i64 t.f1), (.slice B2 t.f2.length d2), (.slice B3 t.f3.length d3)] 36 (0, 0))) := ⟨by rw [← hwq, ← hgb]; exact heap_alloc_new wr _⟩
            replace BK : Aside0 (wq.heap[g]? = some (.cells #[.slice A0 l0.length c0, .slice A1 l1.length c1, .slice A2 l2.length c2, .int .i64 p3, .int .i64 p4, .int .i64 p5, .int .i64 p6, .int .i64 p7, .int .i64 p8, .slice (some ad) ts.length c9, .slice A10 nx.length c10, .slice A11 js.length c11, .slice A12 0 c12, .int .i64 now] 65 (0, 0))) := ⟨blk_below BK.out hb⟩
            replace HB : Aside0 (Below w.heap.size w wq) := ⟨below_step HB.out hb⟩
            try rw [hgb]
            clear hwq hb y0 y1 y2 y3
            have y0_ : wq.cell? ⟨gb, 0, none⟩ = some (.int .i64 t.f0) := (blk_cell BJ.out 0).trans rfl
            try go_wp2_with fail
            go_roundw
            case rel => exact ⟨s, i + 1, by first | rfl | exact congrArg _ (wr_ _), by first | rfl | simp [hw1], by omega, by omega, HT, BK, HB⟩
            case measure => simp [intOf]; omega
        · have d1 : decide (i < (ts.length : Int)) = false := decide_eq_false lt1
          have hn : s = r := by
            have := HT.out
            rw [List.drop_eq_nil_of_le (by omega)] at this
            exact Option.some.inj this
          subst hn
          go_wp2
          go_ret
          exact ⟨rfl, HB.out⟩
def slack_view_at.f (s0_0 : List S58) (s0_1 : List S68) (s0_2 : List S71) (s0_3 : Int) (s0_4 : Int) (s0_5 : Int) (s0_6 : Int) (s0_7 : Int) (s0_8 : Int) (s0_9 : List S36) (s0_10 : List Int) (s0_11 : List S38) (s0_12 : List S73) (s0_13 : Int) (a1 : Int) : Option (Int × Int × Int × Int × Int × Int × Int × Int) :=
  if s0_12.length = 0 then (slack_view_at.r s0_0 s0_1 s0_2 s0_3 s0_4 s0_5 s0_6 s0_7 s0_8 s0_9 s0_10 s0_11 s0_13 a1).bind fun r => some (r, s0_3, s0_4, s0_5, s0_6, s0_7, s0_8, s0_13) else none
theorem slack_view_at.calls (g : Nat) (s0_0 : List S58) (s0_1 : List S68) (s0_2 : List S71) (s0_3 : Int) (s0_4 : Int) (s0_5 : Int) (s0_6 : Int) (s0_7 : Int) (s0_8 : Int) (s0_9 : List S36) (s0_10 : List Int) (s0_11 : List S38) (s0_12 : List S73) (s0_13 : Int) (a1 : Int) (r1 r2 r3 r4 r5 r6 r7 r8 : Int) (w0 w : World) (hI : IsS65 w0 w g s0_0 s0_1 s0_2 s0_3 s0_4 s0_5 s0_6 s0_7 s0_8 s0_9 s0_10 s0_11 s0_12 s0_13) (hB : Below w0.heap.size w0 w) (h : slack_view_at.f s0_0 s0_1 s0_2 s0_3 s0_4 s0_5 s0_6 s0_7 s0_8 s0_9 s0_10 s0_11 s0_12 s0_13 a1 = some (r1, r2, r3, r4, r5, r6, r7, r8)) :
    Calls Try.prog 32 #[.pointer (some ⟨g, 0, none⟩), .int .i64 a1] w fun e w' => e = .returned (.int .i64 r1) ∧ IsS65 w0 w' g s0_0 s0_1 s0_2 r2 r3 r4 r5 r6 r7 s0_9 s0_10 s0_11 s0_12 r8 ∧ Below w0.heap.size w0 w' ∧ KeepBut w w' g none := by
  unfold slack_view_at.f at h
  by_cases z : s0_12.length = 0
  · rw [if_pos z] at h
    obtain ⟨r, hr, e⟩ := Option.bind_eq_some_iff.mp h
    simp only [Option.some.injEq, Prod.mk.injEq] at e
    obtain ⟨rfl, rfl, rfl, rfl, rfl, rfl, rfl, rfl⟩ := e
    have hI' := hI
    obtain ⟨A0, c0, A1, c1, A2, c2, A9, c9, A10, c10, A11, c11, A12, c12, hb, hg, hr0, hr1, hr2, hr9, hr10, hr11, hr12⟩ := hI
    obtain ⟨_, k0, k1, k2, k9, k10, k11, k12⟩ := hg
    rw [z] at hb
    refine (at_walk A0 c0 s0_0 A1 c1 s0_1 A2 c2 s0_2 s0_3 s0_4 s0_5 s0_6 s0_7 s0_8 A9 c9 s0_9 A10 c10 s0_10 A11 c11 s0_11 A12 c12 s0_13 hb k0 (Kd.C_below hr0 hB) k1 (Kd.C_below hr1 hB) k2 (Kd.C_below hr2 hB) (Kd.C_below hr9 hB) (Kd.C_below hr10 hB) (Kd.C_below hr11 hB) a1 r hr).mono ?_
    rintro e w' ⟨rfl, hb2⟩
    exact ⟨rfl, IsS65.below hI' hb2, below_step hB hb2, KeepBut.of_below hb2 g none⟩
  · rw [if_neg z] at h; cases h
end Go.Proofs.Ytchlbnlhjllcbaa.F
namespace Go.Proofs.Ytchlbnlhjllcbaa.F
open Go.RowKit Go.Proofs.YtchlbnlhjllcbaaW.PrintWords Go.Proofs.YtchlbnlhjllcbaaW.PrintLast Go.Proofs.YtchlbnlhjllcbaaW.PrintMore
attribute [local go_sem] max2_int min2_int max_two min_two max_three min_three max_four min_four
set_option linter.unusedVariables false
def slack_At.f (l0_0 : List S58) (l0_1 : List S68) (l0_2 : List S71) (a0_3 : Int) (a0_4 : Int) (a0_5 : Int) (a0_6 : Int) (a0_7 : Int) (a0_8 : Int) (l1 : List S36) (l2 : List Int) (l3 : List S38) (l4 : List S73) (a5 : Int) (a6 : Int) : Option Int :=
  if l4.length = 0 then slack_view_at.r l0_0 l0_1 l0_2 a0_3 a0_4 a0_5 a0_6 a0_7 a0_8 l1 l2 l3 a5 a6 else none
set_option maxHeartbeats 4000000 in
theorem slack_At.calls (A0_0 : Option Addr) (c0_0 : Nat) (l0_0 : List (S58)) (A0_1 : Option Addr) (c0_1 : Nat) (l0_1 : List (S68)) (A0_2 : Option Addr) (c0_2 : Nat) (l0_2 : List (S71)) (a0_3 : Int) (a0_4 : Int) (a0_5 : Int) (a0_6 : Int) (a0_7 : Int) (a0_8 : Int) (A1 : Option Addr) (c1 : Nat) (l1 : List (S36)) (A2 : Option Addr) (c2 : Nat) (l2 : List Int) (A3 : Option Addr) (c3 : Nat) (l3 : List (S38)) (A4 : Option Addr) (c4 : Nat) (l4 : List (S73)) (a5 : Int) (a6 : Int) (r : Int) (w : World) (hr0_0 : Kd.C k58 w A0_0 l0_0.length l0_0) (hc0_0 : l0_0.length ≤ c0_0) (hr0_1 : Kd.C k68 w A0_1 l0_1.length l0_1) (hc0_1 : l0_1.length ≤ c0_1) (hr0_2 : Kd.C k71 w A0_2 l0_2.length l0_2) (hc0_2 : l0_2.length ≤ c0_2) (hr1 : Kd.C k36 w A1 l1.length l1) (hc1 : l1.length ≤ c1) (hr2 : Kd.C (Kd.int .i64) w A2 l2.length l2) (hc2 : l2.length ≤ c2) (hr3 : Kd.C k38 w A3 l3.length l3) (hc3 : l3.length ≤ c3) (hr4 : Kd.C k73 w A4 l4.length l4) (hc4 : l4.length ≤ c4) (h : slack_At.f l0_0 l0_1 l0_2 a0_3 a0_4 a0_5 a0_6 a0_7 a0_8 l1 l2 l3 l4 a5 a6 = some r) :
    Calls Try.prog 19 #[.agg #[.slice A0_0 l0_0.length c0_0, .slice A0_1 l0_1.length c0_1, .slice A0_2 l0_2.length c0_2, .int .i64 a0_3, .int .i64 a0_4, .int .i64 a0_5, .int .i64 a0_6, .int .i64 a0_7, .int .i64 a0_8], .slice A1 l1.length c1, .slice A2 l2.length c2, .slice A3 l3.length c3, .slice A4 l4.length c4, .int .i64 a5, .int .i64 a6] w fun e w' => e = .returned (.int .i64 r) ∧ Below w.heap.size w w' := by
  unfold slack_At.f at h
  by_cases z : l4.length = 0
  · rw [if_pos z] at h
    have e4 : l4.length = 0 := z
    have Z4 := Aside0.mk e4
    have HR0_0 := Aside0.mk hr0_0
    have HC0_0 := Aside0.mk hc0_0
    have HR0_1 := Aside0.mk hr0_1
    have HC0_1 := Aside0.mk hc0_1
    have HR0_2 := Aside0.mk hr0_2
    have HC0_2 := Aside0.mk hc0_2
    have HR1 := Aside0.mk hr1
    have HC1 := Aside0.mk hc1
    have HR2 := Aside0.mk hr2
    have HC2 := Aside0.mk hc2
    have HR3 := Aside0.mk hr3
    have HC3 := Aside0.mk hc3
    have HR4 := Aside0.mk hr4
    have HC4 := Aside0.mk hc4
    have HH := Aside0.mk h
    clear hr0_0 hr0_1 hr0_2 hr1 hr2 hr3 hr4 hc0_0 hc0_1 hc0_2 hc1 hc2 hc3 hc4 h z e4
    go_enter Try.func19, Try.ntmps19
    go_wp2_with fail
    generalize hw1 : w.alloc (.cells #[.slice A0_0 l0_0.length c0_0, .slice A0_1 l0_1.length c0_1, .slice A0_2 l0_2.length c0_2, .int .i64 a0_3, .int .i64 a0_4, .int .i64 a0_5, .int .i64 a0_6, .int .i64 a0_7, .int .i64 a0_8] 26 (0, 0)) = w1
    have hb1 : Below w.heap.size w w1 := by rw [← hw1]; exact (Below.refl _ _).alloc (Nat.le_refl _) _
    have hs1 : w1.heap.size = w.heap.size + 1 := by rw [← hw1]; simp
    obtain ⟨g, hg⟩ : ∃ g, w.heap.size + 1 = g := ⟨_, rfl⟩
    generalize hw2 : w1.alloc (.cells #[.slice A0_0 l0_0.length c0_0, .slice A0_1 l0_1.length c0_1, .slice A0_2 l0_2.length c0_2, .int .i64 a0_3, .int .i64 a0_4, .int .i64 a0_5, .int .i64 a0_6, .int .i64 a0_7, .int .i64 a0_8, .slice A1 l1.length c1, .slice A2 l2.length c2, .slice A3 l3.length c3, .slice A4 l4.length c4, .int .i64 a5] 65 (0, 0)) = w2
    have hb2 : Below w1.heap.size w1 w2 := by rw [← hw2]; exact (Below.refl _ _).alloc (Nat.le_refl _) _
    have BK : Aside0 (w2.heap[g]? = some (.cells #[.slice A0_0 l0_0.length c0_0, .slice A0_1 l0_1.length c0_1, .slice A0_2 l0_2.length c0_2, .int .i64 a0_3, .int .i64 a0_4, .int .i64 a0_5, .int .i64 a0_6, .int .i64 a0_7, .int .i64 a0_8, .slice A1 l1.length c1, .slice A2 l2.length c2, .slice A3 l3.length c3, .slice A4 l4.length c4, .int .i64 a5] 65 (0, 0))) := ⟨by rw [← hw2, ← hg, ← hs1]; exact heap_alloc_new w1 _⟩
    have HB : Aside0 (Below w.heap.size w w2) := ⟨below_step hb1 hb2⟩
    have GE : Aside0 (w.heap.size ≤ g) := ⟨by rw [← hg]; omega⟩
    try rw [hg]
    clear hw1 hw2 hb1 hb2 hg hs1
    have BK' := BK.out
    rw [Z4.out] at BK'
    replace BK := Aside0.mk BK'
    clear BK'
    go_wp2_with (first | (go_at_call 32; (with_reducible refine Calls.mono (at_walk A0_0 c0_0 l0_0 A0_1 c0_1 l0_1 A0_2 c0_2 l0_2 a0_3 a0_4 a0_5 a0_6 a0_7 a0_8 A1 c1 l1 A2 c2 l2 A3 c3 l3 A4 c4 a5 BK.out HC0_0.out (Kd.C_below HR0_0.out HB.out) HC0_1.out (Kd.C_below HR0_1.out HB.out) HC0_2.out (Kd.C_below HR0_2.out HB.out) (Kd.C_below HR1.out HB.out) (Kd.C_below HR2.out HB.out) (Kd.C_below HR3.out HB.out) a6 r HH.out) ?_); rintro e w3 ⟨rfl, hb⟩; replace HB : Aside0 (Below w.heap.size w w3) := ⟨below_step HB.out hb⟩; clear hb))
    go_ret
    exact ⟨rfl, HB.out⟩
  · rw [if_neg z] at h; cases h
end Go.Proofs.Ytchlbnlhjllcbaa.F
namespace Go.Proofs.Ytchlbnlhjllcbaa.F
open Go.RowKit Go.Proofs.YtchlbnlhjllcbaaW.PrintWords Go.Proofs.YtchlbnlhjllcbaaW.PrintLast Go.Proofs.YtchlbnlhjllcbaaW.PrintMore
attribute [local go_sem] max2_int min2_int max_two min_two max_three min_three max_four min_four   -- for this text's walks alone
set_option linter.unusedVariables false
set_option linter.unusedSimpArgs false
def dormouseref09_moment.f (a0 : Int) : Option (Bool) := if a0 ≥ 0 then (some (decide (a0 ≤ 2097152))) else (some false)
set_option maxHeartbeats 8000000 in
set_option maxRecDepth 100000 in
theorem dormouseref09_moment.calls (a0 : Int) (r : Bool) (w : World) (h : dormouseref09_moment.f a0 = some r) :
    Calls Try.prog 23 #[.int .i64 a0] w fun e w' => e = .returned (.bool r) ∧ Drawn0 w w' := by
  have H : (if a0 ≥ 0 then (some (decide (a0 ≤ 2097152))) else (some false)) = some r := h
  clear h
  by_cases c2 : a0 ≥ 0
  · rw [if_pos c2] at H
    have c2b0 : decide (0 ≤ a0) = true := decide_eq_true c2
    clear c2
    obtain rfl := Option.some.inj H
    go_enter Try.func23, Try.ntmps23
    go_wp2
    go_ret
    exact ⟨by first | rfl | (simp; done) | (simp [*]; done), by repeat (first | exact Drawn0.refl _ | apply Drawn0.step)⟩
  · rw [if_neg c2] at H
    have c2b0 : decide (0 ≤ a0) = false := decide_eq_false c2
    clear c2
    obtain rfl := Option.some.inj H
    go_enter Try.func23, Try.ntmps23
    go_wp2
    go_ret
    exact ⟨by first | rfl | (simp; done) | (simp [*]; done), by repeat (first | exact Drawn0.refl _ | apply Drawn0.step)⟩
end Go.Proofs.Ytchlbnlhjllcbaa.F
namespace Go.Proofs.Ytchlbnlhjllcbaa.F
open Go.RowKit Go.Proofs.YtchlbnlhjllcbaaW.PrintWords Go.Proofs.YtchlbnlhjllcbaaW.PrintLast Go.Proofs.YtchlbnlhjllcbaaW.PrintMore
attribute [local go_sem] max2_int min2_int max_two min_two max_three min_three max_four min_four   -- for this text's walks alone
set_option linter.unusedVariables false
set_option linter.unusedSimpArgs false
def dormouseref09_JobOf.l0 : Nat → List (S38) → Int → Int → Option (Int × Int × Int × Int × Int × Bool × Bool)
  | 0, _, _, _ => none
  | k + 1, x0, x1, x6 => if x6 < (x0.length : Int) then (if 0 ≤ x6 then (if ((rd_T38 x0 x6).f0) = x1 then (some ((rd_T38 x0 x6).f0, (rd_T38 x0 x6).f1, (rd_T38 x0 x6).f2, (rd_T38 x0 x6).f3, (rd_T38 x0 x6).f4, (rd_T38 x0 x6).f5, true)) else (dormouseref09_JobOf.l0 k x0 x1 (wrap64 (x6 + 1)))) else (none)) else (some (0, 0, 0, 0, 0, false, false))
def dormouseref09_JobOf.f (k : Nat) (l0 : List (S38)) (a1 : Int) : Option (Int × Int × Int × Int × Int × Bool × Bool) := dormouseref09_JobOf.l0 k l0 a1 0
set_option maxHeartbeats 8000000 in
set_option maxRecDepth 100000 in
theorem dormouseref09_JobOf.calls (k : Nat) (A0 : Option Addr) (c0 : Nat) (l0 : List (S38)) (a1 : Int) (r1 : Int) (r2 : Int) (r3 : Int) (r4 : Int) (r5 : Int) (r6 : Bool) (r7 : Bool) (w : World) (hr0 : Kd.C k38 w A0 l0.length l0) (hc0 : l0.length ≤ c0) (h : dormouseref09_JobOf.f k l0 a1 = some (r1, r2, r3, r4, r5, r6, r7)) :
    Calls Try.prog 11 #[.slice A0 l0.length c0, .int .i64 a1] w fun e w' => e = .returned (.tuple #[.agg #[.int .i64 r1, .int .i64 r2, .int .i64 r3, .int .i64 r4, .int .i64 r5, .bool r6], .bool r7]) ∧ Below w.heap.size w w' := by
  have hu38 := Try.underlying38
  have HR0 := Aside0.mk hr0
  have HC0 := Aside0.mk hc0
  clear hr0 hc0
  have HB := Aside0.mk (Below.refl w.heap.size w)
  have H : (dormouseref09_JobOf.l0 k l0 a1 0) = some (r1, r2, r3, r4, r5, r6, r7) := h
  clear h
  have H' := Aside0.mk H
  clear H
  go_enter Try.func11, Try.ntmps11
  go_wp2_with (first | ((with_reducible refine gate_dst (N := 4) rfl ?_); refine box_event ?hg (N := 4) ?hd (cs := #[.int .i64 0, .int .i64 0, .int .i64 0, .int .i64 0, .int .i64 0, .bool false]) (t := 38) ?hr ?_; (case hd => rfl); (case hg => rfl); (case hr => first | (go_simp; done) | (go_simp; rfl)); intro gb101 hg w3 hbox hb; have n0_ := Aside0.mk (below_step (by repeat (first | (with_reducible first | exact HB.out | apply below_alloc | apply pw_below_drewN | apply below_drew1) | exact HB.out)) hb); have n1_ := Aside0.mk (hbox); have n2_ := Aside0.mk ((by rw [hg]; exact (below_size (by repeat (first | (with_reducible first | exact HB.out | apply below_alloc | apply pw_below_drewN | apply below_drew1) | exact HB.out))) : w.heap.size ≤ gb101)); have n3_ := Aside0.mk ((by rw [hg]; exact (below_size (by repeat (first | (with_reducible first | exact HB.out | apply below_alloc | apply pw_below_drewN | apply below_drew1) | exact HB.out))) : w.heap.size ≤ gb101)); clear HB; have HB := n0_; have BK101 := n1_; have GW101 := n2_; have GE101 := n3_; clear n0_ n1_ n2_ n3_; clear hb hbox hg))
  go_loopg [6] k (fun kq v6 w' => ∃ (x6_1 : Int) (x102000_1 : Int) (x102001_1 : Int) (x102002_1 : Int) (x102003_1 : Int) (x102004_1 : Int) (x102005_1 : Bool), v6 = .int .i64 x6_1 ∧ Aside0 (dormouseref09_JobOf.l0 kq l0 a1 x6_1 = some (r1, r2, r3, r4, r5, r6, r7)) ∧ Aside0 (kq ≤ k) ∧ Aside0 (w'.heap[gb101]? = some (.cells #[.int .i64 x102000_1, .int .i64 x102001_1, .int .i64 x102002_1, .int .i64 x102003_1, .int .i64 x102004_1, .bool x102005_1] 38 (0, 0))) ∧ Aside0 (Below w.heap.size w w'))
  case atStart => exact ⟨(0), (0), (0), (0), (0), (0), (false), (by first | rfl | (simp; done) | (simp [*]; done)), H', ⟨Nat.le_refl _⟩, ⟨by (with_reducible repeat (first | refine blk_drewN ?_ _ | refine blk_drew ?_ | refine blk_alloc ?_ _)); exact BK101.out⟩, ⟨by repeat (first | (with_reducible first | exact HB.out | apply below_alloc | apply pw_below_drewN | apply below_drew1 | refine below_set ?_ GE101.out) | exact HB.out)⟩⟩
  case round =>
    clear H'
    try clear c1
    try clear p2
    obtain ⟨x6_1, x102000_1, x102001_1, x102002_1, x102003_1, x102004_1, x102005_1, rfl, HA, HK1, BK101, HB⟩ := hrel
    cases gk with
    | zero => exact absurd HA.out (by simp [dormouseref09_JobOf.l0])
    | succ k1 =>
      have H := HA.out
      clear HA
      simp only [dormouseref09_JobOf.l0] at H
      by_cases c4 : x6_1 < (l0.length : Int)
      · rw [if_pos c4] at H
        have c4b0 : decide (x6_1 < (l0.length : Int)) = true := decide_eq_true c4
        clear c4
        by_cases c5 : 0 ≤ x6_1
        · rw [if_pos c5] at H
          have c5b0 : decide (0 ≤ x6_1) = true := decide_eq_true c5
          clear c5
          by_cases c6 : ((rd_T38 l0 x6_1).f0) = a1
          · rw [if_pos c6] at H
            have c6b0 : (((rd_T38 l0 x6_1).f0) == a1) = true := beq_iff_eq.mpr c6
            have c6b1 : (((rd_T38 l0 x6_1).f0) != a1) = false := bne_eq_false_iff_eq.mpr c6
            clear c6
            simp only [Option.some.injEq, Prod.mk.injEq] at H
            obtain ⟨rfl, rfl, rfl, rfl, rfl, rfl, rfl⟩ := H
            have p102 : 0 ≤ (x6_1 : Int) := of_decide_eq_true (by first | (with_reducible assumption) | assumption)
            have q102 : x6_1 < (l0.length : Int) := of_decide_eq_true (by first | (with_reducible assumption) | assumption)
            obtain ⟨ad102, e102, hx102_0, hx102_1, hx102_2, hx102_3, hx102_4, hx102_5⟩ := at_T38 HR0.out x6_1 p102 q102
            cases e102
            replace hx102_0 := (HB.out.cell (World.block_lt_of_cell? w _ hx102_0)).trans hx102_0
            replace hx102_1 := (HB.out.cell (World.block_lt_of_cell? w _ hx102_1)).trans hx102_1
            replace hx102_2 := (HB.out.cell (World.block_lt_of_cell? w _ hx102_2)).trans hx102_2
            replace hx102_3 := (HB.out.cell (World.block_lt_of_cell? w _ hx102_3)).trans hx102_3
            replace hx102_4 := (HB.out.cell (World.block_lt_of_cell? w _ hx102_4)).trans hx102_4
            replace hx102_5 := (HB.out.cell (World.block_lt_of_cell? w _ hx102_5)).trans hx102_5
            replace p102 := eq_true p102
            replace q102 := eq_true q102
            have p103 : 0 ≤ (x6_1 : Int) := of_decide_eq_true (by first | (with_reducible assumption) | assumption)
            have q103 : x6_1 < (l0.length : Int) := of_decide_eq_true (by first | (with_reducible assumption) | assumption)
            obtain ⟨ad103, e103, hx103_0, hx103_1, hx103_2, hx103_3, hx103_4, hx103_5⟩ := at_T38 HR0.out x6_1 p103 q103
            obtain rfl : ad102 = ad103 := (by injection e103)
            replace hx103_0 := (HB.out.cell (World.block_lt_of_cell? w _ hx103_0)).trans hx103_0
            replace hx103_1 := (HB.out.cell (World.block_lt_of_cell? w _ hx103_1)).trans hx103_1
            replace hx103_2 := (HB.out.cell (World.block_lt_of_cell? w _ hx103_2)).trans hx103_2
            replace hx103_3 := (HB.out.cell (World.block_lt_of_cell? w _ hx103_3)).trans hx103_3
            replace hx103_4 := (HB.out.cell (World.block_lt_of_cell? w _ hx103_4)).trans hx103_4
            replace hx103_5 := (HB.out.cell (World.block_lt_of_cell? w _ hx103_5)).trans hx103_5
            replace p103 := eq_true p103
            replace q103 := eq_true q103
            have hcz7_0 : wr.cell? ⟨gb101, 0, none⟩ = some (.int .i64 x102000_1) := (blk_cell BK101.out 0).trans rfl
            have hcz7_1 : wr.cell? ⟨gb101, 1, none⟩ = some (.int .i64 x102001_1) := (blk_cell BK101.out 1).trans rfl
            have hcz7_2 : wr.cell? ⟨gb101, 2, none⟩ = some (.int .i64 x102002_1) := (blk_cell BK101.out 2).trans rfl
            have hcz7_3 : wr.cell? ⟨gb101, 3, none⟩ = some (.int .i64 x102003_1) := (blk_cell BK101.out 3).trans rfl
            have hcz7_4 : wr.cell? ⟨gb101, 4, none⟩ = some (.int .i64 x102004_1) := (blk_cell BK101.out 4).trans rfl
            have hcz7_5 : wr.cell? ⟨gb101, 5, none⟩ = some (.bool x102005_1) := (blk_cell BK101.out 5).trans rfl
            have hfz7_0 := blk_frozen BK101.out 0
            have hfz7_1 := blk_frozen BK101.out 1
            have hfz7_2 := blk_frozen BK101.out 2
            have hfz7_3 := blk_frozen BK101.out 3
            have hfz7_4 := blk_frozen BK101.out 4
            have hfz7_5 := blk_frozen BK101.out 5
            go_wp2
            refine bodyPost_ret (results_ct rfl _ _ gb101 38 #[.int .i64 ((rd_T38 l0 x6_1).f0), .int .i64 ((rd_T38 l0 x6_1).f1), .int .i64 ((rd_T38 l0 x6_1).f2), .int .i64 ((rd_T38 l0 x6_1).f3), .int .i64 ((rd_T38 l0 x6_1).f4), .bool ((rd_T38 l0 x6_1).f5)] (0, 0) _ rfl (by (with_reducible repeat (first | refine blk_drewN ?_ _ | refine blk_drew ?_ | refine blk_alloc ?_ _)); refine blk_put (cs := #[.int .i64 ((rd_T38 l0 x6_1).f0), .int .i64 ((rd_T38 l0 x6_1).f1), .int .i64 ((rd_T38 l0 x6_1).f2), .int .i64 ((rd_T38 l0 x6_1).f3), .int .i64 ((rd_T38 l0 x6_1).f4), .bool x102005_1]) ?_ 5 _ rfl; (with_reducible repeat (first | refine blk_drewN ?_ _ | refine blk_drew ?_ | refine blk_alloc ?_ _)); refine blk_put (cs := #[.int .i64 ((rd_T38 l0 x6_1).f0), .int .i64 ((rd_T38 l0 x6_1).f1), .int .i64 ((rd_T38 l0 x6_1).f2), .int .i64 ((rd_T38 l0 x6_1).f3), .int .i64 x102004_1, .bool x102005_1]) ?_ 4 _ rfl; (with_reducible repeat (first | refine blk_drewN ?_ _ | refine blk_drew ?_ | refine blk_alloc ?_ _)); refine blk_put (cs := #[.int .i64 ((rd_T38 l0 x6_1).f0), .int .i64 ((rd_T38 l0 x6_1).f1), .int .i64 ((rd_T38 l0 x6_1).f2), .int .i64 x102003_1, .int .i64 x102004_1, .bool x102005_1]) ?_ 3 _ rfl; (with_reducible repeat (first | refine blk_drewN ?_ _ | refine blk_drew ?_ | refine blk_alloc ?_ _)); refine blk_put (cs := #[.int .i64 ((rd_T38 l0 x6_1).f0), .int .i64 ((rd_T38 l0 x6_1).f1), .int .i64 x102002_1, .int .i64 x102003_1, .int .i64 x102004_1, .bool x102005_1]) ?_ 2 _ rfl; (with_reducible repeat (first | refine blk_drewN ?_ _ | refine blk_drew ?_ | refine blk_alloc ?_ _)); refine blk_put (cs := #[.int .i64 ((rd_T38 l0 x6_1).f0), .int .i64 x102001_1, .int .i64 x102002_1, .int .i64 x102003_1, .int .i64 x102004_1, .bool x102005_1]) ?_ 1 _ rfl; (with_reducible repeat (first | refine blk_drewN ?_ _ | refine blk_drew ?_ | refine blk_alloc ?_ _)); refine blk_put (cs := #[.int .i64 x102000_1, .int .i64 x102001_1, .int .i64 x102002_1, .int .i64 x102003_1, .int .i64 x102004_1, .bool x102005_1]) ?_ 0 _ rfl; (with_reducible repeat (first | refine blk_drewN ?_ _ | refine blk_drew ?_ | refine blk_alloc ?_ _)); exact BK101.out) Try.underlying38 rfl (by kernel_rfl)) rfl ?_
            exact ⟨by first | rfl | (simp [errW_none, errW_some] <;> rfl) | (simp [*, errW_none, errW_some] <;> rfl), by repeat (first | (with_reducible first | exact HB.out | apply below_alloc | apply pw_below_drewN | apply below_drew1 | refine below_set ?_ GE101.out) | exact HB.out)⟩
          · rw [if_neg c6] at H
            have c6b0 : (((rd_T38 l0 x6_1).f0) == a1) = false := beq_eq_false_iff_ne.mpr c6
            have c6b1 : (((rd_T38 l0 x6_1).f0) != a1) = true := bne_iff_ne.mpr c6
            have H' := Aside0.mk H
            clear H
            have p102 : 0 ≤ (x6_1 : Int) := of_decide_eq_true (by first | (with_reducible assumption) | assumption)
            have q102 : x6_1 < (l0.length : Int) := of_decide_eq_true (by first | (with_reducible assumption) | assumption)
            obtain ⟨ad102, e102, hx102_0, hx102_1, hx102_2, hx102_3, hx102_4, hx102_5⟩ := at_T38 HR0.out x6_1 p102 q102
            cases e102
            replace hx102_0 := (HB.out.cell (World.block_lt_of_cell? w _ hx102_0)).trans hx102_0
            replace hx102_1 := (HB.out.cell (World.block_lt_of_cell? w _ hx102_1)).trans hx102_1
            replace hx102_2 := (HB.out.cell (World.block_lt_of_cell? w _ hx102_2)).trans hx102_2
            replace hx102_3 := (HB.out.cell (World.block_lt_of_cell? w _ hx102_3)).trans hx102_3
            replace hx102_4 := (HB.out.cell (World.block_lt_of_cell? w _ hx102_4)).trans hx102_4
            replace hx102_5 := (HB.out.cell (World.block_lt_of_cell? w _ hx102_5)).trans hx102_5
            replace p102 := eq_true p102
            replace q102 := eq_true q102
            go_wp2
            go_roundg k1
            case measure => have := HK1.out; omega
            case rel => exact ⟨(wrap64 (x6_1 + 1)), (x102000_1), (x102001_1), (x102002_1), (x102003_1), (x102004_1), (x102005_1), (by first | rfl | (simp; done) | (simp [*]; done)), H', ⟨by have := HK1.out; omega⟩, ⟨by (with_reducible repeat (first | refine blk_drewN ?_ _ | refine blk_drew ?_ | refine blk_alloc ?_ _)); exact BK101.out⟩, ⟨by repeat (first | (with_reducible first | exact HB.out | apply below_alloc | apply pw_below_drewN | apply below_drew1 | refine below_set ?_ GE101.out) | exact HB.out)⟩⟩
        · rw [if_neg c5] at H
          exact absurd H (by simp)
      · rw [if_neg c4] at H
        have c4b0 : decide (x6_1 < (l0.length : Int)) = false := decide_eq_false c4
        clear c4
        simp only [Option.some.injEq, Prod.mk.injEq] at H
        obtain ⟨rfl, rfl, rfl, rfl, rfl, rfl, rfl⟩ := H
        have hcz8_0 : wr.cell? ⟨gb101, 0, none⟩ = some (.int .i64 x102000_1) := (blk_cell BK101.out 0).trans rfl
        have hcz8_1 : wr.cell? ⟨gb101, 1, none⟩ = some (.int .i64 x102001_1) := (blk_cell BK101.out 1).trans rfl
        have hcz8_2 : wr.cell? ⟨gb101, 2, none⟩ = some (.int .i64 x102002_1) := (blk_cell BK101.out 2).trans rfl
        have hcz8_3 : wr.cell? ⟨gb101, 3, none⟩ = some (.int .i64 x102003_1) := (blk_cell BK101.out 3).trans rfl
        have hcz8_4 : wr.cell? ⟨gb101, 4, none⟩ = some (.int .i64 x102004_1) := (blk_cell BK101.out 4).trans rfl
        have hcz8_5 : wr.cell? ⟨gb101, 5, none⟩ = some (.bool x102005_1) := (blk_cell BK101.out 5).trans rfl
        have hfz8_0 := blk_frozen BK101.out 0
        have hfz8_1 := blk_frozen BK101.out 1
        have hfz8_2 := blk_frozen BK101.out 2
        have hfz8_3 := blk_frozen BK101.out 3
        have hfz8_4 := blk_frozen BK101.out 4
        have hfz8_5 := blk_frozen BK101.out 5
        go_wp2
        refine bodyPost_ret (results_ct rfl _ _ gb101 38 #[.int .i64 0, .int .i64 0, .int .i64 0, .int .i64 0, .int .i64 0, .bool false] (0, 0) _ rfl (by (with_reducible repeat (first | refine blk_drewN ?_ _ | refine blk_drew ?_ | refine blk_alloc ?_ _)); refine blk_put (cs := #[.int .i64 0, .int .i64 0, .int .i64 0, .int .i64 0, .int .i64 0, .bool x102005_1]) ?_ 5 _ rfl; (with_reducible repeat (first | refine blk_drewN ?_ _ | refine blk_drew ?_ | refine blk_alloc ?_ _)); refine blk_put (cs := #[.int .i64 0, .int .i64 0, .int .i64 0, .int .i64 0, .int .i64 x102004_1, .bool x102005_1]) ?_ 4 _ rfl; (with_reducible repeat (first | refine blk_drewN ?_ _ | refine blk_drew ?_ | refine blk_alloc ?_ _)); refine blk_put (cs := #[.int .i64 0, .int .i64 0, .int .i64 0, .int .i64 x102003_1, .int .i64 x102004_1, .bool x102005_1]) ?_ 3 _ rfl; (with_reducible repeat (first | refine blk_drewN ?_ _ | refine blk_drew ?_ | refine blk_alloc ?_ _)); refine blk_put (cs := #[.int .i64 0, .int .i64 0, .int .i64 x102002_1, .int .i64 x102003_1, .int .i64 x102004_1, .bool x102005_1]) ?_ 2 _ rfl; (with_reducible repeat (first | refine blk_drewN ?_ _ | refine blk_drew ?_ | refine blk_alloc ?_ _)); refine blk_put (cs := #[.int .i64 0, .int .i64 x102001_1, .int .i64 x102002_1, .int .i64 x102003_1, .int .i64 x102004_1, .bool x102005_1]) ?_ 1 _ rfl; (with_reducible repeat (first | refine blk_drewN ?_ _ | refine blk_drew ?_ | refine blk_alloc ?_ _)); refine blk_put (cs := #[.int .i64 x102000_1, .int .i64 x102001_1, .int .i64 x102002_1, .int .i64 x102003_1, .int .i64 x102004_1, .bool x102005_1]) ?_ 0 _ rfl; (with_reducible repeat (first | refine blk_drewN ?_ _ | refine blk_drew ?_ | refine blk_alloc ?_ _)); exact BK101.out) Try.underlying38 rfl (by kernel_rfl)) rfl ?_
        exact ⟨by first | rfl | (simp [errW_none, errW_some] <;> rfl) | (simp [*, errW_none, errW_some] <;> rfl), by repeat (first | (with_reducible first | exact HB.out | apply below_alloc | apply pw_below_drewN | apply below_drew1 | refine below_set ?_ GE101.out) | exact HB.out)⟩
end Go.Proofs.Ytchlbnlhjllcbaa.F
namespace Go.Proofs.Ytchlbnlhjllcbaa.Tbl
open Go.RowKit Go.Proofs.Ytchlbnlhjllcbaa.F Go.Proofs.YtchlbnlhjllcbaaW.PrintWords Go.Proofs.YtchlbnlhjllcbaaW.PrintLast Go.Proofs.YtchlbnlhjllcbaaW.PrintMore
attribute [local go_sem] max2_int min2_int max_two min_two max_three min_three max_four min_four
set_option maxHeartbeats 1600000 in
set_option maxRecDepth 100000 in
theorem table_bad (A0 : Option Addr) (c0 : Nat) (l0 : List S58) (A1 : Option Addr) (c1 : Nat) (l1 : List S68) (A2 : Option Addr) (c2 : Nat) (l2 : List S71) (i3 i4 i5 i6 i7 i8 : Int) (w : World) (hh : Aside0 (¬ Head l0.length l1.length l2.length i3 i4 i5 i6 i7 i8)) :
    Calls Try.prog 22 #[.agg #[.slice A0 l0.length c0, .slice A1 l1.length c1, .slice A2 l2.length c2, .int .i64 i3, .int .i64 i4, .int .i64 i5, .int .i64 i6, .int .i64 i7, .int .i64 i8]] w fun e w' => e = .returned (.bool (tableB l0 l1 l2 i3 i4 i5 i6 i7 i8)) ∧ Below w.heap.size w w' := by
  go_enter Try.func22, Try.ntmps22
  go_wp2
  all_goals first
    | (go_ret; exact ⟨tableB_head hh.out, (Below.refl _ _).alloc (Nat.le_refl _) _⟩)
    | (exfalso; exact hh.out (by unfold Head; omega))
set_option maxHeartbeats 8000000 in
set_option maxRecDepth 100000 in
theorem table_good (A0 : Option Addr) (c0 : Nat) (l0 : List S58) (A1 : Option Addr) (c1 : Nat) (l1 : List S68) (A2 : Option Addr) (c2 : Nat) (l2 : List S71) (i3 i4 i5 i6 i7 i8 : Int) (w : World)
    (hr0 : Kd.C k58 w A0 l0.length l0) (hr1 : Kd.C k68 w A1 l1.length l1) (hr2 : Kd.C k71 w A2 l2.length l2) (hh : Head l0.length l1.length l2.length i3 i4 i5 i6 i7 i8) :
    Calls Try.prog 22 #[.agg #[.slice A0 l0.length c0, .slice A1 l1.length c1, .slice A2 l2.length c2, .int .i64 i3, .int .i64 i4, .int .i64 i5, .int .i64 i6, .int .i64 i7, .int .i64 i8]] w fun e w' => e = .returned (.bool (tableB l0 l1 l2 i3 i4 i5 i6 i7 i8)) ∧ Below w.heap.size w w' := by
  have HR0 := Aside0.mk hr0
  have HR1 := Aside0.mk hr1
  have HR2 := Aside0.mk hr2
  have HH := Aside0.mk hh
  clear hr0 hr1 hr2
  obtain ⟨q1, q2, q3, q4, q5, q6, q7, q8, q9, q10, q11, q12, q13, q14, q15, q16⟩ := hh
  go_enter Try.func22, Try.ntmps22
  go_upto_region 1 with (fail)
  generalize hw0 : w.alloc (.cells #[.slice A0 l0.length c0, .slice A1 l1.length c1, .slice A2 l2.length c2, .int .i64 i3, .int .i64 i4, .int .i64 i5, .int .i64 i6, .int .i64 i7, .int .i64 i8] 26 (0, 0)) = w0
  have BK : Aside0 (w0.heap[w.heap.size]? = some (.cells #[.slice A0 l0.length c0, .slice A1 l1.length c1, .slice A2 l2.length c2, .int .i64 i3, .int .i64 i4, .int .i64 i5, .int .i64 i6, .int .i64 i7, .int .i64 i8] 26 (0, 0))) := ⟨by rw [← hw0]; exact heap_alloc_new w _⟩
  have HB : Aside0 (Below w.heap.size w w0) := ⟨by rw [← hw0]; exact (Below.refl _ _).alloc (Nat.le_refl _) _⟩
  have HS : Aside0 (w0.heap.size = w.heap.size + 1) := ⟨by rw [← hw0]; simp⟩
  clear hw0
  go_cut [59] (fun v59 wc => v59 = .bool false ∧ wc = w0)
  case first =>
    have x0_ : w0.cell? ⟨w.heap.size, 0, none⟩ = some (.slice A0 l0.length c0) := (blk_cell BK.out 0).trans rfl
    have x3_ : w0.cell? ⟨w.heap.size, 3, none⟩ = some (.int .i64 i3) := (blk_cell BK.out 3).trans rfl
    have x4_ : w0.cell? ⟨w.heap.size, 4, none⟩ = some (.int .i64 i4) := (blk_cell BK.out 4).trans rfl
    have x5_ : w0.cell? ⟨w.heap.size, 5, none⟩ = some (.int .i64 i5) := (blk_cell BK.out 5).trans rfl
    have x6_ : w0.cell? ⟨w.heap.size, 6, none⟩ = some (.int .i64 i6) := (blk_cell BK.out 6).trans rfl
    go_wp2
    go_meet
    case rel => exact ⟨by simp; omega, rfl⟩
  case rest =>
  obtain ⟨rfl, rfl⟩ := hcut
  go_upto_region 3 with (fail)
  go_cut [89] (fun v89 wx => v89 = .bool false ∧ wx = wc)
  case first =>
    have x1_ : wc.cell? ⟨w.heap.size, 1, none⟩ = some (.slice A1 l1.length c1) := (blk_cell BK.out 1).trans rfl
    have x2_ : wc.cell? ⟨w.heap.size, 2, none⟩ = some (.slice A2 l2.length c2) := (blk_cell BK.out 2).trans rfl
    have x7_ : wc.cell? ⟨w.heap.size, 7, none⟩ = some (.int .i64 i7) := (blk_cell BK.out 7).trans rfl
    have x8_ : wc.cell? ⟨w.heap.size, 8, none⟩ = some (.int .i64 i8) := (blk_cell BK.out 8).trans rfl
    go_wp2
    go_meet
    case rel => exact ⟨by simp; omega, rfl⟩
  case rest =>
  obtain ⟨rfl, rfl⟩ := hcut
  go_wp2
  generalize hw0 : wc = w0 at *
  clear hw0
  go_loopw [3] (fun v3 wr => ∃ i : Int, v3 = .int .i64 i ∧ 0 ≤ i ∧ i ≤ l0.length ∧ Aside0 (∀ j : Int, 0 ≤ j → j < i → LevelOk l0 i3 i4 j) ∧ Aside0 (Below w0.heap.size w0 wr)) (fun v3 _ => l0.length - (intOf v3).toNat)
  case atStart => exact ⟨0, rfl, by omega, by omega, ⟨fun j hj hj' => by omega⟩, ⟨Below.refl _ _⟩⟩
  case round =>
    obtain ⟨i, rfl, hi, hk, HL, HW⟩ := hrel
    have BK1 : Aside0 (wr.heap[w.heap.size]? = some (.cells #[.slice A0 l0.length c0, .slice A1 l1.length c1, .slice A2 l2.length c2, .int .i64 i3, .int .i64 i4, .int .i64 i5, .int .i64 i6, .int .i64 i7, .int .i64 i8] 26 (0, 0))) := ⟨by rw [HW.out.block _ (by rw [HS.out]; omega)]; exact BK.out⟩
    have HC : Aside0 (Kd.C k58 wr A0 l0.length l0) := ⟨Kd.C_below HR0.out (below_step HB.out HW.out)⟩
    have x0_ : wr.cell? ⟨w.heap.size, 0, none⟩ = some (.slice A0 l0.length c0) := (blk_cell BK1.out 0).trans rfl
    have x3_ : wr.cell? ⟨w.heap.size, 3, none⟩ = some (.int .i64 i3) := (blk_cell BK1.out 3).trans rfl
    have x4_ : wr.cell? ⟨w.heap.size, 4, none⟩ = some (.int .i64 i4) := (blk_cell BK1.out 4).trans rfl
    have hsz : w.heap.size < wr.heap.size := by have := HW.out.size; have := HS.out; omega
    by_cases hlt : i < (l0.length : Int)
    · obtain ⟨ad, rfl, x0, x1⟩ := at_T58 HC.out i hi hlt
      obtain ⟨P, hP⟩ : ∃ x, x = (rd_T58 l0 i).f0 := ⟨_, rfl⟩
      obtain ⟨E, hE⟩ : ∃ x, x = (rd_T58 l0 i).f1 := ⟨_, rfl⟩
      rw [← hP] at x0
      rw [← hE] at x1
      have HP := Aside0.mk hP
      have HE := Aside0.mk hE
      have HI := Aside0.mk hi
      have HK := Aside0.mk hlt
      have hlt0 : decide (i < (l0.length : Int)) = true := decide_eq_true hlt
      clear hP hE
      go_wp2_with fail
      generalize hwq : wr.alloc (.cells #[.int .i64 P, .int .i64 E] 58 (0, 0)) = wq
      have HQ : Aside0 (Below wr.heap.size wr wq) := ⟨by rw [← hwq]; exact (Below.refl _ _).alloc (Nat.le_refl _) _⟩
      have l0_ : wq.cell? ⟨wr.heap.size, 0, none⟩ = some (.int .i64 P) := by rw [← hwq]; exact (blk_cell (heap_alloc_new wr _) 0).trans rfl
      have l1_ : wq.cell? ⟨wr.heap.size, 1, none⟩ = some (.int .i64 E) := by rw [← hwq]; exact (blk_cell (heap_alloc_new wr _) 1).trans rfl
      clear hwq
      replace x0_ := pw_cell_below HQ.out x0_
      replace x3_ := pw_cell_below HQ.out x3_
      replace x4_ := pw_cell_below HQ.out x4_
      replace HC : Aside0 (Kd.C k58 wq (some ad) l0.length l0) := ⟨Kd.C_below HC.out HQ.out⟩
      clear x0 x1
      by_cases b0 : P < 1
      · have e0 : decide (P < 1) = true := decide_eq_true b0
        go_quiet (fail)
        go_wp2
        go_ret
        exact ⟨tableB_level HI HK (bad0 HP.out HE.out b0), badw HB.out HW.out HQ.out _⟩
      have e0 : decide (P < 1) = false := decide_eq_false b0
      by_cases b1 : 256 < P
      · have e1 : decide (256 < P) = true := decide_eq_true b1
        go_quiet (fail)
        go_wp2
        go_ret
        exact ⟨tableB_level HI HK (bad1 HP.out HE.out b1), badw HB.out HW.out HQ.out _⟩
      have e1 : decide (256 < P) = false := decide_eq_false b1
      by_cases b2 : E < 0
      · have e2 : decide (E < 0) = true := decide_eq_true b2
        go_quiet (fail)
        go_wp2
        go_ret
        exact ⟨tableB_level HI HK (bad2 HP.out HE.out b2), badw HB.out HW.out HQ.out _⟩
      have e2 : decide (E < 0) = false := decide_eq_false b2
      by_cases b3 : 65536 < E
      · have e3 : decide (65536 < E) = true := decide_eq_true b3
        go_quiet (fail)
        go_wp2
        go_ret
        exact ⟨tableB_level HI HK (bad3 HP.out HE.out b3), badw HB.out HW.out HQ.out _⟩
      have e3 : decide (65536 < E) = false := decide_eq_false b3
      by_cases hi0 : 0 < i
      · have g0 : decide (0 < i) = true := decide_eq_true hi0
        obtain ⟨ad', e', y0, y1⟩ := at_T58 HC.out (i - 1) (by omega) (by omega)
        obtain rfl : ad = ad' := Option.some.inj e'
        clear e'
        obtain ⟨P', hP'⟩ : ∃ x, x = (rd_T58 l0 (i - 1)).f0 := ⟨_, rfl⟩
        obtain ⟨E', hE'⟩ : ∃ x, x = (rd_T58 l0 (i - 1)).f1 := ⟨_, rfl⟩
        rw [show (i - 1).toNat = i.toNat - 1 from by omega] at y0 y1
        rw [← hP'] at y0
        rw [← hE'] at y1
        have HP' := Aside0.mk hP'
        have HE' := Aside0.mk hE'
        have hj1 : 0 ≤ i - 1 := by omega
        have hj3 : 1 ≤ i := by omega
        have hj4 : i ≤ (l0.length : Int) := by omega
        have hj5 : IntKind.i64.wrap (i - 1) = i - 1 := IntWalk.i64_in _ (by omega)
        have hj2 : i - 1 < (l0.length : Int) := by omega
        have hprev := HL.out (i - 1) (by omega) (by omega)
        obtain ⟨⟨z1, z2, z3, z4⟩, _, _⟩ := hprev
        rw [← hP'] at z1 z2
        rw [← hE'] at z3 z4
        clear hP' hE'
        by_cases b4 : P ≤ P'
        · have e4 : decide (P ≤ P') = true := decide_eq_true b4
          go_quiet (fail)
          go_wp2
          go_ret
          exact ⟨tableB_level HI HK (bad4 HP.out HP'.out hi0 b4), badw HB.out HW.out HQ.out _⟩
        have e4 : decide (P ≤ P') = false := decide_eq_false b4
        by_cases b5 : i ≤ i4
        · have e5 : decide (i ≤ i4) = true := decide_eq_true b5
          have m1 := prod_bd (show 0 ≤ P by omega) (show P ≤ 256 by omega) q3 q4
          have m2 := prod_bd (show 0 ≤ P' by omega) (show P' ≤ 256 by omega) q3 q4
          obtain ⟨m11, m12⟩ := m1
          obtain ⟨m21, m22⟩ := m2
          by_cases b6 : E' - P' * i3 < E - P * i3
          · have e6 : decide (E' - P' * i3 < E - P * i3) = true := decide_eq_true b6
            go_quiet (fail)
            go_wp2_with fail
            go_quiet (fail)
            go_wp2
            go_ret
            exact ⟨tableB_level HI HK (bad6 HP.out HE.out HP'.out HE'.out hi0 b5 b6), pw_below_drewN (badw HB.out HW.out HQ.out _) _⟩
          · have e6 : decide (E' - P' * i3 < E - P * i3) = false := decide_eq_false b6
            go_quiet (fail)
            go_wp2_with fail
            go_quiet (fail)
            go_wp2
            go_roundw
            case rel => exact ⟨i + 1, rfl, by omega, by omega, ⟨levels_next HL.out (ok_level HP.out HE.out (by omega) (by omega) (by omega) (by omega) (fun _ => by rw [← HP'.out, ← HP.out]; omega) (fun _ _ => by rw [← HP'.out, ← HP.out, ← HE'.out, ← HE.out]; omega))⟩, ⟨nextw HW.out HQ.out _⟩⟩
            case measure => simp [intOf]; omega
        · have e5 : decide (i ≤ i4) = false := decide_eq_false b5
          go_quiet (fail)
          go_wp2_with fail
          go_quiet (fail)
          go_wp2
          go_roundw
          case rel => exact ⟨i + 1, rfl, by omega, by omega, ⟨levels_next HL.out (ok_level HP.out HE.out (by omega) (by omega) (by omega) (by omega) (fun _ => by rw [← HP'.out, ← HP.out]; omega) (fun _ h => by omega))⟩, ⟨nextw HW.out HQ.out _⟩⟩
          case measure => simp [intOf]; omega
      · have g0 : decide (0 < i) = false := decide_eq_false hi0
        go_quiet (fail)
        go_wp2_with fail
        go_quiet (fail)
        go_wp2
        go_roundw
        case rel => exact ⟨i + 1, rfl, by omega, by omega, ⟨levels_next HL.out (ok_level HP.out HE.out (by omega) (by omega) (by omega) (by omega) (fun h => by omega) (fun h => by omega))⟩, ⟨nextw HW.out HQ.out _⟩⟩
        case measure => simp [intOf]; omega
    · have hge : i = (l0.length : Int) := by omega
      have HLL : Aside0 (∀ j : Int, 0 ≤ j → j < l0.length → LevelOk l0 i3 i4 j) := ⟨by rw [← hge]; exact HL.out⟩
      clear HL hge x4_ hi hk
      have hlt0 : decide (i < (l0.length : Int)) = false := decide_eq_false hlt
      have HB1 : Aside0 (Below w.heap.size w wr) := ⟨below_step HB.out HW.out⟩
      clear HB HW HC BK
      go_wp2
      clear hlt hlt0
      obtain ⟨w1, hw1⟩ : ∃ w1 : World, w1 = wr := ⟨_, rfl⟩
      rw [← hw1] at BK1 x3_ HB1 hsz ⊢
      clear hw1 x0_
      go_loopw [5] (fun v5 wx => ∃ i : Int, v5 = .int .i64 i ∧ 0 ≤ i ∧ i ≤ l1.length ∧ Aside0 (∀ j : Int, 0 ≤ j → j < i → SleepOk (rd_T68 l1 j) i3) ∧ Aside0 (Below w1.heap.size w1 wx)) (fun v5 _ => l1.length - (intOf v5).toNat)
      case atStart => exact ⟨0, rfl, by omega, by omega, ⟨fun j hj hj' => by omega⟩, ⟨Below.refl _ _⟩⟩
      case round =>
        obtain ⟨i, rfl, hi, hk, HL, HW⟩ := hrel
        have x1_ : wr.cell? ⟨w.heap.size, 1, none⟩ = some (.slice A1 l1.length c1) := pw_cell_below HW.out ((blk_cell BK1.out 1).trans rfl)
        have x3x : wr.cell? ⟨w.heap.size, 3, none⟩ = some (.int .i64 i3) := pw_cell_below HW.out x3_
        have HC : Aside0 (Kd.C k68 wr A1 l1.length l1) := ⟨Kd.C_below HR1.out (below_step HB1.out HW.out)⟩
        by_cases hlt : i < (l1.length : Int)
        · obtain ⟨ad, rfl, y0, y1, y2, y3, y4, y5⟩ := at_T68 HC.out i hi hlt
          have hlt0 : decide (i < (l1.length : Int)) = true := decide_eq_true hlt
          obtain ⟨s, hs⟩ : ∃ s, s = rd_T68 l1 i := ⟨_, rfl⟩
          rw [← hs] at y0 y1 y2 y3 y4 y5
          have HS1 := Aside0.mk hs
          have HI := Aside0.mk hi
          have HK := Aside0.mk hlt
          clear hs
          by_cases hok : SleepOk s i3
          · have HOK := Aside0.mk hok
            clear hok
            go_wp2_with fail
            go_still_tail 7, (by kernel_rfl)
            change wpList _ _ _ _ _ wr.drew
            have HD : Aside0 (Below wr.heap.size wr wr.drew) := ⟨(Below.refl _ _).drew⟩
            generalize wr.drew = w2 at HD ⊢
            go_wp2_with fail
            refine (dormouseref01_Sleep.calls _ _ _ _ _ _ _ _ _ (sleep_yes HOK.out)).mono ?_; rintro e w3 ⟨rfl, hb⟩
            have HB3 := Aside0.mk hb
            clear hb
            go_wp2
            go_roundw
            case rel => exact ⟨i + 1, rfl, by omega, by omega, ⟨next_one HL.out (by rw [← HS1.out]; exact HOK.out)⟩, ⟨tail_w1 HW.out HD.out HB3.out⟩⟩
            case measure => simp [intOf]; omega
          · have HOK := Aside0.mk hok
            clear hok
            go_wp2_with fail
            go_still_tail 7, (by kernel_rfl)
            change wpList _ _ _ _ _ wr.drew
            have HD : Aside0 (Below wr.heap.size wr wr.drew) := ⟨(Below.refl _ _).drew⟩
            generalize wr.drew = w2 at HD ⊢
            go_wp2_with fail
            refine (dormouseref01_Sleep.calls _ _ _ _ _ _ _ _ _ (sleep_no HOK.out)).mono ?_; rintro e w3 ⟨rfl, hb⟩
            have HB3 := Aside0.mk hb
            clear hb
            go_wp2
            go_ret
            exact ⟨tableB_sleep HS1.out HI.out HK.out HOK.out, tail_w HB1.out HW.out HD.out HB3.out⟩
        · have hge : i = (l1.length : Int) := by omega
          have HSS : Aside0 (∀ j : Int, 0 ≤ j → j < l1.length → SleepOk (rd_T68 l1 j) i3) := ⟨by rw [← hge]; exact HL.out⟩
          clear HL hge x3x hi hk x3_
          have hlt0 : decide (i < (l1.length : Int)) = false := decide_eq_false hlt
          have HB2 : Aside0 (Below w.heap.size w wr) := ⟨below_step HB1.out HW.out⟩
          have BK2 : Aside0 (wr.heap[w.heap.size]? = some (.cells #[.slice A0 l0.length c0, .slice A1 l1.length c1, .slice A2 l2.length c2, .int .i64 i3, .int .i64 i4, .int .i64 i5, .int .i64 i6, .int .i64 i7, .int .i64 i8] 26 (0, 0))) := ⟨by rw [HW.out.block _ hsz]; exact BK1.out⟩
          clear HB1 HW HC BK1
          go_wp2
          clear hlt hlt0
          obtain ⟨w2, hw2⟩ : ∃ w2 : World, w2 = wr := ⟨_, rfl⟩
          rw [← hw2] at BK2 HB2 ⊢
          clear hw2 x1_
          go_loopw [6] (fun v6 wx => ∃ i : Int, v6 = .int .i64 i ∧ 0 ≤ i ∧ i ≤ l2.length ∧ Aside0 (∀ j : Int, 0 ≤ j → j < i → DeviceOk (rd_T71 l2 j)) ∧ Aside0 (Below w2.heap.size w2 wx)) (fun v6 _ => l2.length - (intOf v6).toNat)
          case atStart => exact ⟨0, rfl, by omega, by omega, ⟨fun j hj hj' => by omega⟩, ⟨Below.refl _ _⟩⟩
          case round =>
            obtain ⟨i, rfl, hi, hk, HL, HW⟩ := hrel
            have x2_ : wr.cell? ⟨w.heap.size, 2, none⟩ = some (.slice A2 l2.length c2) := pw_cell_below HW.out ((blk_cell BK2.out 2).trans rfl)
            have HC : Aside0 (Kd.C k71 wr A2 l2.length l2) := ⟨Kd.C_below HR2.out (below_step HB2.out HW.out)⟩
            by_cases hlt : i < (l2.length : Int)
            · obtain ⟨ad, rfl, y0, y1, y2, y3, y4, y5, y6⟩ := at_T71 HC.out i hi hlt
              have hlt0 : decide (i < (l2.length : Int)) = true := decide_eq_true hlt
              obtain ⟨s, hs⟩ : ∃ s, s = rd_T71 l2 i := ⟨_, rfl⟩
              rw [← hs] at y0 y1 y2 y3 y4 y5 y6
              have HS1 := Aside0.mk hs
              have HI := Aside0.mk hi
              have HK := Aside0.mk hlt
              clear hs
              by_cases hok : DeviceOk s
              · have HOK := Aside0.mk hok
                clear hok
                go_wp2_with fail
                refine (dormouseref01_Device.calls _ _ _ _ _ _ _ _ _ (device_yes HOK.out)).mono ?_; rintro e w3 ⟨rfl, hb⟩
                have HB3 := Aside0.mk hb
                clear hb
                go_wp2
                go_roundw
                case rel => exact ⟨i + 1, rfl, by omega, by omega, ⟨next_one HL.out (by rw [← HS1.out]; exact HOK.out)⟩, ⟨below_step HW.out HB3.out⟩⟩
                case measure => simp [intOf]; omega
              · have HOK := Aside0.mk hok
                clear hok
                go_wp2_with fail
                refine (dormouseref01_Device.calls _ _ _ _ _ _ _ _ _ (device_no HOK.out)).mono ?_; rintro e w3 ⟨rfl, hb⟩
                have HB3 := Aside0.mk hb
                clear hb
                go_wp2
                go_ret
                exact ⟨tableB_device HS1.out HI.out HK.out HOK.out, below_step (below_step HB2.out HW.out) HB3.out⟩
            · have hge : i = (l2.length : Int) := by omega
              have HDD : Aside0 (∀ j : Int, 0 ≤ j → j < l2.length → DeviceOk (rd_T71 l2 j)) := ⟨by rw [← hge]; exact HL.out⟩
              clear HL hge hi hk
              have hlt0 : decide (i < (l2.length : Int)) = false := decide_eq_false hlt
              go_wp2
              go_ret
              exact ⟨tableB_yes ⟨HH.out, HLL.out, HSS.out, HDD.out⟩, below_step HB2.out HW.out⟩
theorem table_calls (A0 : Option Addr) (c0 : Nat) (l0 : List S58) (A1 : Option Addr) (c1 : Nat) (l1 : List S68) (A2 : Option Addr) (c2 : Nat) (l2 : List S71) (i3 i4 i5 i6 i7 i8 : Int) (w : World)
    (hr0 : Kd.C k58 w A0 l0.length l0) (hr1 : Kd.C k68 w A1 l1.length l1) (hr2 : Kd.C k71 w A2 l2.length l2) :
    Calls Try.prog 22 #[.agg #[.slice A0 l0.length c0, .slice A1 l1.length c1, .slice A2 l2.length c2, .int .i64 i3, .int .i64 i4, .int .i64 i5, .int .i64 i6, .int .i64 i7, .int .i64 i8]] w fun e w' => e = .returned (.bool (tableB l0 l1 l2 i3 i4 i5 i6 i7 i8)) ∧ Below w.heap.size w w' := by
  by_cases hh : Head l0.length l1.length l2.length i3 i4 i5 i6 i7 i8
  · exact table_good A0 c0 l0 A1 c1 l1 A2 c2 l2 i3 i4 i5 i6 i7 i8 w hr0 hr1 hr2 hh
  · exact table_bad A0 c0 l0 A1 c1 l1 A2 c2 l2 i3 i4 i5 i6 i7 i8 w ⟨hh⟩
end Go.Proofs.Ytchlbnlhjllcbaa.Tbl
namespace Go.Proofs.Ytchlbnlhjllcbaa.F
open Go.RowKit Go.Proofs.YtchlbnlhjllcbaaW.PrintWords Go.Proofs.YtchlbnlhjllcbaaW.PrintLast Go.Proofs.YtchlbnlhjllcbaaW.PrintMore
attribute [local go_sem] max2_int min2_int max_two min_two max_three min_three max_four min_four   -- for this text's walks alone
set_option linter.unusedVariables false
set_option linter.unusedSimpArgs false
noncomputable def dormouseref01_Table.f (k : Nat) (l0_0 : List (S58)) (l0_1 : List (S68)) (l0_2 : List (S71)) (a0_3 : Int) (a0_4 : Int) (a0_5 : Int) (a0_6 : Int) (a0_7 : Int) (a0_8 : Int) : Option (Bool) := some (Tbl.tableB l0_0 l0_1 l0_2 a0_3 a0_4 a0_5 a0_6 a0_7 a0_8)
theorem dormouseref01_Table.calls (k : Nat) (A0_0 : Option Addr) (c0_0 : Nat) (l0_0 : List (S58)) (A0_1 : Option Addr) (c0_1 : Nat) (l0_1 : List (S68)) (A0_2 : Option Addr) (c0_2 : Nat) (l0_2 : List (S71)) (a0_3 : Int) (a0_4 : Int) (a0_5 : Int) (a0_6 : Int) (a0_7 : Int) (a0_8 : Int) (r : Bool) (w : World) (hr0_0 : Kd.C k58 w A0_0 l0_0.length l0_0) (hc0_0 : l0_0.length ≤ c0_0) (hr0_1 : Kd.C k68 w A0_1 l0_1.length l0_1) (hc0_1 : l0_1.length ≤ c0_1) (hr0_2 : Kd.C k71 w A0_2 l0_2.length l0_2) (hc0_2 : l0_2.length ≤ c0_2) (h : dormouseref01_Table.f k l0_0 l0_1 l0_2 a0_3 a0_4 a0_5 a0_6 a0_7 a0_8 = some r) :
    Calls Try.prog 22 #[.agg #[.slice A0_0 l0_0.length c0_0, .slice A0_1 l0_1.length c0_1, .slice A0_2 l0_2.length c0_2, .int .i64 a0_3, .int .i64 a0_4, .int .i64 a0_5, .int .i64 a0_6, .int .i64 a0_7, .int .i64 a0_8]] w fun e w' => e = .returned (.bool r) ∧ Below w.heap.size w w' := by
  obtain rfl := Option.some.inj h
  exact Tbl.table_calls A0_0 c0_0 l0_0 A0_1 c0_1 l0_1 A0_2 c0_2 l0_2 a0_3 a0_4 a0_5 a0_6 a0_7 a0_8 w hr0_0 hr0_1 hr0_2
end Go.Proofs.Ytchlbnlhjllcbaa.F
namespace Go.Proofs.Ytchlbnlhjllcbaa.Sla
open Go.RowKit Go.Proofs.Ytchlbnlhjllcbaa.F Go.Proofs.Ytchlbnlhjllcbaa.Tbl Go.Proofs.Ytchlbnlhjllcbaa.Adm Go.Proofs.YtchlbnlhjllcbaaW.PrintWords Go.Proofs.YtchlbnlhjllcbaaW.PrintLast
set_option linter.unusedVariables false
def NoneT (t : S36) : Prop := t.f0 = 0 ∧ t.f1 = 0 ∧ t.f2.length = 0 ∧ t.f3.length = 0
instance (t : S36) : Decidable (NoneT t) := by unfold NoneT; infer_instance
structure GoodV (l0 : List S58) (l1 : List S68) (l2 : List S71) (idle crit sw swE sems hor : Int) (ts : List S36) (nx : List Int) (now a : Int) : Prop where
  table : TableOk l0 l1 l2 idle crit sw swE sems hor
  few : ts.length ≤ 64
  len : nx.length = ts.length
  now : 0 ≤ now ∧ now ≤ 2097152
  at_ : 0 ≤ a ∧ a ≤ 2097152
  task : ∀ i : Nat, i < ts.length → NoneT (rd_T36 ts i) ∨ TaskOk l2.length sems hor (rd_T36 ts i)
  next : ∀ i : Nat, i < ts.length → 0 ≤ rd nx i ∧ rd nx i ≤ 2097152
section
variable {l0 : List S58} {l1 : List S68} {l2 : List S71} {idle crit sw swE sems hor : Int} {ts : List S36} {nx : List Int} {now a : Int}
theorem moment_some (n : Int) : dormouseref09_moment.f n = some (decide (0 ≤ n ∧ n ≤ 2097152)) := by
  unfold dormouseref09_moment.f
  by_cases h : n ≥ 0
  · rw [if_pos h]; simp; omega
  · rw [if_neg h]; simp; omega
def zt (l0 : List S58) (sw now m : Int) (t : S36) (n : Int) : Int := if 0 < t.f0 then mn (mx (partOf l0 sw 0 t) 0) 17179869184 * mn (mx (m - mx now n) 0) 134217728 else 0
def zsum (l0 : List S58) (sw now m : Int) (nx : List Int) : List S36 → Nat → Int
  | [], _ => 0
  | t :: l, i => zt l0 sw now m t (rd nx i) + zsum l0 sw now m nx l (i + 1)
theorem zt_bd {now m : Int} (h0 : 0 ≤ now) (h1 : m ≤ 4194304) (t : S36) (n : Int) : 0 ≤ zt l0 sw now m t n ∧ zt l0 sw now m t n ≤ 72057594037927936 := by
  unfold zt
  split
  · have a1 : 0 ≤ mn (mx (partOf l0 sw 0 t) 0) 17179869184 := by unfold mn mx; split <;> split <;> omega
    have a2 : mn (mx (partOf l0 sw 0 t) 0) 17179869184 ≤ 17179869184 := by unfold mn mx; split <;> split <;> omega
    have b1 : 0 ≤ mn (mx (m - mx now n) 0) 134217728 := by unfold mn mx; split <;> split <;> split <;> omega
    have b2 : mn (mx (m - mx now n) 0) 134217728 ≤ 4194304 := by unfold mn mx; split <;> split <;> split <;> omega
    have c1 := Int.mul_nonneg a1 b1
    have c2 : mn (mx (partOf l0 sw 0 t) 0) 17179869184 * mn (mx (m - mx now n) 0) 134217728 ≤ 17179869184 * 4194304 := Int.mul_le_mul a2 b2 b1 (by omega)
    omega
  · omega
end
end Go.Proofs.Ytchlbnlhjllcbaa.Sla
