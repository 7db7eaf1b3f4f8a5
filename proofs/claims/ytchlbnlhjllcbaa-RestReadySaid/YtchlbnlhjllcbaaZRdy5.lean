/- When the CPU has to be there again, in any view. Conditions: none. -/
import Derived.Test.YtchlbnlhjllcbaaZRdy4
import Derived.IntWalk
import Derived.Deep.RegionHeld3
import Derived.Test.YtchlbnlhjllcbaaRows
import Derived.WalkKit
import Derived.ProofKit
import Derived.OpenShut
import Derived.ShutString
import Derived.ChangeOld
import Derived.Below
import Derived.SizedLaws
namespace Go.Proofs.Ytchlbnlhjllcbaa.F
open Go.RowKit Go.Proofs.YtchlbnlhjllcbaaW.PrintWords Go.Proofs.YtchlbnlhjllcbaaW.PrintLast Go.Proofs.YtchlbnlhjllcbaaW.PrintMore
attribute [local go_sem] max2_int min2_int max_two min_two max_three min_three max_four min_four   -- for this text's walks alone
set_option linter.unusedVariables false
set_option linter.unusedSimpArgs false
def dormouseref09_Quanta.f (l0_0 : List (S58)) (l0_1 : List (S68)) (l0_2 : List (S71)) (a0_3 : Int) (a0_4 : Int) (a0_5 : Int) (a0_6 : Int) (a0_7 : Int) (a0_8 : Int) (a1_0 : Int) (a1_1 : Int) (a1_2 : Int) (a1_3 : Int) (a1_4 : Int) (a1_5 : Bool) : Option (Int) := (dormouseref01_Max.f a1_3 0).bind fun t313 => (if 0 < (l0_0.length : Int) then (if a1_5 = true then (some (wrap64 ((wrap64 (t313 * ((rd_T58 l0_0 0).f0))) + a0_5))) else (some (wrap64 ((wrap64 ((wrap64 (t313 * ((rd_T58 l0_0 0).f0))) + a0_5)) + a0_5)))) else (none))
set_option maxHeartbeats 8000000 in
set_option maxRecDepth 100000 in
theorem dormouseref09_Quanta.calls (A0_0 : Option Addr) (c0_0 : Nat) (l0_0 : List (S58)) (A0_1 : Option Addr) (c0_1 : Nat) (l0_1 : List (S68)) (A0_2 : Option Addr) (c0_2 : Nat) (l0_2 : List (S71)) (a0_3 : Int) (a0_4 : Int) (a0_5 : Int) (a0_6 : Int) (a0_7 : Int) (a0_8 : Int) (a1_0 : Int) (a1_1 : Int) (a1_2 : Int) (a1_3 : Int) (a1_4 : Int) (a1_5 : Bool) (r : Int) (w : World) (hr0_0 : Kd.C k58 w A0_0 l0_0.length l0_0) (hc0_0 : l0_0.length ≤ c0_0) (hr0_1 : Kd.C k68 w A0_1 l0_1.length l0_1) (hc0_1 : l0_1.length ≤ c0_1) (hr0_2 : Kd.C k71 w A0_2 l0_2.length l0_2) (hc0_2 : l0_2.length ≤ c0_2) (h : dormouseref09_Quanta.f l0_0 l0_1 l0_2 a0_3 a0_4 a0_5 a0_6 a0_7 a0_8 a1_0 a1_1 a1_2 a1_3 a1_4 a1_5 = some r) :
    Calls Try.prog 53 #[.agg #[.slice A0_0 l0_0.length c0_0, .slice A0_1 l0_1.length c0_1, .slice A0_2 l0_2.length c0_2, .int .i64 a0_3, .int .i64 a0_4, .int .i64 a0_5, .int .i64 a0_6, .int .i64 a0_7, .int .i64 a0_8], .agg #[.int .i64 a1_0, .int .i64 a1_1, .int .i64 a1_2, .int .i64 a1_3, .int .i64 a1_4, .bool a1_5]] w fun e w' => e = .returned (.int .i64 r) ∧ Below w.heap.size w w' := by
  have hu26 := Try.underlying26
  have hu38 := Try.underlying38
  have HR0_0 := Aside0.mk hr0_0
  have HC0_0 := Aside0.mk hc0_0
  clear hr0_0 hc0_0
  have HR0_1 := Aside0.mk hr0_1
  have HC0_1 := Aside0.mk hc0_1
  clear hr0_1 hc0_1
  have HR0_2 := Aside0.mk hr0_2
  have HC0_2 := Aside0.mk hc0_2
  clear hr0_2 hc0_2
  have HB := Aside0.mk (Below.refl w.heap.size w)
  have H : ((dormouseref01_Max.f a1_3 0).bind fun t313 => (if 0 < (l0_0.length : Int) then (if a1_5 = true then (some (wrap64 ((wrap64 (t313 * ((rd_T58 l0_0 0).f0))) + a0_5))) else (some (wrap64 ((wrap64 ((wrap64 (t313 * ((rd_T58 l0_0 0).f0))) + a0_5)) + a0_5)))) else (none))) = some r := h
  clear h
  replace H := Option.bind_eq_some_iff.mp H
  obtain ⟨t313, A30, H⟩ := H
  replace H : (if 0 < (l0_0.length : Int) then (if a1_5 = true then (some (wrap64 ((wrap64 (t313 * ((rd_T58 l0_0 0).f0))) + a0_5))) else (some (wrap64 ((wrap64 ((wrap64 (t313 * ((rd_T58 l0_0 0).f0))) + a0_5)) + a0_5)))) else (none)) = some r := H
  have A3 := Aside0.mk A30
  clear A30
  by_cases c4 : 0 < (l0_0.length : Int)
  · rw [if_pos c4] at H
    have c4b0 : decide (0 < (l0_0.length : Int)) = true := decide_eq_true c4
    have c4b1 : decide (0 < l0_0.length) = true := decide_eq_true (by omega)
    clear c4
    by_cases c5 : a1_5 = true
    · subst c5
      have H1 : (some (wrap64 ((wrap64 (t313 * ((rd_T58 l0_0 0).f0))) + a0_5))) = some r := by rw [if_pos rfl] at H; exact H
      clear H
      have H := H1
      clear H1
      obtain rfl := Option.some.inj H
      go_enter Try.func53, Try.ntmps53
      go_wp2_with (first | ((with_reducible refine gate_dst (N := 2) rfl ?_); refine box_event ?hg (N := 2) ?hd (cs := #[.slice A0_0 l0_0.length c0_0, .slice A0_1 l0_1.length c0_1, .slice A0_2 l0_2.length c0_2, .int .i64 a0_3, .int .i64 a0_4, .int .i64 a0_5, .int .i64 a0_6, .int .i64 a0_7, .int .i64 a0_8]) (t := 26) ?hr ?_; (case hd => rfl); (case hg => rfl); (case hr => first | (go_simp; done) | (go_simp; rfl)); intro gb311 hg w6 hbox hb; have n0_ := Aside0.mk (below_step (by repeat (first | (with_reducible first | exact HB.out | apply below_alloc | apply pw_below_drewN | apply below_drew1) | exact HB.out)) hb); have n1_ := Aside0.mk (hbox); have n2_ := Aside0.mk ((by rw [hg]; exact (below_size (by repeat (first | (with_reducible first | exact HB.out | apply below_alloc | apply pw_below_drewN | apply below_drew1) | exact HB.out))) : w.heap.size ≤ gb311)); have n3_ := Aside0.mk ((by rw [hg]; exact (below_size (by repeat (first | (with_reducible first | exact HB.out | apply below_alloc | apply pw_below_drewN | apply below_drew1) | exact HB.out))) : w.heap.size ≤ gb311)); clear HB; have HB := n0_; have BK311 := n1_; have GW311 := n2_; have GE311 := n3_; clear n0_ n1_ n2_ n3_; clear hb hbox hg) | ((with_reducible refine gate_dst (N := 3) rfl ?_); refine box_event ?hg (N := 3) ?hd (cs := #[.int .i64 a1_0, .int .i64 a1_1, .int .i64 a1_2, .int .i64 a1_3, .int .i64 a1_4, .bool true]) (t := 38) ?hr ?_; (case hd => rfl); (case hg => rfl); (case hr => first | (go_simp; done) | (go_simp; rfl)); intro gb312 hg w7 hbox hb; have n0_ := Aside0.mk (blk_below (g := gb311) (o := .cells #[.slice A0_0 l0_0.length c0_0, .slice A0_1 l0_1.length c0_1, .slice A0_2 l0_2.length c0_2, .int .i64 a0_3, .int .i64 a0_4, .int .i64 a0_5, .int .i64 a0_6, .int .i64 a0_7, .int .i64 a0_8] 26 (0, 0)) (by (with_reducible repeat (first | refine blk_drewN ?_ _ | refine blk_drew ?_ | refine blk_alloc ?_ _)); exact BK311.out) hb); have n1_ := Aside0.mk (below_step (by repeat (first | (with_reducible first | exact HB.out | apply below_alloc | apply pw_below_drewN | apply below_drew1 | refine below_set ?_ GE311.out) | exact HB.out)) hb); have n2_ := Aside0.mk (hbox); have n3_ := Aside0.mk ((by rw [hg]; exact (below_size (by repeat (first | (with_reducible first | exact HB.out | apply below_alloc | apply pw_below_drewN | apply below_drew1 | refine below_set ?_ GE311.out) | exact HB.out))) : w.heap.size ≤ gb312)); have n4_ := Aside0.mk ((by rw [hg]; exact (below_size (by repeat (first | (with_reducible first | exact HB.out | apply below_alloc | apply pw_below_drewN | apply below_drew1 | refine below_set ?_ GE311.out) | exact HB.out))) : w.heap.size ≤ gb312)); have n5_ := Aside0.mk ((by rw [hg]; exact Nat.ne_of_lt (blk_lt (g := gb311) (o := .cells #[.slice A0_0 l0_0.length c0_0, .slice A0_1 l0_1.length c0_1, .slice A0_2 l0_2.length c0_2, .int .i64 a0_3, .int .i64 a0_4, .int .i64 a0_5, .int .i64 a0_6, .int .i64 a0_7, .int .i64 a0_8] 26 (0, 0)) (by (with_reducible repeat (first | refine blk_drewN ?_ _ | refine blk_drew ?_ | refine blk_alloc ?_ _)); exact BK311.out)) : gb311 ≠ gb312)); have n6_ := Aside0.mk ((by rw [hg]; exact Nat.ne_of_gt (blk_lt (g := gb311) (o := .cells #[.slice A0_0 l0_0.length c0_0, .slice A0_1 l0_1.length c0_1, .slice A0_2 l0_2.length c0_2, .int .i64 a0_3, .int .i64 a0_4, .int .i64 a0_5, .int .i64 a0_6, .int .i64 a0_7, .int .i64 a0_8] 26 (0, 0)) (by (with_reducible repeat (first | refine blk_drewN ?_ _ | refine blk_drew ?_ | refine blk_alloc ?_ _)); exact BK311.out)) : gb312 ≠ gb311)); clear BK311; clear HB; have BK311 := n0_; have HB := n1_; have BK312 := n2_; have GW312 := n3_; have GE312 := n4_; have NB311_312 := n5_; have NB312_311 := n6_; clear n0_ n1_ n2_ n3_ n4_ n5_ n6_; clear hb hbox hg; have hnb8 := NB312_311.out; have hnc8 := NB311_312.out; have hcz9_0 : w7.cell? ⟨gb312, 0, none⟩ = some (.int .i64 a1_0) := (blk_cell BK312.out 0).trans rfl; have hcz9_1 : w7.cell? ⟨gb312, 1, none⟩ = some (.int .i64 a1_1) := (blk_cell BK312.out 1).trans rfl; have hcz9_2 : w7.cell? ⟨gb312, 2, none⟩ = some (.int .i64 a1_2) := (blk_cell BK312.out 2).trans rfl; have hcz9_3 : w7.cell? ⟨gb312, 3, none⟩ = some (.int .i64 a1_3) := (blk_cell BK312.out 3).trans rfl; have hcz9_4 : w7.cell? ⟨gb312, 4, none⟩ = some (.int .i64 a1_4) := (blk_cell BK312.out 4).trans rfl; have hcz9_5 : w7.cell? ⟨gb312, 5, none⟩ = some (.bool true) := (blk_cell BK312.out 5).trans rfl; have hfz9_0 := blk_frozen BK312.out 0; have hfz9_1 := blk_frozen BK312.out 1; have hfz9_2 := blk_frozen BK312.out 2; have hfz9_3 := blk_frozen BK312.out 3; have hfz9_4 := blk_frozen BK312.out 4; have hfz9_5 := blk_frozen BK312.out 5) | (go_at_call 18; (with_reducible refine (dormouseref01_Max.calls a1_3 0 t313 _ A3.out).mono ?_); rintro e w' ⟨rfl, ⟨nd, rfl⟩⟩; (try first | exact ⟨rfl, _, World.drewN_drewN _ _ _⟩ | exact ⟨rfl, _, Eq.trans (World.drewN_drewN _ _ _) (congrArg (World.drewN _) (Nat.add_assoc _ _ _))⟩); have hcz10_0 : w7.cell? ⟨gb311, 0, none⟩ = some (.slice A0_0 l0_0.length c0_0) := (blk_cell BK311.out 0).trans rfl; have hcz10_1 : w7.cell? ⟨gb311, 1, none⟩ = some (.slice A0_1 l0_1.length c0_1) := (blk_cell BK311.out 1).trans rfl; have hcz10_2 : w7.cell? ⟨gb311, 2, none⟩ = some (.slice A0_2 l0_2.length c0_2) := (blk_cell BK311.out 2).trans rfl; have hcz10_3 : w7.cell? ⟨gb311, 3, none⟩ = some (.int .i64 a0_3) := (blk_cell BK311.out 3).trans rfl; have hcz10_4 : w7.cell? ⟨gb311, 4, none⟩ = some (.int .i64 a0_4) := (blk_cell BK311.out 4).trans rfl; have hcz10_5 : w7.cell? ⟨gb311, 5, none⟩ = some (.int .i64 a0_5) := (blk_cell BK311.out 5).trans rfl; have hcz10_6 : w7.cell? ⟨gb311, 6, none⟩ = some (.int .i64 a0_6) := (blk_cell BK311.out 6).trans rfl; have hcz10_7 : w7.cell? ⟨gb311, 7, none⟩ = some (.int .i64 a0_7) := (blk_cell BK311.out 7).trans rfl; have hcz10_8 : w7.cell? ⟨gb311, 8, none⟩ = some (.int .i64 a0_8) := (blk_cell BK311.out 8).trans rfl; have hfz10_0 := blk_frozen BK311.out 0; have hfz10_1 := blk_frozen BK311.out 1; have hfz10_2 := blk_frozen BK311.out 2; have hfz10_3 := blk_frozen BK311.out 3; have hfz10_4 := blk_frozen BK311.out 4; have hfz10_5 := blk_frozen BK311.out 5; have hfz10_6 := blk_frozen BK311.out 6; have hfz10_7 := blk_frozen BK311.out 7; have hfz10_8 := blk_frozen BK311.out 8; have p314 : 0 ≤ (0 : Int) := (by omega); have q314 : 0 < (l0_0.length : Int) := of_decide_eq_true (by first | (with_reducible assumption) | assumption); obtain ⟨ad314, e314, hx314_0, hx314_1⟩ := at_T58 HR0_0.out 0 p314 q314; cases e314; have qi314 : (0 < l0_0.length) = True := eq_true (by omega); (try rw [show ((0 : Int)).toNat = 0 from rfl] at hx314_0); (try rw [show 0 * 2 = 0 from rfl] at hx314_0); (try rw [Addr.add_zero'] at hx314_0); (try rw [show ((0 : Int)).toNat = 0 from rfl] at hx314_1); (try rw [show 0 * 2 = 0 from rfl] at hx314_1); (try rw [Addr.add_zero'] at hx314_1); replace hx314_0 := (HB.out.cell (World.block_lt_of_cell? w _ hx314_0)).trans hx314_0; replace hx314_1 := (HB.out.cell (World.block_lt_of_cell? w _ hx314_1)).trans hx314_1; replace p314 := eq_true p314; replace q314 := eq_true q314))
      repeat (go_quiet (first | ((with_reducible refine gate_dst (N := 2) rfl ?_); refine box_event ?hg (N := 2) ?hd (cs := #[.slice A0_0 l0_0.length c0_0, .slice A0_1 l0_1.length c0_1, .slice A0_2 l0_2.length c0_2, .int .i64 a0_3, .int .i64 a0_4, .int .i64 a0_5, .int .i64 a0_6, .int .i64 a0_7, .int .i64 a0_8]) (t := 26) ?hr ?_; (case hd => rfl); (case hg => rfl); (case hr => first | (go_simp; done) | (go_simp; rfl)); intro gb311 hg w6 hbox hb; have n0_ := Aside0.mk (below_step (by repeat (first | (with_reducible first | exact HB.out | apply below_alloc | apply pw_below_drewN | apply below_drew1) | exact HB.out)) hb); have n1_ := Aside0.mk (hbox); have n2_ := Aside0.mk ((by rw [hg]; exact (below_size (by repeat (first | (with_reducible first | exact HB.out | apply below_alloc | apply pw_below_drewN | apply below_drew1) | exact HB.out))) : w.heap.size ≤ gb311)); have n3_ := Aside0.mk ((by rw [hg]; exact (below_size (by repeat (first | (with_reducible first | exact HB.out | apply below_alloc | apply pw_below_drewN | apply below_drew1) | exact HB.out))) : w.heap.size ≤ gb311)); clear HB; have HB := n0_; have BK311 := n1_; have GW311 := n2_; have GE311 := n3_; clear n0_ n1_ n2_ n3_; clear hb hbox hg) | ((with_reducible refine gate_dst (N := 3) rfl ?_); refine box_event ?hg (N := 3) ?hd (cs := #[.int .i64 a1_0, .int .i64 a1_1, .int .i64 a1_2, .int .i64 a1_3, .int .i64 a1_4, .bool true]) (t := 38) ?hr ?_; (case hd => rfl); (case hg => rfl); (case hr => first | (go_simp; done) | (go_simp; rfl)); intro gb312 hg w7 hbox hb; have n0_ := Aside0.mk (blk_below (g := gb311) (o := .cells #[.slice A0_0 l0_0.length c0_0, .slice A0_1 l0_1.length c0_1, .slice A0_2 l0_2.length c0_2, .int .i64 a0_3, .int .i64 a0_4, .int .i64 a0_5, .int .i64 a0_6, .int .i64 a0_7, .int .i64 a0_8] 26 (0, 0)) (by (with_reducible repeat (first | refine blk_drewN ?_ _ | refine blk_drew ?_ | refine blk_alloc ?_ _)); exact BK311.out) hb); have n1_ := Aside0.mk (below_step (by repeat (first | (with_reducible first | exact HB.out | apply below_alloc | apply pw_below_drewN | apply below_drew1 | refine below_set ?_ GE311.out) | exact HB.out)) hb); have n2_ := Aside0.mk (hbox); have n3_ := Aside0.mk ((by rw [hg]; exact (below_size (by repeat (first | (with_reducible first | exact HB.out | apply below_alloc | apply pw_below_drewN | apply below_drew1 | refine below_set ?_ GE311.out) | exact HB.out))) : w.heap.size ≤ gb312)); have n4_ := Aside0.mk ((by rw [hg]; exact (below_size (by repeat (first | (with_reducible first | exact HB.out | apply below_alloc | apply pw_below_drewN | apply below_drew1 | refine below_set ?_ GE311.out) | exact HB.out))) : w.heap.size ≤ gb312)); have n5_ := Aside0.mk ((by rw [hg]; exact Nat.ne_of_lt (blk_lt (g := gb311) (o := .cells #[.slice A0_0 l0_0.length c0_0, .slice A0_1 l0_1.length c0_1, .slice A0_2 l0_2.length c0_2, .int .i64 a0_3, .int .i64 a0_4, .int .i64 a0_5, .int .i64 a0_6, .int .i64 a0_7, .int .i64 a0_8] 26 (0, 0)) (by (with_reducible repeat (first | refine blk_drewN ?_ _ | refine blk_drew ?_ | refine blk_alloc ?_ _)); exact BK311.out)) : gb311 ≠ gb312)); have n6_ := Aside0.mk ((by rw [hg]; exact Nat.ne_of_gt (blk_lt (g := gb311) (o := .cells #[.slice A0_0 l0_0.length c0_0, .slice A0_1 l0_1.length c0_1, .slice A0_2 l0_2.length c0_2, .int .i64 a0_3, .int .i64 a0_4, .int .i64 a0_5, .int .i64 a0_6, .int .i64 a0_7, .int .i64 a0_8] 26 (0, 0)) (by (with_reducible repeat (first | refine blk_drewN ?_ _ | refine blk_drew ?_ | refine blk_alloc ?_ _)); exact BK311.out)) : gb312 ≠ gb311)); clear BK311; clear HB; have BK311 := n0_; have HB := n1_; have BK312 := n2_; have GW312 := n3_; have GE312 := n4_; have NB311_312 := n5_; have NB312_311 := n6_; clear n0_ n1_ n2_ n3_ n4_ n5_ n6_; clear hb hbox hg; have hnb8 := NB312_311.out; have hnc8 := NB311_312.out; have hcz9_0 : w7.cell? ⟨gb312, 0, none⟩ = some (.int .i64 a1_0) := (blk_cell BK312.out 0).trans rfl; have hcz9_1 : w7.cell? ⟨gb312, 1, none⟩ = some (.int .i64 a1_1) := (blk_cell BK312.out 1).trans rfl; have hcz9_2 : w7.cell? ⟨gb312, 2, none⟩ = some (.int .i64 a1_2) := (blk_cell BK312.out 2).trans rfl; have hcz9_3 : w7.cell? ⟨gb312, 3, none⟩ = some (.int .i64 a1_3) := (blk_cell BK312.out 3).trans rfl; have hcz9_4 : w7.cell? ⟨gb312, 4, none⟩ = some (.int .i64 a1_4) := (blk_cell BK312.out 4).trans rfl; have hcz9_5 : w7.cell? ⟨gb312, 5, none⟩ = some (.bool true) := (blk_cell BK312.out 5).trans rfl; have hfz9_0 := blk_frozen BK312.out 0; have hfz9_1 := blk_frozen BK312.out 1; have hfz9_2 := blk_frozen BK312.out 2; have hfz9_3 := blk_frozen BK312.out 3; have hfz9_4 := blk_frozen BK312.out 4; have hfz9_5 := blk_frozen BK312.out 5) | (go_at_call 18; (with_reducible refine (dormouseref01_Max.calls a1_3 0 t313 _ A3.out).mono ?_); rintro e w' ⟨rfl, ⟨nd, rfl⟩⟩; (try first | exact ⟨rfl, _, World.drewN_drewN _ _ _⟩ | exact ⟨rfl, _, Eq.trans (World.drewN_drewN _ _ _) (congrArg (World.drewN _) (Nat.add_assoc _ _ _))⟩); have hcz10_0 : w7.cell? ⟨gb311, 0, none⟩ = some (.slice A0_0 l0_0.length c0_0) := (blk_cell BK311.out 0).trans rfl; have hcz10_1 : w7.cell? ⟨gb311, 1, none⟩ = some (.slice A0_1 l0_1.length c0_1) := (blk_cell BK311.out 1).trans rfl; have hcz10_2 : w7.cell? ⟨gb311, 2, none⟩ = some (.slice A0_2 l0_2.length c0_2) := (blk_cell BK311.out 2).trans rfl; have hcz10_3 : w7.cell? ⟨gb311, 3, none⟩ = some (.int .i64 a0_3) := (blk_cell BK311.out 3).trans rfl; have hcz10_4 : w7.cell? ⟨gb311, 4, none⟩ = some (.int .i64 a0_4) := (blk_cell BK311.out 4).trans rfl; have hcz10_5 : w7.cell? ⟨gb311, 5, none⟩ = some (.int .i64 a0_5) := (blk_cell BK311.out 5).trans rfl; have hcz10_6 : w7.cell? ⟨gb311, 6, none⟩ = some (.int .i64 a0_6) := (blk_cell BK311.out 6).trans rfl; have hcz10_7 : w7.cell? ⟨gb311, 7, none⟩ = some (.int .i64 a0_7) := (blk_cell BK311.out 7).trans rfl; have hcz10_8 : w7.cell? ⟨gb311, 8, none⟩ = some (.int .i64 a0_8) := (blk_cell BK311.out 8).trans rfl; have hfz10_0 := blk_frozen BK311.out 0; have hfz10_1 := blk_frozen BK311.out 1; have hfz10_2 := blk_frozen BK311.out 2; have hfz10_3 := blk_frozen BK311.out 3; have hfz10_4 := blk_frozen BK311.out 4; have hfz10_5 := blk_frozen BK311.out 5; have hfz10_6 := blk_frozen BK311.out 6; have hfz10_7 := blk_frozen BK311.out 7; have hfz10_8 := blk_frozen BK311.out 8; have p314 : 0 ≤ (0 : Int) := (by omega); have q314 : 0 < (l0_0.length : Int) := of_decide_eq_true (by first | (with_reducible assumption) | assumption); obtain ⟨ad314, e314, hx314_0, hx314_1⟩ := at_T58 HR0_0.out 0 p314 q314; cases e314; have qi314 : (0 < l0_0.length) = True := eq_true (by omega); (try rw [show ((0 : Int)).toNat = 0 from rfl] at hx314_0); (try rw [show 0 * 2 = 0 from rfl] at hx314_0); (try rw [Addr.add_zero'] at hx314_0); (try rw [show ((0 : Int)).toNat = 0 from rfl] at hx314_1); (try rw [show 0 * 2 = 0 from rfl] at hx314_1); (try rw [Addr.add_zero'] at hx314_1); replace hx314_0 := (HB.out.cell (World.block_lt_of_cell? w _ hx314_0)).trans hx314_0; replace hx314_1 := (HB.out.cell (World.block_lt_of_cell? w _ hx314_1)).trans hx314_1; replace p314 := eq_true p314; replace q314 := eq_true q314)); try go_wp2_with (first | ((with_reducible refine gate_dst (N := 2) rfl ?_); refine box_event ?hg (N := 2) ?hd (cs := #[.slice A0_0 l0_0.length c0_0, .slice A0_1 l0_1.length c0_1, .slice A0_2 l0_2.length c0_2, .int .i64 a0_3, .int .i64 a0_4, .int .i64 a0_5, .int .i64 a0_6, .int .i64 a0_7, .int .i64 a0_8]) (t := 26) ?hr ?_; (case hd => rfl); (case hg => rfl); (case hr => first | (go_simp; done) | (go_simp; rfl)); intro gb311 hg w6 hbox hb; have n0_ := Aside0.mk (below_step (by repeat (first | (with_reducible first | exact HB.out | apply below_alloc | apply pw_below_drewN | apply below_drew1) | exact HB.out)) hb); have n1_ := Aside0.mk (hbox); have n2_ := Aside0.mk ((by rw [hg]; exact (below_size (by repeat (first | (with_reducible first | exact HB.out | apply below_alloc | apply pw_below_drewN | apply below_drew1) | exact HB.out))) : w.heap.size ≤ gb311)); have n3_ := Aside0.mk ((by rw [hg]; exact (below_size (by repeat (first | (with_reducible first | exact HB.out | apply below_alloc | apply pw_below_drewN | apply below_drew1) | exact HB.out))) : w.heap.size ≤ gb311)); clear HB; have HB := n0_; have BK311 := n1_; have GW311 := n2_; have GE311 := n3_; clear n0_ n1_ n2_ n3_; clear hb hbox hg) | ((with_reducible refine gate_dst (N := 3) rfl ?_); refine box_event ?hg (N := 3) ?hd (cs := #[.int .i64 a1_0, .int .i64 a1_1, .int .i64 a1_2, .int .i64 a1_3, .int .i64 a1_4, .bool true]) (t := 38) ?hr ?_; (case hd => rfl); (case hg => rfl); (case hr => first | (go_simp; done) | (go_simp; rfl)); intro gb312 hg w7 hbox hb; have n0_ := Aside0.mk (blk_below (g := gb311) (o := .cells #[.slice A0_0 l0_0.length c0_0, .slice A0_1 l0_1.length c0_1, .slice A0_2 l0_2.length c0_2, .int .i64 a0_3, .int .i64 a0_4, .int .i64 a0_5, .int .i64 a0_6, .int .i64 a0_7, .int .i64 a0_8] 26 (0, 0)) (by (with_reducible repeat (first | refine blk_drewN ?_ _ | refine blk_drew ?_ | refine blk_alloc ?_ _)); exact BK311.out) hb); have n1_ := Aside0.mk (below_step (by repeat (first | (with_reducible first | exact HB.out | apply below_alloc | apply pw_below_drewN | apply below_drew1 | refine below_set ?_ GE311.out) | exact HB.out)) hb); have n2_ := Aside0.mk (hbox); have n3_ := Aside0.mk ((by rw [hg]; exact (below_size (by repeat (first | (with_reducible first | exact HB.out | apply below_alloc | apply pw_below_drewN | apply below_drew1 | refine below_set ?_ GE311.out) | exact HB.out))) : w.heap.size ≤ gb312)); have n4_ := Aside0.mk ((by rw [hg]; exact (below_size (by repeat (first | (with_reducible first | exact HB.out | apply below_alloc | apply pw_below_drewN | apply below_drew1 | refine below_set ?_ GE311.out) | exact HB.out))) : w.heap.size ≤ gb312)); have n5_ := Aside0.mk ((by rw [hg]; exact Nat.ne_of_lt (blk_lt (g := gb311) (o := .cells #[.slice A0_0 l0_0.length c0_0, .slice A0_1 l0_1.length c0_1, .slice A0_2 l0_2.length c0_2, .int .i64 a0_3, .int .i64 a0_4, .int .i64 a0_5, .int .i64 a0_6, .int .i64 a0_7, .int .i64 a0_8] 26 (0, 0)) (by (with_reducible repeat (first | refine blk_drewN ?_ _ | refine blk_drew ?_ | refine blk_alloc ?_ _)); exact BK311.out)) : gb311 ≠ gb312)); have n6_ := Aside0.mk ((by rw [hg]; exact Nat.ne_of_gt (blk_lt (g := gb311) (o := .cells #[.slice A0_0 l0_0.length c0_0, .slice A0_1 l0_1.length c0_1, .slice A0_2 l0_2.length c0_2, .int .i64 a0_3, .int .i64 a0_4, .int .i64 a0_5, .int .i64 a0_6, .int .i64 a0_7, .int .i64 a0_8] 26 (0, 0)) (by (with_reducible repeat (first | refine blk_drewN ?_ _ | refine blk_drew ?_ | refine blk_alloc ?_ _)); exact BK311.out)) : gb312 ≠ gb311)); clear BK311; clear HB; have BK311 := n0_; have HB := n1_; have BK312 := n2_; have GW312 := n3_; have GE312 := n4_; have NB311_312 := n5_; have NB312_311 := n6_; clear n0_ n1_ n2_ n3_ n4_ n5_ n6_; clear hb hbox hg; have hnb8 := NB312_311.out; have hnc8 := NB311_312.out; have hcz9_0 : w7.cell? ⟨gb312, 0, none⟩ = some (.int .i64 a1_0) := (blk_cell BK312.out 0).trans rfl; have hcz9_1 : w7.cell? ⟨gb312, 1, none⟩ = some (.int .i64 a1_1) := (blk_cell BK312.out 1).trans rfl; have hcz9_2 : w7.cell? ⟨gb312, 2, none⟩ = some (.int .i64 a1_2) := (blk_cell BK312.out 2).trans rfl; have hcz9_3 : w7.cell? ⟨gb312, 3, none⟩ = some (.int .i64 a1_3) := (blk_cell BK312.out 3).trans rfl; have hcz9_4 : w7.cell? ⟨gb312, 4, none⟩ = some (.int .i64 a1_4) := (blk_cell BK312.out 4).trans rfl; have hcz9_5 : w7.cell? ⟨gb312, 5, none⟩ = some (.bool true) := (blk_cell BK312.out 5).trans rfl; have hfz9_0 := blk_frozen BK312.out 0; have hfz9_1 := blk_frozen BK312.out 1; have hfz9_2 := blk_frozen BK312.out 2; have hfz9_3 := blk_frozen BK312.out 3; have hfz9_4 := blk_frozen BK312.out 4; have hfz9_5 := blk_frozen BK312.out 5) | (go_at_call 18; (with_reducible refine (dormouseref01_Max.calls a1_3 0 t313 _ A3.out).mono ?_); rintro e w' ⟨rfl, ⟨nd, rfl⟩⟩; (try first | exact ⟨rfl, _, World.drewN_drewN _ _ _⟩ | exact ⟨rfl, _, Eq.trans (World.drewN_drewN _ _ _) (congrArg (World.drewN _) (Nat.add_assoc _ _ _))⟩); have hcz10_0 : w7.cell? ⟨gb311, 0, none⟩ = some (.slice A0_0 l0_0.length c0_0) := (blk_cell BK311.out 0).trans rfl; have hcz10_1 : w7.cell? ⟨gb311, 1, none⟩ = some (.slice A0_1 l0_1.length c0_1) := (blk_cell BK311.out 1).trans rfl; have hcz10_2 : w7.cell? ⟨gb311, 2, none⟩ = some (.slice A0_2 l0_2.length c0_2) := (blk_cell BK311.out 2).trans rfl; have hcz10_3 : w7.cell? ⟨gb311, 3, none⟩ = some (.int .i64 a0_3) := (blk_cell BK311.out 3).trans rfl; have hcz10_4 : w7.cell? ⟨gb311, 4, none⟩ = some (.int .i64 a0_4) := (blk_cell BK311.out 4).trans rfl; have hcz10_5 : w7.cell? ⟨gb311, 5, none⟩ = some (.int .i64 a0_5) := (blk_cell BK311.out 5).trans rfl; have hcz10_6 : w7.cell? ⟨gb311, 6, none⟩ = some (.int .i64 a0_6) := (blk_cell BK311.out 6).trans rfl; have hcz10_7 : w7.cell? ⟨gb311, 7, none⟩ = some (.int .i64 a0_7) := (blk_cell BK311.out 7).trans rfl; have hcz10_8 : w7.cell? ⟨gb311, 8, none⟩ = some (.int .i64 a0_8) := (blk_cell BK311.out 8).trans rfl; have hfz10_0 := blk_frozen BK311.out 0; have hfz10_1 := blk_frozen BK311.out 1; have hfz10_2 := blk_frozen BK311.out 2; have hfz10_3 := blk_frozen BK311.out 3; have hfz10_4 := blk_frozen BK311.out 4; have hfz10_5 := blk_frozen BK311.out 5; have hfz10_6 := blk_frozen BK311.out 6; have hfz10_7 := blk_frozen BK311.out 7; have hfz10_8 := blk_frozen BK311.out 8; have p314 : 0 ≤ (0 : Int) := (by omega); have q314 : 0 < (l0_0.length : Int) := of_decide_eq_true (by first | (with_reducible assumption) | assumption); obtain ⟨ad314, e314, hx314_0, hx314_1⟩ := at_T58 HR0_0.out 0 p314 q314; cases e314; have qi314 : (0 < l0_0.length) = True := eq_true (by omega); (try rw [show ((0 : Int)).toNat = 0 from rfl] at hx314_0); (try rw [show 0 * 2 = 0 from rfl] at hx314_0); (try rw [Addr.add_zero'] at hx314_0); (try rw [show ((0 : Int)).toNat = 0 from rfl] at hx314_1); (try rw [show 0 * 2 = 0 from rfl] at hx314_1); (try rw [Addr.add_zero'] at hx314_1); replace hx314_0 := (HB.out.cell (World.block_lt_of_cell? w _ hx314_0)).trans hx314_0; replace hx314_1 := (HB.out.cell (World.block_lt_of_cell? w _ hx314_1)).trans hx314_1; replace p314 := eq_true p314; replace q314 := eq_true q314)))
      go_ret
      exact ⟨by first | rfl | (simp [IntWalk.i64_left]; done) | (simp [errW_none, errW_some] <;> rfl) | (simp [*, errW_none, errW_some] <;> rfl), by repeat (first | (with_reducible first | exact HB.out | apply below_alloc | apply pw_below_drewN | apply below_drew1 | refine below_set ?_ GE311.out | refine below_set ?_ GE312.out) | exact HB.out)⟩
    · replace c5 := Bool.eq_false_iff.mpr c5
      subst c5
      have H1 : (some (wrap64 ((wrap64 ((wrap64 (t313 * ((rd_T58 l0_0 0).f0))) + a0_5)) + a0_5))) = some r := by rw [if_neg (show ¬ (false = true) by decide)] at H; exact H
      clear H
      have H := H1
      clear H1
      obtain rfl := Option.some.inj H
      go_enter Try.func53, Try.ntmps53
      go_wp2_with (first | ((with_reducible refine gate_dst (N := 2) rfl ?_); refine box_event ?hg (N := 2) ?hd (cs := #[.slice A0_0 l0_0.length c0_0, .slice A0_1 l0_1.length c0_1, .slice A0_2 l0_2.length c0_2, .int .i64 a0_3, .int .i64 a0_4, .int .i64 a0_5, .int .i64 a0_6, .int .i64 a0_7, .int .i64 a0_8]) (t := 26) ?hr ?_; (case hd => rfl); (case hg => rfl); (case hr => first | (go_simp; done) | (go_simp; rfl)); intro gb311 hg w11 hbox hb; have n0_ := Aside0.mk (below_step (by repeat (first | (with_reducible first | exact HB.out | apply below_alloc | apply pw_below_drewN | apply below_drew1) | exact HB.out)) hb); have n1_ := Aside0.mk (hbox); have n2_ := Aside0.mk ((by rw [hg]; exact (below_size (by repeat (first | (with_reducible first | exact HB.out | apply below_alloc | apply pw_below_drewN | apply below_drew1) | exact HB.out))) : w.heap.size ≤ gb311)); have n3_ := Aside0.mk ((by rw [hg]; exact (below_size (by repeat (first | (with_reducible first | exact HB.out | apply below_alloc | apply pw_below_drewN | apply below_drew1) | exact HB.out))) : w.heap.size ≤ gb311)); clear HB; have HB := n0_; have BK311 := n1_; have GW311 := n2_; have GE311 := n3_; clear n0_ n1_ n2_ n3_; clear hb hbox hg) | ((with_reducible refine gate_dst (N := 3) rfl ?_); refine box_event ?hg (N := 3) ?hd (cs := #[.int .i64 a1_0, .int .i64 a1_1, .int .i64 a1_2, .int .i64 a1_3, .int .i64 a1_4, .bool false]) (t := 38) ?hr ?_; (case hd => rfl); (case hg => rfl); (case hr => first | (go_simp; done) | (go_simp; rfl)); intro gb312 hg w12 hbox hb; have n0_ := Aside0.mk (blk_below (g := gb311) (o := .cells #[.slice A0_0 l0_0.length c0_0, .slice A0_1 l0_1.length c0_1, .slice A0_2 l0_2.length c0_2, .int .i64 a0_3, .int .i64 a0_4, .int .i64 a0_5, .int .i64 a0_6, .int .i64 a0_7, .int .i64 a0_8] 26 (0, 0)) (by (with_reducible repeat (first | refine blk_drewN ?_ _ | refine blk_drew ?_ | refine blk_alloc ?_ _)); exact BK311.out) hb); have n1_ := Aside0.mk (below_step (by repeat (first | (with_reducible first | exact HB.out | apply below_alloc | apply pw_below_drewN | apply below_drew1 | refine below_set ?_ GE311.out) | exact HB.out)) hb); have n2_ := Aside0.mk (hbox); have n3_ := Aside0.mk ((by rw [hg]; exact (below_size (by repeat (first | (with_reducible first | exact HB.out | apply below_alloc | apply pw_below_drewN | apply below_drew1 | refine below_set ?_ GE311.out) | exact HB.out))) : w.heap.size ≤ gb312)); have n4_ := Aside0.mk ((by rw [hg]; exact (below_size (by repeat (first | (with_reducible first | exact HB.out | apply below_alloc | apply pw_below_drewN | apply below_drew1 | refine below_set ?_ GE311.out) | exact HB.out))) : w.heap.size ≤ gb312)); have n5_ := Aside0.mk ((by rw [hg]; exact Nat.ne_of_lt (blk_lt (g := gb311) (o := .cells #[.slice A0_0 l0_0.length c0_0, .slice A0_1 l0_1.length c0_1, .slice A0_2 l0_2.length c0_2, .int .i64 a0_3, .int .i64 a0_4, .int .i64 a0_5, .int .i64 a0_6, .int .i64 a0_7, .int .i64 a0_8] 26 (0, 0)) (by (with_reducible repeat (first | refine blk_drewN ?_ _ | refine blk_drew ?_ | refine blk_alloc ?_ _)); exact BK311.out)) : gb311 ≠ gb312)); have n6_ := Aside0.mk ((by rw [hg]; exact Nat.ne_of_gt (blk_lt (g := gb311) (o := .cells #[.slice A0_0 l0_0.length c0_0, .slice A0_1 l0_1.length c0_1, .slice A0_2 l0_2.length c0_2, .int .i64 a0_3, .int .i64 a0_4, .int .i64 a0_5, .int .i64 a0_6, .int .i64 a0_7, .int .i64 a0_8] 26 (0, 0)) (by (with_reducible repeat (first | refine blk_drewN ?_ _ | refine blk_drew ?_ | refine blk_alloc ?_ _)); exact BK311.out)) : gb312 ≠ gb311)); clear BK311; clear HB; have BK311 := n0_; have HB := n1_; have BK312 := n2_; have GW312 := n3_; have GE312 := n4_; have NB311_312 := n5_; have NB312_311 := n6_; clear n0_ n1_ n2_ n3_ n4_ n5_ n6_; clear hb hbox hg; have hnb13 := NB312_311.out; have hnc13 := NB311_312.out; have hcz14_0 : w12.cell? ⟨gb312, 0, none⟩ = some (.int .i64 a1_0) := (blk_cell BK312.out 0).trans rfl; have hcz14_1 : w12.cell? ⟨gb312, 1, none⟩ = some (.int .i64 a1_1) := (blk_cell BK312.out 1).trans rfl; have hcz14_2 : w12.cell? ⟨gb312, 2, none⟩ = some (.int .i64 a1_2) := (blk_cell BK312.out 2).trans rfl; have hcz14_3 : w12.cell? ⟨gb312, 3, none⟩ = some (.int .i64 a1_3) := (blk_cell BK312.out 3).trans rfl; have hcz14_4 : w12.cell? ⟨gb312, 4, none⟩ = some (.int .i64 a1_4) := (blk_cell BK312.out 4).trans rfl; have hcz14_5 : w12.cell? ⟨gb312, 5, none⟩ = some (.bool false) := (blk_cell BK312.out 5).trans rfl; have hfz14_0 := blk_frozen BK312.out 0; have hfz14_1 := blk_frozen BK312.out 1; have hfz14_2 := blk_frozen BK312.out 2; have hfz14_3 := blk_frozen BK312.out 3; have hfz14_4 := blk_frozen BK312.out 4; have hfz14_5 := blk_frozen BK312.out 5) | (go_at_call 18; (with_reducible refine (dormouseref01_Max.calls a1_3 0 t313 _ A3.out).mono ?_); rintro e w' ⟨rfl, ⟨nd, rfl⟩⟩; (try first | exact ⟨rfl, _, World.drewN_drewN _ _ _⟩ | exact ⟨rfl, _, Eq.trans (World.drewN_drewN _ _ _) (congrArg (World.drewN _) (Nat.add_assoc _ _ _))⟩); have hcz15_0 : w12.cell? ⟨gb311, 0, none⟩ = some (.slice A0_0 l0_0.length c0_0) := (blk_cell BK311.out 0).trans rfl; have hcz15_1 : w12.cell? ⟨gb311, 1, none⟩ = some (.slice A0_1 l0_1.length c0_1) := (blk_cell BK311.out 1).trans rfl; have hcz15_2 : w12.cell? ⟨gb311, 2, none⟩ = some (.slice A0_2 l0_2.length c0_2) := (blk_cell BK311.out 2).trans rfl; have hcz15_3 : w12.cell? ⟨gb311, 3, none⟩ = some (.int .i64 a0_3) := (blk_cell BK311.out 3).trans rfl; have hcz15_4 : w12.cell? ⟨gb311, 4, none⟩ = some (.int .i64 a0_4) := (blk_cell BK311.out 4).trans rfl; have hcz15_5 : w12.cell? ⟨gb311, 5, none⟩ = some (.int .i64 a0_5) := (blk_cell BK311.out 5).trans rfl; have hcz15_6 : w12.cell? ⟨gb311, 6, none⟩ = some (.int .i64 a0_6) := (blk_cell BK311.out 6).trans rfl; have hcz15_7 : w12.cell? ⟨gb311, 7, none⟩ = some (.int .i64 a0_7) := (blk_cell BK311.out 7).trans rfl; have hcz15_8 : w12.cell? ⟨gb311, 8, none⟩ = some (.int .i64 a0_8) := (blk_cell BK311.out 8).trans rfl; have hfz15_0 := blk_frozen BK311.out 0; have hfz15_1 := blk_frozen BK311.out 1; have hfz15_2 := blk_frozen BK311.out 2; have hfz15_3 := blk_frozen BK311.out 3; have hfz15_4 := blk_frozen BK311.out 4; have hfz15_5 := blk_frozen BK311.out 5; have hfz15_6 := blk_frozen BK311.out 6; have hfz15_7 := blk_frozen BK311.out 7; have hfz15_8 := blk_frozen BK311.out 8; have p314 : 0 ≤ (0 : Int) := (by omega); have q314 : 0 < (l0_0.length : Int) := of_decide_eq_true (by first | (with_reducible assumption) | assumption); obtain ⟨ad314, e314, hx314_0, hx314_1⟩ := at_T58 HR0_0.out 0 p314 q314; cases e314; have qi314 : (0 < l0_0.length) = True := eq_true (by omega); (try rw [show ((0 : Int)).toNat = 0 from rfl] at hx314_0); (try rw [show 0 * 2 = 0 from rfl] at hx314_0); (try rw [Addr.add_zero'] at hx314_0); (try rw [show ((0 : Int)).toNat = 0 from rfl] at hx314_1); (try rw [show 0 * 2 = 0 from rfl] at hx314_1); (try rw [Addr.add_zero'] at hx314_1); replace hx314_0 := (HB.out.cell (World.block_lt_of_cell? w _ hx314_0)).trans hx314_0; replace hx314_1 := (HB.out.cell (World.block_lt_of_cell? w _ hx314_1)).trans hx314_1; replace p314 := eq_true p314; replace q314 := eq_true q314))
      repeat (go_quiet (first | ((with_reducible refine gate_dst (N := 2) rfl ?_); refine box_event ?hg (N := 2) ?hd (cs := #[.slice A0_0 l0_0.length c0_0, .slice A0_1 l0_1.length c0_1, .slice A0_2 l0_2.length c0_2, .int .i64 a0_3, .int .i64 a0_4, .int .i64 a0_5, .int .i64 a0_6, .int .i64 a0_7, .int .i64 a0_8]) (t := 26) ?hr ?_; (case hd => rfl); (case hg => rfl); (case hr => first | (go_simp; done) | (go_simp; rfl)); intro gb311 hg w11 hbox hb; have n0_ := Aside0.mk (below_step (by repeat (first | (with_reducible first | exact HB.out | apply below_alloc | apply pw_below_drewN | apply below_drew1) | exact HB.out)) hb); have n1_ := Aside0.mk (hbox); have n2_ := Aside0.mk ((by rw [hg]; exact (below_size (by repeat (first | (with_reducible first | exact HB.out | apply below_alloc | apply pw_below_drewN | apply below_drew1) | exact HB.out))) : w.heap.size ≤ gb311)); have n3_ := Aside0.mk ((by rw [hg]; exact (below_size (by repeat (first | (with_reducible first | exact HB.out | apply below_alloc | apply pw_below_drewN | apply below_drew1) | exact HB.out))) : w.heap.size ≤ gb311)); clear HB; have HB := n0_; have BK311 := n1_; have GW311 := n2_; have GE311 := n3_; clear n0_ n1_ n2_ n3_; clear hb hbox hg) | ((with_reducible refine gate_dst (N := 3) rfl ?_); refine box_event ?hg (N := 3) ?hd (cs := #[.int .i64 a1_0, .int .i64 a1_1, .int .i64 a1_2, .int .i64 a1_3, .int .i64 a1_4, .bool false]) (t := 38) ?hr ?_; (case hd => rfl); (case hg => rfl); (case hr => first | (go_simp; done) | (go_simp; rfl)); intro gb312 hg w12 hbox hb; have n0_ := Aside0.mk (blk_below (g := gb311) (o := .cells #[.slice A0_0 l0_0.length c0_0, .slice A0_1 l0_1.length c0_1, .slice A0_2 l0_2.length c0_2, .int .i64 a0_3, .int .i64 a0_4, .int .i64 a0_5, .int .i64 a0_6, .int .i64 a0_7, .int .i64 a0_8] 26 (0, 0)) (by (with_reducible repeat (first | refine blk_drewN ?_ _ | refine blk_drew ?_ | refine blk_alloc ?_ _)); exact BK311.out) hb); have n1_ := Aside0.mk (below_step (by repeat (first | (with_reducible first | exact HB.out | apply below_alloc | apply pw_below_drewN | apply below_drew1 | refine below_set ?_ GE311.out) | exact HB.out)) hb); have n2_ := Aside0.mk (hbox); have n3_ := Aside0.mk ((by rw [hg]; exact (below_size (by repeat (first | (with_reducible first | exact HB.out | apply below_alloc | apply pw_below_drewN | apply below_drew1 | refine below_set ?_ GE311.out) | exact HB.out))) : w.heap.size ≤ gb312)); have n4_ := Aside0.mk ((by rw [hg]; exact (below_size (by repeat (first | (with_reducible first | exact HB.out | apply below_alloc | apply pw_below_drewN | apply below_drew1 | refine below_set ?_ GE311.out) | exact HB.out))) : w.heap.size ≤ gb312)); have n5_ := Aside0.mk ((by rw [hg]; exact Nat.ne_of_lt (blk_lt (g := gb311) (o := .cells #[.slice A0_0 l0_0.length c0_0, .slice A0_1 l0_1.length c0_1, .slice A0_2 l0_2.length c0_2, .int .i64 a0_3, .int .i64 a0_4, .int .i64 a0_5, .int .i64 a0_6, .int .i64 a0_7, .int .i64 a0_8] 26 (0, 0)) (by (with_reducible repeat (first | refine blk_drewN ?_ _ | refine blk_drew ?_ | refine blk_alloc ?_ _)); exact BK311.out)) : gb311 ≠ gb312)); have n6_ := Aside0.mk ((by rw [hg]; exact Nat.ne_of_gt (blk_lt (g := gb311) (o := .cells #[.slice A0_0 l0_0.length c0_0, .slice A0_1 l0_1.length c0_1, .slice A0_2 l0_2.length c0_2, .int .i64 a0_3, .int .i64 a0_4, .int .i64 a0_5, .int .i64 a0_6, .int .i64 a0_7, .int .i64 a0_8] 26 (0, 0)) (by (with_reducible repeat (first | refine blk_drewN ?_ _ | refine blk_drew ?_ | refine blk_alloc ?_ _)); exact BK311.out)) : gb312 ≠ gb311)); clear BK311; clear HB; have BK311 := n0_; have HB := n1_; have BK312 := n2_; have GW312 := n3_; have GE312 := n4_; have NB311_312 := n5_; have NB312_311 := n6_; clear n0_ n1_ n2_ n3_ n4_ n5_ n6_; clear hb hbox hg; have hnb13 := NB312_311.out; have hnc13 := NB311_312.out; have hcz14_0 : w12.cell? ⟨gb312, 0, none⟩ = some (.int .i64 a1_0) := (blk_cell BK312.out 0).trans rfl; have hcz14_1 : w12.cell? ⟨gb312, 1, none⟩ = some (.int .i64 a1_1) := (blk_cell BK312.out 1).trans rfl; have hcz14_2 : w12.cell? ⟨gb312, 2, none⟩ = some (.int .i64 a1_2) := (blk_cell BK312.out 2).trans rfl; have hcz14_3 : w12.cell? ⟨gb312, 3, none⟩ = some (.int .i64 a1_3) := (blk_cell BK312.out 3).trans rfl; have hcz14_4 : w12.cell? ⟨gb312, 4, none⟩ = some (.int .i64 a1_4) := (blk_cell BK312.out 4).trans rfl; have hcz14_5 : w12.cell? ⟨gb312, 5, none⟩ = some (.bool false) := (blk_cell BK312.out 5).trans rfl; have hfz14_0 := blk_frozen BK312.out 0; have hfz14_1 := blk_frozen BK312.out 1; have hfz14_2 := blk_frozen BK312.out 2; have hfz14_3 := blk_frozen BK312.out 3; have hfz14_4 := blk_frozen BK312.out 4; have hfz14_5 := blk_frozen BK312.out 5) | (go_at_call 18; (with_reducible refine (dormouseref01_Max.calls a1_3 0 t313 _ A3.out).mono ?_); rintro e w' ⟨rfl, ⟨nd, rfl⟩⟩; (try first | exact ⟨rfl, _, World.drewN_drewN _ _ _⟩ | exact ⟨rfl, _, Eq.trans (World.drewN_drewN _ _ _) (congrArg (World.drewN _) (Nat.add_assoc _ _ _))⟩); have hcz15_0 : w12.cell? ⟨gb311, 0, none⟩ = some (.slice A0_0 l0_0.length c0_0) := (blk_cell BK311.out 0).trans rfl; have hcz15_1 : w12.cell? ⟨gb311, 1, none⟩ = some (.slice A0_1 l0_1.length c0_1) := (blk_cell BK311.out 1).trans rfl; have hcz15_2 : w12.cell? ⟨gb311, 2, none⟩ = some (.slice A0_2 l0_2.length c0_2) := (blk_cell BK311.out 2).trans rfl; have hcz15_3 : w12.cell? ⟨gb311, 3, none⟩ = some (.int .i64 a0_3) := (blk_cell BK311.out 3).trans rfl; have hcz15_4 : w12.cell? ⟨gb311, 4, none⟩ = some (.int .i64 a0_4) := (blk_cell BK311.out 4).trans rfl; have hcz15_5 : w12.cell? ⟨gb311, 5, none⟩ = some (.int .i64 a0_5) := (blk_cell BK311.out 5).trans rfl; have hcz15_6 : w12.cell? ⟨gb311, 6, none⟩ = some (.int .i64 a0_6) := (blk_cell BK311.out 6).trans rfl; have hcz15_7 : w12.cell? ⟨gb311, 7, none⟩ = some (.int .i64 a0_7) := (blk_cell BK311.out 7).trans rfl; have hcz15_8 : w12.cell? ⟨gb311, 8, none⟩ = some (.int .i64 a0_8) := (blk_cell BK311.out 8).trans rfl; have hfz15_0 := blk_frozen BK311.out 0; have hfz15_1 := blk_frozen BK311.out 1; have hfz15_2 := blk_frozen BK311.out 2; have hfz15_3 := blk_frozen BK311.out 3; have hfz15_4 := blk_frozen BK311.out 4; have hfz15_5 := blk_frozen BK311.out 5; have hfz15_6 := blk_frozen BK311.out 6; have hfz15_7 := blk_frozen BK311.out 7; have hfz15_8 := blk_frozen BK311.out 8; have p314 : 0 ≤ (0 : Int) := (by omega); have q314 : 0 < (l0_0.length : Int) := of_decide_eq_true (by first | (with_reducible assumption) | assumption); obtain ⟨ad314, e314, hx314_0, hx314_1⟩ := at_T58 HR0_0.out 0 p314 q314; cases e314; have qi314 : (0 < l0_0.length) = True := eq_true (by omega); (try rw [show ((0 : Int)).toNat = 0 from rfl] at hx314_0); (try rw [show 0 * 2 = 0 from rfl] at hx314_0); (try rw [Addr.add_zero'] at hx314_0); (try rw [show ((0 : Int)).toNat = 0 from rfl] at hx314_1); (try rw [show 0 * 2 = 0 from rfl] at hx314_1); (try rw [Addr.add_zero'] at hx314_1); replace hx314_0 := (HB.out.cell (World.block_lt_of_cell? w _ hx314_0)).trans hx314_0; replace hx314_1 := (HB.out.cell (World.block_lt_of_cell? w _ hx314_1)).trans hx314_1; replace p314 := eq_true p314; replace q314 := eq_true q314)); try go_wp2_with (first | ((with_reducible refine gate_dst (N := 2) rfl ?_); refine box_event ?hg (N := 2) ?hd (cs := #[.slice A0_0 l0_0.length c0_0, .slice A0_1 l0_1.length c0_1, .slice A0_2 l0_2.length c0_2, .int .i64 a0_3, .int .i64 a0_4, .int .i64 a0_5, .int .i64 a0_6, .int .i64 a0_7, .int .i64 a0_8]) (t := 26) ?hr ?_; (case hd => rfl); (case hg => rfl); (case hr => first | (go_simp; done) | (go_simp; rfl)); intro gb311 hg w11 hbox hb; have n0_ := Aside0.mk (below_step (by repeat (first | (with_reducible first | exact HB.out | apply below_alloc | apply pw_below_drewN | apply below_drew1) | exact HB.out)) hb); have n1_ := Aside0.mk (hbox); have n2_ := Aside0.mk ((by rw [hg]; exact (below_size (by repeat (first | (with_reducible first | exact HB.out | apply below_alloc | apply pw_below_drewN | apply below_drew1) | exact HB.out))) : w.heap.size ≤ gb311)); have n3_ := Aside0.mk ((by rw [hg]; exact (below_size (by repeat (first | (with_reducible first | exact HB.out | apply below_alloc | apply pw_below_drewN | apply below_drew1) | exact HB.out))) : w.heap.size ≤ gb311)); clear HB; have HB := n0_; have BK311 := n1_; have GW311 := n2_; have GE311 := n3_; clear n0_ n1_ n2_ n3_; clear hb hbox hg) | ((with_reducible refine gate_dst (N := 3) rfl ?_); refine box_event ?hg (N := 3) ?hd (cs := #[.int .i64 a1_0, .int .i64 a1_1, .int .i64 a1_2, .int .i64 a1_3, .int .i64 a1_4, .bool false]) (t := 38) ?hr ?_; (case hd => rfl); (case hg => rfl); (case hr => first | (go_simp; done) | (go_simp; rfl)); intro gb312 hg w12 hbox hb; have n0_ := Aside0.mk (blk_below (g := gb311) (o := .cells #[.slice A0_0 l0_0.length c0_0, .slice A0_1 l0_1.length c0_1, .slice A0_2 l0_2.length c0_2, .int .i64 a0_3, .int .i64 a0_4, .int .i64 a0_5, .int .i64 a0_6, .int .i64 a0_7, .int .i64 a0_8] 26 (0, 0)) (by (with_reducible repeat (first | refine blk_drewN ?_ _ | refine blk_drew ?_ | refine blk_alloc ?_ _)); exact BK311.out) hb); have n1_ := Aside0.mk (below_step (by repeat (first | (with_reducible first | exact HB.out | apply below_alloc | apply pw_below_drewN | apply below_drew1 | refine below_set ?_ GE311.out) | exact HB.out)) hb); have n2_ := Aside0.mk (hbox); have n3_ := Aside0.mk ((by rw [hg]; exact (below_size (by repeat (first | (with_reducible first | exact HB.out | apply below_alloc | apply pw_below_drewN | apply below_drew1 | refine below_set ?_ GE311.out) | exact HB.out))) : w.heap.size ≤ gb312)); have n4_ := Aside0.mk ((by rw [hg]; exact (below_size (by repeat (first | (with_reducible first | exact HB.out | apply below_alloc | apply pw_below_drewN | apply below_drew1 | refine below_set ?_ GE311.out) | exact HB.out))) : w.heap.size ≤ gb312)); have n5_ := Aside0.mk ((by rw [hg]; exact Nat.ne_of_lt (blk_lt (g := gb311) (o := .cells #[.slice A0_0 l0_0.length c0_0, .slice A0_1 l0_1.length c0_1, .slice A0_2 l0_2.length c0_2, .int .i64 a0_3, .int .i64 a0_4, .int .i64 a0_5, .int .i64 a0_6, .int .i64 a0_7, .int .i64 a0_8] 26 (0, 0)) (by (with_reducible repeat (first | refine blk_drewN ?_ _ | refine blk_drew ?_ | refine blk_alloc ?_ _)); exact BK311.out)) : gb311 ≠ gb312)); have n6_ := Aside0.mk ((by rw [hg]; exact Nat.ne_of_gt (blk_lt (g := gb311) (o := .cells #[.slice A0_0 l0_0.length c0_0, .slice A0_1 l0_1.length c0_1, .slice A0_2 l0_2.length c0_2, .int .i64 a0_3, .int .i64 a0_4, .int .i64 a0_5, .int .i64 a0_6, .int .i64 a0_7, .int .i64 a0_8] 26 (0, 0)) (by (with_reducible repeat (first | refine blk_drewN ?_ _ | refine blk_drew ?_ | refine blk_alloc ?_ _)); exact BK311.out)) : gb312 ≠ gb311)); clear BK311; clear HB; have BK311 := n0_; have HB := n1_; have BK312 := n2_; have GW312 := n3_; have GE312 := n4_; have NB311_312 := n5_; have NB312_311 := n6_; clear n0_ n1_ n2_ n3_ n4_ n5_ n6_; clear hb hbox hg; have hnb13 := NB312_311.out; have hnc13 := NB311_312.out; have hcz14_0 : w12.cell? ⟨gb312, 0, none⟩ = some (.int .i64 a1_0) := (blk_cell BK312.out 0).trans rfl; have hcz14_1 : w12.cell? ⟨gb312, 1, none⟩ = some (.int .i64 a1_1) := (blk_cell BK312.out 1).trans rfl; have hcz14_2 : w12.cell? ⟨gb312, 2, none⟩ = some (.int .i64 a1_2) := (blk_cell BK312.out 2).trans rfl; have hcz14_3 : w12.cell? ⟨gb312, 3, none⟩ = some (.int .i64 a1_3) := (blk_cell BK312.out 3).trans rfl; have hcz14_4 : w12.cell? ⟨gb312, 4, none⟩ = some (.int .i64 a1_4) := (blk_cell BK312.out 4).trans rfl; have hcz14_5 : w12.cell? ⟨gb312, 5, none⟩ = some (.bool false) := (blk_cell BK312.out 5).trans rfl; have hfz14_0 := blk_frozen BK312.out 0; have hfz14_1 := blk_frozen BK312.out 1; have hfz14_2 := blk_frozen BK312.out 2; have hfz14_3 := blk_frozen BK312.out 3; have hfz14_4 := blk_frozen BK312.out 4; have hfz14_5 := blk_frozen BK312.out 5) | (go_at_call 18; (with_reducible refine (dormouseref01_Max.calls a1_3 0 t313 _ A3.out).mono ?_); rintro e w' ⟨rfl, ⟨nd, rfl⟩⟩; (try first | exact ⟨rfl, _, World.drewN_drewN _ _ _⟩ | exact ⟨rfl, _, Eq.trans (World.drewN_drewN _ _ _) (congrArg (World.drewN _) (Nat.add_assoc _ _ _))⟩); have hcz15_0 : w12.cell? ⟨gb311, 0, none⟩ = some (.slice A0_0 l0_0.length c0_0) := (blk_cell BK311.out 0).trans rfl; have hcz15_1 : w12.cell? ⟨gb311, 1, none⟩ = some (.slice A0_1 l0_1.length c0_1) := (blk_cell BK311.out 1).trans rfl; have hcz15_2 : w12.cell? ⟨gb311, 2, none⟩ = some (.slice A0_2 l0_2.length c0_2) := (blk_cell BK311.out 2).trans rfl; have hcz15_3 : w12.cell? ⟨gb311, 3, none⟩ = some (.int .i64 a0_3) := (blk_cell BK311.out 3).trans rfl; have hcz15_4 : w12.cell? ⟨gb311, 4, none⟩ = some (.int .i64 a0_4) := (blk_cell BK311.out 4).trans rfl; have hcz15_5 : w12.cell? ⟨gb311, 5, none⟩ = some (.int .i64 a0_5) := (blk_cell BK311.out 5).trans rfl; have hcz15_6 : w12.cell? ⟨gb311, 6, none⟩ = some (.int .i64 a0_6) := (blk_cell BK311.out 6).trans rfl; have hcz15_7 : w12.cell? ⟨gb311, 7, none⟩ = some (.int .i64 a0_7) := (blk_cell BK311.out 7).trans rfl; have hcz15_8 : w12.cell? ⟨gb311, 8, none⟩ = some (.int .i64 a0_8) := (blk_cell BK311.out 8).trans rfl; have hfz15_0 := blk_frozen BK311.out 0; have hfz15_1 := blk_frozen BK311.out 1; have hfz15_2 := blk_frozen BK311.out 2; have hfz15_3 := blk_frozen BK311.out 3; have hfz15_4 := blk_frozen BK311.out 4; have hfz15_5 := blk_frozen BK311.out 5; have hfz15_6 := blk_frozen BK311.out 6; have hfz15_7 := blk_frozen BK311.out 7; have hfz15_8 := blk_frozen BK311.out 8; have p314 : 0 ≤ (0 : Int) := (by omega); have q314 : 0 < (l0_0.length : Int) := of_decide_eq_true (by first | (with_reducible assumption) | assumption); obtain ⟨ad314, e314, hx314_0, hx314_1⟩ := at_T58 HR0_0.out 0 p314 q314; cases e314; have qi314 : (0 < l0_0.length) = True := eq_true (by omega); (try rw [show ((0 : Int)).toNat = 0 from rfl] at hx314_0); (try rw [show 0 * 2 = 0 from rfl] at hx314_0); (try rw [Addr.add_zero'] at hx314_0); (try rw [show ((0 : Int)).toNat = 0 from rfl] at hx314_1); (try rw [show 0 * 2 = 0 from rfl] at hx314_1); (try rw [Addr.add_zero'] at hx314_1); replace hx314_0 := (HB.out.cell (World.block_lt_of_cell? w _ hx314_0)).trans hx314_0; replace hx314_1 := (HB.out.cell (World.block_lt_of_cell? w _ hx314_1)).trans hx314_1; replace p314 := eq_true p314; replace q314 := eq_true q314)))
      go_ret
      exact ⟨by first | rfl | (simp [IntWalk.i64_left]; done) | (simp [errW_none, errW_some] <;> rfl) | (simp [*, errW_none, errW_some] <;> rfl), by repeat (first | (with_reducible first | exact HB.out | apply below_alloc | apply pw_below_drewN | apply below_drew1 | refine below_set ?_ GE311.out | refine below_set ?_ GE312.out) | exact HB.out)⟩
  · rw [if_neg c4] at H
    exact absurd H (by simp)
def dormouseref01_Times.f (a0 : Int) (a1 : Int) : Option (Int) := (dormouseref01_clamp.f a0 0 17179869184).bind fun t315 => ((dormouseref01_clamp.f a1 0 134217728).bind fun t316 => (some (wrap64 (t315 * t316))))
set_option maxHeartbeats 8000000 in
set_option maxRecDepth 100000 in
theorem dormouseref01_Times.calls (a0 : Int) (a1 : Int) (r : Int) (w : World) (h : dormouseref01_Times.f a0 a1 = some r) :
    Calls Try.prog 54 #[.int .i64 a0, .int .i64 a1] w fun e w' => e = .returned (.int .i64 r) ∧ Drawn0 w w' := by
  have H : ((dormouseref01_clamp.f a0 0 17179869184).bind fun t315 => ((dormouseref01_clamp.f a1 0 134217728).bind fun t316 => (some (wrap64 (t315 * t316))))) = some r := h
  clear h
  replace H := Option.bind_eq_some_iff.mp H
  obtain ⟨t315, A30, H⟩ := H
  replace H : ((dormouseref01_clamp.f a1 0 134217728).bind fun t316 => (some (wrap64 (t315 * t316)))) = some r := H
  have A3 := Aside0.mk A30
  clear A30
  replace H := Option.bind_eq_some_iff.mp H
  obtain ⟨t316, A40, H⟩ := H
  replace H : (some (wrap64 (t315 * t316))) = some r := H
  have A4 := Aside0.mk A40
  clear A40
  obtain rfl := Option.some.inj H
  go_enter Try.func54, Try.ntmps54
  go_wp2_with (first | ((with_reducible refine gate_callee (f := 38) rfl ?_); refine goesL_ (some 6) rfl rfl Try.func38 (by kernel_rfl) rfl #[.int .i64 a0, .int .i64 0, .int .i64 17179869184] rfl (by (try simp only [List.map_toArray, List.map_cons, List.map_nil]); first | done | rfl | (simp only [List.length_drop, List.length_take]; rfl)) ?_; (with_reducible refine (dormouseref01_clamp.calls a0 0 17179869184 t315 _ A3.out).mono ?_); rintro e w' ⟨rfl, ⟨nd, rfl⟩⟩; refine ⟨_, rfl, ?_⟩) | ((with_reducible refine gate_callee (f := 38) rfl ?_); refine goesL_ (some 8) rfl rfl Try.func38 (by kernel_rfl) rfl #[.int .i64 a1, .int .i64 0, .int .i64 134217728] rfl (by (try simp only [List.map_toArray, List.map_cons, List.map_nil]); first | done | rfl | (simp only [List.length_drop, List.length_take]; rfl)) ?_; (with_reducible refine (dormouseref01_clamp.calls a1 0 134217728 t316 _ A4.out).mono ?_); rintro e w' ⟨rfl, ⟨nd, rfl⟩⟩; refine ⟨_, rfl, ?_⟩))
  go_ret
  exact ⟨by first | rfl | (simp; done) | (simp [*]; done), by repeat (first | exact Drawn0.refl _ | apply Drawn0.step)⟩
end Go.Proofs.Ytchlbnlhjllcbaa.F
namespace Go.Proofs.Ytchlbnlhjllcbaa.F
open Go.RowKit Go.Proofs.YtchlbnlhjllcbaaW.PrintWords Go.Proofs.YtchlbnlhjllcbaaW.PrintLast Go.Proofs.YtchlbnlhjllcbaaW.PrintMore
attribute [local go_sem] max2_int min2_int max_two min_two max_three min_three max_four min_four   -- for this text's walks alone
set_option linter.unusedVariables false
set_option linter.unusedSimpArgs false
mutual
def dormouseref09_At.l0 : Nat → List (S36) → List Int → List (S38) → Int → Int → Int → Int → List (S58) → List (S68) → List (S71) → Int → Int → Int → Int → Int → Int → Option (Int)
  | 0, _, _, _, _, _, _, _, _, _, _, _, _, _, _, _, _ => none
  | k + 1, x1, x2, x3, x5, x6, x15, x16, x318000, x318001, x318002, x318003, x318004, x318005, x318006, x318007, x318008 => if x16 < (x3.length : Int) then (if 0 ≤ x16 then (if ((rd_T38 x3 x16).f2) ≤ x6 then ((dormouseref09_Quanta.f x318000 x318001 x318002 x318003 x318004 x318005 x318006 x318007 x318008 ((rd_T38 x3 x16).f0) ((rd_T38 x3 x16).f1) ((rd_T38 x3 x16).f2) ((rd_T38 x3 x16).f3) ((rd_T38 x3 x16).f4) ((rd_T38 x3 x16).f5)).bind fun t321 => (dormouseref09_At.l0 k x1 x2 x3 x5 x6 (wrap64 (x15 - t321)) (wrap64 (x16 + 1)) x318000 x318001 x318002 x318003 x318004 x318005 x318006 x318007 x318008)) else (dormouseref09_At.l0 k x1 x2 x3 x5 x6 x15 (wrap64 (x16 + 1)) x318000 x318001 x318002 x318003 x318004 x318005 x318006 x318007 x318008)) else (none)) else ((dormouseref01_Whole.f x15).bind fun t322 => (dormouseref09_At.l1 k x1 x2 x5 x6 t322 0 x318000 x318001 x318002 x318003 x318004 x318005 x318006 x318007 x318008))
def dormouseref09_At.l1 : Nat → List (S36) → List Int → Int → Int → Int → Int → List (S58) → List (S68) → List (S71) → Int → Int → Int → Int → Int → Int → Option (Int)
  | 0, _, _, _, _, _, _, _, _, _, _, _, _, _, _, _ => none
  | k + 1, x1, x2, x5, x6, x17, x18, x318000, x318001, x318002, x318003, x318004, x318005, x318006, x318007, x318008 => if x18 < (x1.length : Int) then (if 0 ≤ x18 then (if ((rd_T36 x1 x18).f0) > 0 then ((dormouseref09_Part.f k x318000 x318001 x318002 x318003 x318004 x318005 x318006 x318007 x318008 ((rd_T36 x1 x18).f0) ((rd_T36 x1 x18).f1) ((rd_T36 x1 x18).f2) ((rd_T36 x1 x18).f3) 0).bind fun t325 => ((dormouseref09_from.f x2 x18 x5).bind fun t326 => ((dormouseref01_Times.f t325 (wrap64 (x6 - t326))).bind fun t327 => (dormouseref09_At.l1 k x1 x2 x5 x6 (wrap64 (x17 - t327)) (wrap64 (x18 + 1)) x318000 x318001 x318002 x318003 x318004 x318005 x318006 x318007 x318008)))) else (dormouseref09_At.l1 k x1 x2 x5 x6 x17 (wrap64 (x18 + 1)) x318000 x318001 x318002 x318003 x318004 x318005 x318006 x318007 x318008)) else (none)) else (some x17)
end
def dormouseref09_At.f (k : Nat) (l0_0 : List (S58)) (l0_1 : List (S68)) (l0_2 : List (S71)) (a0_3 : Int) (a0_4 : Int) (a0_5 : Int) (a0_6 : Int) (a0_7 : Int) (a0_8 : Int) (l1 : List (S36)) (l2 : List Int) (l3 : List (S38)) (l4 : List (S56)) (a5 : Int) (a6 : Int) : Option (Int) := (dormouseref09_Hinders.f l0_0 l0_1 l0_2 a0_3 a0_4 a0_5 a0_6 a0_7 a0_8 l1 l2 l3 l4 a5 a6).bind fun t318 => (dormouseref09_At.l0 k l1 l2 l3 a5 a6 (wrap64 ((wrap64 (a6 - a5)) - t318)) 0 l0_0 l0_1 l0_2 a0_3 a0_4 a0_5 a0_6 a0_7 a0_8)
def dormouseref09_At.T6 : Bool × List (List Nat × List Nat) := (true, [([], []), ([], []), ([], []), ([], []), ([2, 3], [2, 3]), ([4], [4]), ([1, 5], [1, 5]), ([0, 6], [0, 6]), ([7, 6, 0, 1, 2, 3, 4, 5, 6, 7], [0, 7])])
def dormouseref09_At.B6 : List Nat := [0, 0, 0, 0, 12, 28, 62, 127, 255]
theorem dormouseref09_At.tab6 : rtab .any (opsOf Try.f40 6) = dormouseref09_At.T6 := by kernel_rfl
theorem dormouseref09_At.bits6 : waitsOk dormouseref09_At.T6.2 dormouseref09_At.B6 = true := by kernel_rfl
def dormouseref09_At.T12 : Bool × List (List Nat × List Nat) := (true, [([], []), ([], []), ([], []), ([], []), ([2, 3], [2, 3]), ([4], [4]), ([1, 5], [1, 5]), ([], []), ([], []), ([], []), ([], []), ([8, 9, 10, 6], [8, 9, 10]), ([7, 11], [7, 11]), ([6, 12, 11], [6, 12]), ([0, 13], [0, 13]), ([14, 13, 0, 1, 2, 3, 4, 5, 6, 7, 8, 9, 10, 11, 12, 13, 14], [0, 14])])
def dormouseref09_At.B12 : List Nat := [0, 0, 0, 0, 12, 28, 62, 0, 0, 0, 0, 1918, 4094, 8190, 16383, 32767]
theorem dormouseref09_At.tab12 : rtab .any (opsOf Try.f40 12) = dormouseref09_At.T12 := by kernel_rfl
theorem dormouseref09_At.bits12 : waitsOk dormouseref09_At.T12.2 dormouseref09_At.B12 = true := by kernel_rfl
set_option maxHeartbeats 8000000 in
set_option maxRecDepth 100000 in
theorem dormouseref09_At.calls (k : Nat) (A0_0 : Option Addr) (c0_0 : Nat) (l0_0 : List (S58)) (A0_1 : Option Addr) (c0_1 : Nat) (l0_1 : List (S68)) (A0_2 : Option Addr) (c0_2 : Nat) (l0_2 : List (S71)) (a0_3 : Int) (a0_4 : Int) (a0_5 : Int) (a0_6 : Int) (a0_7 : Int) (a0_8 : Int) (A1 : Option Addr) (c1 : Nat) (l1 : List (S36)) (A2 : Option Addr) (c2 : Nat) (l2 : List Int) (A3 : Option Addr) (c3 : Nat) (l3 : List (S38)) (A4 : Option Addr) (c4 : Nat) (l4 : List (S56)) (a5 : Int) (a6 : Int) (r : Int) (w : World) (hr0_0 : Kd.C k58 w A0_0 l0_0.length l0_0) (hc0_0 : l0_0.length ≤ c0_0) (hr0_1 : Kd.C k68 w A0_1 l0_1.length l0_1) (hc0_1 : l0_1.length ≤ c0_1) (hr0_2 : Kd.C k71 w A0_2 l0_2.length l0_2) (hc0_2 : l0_2.length ≤ c0_2) (hr1 : Kd.C k36 w A1 l1.length l1) (hc1 : l1.length ≤ c1) (hr2 : Kd.C (Kd.int .i64) w A2 l2.length l2) (hc2 : l2.length ≤ c2) (hr3 : Kd.C k38 w A3 l3.length l3) (hc3 : l3.length ≤ c3) (hr4 : Kd.C k56 w A4 l4.length l4) (hc4 : l4.length ≤ c4) (h : dormouseref09_At.f k l0_0 l0_1 l0_2 a0_3 a0_4 a0_5 a0_6 a0_7 a0_8 l1 l2 l3 l4 a5 a6 = some r) :
    Calls Try.prog 40 #[.agg #[.slice A0_0 l0_0.length c0_0, .slice A0_1 l0_1.length c0_1, .slice A0_2 l0_2.length c0_2, .int .i64 a0_3, .int .i64 a0_4, .int .i64 a0_5, .int .i64 a0_6, .int .i64 a0_7, .int .i64 a0_8], .slice A1 l1.length c1, .slice A2 l2.length c2, .slice A3 l3.length c3, .slice A4 l4.length c4, .int .i64 a5, .int .i64 a6] w fun e w' => e = .returned (.int .i64 r) ∧ Below w.heap.size w w' := by
  have hu26 := Try.underlying26
  have hu38 := Try.underlying38
  have hu36 := Try.underlying36
  have HR0_0 := Aside0.mk hr0_0
  have HC0_0 := Aside0.mk hc0_0
  clear hr0_0 hc0_0
  have HR0_1 := Aside0.mk hr0_1
  have HC0_1 := Aside0.mk hc0_1
  clear hr0_1 hc0_1
  have HR0_2 := Aside0.mk hr0_2
  have HC0_2 := Aside0.mk hc0_2
  clear hr0_2 hc0_2
  have HR1 := Aside0.mk hr1
  have HC1 := Aside0.mk hc1
  clear hr1 hc1
  have HR2 := Aside0.mk hr2
  have HC2 := Aside0.mk hc2
  clear hr2 hc2
  have HR3 := Aside0.mk hr3
  have HC3 := Aside0.mk hc3
  clear hr3 hc3
  have HR4 := Aside0.mk hr4
  have HC4 := Aside0.mk hc4
  clear hr4 hc4
  have HB := Aside0.mk (Below.refl w.heap.size w)
  have H : ((dormouseref09_Hinders.f l0_0 l0_1 l0_2 a0_3 a0_4 a0_5 a0_6 a0_7 a0_8 l1 l2 l3 l4 a5 a6).bind fun t318 => (dormouseref09_At.l0 k l1 l2 l3 a5 a6 (wrap64 ((wrap64 (a6 - a5)) - t318)) 0 l0_0 l0_1 l0_2 a0_3 a0_4 a0_5 a0_6 a0_7 a0_8)) = some r := h
  clear h
  replace H := Option.bind_eq_some_iff.mp H
  obtain ⟨t318, A80, H⟩ := H
  replace H : (dormouseref09_At.l0 k l1 l2 l3 a5 a6 (wrap64 ((wrap64 (a6 - a5)) - t318)) 0 l0_0 l0_1 l0_2 a0_3 a0_4 a0_5 a0_6 a0_7 a0_8) = some r := H
  have A8 := Aside0.mk A80
  clear A80
  have H' := Aside0.mk H
  clear H
  go_enter Try.func40, Try.ntmps40
  go_wp2_with (first | ((with_reducible refine gate_dst (N := 7) rfl ?_); refine box_event ?hg (N := 7) ?hd (cs := #[.slice A0_0 l0_0.length c0_0, .slice A0_1 l0_1.length c0_1, .slice A0_2 l0_2.length c0_2, .int .i64 a0_3, .int .i64 a0_4, .int .i64 a0_5, .int .i64 a0_6, .int .i64 a0_7, .int .i64 a0_8]) (t := 26) ?hr ?_; (case hd => rfl); (case hg => rfl); (case hr => first | (go_simp; done) | (go_simp; rfl)); intro gb317 hg w9 hbox hb; have n0_ := Aside0.mk (below_step (by repeat (first | (with_reducible first | exact HB.out | apply below_alloc | apply pw_below_drewN | apply below_drew1) | exact HB.out)) hb); have n1_ := Aside0.mk (hbox); have n2_ := Aside0.mk ((by rw [hg]; exact (below_size (by repeat (first | (with_reducible first | exact HB.out | apply below_alloc | apply pw_below_drewN | apply below_drew1) | exact HB.out))) : w.heap.size ≤ gb317)); have n3_ := Aside0.mk ((by rw [hg]; exact (below_size (by repeat (first | (with_reducible first | exact HB.out | apply below_alloc | apply pw_below_drewN | apply below_drew1) | exact HB.out))) : w.heap.size ≤ gb317)); clear HB; have HB := n0_; have BK317 := n1_; have GW317 := n2_; have GE317 := n3_; clear n0_ n1_ n2_ n3_; clear hb hbox hg; have hcz10_0 : w9.cell? ⟨gb317, 0, none⟩ = some (.slice A0_0 l0_0.length c0_0) := (blk_cell BK317.out 0).trans rfl; have hcz10_1 : w9.cell? ⟨gb317, 1, none⟩ = some (.slice A0_1 l0_1.length c0_1) := (blk_cell BK317.out 1).trans rfl; have hcz10_2 : w9.cell? ⟨gb317, 2, none⟩ = some (.slice A0_2 l0_2.length c0_2) := (blk_cell BK317.out 2).trans rfl; have hcz10_3 : w9.cell? ⟨gb317, 3, none⟩ = some (.int .i64 a0_3) := (blk_cell BK317.out 3).trans rfl; have hcz10_4 : w9.cell? ⟨gb317, 4, none⟩ = some (.int .i64 a0_4) := (blk_cell BK317.out 4).trans rfl; have hcz10_5 : w9.cell? ⟨gb317, 5, none⟩ = some (.int .i64 a0_5) := (blk_cell BK317.out 5).trans rfl; have hcz10_6 : w9.cell? ⟨gb317, 6, none⟩ = some (.int .i64 a0_6) := (blk_cell BK317.out 6).trans rfl; have hcz10_7 : w9.cell? ⟨gb317, 7, none⟩ = some (.int .i64 a0_7) := (blk_cell BK317.out 7).trans rfl; have hcz10_8 : w9.cell? ⟨gb317, 8, none⟩ = some (.int .i64 a0_8) := (blk_cell BK317.out 8).trans rfl; have hfz10_0 := blk_frozen BK317.out 0; have hfz10_1 := blk_frozen BK317.out 1; have hfz10_2 := blk_frozen BK317.out 2; have hfz10_3 := blk_frozen BK317.out 3; have hfz10_4 := blk_frozen BK317.out 4; have hfz10_5 := blk_frozen BK317.out 5; have hfz10_6 := blk_frozen BK317.out 6; have hfz10_7 := blk_frozen BK317.out 7; have hfz10_8 := blk_frozen BK317.out 8) | ((with_reducible refine gate_callee (f := 52) rfl ?_); refine goesL_ (some 29) rfl rfl Try.func52 (by kernel_rfl) rfl #[.agg #[.slice A0_0 l0_0.length c0_0, .slice A0_1 l0_1.length c0_1, .slice A0_2 l0_2.length c0_2, .int .i64 a0_3, .int .i64 a0_4, .int .i64 a0_5, .int .i64 a0_6, .int .i64 a0_7, .int .i64 a0_8], .slice A1 l1.length c1, .slice A2 l2.length c2, .slice A3 l3.length c3, .slice A4 l4.length c4, .int .i64 a5, .int .i64 a6] rfl (by (try simp only [List.map_toArray, List.map_cons, List.map_nil]); first | done | rfl | (simp only [List.length_drop, List.length_take]; rfl)) ?_; (with_reducible refine (dormouseref09_Hinders.calls _ _ l0_0 _ _ l0_1 _ _ l0_2 a0_3 a0_4 a0_5 a0_6 a0_7 a0_8 _ _ l1 _ _ l2 _ _ l3 _ _ l4 a5 a6 t318 _ ?side1 ?side2 ?side3 ?side4 ?side5 ?side6 ?side7 ?side8 ?side9 ?side10 ?side11 ?side12 ?side13 ?side14 A8.out).mono ?_); (case side1 => repeat (first | exact (Kd.C_below HR0_0.out HB.out) | (with_reducible refine Kd.C_alloc ?_ _) | (with_reducible refine Kd.C_drewN ?_ _) | (with_reducible refine Kd.C_drew ?_))); (case side2 => exact HC0_0.out); (case side3 => repeat (first | exact (Kd.C_below HR0_1.out HB.out) | (with_reducible refine Kd.C_alloc ?_ _) | (with_reducible refine Kd.C_drewN ?_ _) | (with_reducible refine Kd.C_drew ?_))); (case side4 => exact HC0_1.out); (case side5 => repeat (first | exact (Kd.C_below HR0_2.out HB.out) | (with_reducible refine Kd.C_alloc ?_ _) | (with_reducible refine Kd.C_drewN ?_ _) | (with_reducible refine Kd.C_drew ?_))); (case side6 => exact HC0_2.out); (case side7 => repeat (first | exact (Kd.C_below HR1.out HB.out) | (with_reducible refine Kd.C_alloc ?_ _) | (with_reducible refine Kd.C_drewN ?_ _) | (with_reducible refine Kd.C_drew ?_))); (case side8 => exact HC1.out); (case side9 => repeat (first | exact (Kd.C_below HR2.out HB.out) | (with_reducible refine Kd.C_alloc ?_ _) | (with_reducible refine Kd.C_drewN ?_ _) | (with_reducible refine Kd.C_drew ?_))); (case side10 => exact HC2.out); (case side11 => repeat (first | exact (Kd.C_below HR3.out HB.out) | (with_reducible refine Kd.C_alloc ?_ _) | (with_reducible refine Kd.C_drewN ?_ _) | (with_reducible refine Kd.C_drew ?_))); (case side12 => exact HC3.out); (case side13 => repeat (first | exact (Kd.C_below HR4.out HB.out) | (with_reducible refine Kd.C_alloc ?_ _) | (with_reducible refine Kd.C_drewN ?_ _) | (with_reducible refine Kd.C_drew ?_))); (case side14 => exact HC4.out); rintro e w11 ⟨rfl, hb⟩; refine ⟨_, rfl, ?_⟩; have n0_ := Aside0.mk (blk_below (g := gb317) (o := .cells #[.slice A0_0 l0_0.length c0_0, .slice A0_1 l0_1.length c0_1, .slice A0_2 l0_2.length c0_2, .int .i64 a0_3, .int .i64 a0_4, .int .i64 a0_5, .int .i64 a0_6, .int .i64 a0_7, .int .i64 a0_8] 26 (0, 0)) (by (with_reducible repeat (first | refine blk_drewN ?_ _ | refine blk_drew ?_ | refine blk_alloc ?_ _)); exact BK317.out) hb); have n1_ := Aside0.mk (below_step (by repeat (first | (with_reducible first | exact HB.out | apply below_alloc | apply pw_below_drewN | apply below_drew1 | refine below_set ?_ GE317.out) | exact HB.out)) hb); clear BK317; clear HB; have BK317 := n0_; have HB := n1_; clear n0_ n1_; (try clear hb); (try clear hb2); (try clear hk); (try clear hi)))
  go_loopg [15, 16] k (fun kq v15 v16 w' => ∃ (x15_1 : Int) (x16_1 : Int), v15 = .int .i64 x15_1 ∧ v16 = .int .i64 x16_1 ∧ Aside0 (dormouseref09_At.l0 kq l1 l2 l3 a5 a6 x15_1 x16_1 l0_0 l0_1 l0_2 a0_3 a0_4 a0_5 a0_6 a0_7 a0_8 = some r) ∧ Aside0 (kq ≤ k) ∧ Aside0 (w'.heap[gb317]? = some (.cells #[(.slice A0_0 l0_0.length c0_0), (.slice A0_1 l0_1.length c0_1), (.slice A0_2 l0_2.length c0_2), .int .i64 a0_3, .int .i64 a0_4, .int .i64 a0_5, .int .i64 a0_6, .int .i64 a0_7, .int .i64 a0_8] 26 (0, 0))) ∧ Aside0 (Below w.heap.size w w'))
  case atStart => exact ⟨(wrap64 ((wrap64 (a6 - a5)) - t318)), (0), (by first | rfl | (simp; done) | (simp [*]; done)), (by first | rfl | (simp; done) | (simp [*]; done)), H', ⟨Nat.le_refl _⟩, ⟨by (with_reducible repeat (first | refine blk_drewN ?_ _ | refine blk_drew ?_ | refine blk_alloc ?_ _)); exact BK317.out⟩, ⟨by repeat (first | (with_reducible first | exact HB.out | apply below_alloc | apply pw_below_drewN | apply below_drew1 | refine below_set ?_ GE317.out) | exact HB.out)⟩⟩
  case round =>
    clear H'
    try clear c1
    try clear c2
    try clear p2
    try clear c3
    try clear c4
    try clear c5
    try clear p6
    try clear hcz10_0
    try clear hcz10_1
    try clear hcz10_2
    try clear hcz10_3
    try clear hcz10_4
    try clear hcz10_5
    try clear hcz10_6
    try clear hcz10_7
    try clear hcz10_8
    try clear hfz10_0
    try clear hfz10_1
    try clear hfz10_2
    try clear hfz10_3
    try clear hfz10_4
    try clear hfz10_5
    try clear hfz10_6
    try clear hfz10_7
    try clear hfz10_8
    obtain ⟨x15_1, x16_1, rfl, rfl, HA, HK1, BK317, HB⟩ := hrel
    cases gk with
    | zero => exact absurd HA.out (by simp [dormouseref09_At.l0])
    | succ k1 =>
      have H := HA.out
      clear HA
      simp only [dormouseref09_At.l0] at H
      by_cases c12 : x16_1 < (l3.length : Int)
      · rw [if_pos c12] at H
        have c12b0 : decide (x16_1 < (l3.length : Int)) = true := decide_eq_true c12
        clear c12
        by_cases c13 : 0 ≤ x16_1
        · rw [if_pos c13] at H
          have c13b0 : decide (0 ≤ x16_1) = true := decide_eq_true c13
          clear c13
          by_cases c14 : ((rd_T38 l3 x16_1).f2) ≤ a6
          · rw [if_pos c14] at H
            have c14b0 : decide (((rd_T38 l3 x16_1).f2) ≤ a6) = true := decide_eq_true c14
            clear c14
            replace H := Option.bind_eq_some_iff.mp H
            obtain ⟨t321, A150, H⟩ := H
            replace H : (dormouseref09_At.l0 k1 l1 l2 l3 a5 a6 (wrap64 (x15_1 - t321)) (wrap64 (x16_1 + 1)) l0_0 l0_1 l0_2 a0_3 a0_4 a0_5 a0_6 a0_7 a0_8) = some r := H
            have A15 := Aside0.mk A150
            clear A150
            have H' := Aside0.mk H
            clear H
            have p319 : 0 ≤ (x16_1 : Int) := of_decide_eq_true (by first | (with_reducible assumption) | assumption)
            have q319 : x16_1 < (l3.length : Int) := of_decide_eq_true (by first | (with_reducible assumption) | assumption)
            obtain ⟨ad319, e319, hx319_0, hx319_1, hx319_2, hx319_3, hx319_4, hx319_5⟩ := at_T38 HR3.out x16_1 p319 q319
            cases e319
            replace hx319_0 := (HB.out.cell (World.block_lt_of_cell? w _ hx319_0)).trans hx319_0
            replace hx319_1 := (HB.out.cell (World.block_lt_of_cell? w _ hx319_1)).trans hx319_1
            replace hx319_2 := (HB.out.cell (World.block_lt_of_cell? w _ hx319_2)).trans hx319_2
            replace hx319_3 := (HB.out.cell (World.block_lt_of_cell? w _ hx319_3)).trans hx319_3
            replace hx319_4 := (HB.out.cell (World.block_lt_of_cell? w _ hx319_4)).trans hx319_4
            replace hx319_5 := (HB.out.cell (World.block_lt_of_cell? w _ hx319_5)).trans hx319_5
            replace p319 := eq_true p319
            replace q319 := eq_true q319
            try go_wp2
            have n0_ := Aside0.mk (blk_drew BK317.out)
            have n1_ := Aside0.mk (below_drew1 HB.out)
            clear BK317
            clear HB
            have BK317 := n0_
            have HB := n1_
            clear n0_ n1_
            have p320 : 0 ≤ (x16_1 : Int) := of_decide_eq_true (by first | (with_reducible assumption) | assumption)
            have q320 : x16_1 < (l3.length : Int) := of_decide_eq_true (by first | (with_reducible assumption) | assumption)
            obtain ⟨ad320, e320, hx320_0, hx320_1, hx320_2, hx320_3, hx320_4, hx320_5⟩ := at_T38 HR3.out x16_1 p320 q320
            have hw320_5 := hx320_5
            have hw320_4 := hx320_4
            have hw320_3 := hx320_3
            have hw320_2 := hx320_2
            have hw320_1 := hx320_1
            have hw320_0 := hx320_0
            obtain rfl : ad319 = ad320 := (by injection e320)
            replace hx320_0 := (HB.out.cell (World.block_lt_of_cell? w _ hx320_0)).trans hx320_0
            replace hx320_1 := (HB.out.cell (World.block_lt_of_cell? w _ hx320_1)).trans hx320_1
            replace hx320_2 := (HB.out.cell (World.block_lt_of_cell? w _ hx320_2)).trans hx320_2
            replace hx320_3 := (HB.out.cell (World.block_lt_of_cell? w _ hx320_3)).trans hx320_3
            replace hx320_4 := (HB.out.cell (World.block_lt_of_cell? w _ hx320_4)).trans hx320_4
            replace hx320_5 := (HB.out.cell (World.block_lt_of_cell? w _ hx320_5)).trans hx320_5
            replace p320 := eq_true p320
            replace q320 := eq_true q320
            refine start_ (n := 9) (S := fun w' => w'.cell? ⟨gb317, 0, none⟩ = some (.slice A0_0 l0_0.length c0_0) ∧ w'.cell? ⟨gb317, 1, none⟩ = some (.slice A0_1 l0_1.length c0_1) ∧ w'.cell? ⟨gb317, 2, none⟩ = some (.slice A0_2 l0_2.length c0_2) ∧ w'.cell? ⟨gb317, 3, none⟩ = some (.int .i64 a0_3) ∧ w'.cell? ⟨gb317, 4, none⟩ = some (.int .i64 a0_4) ∧ w'.cell? ⟨gb317, 5, none⟩ = some (.int .i64 a0_5) ∧ w'.cell? ⟨gb317, 6, none⟩ = some (.int .i64 a0_6) ∧ w'.cell? ⟨gb317, 7, none⟩ = some (.int .i64 a0_7) ∧ w'.cell? ⟨gb317, 8, none⟩ = some (.int .i64 a0_8) ∧ w'.cell? (ad319.add ((x16_1).toNat * 6)) = some (.int .i64 ((rd_T38 l3 x16_1).f0)) ∧ w'.cell? ⟨(ad319.add ((x16_1).toNat * 6)).block, (ad319.add ((x16_1).toNat * 6)).off + 1, none⟩ = some (.int .i64 ((rd_T38 l3 x16_1).f1)) ∧ w'.cell? ⟨(ad319.add ((x16_1).toNat * 6)).block, (ad319.add ((x16_1).toNat * 6)).off + 2, none⟩ = some (.int .i64 ((rd_T38 l3 x16_1).f2)) ∧ w'.cell? ⟨(ad319.add ((x16_1).toNat * 6)).block, (ad319.add ((x16_1).toNat * 6)).off + 3, none⟩ = some (.int .i64 ((rd_T38 l3 x16_1).f3)) ∧ w'.cell? ⟨(ad319.add ((x16_1).toNat * 6)).block, (ad319.add ((x16_1).toNat * 6)).off + 4, none⟩ = some (.int .i64 ((rd_T38 l3 x16_1).f4)) ∧ w'.cell? ⟨(ad319.add ((x16_1).toNat * 6)).block, (ad319.add ((x16_1).toNat * 6)).off + 5, none⟩ = some (.bool ((rd_T38 l3 x16_1).f5))) (ds := []) #[false, false, false, false, false, false, false, false, false] (by kernel_rfl) rfl rfl ⟨(blk_cell BK317.out 0).trans rfl, (blk_cell BK317.out 1).trans rfl, (blk_cell BK317.out 2).trans rfl, (blk_cell BK317.out 3).trans rfl, (blk_cell BK317.out 4).trans rfl, (blk_cell BK317.out 5).trans rfl, (blk_cell BK317.out 6).trans rfl, (blk_cell BK317.out 7).trans rfl, (blk_cell BK317.out 8).trans rfl, ((HB.out.cell (World.block_lt_of_cell? w _ hw320_0)).trans hw320_0), ((HB.out.cell (World.block_lt_of_cell? w _ hw320_1)).trans hw320_1), ((HB.out.cell (World.block_lt_of_cell? w _ hw320_2)).trans hw320_2), ((HB.out.cell (World.block_lt_of_cell? w _ hw320_3)).trans hw320_3), ((HB.out.cell (World.block_lt_of_cell? w _ hw320_4)).trans hw320_4), ((HB.out.cell (World.block_lt_of_cell? w _ hw320_5)).trans hw320_5)⟩ (fun hHeld => ?_); refine with_tabW dormouseref09_At.tab6 dormouseref09_At.bits6 (fun HT_ HW_ => ?_)
            generalize wr.drew = w16 at BK317 HB hx320_0 hx320_1 hx320_2 hx320_3 hx320_4 hx320_5 hHeld ⊢
            refine pure_ (i := 0) (N := some 44) (v := ?_) (a' := ?_) #[true, false, false, false, false, false, false, false, false] rfl rfl (any_of HT_.out (by kernel_rfl)) (fun _ _ _ h => h) (Or.inl ⟨by rfl, ?_⟩) ?_ ?_
            rotate_left
            · intro w'
              go_simp
              with_reducible rfl
            rotate_left
            · simp only [Act.put, List.setIfInBounds_toArray, List.set_cons_zero, List.set_cons_succ, i64_w, i32_w]
              rfl
            refine pure_ (i := 2) (N := some 46) (v := ?_) (a' := ?_) #[true, false, true, false, false, false, false, false, false] rfl rfl (any_of HT_.out (by kernel_rfl)) (fun _ _ _ h => h) (Or.inl ⟨by rfl, ?_⟩) ?_ ?_
            rotate_left
            · intro w'
              go_simp
              with_reducible rfl
            rotate_left
            · simp only [Act.put, List.setIfInBounds_toArray, List.set_cons_zero, List.set_cons_succ, i64_w, i32_w]
              rfl
            refine pure_ (i := 3) (N := some 47) (v := ?_) (a' := ?_) #[true, false, true, true, false, false, false, false, false] rfl rfl (any_of HT_.out (by kernel_rfl)) (fun _ _ _ h => h) (Or.inl ⟨by rfl, ?_⟩) ?_ ?_
            rotate_left
            · intro w'
              go_simp
              with_reducible rfl
            rotate_left
            · simp only [Act.put, List.setIfInBounds_toArray, List.set_cons_zero, List.set_cons_succ, i64_w, i32_w]
              rfl
            refine pure_ (i := 4) (N := some 48) (v := ?_) (a' := ?_) #[true, false, true, true, true, false, false, false, false] rfl rfl (any_of HT_.out (by kernel_rfl)) (fun _ _ _ h => h) (Or.inl ⟨by rfl, ?_⟩) ?_ ?_
            rotate_left
            · intro w'
              go_simp
              with_reducible rfl
            rotate_left
            · simp only [Act.put, List.setIfInBounds_toArray, List.set_cons_zero, List.set_cons_succ, i64_w, i32_w]
              rfl
            refine take_ (i := 1) (N := some 45) (v := ?_) (a' := ?_) #[true, true, true, true, true, false, false, false, false] rfl rfl (take_ofW HT_.out HW_.out (by kernel_rfl)) (fun _ _ _ h => h) (Or.inl ⟨by rfl, ?_⟩) hHeld ?_ ?_
            rotate_left
            · rintro w' ⟨s0, s1, s2, s3, s4, s5, s6, s7, s8, s9, s10, s11, s12, s13, s14⟩
              go_simp
              with_reducible rfl
            rotate_left
            · simp only [Act.put, List.setIfInBounds_toArray, List.set_cons_zero, List.set_cons_succ, i64_w, i32_w]
              rfl
            refine take_ (i := 5) (N := some 49) (v := ?_) (a' := ?_) #[true, true, true, true, true, true, false, false, false] rfl rfl (take_ofW HT_.out HW_.out (by kernel_rfl)) (fun _ _ _ h => h) (Or.inl ⟨by rfl, ?_⟩) hHeld ?_ ?_
            rotate_left
            · rintro w' ⟨s0, s1, s2, s3, s4, s5, s6, s7, s8, s9, s10, s11, s12, s13, s14⟩
              go_simp
              with_reducible rfl
            rotate_left
            · simp only [Act.put, List.setIfInBounds_toArray, List.set_cons_zero, List.set_cons_succ, i64_w, i32_w]
              rfl
            refine one_ (i := 6) (N := some 50) #[true, true, true, true, true, true, true, false, false] rfl rfl (one_of HT_.out (by kernel_rfl)) (by decide) (fun K hK => ?_)
            refine goes_ Try.func53 (by kernel_rfl) rfl #[.agg #[.slice A0_0 l0_0.length c0_0, .slice A0_1 l0_1.length c0_1, .slice A0_2 l0_2.length c0_2, .int .i64 a0_3, .int .i64 a0_4, .int .i64 a0_5, .int .i64 a0_6, .int .i64 a0_7, .int .i64 a0_8], .agg #[.int .i64 ((rd_T38 l3 x16_1).f0), .int .i64 ((rd_T38 l3 x16_1).f1), .int .i64 ((rd_T38 l3 x16_1).f2), .int .i64 ((rd_T38 l3 x16_1).f3), .int .i64 ((rd_T38 l3 x16_1).f4), .bool ((rd_T38 l3 x16_1).f5)]] (by rfl) rfl rfl (by (try simp only [List.map_toArray, List.map_cons, List.map_nil]); first | done | rfl | (simp only [List.length_drop, List.length_take]; rfl)) ?_
            with_reducible refine (dormouseref09_Quanta.calls _ _ l0_0 _ _ l0_1 _ _ l0_2 a0_3 a0_4 a0_5 a0_6 a0_7 a0_8 ((rd_T38 l3 x16_1).f0) ((rd_T38 l3 x16_1).f1) ((rd_T38 l3 x16_1).f2) ((rd_T38 l3 x16_1).f3) ((rd_T38 l3 x16_1).f4) ((rd_T38 l3 x16_1).f5) t321 _ ?side1 ?side2 ?side3 ?side4 ?side5 ?side6 A15.out).mono ?_
            (case side1 => repeat (first | exact (Kd.C_below HR0_0.out HB.out) | (with_reducible refine Kd.C_alloc ?_ _) | (with_reducible refine Kd.C_drewN ?_ _) | (with_reducible refine Kd.C_drew ?_)))
            (case side2 => exact HC0_0.out)
            (case side3 => repeat (first | exact (Kd.C_below HR0_1.out HB.out) | (with_reducible refine Kd.C_alloc ?_ _) | (with_reducible refine Kd.C_drewN ?_ _) | (with_reducible refine Kd.C_drew ?_)))
            (case side4 => exact HC0_1.out)
            (case side5 => repeat (first | exact (Kd.C_below HR0_2.out HB.out) | (with_reducible refine Kd.C_alloc ?_ _) | (with_reducible refine Kd.C_drewN ?_ _) | (with_reducible refine Kd.C_drew ?_)))
            (case side6 => exact HC0_2.out)
            rintro e w17 ⟨rfl, hb⟩
            refine ⟨_, rfl, ?_⟩
            have n0_ := Aside0.mk (blk_below (g := gb317) (o := .cells #[.slice A0_0 l0_0.length c0_0, .slice A0_1 l0_1.length c0_1, .slice A0_2 l0_2.length c0_2, .int .i64 a0_3, .int .i64 a0_4, .int .i64 a0_5, .int .i64 a0_6, .int .i64 a0_7, .int .i64 a0_8] 26 (0, 0)) (by (with_reducible repeat (first | refine blk_drewN ?_ _ | refine blk_drew ?_ | refine blk_alloc ?_ _)); exact BK317.out) hb)
            have n1_ := Aside0.mk (below_step (by repeat (first | (with_reducible first | exact HB.out | apply below_alloc | apply pw_below_drewN | apply below_drew1 | refine below_set ?_ GE317.out) | exact HB.out)) hb)
            clear BK317
            clear HB
            have BK317 := n0_
            have HB := n1_
            clear n0_ n1_
            (try clear hb)
            (try clear hb2)
            (try clear hk)
            (try clear hi)
            refine hK.out _ _ ⟨(blk_cell BK317.out 0).trans rfl, (blk_cell BK317.out 1).trans rfl, (blk_cell BK317.out 2).trans rfl, (blk_cell BK317.out 3).trans rfl, (blk_cell BK317.out 4).trans rfl, (blk_cell BK317.out 5).trans rfl, (blk_cell BK317.out 6).trans rfl, (blk_cell BK317.out 7).trans rfl, (blk_cell BK317.out 8).trans rfl, ((HB.out.cell (World.block_lt_of_cell? w _ hw320_0)).trans hw320_0), ((HB.out.cell (World.block_lt_of_cell? w _ hw320_1)).trans hw320_1), ((HB.out.cell (World.block_lt_of_cell? w _ hw320_2)).trans hw320_2), ((HB.out.cell (World.block_lt_of_cell? w _ hw320_3)).trans hw320_3), ((HB.out.cell (World.block_lt_of_cell? w _ hw320_4)).trans hw320_4), ((HB.out.cell (World.block_lt_of_cell? w _ hw320_5)).trans hw320_5)⟩ (fun hHeld => ?_)
            clear hK K
            refine norm_ (a' := ?_) ?_ ?_
            rotate_left
            · show Act.put _ (some 50) _ = _
              simp only [Act.put, List.setIfInBounds_toArray, List.set_cons_zero, List.set_cons_succ, i64_w, i32_w]
              rfl
            refine pure_ (i := 7) (N := some 51) (v := ?_) (a' := ?_) #[true, true, true, true, true, true, true, true, false] rfl rfl (any_of HT_.out (by kernel_rfl)) (fun _ _ _ h => h) (Or.inl ⟨by rfl, ?_⟩) ?_ ?_
            rotate_left
            · intro w'
              go_simp
              with_reducible rfl
            rotate_left
            · simp only [Act.put, List.setIfInBounds_toArray, List.set_cons_zero, List.set_cons_succ, i64_w, i32_w]
              rfl
            refine pure_ (i := 8) (N := some 15) (v := ?_) (a' := ?_) #[true, true, true, true, true, true, true, true, true] rfl rfl (any_of HT_.out (by kernel_rfl)) (fun _ _ _ h => h) (Or.inl ⟨by rfl, ?_⟩) ?_ ?_
            rotate_left
            · intro w'
              go_simp
              with_reducible rfl
            rotate_left
            · simp only [Act.put, List.setIfInBounds_toArray, List.set_cons_zero, List.set_cons_succ, i64_w, i32_w]
              rfl
            refine done_ (done_of HT_.out (by kernel_rfl)) ?_
            try go_wp2
            go_roundg k1
            case measure => have := HK1.out; omega
            case rel => exact ⟨(wrap64 (x15_1 - t321)), (wrap64 (x16_1 + 1)), (by first | rfl | (simp; done) | (simp [*]; done)), (by first | rfl | (simp; done) | (simp [*]; done)), H', ⟨by have := HK1.out; omega⟩, ⟨by (with_reducible repeat (first | refine blk_drewN ?_ _ | refine blk_drew ?_ | refine blk_alloc ?_ _)); exact BK317.out⟩, ⟨by repeat (first | (with_reducible first | exact HB.out | apply below_alloc | apply pw_below_drewN | apply below_drew1 | refine below_set ?_ GE317.out) | exact HB.out)⟩⟩
          · rw [if_neg c14] at H
            have c14b0 : decide (((rd_T38 l3 x16_1).f2) ≤ a6) = false := decide_eq_false c14
            clear c14
            have H' := Aside0.mk H
            clear H
            have p319 : 0 ≤ (x16_1 : Int) := of_decide_eq_true (by first | (with_reducible assumption) | assumption)
            have q319 : x16_1 < (l3.length : Int) := of_decide_eq_true (by first | (with_reducible assumption) | assumption)
            obtain ⟨ad319, e319, hx319_0, hx319_1, hx319_2, hx319_3, hx319_4, hx319_5⟩ := at_T38 HR3.out x16_1 p319 q319
            cases e319
            replace hx319_0 := (HB.out.cell (World.block_lt_of_cell? w _ hx319_0)).trans hx319_0
            replace hx319_1 := (HB.out.cell (World.block_lt_of_cell? w _ hx319_1)).trans hx319_1
            replace hx319_2 := (HB.out.cell (World.block_lt_of_cell? w _ hx319_2)).trans hx319_2
            replace hx319_3 := (HB.out.cell (World.block_lt_of_cell? w _ hx319_3)).trans hx319_3
            replace hx319_4 := (HB.out.cell (World.block_lt_of_cell? w _ hx319_4)).trans hx319_4
            replace hx319_5 := (HB.out.cell (World.block_lt_of_cell? w _ hx319_5)).trans hx319_5
            replace p319 := eq_true p319
            replace q319 := eq_true q319
            go_wp2
            go_roundg k1
            case measure => have := HK1.out; omega
            case rel => exact ⟨(x15_1), (wrap64 (x16_1 + 1)), (by first | rfl | (simp; done) | (simp [*]; done)), (by first | rfl | (simp; done) | (simp [*]; done)), H', ⟨by have := HK1.out; omega⟩, ⟨by (with_reducible repeat (first | refine blk_drewN ?_ _ | refine blk_drew ?_ | refine blk_alloc ?_ _)); exact BK317.out⟩, ⟨by repeat (first | (with_reducible first | exact HB.out | apply below_alloc | apply pw_below_drewN | apply below_drew1 | refine below_set ?_ GE317.out) | exact HB.out)⟩⟩
        · rw [if_neg c13] at H
          exact absurd H (by simp)
      · rw [if_neg c12] at H
        have c12b0 : decide (x16_1 < (l3.length : Int)) = false := decide_eq_false c12
        clear c12
        replace H := Option.bind_eq_some_iff.mp H
        obtain ⟨t322, A180, H⟩ := H
        replace H : (dormouseref09_At.l1 k1 l1 l2 a5 a6 t322 0 l0_0 l0_1 l0_2 a0_3 a0_4 a0_5 a0_6 a0_7 a0_8) = some r := H
        have A18 := Aside0.mk A180
        clear A180
        have H' := Aside0.mk H
        clear H
        go_wp2_with (first | ((with_reducible refine gate_callee (f := 39) rfl ?_); refine goesL_ (some 53) rfl rfl Try.func39 (by kernel_rfl) rfl #[.int .i64 x15_1] rfl (by (try simp only [List.map_toArray, List.map_cons, List.map_nil]); first | done | rfl | (simp only [List.length_drop, List.length_take]; rfl)) ?_; (with_reducible refine (dormouseref01_Whole.calls x15_1 t322 _ A18.out).mono ?_); rintro e w' ⟨rfl, ⟨nd, rfl⟩⟩; refine ⟨_, rfl, ?_⟩))
        go_loopg [17, 18] k1 (fun kq v17 v18 w' => ∃ (x17_2 : Int) (x18_2 : Int), v17 = .int .i64 x17_2 ∧ v18 = .int .i64 x18_2 ∧ Aside0 (dormouseref09_At.l1 kq l1 l2 a5 a6 x17_2 x18_2 l0_0 l0_1 l0_2 a0_3 a0_4 a0_5 a0_6 a0_7 a0_8 = some r) ∧ Aside0 (kq ≤ k1) ∧ Aside0 (w'.heap[gb317]? = some (.cells #[(.slice A0_0 l0_0.length c0_0), (.slice A0_1 l0_1.length c0_1), (.slice A0_2 l0_2.length c0_2), .int .i64 a0_3, .int .i64 a0_4, .int .i64 a0_5, .int .i64 a0_6, .int .i64 a0_7, .int .i64 a0_8] 26 (0, 0))) ∧ Aside0 (Below w.heap.size w w'))
        case atStart => exact ⟨(t322), (0), (by first | rfl | (simp; done) | (simp [*]; done)), (by first | rfl | (simp; done) | (simp [*]; done)), H', ⟨Nat.le_refl _⟩, ⟨by (with_reducible repeat (first | refine blk_drewN ?_ _ | refine blk_drew ?_ | refine blk_alloc ?_ _)); exact BK317.out⟩, ⟨by repeat (first | (with_reducible first | exact HB.out | apply below_alloc | apply pw_below_drewN | apply below_drew1 | refine below_set ?_ GE317.out) | exact HB.out)⟩⟩
        case round =>
          clear H'
          try clear c1
          try clear c2
          try clear p2
          try clear c3
          try clear p3
          try clear q3
          try clear hx3
          try clear c4
          try clear c5
          try clear p6
          try clear c12
          try clear c12b0
          try clear c13
          try clear c13b0
          try clear c14
          try clear c14b0
          try clear hcz10_0
          try clear hcz10_1
          try clear hcz10_2
          try clear hcz10_3
          try clear hcz10_4
          try clear hcz10_5
          try clear hcz10_6
          try clear hcz10_7
          try clear hcz10_8
          try clear hfz10_0
          try clear hfz10_1
          try clear hfz10_2
          try clear hfz10_3
          try clear hfz10_4
          try clear hfz10_5
          try clear hfz10_6
          try clear hfz10_7
          try clear hfz10_8
          try clear hx319_0
          try clear hx319_1
          try clear hx319_2
          try clear hx319_3
          try clear hx319_4
          try clear hx319_5
          try clear hx320_0
          try clear hx320_1
          try clear hx320_2
          try clear hx320_3
          try clear hx320_4
          try clear hx320_5
          try clear p2
          try clear p319
          try clear p320
          try clear p6
          try clear q319
          try clear q320
          obtain ⟨x17_2, x18_2, rfl, rfl, HA, HK2, BK317, HB⟩ := hrel
          cases gk with
          | zero => exact absurd HA.out (by simp [dormouseref09_At.l1])
          | succ k2 =>
            have H := HA.out
            clear HA
            simp only [dormouseref09_At.l1] at H
            by_cases c19 : x18_2 < (l1.length : Int)
            · rw [if_pos c19] at H
              have c19b0 : decide (x18_2 < (l1.length : Int)) = true := decide_eq_true c19
              clear c19
              by_cases c20 : 0 ≤ x18_2
              · rw [if_pos c20] at H
                have c20b0 : decide (0 ≤ x18_2) = true := decide_eq_true c20
                clear c20
                by_cases c21 : ((rd_T36 l1 x18_2).f0) > 0
                · rw [if_pos c21] at H
                  have c21b0 : decide (0 < ((rd_T36 l1 x18_2).f0)) = true := decide_eq_true c21
                  clear c21
                  replace H := Option.bind_eq_some_iff.mp H
                  obtain ⟨t325, A220, H⟩ := H
                  replace H : ((dormouseref09_from.f l2 x18_2 a5).bind fun t326 => ((dormouseref01_Times.f t325 (wrap64 (a6 - t326))).bind fun t327 => (dormouseref09_At.l1 k2 l1 l2 a5 a6 (wrap64 (x17_2 - t327)) (wrap64 (x18_2 + 1)) l0_0 l0_1 l0_2 a0_3 a0_4 a0_5 a0_6 a0_7 a0_8))) = some r := H
                  have A22 := Aside0.mk A220
                  clear A220
                  replace H := Option.bind_eq_some_iff.mp H
                  obtain ⟨t326, A230, H⟩ := H
                  replace H : ((dormouseref01_Times.f t325 (wrap64 (a6 - t326))).bind fun t327 => (dormouseref09_At.l1 k2 l1 l2 a5 a6 (wrap64 (x17_2 - t327)) (wrap64 (x18_2 + 1)) l0_0 l0_1 l0_2 a0_3 a0_4 a0_5 a0_6 a0_7 a0_8)) = some r := H
                  have A23 := Aside0.mk A230
                  clear A230
                  replace H := Option.bind_eq_some_iff.mp H
                  obtain ⟨t327, A240, H⟩ := H
                  replace H : (dormouseref09_At.l1 k2 l1 l2 a5 a6 (wrap64 (x17_2 - t327)) (wrap64 (x18_2 + 1)) l0_0 l0_1 l0_2 a0_3 a0_4 a0_5 a0_6 a0_7 a0_8) = some r := H
                  have A24 := Aside0.mk A240
                  clear A240
                  have H' := Aside0.mk H
                  clear H
                  have p323 : 0 ≤ (x18_2 : Int) := of_decide_eq_true (by first | (with_reducible assumption) | assumption)
                  have q323 : x18_2 < (l1.length : Int) := of_decide_eq_true (by first | (with_reducible assumption) | assumption)
                  obtain ⟨ad323, A323_2, c323_2, A323_3, c323_3, e323, hx323_0, hx323_1, hx323_2, hx323_3, hl323_2, hi323_2, hl323_3, hi323_3⟩ := at_T36 HR1.out x18_2 p323 q323
                  cases e323
                  replace hx323_0 := (HB.out.cell (World.block_lt_of_cell? w _ hx323_0)).trans hx323_0
                  replace hx323_1 := (HB.out.cell (World.block_lt_of_cell? w _ hx323_1)).trans hx323_1
                  replace hx323_2 := (HB.out.cell (World.block_lt_of_cell? w _ hx323_2)).trans hx323_2
                  replace hx323_3 := (HB.out.cell (World.block_lt_of_cell? w _ hx323_3)).trans hx323_3
                  have HR323_2 := Aside0.mk hi323_2
                  have HC323_2 := Aside0.mk hl323_2
                  clear hi323_2 hl323_2
                  have HR323_3 := Aside0.mk hi323_3
                  have HC323_3 := Aside0.mk hl323_3
                  clear hi323_3 hl323_3
                  replace p323 := eq_true p323
                  replace q323 := eq_true q323
                  try go_wp2
                  have n0_ := Aside0.mk (blk_drew BK317.out)
                  have n1_ := Aside0.mk (below_drew1 HB.out)
                  clear BK317
                  clear HB
                  have BK317 := n0_
                  have HB := n1_
                  clear n0_ n1_
                  have p324 : 0 ≤ (x18_2 : Int) := of_decide_eq_true (by first | (with_reducible assumption) | assumption)
                  have q324 : x18_2 < (l1.length : Int) := of_decide_eq_true (by first | (with_reducible assumption) | assumption)
                  obtain ⟨ad324, A324_2, c324_2, A324_3, c324_3, e324, hx324_0, hx324_1, hx324_2, hx324_3, hl324_2, hi324_2, hl324_3, hi324_3⟩ := at_T36 HR1.out x18_2 p324 q324
                  have hw324_3 := hx324_3
                  have hw324_2 := hx324_2
                  have hw324_1 := hx324_1
                  have hw324_0 := hx324_0
                  obtain rfl : ad323 = ad324 := (by injection e324)
                  replace hx324_0 := (HB.out.cell (World.block_lt_of_cell? w _ hx324_0)).trans hx324_0
                  replace hx324_1 := (HB.out.cell (World.block_lt_of_cell? w _ hx324_1)).trans hx324_1
                  replace hx324_2 := (HB.out.cell (World.block_lt_of_cell? w _ hx324_2)).trans hx324_2
                  replace hx324_3 := (HB.out.cell (World.block_lt_of_cell? w _ hx324_3)).trans hx324_3
                  have HR324_2 := Aside0.mk hi324_2
                  have HC324_2 := Aside0.mk hl324_2
                  clear hi324_2 hl324_2
                  have HR324_3 := Aside0.mk hi324_3
                  have HC324_3 := Aside0.mk hl324_3
                  clear hi324_3 hl324_3
                  replace p324 := eq_true p324
                  replace q324 := eq_true q324
                  refine start_ (n := 16) (S := fun w' => w'.cell? ⟨gb317, 0, none⟩ = some (.slice A0_0 l0_0.length c0_0) ∧ w'.cell? ⟨gb317, 1, none⟩ = some (.slice A0_1 l0_1.length c0_1) ∧ w'.cell? ⟨gb317, 2, none⟩ = some (.slice A0_2 l0_2.length c0_2) ∧ w'.cell? ⟨gb317, 3, none⟩ = some (.int .i64 a0_3) ∧ w'.cell? ⟨gb317, 4, none⟩ = some (.int .i64 a0_4) ∧ w'.cell? ⟨gb317, 5, none⟩ = some (.int .i64 a0_5) ∧ w'.cell? ⟨gb317, 6, none⟩ = some (.int .i64 a0_6) ∧ w'.cell? ⟨gb317, 7, none⟩ = some (.int .i64 a0_7) ∧ w'.cell? ⟨gb317, 8, none⟩ = some (.int .i64 a0_8) ∧ w'.cell? (ad323.add ((x18_2).toNat * 4)) = some (.int .i64 ((rd_T36 l1 x18_2).f0)) ∧ w'.cell? ⟨(ad323.add ((x18_2).toNat * 4)).block, (ad323.add ((x18_2).toNat * 4)).off + 1, none⟩ = some (.int .i64 ((rd_T36 l1 x18_2).f1)) ∧ w'.cell? ⟨(ad323.add ((x18_2).toNat * 4)).block, (ad323.add ((x18_2).toNat * 4)).off + 2, none⟩ = some (.slice A324_2 ((rd_T36 l1 x18_2).f2).length c324_2) ∧ w'.cell? ⟨(ad323.add ((x18_2).toNat * 4)).block, (ad323.add ((x18_2).toNat * 4)).off + 3, none⟩ = some (.slice A324_3 ((rd_T36 l1 x18_2).f3).length c324_3)) (ds := []) #[false, false, false, false, false, false, false, false, false, false, false, false, false, false, false, false] (by kernel_rfl) rfl rfl ⟨(blk_cell BK317.out 0).trans rfl, (blk_cell BK317.out 1).trans rfl, (blk_cell BK317.out 2).trans rfl, (blk_cell BK317.out 3).trans rfl, (blk_cell BK317.out 4).trans rfl, (blk_cell BK317.out 5).trans rfl, (blk_cell BK317.out 6).trans rfl, (blk_cell BK317.out 7).trans rfl, (blk_cell BK317.out 8).trans rfl, ((HB.out.cell (World.block_lt_of_cell? w _ hw324_0)).trans hw324_0), ((HB.out.cell (World.block_lt_of_cell? w _ hw324_1)).trans hw324_1), ((HB.out.cell (World.block_lt_of_cell? w _ hw324_2)).trans hw324_2), ((HB.out.cell (World.block_lt_of_cell? w _ hw324_3)).trans hw324_3)⟩ (fun hHeld => ?_); refine with_tabW dormouseref09_At.tab12 dormouseref09_At.bits12 (fun HT_ HW_ => ?_)
                  generalize wr.drew = w25 at BK317 HB HR324_2 HR324_3 hx324_0 hx324_1 hx324_2 hx324_3 hHeld ⊢
                  refine pure_ (i := 0) (N := some 66) (v := ?_) (a' := ?_) #[true, false, false, false, false, false, false, false, false, false, false, false, false, false, false, false] rfl rfl (any_of HT_.out (by kernel_rfl)) (fun _ _ _ h => h) (Or.inl ⟨by rfl, ?_⟩) ?_ ?_
                  rotate_left
                  · intro w'
                    go_simp
                    with_reducible rfl
                  rotate_left
                  · simp only [Act.put, List.setIfInBounds_toArray, List.set_cons_zero, List.set_cons_succ, i64_w, i32_w]
                    rfl
                  refine pure_ (i := 2) (N := some 68) (v := ?_) (a' := ?_) #[true, false, true, false, false, false, false, false, false, false, false, false, false, false, false, false] rfl rfl (any_of HT_.out (by kernel_rfl)) (fun _ _ _ h => h) (Or.inl ⟨by rfl, ?_⟩) ?_ ?_
                  rotate_left
                  · intro w'
                    go_simp
                    with_reducible rfl
                  rotate_left
                  · simp only [Act.put, List.setIfInBounds_toArray, List.set_cons_zero, List.set_cons_succ, i64_w, i32_w]
                    rfl
                  refine pure_ (i := 3) (N := some 69) (v := ?_) (a' := ?_) #[true, false, true, true, false, false, false, false, false, false, false, false, false, false, false, false] rfl rfl (any_of HT_.out (by kernel_rfl)) (fun _ _ _ h => h) (Or.inl ⟨by rfl, ?_⟩) ?_ ?_
                  rotate_left
                  · intro w'
                    go_simp
                    with_reducible rfl
                  rotate_left
                  · simp only [Act.put, List.setIfInBounds_toArray, List.set_cons_zero, List.set_cons_succ, i64_w, i32_w]
                    rfl
                  refine pure_ (i := 4) (N := some 70) (v := ?_) (a' := ?_) #[true, false, true, true, true, false, false, false, false, false, false, false, false, false, false, false] rfl rfl (any_of HT_.out (by kernel_rfl)) (fun _ _ _ h => h) (Or.inl ⟨by rfl, ?_⟩) ?_ ?_
                  rotate_left
                  · intro w'
                    go_simp
                    with_reducible rfl
                  rotate_left
                  · simp only [Act.put, List.setIfInBounds_toArray, List.set_cons_zero, List.set_cons_succ, i64_w, i32_w]
                    rfl
                  refine pure_ (i := 7) (N := some 73) (v := ?_) (a' := ?_) #[true, false, true, true, true, false, false, true, false, false, false, false, false, false, false, false] rfl rfl (any_of HT_.out (by kernel_rfl)) (fun _ _ _ h => h) (Or.inl ⟨by rfl, ?_⟩) ?_ ?_
                  rotate_left
                  · intro w'
                    go_simp
                    with_reducible rfl
                  rotate_left
                  · simp only [Act.put, List.setIfInBounds_toArray, List.set_cons_zero, List.set_cons_succ, i64_w, i32_w]
                    rfl
                  refine pure_ (i := 8) (N := some 74) (v := ?_) (a' := ?_) #[true, false, true, true, true, false, false, true, true, false, false, false, false, false, false, false] rfl rfl (any_of HT_.out (by kernel_rfl)) (fun _ _ _ h => h) (Or.inl ⟨by rfl, ?_⟩) ?_ ?_
                  rotate_left
                  · intro w'
                    go_simp
                    with_reducible rfl
                  rotate_left
                  · simp only [Act.put, List.setIfInBounds_toArray, List.set_cons_zero, List.set_cons_succ, i64_w, i32_w]
                    rfl
                  refine pure_ (i := 9) (N := some 75) (v := ?_) (a' := ?_) #[true, false, true, true, true, false, false, true, true, true, false, false, false, false, false, false] rfl rfl (any_of HT_.out (by kernel_rfl)) (fun _ _ _ h => h) (Or.inl ⟨by rfl, ?_⟩) ?_ ?_
                  rotate_left
                  · intro w'
                    go_simp
                    with_reducible rfl
                  rotate_left
                  · simp only [Act.put, List.setIfInBounds_toArray, List.set_cons_zero, List.set_cons_succ, i64_w, i32_w]
                    rfl
                  refine pure_ (i := 10) (N := some 76) (v := ?_) (a' := ?_) #[true, false, true, true, true, false, false, true, true, true, true, false, false, false, false, false] rfl rfl (any_of HT_.out (by kernel_rfl)) (fun _ _ _ h => h) (Or.inl ⟨by rfl, ?_⟩) ?_ ?_
                  rotate_left
                  · intro w'
                    go_simp
                    with_reducible rfl
                  rotate_left
                  · simp only [Act.put, List.setIfInBounds_toArray, List.set_cons_zero, List.set_cons_succ, i64_w, i32_w]
                    rfl
                  refine take_ (i := 1) (N := some 67) (v := ?_) (a' := ?_) #[true, true, true, true, true, false, false, true, true, true, true, false, false, false, false, false] rfl rfl (take_ofW HT_.out HW_.out (by kernel_rfl)) (fun _ _ _ h => h) (Or.inl ⟨by rfl, ?_⟩) hHeld ?_ ?_
                  rotate_left
                  · rintro w' ⟨s0, s1, s2, s3, s4, s5, s6, s7, s8, s9, s10, s11, s12⟩
                    go_simp
                    with_reducible rfl
                  rotate_left
                  · simp only [Act.put, List.setIfInBounds_toArray, List.set_cons_zero, List.set_cons_succ, i64_w, i32_w]
                    rfl
                  refine take_ (i := 5) (N := some 71) (v := ?_) (a' := ?_) #[true, true, true, true, true, true, false, true, true, true, true, false, false, false, false, false] rfl rfl (take_ofW HT_.out HW_.out (by kernel_rfl)) (fun _ _ _ h => h) (Or.inl ⟨by rfl, ?_⟩) hHeld ?_ ?_
                  rotate_left
                  · rintro w' ⟨s0, s1, s2, s3, s4, s5, s6, s7, s8, s9, s10, s11, s12⟩
                    go_simp
                    with_reducible rfl
                  rotate_left
                  · simp only [Act.put, List.setIfInBounds_toArray, List.set_cons_zero, List.set_cons_succ, i64_w, i32_w]
                    rfl
                  refine one_ (i := 6) (N := some 72) #[true, true, true, true, true, true, true, true, true, true, true, false, false, false, false, false] rfl rfl (one_of HT_.out (by kernel_rfl)) (by decide) (fun K hK => ?_)
                  refine goes_ Try.func12 (by kernel_rfl) rfl #[.agg #[.slice A0_0 l0_0.length c0_0, .slice A0_1 l0_1.length c0_1, .slice A0_2 l0_2.length c0_2, .int .i64 a0_3, .int .i64 a0_4, .int .i64 a0_5, .int .i64 a0_6, .int .i64 a0_7, .int .i64 a0_8], .agg #[.int .i64 ((rd_T36 l1 x18_2).f0), .int .i64 ((rd_T36 l1 x18_2).f1), .slice A324_2 ((rd_T36 l1 x18_2).f2).length c324_2, .slice A324_3 ((rd_T36 l1 x18_2).f3).length c324_3], .int .i64 0] (by rfl) rfl rfl (by (try simp only [List.map_toArray, List.map_cons, List.map_nil]); first | done | rfl | (simp only [List.length_drop, List.length_take]; rfl)) ?_
                  with_reducible refine (dormouseref09_Part.calls k2 _ _ l0_0 _ _ l0_1 _ _ l0_2 a0_3 a0_4 a0_5 a0_6 a0_7 a0_8 ((rd_T36 l1 x18_2).f0) ((rd_T36 l1 x18_2).f1) _ _ ((rd_T36 l1 x18_2).f2) _ _ ((rd_T36 l1 x18_2).f3) 0 t325 _ ?side1 ?side2 ?side3 ?side4 ?side5 ?side6 ?side7 ?side8 ?side9 ?side10 A22.out).mono ?_
                  (case side1 => repeat (first | exact (Kd.C_below HR0_0.out HB.out) | (with_reducible refine Kd.C_alloc ?_ _) | (with_reducible refine Kd.C_drewN ?_ _) | (with_reducible refine Kd.C_drew ?_)))
                  (case side2 => exact HC0_0.out)
                  (case side3 => repeat (first | exact (Kd.C_below HR0_1.out HB.out) | (with_reducible refine Kd.C_alloc ?_ _) | (with_reducible refine Kd.C_drewN ?_ _) | (with_reducible refine Kd.C_drew ?_)))
                  (case side4 => exact HC0_1.out)
                  (case side5 => repeat (first | exact (Kd.C_below HR0_2.out HB.out) | (with_reducible refine Kd.C_alloc ?_ _) | (with_reducible refine Kd.C_drewN ?_ _) | (with_reducible refine Kd.C_drew ?_)))
                  (case side6 => exact HC0_2.out)
                  (case side7 => repeat (first | exact (Kd.C_below HR324_2.out HB.out) | (with_reducible refine Kd.C_alloc ?_ _) | (with_reducible refine Kd.C_drewN ?_ _) | (with_reducible refine Kd.C_drew ?_)))
                  (case side8 => exact HC324_2.out)
                  (case side9 => repeat (first | exact (Kd.C_below HR324_3.out HB.out) | (with_reducible refine Kd.C_alloc ?_ _) | (with_reducible refine Kd.C_drewN ?_ _) | (with_reducible refine Kd.C_drew ?_)))
                  (case side10 => exact HC324_3.out)
                  rintro e w26 ⟨rfl, hb⟩
                  refine ⟨_, rfl, ?_⟩
                  have n0_ := Aside0.mk (blk_below (g := gb317) (o := .cells #[.slice A0_0 l0_0.length c0_0, .slice A0_1 l0_1.length c0_1, .slice A0_2 l0_2.length c0_2, .int .i64 a0_3, .int .i64 a0_4, .int .i64 a0_5, .int .i64 a0_6, .int .i64 a0_7, .int .i64 a0_8] 26 (0, 0)) (by (with_reducible repeat (first | refine blk_drewN ?_ _ | refine blk_drew ?_ | refine blk_alloc ?_ _)); exact BK317.out) hb)
                  have n1_ := Aside0.mk (below_step (by repeat (first | (with_reducible first | exact HB.out | apply below_alloc | apply pw_below_drewN | apply below_drew1 | refine below_set ?_ GE317.out) | exact HB.out)) hb)
                  clear BK317
                  clear HB
                  have BK317 := n0_
                  have HB := n1_
                  clear n0_ n1_
                  (try clear hb)
                  (try clear hb2)
                  (try clear hk)
                  (try clear hi)
                  refine hK.out _ _ ⟨(blk_cell BK317.out 0).trans rfl, (blk_cell BK317.out 1).trans rfl, (blk_cell BK317.out 2).trans rfl, (blk_cell BK317.out 3).trans rfl, (blk_cell BK317.out 4).trans rfl, (blk_cell BK317.out 5).trans rfl, (blk_cell BK317.out 6).trans rfl, (blk_cell BK317.out 7).trans rfl, (blk_cell BK317.out 8).trans rfl, ((HB.out.cell (World.block_lt_of_cell? w _ hw324_0)).trans hw324_0), ((HB.out.cell (World.block_lt_of_cell? w _ hw324_1)).trans hw324_1), ((HB.out.cell (World.block_lt_of_cell? w _ hw324_2)).trans hw324_2), ((HB.out.cell (World.block_lt_of_cell? w _ hw324_3)).trans hw324_3)⟩ (fun hHeld => ?_)
                  clear hK K
                  refine norm_ (a' := ?_) ?_ ?_
                  rotate_left
                  · show Act.put _ (some 72) _ = _
                    simp only [Act.put, List.setIfInBounds_toArray, List.set_cons_zero, List.set_cons_succ, i64_w, i32_w]
                    rfl
                  refine one_ (i := 11) (N := some 77) #[true, true, true, true, true, true, true, true, true, true, true, true, false, false, false, false] rfl rfl (one_of HT_.out (by kernel_rfl)) (by decide) (fun K hK => ?_)
                  refine goes_ Try.func41 (by kernel_rfl) rfl #[.slice A2 l2.length c2, .int .i64 x18_2, .int .i64 a5] (by rfl) rfl rfl (by (try simp only [List.map_toArray, List.map_cons, List.map_nil]); first | done | rfl | (simp only [List.length_drop, List.length_take]; rfl)) ?_
                  with_reducible refine (dormouseref09_from.calls _ _ l2 x18_2 a5 t326 _ ?side1 ?side2 A23.out).mono ?_
                  (case side1 => repeat (first | exact (Kd.C_below HR2.out HB.out) | (with_reducible refine Kd.C_alloc ?_ _) | (with_reducible refine Kd.C_drewN ?_ _) | (with_reducible refine Kd.C_drew ?_)))
                  (case side2 => exact HC2.out)
                  rintro e w' ⟨rfl, ⟨nd, rfl⟩⟩
                  refine ⟨_, rfl, ?_⟩
                  refine hK.out _ _ ⟨(blk_cell BK317.out 0).trans rfl, (blk_cell BK317.out 1).trans rfl, (blk_cell BK317.out 2).trans rfl, (blk_cell BK317.out 3).trans rfl, (blk_cell BK317.out 4).trans rfl, (blk_cell BK317.out 5).trans rfl, (blk_cell BK317.out 6).trans rfl, (blk_cell BK317.out 7).trans rfl, (blk_cell BK317.out 8).trans rfl, ((HB.out.cell (World.block_lt_of_cell? w _ hw324_0)).trans hw324_0), ((HB.out.cell (World.block_lt_of_cell? w _ hw324_1)).trans hw324_1), ((HB.out.cell (World.block_lt_of_cell? w _ hw324_2)).trans hw324_2), ((HB.out.cell (World.block_lt_of_cell? w _ hw324_3)).trans hw324_3)⟩ (fun hHeld => ?_)
                  clear hK K
                  refine norm_ (a' := ?_) ?_ ?_
                  rotate_left
                  · show Act.put _ (some 77) _ = _
                    simp only [Act.put, List.setIfInBounds_toArray, List.set_cons_zero, List.set_cons_succ, i64_w, i32_w]
                    rfl
                  refine pure_ (i := 12) (N := some 78) (v := ?_) (a' := ?_) #[true, true, true, true, true, true, true, true, true, true, true, true, true, false, false, false] rfl rfl (any_of HT_.out (by kernel_rfl)) (fun _ _ _ h => h) (Or.inl ⟨by rfl, ?_⟩) ?_ ?_
                  rotate_left
                  · intro w'
                    go_simp
                    with_reducible rfl
                  rotate_left
                  · simp only [Act.put, List.setIfInBounds_toArray, List.set_cons_zero, List.set_cons_succ, i64_w, i32_w]
                    rfl
                  refine one_ (i := 13) (N := some 79) #[true, true, true, true, true, true, true, true, true, true, true, true, true, true, false, false] rfl rfl (one_of HT_.out (by kernel_rfl)) (by decide) (fun K hK => ?_)
                  refine goes_ Try.func54 (by kernel_rfl) rfl #[.int .i64 t325, .int .i64 (wrap64 (a6 - t326))] (by rfl) rfl rfl (by (try simp only [List.map_toArray, List.map_cons, List.map_nil]); first | done | rfl | (simp only [List.length_drop, List.length_take]; rfl)) ?_
                  with_reducible refine (dormouseref01_Times.calls t325 (wrap64 (a6 - t326)) t327 _ A24.out).mono ?_
                  rintro e w' ⟨rfl, ⟨nd, rfl⟩⟩
                  refine ⟨_, rfl, ?_⟩
                  refine hK.out _ _ ⟨(blk_cell BK317.out 0).trans rfl, (blk_cell BK317.out 1).trans rfl, (blk_cell BK317.out 2).trans rfl, (blk_cell BK317.out 3).trans rfl, (blk_cell BK317.out 4).trans rfl, (blk_cell BK317.out 5).trans rfl, (blk_cell BK317.out 6).trans rfl, (blk_cell BK317.out 7).trans rfl, (blk_cell BK317.out 8).trans rfl, ((HB.out.cell (World.block_lt_of_cell? w _ hw324_0)).trans hw324_0), ((HB.out.cell (World.block_lt_of_cell? w _ hw324_1)).trans hw324_1), ((HB.out.cell (World.block_lt_of_cell? w _ hw324_2)).trans hw324_2), ((HB.out.cell (World.block_lt_of_cell? w _ hw324_3)).trans hw324_3)⟩ (fun hHeld => ?_)
                  clear hK K
                  refine norm_ (a' := ?_) ?_ ?_
                  rotate_left
                  · show Act.put _ (some 79) _ = _
                    simp only [Act.put, List.setIfInBounds_toArray, List.set_cons_zero, List.set_cons_succ, i64_w, i32_w]
                    rfl
                  refine pure_ (i := 14) (N := some 80) (v := ?_) (a' := ?_) #[true, true, true, true, true, true, true, true, true, true, true, true, true, true, true, false] rfl rfl (any_of HT_.out (by kernel_rfl)) (fun _ _ _ h => h) (Or.inl ⟨by rfl, ?_⟩) ?_ ?_
                  rotate_left
                  · intro w'
                    go_simp
                    with_reducible rfl
                  rotate_left
                  · simp only [Act.put, List.setIfInBounds_toArray, List.set_cons_zero, List.set_cons_succ, i64_w, i32_w]
                    rfl
                  refine pure_ (i := 15) (N := some 17) (v := ?_) (a' := ?_) #[true, true, true, true, true, true, true, true, true, true, true, true, true, true, true, true] rfl rfl (any_of HT_.out (by kernel_rfl)) (fun _ _ _ h => h) (Or.inl ⟨by rfl, ?_⟩) ?_ ?_
                  rotate_left
                  · intro w'
                    go_simp
                    with_reducible rfl
                  rotate_left
                  · simp only [Act.put, List.setIfInBounds_toArray, List.set_cons_zero, List.set_cons_succ, i64_w, i32_w]
                    rfl
                  refine done_ (done_of HT_.out (by kernel_rfl)) ?_
                  try go_wp2
                  go_roundg k2
                  case measure => have := HK1.out; have := HK2.out; omega
                  case rel => exact ⟨(wrap64 (x17_2 - t327)), (wrap64 (x18_2 + 1)), (by first | rfl | (simp; done) | (simp [*]; done)), (by first | rfl | (simp; done) | (simp [*]; done)), H', ⟨by have := HK1.out; have := HK2.out; omega⟩, ⟨by (with_reducible repeat (first | refine blk_drewN ?_ _ | refine blk_drew ?_ | refine blk_alloc ?_ _)); exact BK317.out⟩, ⟨by repeat (first | (with_reducible first | exact HB.out | apply below_alloc | apply pw_below_drewN | apply below_drew1 | refine below_set ?_ GE317.out) | exact HB.out)⟩⟩
                · rw [if_neg c21] at H
                  have c21b0 : decide (0 < ((rd_T36 l1 x18_2).f0)) = false := decide_eq_false c21
                  clear c21
                  have H' := Aside0.mk H
                  clear H
                  have p323 : 0 ≤ (x18_2 : Int) := of_decide_eq_true (by first | (with_reducible assumption) | assumption)
                  have q323 : x18_2 < (l1.length : Int) := of_decide_eq_true (by first | (with_reducible assumption) | assumption)
                  obtain ⟨ad323, A323_2, c323_2, A323_3, c323_3, e323, hx323_0, hx323_1, hx323_2, hx323_3, hl323_2, hi323_2, hl323_3, hi323_3⟩ := at_T36 HR1.out x18_2 p323 q323
                  cases e323
                  replace hx323_0 := (HB.out.cell (World.block_lt_of_cell? w _ hx323_0)).trans hx323_0
                  replace hx323_1 := (HB.out.cell (World.block_lt_of_cell? w _ hx323_1)).trans hx323_1
                  replace hx323_2 := (HB.out.cell (World.block_lt_of_cell? w _ hx323_2)).trans hx323_2
                  replace hx323_3 := (HB.out.cell (World.block_lt_of_cell? w _ hx323_3)).trans hx323_3
                  have HR323_2 := Aside0.mk hi323_2
                  have HC323_2 := Aside0.mk hl323_2
                  clear hi323_2 hl323_2
                  have HR323_3 := Aside0.mk hi323_3
                  have HC323_3 := Aside0.mk hl323_3
                  clear hi323_3 hl323_3
                  replace p323 := eq_true p323
                  replace q323 := eq_true q323
                  go_wp2
                  go_roundg k2
                  case measure => have := HK1.out; have := HK2.out; omega
                  case rel => exact ⟨(x17_2), (wrap64 (x18_2 + 1)), (by first | rfl | (simp; done) | (simp [*]; done)), (by first | rfl | (simp; done) | (simp [*]; done)), H', ⟨by have := HK1.out; have := HK2.out; omega⟩, ⟨by (with_reducible repeat (first | refine blk_drewN ?_ _ | refine blk_drew ?_ | refine blk_alloc ?_ _)); exact BK317.out⟩, ⟨by repeat (first | (with_reducible first | exact HB.out | apply below_alloc | apply pw_below_drewN | apply below_drew1 | refine below_set ?_ GE317.out) | exact HB.out)⟩⟩
              · rw [if_neg c20] at H
                exact absurd H (by simp)
            · rw [if_neg c19] at H
              have c19b0 : decide (x18_2 < (l1.length : Int)) = false := decide_eq_false c19
              clear c19
              obtain rfl := Option.some.inj H
              go_wp2
              go_ret
              exact ⟨by first | rfl | (simp [errW_none, errW_some] <;> rfl) | (simp [*, errW_none, errW_some] <;> rfl), by repeat (first | (with_reducible first | exact HB.out | apply below_alloc | apply pw_below_drewN | apply below_drew1 | refine below_set ?_ GE317.out) | exact HB.out)⟩
end Go.Proofs.Ytchlbnlhjllcbaa.F
namespace Go.Proofs.Ytchlbnlhjllcbaa.F
open Go.RowKit Go.Proofs.YtchlbnlhjllcbaaW.PrintWords Go.Proofs.YtchlbnlhjllcbaaW.PrintLast Go.Proofs.YtchlbnlhjllcbaaW.PrintMore
attribute [local go_sem] max2_int min2_int max_two min_two max_three min_three max_four min_four   -- for this text's walks alone
set_option linter.unusedVariables false
set_option linter.unusedSimpArgs false
mutual
def dormouseref09_Least.l0 : Nat → List (S36) → List Int → List (S38) → List (S56) → Int → Int → Int → Int → List (S58) → List (S68) → List (S71) → Int → Int → Int → Int → Int → Int → Option (Int)
  | 0, _, _, _, _, _, _, _, _, _, _, _, _, _, _, _, _, _ => none
  | k + 1, x1, x2, x3, x4, x5, x6, x15, x16, x329000, x329001, x329002, x329003, x329004, x329005, x329006, x329007, x329008 => if x16 < (x3.length : Int) then (if 0 ≤ x16 then (if ((rd_T38 x3 x16).f2) ≥ x6 then ((dormouseref09_At.f k x329000 x329001 x329002 x329003 x329004 x329005 x329006 x329007 x329008 x1 x2 x3 x4 x5 ((rd_T38 x3 x16).f2)).bind fun t332 => ((dormouseref01_Min.f x15 t332).bind fun t333 => (dormouseref09_Least.l0 k x1 x2 x3 x4 x5 x6 t333 (wrap64 (x16 + 1)) x329000 x329001 x329002 x329003 x329004 x329005 x329006 x329007 x329008))) else (dormouseref09_Least.l0 k x1 x2 x3 x4 x5 x6 x15 (wrap64 (x16 + 1)) x329000 x329001 x329002 x329003 x329004 x329005 x329006 x329007 x329008)) else (none)) else (dormouseref09_Least.l1 k x1 x2 x3 x4 x5 x6 x15 0 x329000 x329001 x329002 x329003 x329004 x329005 x329006 x329007 x329008)
def dormouseref09_Least.l1 : Nat → List (S36) → List Int → List (S38) → List (S56) → Int → Int → Int → Int → List (S58) → List (S68) → List (S71) → Int → Int → Int → Int → Int → Int → Option (Int)
  | 0, _, _, _, _, _, _, _, _, _, _, _, _, _, _, _, _, _ => none
  | k + 1, x1, x2, x3, x4, x5, x6, x15, x17, x329000, x329001, x329002, x329003, x329004, x329005, x329006, x329007, x329008 => if x17 < (x1.length : Int) then ((dormouseref09_from.f x2 x17 x5).bind fun t334 => (if 0 ≤ x17 then (if ((rd_T36 x1 x17).f0) > 0 then (dormouseref09_Least.j2 k x1 x2 x3 x4 x5 x6 x15 x17 (wrap64 (t334 + ((rd_T36 x1 x17).f0))) (decide ((wrap64 (t334 + ((rd_T36 x1 x17).f0))) ≥ x6)) x329000 x329001 x329002 x329003 x329004 x329005 x329006 x329007 x329008) else (dormouseref09_Least.j2 k x1 x2 x3 x4 x5 x6 x15 x17 (wrap64 (t334 + ((rd_T36 x1 x17).f0))) false x329000 x329001 x329002 x329003 x329004 x329005 x329006 x329007 x329008)) else (none))) else (some x15)
def dormouseref09_Least.j2 : Nat → List (S36) → List Int → List (S38) → List (S56) → Int → Int → Int → Int → Int → Bool → List (S58) → List (S68) → List (S71) → Int → Int → Int → Int → Int → Int → Option (Int)
  | 0, _, _, _, _, _, _, _, _, _, _, _, _, _, _, _, _, _, _, _ => none
  | k + 1, x1, x2, x3, x4, x5, x6, x15, x17, x18, x73, x329000, x329001, x329002, x329003, x329004, x329005, x329006, x329007, x329008 => if x73 = true then ((dormouseref09_At.f k x329000 x329001 x329002 x329003 x329004 x329005 x329006 x329007 x329008 x1 x2 x3 x4 x5 x18).bind fun t337 => ((dormouseref01_Min.f x15 t337).bind fun t338 => (dormouseref09_Least.l1 k x1 x2 x3 x4 x5 x6 t338 (wrap64 (x17 + 1)) x329000 x329001 x329002 x329003 x329004 x329005 x329006 x329007 x329008))) else (dormouseref09_Least.l1 k x1 x2 x3 x4 x5 x6 x15 (wrap64 (x17 + 1)) x329000 x329001 x329002 x329003 x329004 x329005 x329006 x329007 x329008)
end
def dormouseref09_Least.f (k : Nat) (l0_0 : List (S58)) (l0_1 : List (S68)) (l0_2 : List (S71)) (a0_3 : Int) (a0_4 : Int) (a0_5 : Int) (a0_6 : Int) (a0_7 : Int) (a0_8 : Int) (l1 : List (S36)) (l2 : List Int) (l3 : List (S38)) (l4 : List (S56)) (a5 : Int) (a6 : Int) : Option (Int) := (dormouseref01_Whole.f 1073741824).bind fun t329 => (dormouseref09_Least.l0 k l1 l2 l3 l4 a5 a6 t329 0 l0_0 l0_1 l0_2 a0_3 a0_4 a0_5 a0_6 a0_7 a0_8)
def dormouseref09_Least.T6 : Bool × List (List Nat × List Nat) := (true, [([], []), ([], []), ([], []), ([], []), ([], []), ([], []), ([], []), ([], []), ([], []), ([7, 8], [7, 8]), ([9], [9]), ([10], [10]), ([1, 2, 3, 4, 5, 6, 11], [1, 2, 3, 4, 5, 6, 11]), ([0, 12, 12], [0, 12]), ([13, 13, 0, 1, 2, 3, 4, 5, 6, 7, 8, 9, 10, 11, 12, 13], [0, 13])])
def dormouseref09_Least.B6 : List Nat := [0, 0, 0, 0, 0, 0, 0, 0, 0, 384, 896, 1920, 4094, 8191, 16383]
theorem dormouseref09_Least.tab6 : rtab .any (opsOf Try.f30 6) = dormouseref09_Least.T6 := by kernel_rfl
theorem dormouseref09_Least.bits6 : waitsOk dormouseref09_Least.T6.2 dormouseref09_Least.B6 = true := by kernel_rfl
def dormouseref09_Least.T10 : Bool × List (List Nat × List Nat) := (true, [([], []), ([], []), ([], []), ([0, 1, 2], [0, 1, 2]), ([], []), ([], []), ([4, 5], [4, 5]), ([6], [6]), ([7], [7]), ([3, 8], [3, 8]), ([9, 3, 0, 1, 2, 3, 4, 5, 6, 7, 8, 9], [9])])
def dormouseref09_Least.B10 : List Nat := [0, 0, 0, 7, 0, 0, 48, 112, 240, 511, 1023]
theorem dormouseref09_Least.tab10 : rtab .any (opsOf Try.f30 10) = dormouseref09_Least.T10 := by kernel_rfl
theorem dormouseref09_Least.bits10 : waitsOk dormouseref09_Least.T10.2 dormouseref09_Least.B10 = true := by kernel_rfl
set_option maxHeartbeats 8000000 in
set_option maxRecDepth 100000 in
theorem dormouseref09_Least.calls (k : Nat) (A0_0 : Option Addr) (c0_0 : Nat) (l0_0 : List (S58)) (A0_1 : Option Addr) (c0_1 : Nat) (l0_1 : List (S68)) (A0_2 : Option Addr) (c0_2 : Nat) (l0_2 : List (S71)) (a0_3 : Int) (a0_4 : Int) (a0_5 : Int) (a0_6 : Int) (a0_7 : Int) (a0_8 : Int) (A1 : Option Addr) (c1 : Nat) (l1 : List (S36)) (A2 : Option Addr) (c2 : Nat) (l2 : List Int) (A3 : Option Addr) (c3 : Nat) (l3 : List (S38)) (A4 : Option Addr) (c4 : Nat) (l4 : List (S56)) (a5 : Int) (a6 : Int) (r : Int) (w : World) (hr0_0 : Kd.C k58 w A0_0 l0_0.length l0_0) (hc0_0 : l0_0.length ≤ c0_0) (hr0_1 : Kd.C k68 w A0_1 l0_1.length l0_1) (hc0_1 : l0_1.length ≤ c0_1) (hr0_2 : Kd.C k71 w A0_2 l0_2.length l0_2) (hc0_2 : l0_2.length ≤ c0_2) (hr1 : Kd.C k36 w A1 l1.length l1) (hc1 : l1.length ≤ c1) (hr2 : Kd.C (Kd.int .i64) w A2 l2.length l2) (hc2 : l2.length ≤ c2) (hr3 : Kd.C k38 w A3 l3.length l3) (hc3 : l3.length ≤ c3) (hr4 : Kd.C k56 w A4 l4.length l4) (hc4 : l4.length ≤ c4) (h : dormouseref09_Least.f k l0_0 l0_1 l0_2 a0_3 a0_4 a0_5 a0_6 a0_7 a0_8 l1 l2 l3 l4 a5 a6 = some r) :
    Calls Try.prog 30 #[.agg #[.slice A0_0 l0_0.length c0_0, .slice A0_1 l0_1.length c0_1, .slice A0_2 l0_2.length c0_2, .int .i64 a0_3, .int .i64 a0_4, .int .i64 a0_5, .int .i64 a0_6, .int .i64 a0_7, .int .i64 a0_8], .slice A1 l1.length c1, .slice A2 l2.length c2, .slice A3 l3.length c3, .slice A4 l4.length c4, .int .i64 a5, .int .i64 a6] w fun e w' => e = .returned (.int .i64 r) ∧ Below w.heap.size w w' := by
  have hu26 := Try.underlying26
  have HR0_0 := Aside0.mk hr0_0
  have HC0_0 := Aside0.mk hc0_0
  clear hr0_0 hc0_0
  have HR0_1 := Aside0.mk hr0_1
  have HC0_1 := Aside0.mk hc0_1
  clear hr0_1 hc0_1
  have HR0_2 := Aside0.mk hr0_2
  have HC0_2 := Aside0.mk hc0_2
  clear hr0_2 hc0_2
  have HR1 := Aside0.mk hr1
  have HC1 := Aside0.mk hc1
  clear hr1 hc1
  have HR2 := Aside0.mk hr2
  have HC2 := Aside0.mk hc2
  clear hr2 hc2
  have HR3 := Aside0.mk hr3
  have HC3 := Aside0.mk hc3
  clear hr3 hc3
  have HR4 := Aside0.mk hr4
  have HC4 := Aside0.mk hc4
  clear hr4 hc4
  have HB := Aside0.mk (Below.refl w.heap.size w)
  have H : ((dormouseref01_Whole.f 1073741824).bind fun t329 => (dormouseref09_Least.l0 k l1 l2 l3 l4 a5 a6 t329 0 l0_0 l0_1 l0_2 a0_3 a0_4 a0_5 a0_6 a0_7 a0_8)) = some r := h
  clear h
  replace H := Option.bind_eq_some_iff.mp H
  obtain ⟨t329, A80, H⟩ := H
  replace H : (dormouseref09_Least.l0 k l1 l2 l3 l4 a5 a6 t329 0 l0_0 l0_1 l0_2 a0_3 a0_4 a0_5 a0_6 a0_7 a0_8) = some r := H
  have A8 := Aside0.mk A80
  clear A80
  have H' := Aside0.mk H
  clear H
  go_enter Try.func30, Try.ntmps30
  go_wp2_with (first | ((with_reducible refine gate_dst (N := 7) rfl ?_); refine box_event ?hg (N := 7) ?hd (cs := #[.slice A0_0 l0_0.length c0_0, .slice A0_1 l0_1.length c0_1, .slice A0_2 l0_2.length c0_2, .int .i64 a0_3, .int .i64 a0_4, .int .i64 a0_5, .int .i64 a0_6, .int .i64 a0_7, .int .i64 a0_8]) (t := 26) ?hr ?_; (case hd => rfl); (case hg => rfl); (case hr => first | (go_simp; done) | (go_simp; rfl)); intro gb328 hg w9 hbox hb; have n0_ := Aside0.mk (below_step (by repeat (first | (with_reducible first | exact HB.out | apply below_alloc | apply pw_below_drewN | apply below_drew1) | exact HB.out)) hb); have n1_ := Aside0.mk (hbox); have n2_ := Aside0.mk ((by rw [hg]; exact (below_size (by repeat (first | (with_reducible first | exact HB.out | apply below_alloc | apply pw_below_drewN | apply below_drew1) | exact HB.out))) : w.heap.size ≤ gb328)); have n3_ := Aside0.mk ((by rw [hg]; exact (below_size (by repeat (first | (with_reducible first | exact HB.out | apply below_alloc | apply pw_below_drewN | apply below_drew1) | exact HB.out))) : w.heap.size ≤ gb328)); clear HB; have HB := n0_; have BK328 := n1_; have GW328 := n2_; have GE328 := n3_; clear n0_ n1_ n2_ n3_; clear hb hbox hg) | ((with_reducible refine gate_callee (f := 39) rfl ?_); refine goesL_ (some 19) rfl rfl Try.func39 (by kernel_rfl) rfl #[.int .i64 1073741824] rfl (by (try simp only [List.map_toArray, List.map_cons, List.map_nil]); first | done | rfl | (simp only [List.length_drop, List.length_take]; rfl)) ?_; (with_reducible refine (dormouseref01_Whole.calls 1073741824 t329 _ A8.out).mono ?_); rintro e w' ⟨rfl, ⟨nd, rfl⟩⟩; refine ⟨_, rfl, ?_⟩))
  go_loopg [15, 16] k (fun kq v15 v16 w' => ∃ (x15_1 : Int) (x16_1 : Int), v15 = .int .i64 x15_1 ∧ v16 = .int .i64 x16_1 ∧ Aside0 (dormouseref09_Least.l0 kq l1 l2 l3 l4 a5 a6 x15_1 x16_1 l0_0 l0_1 l0_2 a0_3 a0_4 a0_5 a0_6 a0_7 a0_8 = some r) ∧ Aside0 (kq ≤ k) ∧ Aside0 (w'.heap[gb328]? = some (.cells #[(.slice A0_0 l0_0.length c0_0), (.slice A0_1 l0_1.length c0_1), (.slice A0_2 l0_2.length c0_2), .int .i64 a0_3, .int .i64 a0_4, .int .i64 a0_5, .int .i64 a0_6, .int .i64 a0_7, .int .i64 a0_8] 26 (0, 0))) ∧ Aside0 (Below w.heap.size w w'))
  case atStart => exact ⟨(t329), (0), (by first | rfl | (simp; done) | (simp [*]; done)), (by first | rfl | (simp; done) | (simp [*]; done)), H', ⟨Nat.le_refl _⟩, ⟨by (with_reducible repeat (first | refine blk_drewN ?_ _ | refine blk_drew ?_ | refine blk_alloc ?_ _)); exact BK328.out⟩, ⟨by repeat (first | (with_reducible first | exact HB.out | apply below_alloc | apply pw_below_drewN | apply below_drew1 | refine below_set ?_ GE328.out) | exact HB.out)⟩⟩
  case round =>
    clear H'
    try clear c1
    try clear c2
    try clear p2
    try clear c3
    try clear c4
    obtain ⟨x15_1, x16_1, rfl, rfl, HA, HK1, BK328, HB⟩ := hrel
    cases gk with
    | zero => exact absurd HA.out (by simp [dormouseref09_Least.l0])
    | succ k1 =>
      have H := HA.out
      clear HA
      simp only [dormouseref09_Least.l0] at H
      by_cases c10 : x16_1 < (l3.length : Int)
      · rw [if_pos c10] at H
        have c10b0 : decide (x16_1 < (l3.length : Int)) = true := decide_eq_true c10
        clear c10
        by_cases c11 : 0 ≤ x16_1
        · rw [if_pos c11] at H
          have c11b0 : decide (0 ≤ x16_1) = true := decide_eq_true c11
          clear c11
          by_cases c12 : ((rd_T38 l3 x16_1).f2) ≥ a6
          · rw [if_pos c12] at H
            have c12b0 : decide (a6 ≤ ((rd_T38 l3 x16_1).f2)) = true := decide_eq_true c12
            clear c12
            replace H := Option.bind_eq_some_iff.mp H
            obtain ⟨t332, A130, H⟩ := H
            replace H : ((dormouseref01_Min.f x15_1 t332).bind fun t333 => (dormouseref09_Least.l0 k1 l1 l2 l3 l4 a5 a6 t333 (wrap64 (x16_1 + 1)) l0_0 l0_1 l0_2 a0_3 a0_4 a0_5 a0_6 a0_7 a0_8)) = some r := H
            have A13 := Aside0.mk A130
            clear A130
            replace H := Option.bind_eq_some_iff.mp H
            obtain ⟨t333, A140, H⟩ := H
            replace H : (dormouseref09_Least.l0 k1 l1 l2 l3 l4 a5 a6 t333 (wrap64 (x16_1 + 1)) l0_0 l0_1 l0_2 a0_3 a0_4 a0_5 a0_6 a0_7 a0_8) = some r := H
            have A14 := Aside0.mk A140
            clear A140
            have H' := Aside0.mk H
            clear H
            have p330 : 0 ≤ (x16_1 : Int) := of_decide_eq_true (by first | (with_reducible assumption) | assumption)
            have q330 : x16_1 < (l3.length : Int) := of_decide_eq_true (by first | (with_reducible assumption) | assumption)
            obtain ⟨ad330, e330, hx330_0, hx330_1, hx330_2, hx330_3, hx330_4, hx330_5⟩ := at_T38 HR3.out x16_1 p330 q330
            cases e330
            replace hx330_0 := (HB.out.cell (World.block_lt_of_cell? w _ hx330_0)).trans hx330_0
            replace hx330_1 := (HB.out.cell (World.block_lt_of_cell? w _ hx330_1)).trans hx330_1
            replace hx330_2 := (HB.out.cell (World.block_lt_of_cell? w _ hx330_2)).trans hx330_2
            replace hx330_3 := (HB.out.cell (World.block_lt_of_cell? w _ hx330_3)).trans hx330_3
            replace hx330_4 := (HB.out.cell (World.block_lt_of_cell? w _ hx330_4)).trans hx330_4
            replace hx330_5 := (HB.out.cell (World.block_lt_of_cell? w _ hx330_5)).trans hx330_5
            replace p330 := eq_true p330
            replace q330 := eq_true q330
            try go_wp2
            have n0_ := Aside0.mk (blk_drew BK328.out)
            have n1_ := Aside0.mk (below_drew1 HB.out)
            clear BK328
            clear HB
            have BK328 := n0_
            have HB := n1_
            clear n0_ n1_
            have p331 : 0 ≤ (x16_1 : Int) := of_decide_eq_true (by first | (with_reducible assumption) | assumption)
            have q331 : x16_1 < (l3.length : Int) := of_decide_eq_true (by first | (with_reducible assumption) | assumption)
            obtain ⟨ad331, e331, hx331_0, hx331_1, hx331_2, hx331_3, hx331_4, hx331_5⟩ := at_T38 HR3.out x16_1 p331 q331
            have hw331_5 := hx331_5
            have hw331_4 := hx331_4
            have hw331_3 := hx331_3
            have hw331_2 := hx331_2
            have hw331_1 := hx331_1
            have hw331_0 := hx331_0
            obtain rfl : ad330 = ad331 := (by injection e331)
            replace hx331_0 := (HB.out.cell (World.block_lt_of_cell? w _ hx331_0)).trans hx331_0
            replace hx331_1 := (HB.out.cell (World.block_lt_of_cell? w _ hx331_1)).trans hx331_1
            replace hx331_2 := (HB.out.cell (World.block_lt_of_cell? w _ hx331_2)).trans hx331_2
            replace hx331_3 := (HB.out.cell (World.block_lt_of_cell? w _ hx331_3)).trans hx331_3
            replace hx331_4 := (HB.out.cell (World.block_lt_of_cell? w _ hx331_4)).trans hx331_4
            replace hx331_5 := (HB.out.cell (World.block_lt_of_cell? w _ hx331_5)).trans hx331_5
            replace p331 := eq_true p331
            replace q331 := eq_true q331
            refine start_ (n := 15) (S := fun w' => w'.cell? ⟨gb328, 0, none⟩ = some (.slice A0_0 l0_0.length c0_0) ∧ w'.cell? ⟨gb328, 1, none⟩ = some (.slice A0_1 l0_1.length c0_1) ∧ w'.cell? ⟨gb328, 2, none⟩ = some (.slice A0_2 l0_2.length c0_2) ∧ w'.cell? ⟨gb328, 3, none⟩ = some (.int .i64 a0_3) ∧ w'.cell? ⟨gb328, 4, none⟩ = some (.int .i64 a0_4) ∧ w'.cell? ⟨gb328, 5, none⟩ = some (.int .i64 a0_5) ∧ w'.cell? ⟨gb328, 6, none⟩ = some (.int .i64 a0_6) ∧ w'.cell? ⟨gb328, 7, none⟩ = some (.int .i64 a0_7) ∧ w'.cell? ⟨gb328, 8, none⟩ = some (.int .i64 a0_8) ∧ w'.cell? (ad330.add ((x16_1).toNat * 6)) = some (.int .i64 ((rd_T38 l3 x16_1).f0)) ∧ w'.cell? ⟨(ad330.add ((x16_1).toNat * 6)).block, (ad330.add ((x16_1).toNat * 6)).off + 1, none⟩ = some (.int .i64 ((rd_T38 l3 x16_1).f1)) ∧ w'.cell? ⟨(ad330.add ((x16_1).toNat * 6)).block, (ad330.add ((x16_1).toNat * 6)).off + 2, none⟩ = some (.int .i64 ((rd_T38 l3 x16_1).f2)) ∧ w'.cell? ⟨(ad330.add ((x16_1).toNat * 6)).block, (ad330.add ((x16_1).toNat * 6)).off + 3, none⟩ = some (.int .i64 ((rd_T38 l3 x16_1).f3)) ∧ w'.cell? ⟨(ad330.add ((x16_1).toNat * 6)).block, (ad330.add ((x16_1).toNat * 6)).off + 4, none⟩ = some (.int .i64 ((rd_T38 l3 x16_1).f4)) ∧ w'.cell? ⟨(ad330.add ((x16_1).toNat * 6)).block, (ad330.add ((x16_1).toNat * 6)).off + 5, none⟩ = some (.bool ((rd_T38 l3 x16_1).f5))) (ds := []) #[false, false, false, false, false, false, false, false, false, false, false, false, false, false, false] (by kernel_rfl) rfl rfl ⟨(blk_cell BK328.out 0).trans rfl, (blk_cell BK328.out 1).trans rfl, (blk_cell BK328.out 2).trans rfl, (blk_cell BK328.out 3).trans rfl, (blk_cell BK328.out 4).trans rfl, (blk_cell BK328.out 5).trans rfl, (blk_cell BK328.out 6).trans rfl, (blk_cell BK328.out 7).trans rfl, (blk_cell BK328.out 8).trans rfl, ((HB.out.cell (World.block_lt_of_cell? w _ hw331_0)).trans hw331_0), ((HB.out.cell (World.block_lt_of_cell? w _ hw331_1)).trans hw331_1), ((HB.out.cell (World.block_lt_of_cell? w _ hw331_2)).trans hw331_2), ((HB.out.cell (World.block_lt_of_cell? w _ hw331_3)).trans hw331_3), ((HB.out.cell (World.block_lt_of_cell? w _ hw331_4)).trans hw331_4), ((HB.out.cell (World.block_lt_of_cell? w _ hw331_5)).trans hw331_5)⟩ (fun hHeld => ?_); refine with_tabW dormouseref09_Least.tab6 dormouseref09_Least.bits6 (fun HT_ HW_ => ?_)
            generalize wr.drew = w15 at BK328 HB hx331_0 hx331_1 hx331_2 hx331_3 hx331_4 hx331_5 hHeld ⊢
            refine pure_ (i := 0) (N := some 33) (v := ?_) (a' := ?_) #[true, false, false, false, false, false, false, false, false, false, false, false, false, false, false] rfl rfl (any_of HT_.out (by kernel_rfl)) (fun _ _ _ h => h) (Or.inl ⟨by rfl, ?_⟩) ?_ ?_
            rotate_left
            · intro w'
              go_simp
              with_reducible rfl
            rotate_left
            · simp only [Act.put, List.setIfInBounds_toArray, List.set_cons_zero, List.set_cons_succ, i64_w, i32_w]
              rfl
            refine pure_ (i := 2) (N := some 35) (v := ?_) (a' := ?_) #[true, false, true, false, false, false, false, false, false, false, false, false, false, false, false] rfl rfl (any_of HT_.out (by kernel_rfl)) (fun _ _ _ h => h) (Or.inl ⟨by rfl, ?_⟩) ?_ ?_
            rotate_left
            · intro w'
              go_simp
              with_reducible rfl
            rotate_left
            · simp only [Act.put, List.setIfInBounds_toArray, List.set_cons_zero, List.set_cons_succ, i64_w, i32_w]
              rfl
            refine pure_ (i := 3) (N := some 36) (v := ?_) (a' := ?_) #[true, false, true, true, false, false, false, false, false, false, false, false, false, false, false] rfl rfl (any_of HT_.out (by kernel_rfl)) (fun _ _ _ h => h) (Or.inl ⟨by rfl, ?_⟩) ?_ ?_
            rotate_left
            · intro w'
              go_simp
              with_reducible rfl
            rotate_left
            · simp only [Act.put, List.setIfInBounds_toArray, List.set_cons_zero, List.set_cons_succ, i64_w, i32_w]
              rfl
            refine pure_ (i := 4) (N := some 37) (v := ?_) (a' := ?_) #[true, false, true, true, true, false, false, false, false, false, false, false, false, false, false] rfl rfl (any_of HT_.out (by kernel_rfl)) (fun _ _ _ h => h) (Or.inl ⟨by rfl, ?_⟩) ?_ ?_
            rotate_left
            · intro w'
              go_simp
              with_reducible rfl
            rotate_left
            · simp only [Act.put, List.setIfInBounds_toArray, List.set_cons_zero, List.set_cons_succ, i64_w, i32_w]
              rfl
            refine pure_ (i := 5) (N := some 38) (v := ?_) (a' := ?_) #[true, false, true, true, true, true, false, false, false, false, false, false, false, false, false] rfl rfl (any_of HT_.out (by kernel_rfl)) (fun _ _ _ h => h) (Or.inl ⟨by rfl, ?_⟩) ?_ ?_
            rotate_left
            · intro w'
              go_simp
              with_reducible rfl
            rotate_left
            · simp only [Act.put, List.setIfInBounds_toArray, List.set_cons_zero, List.set_cons_succ, i64_w, i32_w]
              rfl
            refine pure_ (i := 6) (N := some 39) (v := ?_) (a' := ?_) #[true, false, true, true, true, true, true, false, false, false, false, false, false, false, false] rfl rfl (any_of HT_.out (by kernel_rfl)) (fun _ _ _ h => h) (Or.inl ⟨by rfl, ?_⟩) ?_ ?_
            rotate_left
            · intro w'
              go_simp
              with_reducible rfl
            rotate_left
            · simp only [Act.put, List.setIfInBounds_toArray, List.set_cons_zero, List.set_cons_succ, i64_w, i32_w]
              rfl
            refine pure_ (i := 7) (N := some 40) (v := ?_) (a' := ?_) #[true, false, true, true, true, true, true, true, false, false, false, false, false, false, false] rfl rfl (any_of HT_.out (by kernel_rfl)) (fun _ _ _ h => h) (Or.inl ⟨by rfl, ?_⟩) ?_ ?_
            rotate_left
            · intro w'
              go_simp
              with_reducible rfl
            rotate_left
            · simp only [Act.put, List.setIfInBounds_toArray, List.set_cons_zero, List.set_cons_succ, i64_w, i32_w]
              rfl
            refine pure_ (i := 8) (N := some 41) (v := ?_) (a' := ?_) #[true, false, true, true, true, true, true, true, true, false, false, false, false, false, false] rfl rfl (any_of HT_.out (by kernel_rfl)) (fun _ _ _ h => h) (Or.inl ⟨by rfl, ?_⟩) ?_ ?_
            rotate_left
            · intro w'
              go_simp
              with_reducible rfl
            rotate_left
            · simp only [Act.put, List.setIfInBounds_toArray, List.set_cons_zero, List.set_cons_succ, i64_w, i32_w]
              rfl
            refine pure_ (i := 9) (N := some 42) (v := ?_) (a' := ?_) #[true, false, true, true, true, true, true, true, true, true, false, false, false, false, false] rfl rfl (any_of HT_.out (by kernel_rfl)) (fun _ _ _ h => h) (Or.inl ⟨by rfl, ?_⟩) ?_ ?_
            rotate_left
            · intro w'
              go_simp
              with_reducible rfl
            rotate_left
            · simp only [Act.put, List.setIfInBounds_toArray, List.set_cons_zero, List.set_cons_succ, i64_w, i32_w]
              rfl
            refine pure_ (i := 10) (N := some 43) (v := ?_) (a' := ?_) #[true, false, true, true, true, true, true, true, true, true, true, false, false, false, false] rfl rfl (any_of HT_.out (by kernel_rfl)) (fun _ _ _ h => h) (Or.inl ⟨by rfl, ?_⟩) ?_ ?_
            rotate_left
            · intro w'
              go_simp
              with_reducible rfl
            rotate_left
            · simp only [Act.put, List.setIfInBounds_toArray, List.set_cons_zero, List.set_cons_succ, i64_w, i32_w]
              rfl
            refine take_ (i := 1) (N := some 34) (v := ?_) (a' := ?_) #[true, true, true, true, true, true, true, true, true, true, true, false, false, false, false] rfl rfl (take_ofW HT_.out HW_.out (by kernel_rfl)) (fun _ _ _ h => h) (Or.inl ⟨by rfl, ?_⟩) hHeld ?_ ?_
            rotate_left
            · rintro w' ⟨s0, s1, s2, s3, s4, s5, s6, s7, s8, s9, s10, s11, s12, s13, s14⟩
              go_simp
              with_reducible rfl
            rotate_left
            · simp only [Act.put, List.setIfInBounds_toArray, List.set_cons_zero, List.set_cons_succ, i64_w, i32_w]
              rfl
            refine take_ (i := 11) (N := some 44) (v := ?_) (a' := ?_) #[true, true, true, true, true, true, true, true, true, true, true, true, false, false, false] rfl rfl (take_ofW HT_.out HW_.out (by kernel_rfl)) (fun _ _ _ h => h) (Or.inl ⟨by rfl, ?_⟩) hHeld ?_ ?_
            rotate_left
            · rintro w' ⟨s0, s1, s2, s3, s4, s5, s6, s7, s8, s9, s10, s11, s12, s13, s14⟩
              go_simp
              with_reducible rfl
            rotate_left
            · simp only [Act.put, List.setIfInBounds_toArray, List.set_cons_zero, List.set_cons_succ, i64_w, i32_w]
              rfl
            refine one_ (i := 12) (N := some 45) #[true, true, true, true, true, true, true, true, true, true, true, true, true, false, false] rfl rfl (one_of HT_.out (by kernel_rfl)) (by decide) (fun K hK => ?_)
            refine goes_ Try.func40 (by kernel_rfl) rfl #[.agg #[.slice A0_0 l0_0.length c0_0, .slice A0_1 l0_1.length c0_1, .slice A0_2 l0_2.length c0_2, .int .i64 a0_3, .int .i64 a0_4, .int .i64 a0_5, .int .i64 a0_6, .int .i64 a0_7, .int .i64 a0_8], .slice A1 l1.length c1, .slice A2 l2.length c2, .slice (some ad330) l3.length c3, .slice A4 l4.length c4, .int .i64 a5, .int .i64 ((rd_T38 l3 x16_1).f2)] (by rfl) rfl rfl (by (try simp only [List.map_toArray, List.map_cons, List.map_nil]); first | done | rfl | (simp only [List.length_drop, List.length_take]; rfl)) ?_
            with_reducible refine (dormouseref09_At.calls k1 _ _ l0_0 _ _ l0_1 _ _ l0_2 a0_3 a0_4 a0_5 a0_6 a0_7 a0_8 _ _ l1 _ _ l2 _ _ l3 _ _ l4 a5 ((rd_T38 l3 x16_1).f2) t332 _ ?side1 ?side2 ?side3 ?side4 ?side5 ?side6 ?side7 ?side8 ?side9 ?side10 ?side11 ?side12 ?side13 ?side14 A13.out).mono ?_
            (case side1 => repeat (first | exact (Kd.C_below HR0_0.out HB.out) | (with_reducible refine Kd.C_alloc ?_ _) | (with_reducible refine Kd.C_drewN ?_ _) | (with_reducible refine Kd.C_drew ?_)))
            (case side2 => exact HC0_0.out)
            (case side3 => repeat (first | exact (Kd.C_below HR0_1.out HB.out) | (with_reducible refine Kd.C_alloc ?_ _) | (with_reducible refine Kd.C_drewN ?_ _) | (with_reducible refine Kd.C_drew ?_)))
            (case side4 => exact HC0_1.out)
            (case side5 => repeat (first | exact (Kd.C_below HR0_2.out HB.out) | (with_reducible refine Kd.C_alloc ?_ _) | (with_reducible refine Kd.C_drewN ?_ _) | (with_reducible refine Kd.C_drew ?_)))
            (case side6 => exact HC0_2.out)
            (case side7 => repeat (first | exact (Kd.C_below HR1.out HB.out) | (with_reducible refine Kd.C_alloc ?_ _) | (with_reducible refine Kd.C_drewN ?_ _) | (with_reducible refine Kd.C_drew ?_)))
            (case side8 => exact HC1.out)
            (case side9 => repeat (first | exact (Kd.C_below HR2.out HB.out) | (with_reducible refine Kd.C_alloc ?_ _) | (with_reducible refine Kd.C_drewN ?_ _) | (with_reducible refine Kd.C_drew ?_)))
            (case side10 => exact HC2.out)
            (case side11 => repeat (first | exact (Kd.C_below HR3.out HB.out) | (with_reducible refine Kd.C_alloc ?_ _) | (with_reducible refine Kd.C_drewN ?_ _) | (with_reducible refine Kd.C_drew ?_)))
            (case side12 => exact HC3.out)
            (case side13 => repeat (first | exact (Kd.C_below HR4.out HB.out) | (with_reducible refine Kd.C_alloc ?_ _) | (with_reducible refine Kd.C_drewN ?_ _) | (with_reducible refine Kd.C_drew ?_)))
            (case side14 => exact HC4.out)
            rintro e w16 ⟨rfl, hb⟩
            refine ⟨_, rfl, ?_⟩
            have n0_ := Aside0.mk (blk_below (g := gb328) (o := .cells #[.slice A0_0 l0_0.length c0_0, .slice A0_1 l0_1.length c0_1, .slice A0_2 l0_2.length c0_2, .int .i64 a0_3, .int .i64 a0_4, .int .i64 a0_5, .int .i64 a0_6, .int .i64 a0_7, .int .i64 a0_8] 26 (0, 0)) (by (with_reducible repeat (first | refine blk_drewN ?_ _ | refine blk_drew ?_ | refine blk_alloc ?_ _)); exact BK328.out) hb)
            have n1_ := Aside0.mk (below_step (by repeat (first | (with_reducible first | exact HB.out | apply below_alloc | apply pw_below_drewN | apply below_drew1 | refine below_set ?_ GE328.out) | exact HB.out)) hb)
            clear BK328
            clear HB
            have BK328 := n0_
            have HB := n1_
            clear n0_ n1_
            (try clear hb)
            (try clear hb2)
            (try clear hk)
            (try clear hi)
            refine hK.out _ _ ⟨(blk_cell BK328.out 0).trans rfl, (blk_cell BK328.out 1).trans rfl, (blk_cell BK328.out 2).trans rfl, (blk_cell BK328.out 3).trans rfl, (blk_cell BK328.out 4).trans rfl, (blk_cell BK328.out 5).trans rfl, (blk_cell BK328.out 6).trans rfl, (blk_cell BK328.out 7).trans rfl, (blk_cell BK328.out 8).trans rfl, ((HB.out.cell (World.block_lt_of_cell? w _ hw331_0)).trans hw331_0), ((HB.out.cell (World.block_lt_of_cell? w _ hw331_1)).trans hw331_1), ((HB.out.cell (World.block_lt_of_cell? w _ hw331_2)).trans hw331_2), ((HB.out.cell (World.block_lt_of_cell? w _ hw331_3)).trans hw331_3), ((HB.out.cell (World.block_lt_of_cell? w _ hw331_4)).trans hw331_4), ((HB.out.cell (World.block_lt_of_cell? w _ hw331_5)).trans hw331_5)⟩ (fun hHeld => ?_)
            clear hK K
            refine norm_ (a' := ?_) ?_ ?_
            rotate_left
            · show Act.put _ (some 45) _ = _
              simp only [Act.put, List.setIfInBounds_toArray, List.set_cons_zero, List.set_cons_succ, i64_w, i32_w]
              rfl
            refine one_ (i := 13) (N := some 46) #[true, true, true, true, true, true, true, true, true, true, true, true, true, true, false] rfl rfl (one_of HT_.out (by kernel_rfl)) (by decide) (fun K hK => ?_)
            refine goes_ Try.func31 (by kernel_rfl) rfl #[.int .i64 x15_1, .int .i64 t332] (by rfl) rfl rfl (by (try simp only [List.map_toArray, List.map_cons, List.map_nil]); first | done | rfl | (simp only [List.length_drop, List.length_take]; rfl)) ?_
            with_reducible refine (dormouseref01_Min.calls x15_1 t332 t333 _ A14.out).mono ?_
            rintro e w' ⟨rfl, ⟨nd, rfl⟩⟩
            refine ⟨_, rfl, ?_⟩
            refine hK.out _ _ ⟨(blk_cell BK328.out 0).trans rfl, (blk_cell BK328.out 1).trans rfl, (blk_cell BK328.out 2).trans rfl, (blk_cell BK328.out 3).trans rfl, (blk_cell BK328.out 4).trans rfl, (blk_cell BK328.out 5).trans rfl, (blk_cell BK328.out 6).trans rfl, (blk_cell BK328.out 7).trans rfl, (blk_cell BK328.out 8).trans rfl, ((HB.out.cell (World.block_lt_of_cell? w _ hw331_0)).trans hw331_0), ((HB.out.cell (World.block_lt_of_cell? w _ hw331_1)).trans hw331_1), ((HB.out.cell (World.block_lt_of_cell? w _ hw331_2)).trans hw331_2), ((HB.out.cell (World.block_lt_of_cell? w _ hw331_3)).trans hw331_3), ((HB.out.cell (World.block_lt_of_cell? w _ hw331_4)).trans hw331_4), ((HB.out.cell (World.block_lt_of_cell? w _ hw331_5)).trans hw331_5)⟩ (fun hHeld => ?_)
            clear hK K
            refine norm_ (a' := ?_) ?_ ?_
            rotate_left
            · show Act.put _ (some 46) _ = _
              simp only [Act.put, List.setIfInBounds_toArray, List.set_cons_zero, List.set_cons_succ, i64_w, i32_w]
              rfl
            refine pure_ (i := 14) (N := some 15) (v := ?_) (a' := ?_) #[true, true, true, true, true, true, true, true, true, true, true, true, true, true, true] rfl rfl (any_of HT_.out (by kernel_rfl)) (fun _ _ _ h => h) (Or.inl ⟨by rfl, ?_⟩) ?_ ?_
            rotate_left
            · intro w'
              go_simp
              with_reducible rfl
            rotate_left
            · simp only [Act.put, List.setIfInBounds_toArray, List.set_cons_zero, List.set_cons_succ, i64_w, i32_w]
              rfl
            refine done_ (done_of HT_.out (by kernel_rfl)) ?_
            try go_wp2
            go_roundg k1
            case measure => have := HK1.out; omega
            case rel => exact ⟨(t333), (wrap64 (x16_1 + 1)), (by first | rfl | (simp; done) | (simp [*]; done)), (by first | rfl | (simp; done) | (simp [*]; done)), H', ⟨by have := HK1.out; omega⟩, ⟨by (with_reducible repeat (first | refine blk_drewN ?_ _ | refine blk_drew ?_ | refine blk_alloc ?_ _)); exact BK328.out⟩, ⟨by repeat (first | (with_reducible first | exact HB.out | apply below_alloc | apply pw_below_drewN | apply below_drew1 | refine below_set ?_ GE328.out) | exact HB.out)⟩⟩
          · rw [if_neg c12] at H
            have c12b0 : decide (a6 ≤ ((rd_T38 l3 x16_1).f2)) = false := decide_eq_false c12
            clear c12
            have H' := Aside0.mk H
            clear H
            have p330 : 0 ≤ (x16_1 : Int) := of_decide_eq_true (by first | (with_reducible assumption) | assumption)
            have q330 : x16_1 < (l3.length : Int) := of_decide_eq_true (by first | (with_reducible assumption) | assumption)
            obtain ⟨ad330, e330, hx330_0, hx330_1, hx330_2, hx330_3, hx330_4, hx330_5⟩ := at_T38 HR3.out x16_1 p330 q330
            cases e330
            replace hx330_0 := (HB.out.cell (World.block_lt_of_cell? w _ hx330_0)).trans hx330_0
            replace hx330_1 := (HB.out.cell (World.block_lt_of_cell? w _ hx330_1)).trans hx330_1
            replace hx330_2 := (HB.out.cell (World.block_lt_of_cell? w _ hx330_2)).trans hx330_2
            replace hx330_3 := (HB.out.cell (World.block_lt_of_cell? w _ hx330_3)).trans hx330_3
            replace hx330_4 := (HB.out.cell (World.block_lt_of_cell? w _ hx330_4)).trans hx330_4
            replace hx330_5 := (HB.out.cell (World.block_lt_of_cell? w _ hx330_5)).trans hx330_5
            replace p330 := eq_true p330
            replace q330 := eq_true q330
            go_wp2
            go_roundg k1
            case measure => have := HK1.out; omega
            case rel => exact ⟨(x15_1), (wrap64 (x16_1 + 1)), (by first | rfl | (simp; done) | (simp [*]; done)), (by first | rfl | (simp; done) | (simp [*]; done)), H', ⟨by have := HK1.out; omega⟩, ⟨by (with_reducible repeat (first | refine blk_drewN ?_ _ | refine blk_drew ?_ | refine blk_alloc ?_ _)); exact BK328.out⟩, ⟨by repeat (first | (with_reducible first | exact HB.out | apply below_alloc | apply pw_below_drewN | apply below_drew1 | refine below_set ?_ GE328.out) | exact HB.out)⟩⟩
        · rw [if_neg c11] at H
          exact absurd H (by simp)
      · rw [if_neg c10] at H
        have c10b0 : decide (x16_1 < (l3.length : Int)) = false := decide_eq_false c10
        clear c10
        have H' := Aside0.mk H
        clear H
        go_wp2
        go_loopg [15, 17] k1 (fun kq v15 v17 w' => ∃ (x15_2 : Int) (x17_2 : Int), v15 = .int .i64 x15_2 ∧ v17 = .int .i64 x17_2 ∧ Aside0 (dormouseref09_Least.l1 kq l1 l2 l3 l4 a5 a6 x15_2 x17_2 l0_0 l0_1 l0_2 a0_3 a0_4 a0_5 a0_6 a0_7 a0_8 = some r) ∧ Aside0 (kq ≤ k1) ∧ Aside0 (w'.heap[gb328]? = some (.cells #[(.slice A0_0 l0_0.length c0_0), (.slice A0_1 l0_1.length c0_1), (.slice A0_2 l0_2.length c0_2), .int .i64 a0_3, .int .i64 a0_4, .int .i64 a0_5, .int .i64 a0_6, .int .i64 a0_7, .int .i64 a0_8] 26 (0, 0))) ∧ Aside0 (Below w.heap.size w w'))
        case atStart => exact ⟨(x15_1), (0), (by first | rfl | (simp; done) | (simp [*]; done)), (by first | rfl | (simp; done) | (simp [*]; done)), H', ⟨Nat.le_refl _⟩, ⟨by (with_reducible repeat (first | refine blk_drewN ?_ _ | refine blk_drew ?_ | refine blk_alloc ?_ _)); exact BK328.out⟩, ⟨by repeat (first | (with_reducible first | exact HB.out | apply below_alloc | apply pw_below_drewN | apply below_drew1 | refine below_set ?_ GE328.out) | exact HB.out)⟩⟩
        case round =>
          clear H'
          try clear c1
          try clear c2
          try clear p2
          try clear c3
          try clear p3
          try clear q3
          try clear hx3
          try clear c4
          try clear p6
          try clear c10
          try clear c10b0
          try clear c11
          try clear c11b0
          try clear c12
          try clear c12b0
          try clear hx330_0
          try clear hx330_1
          try clear hx330_2
          try clear hx330_3
          try clear hx330_4
          try clear hx330_5
          try clear hx331_0
          try clear hx331_1
          try clear hx331_2
          try clear hx331_3
          try clear hx331_4
          try clear hx331_5
          try clear p2
          try clear p330
          try clear p331
          try clear q330
          try clear q331
          obtain ⟨x15_2, x17_2, rfl, rfl, HA, HK2, BK328, HB⟩ := hrel
          cases gk with
          | zero => exact absurd HA.out (by simp [dormouseref09_Least.l1])
          | succ k2 =>
            have H := HA.out
            clear HA
            simp only [dormouseref09_Least.l1] at H
            by_cases c17 : x17_2 < (l1.length : Int)
            · rw [if_pos c17] at H
              have c17b0 : decide (x17_2 < (l1.length : Int)) = true := decide_eq_true c17
              clear c17
              replace H := Option.bind_eq_some_iff.mp H
              obtain ⟨t334, A180, H⟩ := H
              replace H : (if 0 ≤ x17_2 then (if ((rd_T36 l1 x17_2).f0) > 0 then (dormouseref09_Least.j2 k2 l1 l2 l3 l4 a5 a6 x15_2 x17_2 (wrap64 (t334 + ((rd_T36 l1 x17_2).f0))) (decide ((wrap64 (t334 + ((rd_T36 l1 x17_2).f0))) ≥ a6)) l0_0 l0_1 l0_2 a0_3 a0_4 a0_5 a0_6 a0_7 a0_8) else (dormouseref09_Least.j2 k2 l1 l2 l3 l4 a5 a6 x15_2 x17_2 (wrap64 (t334 + ((rd_T36 l1 x17_2).f0))) false l0_0 l0_1 l0_2 a0_3 a0_4 a0_5 a0_6 a0_7 a0_8)) else (none)) = some r := H
              have A18 := Aside0.mk A180
              clear A180
              by_cases c19 : 0 ≤ x17_2
              · rw [if_pos c19] at H
                have c19b0 : decide (0 ≤ x17_2) = true := decide_eq_true c19
                clear c19
                have HC20 := Aside0.mk H
                clear H
                try go_wp2
                have n0_ := Aside0.mk (blk_drew BK328.out)
                have n1_ := Aside0.mk (below_drew1 HB.out)
                clear BK328
                clear HB
                have BK328 := n0_
                have HB := n1_
                clear n0_ n1_
                have p335 : 0 ≤ (x17_2 : Int) := of_decide_eq_true (by first | (with_reducible assumption) | assumption)
                have q335 : x17_2 < (l1.length : Int) := of_decide_eq_true (by first | (with_reducible assumption) | assumption)
                obtain ⟨ad335, A335_2, c335_2, A335_3, c335_3, e335, hx335_0, hx335_1, hx335_2, hx335_3, hl335_2, hi335_2, hl335_3, hi335_3⟩ := at_T36 HR1.out x17_2 p335 q335
                have hw335_3 := hx335_3
                have hw335_2 := hx335_2
                have hw335_1 := hx335_1
                have hw335_0 := hx335_0
                cases e335
                replace hx335_0 := (HB.out.cell (World.block_lt_of_cell? w _ hx335_0)).trans hx335_0
                replace hx335_1 := (HB.out.cell (World.block_lt_of_cell? w _ hx335_1)).trans hx335_1
                replace hx335_2 := (HB.out.cell (World.block_lt_of_cell? w _ hx335_2)).trans hx335_2
                replace hx335_3 := (HB.out.cell (World.block_lt_of_cell? w _ hx335_3)).trans hx335_3
                have HR335_2 := Aside0.mk hi335_2
                have HC335_2 := Aside0.mk hl335_2
                clear hi335_2 hl335_2
                have HR335_3 := Aside0.mk hi335_3
                have HC335_3 := Aside0.mk hl335_3
                clear hi335_3 hl335_3
                replace p335 := eq_true p335
                replace q335 := eq_true q335
                refine start_ (n := 11) (S := fun w' => w'.cell? (ad335.add ((x17_2).toNat * 4)) = some (.int .i64 ((rd_T36 l1 x17_2).f0)) ∧ w'.cell? ⟨(ad335.add ((x17_2).toNat * 4)).block, (ad335.add ((x17_2).toNat * 4)).off + 1, none⟩ = some (.int .i64 ((rd_T36 l1 x17_2).f1)) ∧ w'.cell? ⟨(ad335.add ((x17_2).toNat * 4)).block, (ad335.add ((x17_2).toNat * 4)).off + 2, none⟩ = some (.slice A335_2 ((rd_T36 l1 x17_2).f2).length c335_2) ∧ w'.cell? ⟨(ad335.add ((x17_2).toNat * 4)).block, (ad335.add ((x17_2).toNat * 4)).off + 3, none⟩ = some (.slice A335_3 ((rd_T36 l1 x17_2).f3).length c335_3)) (ds := []) #[false, false, false, false, false, false, false, false, false, false, false] (by kernel_rfl) rfl rfl ⟨((HB.out.cell (World.block_lt_of_cell? w _ hw335_0)).trans hw335_0), ((HB.out.cell (World.block_lt_of_cell? w _ hw335_1)).trans hw335_1), ((HB.out.cell (World.block_lt_of_cell? w _ hw335_2)).trans hw335_2), ((HB.out.cell (World.block_lt_of_cell? w _ hw335_3)).trans hw335_3)⟩ (fun hHeld => ?_); refine with_tabW dormouseref09_Least.tab10 dormouseref09_Least.bits10 (fun HT_ HW_ => ?_)
                generalize wr.drew = w21 at BK328 HB HR335_2 HR335_3 hx335_0 hx335_1 hx335_2 hx335_3 hHeld ⊢
                refine pure_ (i := 0) (N := some 53) (v := ?_) (a' := ?_) #[true, false, false, false, false, false, false, false, false, false, false] rfl rfl (any_of HT_.out (by kernel_rfl)) (fun _ _ _ h => h) (Or.inl ⟨by rfl, ?_⟩) ?_ ?_
                rotate_left
                · intro w'
                  go_simp
                  with_reducible rfl
                rotate_left
                · simp only [Act.put, List.setIfInBounds_toArray, List.set_cons_zero, List.set_cons_succ, i64_w, i32_w]
                  rfl
                refine pure_ (i := 1) (N := some 54) (v := ?_) (a' := ?_) #[true, true, false, false, false, false, false, false, false, false, false] rfl rfl (any_of HT_.out (by kernel_rfl)) (fun _ _ _ h => h) (Or.inl ⟨by rfl, ?_⟩) ?_ ?_
                rotate_left
                · intro w'
                  go_simp
                  with_reducible rfl
                rotate_left
                · simp only [Act.put, List.setIfInBounds_toArray, List.set_cons_zero, List.set_cons_succ, i64_w, i32_w]
                  rfl
                refine pure_ (i := 2) (N := some 55) (v := ?_) (a' := ?_) #[true, true, true, false, false, false, false, false, false, false, false] rfl rfl (any_of HT_.out (by kernel_rfl)) (fun _ _ _ h => h) (Or.inl ⟨by rfl, ?_⟩) ?_ ?_
                rotate_left
                · intro w'
                  go_simp
                  with_reducible rfl
                rotate_left
                · simp only [Act.put, List.setIfInBounds_toArray, List.set_cons_zero, List.set_cons_succ, i64_w, i32_w]
                  rfl
                refine pure_ (i := 4) (N := some 57) (v := ?_) (a' := ?_) #[true, true, true, false, true, false, false, false, false, false, false] rfl rfl (any_of HT_.out (by kernel_rfl)) (fun _ _ _ h => h) (Or.inl ⟨by rfl, ?_⟩) ?_ ?_
                rotate_left
                · intro w'
                  go_simp
                  with_reducible rfl
                rotate_left
                · simp only [Act.put, List.setIfInBounds_toArray, List.set_cons_zero, List.set_cons_succ, i64_w, i32_w]
                  rfl
                refine pure_ (i := 5) (N := some 58) (v := ?_) (a' := ?_) #[true, true, true, false, true, true, false, false, false, false, false] rfl rfl (any_of HT_.out (by kernel_rfl)) (fun _ _ _ h => h) (Or.inl ⟨by rfl, ?_⟩) ?_ ?_
                rotate_left
                · intro w'
                  go_simp
                  with_reducible rfl
                rotate_left
                · simp only [Act.put, List.setIfInBounds_toArray, List.set_cons_zero, List.set_cons_succ, i64_w, i32_w]
                  rfl
                refine pure_ (i := 6) (N := some 59) (v := ?_) (a' := ?_) #[true, true, true, false, true, true, true, false, false, false, false] rfl rfl (any_of HT_.out (by kernel_rfl)) (fun _ _ _ h => h) (Or.inl ⟨by rfl, ?_⟩) ?_ ?_
                rotate_left
                · intro w'
                  go_simp
                  with_reducible rfl
                rotate_left
                · simp only [Act.put, List.setIfInBounds_toArray, List.set_cons_zero, List.set_cons_succ, i64_w, i32_w]
                  rfl
                refine pure_ (i := 7) (N := some 60) (v := ?_) (a' := ?_) #[true, true, true, false, true, true, true, true, false, false, false] rfl rfl (any_of HT_.out (by kernel_rfl)) (fun _ _ _ h => h) (Or.inl ⟨by rfl, ?_⟩) ?_ ?_
                rotate_left
                · intro w'
                  go_simp
                  with_reducible rfl
                rotate_left
                · simp only [Act.put, List.setIfInBounds_toArray, List.set_cons_zero, List.set_cons_succ, i64_w, i32_w]
                  rfl
                refine take_ (i := 8) (N := some 61) (v := ?_) (a' := ?_) #[true, true, true, false, true, true, true, true, true, false, false] rfl rfl (take_ofW HT_.out HW_.out (by kernel_rfl)) (fun _ _ _ h => h) (Or.inl ⟨by rfl, ?_⟩) hHeld ?_ ?_
                rotate_left
                · rintro w' ⟨s0, s1, s2, s3⟩
                  go_simp
                  with_reducible rfl
                rotate_left
                · simp only [Act.put, List.setIfInBounds_toArray, List.set_cons_zero, List.set_cons_succ, i64_w, i32_w]
                  rfl
                refine one_ (i := 3) (N := some 56) #[true, true, true, true, true, true, true, true, true, false, false] rfl rfl (one_of HT_.out (by kernel_rfl)) (by decide) (fun K hK => ?_)
                refine goes_ Try.func41 (by kernel_rfl) rfl #[.slice A2 l2.length c2, .int .i64 x17_2, .int .i64 a5] (by rfl) rfl rfl (by (try simp only [List.map_toArray, List.map_cons, List.map_nil]); first | done | rfl | (simp only [List.length_drop, List.length_take]; rfl)) ?_
                with_reducible refine (dormouseref09_from.calls _ _ l2 x17_2 a5 t334 _ ?side1 ?side2 A18.out).mono ?_
                (case side1 => repeat (first | exact (Kd.C_below HR2.out HB.out) | (with_reducible refine Kd.C_alloc ?_ _) | (with_reducible refine Kd.C_drewN ?_ _) | (with_reducible refine Kd.C_drew ?_)))
                (case side2 => exact HC2.out)
                rintro e w' ⟨rfl, ⟨nd, rfl⟩⟩
                refine ⟨_, rfl, ?_⟩
                refine hK.out _ _ ⟨((HB.out.cell (World.block_lt_of_cell? w _ hw335_0)).trans hw335_0), ((HB.out.cell (World.block_lt_of_cell? w _ hw335_1)).trans hw335_1), ((HB.out.cell (World.block_lt_of_cell? w _ hw335_2)).trans hw335_2), ((HB.out.cell (World.block_lt_of_cell? w _ hw335_3)).trans hw335_3)⟩ (fun hHeld => ?_)
                clear hK K
                refine norm_ (a' := ?_) ?_ ?_
                rotate_left
                · show Act.put _ (some 56) _ = _
                  simp only [Act.put, List.setIfInBounds_toArray, List.set_cons_zero, List.set_cons_succ, i64_w, i32_w]
                  rfl
                refine pure_ (i := 9) (N := some 62) (v := ?_) (a' := ?_) #[true, true, true, true, true, true, true, true, true, true, false] rfl rfl (any_of HT_.out (by kernel_rfl)) (fun _ _ _ h => h) (Or.inl ⟨by rfl, ?_⟩) ?_ ?_
                rotate_left
                · intro w'
                  go_simp
                  with_reducible rfl
                rotate_left
                · simp only [Act.put, List.setIfInBounds_toArray, List.set_cons_zero, List.set_cons_succ, i64_w, i32_w]
                  rfl
                refine pure_ (i := 10) (N := some 18) (v := ?_) (a' := ?_) #[true, true, true, true, true, true, true, true, true, true, true] rfl rfl (any_of HT_.out (by kernel_rfl)) (fun _ _ _ h => h) (Or.inl ⟨by rfl, ?_⟩) ?_ ?_
                rotate_left
                · intro w'
                  go_simp
                  with_reducible rfl
                rotate_left
                · simp only [Act.put, List.setIfInBounds_toArray, List.set_cons_zero, List.set_cons_succ, i64_w, i32_w]
                  rfl
                refine done_ (done_of HT_.out (by kernel_rfl)) ?_
                go_upto_region 11 with (fail)
                go_cut [73] (fun v73 wc => ∃ (kq : Nat) (x73_19 : Bool), v73 = .bool x73_19 ∧ Aside0 (dormouseref09_Least.j2 kq l1 l2 l3 l4 a5 a6 x15_2 x17_2 (wrap64 (t334 + ((rd_T36 l1 x17_2).f0))) x73_19 l0_0 l0_1 l0_2 a0_3 a0_4 a0_5 a0_6 a0_7 a0_8 = some r) ∧ Aside0 (kq ≤ k2) ∧ Aside0 (wc.heap[gb328]? = some (.cells #[(.slice A0_0 l0_0.length c0_0), (.slice A0_1 l0_1.length c0_1), (.slice A0_2 l0_2.length c0_2), .int .i64 a0_3, .int .i64 a0_4, .int .i64 a0_5, .int .i64 a0_6, .int .i64 a0_7, .int .i64 a0_8] 26 (0, 0))) ∧ Aside0 (Below w.heap.size w wc))
                case first =>
                  have H := HC20.out
                  clear HC20
                  by_cases c22 : ((rd_T36 l1 x17_2).f0) > 0
                  · rw [if_pos c22] at H
                    have c22b0 : decide (0 < ((rd_T36 l1 x17_2).f0)) = true := decide_eq_true c22
                    clear c22
                    (first | rw [c22b0] | (simp only [i64_w, i32_w]; rw [c22b0]) | skip)
                    have H' := Aside0.mk H
                    clear H
                    have p336 : 0 ≤ (x17_2 : Int) := of_decide_eq_true (by first | (with_reducible assumption) | assumption)
                    have q336 : x17_2 < (l1.length : Int) := of_decide_eq_true (by first | (with_reducible assumption) | assumption)
                    obtain ⟨ad336, A336_2, c336_2, A336_3, c336_3, e336, hx336_0, hx336_1, hx336_2, hx336_3, hl336_2, hi336_2, hl336_3, hi336_3⟩ := at_T36 HR1.out x17_2 p336 q336
                    obtain rfl : ad335 = ad336 := (by injection e336)
                    replace hx336_0 := (HB.out.cell (World.block_lt_of_cell? w _ hx336_0)).trans hx336_0
                    replace hx336_1 := (HB.out.cell (World.block_lt_of_cell? w _ hx336_1)).trans hx336_1
                    replace hx336_2 := (HB.out.cell (World.block_lt_of_cell? w _ hx336_2)).trans hx336_2
                    replace hx336_3 := (HB.out.cell (World.block_lt_of_cell? w _ hx336_3)).trans hx336_3
                    have HR336_2 := Aside0.mk hi336_2
                    have HC336_2 := Aside0.mk hl336_2
                    clear hi336_2 hl336_2
                    have HR336_3 := Aside0.mk hi336_3
                    have HC336_3 := Aside0.mk hl336_3
                    clear hi336_3 hl336_3
                    replace p336 := eq_true p336
                    replace q336 := eq_true q336
                    go_wp2
                    go_meet
                    case rel => exact ⟨_, (decide ((wrap64 (t334 + ((rd_T36 l1 x17_2).f0))) ≥ a6)), (by first | rfl | (simp; done) | (simp [*]; done)), H', ⟨by have := HK1.out; have := HK2.out; first | omega | exact Nat.le_refl _⟩, ⟨by (with_reducible repeat (first | refine blk_drewN ?_ _ | refine blk_drew ?_ | refine blk_alloc ?_ _)); exact BK328.out⟩, ⟨by repeat (first | (with_reducible first | exact HB.out | apply below_alloc | apply pw_below_drewN | apply below_drew1 | refine below_set ?_ GE328.out) | exact HB.out)⟩⟩
                  · rw [if_neg c22] at H
                    have c22b0 : decide (0 < ((rd_T36 l1 x17_2).f0)) = false := decide_eq_false c22
                    clear c22
                    (first | rw [c22b0] | (simp only [i64_w, i32_w]; rw [c22b0]) | skip)
                    have H' := Aside0.mk H
                    clear H
                    have p336 : 0 ≤ (x17_2 : Int) := of_decide_eq_true (by first | (with_reducible assumption) | assumption)
                    have q336 : x17_2 < (l1.length : Int) := of_decide_eq_true (by first | (with_reducible assumption) | assumption)
                    obtain ⟨ad336, A336_2, c336_2, A336_3, c336_3, e336, hx336_0, hx336_1, hx336_2, hx336_3, hl336_2, hi336_2, hl336_3, hi336_3⟩ := at_T36 HR1.out x17_2 p336 q336
                    obtain rfl : ad335 = ad336 := (by injection e336)
                    replace hx336_0 := (HB.out.cell (World.block_lt_of_cell? w _ hx336_0)).trans hx336_0
                    replace hx336_1 := (HB.out.cell (World.block_lt_of_cell? w _ hx336_1)).trans hx336_1
                    replace hx336_2 := (HB.out.cell (World.block_lt_of_cell? w _ hx336_2)).trans hx336_2
                    replace hx336_3 := (HB.out.cell (World.block_lt_of_cell? w _ hx336_3)).trans hx336_3
                    have HR336_2 := Aside0.mk hi336_2
                    have HC336_2 := Aside0.mk hl336_2
                    clear hi336_2 hl336_2
                    have HR336_3 := Aside0.mk hi336_3
                    have HC336_3 := Aside0.mk hl336_3
                    clear hi336_3 hl336_3
                    replace p336 := eq_true p336
                    replace q336 := eq_true q336
                    go_wp2
                    go_meet
                    case rel => exact ⟨_, (false), (by first | rfl | (simp; done) | (simp [*]; done)), H', ⟨by have := HK1.out; have := HK2.out; first | omega | exact Nat.le_refl _⟩, ⟨by (with_reducible repeat (first | refine blk_drewN ?_ _ | refine blk_drew ?_ | refine blk_alloc ?_ _)); exact BK328.out⟩, ⟨by repeat (first | (with_reducible first | exact HB.out | apply below_alloc | apply pw_below_drewN | apply below_drew1 | refine below_set ?_ GE328.out) | exact HB.out)⟩⟩
                case rest =>
                  clear HC20
                  try clear c1
                  try clear c2
                  try clear p2
                  try clear c3
                  try clear p3
                  try clear q3
                  try clear hx3
                  try clear c4
                  try clear p6
                  try clear c10
                  try clear c10b0
                  try clear c11
                  try clear c11b0
                  try clear c12
                  try clear c12b0
                  try clear c17
                  try clear c17b0
                  try clear c19
                  try clear c19b0
                  try clear c22
                  try clear c22b0
                  try clear hx330_0
                  try clear hx330_1
                  try clear hx330_2
                  try clear hx330_3
                  try clear hx330_4
                  try clear hx330_5
                  try clear hx331_0
                  try clear hx331_1
                  try clear hx331_2
                  try clear hx331_3
                  try clear hx331_4
                  try clear hx331_5
                  try clear hx335_0
                  try clear hx335_1
                  try clear hx335_2
                  try clear hx335_3
                  try clear hx336_0
                  try clear hx336_1
                  try clear hx336_2
                  try clear hx336_3
                  try clear p2
                  try clear p3
                  try clear p330
                  try clear p331
                  try clear p335
                  try clear p336
                  try clear p6
                  try clear q3
                  try clear q330
                  try clear q331
                  try clear q335
                  try clear q336
                  obtain ⟨kq, x73_19, rfl, HA, HJ19, BK328, HB⟩ := hcut
                  cases kq with
                  | zero => exact absurd HA.out (by simp [dormouseref09_Least.j2])
                  | succ kj19 =>
                    have H := HA.out
                    clear HA
                    simp only [dormouseref09_Least.j2] at H
                    by_cases c23 : x73_19 = true
                    · subst c23
                      have H1 : ((dormouseref09_At.f kj19 l0_0 l0_1 l0_2 a0_3 a0_4 a0_5 a0_6 a0_7 a0_8 l1 l2 l3 l4 a5 (wrap64 (t334 + ((rd_T36 l1 x17_2).f0)))).bind fun t337 => ((dormouseref01_Min.f x15_2 t337).bind fun t338 => (dormouseref09_Least.l1 kj19 l1 l2 l3 l4 a5 a6 t338 (wrap64 (x17_2 + 1)) l0_0 l0_1 l0_2 a0_3 a0_4 a0_5 a0_6 a0_7 a0_8))) = some r := by rw [if_pos rfl] at H; exact H
                      clear H
                      have H := H1
                      clear H1
                      replace H := Option.bind_eq_some_iff.mp H
                      obtain ⟨t337, A240, H⟩ := H
                      replace H : ((dormouseref01_Min.f x15_2 t337).bind fun t338 => (dormouseref09_Least.l1 kj19 l1 l2 l3 l4 a5 a6 t338 (wrap64 (x17_2 + 1)) l0_0 l0_1 l0_2 a0_3 a0_4 a0_5 a0_6 a0_7 a0_8)) = some r := H
                      have A24 := Aside0.mk A240
                      clear A240
                      replace H := Option.bind_eq_some_iff.mp H
                      obtain ⟨t338, A250, H⟩ := H
                      replace H : (dormouseref09_Least.l1 kj19 l1 l2 l3 l4 a5 a6 t338 (wrap64 (x17_2 + 1)) l0_0 l0_1 l0_2 a0_3 a0_4 a0_5 a0_6 a0_7 a0_8) = some r := H
                      have A25 := Aside0.mk A250
                      clear A250
                      have H' := Aside0.mk H
                      clear H
                      have hcz26_0 : wc.cell? ⟨gb328, 0, none⟩ = some (.slice A0_0 l0_0.length c0_0) := (blk_cell BK328.out 0).trans rfl
                      have hcz26_1 : wc.cell? ⟨gb328, 1, none⟩ = some (.slice A0_1 l0_1.length c0_1) := (blk_cell BK328.out 1).trans rfl
                      have hcz26_2 : wc.cell? ⟨gb328, 2, none⟩ = some (.slice A0_2 l0_2.length c0_2) := (blk_cell BK328.out 2).trans rfl
                      have hcz26_3 : wc.cell? ⟨gb328, 3, none⟩ = some (.int .i64 a0_3) := (blk_cell BK328.out 3).trans rfl
                      have hcz26_4 : wc.cell? ⟨gb328, 4, none⟩ = some (.int .i64 a0_4) := (blk_cell BK328.out 4).trans rfl
                      have hcz26_5 : wc.cell? ⟨gb328, 5, none⟩ = some (.int .i64 a0_5) := (blk_cell BK328.out 5).trans rfl
                      have hcz26_6 : wc.cell? ⟨gb328, 6, none⟩ = some (.int .i64 a0_6) := (blk_cell BK328.out 6).trans rfl
                      have hcz26_7 : wc.cell? ⟨gb328, 7, none⟩ = some (.int .i64 a0_7) := (blk_cell BK328.out 7).trans rfl
                      have hcz26_8 : wc.cell? ⟨gb328, 8, none⟩ = some (.int .i64 a0_8) := (blk_cell BK328.out 8).trans rfl
                      have hfz26_0 := blk_frozen BK328.out 0
                      have hfz26_1 := blk_frozen BK328.out 1
                      have hfz26_2 := blk_frozen BK328.out 2
                      have hfz26_3 := blk_frozen BK328.out 3
                      have hfz26_4 := blk_frozen BK328.out 4
                      have hfz26_5 := blk_frozen BK328.out 5
                      have hfz26_6 := blk_frozen BK328.out 6
                      have hfz26_7 := blk_frozen BK328.out 7
                      have hfz26_8 := blk_frozen BK328.out 8
                      go_wp2_with (first | ((with_reducible refine gate_callee (f := 40) rfl ?_); refine goesL_ (some 82) rfl rfl Try.func40 (by kernel_rfl) rfl #[.agg #[.slice A0_0 l0_0.length c0_0, .slice A0_1 l0_1.length c0_1, .slice A0_2 l0_2.length c0_2, .int .i64 a0_3, .int .i64 a0_4, .int .i64 a0_5, .int .i64 a0_6, .int .i64 a0_7, .int .i64 a0_8], .slice (some ad335) l1.length c1, .slice A2 l2.length c2, .slice A3 l3.length c3, .slice A4 l4.length c4, .int .i64 a5, .int .i64 (wrap64 (t334 + ((rd_T36 l1 x17_2).f0)))] rfl (by (try simp only [List.map_toArray, List.map_cons, List.map_nil]); first | done | rfl | (simp only [List.length_drop, List.length_take]; rfl)) ?_; (with_reducible refine (dormouseref09_At.calls kj19 _ _ l0_0 _ _ l0_1 _ _ l0_2 a0_3 a0_4 a0_5 a0_6 a0_7 a0_8 _ _ l1 _ _ l2 _ _ l3 _ _ l4 a5 (wrap64 (t334 + ((rd_T36 l1 x17_2).f0))) t337 _ ?side1 ?side2 ?side3 ?side4 ?side5 ?side6 ?side7 ?side8 ?side9 ?side10 ?side11 ?side12 ?side13 ?side14 A24.out).mono ?_); (case side1 => repeat (first | exact (Kd.C_below HR0_0.out HB.out) | (with_reducible refine Kd.C_alloc ?_ _) | (with_reducible refine Kd.C_drewN ?_ _) | (with_reducible refine Kd.C_drew ?_))); (case side2 => exact HC0_0.out); (case side3 => repeat (first | exact (Kd.C_below HR0_1.out HB.out) | (with_reducible refine Kd.C_alloc ?_ _) | (with_reducible refine Kd.C_drewN ?_ _) | (with_reducible refine Kd.C_drew ?_))); (case side4 => exact HC0_1.out); (case side5 => repeat (first | exact (Kd.C_below HR0_2.out HB.out) | (with_reducible refine Kd.C_alloc ?_ _) | (with_reducible refine Kd.C_drewN ?_ _) | (with_reducible refine Kd.C_drew ?_))); (case side6 => exact HC0_2.out); (case side7 => repeat (first | exact (Kd.C_below HR1.out HB.out) | (with_reducible refine Kd.C_alloc ?_ _) | (with_reducible refine Kd.C_drewN ?_ _) | (with_reducible refine Kd.C_drew ?_))); (case side8 => exact HC1.out); (case side9 => repeat (first | exact (Kd.C_below HR2.out HB.out) | (with_reducible refine Kd.C_alloc ?_ _) | (with_reducible refine Kd.C_drewN ?_ _) | (with_reducible refine Kd.C_drew ?_))); (case side10 => exact HC2.out); (case side11 => repeat (first | exact (Kd.C_below HR3.out HB.out) | (with_reducible refine Kd.C_alloc ?_ _) | (with_reducible refine Kd.C_drewN ?_ _) | (with_reducible refine Kd.C_drew ?_))); (case side12 => exact HC3.out); (case side13 => repeat (first | exact (Kd.C_below HR4.out HB.out) | (with_reducible refine Kd.C_alloc ?_ _) | (with_reducible refine Kd.C_drewN ?_ _) | (with_reducible refine Kd.C_drew ?_))); (case side14 => exact HC4.out); rintro e w27 ⟨rfl, hb⟩; refine ⟨_, rfl, ?_⟩; have n0_ := Aside0.mk (blk_below (g := gb328) (o := .cells #[.slice A0_0 l0_0.length c0_0, .slice A0_1 l0_1.length c0_1, .slice A0_2 l0_2.length c0_2, .int .i64 a0_3, .int .i64 a0_4, .int .i64 a0_5, .int .i64 a0_6, .int .i64 a0_7, .int .i64 a0_8] 26 (0, 0)) (by (with_reducible repeat (first | refine blk_drewN ?_ _ | refine blk_drew ?_ | refine blk_alloc ?_ _)); exact BK328.out) hb); have n1_ := Aside0.mk (below_step (by repeat (first | (with_reducible first | exact HB.out | apply below_alloc | apply pw_below_drewN | apply below_drew1 | refine below_set ?_ GE328.out) | exact HB.out)) hb); clear BK328; clear HB; have BK328 := n0_; have HB := n1_; clear n0_ n1_; (try clear hb); (try clear hb2); (try clear hk); (try clear hi)) | ((with_reducible refine gate_callee (f := 31) rfl ?_); refine goesL_ (some 83) rfl rfl Try.func31 (by kernel_rfl) rfl #[.int .i64 x15_2, .int .i64 t337] rfl (by (try simp only [List.map_toArray, List.map_cons, List.map_nil]); first | done | rfl | (simp only [List.length_drop, List.length_take]; rfl)) ?_; (with_reducible refine (dormouseref01_Min.calls x15_2 t337 t338 _ A25.out).mono ?_); rintro e w' ⟨rfl, ⟨nd, rfl⟩⟩; refine ⟨_, rfl, ?_⟩))
                      go_roundg kj19
                      case measure => have := HK1.out; have := HK2.out; have := HJ19.out; omega
                      case rel => exact ⟨(t338), (wrap64 (x17_2 + 1)), (by first | rfl | (simp; done) | (simp [*]; done)), (by first | rfl | (simp; done) | (simp [*]; done)), H', ⟨by have := HK1.out; have := HK2.out; have := HJ19.out; omega⟩, ⟨by (with_reducible repeat (first | refine blk_drewN ?_ _ | refine blk_drew ?_ | refine blk_alloc ?_ _)); exact BK328.out⟩, ⟨by repeat (first | (with_reducible first | exact HB.out | apply below_alloc | apply pw_below_drewN | apply below_drew1 | refine below_set ?_ GE328.out) | exact HB.out)⟩⟩
                    · replace c23 := Bool.eq_false_iff.mpr c23
                      subst c23
                      have H1 : (dormouseref09_Least.l1 kj19 l1 l2 l3 l4 a5 a6 x15_2 (wrap64 (x17_2 + 1)) l0_0 l0_1 l0_2 a0_3 a0_4 a0_5 a0_6 a0_7 a0_8) = some r := by rw [if_neg (show ¬ (false = true) by decide)] at H; exact H
                      clear H
                      have H := H1
                      clear H1
                      have H' := Aside0.mk H
                      clear H
                      go_wp2
                      go_roundg kj19
                      case measure => have := HK1.out; have := HK2.out; have := HJ19.out; omega
                      case rel => exact ⟨(x15_2), (wrap64 (x17_2 + 1)), (by first | rfl | (simp; done) | (simp [*]; done)), (by first | rfl | (simp; done) | (simp [*]; done)), H', ⟨by have := HK1.out; have := HK2.out; have := HJ19.out; omega⟩, ⟨by (with_reducible repeat (first | refine blk_drewN ?_ _ | refine blk_drew ?_ | refine blk_alloc ?_ _)); exact BK328.out⟩, ⟨by repeat (first | (with_reducible first | exact HB.out | apply below_alloc | apply pw_below_drewN | apply below_drew1 | refine below_set ?_ GE328.out) | exact HB.out)⟩⟩
              · rw [if_neg c19] at H
                exact absurd H (by simp)
            · rw [if_neg c17] at H
              have c17b0 : decide (x17_2 < (l1.length : Int)) = false := decide_eq_false c17
              clear c17
              obtain rfl := Option.some.inj H
              go_wp2
              go_ret
              exact ⟨by first | rfl | (simp [errW_none, errW_some] <;> rfl) | (simp [*, errW_none, errW_some] <;> rfl), by repeat (first | (with_reducible first | exact HB.out | apply below_alloc | apply pw_below_drewN | apply below_drew1 | refine below_set ?_ GE328.out) | exact HB.out)⟩
end Go.Proofs.Ytchlbnlhjllcbaa.F
namespace Go.Proofs.Ytchlbnlhjllcbaa.F
open Go.RowKit Go.Proofs.YtchlbnlhjllcbaaW.PrintWords Go.Proofs.YtchlbnlhjllcbaaW.PrintLast Go.Proofs.YtchlbnlhjllcbaaW.PrintMore
attribute [local go_sem] max2_int min2_int max_two min_two max_three min_three max_four min_four   -- for this text's walks alone
set_option linter.unusedVariables false
set_option linter.unusedSimpArgs false
def dormouseref09_Ready.f (k : Nat) (l0_0 : List (S58)) (l0_1 : List (S68)) (l0_2 : List (S71)) (a0_3 : Int) (a0_4 : Int) (a0_5 : Int) (a0_6 : Int) (a0_7 : Int) (a0_8 : Int) (l1 : List (S36)) (l2 : List Int) (a3 : Int) : Option (Int) := (dormouseref09_Least.f k l0_0 l0_1 l0_2 a0_3 a0_4 a0_5 a0_6 a0_7 a0_8 l1 l2 ([] : List (S38)) ([] : List (S56)) a3 a3).bind fun t340 => ((dormouseref01_Floor.f t340).bind fun t341 => ((dormouseref01_Max.f t341 0).bind fun t342 => ((dormouseref01_Min.f t342 1024).bind fun t343 => (some (wrap64 (a3 + t343))))))
set_option maxHeartbeats 8000000 in
set_option maxRecDepth 100000 in
theorem dormouseref09_Ready.calls (k : Nat) (A0_0 : Option Addr) (c0_0 : Nat) (l0_0 : List (S58)) (A0_1 : Option Addr) (c0_1 : Nat) (l0_1 : List (S68)) (A0_2 : Option Addr) (c0_2 : Nat) (l0_2 : List (S71)) (a0_3 : Int) (a0_4 : Int) (a0_5 : Int) (a0_6 : Int) (a0_7 : Int) (a0_8 : Int) (A1 : Option Addr) (c1 : Nat) (l1 : List (S36)) (A2 : Option Addr) (c2 : Nat) (l2 : List Int) (a3 : Int) (r : Int) (w : World) (hr0_0 : Kd.C k58 w A0_0 l0_0.length l0_0) (hc0_0 : l0_0.length ≤ c0_0) (hr0_1 : Kd.C k68 w A0_1 l0_1.length l0_1) (hc0_1 : l0_1.length ≤ c0_1) (hr0_2 : Kd.C k71 w A0_2 l0_2.length l0_2) (hc0_2 : l0_2.length ≤ c0_2) (hr1 : Kd.C k36 w A1 l1.length l1) (hc1 : l1.length ≤ c1) (hr2 : Kd.C (Kd.int .i64) w A2 l2.length l2) (hc2 : l2.length ≤ c2) (h : dormouseref09_Ready.f k l0_0 l0_1 l0_2 a0_3 a0_4 a0_5 a0_6 a0_7 a0_8 l1 l2 a3 = some r) :
    Calls Try.prog 17 #[.agg #[.slice A0_0 l0_0.length c0_0, .slice A0_1 l0_1.length c0_1, .slice A0_2 l0_2.length c0_2, .int .i64 a0_3, .int .i64 a0_4, .int .i64 a0_5, .int .i64 a0_6, .int .i64 a0_7, .int .i64 a0_8], .slice A1 l1.length c1, .slice A2 l2.length c2, .int .i64 a3] w fun e w' => e = .returned (.int .i64 r) ∧ Below w.heap.size w w' := by
  have hu26 := Try.underlying26
  have HR0_0 := Aside0.mk hr0_0
  have HC0_0 := Aside0.mk hc0_0
  clear hr0_0 hc0_0
  have HR0_1 := Aside0.mk hr0_1
  have HC0_1 := Aside0.mk hc0_1
  clear hr0_1 hc0_1
  have HR0_2 := Aside0.mk hr0_2
  have HC0_2 := Aside0.mk hc0_2
  clear hr0_2 hc0_2
  have HR1 := Aside0.mk hr1
  have HC1 := Aside0.mk hc1
  clear hr1 hc1
  have HR2 := Aside0.mk hr2
  have HC2 := Aside0.mk hc2
  clear hr2 hc2
  have HB := Aside0.mk (Below.refl w.heap.size w)
  have H : ((dormouseref09_Least.f k l0_0 l0_1 l0_2 a0_3 a0_4 a0_5 a0_6 a0_7 a0_8 l1 l2 ([] : List (S38)) ([] : List (S56)) a3 a3).bind fun t340 => ((dormouseref01_Floor.f t340).bind fun t341 => ((dormouseref01_Max.f t341 0).bind fun t342 => ((dormouseref01_Min.f t342 1024).bind fun t343 => (some (wrap64 (a3 + t343))))))) = some r := h
  clear h
  replace H := Option.bind_eq_some_iff.mp H
  obtain ⟨t340, A50, H⟩ := H
  replace H : ((dormouseref01_Floor.f t340).bind fun t341 => ((dormouseref01_Max.f t341 0).bind fun t342 => ((dormouseref01_Min.f t342 1024).bind fun t343 => (some (wrap64 (a3 + t343)))))) = some r := H
  have A5 := Aside0.mk A50
  clear A50
  replace H := Option.bind_eq_some_iff.mp H
  obtain ⟨t341, A60, H⟩ := H
  replace H : ((dormouseref01_Max.f t341 0).bind fun t342 => ((dormouseref01_Min.f t342 1024).bind fun t343 => (some (wrap64 (a3 + t343))))) = some r := H
  have A6 := Aside0.mk A60
  clear A60
  replace H := Option.bind_eq_some_iff.mp H
  obtain ⟨t342, A70, H⟩ := H
  replace H : ((dormouseref01_Min.f t342 1024).bind fun t343 => (some (wrap64 (a3 + t343)))) = some r := H
  have A7 := Aside0.mk A70
  clear A70
  replace H := Option.bind_eq_some_iff.mp H
  obtain ⟨t343, A80, H⟩ := H
  replace H : (some (wrap64 (a3 + t343))) = some r := H
  have A8 := Aside0.mk A80
  clear A80
  obtain rfl := Option.some.inj H
  go_enter Try.func17, Try.ntmps17
  go_wp2_with (first | ((with_reducible refine gate_dst (N := 4) rfl ?_); refine box_event ?hg (N := 4) ?hd (cs := #[.slice A0_0 l0_0.length c0_0, .slice A0_1 l0_1.length c0_1, .slice A0_2 l0_2.length c0_2, .int .i64 a0_3, .int .i64 a0_4, .int .i64 a0_5, .int .i64 a0_6, .int .i64 a0_7, .int .i64 a0_8]) (t := 26) ?hr ?_; (case hd => rfl); (case hg => rfl); (case hr => first | (go_simp; done) | (go_simp; rfl)); intro gb339 hg w9 hbox hb; have n0_ := Aside0.mk (below_step (by repeat (first | (with_reducible first | exact HB.out | apply below_alloc | apply pw_below_drewN | apply below_drew1) | exact HB.out)) hb); have n1_ := Aside0.mk (hbox); have n2_ := Aside0.mk ((by rw [hg]; exact (below_size (by repeat (first | (with_reducible first | exact HB.out | apply below_alloc | apply pw_below_drewN | apply below_drew1) | exact HB.out))) : w.heap.size ≤ gb339)); have n3_ := Aside0.mk ((by rw [hg]; exact (below_size (by repeat (first | (with_reducible first | exact HB.out | apply below_alloc | apply pw_below_drewN | apply below_drew1) | exact HB.out))) : w.heap.size ≤ gb339)); clear HB; have HB := n0_; have BK339 := n1_; have GW339 := n2_; have GE339 := n3_; clear n0_ n1_ n2_ n3_; clear hb hbox hg; have hcz10_0 : w9.cell? ⟨gb339, 0, none⟩ = some (.slice A0_0 l0_0.length c0_0) := (blk_cell BK339.out 0).trans rfl; have hcz10_1 : w9.cell? ⟨gb339, 1, none⟩ = some (.slice A0_1 l0_1.length c0_1) := (blk_cell BK339.out 1).trans rfl; have hcz10_2 : w9.cell? ⟨gb339, 2, none⟩ = some (.slice A0_2 l0_2.length c0_2) := (blk_cell BK339.out 2).trans rfl; have hcz10_3 : w9.cell? ⟨gb339, 3, none⟩ = some (.int .i64 a0_3) := (blk_cell BK339.out 3).trans rfl; have hcz10_4 : w9.cell? ⟨gb339, 4, none⟩ = some (.int .i64 a0_4) := (blk_cell BK339.out 4).trans rfl; have hcz10_5 : w9.cell? ⟨gb339, 5, none⟩ = some (.int .i64 a0_5) := (blk_cell BK339.out 5).trans rfl; have hcz10_6 : w9.cell? ⟨gb339, 6, none⟩ = some (.int .i64 a0_6) := (blk_cell BK339.out 6).trans rfl; have hcz10_7 : w9.cell? ⟨gb339, 7, none⟩ = some (.int .i64 a0_7) := (blk_cell BK339.out 7).trans rfl; have hcz10_8 : w9.cell? ⟨gb339, 8, none⟩ = some (.int .i64 a0_8) := (blk_cell BK339.out 8).trans rfl; have hfz10_0 := blk_frozen BK339.out 0; have hfz10_1 := blk_frozen BK339.out 1; have hfz10_2 := blk_frozen BK339.out 2; have hfz10_3 := blk_frozen BK339.out 3; have hfz10_4 := blk_frozen BK339.out 4; have hfz10_5 := blk_frozen BK339.out 5; have hfz10_6 := blk_frozen BK339.out 6; have hfz10_7 := blk_frozen BK339.out 7; have hfz10_8 := blk_frozen BK339.out 8) | ((with_reducible refine gate_callee (f := 30) rfl ?_); refine goesL_ (some 15) rfl rfl Try.func30 (by kernel_rfl) rfl #[.agg #[.slice A0_0 l0_0.length c0_0, .slice A0_1 l0_1.length c0_1, .slice A0_2 l0_2.length c0_2, .int .i64 a0_3, .int .i64 a0_4, .int .i64 a0_5, .int .i64 a0_6, .int .i64 a0_7, .int .i64 a0_8], .slice A1 l1.length c1, .slice A2 l2.length c2, .slice none 0 0, .slice none 0 0, .int .i64 a3, .int .i64 a3] rfl (by (try simp only [List.map_toArray, List.map_cons, List.map_nil]); first | done | rfl | (simp only [List.length_drop, List.length_take]; rfl)) ?_; (refine (dormouseref09_Least.calls k _ _ l0_0 _ _ l0_1 _ _ l0_2 a0_3 a0_4 a0_5 a0_6 a0_7 a0_8 _ _ l1 _ _ l2 _ _ ([] : List (S38)) _ _ ([] : List (S56)) a3 a3 t340 _ ?side1 ?side2 ?side3 ?side4 ?side5 ?side6 ?side7 ?side8 ?side9 ?side10 ?side11 ?side12 ?side13 ?side14 A5.out).mono ?_); (case side1 => repeat (first | exact (Kd.C_below HR0_0.out HB.out) | (with_reducible refine Kd.C_alloc ?_ _) | (with_reducible refine Kd.C_drewN ?_ _) | (with_reducible refine Kd.C_drew ?_))); (case side2 => exact HC0_0.out); (case side3 => repeat (first | exact (Kd.C_below HR0_1.out HB.out) | (with_reducible refine Kd.C_alloc ?_ _) | (with_reducible refine Kd.C_drewN ?_ _) | (with_reducible refine Kd.C_drew ?_))); (case side4 => exact HC0_1.out); (case side5 => repeat (first | exact (Kd.C_below HR0_2.out HB.out) | (with_reducible refine Kd.C_alloc ?_ _) | (with_reducible refine Kd.C_drewN ?_ _) | (with_reducible refine Kd.C_drew ?_))); (case side6 => exact HC0_2.out); (case side7 => repeat (first | exact (Kd.C_below HR1.out HB.out) | (with_reducible refine Kd.C_alloc ?_ _) | (with_reducible refine Kd.C_drewN ?_ _) | (with_reducible refine Kd.C_drew ?_))); (case side8 => exact HC1.out); (case side9 => repeat (first | exact (Kd.C_below HR2.out HB.out) | (with_reducible refine Kd.C_alloc ?_ _) | (with_reducible refine Kd.C_drewN ?_ _) | (with_reducible refine Kd.C_drew ?_))); (case side10 => exact HC2.out); (case side11 => exact Kd.C_nil _ _); (case side12 => exact Nat.le_refl _); (case side13 => exact Kd.C_nil _ _); (case side14 => exact Nat.le_refl _); rintro e w11 ⟨rfl, hb⟩; refine ⟨_, rfl, ?_⟩; have n0_ := Aside0.mk (blk_below (g := gb339) (o := .cells #[.slice A0_0 l0_0.length c0_0, .slice A0_1 l0_1.length c0_1, .slice A0_2 l0_2.length c0_2, .int .i64 a0_3, .int .i64 a0_4, .int .i64 a0_5, .int .i64 a0_6, .int .i64 a0_7, .int .i64 a0_8] 26 (0, 0)) (by (with_reducible repeat (first | refine blk_drewN ?_ _ | refine blk_drew ?_ | refine blk_alloc ?_ _)); exact BK339.out) hb); have n1_ := Aside0.mk (below_step (by repeat (first | (with_reducible first | exact HB.out | apply below_alloc | apply pw_below_drewN | apply below_drew1 | refine below_set ?_ GE339.out) | exact HB.out)) hb); clear BK339; clear HB; have BK339 := n0_; have HB := n1_; clear n0_ n1_; (try clear hb); (try clear hb2); (try clear hk); (try clear hi)) | ((with_reducible refine gate_callee (f := 29) rfl ?_); refine goesL_ (some 16) rfl rfl Try.func29 (by kernel_rfl) rfl #[.int .i64 t340] rfl (by (try simp only [List.map_toArray, List.map_cons, List.map_nil]); first | done | rfl | (simp only [List.length_drop, List.length_take]; rfl)) ?_; (with_reducible refine (dormouseref01_Floor.calls t340 t341 _ A6.out).mono ?_); rintro e w' ⟨rfl, ⟨nd, rfl⟩⟩; refine ⟨_, rfl, ?_⟩) | ((with_reducible refine gate_callee (f := 18) rfl ?_); refine goesL_ (some 19) rfl rfl Try.func18 (by kernel_rfl) rfl #[.int .i64 t341, .int .i64 0] rfl (by (try simp only [List.map_toArray, List.map_cons, List.map_nil]); first | done | rfl | (simp only [List.length_drop, List.length_take]; rfl)) ?_; (with_reducible refine (dormouseref01_Max.calls t341 0 t342 _ A7.out).mono ?_); rintro e w' ⟨rfl, ⟨nd, rfl⟩⟩; refine ⟨_, rfl, ?_⟩) | ((with_reducible refine gate_callee (f := 31) rfl ?_); refine goesL_ (some 20) rfl rfl Try.func31 (by kernel_rfl) rfl #[.int .i64 t342, .int .i64 1024] rfl (by (try simp only [List.map_toArray, List.map_cons, List.map_nil]); first | done | rfl | (simp only [List.length_drop, List.length_take]; rfl)) ?_; (with_reducible refine (dormouseref01_Min.calls t342 1024 t343 _ A8.out).mono ?_); rintro e w' ⟨rfl, ⟨nd, rfl⟩⟩; refine ⟨_, rfl, ?_⟩))
  go_ret
  exact ⟨by first | rfl | (simp [errW_none, errW_some] <;> rfl) | (simp [*, errW_none, errW_some] <;> rfl), by repeat (first | (with_reducible first | exact HB.out | apply below_alloc | apply pw_below_drewN | apply below_drew1 | refine below_set ?_ GE339.out) | exact HB.out)⟩
end Go.Proofs.Ytchlbnlhjllcbaa.F
namespace Go.Proofs.Ytchlbnlhjllcbaa.Sla
open Go.RowKit Go.Proofs.Ytchlbnlhjllcbaa.F Go.Proofs.Ytchlbnlhjllcbaa.Tbl Go.Proofs.Ytchlbnlhjllcbaa.Adm Go.Proofs.YtchlbnlhjllcbaaW.PrintWords Go.Proofs.YtchlbnlhjllcbaaW.PrintLast
set_option linter.unusedVariables false
section
variable {l0 : List S58} {l1 : List S68} {l2 : List S71} {idle crit sw swE sems hor : Int} {ts : List S36} {nx : List Int} {now a : Int}
/-- the document's Util is the program's -/
theorem ref_util {c t : Int} (ht : 1 ≤ t) (h0 : 0 ≤ c) (h1 : c ≤ 536870912) : dormouseref01_Util.f c t = some (Adm.part c t) := by
  unfold dormouseref01_Util.f dormouseref01_clamp.f
  rw [if_neg (by omega), if_neg (by omega), if_neg (by omega), Option.bind_some, if_neg (by omega)]
  rw [Adm.w64 (n := c * 4294967296) (by omega) (by omega)]
  have hn : 0 ≤ c * 4294967296 := by omega
  rw [Int.tdiv_eq_ediv_of_nonneg hn, Int.tmod_eq_emod_of_nonneg hn]
  have h5 := Int.ediv_nonneg hn (show 0 ≤ t by omega)
  have h6 := Int.ediv_le_self t hn
  rw [Adm.w64 (n := c * 4294967296 / t) (by omega) (by omega)]
  have e := ceil_eq (n := c * 4294967296) ht
  unfold Adm.part
  by_cases hm : c * 4294967296 % t = 0
  · rw [if_pos hm]; rw [if_pos hm] at e; congr 1; omega
  · rw [if_neg hm, Adm.w64 (by omega) (by omega)]; rw [if_neg hm] at e; congr 1
theorem ref_part (h : TableOk l0 l1 l2 idle crit sw swE sems hor) {t : S36} (ht : TaskOk l2.length sems hor t) (level : Int) {k : Nat} (hk : 0 < k) : dormouseref09_Part.f k l0 l1 l2 idle crit sw swE sems hor t.f0 t.f1 t.f2 t.f3 level = some (partOf l0 sw level t) := by
  obtain ⟨k, rfl⟩ : ∃ q, k = q + 1 := ⟨k - 1, by omega⟩
  have hp := ht.period
  have hm := most_bd h ht level
  have hd := head_of h
  have zero : ¬ (0 ≤ level ∧ level < l0.length) → dormouseref01_Util.f 0 t.f0 = some (partOf l0 sw level t) := by
    intro hl
    rw [ref_util hp.1 (by omega) (by omega)]
    unfold partOf most; rw [if_neg hl]
  unfold dormouseref09_Part.f
  by_cases c1 : level < 0
  · rw [if_pos c1]; simp only [dormouseref09_Part.j0]
    rw [if_pos (by trivial), zero (by omega), Option.bind_some]
  · rw [if_neg c1]; simp only [dormouseref09_Part.j0]
    by_cases c2 : level ≥ (l0.length : Int)
    · rw [if_pos (decide_eq_true c2), zero (by omega), Option.bind_some]
    · rw [if_neg (by simpa using c2), if_pos (by omega), if_pos (by omega)]
      have hl := level_bd h (n := level) (by omega) (by omega)
      have e : most l0 sw level t = t.f1 * (rd_T58 l0 level).f0 + 2 * sw := by unfold most; rw [if_pos (by omega)]
      have hmul : 0 ≤ t.f1 * (rd_T58 l0 level).f0 := Int.mul_nonneg (by have := ht.cycles; omega) (by omega)
      rw [e] at hm
      rw [Adm.w64 (n := t.f1 * (rd_T58 l0 level).f0) (by omega) (by omega), Adm.w64 (n := 2 * sw) (by omega) (by omega), Adm.w64 (by omega) (by omega), ref_util hp.1 hm.1 (by omega), Option.bind_some]
      unfold partOf; rw [e]
theorem ref_max (x y : Int) : dormouseref01_Max.f x y = some (mx y x) := by
  unfold dormouseref01_Max.f mx
  by_cases h : x > y
  · rw [if_pos h, if_pos (by omega)]
  · rw [if_neg h, if_neg (by omega)]
theorem ref_min (x y : Int) : dormouseref01_Min.f x y = some (mn x y) := by
  unfold dormouseref01_Min.f mn
  by_cases h : x < y
  · rw [if_pos h]; split <;> congr 1 <;> omega
  · rw [if_neg h]; split <;> congr 1 <;> omega
theorem ref_clamp (n lo hi : Int) (h : lo ≤ hi) : dormouseref01_clamp.f n lo hi = some (mn (mx n lo) hi) := by
  unfold dormouseref01_clamp.f mn mx
  by_cases h1 : n < lo
  · rw [if_pos h1]; congr 1; repeat' split
    all_goals omega
  · rw [if_neg h1]
    by_cases h2 : n > hi
    · rw [if_pos h2]; congr 1; repeat' split
      all_goals omega
    · rw [if_neg h2]; congr 1; repeat' split
      all_goals omega
theorem ref_times (u n : Int) : dormouseref01_Times.f u n = some (mn (mx u 0) 17179869184 * mn (mx n 0) 134217728) := by
  unfold dormouseref01_Times.f
  have a1 : 0 ≤ mn (mx u 0) 17179869184 ∧ mn (mx u 0) 17179869184 ≤ 17179869184 := by unfold mn mx; split <;> split <;> omega
  have b1 : 0 ≤ mn (mx n 0) 134217728 ∧ mn (mx n 0) 134217728 ≤ 134217728 := by unfold mn mx; split <;> split <;> omega
  have c1 := Int.mul_nonneg a1.1 b1.1
  have c2 : mn (mx u 0) 17179869184 * mn (mx n 0) 134217728 ≤ 17179869184 * 134217728 := Int.mul_le_mul a1.2 b1.2 b1.1 (by omega)
  rw [ref_clamp _ _ _ (by omega), Option.bind_some, ref_clamp _ _ _ (by omega), Option.bind_some, Adm.w64 (by omega) (by omega)]
theorem ref_whole {n : Int} : dormouseref01_Whole.f n = some (mn (mx n (-1073741824)) 1073741824 * 4294967296) := by
  unfold dormouseref01_Whole.f
  have a1 : -1073741824 ≤ mn (mx n (-1073741824)) 1073741824 ∧ mn (mx n (-1073741824)) 1073741824 ≤ 1073741824 := by unfold mn mx; split <;> split <;> omega
  rw [ref_clamp _ _ _ (by omega), Option.bind_some, Adm.w64 (by omega) (by omega)]
theorem zsum_bd {m : Int} (h0 : 0 ≤ now) (h1 : m ≤ 4194304) : ∀ (l : List S36) (i : Nat), 0 ≤ zsum l0 sw now m nx l i ∧ zsum l0 sw now m nx l i ≤ l.length * 72057594037927936
  | [], i => by simp [zsum]
  | t :: l, i => by
    have a := zt_bd (l0 := l0) (sw := sw) h0 h1 t (rd nx i)
    have b := zsum_bd h0 h1 l (i + 1)
    unfold zsum
    rw [List.length_cons]
    omega
theorem ref_tasks (g : GoodV l0 l1 l2 idle crit sw swE sems hor ts nx now a) {m : Int} (m0 : 0 ≤ m) (h1 : m ≤ 4194304) (d : Nat) : ∀ (i k : Nat) (s : Int), i + d = ts.length → d + 1 < k →
    s ≤ 36028797018963968 → -36028797018963968 - i * 72057594037927936 ≤ s → dormouseref09_At.l1 k ts nx now m s i l0 l1 l2 idle crit sw swE sems hor = some (s - zsum l0 sw now m nx (ts.drop i) i) := by
  have few := g.few
  have hl := g.len
  have hn := g.now
  induction d with
  | zero =>
    intro i k s hi hk _ _
    obtain ⟨k, rfl⟩ : ∃ q, k = q + 1 := ⟨k - 1, by omega⟩
    simp only [dormouseref09_At.l1]
    rw [if_neg (by omega), List.drop_eq_nil_of_le (by omega)]
    simp [zsum]
  | succ d ih =>
    intro i k s hi hk s0 s1
    obtain ⟨k, rfl⟩ : ∃ q, k = q + 1 := ⟨k - 1, by omega⟩
    have hil : i < ts.length := by omega
    have hxi := g.next i hil
    have e : ts.drop i = rd_T36 ts i :: ts.drop (i + 1) := by
      rw [List.drop_eq_getElem_cons hil]; unfold rd_T36; rw [Int.toNat_natCast, List.getD_eq_getElem?_getD, List.getElem?_eq_getElem hil]; rfl
    have bd := zt_bd (l0 := l0) (sw := sw) hn.1 h1 (rd_T36 ts i) (rd nx i)
    have hz : zsum l0 sw now m nx (ts.drop i) i = zt l0 sw now m (rd_T36 ts i) (rd nx i) + zsum l0 sw now m nx (ts.drop (i + 1)) (i + 1) := by rw [e]; rfl
    simp only [dormouseref09_At.l1]
    rw [if_pos (by omega), if_pos (by omega), hz, Adm.w64 (n := (i : Int) + 1) (by omega) (by omega), show (i : Int) + 1 = ((i + 1 : Nat) : Int) from by omega]
    by_cases c : (rd_T36 ts i).f0 > 0
    · have tk : TaskOk l2.length sems hor (rd_T36 ts i) := by
        rcases g.task i hil with y | y
        · have := y.1; omega
        · exact y
      have mb : 0 ≤ mx now (rd nx i) ∧ mx now (rd nx i) ≤ 2097152 := by unfold mx; split <;> omega
      have ez : zt l0 sw now m (rd_T36 ts i) (rd nx i) = mn (mx (partOf l0 sw 0 (rd_T36 ts i)) 0) 17179869184 * mn (mx (m - mx now (rd nx i)) 0) 134217728 := by unfold zt; rw [if_pos c]
      rw [if_pos c, ref_part g.table tk 0 (by omega), Option.bind_some]
      unfold dormouseref09_from.f
      rw [if_pos (by omega), if_pos (by omega), ref_max, Option.bind_some, Option.bind_some, ref_times, Option.bind_some, Adm.w64 (n := m - mx now (rd nx i)) (by omega) (by omega), ← ez, Adm.w64 (n := s - zt l0 sw now m (rd_T36 ts i) (rd nx i)) (by omega) (by omega)]
      rw [ih (i + 1) k _ (by omega) (by omega) (by omega) (by omega)]; congr 1; omega
    · have ez : zt l0 sw now m (rd_T36 ts i) (rd nx i) = 0 := by unfold zt; rw [if_neg c]
      rw [if_neg c, ez, ih (i + 1) k _ (by omega) (by omega) (by omega) (by omega)]; congr 1; omega
theorem ref_at (g : GoodV l0 l1 l2 idle crit sw swE sems hor ts nx now a) {m : Int} (m0 : 0 ≤ m) (h1 : m ≤ 4194304) {k : Nat} (hk : 80 < k) : dormouseref09_At.f k l0 l1 l2 idle crit sw swE sems hor ts nx [] [] now m = some (atV l0 sw now nx ts m) := by
  have hn := g.now
  have few := g.few
  obtain ⟨k, rfl⟩ : ∃ q, k = q + 1 := ⟨k - 1, by omega⟩
  unfold dormouseref09_At.f dormouseref09_Hinders.f
  rw [if_pos (show ([] : List S56).length = 0 from rfl), Option.bind_some]
  simp only [dormouseref09_At.l0]
  rw [if_neg (by simp), Int.sub_zero, Adm.w64 (n := m - now) (by omega) (by omega), Adm.w64 (n := m - now) (by omega) (by omega), ref_whole, Option.bind_some]
  have b : -8388608 ≤ mn (mx (m - now) (-1073741824)) 1073741824 ∧ mn (mx (m - now) (-1073741824)) 1073741824 ≤ 8388608 := by unfold mn mx; split <;> split <;> omega
  have := ref_tasks g m0 h1 ts.length 0 k (mn (mx (m - now) (-1073741824)) 1073741824 * 4294967296) (by omega) (by omega) (by omega) (by omega)
  rw [List.drop_zero] at this
  exact this
theorem ref_moments (g : GoodV l0 l1 l2 idle crit sw swE sems hor ts nx now a) (d : Nat) : ∀ (i k : Nat) (x : Int), i + d = ts.length → 82 + 2 * d < k →
    dormouseref09_Least.l1 k ts nx [] [] now now x i l0 l1 l2 idle crit sw swE sems hor = some (fl (atV l0 sw now nx ts) x (ms now nx (ts.drop i) i)) := by
  have few := g.few
  have hl := g.len
  have hn := g.now
  have hh := head_of g.table
  induction d with
  | zero =>
    intro i k x hi hk
    obtain ⟨k, rfl⟩ : ∃ q, k = q + 1 := ⟨k - 1, by omega⟩
    simp only [dormouseref09_Least.l1]
    rw [if_neg (by omega), List.drop_eq_nil_of_le (by omega)]; rfl
  | succ d ih =>
    intro i k x hi hk
    obtain ⟨k, rfl⟩ : ∃ q, k = q + 1 := ⟨k - 1, by omega⟩
    obtain ⟨k, rfl⟩ : ∃ q, k = q + 1 := ⟨k - 1, by omega⟩
    have hil : i < ts.length := by omega
    have hxi := g.next i hil
    have e : ts.drop i = rd_T36 ts i :: ts.drop (i + 1) := by
      rw [List.drop_eq_getElem_cons hil]; unfold rd_T36; rw [Int.toNat_natCast, List.getD_eq_getElem?_getD, List.getElem?_eq_getElem hil]; rfl
    have mb : now ≤ mx now (rd nx i) ∧ mx now (rd nx i) ≤ 2097152 := by unfold mx; split <;> omega
    have pb : (rd_T36 ts i).f0 > 0 → (rd_T36 ts i).f0 ≤ 16384 := fun c => by
      rcases g.task i hil with y | y
      · have := y.1; omega
      · have := y.period; omega
    simp only [dormouseref09_Least.l1]
    unfold dormouseref09_from.f
    rw [if_pos (by omega), if_pos (by omega), if_pos (by omega), ref_max, Option.bind_some, Option.bind_some, if_pos (by omega), e, ms_cons]
    by_cases c : (rd_T36 ts i).f0 > 0
    · have p := pb c
      rw [if_pos c, if_pos c, Adm.w64 (n := mx now (rd nx i) + (rd_T36 ts i).f0) (by omega) (by omega), decide_eq_true (show mx now (rd nx i) + (rd_T36 ts i).f0 ≥ now by omega)]
      simp only [dormouseref09_Least.j2]
      rw [if_pos trivial, ref_at g (by omega) (by omega) (by omega), Option.bind_some, ref_min, Option.bind_some, Adm.w64 (n := (i : Int) + 1) (by omega) (by omega), show (i : Int) + 1 = ((i + 1 : Nat) : Int) from by omega, ih (i + 1) k _ (by omega) (by omega)]
      rfl
    · rw [if_neg c, if_neg c]
      simp only [dormouseref09_Least.j2]
      rw [if_neg (by decide), Adm.w64 (n := (i : Int) + 1) (by omega) (by omega), show (i : Int) + 1 = ((i + 1 : Nat) : Int) from by omega, ih (i + 1) k _ (by omega) (by omega)]
theorem ref_least (g : GoodV l0 l1 l2 idle crit sw swE sems hor ts nx now a) {k : Nat} (hk : 1000 < k) : dormouseref09_Least.f k l0 l1 l2 idle crit sw swE sems hor ts nx [] [] now now = some (least l0 sw now nx ts) := by
  have few := g.few
  obtain ⟨k, rfl⟩ : ∃ q, k = q + 1 := ⟨k - 1, by omega⟩
  unfold dormouseref09_Least.f
  rw [ref_whole, Option.bind_some]
  simp only [dormouseref09_Least.l0]
  rw [if_neg (by simp)]
  have := ref_moments g ts.length 0 k (mn (mx 1073741824 (-1073741824)) 1073741824 * 4294967296) (by omega) (by omega)
  rw [List.drop_zero] at this
  exact this
theorem least_bd (g : GoodV l0 l1 l2 idle crit sw swE sems hor ts nx now a) : -4700000000000000000 ≤ least l0 sw now nx ts ∧ least l0 sw now nx ts ≤ 4611686018427387904 := by
  have few := g.few
  unfold least
  refine ⟨le_fl _ _ _ (by omega) (fun d hd => ?_), (fl_le _ _ _).1⟩
  have b := g_ms g d hd
  have z := zsum_bd (l0 := l0) (sw := sw) (nx := nx) g.now.1 b.2 ts 0
  have hn := g.now
  have c : 0 ≤ mn (mx (d - now) (-1073741824)) 1073741824 := by unfold mn mx; split <;> split <;> omega
  unfold atV
  omega
theorem ref_floor {x : Int} (h0 : -4700000000000000000 ≤ x) (h1 : x ≤ 4700000000000000000) : dormouseref01_Floor.f x = some (x / 4294967296) := by
  unfold dormouseref01_Floor.f
  have e : Int.tdiv x 4294967296 = if 0 ≤ x then x / 4294967296 else -((-x) / 4294967296) := by
    split
    · exact Int.tdiv_eq_ediv_of_nonneg (by assumption)
    · have := Int.neg_tdiv (a := -x) (b := 4294967296)
      rw [Int.neg_neg] at this
      rw [this, Int.tdiv_eq_ediv_of_nonneg (by omega)]
  rw [e]
  split
  · rw [Adm.w64 (n := x / 4294967296) (by omega) (by omega), Adm.w64 (n := x / 4294967296 * 4294967296) (by omega) (by omega), if_neg (by omega)]
  · rw [Adm.w64 (n := -((-x) / 4294967296)) (by omega) (by omega), Adm.w64 (n := -((-x) / 4294967296) * 4294967296) (by omega) (by omega)]
    by_cases c : -((-x) / 4294967296) * 4294967296 > x
    · rw [if_pos c, Adm.w64 (by omega) (by omega)]; congr 1; omega
    · rw [if_neg c]; congr 1; omega
theorem ref_ready (g : GoodV l0 l1 l2 idle crit sw swE sems hor ts nx now a) {k : Nat} (hk : 1000 < k) : dormouseref09_Ready.f k l0 l1 l2 idle crit sw swE sems hor ts nx now = some (now + nap (least l0 sw now nx ts)) := by
  have hn := g.now
  have b := nap_bd (least l0 sw now nx ts)
  have c := least_bd g
  unfold dormouseref09_Ready.f
  rw [ref_least g hk, Option.bind_some, ref_floor c.1 (by omega), Option.bind_some, ref_max, Option.bind_some, ref_min, Option.bind_some]
  have e : mn (mx 0 (least l0 sw now nx ts / 4294967296)) 1024 = nap (least l0 sw now nx ts) := by
    unfold nap mn mx; repeat' split
    all_goals omega
  rw [e, Adm.w64 (by omega) (by omega)]
end
end Go.Proofs.Ytchlbnlhjllcbaa.Sla
namespace Go.Proofs.Ytchlbnlhjllcbaa.Sla
open Go.RowKit Go.Proofs.Ytchlbnlhjllcbaa.F Go.Proofs.Ytchlbnlhjllcbaa.Tbl Go.Proofs.Ytchlbnlhjllcbaa.Adm Go.Proofs.Ytchlbnlhjllcbaa.Opn Go.Proofs.YtchlbnlhjllcbaaW.PrintWords Go.Proofs.YtchlbnlhjllcbaaW.PrintLast Go.Proofs.YtchlbnlhjllcbaaW.PrintMore
set_option linter.unusedVariables false
attribute [local go_sem] max2_int min2_int max_two min_two max_three min_three max_four min_four
set_option maxHeartbeats 3200000 in
set_option maxRecDepth 100000 in
theorem rready_walk {w : World} (x : VView) (cs : List Value) (h : kView.K w x cs) (_ok : True) :
    Calls Try.prog 4 #[.agg cs.toArray] w fun e w' => e = .returned (.bool true) ∧ Below w.heap.size w w' := by
  obtain ⟨A0, c0, A1, c1, A2, c2, A3, c3, A4, c4, A5, c5, A6, c6, rfl, ⟨g0, r0⟩, ⟨g1, r1⟩, ⟨g2, r2⟩, ⟨g3, r3⟩, ⟨g4, r4⟩, ⟨g5, r5⟩, ⟨g6, r6⟩⟩ := view_open h
  clear h
  obtain ⟨⟨l0, l1, l2, idle, crit, sw, swE, sems, hor⟩, ts, nx, js, hs, now, at_⟩ := x
  dsimp only at *
  have V := VM.start (idle := idle) (crit := crit) (sw := sw) (swE := swE) (sems := sems) (hor := hor) (jv := .slice A5 js.length c5) (hv := .slice A6 hs.length c6) (now := now) (at_ := at_) g0 r0 g1 r1 g2 r2 g3 r3 g4 r4
  go_enter Try.func4, Try.ntmps4
  go_upto_region 1 with (fail)
  generalize w.alloc (.cells #[.slice A0 l0.length c0, .slice A1 l1.length c1, .slice A2 l2.length c2, .int .i64 idle, .int .i64 crit, .int .i64 sw, .int .i64 swE, .int .i64 sems, .int .i64 hor, .slice A3 ts.length c3, .slice A4 nx.length c4, .slice A5 js.length c5, .slice A6 hs.length c6, .int .i64 now, .int .i64 at_] 32 (0, 0)) = w0 at V ⊢
  obtain ⟨x0, x1, x2, x3, x4, x5, x6, x7, x8, x9, x10, x11, x12, x13, x14⟩ := V.x
  have f11 := blk_frozen V.bv 11
  have f12 := blk_frozen V.bv 12
  go_upto_region 2 with (fail)
  clear x0 x1 x2 x3 x4 x5 x6 x7 x8 x9 x10 x11 x12 x13 x14
  clear f11 f12
  replace V := (V.setj (.slice none 0 0)).seth (.slice none 0 0)
  generalize (w0.setCell ⟨w.heap.size, 11, none⟩ (.slice none 0 0)).setCell ⟨w.heap.size, 12, none⟩ (.slice none 0 0) = w1 at V ⊢
  have GT := Aside0.mk (good17_some (l0 := l0) (l1 := l1) (l2 := l2) (idle := idle) (crit := crit) (sw := sw) (swE := swE) (sems := sems) (hor := hor) ts nx now at_ (show 2000 < 3001 by decide))
  obtain ⟨x0, x1, x2, x3, x4, x5, x6, x7, x8, x9, x10, x11, x12, x13, x14⟩ := V.x
  go_wp2_with fail
  clear x0 x1 x2 x3 x4 x5 x6 x7 x8 x9 x10 x11 x12 x13 x14
  by_cases hg : GoodV l0 l1 l2 idle crit sw swE sems hor ts nx now at_
  · rw [goodB_yes hg] at GT
    refine (dormouselaw17_good.calls 3001 A0 c0 l0 A1 c1 l1 A2 c2 l2 idle crit sw swE sems hor A3 c3 ts A4 c4 nx none 0 [] none 0 [] now at_ true _ V.R0 V.g0 V.R1 V.g1 V.R2 V.g2 V.R3 V.g3 V.R4 V.g4 (Kd.C_nil _ _) (Nat.le_refl _) (Kd.C_nil _ _) (Nat.le_refl _) GT.out).mono ?_; rintro e w2 ⟨rfl, hb⟩
    replace V := V.step hb
    clear hb
    have HG := Aside0.mk hg
    clear hg GT
    have QA := Aside0.mk (ready_some HG.out)
    have QB := Aside0.mk (ref_ready HG.out (show 1000 < 1001 by decide))
    generalize nap (least l0 sw now nx ts) = na at QA QB
    obtain ⟨x0, x1, x2, x3, x4, x5, x6, x7, x8, x9, x10, x11, x12, x13, x14⟩ := V.x
    go_wp2_with fail
    go_region_held3 (fun w' => w'.cell? ⟨w.heap.size, 0, none⟩ = some (.slice A0 l0.length c0) ∧ w'.cell? ⟨w.heap.size, 1, none⟩ = some (.slice A1 l1.length c1) ∧ w'.cell? ⟨w.heap.size, 2, none⟩ = some (.slice A2 l2.length c2) ∧ w'.cell? ⟨w.heap.size, 3, none⟩ = some (.int .i64 idle) ∧ w'.cell? ⟨w.heap.size, 4, none⟩ = some (.int .i64 crit) ∧ w'.cell? ⟨w.heap.size, 5, none⟩ = some (.int .i64 sw) ∧ w'.cell? ⟨w.heap.size, 6, none⟩ = some (.int .i64 swE) ∧ w'.cell? ⟨w.heap.size, 7, none⟩ = some (.int .i64 sems) ∧ w'.cell? ⟨w.heap.size, 8, none⟩ = some (.int .i64 hor) ∧ w'.cell? ⟨w.heap.size, 9, none⟩ = some (.slice A3 ts.length c3) ∧ w'.cell? ⟨w.heap.size, 10, none⟩ = some (.slice A4 nx.length c4) ∧ w'.cell? ⟨w.heap.size, 11, none⟩ = some (.slice none 0 0) ∧ w'.cell? ⟨w.heap.size, 12, none⟩ = some (.slice none 0 0) ∧ w'.cell? ⟨w.heap.size, 13, none⟩ = some (.int .i64 now) ∧ w'.cell? ⟨w.heap.size, 14, none⟩ = some (.int .i64 at_)) (first | exact ⟨x0, x1, x2, x3, x4, x5, x6, x7, x8, x9, x10, x11, x12, x13, x14⟩)
      (first
        | (go_at_call 15; (with_reducible refine (dormouselaw17_answers.calls true _ answers_yes).mono ?_); rintro e w5 ⟨rfl, hb⟩; replace hb := below_undrew hb; replace V := V.step hb; clear hb x0 x1 x2 x3 x4 x5 x6 x7 x8 x9 x10 x11 x12 x13 x14; obtain ⟨x0, x1, x2, x3, x4, x5, x6, x7, x8, x9, x10, x11, x12, x13, x14⟩ := V.x)
        | (go_at_call 16; (with_reducible refine (rest_Ready.calls A0 c0 l0 A1 c1 l1 A2 c2 l2 idle crit sw swE sems hor A3 c3 ts A4 c4 nx now _ _ V.R0 V.g0 V.R1 V.g1 V.R2 V.g2 V.R3 V.g3 V.R4 V.g4 QA.out).mono ?_); rintro e w6 ⟨rfl, hb⟩; replace V := V.step hb; clear hb x0 x1 x2 x3 x4 x5 x6 x7 x8 x9 x10 x11 x12 x13 x14; obtain ⟨x0, x1, x2, x3, x4, x5, x6, x7, x8, x9, x10, x11, x12, x13, x14⟩ := V.x)
        | (go_at_call 17; (with_reducible refine (dormouseref09_Ready.calls 1001 A0 c0 l0 A1 c1 l1 A2 c2 l2 idle crit sw swE sems hor A3 c3 ts A4 c4 nx now _ _ V.R0 V.g0 V.R1 V.g1 V.R2 V.g2 V.R3 V.g3 V.R4 V.g4 QB.out).mono ?_); rintro e w7 ⟨rfl, hb⟩; replace V := V.step hb; clear hb x0 x1 x2 x3 x4 x5 x6 x7 x8 x9 x10 x11 x12 x13 x14; obtain ⟨x0, x1, x2, x3, x4, x5, x6, x7, x8, x9, x10, x11, x12, x13, x14⟩ := V.x))
    clear x0 x1 x2 x3 x4 x5 x6 x7 x8 x9 x10 x11 x12 x13 x14
    go_wp2_with fail
    go_ret
    exact ⟨by simp, V.hb⟩
  · rw [goodB_no hg] at GT
    refine (dormouselaw17_good.calls 3001 A0 c0 l0 A1 c1 l1 A2 c2 l2 idle crit sw swE sems hor A3 c3 ts A4 c4 nx none 0 [] none 0 [] now at_ false _ V.R0 V.g0 V.R1 V.g1 V.R2 V.g2 V.R3 V.g3 V.R4 V.g4 (Kd.C_nil _ _) (Nat.le_refl _) (Kd.C_nil _ _) (Nat.le_refl _) GT.out).mono ?_; rintro e w2 ⟨rfl, hb⟩
    replace V := V.step hb
    clear hb
    clear hg GT
    go_wp2_with fail
    refine (dormouselaw17_answers.calls true _ answers_yes).mono ?_; rintro e w3 ⟨rfl, hb⟩
    replace V := V.step hb
    clear hb
    go_wp2_with fail
    go_ret
    exact ⟨rfl, V.hb⟩
end Go.Proofs.Ytchlbnlhjllcbaa.Sla
namespace Go.Proofs.Ytchlbnlhjllcbaa.restReady
open Go.ChangeShapes Go.WideShapes Go.ChangeAt Go.RowKit Go.Proofs.Ytchlbnlhjllcbaa.Opn
set_option linter.unusedVariables false
theorem own : ownKnob Try.prog.godebug = none := by kernel_rfl
theorem laidOut : laidOutB Try.prog = true := by kernel_rfl
set_option maxRecDepth 100000 in
theorem lifted (os : Os) (started : os.Started) (H : Type) (enc : TypeId × Value → H) :
    ReturnsInHanded {} Try.checked os 4 .any (Rows.restReadySpec.pre6 enc Try.prog Try.f4 Rows.restReadyRow.domain false) (Rows.restReadySpec.post enc Try.prog Try.f4 false true false false) := by
  refine returnsInHanded_of_change_sized (C := Try.checked) own started (by kernel_rfl) Try.func4
    (ChangeSpec.witness6 (enc := enc) (C := Try.checked) false ⟨#[], #[.agg #[.slice none 0 0, .slice none 0 0, .slice none 0 0, .int .i64 0, .int .i64 0, .int .i64 0, .int .i64 0, .int .i64 0, .int .i64 0, .slice none 0 0, .slice none 0 0, .slice none 0 0, .slice none 0 0, .int .i64 0, .int .i64 0]], []⟩ 8 (by kernel_rfl) (by kernel_rfl) (by kernel_rfl) (by kernel_rfl)) ?_
  intro W base args ds gs before hval0 hW hcnd hsz0 _
  have hval : ∀ (j : Nat) t v, Try.f4.params[j]? = some t → args[j]? = some v → Value.okWide Try.prog W .any base t v := hval0
  have hW' := hW
  obtain ⟨p, q, hA0, hV, rfl, hfz, hnd⟩ := hW
  have hA : DataW.TrodAll enc Try.prog W 0 (fun _ => true) true Try.f4.params.toList args.toList ds p := hA0
  rw [Try.params4] at hA hval
  obtain ⟨v0, vs0, d0, ds0, p0, q0, hargs, rfl, rfl, h0, r0⟩ := trodAll_cons hA
  obtain ⟨rfl, rfl, rfl⟩ := trodAll_nil r0
  obtain rfl : args = #[v0] := by cases args; simp_all
  obtain ⟨rfl, rfl⟩ := trodVars_none hV
  have k0 := h0
  have lt0 : ∀ x ∈ p0, x.block < W.heap.size := by obtain ⟨m, hm⟩ := k0; exact DataW.trod_lt m _ _ _ hm
  obtain ⟨x0, g0, ok0⟩ := Opens.get oView h0
  obtain ⟨cs0, rfl, e0⟩ := agg_of Try.underlying32 (hval 0 32 v0 rfl rfl)
  rw [e0] at g0
  clear hA0 hval0 hsz0
  refine (Sla.rready_walk (w := W) x0 cs0 g0 ok0).mono fun e W' ⟨he, bel⟩ => ?_
  subst he
  exact ⟨_, rfl, _, _, _, [], _, [], hW', trodAll_mk1 (shut_bool Try.underlying4 _), (trodAll_cons_mk (Below.trod laidOut (by kernel_rfl) (of_decide_eq_true (by kernel_rfl)) k0 bel lt0) trodAll_mk0), rfl, bel.frame _, fun h => by cases h⟩
theorem over : Rows.restReadyRow.holds Try.pinned (OpenSpec.ofChange Rows.restReadySpec) :=
  OpenClaim.holds_of_wide 4 Try.f4 rfl rfl rfl rfl rfl rfl rfl ⟨rfl, rfl, rfl, rfl, rfl⟩ rfl rfl rfl rfl rfl (by kernel_rfl) Try.func4 (by kernel_rfl)
    (of_decide_eq_true (by kernel_rfl)) (by unfold Func.isWrapper; first | (rw [if_pos (by decide +kernel)]; kernel_rfl) | (rw [if_neg (by decide +kernel)]; exact ⟨rfl, rfl⟩))
    (fun os started H enc _ => lifted os started H enc)
theorem proved : Rows.RestReadySaid := over
end Go.Proofs.Ytchlbnlhjllcbaa.restReady
namespace Go.Proofs.Ytchlbnlhjllcbaa
/-- The row, under a short name, for the claim. -/
theorem restReady_holds : Rows.RestReadySaid := restReady.proved
end Go.Proofs.Ytchlbnlhjllcbaa
