/- Part 4 of the law's texts: what its row hangs on. -/
import Derived.Test.YtchlbnlhjllcbaaZRdy3
namespace Go.Proofs.Ytchlbnlhjllcbaa.F
noncomputable section
open Go.RowKit Go.Proofs.YtchlbnlhjllcbaaW.PrintWords Go.Proofs.YtchlbnlhjllcbaaW.PrintLast Go.Proofs.YtchlbnlhjllcbaaW.PrintMore
attribute [local go_sem] max2_int min2_int max_two min_two max_three min_three max_four min_four   -- for this text's walks alone
set_option linter.unusedVariables false
set_option linter.unusedSimpArgs false
def dormouselaw17_good.f (k : Nat) (l0_0 : List (S58)) (l0_1 : List (S68)) (l0_2 : List (S71)) (a0_3 : Int) (a0_4 : Int) (a0_5 : Int) (a0_6 : Int) (a0_7 : Int) (a0_8 : Int) (l0_9 : List (S36)) (l0_10 : List Int) (l0_11 : List (S38)) (l0_12 : List (S56)) (a0_13 : Int) (a0_14 : Int) : Option (Bool) := if (l0_11.length : Int) = 0 then (if (l0_12.length : Int) = 0 then ((dormouseref09_Good.f k l0_0 l0_1 l0_2 a0_3 a0_4 a0_5 a0_6 a0_7 a0_8 l0_9 l0_10 l0_11 l0_12 a0_13 a0_14).bind fun t285 => (some t285)) else (some false)) else (some false)
set_option maxHeartbeats 8000000 in
set_option maxRecDepth 100000 in
theorem dormouselaw17_good.calls (k : Nat) (A0_0 : Option Addr) (c0_0 : Nat) (l0_0 : List (S58)) (A0_1 : Option Addr) (c0_1 : Nat) (l0_1 : List (S68)) (A0_2 : Option Addr) (c0_2 : Nat) (l0_2 : List (S71)) (a0_3 : Int) (a0_4 : Int) (a0_5 : Int) (a0_6 : Int) (a0_7 : Int) (a0_8 : Int) (A0_9 : Option Addr) (c0_9 : Nat) (l0_9 : List (S36)) (A0_10 : Option Addr) (c0_10 : Nat) (l0_10 : List Int) (A0_11 : Option Addr) (c0_11 : Nat) (l0_11 : List (S38)) (A0_12 : Option Addr) (c0_12 : Nat) (l0_12 : List (S56)) (a0_13 : Int) (a0_14 : Int) (r : Bool) (w : World) (hr0_0 : Kd.C k58 w A0_0 l0_0.length l0_0) (hc0_0 : l0_0.length ≤ c0_0) (hr0_1 : Kd.C k68 w A0_1 l0_1.length l0_1) (hc0_1 : l0_1.length ≤ c0_1) (hr0_2 : Kd.C k71 w A0_2 l0_2.length l0_2) (hc0_2 : l0_2.length ≤ c0_2) (hr0_9 : Kd.C k36 w A0_9 l0_9.length l0_9) (hc0_9 : l0_9.length ≤ c0_9) (hr0_10 : Kd.C (Kd.int .i64) w A0_10 l0_10.length l0_10) (hc0_10 : l0_10.length ≤ c0_10) (hr0_11 : Kd.C k38 w A0_11 l0_11.length l0_11) (hc0_11 : l0_11.length ≤ c0_11) (hr0_12 : Kd.C k56 w A0_12 l0_12.length l0_12) (hc0_12 : l0_12.length ≤ c0_12) (h : dormouselaw17_good.f k l0_0 l0_1 l0_2 a0_3 a0_4 a0_5 a0_6 a0_7 a0_8 l0_9 l0_10 l0_11 l0_12 a0_13 a0_14 = some r) :
    Calls Try.prog 14 #[.agg #[.slice A0_0 l0_0.length c0_0, .slice A0_1 l0_1.length c0_1, .slice A0_2 l0_2.length c0_2, .int .i64 a0_3, .int .i64 a0_4, .int .i64 a0_5, .int .i64 a0_6, .int .i64 a0_7, .int .i64 a0_8, .slice A0_9 l0_9.length c0_9, .slice A0_10 l0_10.length c0_10, .slice A0_11 l0_11.length c0_11, .slice A0_12 l0_12.length c0_12, .int .i64 a0_13, .int .i64 a0_14]] w fun e w' => e = .returned (.bool r) ∧ Below w.heap.size w w' := by
  have hu32 := Try.underlying32
  have HR0_0 := Aside0.mk hr0_0
  have HC0_0 := Aside0.mk hc0_0
  clear hr0_0 hc0_0
  have HR0_1 := Aside0.mk hr0_1
  have HC0_1 := Aside0.mk hc0_1
  clear hr0_1 hc0_1
  have HR0_2 := Aside0.mk hr0_2
  have HC0_2 := Aside0.mk hc0_2
  clear hr0_2 hc0_2
  have HR0_9 := Aside0.mk hr0_9
  have HC0_9 := Aside0.mk hc0_9
  clear hr0_9 hc0_9
  have HR0_10 := Aside0.mk hr0_10
  have HC0_10 := Aside0.mk hc0_10
  clear hr0_10 hc0_10
  have HR0_11 := Aside0.mk hr0_11
  have HC0_11 := Aside0.mk hc0_11
  clear hr0_11 hc0_11
  have HR0_12 := Aside0.mk hr0_12
  have HC0_12 := Aside0.mk hc0_12
  clear hr0_12 hc0_12
  have HB := Aside0.mk (Below.refl w.heap.size w)
  have H : (if (l0_11.length : Int) = 0 then (if (l0_12.length : Int) = 0 then ((dormouseref09_Good.f k l0_0 l0_1 l0_2 a0_3 a0_4 a0_5 a0_6 a0_7 a0_8 l0_9 l0_10 l0_11 l0_12 a0_13 a0_14).bind fun t285 => (some t285)) else (some false)) else (some false)) = some r := h
  clear h
  by_cases c2 : (l0_11.length : Int) = 0
  · rw [if_pos c2] at H
    have c2b0 : ((l0_11.length : Int) == 0) = true := beq_iff_eq.mpr c2
    have c2b1 : ((l0_11.length : Int) != 0) = false := bne_eq_false_iff_eq.mpr c2
    clear c2
    by_cases c3 : (l0_12.length : Int) = 0
    · rw [if_pos c3] at H
      have c3b0 : ((l0_12.length : Int) == 0) = true := beq_iff_eq.mpr c3
      have c3b1 : ((l0_12.length : Int) != 0) = false := bne_eq_false_iff_eq.mpr c3
      clear c3
      replace H := Option.bind_eq_some_iff.mp H
      obtain ⟨t285, A40, H⟩ := H
      replace H : (some t285) = some r := H
      have A4 := Aside0.mk A40
      clear A40
      obtain rfl := Option.some.inj H
      go_enter Try.func14, Try.ntmps14
      go_wp2_with (first | ((with_reducible refine gate_dst (N := 1) rfl ?_); (try (refine gate_guard (by rfl) ?_; dsimp only)); refine box_event ?hg (N := 1) ?hd (cs := #[.slice A0_0 l0_0.length c0_0, .slice A0_1 l0_1.length c0_1, .slice A0_2 l0_2.length c0_2, .int .i64 a0_3, .int .i64 a0_4, .int .i64 a0_5, .int .i64 a0_6, .int .i64 a0_7, .int .i64 a0_8, .slice A0_9 l0_9.length c0_9, .slice A0_10 l0_10.length c0_10, .slice A0_11 l0_11.length c0_11, .slice A0_12 l0_12.length c0_12, .int .i64 a0_13, .int .i64 a0_14]) (t := 32) ?hr ?_; (case hd => rfl); (case hg => rfl); (case hr => first | (go_simp; done) | (go_simp; rfl)); intro gb284 hg w5 hbox hb; have n0_ := Aside0.mk (below_step (by repeat (first | (with_reducible first | exact HB.out | apply below_alloc | apply pw_below_drewN | apply below_drew1) | exact HB.out)) hb); have n1_ := Aside0.mk (hbox); have n2_ := Aside0.mk ((by rw [hg]; exact (below_size (by repeat (first | (with_reducible first | exact HB.out | apply below_alloc | apply pw_below_drewN | apply below_drew1) | exact HB.out))) : w.heap.size ≤ gb284)); have n3_ := Aside0.mk ((by rw [hg]; exact (below_size (by repeat (first | (with_reducible first | exact HB.out | apply below_alloc | apply pw_below_drewN | apply below_drew1) | exact HB.out))) : w.heap.size ≤ gb284)); clear HB; have HB := n0_; have BK284 := n1_; have GW284 := n2_; have GE284 := n3_; clear n0_ n1_ n2_ n3_; clear hb hbox hg; have hcz6_0 : w5.cell? ⟨gb284, 0, none⟩ = some (.slice A0_0 l0_0.length c0_0) := (blk_cell BK284.out 0).trans rfl; have hcz6_1 : w5.cell? ⟨gb284, 1, none⟩ = some (.slice A0_1 l0_1.length c0_1) := (blk_cell BK284.out 1).trans rfl; have hcz6_2 : w5.cell? ⟨gb284, 2, none⟩ = some (.slice A0_2 l0_2.length c0_2) := (blk_cell BK284.out 2).trans rfl; have hcz6_3 : w5.cell? ⟨gb284, 3, none⟩ = some (.int .i64 a0_3) := (blk_cell BK284.out 3).trans rfl; have hcz6_4 : w5.cell? ⟨gb284, 4, none⟩ = some (.int .i64 a0_4) := (blk_cell BK284.out 4).trans rfl; have hcz6_5 : w5.cell? ⟨gb284, 5, none⟩ = some (.int .i64 a0_5) := (blk_cell BK284.out 5).trans rfl; have hcz6_6 : w5.cell? ⟨gb284, 6, none⟩ = some (.int .i64 a0_6) := (blk_cell BK284.out 6).trans rfl; have hcz6_7 : w5.cell? ⟨gb284, 7, none⟩ = some (.int .i64 a0_7) := (blk_cell BK284.out 7).trans rfl; have hcz6_8 : w5.cell? ⟨gb284, 8, none⟩ = some (.int .i64 a0_8) := (blk_cell BK284.out 8).trans rfl; have hcz6_9 : w5.cell? ⟨gb284, 9, none⟩ = some (.slice A0_9 l0_9.length c0_9) := (blk_cell BK284.out 9).trans rfl; have hcz6_10 : w5.cell? ⟨gb284, 10, none⟩ = some (.slice A0_10 l0_10.length c0_10) := (blk_cell BK284.out 10).trans rfl; have hcz6_11 : w5.cell? ⟨gb284, 11, none⟩ = some (.slice A0_11 l0_11.length c0_11) := (blk_cell BK284.out 11).trans rfl; have hcz6_12 : w5.cell? ⟨gb284, 12, none⟩ = some (.slice A0_12 l0_12.length c0_12) := (blk_cell BK284.out 12).trans rfl; have hcz6_13 : w5.cell? ⟨gb284, 13, none⟩ = some (.int .i64 a0_13) := (blk_cell BK284.out 13).trans rfl; have hcz6_14 : w5.cell? ⟨gb284, 14, none⟩ = some (.int .i64 a0_14) := (blk_cell BK284.out 14).trans rfl; have hfz6_0 := blk_frozen BK284.out 0; have hfz6_1 := blk_frozen BK284.out 1; have hfz6_2 := blk_frozen BK284.out 2; have hfz6_3 := blk_frozen BK284.out 3; have hfz6_4 := blk_frozen BK284.out 4; have hfz6_5 := blk_frozen BK284.out 5; have hfz6_6 := blk_frozen BK284.out 6; have hfz6_7 := blk_frozen BK284.out 7; have hfz6_8 := blk_frozen BK284.out 8; have hfz6_9 := blk_frozen BK284.out 9; have hfz6_10 := blk_frozen BK284.out 10; have hfz6_11 := blk_frozen BK284.out 11; have hfz6_12 := blk_frozen BK284.out 12; have hfz6_13 := blk_frozen BK284.out 13; have hfz6_14 := blk_frozen BK284.out 14) | (go_at_call 9; (with_reducible refine (dormouseref09_Good.calls k _ _ l0_0 _ _ l0_1 _ _ l0_2 a0_3 a0_4 a0_5 a0_6 a0_7 a0_8 _ _ l0_9 _ _ l0_10 _ _ l0_11 _ _ l0_12 a0_13 a0_14 t285 _ ?side1 ?side2 ?side3 ?side4 ?side5 ?side6 ?side7 ?side8 ?side9 ?side10 ?side11 ?side12 ?side13 ?side14 A4.out).mono ?_); (case side1 => repeat (first | exact (Kd.C_below HR0_0.out HB.out) | (with_reducible refine Kd.C_alloc ?_ _) | (with_reducible refine Kd.C_drewN ?_ _) | (with_reducible refine Kd.C_drew ?_))); (case side2 => exact HC0_0.out); (case side3 => repeat (first | exact (Kd.C_below HR0_1.out HB.out) | (with_reducible refine Kd.C_alloc ?_ _) | (with_reducible refine Kd.C_drewN ?_ _) | (with_reducible refine Kd.C_drew ?_))); (case side4 => exact HC0_1.out); (case side5 => repeat (first | exact (Kd.C_below HR0_2.out HB.out) | (with_reducible refine Kd.C_alloc ?_ _) | (with_reducible refine Kd.C_drewN ?_ _) | (with_reducible refine Kd.C_drew ?_))); (case side6 => exact HC0_2.out); (case side7 => repeat (first | exact (Kd.C_below HR0_9.out HB.out) | (with_reducible refine Kd.C_alloc ?_ _) | (with_reducible refine Kd.C_drewN ?_ _) | (with_reducible refine Kd.C_drew ?_))); (case side8 => exact HC0_9.out); (case side9 => repeat (first | exact (Kd.C_below HR0_10.out HB.out) | (with_reducible refine Kd.C_alloc ?_ _) | (with_reducible refine Kd.C_drewN ?_ _) | (with_reducible refine Kd.C_drew ?_))); (case side10 => exact HC0_10.out); (case side11 => repeat (first | exact (Kd.C_below HR0_11.out HB.out) | (with_reducible refine Kd.C_alloc ?_ _) | (with_reducible refine Kd.C_drewN ?_ _) | (with_reducible refine Kd.C_drew ?_))); (case side12 => exact HC0_11.out); (case side13 => repeat (first | exact (Kd.C_below HR0_12.out HB.out) | (with_reducible refine Kd.C_alloc ?_ _) | (with_reducible refine Kd.C_drewN ?_ _) | (with_reducible refine Kd.C_drew ?_))); (case side14 => exact HC0_12.out); rintro e w7 ⟨rfl, hb⟩; have n0_ := Aside0.mk (blk_below (g := gb284) (o := .cells #[.slice A0_0 l0_0.length c0_0, .slice A0_1 l0_1.length c0_1, .slice A0_2 l0_2.length c0_2, .int .i64 a0_3, .int .i64 a0_4, .int .i64 a0_5, .int .i64 a0_6, .int .i64 a0_7, .int .i64 a0_8, .slice A0_9 l0_9.length c0_9, .slice A0_10 l0_10.length c0_10, .slice A0_11 l0_11.length c0_11, .slice A0_12 l0_12.length c0_12, .int .i64 a0_13, .int .i64 a0_14] 32 (0, 0)) (by (with_reducible repeat (first | refine blk_drewN ?_ _ | refine blk_drew ?_ | refine blk_alloc ?_ _)); exact BK284.out) hb); have n1_ := Aside0.mk (below_step (by repeat (first | (with_reducible first | exact HB.out | apply below_alloc | apply pw_below_drewN | apply below_drew1 | refine below_set ?_ GE284.out) | exact HB.out)) hb); clear BK284; clear HB; have BK284 := n0_; have HB := n1_; clear n0_ n1_; (try clear hb); (try clear hb2); (try clear hk); (try clear hi)))
      go_ret
      exact ⟨by first | rfl | (simp [errW_none, errW_some] <;> rfl) | (simp [*, errW_none, errW_some] <;> rfl), by repeat (first | (with_reducible first | exact HB.out | apply below_alloc | apply pw_below_drewN | apply below_drew1 | refine below_set ?_ GE284.out) | exact HB.out)⟩
    · rw [if_neg c3] at H
      have c3b0 : ((l0_12.length : Int) == 0) = false := beq_eq_false_iff_ne.mpr c3
      have c3b1 : ((l0_12.length : Int) != 0) = true := bne_iff_ne.mpr c3
      have c3b2 : ¬ (l0_12 = []) := fun h_ => c3 (by rw [h_]; rfl)
      obtain rfl := Option.some.inj H
      go_enter Try.func14, Try.ntmps14
      go_wp2_with (first | ((with_reducible refine gate_dst (N := 1) rfl ?_); (try (refine gate_guard (by rfl) ?_; dsimp only)); refine box_event ?hg (N := 1) ?hd (cs := #[.slice A0_0 l0_0.length c0_0, .slice A0_1 l0_1.length c0_1, .slice A0_2 l0_2.length c0_2, .int .i64 a0_3, .int .i64 a0_4, .int .i64 a0_5, .int .i64 a0_6, .int .i64 a0_7, .int .i64 a0_8, .slice A0_9 l0_9.length c0_9, .slice A0_10 l0_10.length c0_10, .slice A0_11 l0_11.length c0_11, .slice A0_12 l0_12.length c0_12, .int .i64 a0_13, .int .i64 a0_14]) (t := 32) ?hr ?_; (case hd => rfl); (case hg => rfl); (case hr => first | (go_simp; done) | (go_simp; rfl)); intro gb284 hg w8 hbox hb; have n0_ := Aside0.mk (below_step (by repeat (first | (with_reducible first | exact HB.out | apply below_alloc | apply pw_below_drewN | apply below_drew1) | exact HB.out)) hb); have n1_ := Aside0.mk (hbox); have n2_ := Aside0.mk ((by rw [hg]; exact (below_size (by repeat (first | (with_reducible first | exact HB.out | apply below_alloc | apply pw_below_drewN | apply below_drew1) | exact HB.out))) : w.heap.size ≤ gb284)); have n3_ := Aside0.mk ((by rw [hg]; exact (below_size (by repeat (first | (with_reducible first | exact HB.out | apply below_alloc | apply pw_below_drewN | apply below_drew1) | exact HB.out))) : w.heap.size ≤ gb284)); clear HB; have HB := n0_; have BK284 := n1_; have GW284 := n2_; have GE284 := n3_; clear n0_ n1_ n2_ n3_; clear hb hbox hg; have hcz9_0 : w8.cell? ⟨gb284, 0, none⟩ = some (.slice A0_0 l0_0.length c0_0) := (blk_cell BK284.out 0).trans rfl; have hcz9_1 : w8.cell? ⟨gb284, 1, none⟩ = some (.slice A0_1 l0_1.length c0_1) := (blk_cell BK284.out 1).trans rfl; have hcz9_2 : w8.cell? ⟨gb284, 2, none⟩ = some (.slice A0_2 l0_2.length c0_2) := (blk_cell BK284.out 2).trans rfl; have hcz9_3 : w8.cell? ⟨gb284, 3, none⟩ = some (.int .i64 a0_3) := (blk_cell BK284.out 3).trans rfl; have hcz9_4 : w8.cell? ⟨gb284, 4, none⟩ = some (.int .i64 a0_4) := (blk_cell BK284.out 4).trans rfl; have hcz9_5 : w8.cell? ⟨gb284, 5, none⟩ = some (.int .i64 a0_5) := (blk_cell BK284.out 5).trans rfl; have hcz9_6 : w8.cell? ⟨gb284, 6, none⟩ = some (.int .i64 a0_6) := (blk_cell BK284.out 6).trans rfl; have hcz9_7 : w8.cell? ⟨gb284, 7, none⟩ = some (.int .i64 a0_7) := (blk_cell BK284.out 7).trans rfl; have hcz9_8 : w8.cell? ⟨gb284, 8, none⟩ = some (.int .i64 a0_8) := (blk_cell BK284.out 8).trans rfl; have hcz9_9 : w8.cell? ⟨gb284, 9, none⟩ = some (.slice A0_9 l0_9.length c0_9) := (blk_cell BK284.out 9).trans rfl; have hcz9_10 : w8.cell? ⟨gb284, 10, none⟩ = some (.slice A0_10 l0_10.length c0_10) := (blk_cell BK284.out 10).trans rfl; have hcz9_11 : w8.cell? ⟨gb284, 11, none⟩ = some (.slice A0_11 l0_11.length c0_11) := (blk_cell BK284.out 11).trans rfl; have hcz9_12 : w8.cell? ⟨gb284, 12, none⟩ = some (.slice A0_12 l0_12.length c0_12) := (blk_cell BK284.out 12).trans rfl; have hcz9_13 : w8.cell? ⟨gb284, 13, none⟩ = some (.int .i64 a0_13) := (blk_cell BK284.out 13).trans rfl; have hcz9_14 : w8.cell? ⟨gb284, 14, none⟩ = some (.int .i64 a0_14) := (blk_cell BK284.out 14).trans rfl; have hfz9_0 := blk_frozen BK284.out 0; have hfz9_1 := blk_frozen BK284.out 1; have hfz9_2 := blk_frozen BK284.out 2; have hfz9_3 := blk_frozen BK284.out 3; have hfz9_4 := blk_frozen BK284.out 4; have hfz9_5 := blk_frozen BK284.out 5; have hfz9_6 := blk_frozen BK284.out 6; have hfz9_7 := blk_frozen BK284.out 7; have hfz9_8 := blk_frozen BK284.out 8; have hfz9_9 := blk_frozen BK284.out 9; have hfz9_10 := blk_frozen BK284.out 10; have hfz9_11 := blk_frozen BK284.out 11; have hfz9_12 := blk_frozen BK284.out 12; have hfz9_13 := blk_frozen BK284.out 13; have hfz9_14 := blk_frozen BK284.out 14))
      go_ret
      exact ⟨by first | rfl | (simp [errW_none, errW_some] <;> rfl) | (simp [*, errW_none, errW_some] <;> rfl), by repeat (first | (with_reducible first | exact HB.out | apply below_alloc | apply pw_below_drewN | apply below_drew1 | refine below_set ?_ GE284.out) | exact HB.out)⟩
  · rw [if_neg c2] at H
    have c2b0 : ((l0_11.length : Int) == 0) = false := beq_eq_false_iff_ne.mpr c2
    have c2b1 : ((l0_11.length : Int) != 0) = true := bne_iff_ne.mpr c2
    have c2b2 : ¬ (l0_11 = []) := fun h_ => c2 (by rw [h_]; rfl)
    obtain rfl := Option.some.inj H
    go_enter Try.func14, Try.ntmps14
    go_wp2_with (first | ((with_reducible refine gate_dst (N := 1) rfl ?_); (try (refine gate_guard (by rfl) ?_; dsimp only)); refine box_event ?hg (N := 1) ?hd (cs := #[.slice A0_0 l0_0.length c0_0, .slice A0_1 l0_1.length c0_1, .slice A0_2 l0_2.length c0_2, .int .i64 a0_3, .int .i64 a0_4, .int .i64 a0_5, .int .i64 a0_6, .int .i64 a0_7, .int .i64 a0_8, .slice A0_9 l0_9.length c0_9, .slice A0_10 l0_10.length c0_10, .slice A0_11 l0_11.length c0_11, .slice A0_12 l0_12.length c0_12, .int .i64 a0_13, .int .i64 a0_14]) (t := 32) ?hr ?_; (case hd => rfl); (case hg => rfl); (case hr => first | (go_simp; done) | (go_simp; rfl)); intro gb284 hg w10 hbox hb; have n0_ := Aside0.mk (below_step (by repeat (first | (with_reducible first | exact HB.out | apply below_alloc | apply pw_below_drewN | apply below_drew1) | exact HB.out)) hb); have n1_ := Aside0.mk (hbox); have n2_ := Aside0.mk ((by rw [hg]; exact (below_size (by repeat (first | (with_reducible first | exact HB.out | apply below_alloc | apply pw_below_drewN | apply below_drew1) | exact HB.out))) : w.heap.size ≤ gb284)); have n3_ := Aside0.mk ((by rw [hg]; exact (below_size (by repeat (first | (with_reducible first | exact HB.out | apply below_alloc | apply pw_below_drewN | apply below_drew1) | exact HB.out))) : w.heap.size ≤ gb284)); clear HB; have HB := n0_; have BK284 := n1_; have GW284 := n2_; have GE284 := n3_; clear n0_ n1_ n2_ n3_; clear hb hbox hg; have hcz11_0 : w10.cell? ⟨gb284, 0, none⟩ = some (.slice A0_0 l0_0.length c0_0) := (blk_cell BK284.out 0).trans rfl; have hcz11_1 : w10.cell? ⟨gb284, 1, none⟩ = some (.slice A0_1 l0_1.length c0_1) := (blk_cell BK284.out 1).trans rfl; have hcz11_2 : w10.cell? ⟨gb284, 2, none⟩ = some (.slice A0_2 l0_2.length c0_2) := (blk_cell BK284.out 2).trans rfl; have hcz11_3 : w10.cell? ⟨gb284, 3, none⟩ = some (.int .i64 a0_3) := (blk_cell BK284.out 3).trans rfl; have hcz11_4 : w10.cell? ⟨gb284, 4, none⟩ = some (.int .i64 a0_4) := (blk_cell BK284.out 4).trans rfl; have hcz11_5 : w10.cell? ⟨gb284, 5, none⟩ = some (.int .i64 a0_5) := (blk_cell BK284.out 5).trans rfl; have hcz11_6 : w10.cell? ⟨gb284, 6, none⟩ = some (.int .i64 a0_6) := (blk_cell BK284.out 6).trans rfl; have hcz11_7 : w10.cell? ⟨gb284, 7, none⟩ = some (.int .i64 a0_7) := (blk_cell BK284.out 7).trans rfl; have hcz11_8 : w10.cell? ⟨gb284, 8, none⟩ = some (.int .i64 a0_8) := (blk_cell BK284.out 8).trans rfl; have hcz11_9 : w10.cell? ⟨gb284, 9, none⟩ = some (.slice A0_9 l0_9.length c0_9) := (blk_cell BK284.out 9).trans rfl; have hcz11_10 : w10.cell? ⟨gb284, 10, none⟩ = some (.slice A0_10 l0_10.length c0_10) := (blk_cell BK284.out 10).trans rfl; have hcz11_11 : w10.cell? ⟨gb284, 11, none⟩ = some (.slice A0_11 l0_11.length c0_11) := (blk_cell BK284.out 11).trans rfl; have hcz11_12 : w10.cell? ⟨gb284, 12, none⟩ = some (.slice A0_12 l0_12.length c0_12) := (blk_cell BK284.out 12).trans rfl; have hcz11_13 : w10.cell? ⟨gb284, 13, none⟩ = some (.int .i64 a0_13) := (blk_cell BK284.out 13).trans rfl; have hcz11_14 : w10.cell? ⟨gb284, 14, none⟩ = some (.int .i64 a0_14) := (blk_cell BK284.out 14).trans rfl; have hfz11_0 := blk_frozen BK284.out 0; have hfz11_1 := blk_frozen BK284.out 1; have hfz11_2 := blk_frozen BK284.out 2; have hfz11_3 := blk_frozen BK284.out 3; have hfz11_4 := blk_frozen BK284.out 4; have hfz11_5 := blk_frozen BK284.out 5; have hfz11_6 := blk_frozen BK284.out 6; have hfz11_7 := blk_frozen BK284.out 7; have hfz11_8 := blk_frozen BK284.out 8; have hfz11_9 := blk_frozen BK284.out 9; have hfz11_10 := blk_frozen BK284.out 10; have hfz11_11 := blk_frozen BK284.out 11; have hfz11_12 := blk_frozen BK284.out 12; have hfz11_13 := blk_frozen BK284.out 13; have hfz11_14 := blk_frozen BK284.out 14))
    go_ret
    exact ⟨by first | rfl | (simp [errW_none, errW_some] <;> rfl) | (simp [*, errW_none, errW_some] <;> rfl), by repeat (first | (with_reducible first | exact HB.out | apply below_alloc | apply pw_below_drewN | apply below_drew1 | refine below_set ?_ GE284.out) | exact HB.out)⟩
def fix_Floor.f (a0 : Int) : Option (Int) := some (a0 / 4294967296)
set_option maxHeartbeats 8000000 in
set_option maxRecDepth 100000 in
theorem fix_Floor.calls (a0 : Int) (r : Int) (w : World) (h : fix_Floor.f a0 = some r) :
    Calls Try.prog 28 #[.int .i64 a0] w fun e w' => e = .returned (.int .i64 r) ∧ Drawn0 w w' := by
  have H : (some (a0 / 4294967296)) = some r := h
  clear h
  obtain rfl := Option.some.inj H
  go_enter Try.func28, Try.ntmps28
  go_wp2
  go_ret
  exact ⟨by first | rfl | (simp; done) | (simp [*]; done), by repeat (first | exact Drawn0.refl _ | apply Drawn0.step)⟩
end
end Go.Proofs.Ytchlbnlhjllcbaa.F
namespace Go.Proofs.Ytchlbnlhjllcbaa.Sla
open Go.RowKit Go.Proofs.Ytchlbnlhjllcbaa.F Go.Proofs.Ytchlbnlhjllcbaa.Tbl Go.Proofs.Ytchlbnlhjllcbaa.Adm Go.Proofs.YtchlbnlhjllcbaaW.PrintWords Go.Proofs.YtchlbnlhjllcbaaW.PrintLast
set_option linter.unusedVariables false
def NoneT (t : S36) : Prop := t.f0 = 0 ∧ t.f1 = 0 ∧ t.f2.length = 0 ∧ t.f3.length = 0
instance (t : S36) : Decidable (NoneT t) := by unfold NoneT; infer_instance
structure GoodV (l0 : List S58) (l1 : List S68) (l2 : List S71) (idle crit sw swE sems hor : Int) (ts : List S36) (nx : List Int) (now a : Int) : Prop where
  table : TableOk l0 l1 l2 idle crit sw swE sems hor
  few : ts.length ≤ 64
  len : nx.length = ts.length
  now : 0 ≤ now ∧ now ≤ 2097152
  at_ : 0 ≤ a ∧ a ≤ 2097152
  task : ∀ i : Nat, i < ts.length → NoneT (rd_T36 ts i) ∨ TaskOk l2.length sems hor (rd_T36 ts i)
  next : ∀ i : Nat, i < ts.length → 0 ≤ rd nx i ∧ rd nx i ≤ 2097152
section
variable {l0 : List S58} {l1 : List S68} {l2 : List S71} {idle crit sw swE sems hor : Int} {ts : List S36} {nx : List Int} {now a : Int}
open Classical in
noncomputable def goodB (l0 : List S58) (l1 : List S68) (l2 : List S71) (idle crit sw swE sems hor : Int) (ts : List S36) (nx : List Int) (now a : Int) : Bool := decide (GoodV l0 l1 l2 idle crit sw swE sems hor ts nx now a)
theorem goodB_no (h : ¬ GoodV l0 l1 l2 idle crit sw swE sems hor ts nx now a) : goodB l0 l1 l2 idle crit sw swE sems hor ts nx now a = false := by simp [goodB, h]
theorem goodB_yes (h : GoodV l0 l1 l2 idle crit sw swE sems hor ts nx now a) : goodB l0 l1 l2 idle crit sw swE sems hor ts nx now a = true := by simp [goodB, h]
theorem moment_some (n : Int) : dormouseref09_moment.f n = some (decide (0 ≤ n ∧ n ≤ 2097152)) := by
  unfold dormouseref09_moment.f
  by_cases h : n ≥ 0
  · rw [if_pos h]; simp; omega
  · rw [if_neg h]; simp; omega
theorem good_loop (ht : TableOk l0 l1 l2 idle crit sw swE sems hor) (few : ts.length ≤ 64) (hl : nx.length = ts.length) (hn : 0 ≤ now ∧ now ≤ 2097152) (ha : 0 ≤ a ∧ a ≤ 2097152) (d : Nat) :
    ∀ (i k : Nat), i + d = ts.length → 1200 + 2 * d < k → (∀ j : Nat, j < i → (NoneT (rd_T36 ts j) ∨ TaskOk l2.length sems hor (rd_T36 ts j)) ∧ (0 ≤ rd nx j ∧ rd nx j ≤ 2097152)) →
    dormouseref09_Good.l0 k i l0 l1 l2 idle crit sw swE sems hor ts nx [] [] now a = some (goodB l0 l1 l2 idle crit sw swE sems hor ts nx now a) := by
  induction d with
  | zero =>
    intro i k hi hk hj
    obtain ⟨k, rfl⟩ : ∃ q, k = q + 1 := ⟨k - 1, by omega⟩
    obtain ⟨k, rfl⟩ : ∃ q, k = q + 1 := ⟨k - 1, by omega⟩
    obtain ⟨k, rfl⟩ : ∃ q, k = q + 1 := ⟨k - 1, by omega⟩
    simp only [dormouseref09_Good.l0]
    rw [if_neg (by omega)]
    simp only [dormouseref09_Good.l1]
    rw [if_neg (by simp)]
    simp only [dormouseref09_Good.l3]
    rw [if_neg (by simp), goodB_yes ⟨ht, few, hl, hn, ha, fun j h => (hj j (by omega)).1, fun j h => (hj j (by omega)).2⟩]
  | succ d ih =>
    intro i k hi hk hj
    obtain ⟨k, rfl⟩ : ∃ q, k = q + 1 := ⟨k - 1, by omega⟩
    obtain ⟨k, rfl⟩ : ∃ q, k = q + 1 := ⟨k - 1, by omega⟩
    have hd := head_of ht
    have hnd : l2.length ≤ 1000 := by have := ht.head; unfold Head at this; omega
    have w : Aside0 (wrap64 ((i : Int) + 1) = ((i + 1 : Nat) : Int)) := ⟨by unfold wrap64; omega⟩
    have go : (NoneT (rd_T36 ts i) ∨ TaskOk l2.length sems hor (rd_T36 ts i)) → (0 ≤ rd nx i ∧ rd nx i ≤ 2097152) → dormouseref09_Good.l0 k ((i + 1 : Nat) : Int) l0 l1 l2 idle crit sw swE sems hor ts nx [] [] now a = some (goodB l0 l1 l2 idle crit sw swE sems hor ts nx now a) := fun h1 h2 =>
      ih (i + 1) k (by omega) (by omega) (fun j h => by
        rcases Nat.lt_or_ge j i with x | x
        · exact hj j x
        · obtain rfl : j = i := by omega
          exact ⟨h1, h2⟩)
    have mo : (NoneT (rd_T36 ts i) ∨ TaskOk l2.length sems hor (rd_T36 ts i)) → ((dormouseref09_moment.f (rd nx i)).bind fun t => if t = true then dormouseref09_Good.l0 k (wrap64 ((i : Int) + 1)) l0 l1 l2 idle crit sw swE sems hor ts nx [] [] now a else some false) = some (goodB l0 l1 l2 idle crit sw swE sems hor ts nx now a) := fun h1 => by
      rw [moment_some, Option.bind_some, w.out]
      by_cases h2 : 0 ≤ rd nx i ∧ rd nx i ≤ 2097152
      · rw [if_pos (decide_eq_true h2)]; exact go h1 h2
      · rw [if_neg (by simpa using h2), goodB_no fun x => h2 (x.next i (by omega))]
    have step : ∀ b : Bool, (b = true ↔ NoneT (rd_T36 ts i)) → dormouseref09_Good.j2 (k + 1) i b l0 l1 l2 idle crit sw swE sems hor ts nx [] [] now a (rd_T36 ts i).f0 (rd_T36 ts i).f1 (rd_T36 ts i).f2 (rd_T36 ts i).f3 = some (goodB l0 l1 l2 idle crit sw swE sems hor ts nx now a) := fun b hb => by
      simp only [dormouseref09_Good.j2]
      by_cases h : b = true
      · rw [if_pos h, if_pos (by omega), if_pos (by omega)]
        exact mo (.inl (hb.1 h))
      · rw [if_neg h, task_some _ hnd (by omega) (by omega), Option.bind_some]
        by_cases h2 : TaskOk l2.length sems hor (rd_T36 ts i)
        · rw [if_pos (taskB_yes h2), if_pos (by omega), if_pos (by omega)]
          exact mo (.inr h2)
        · rw [if_neg (by rw [taskB_no h2]; simp), goodB_no fun x => by
            rcases x.task i (by omega) with y | y
            · exact h (hb.2 y)
            · exact h2 y]
    simp only [dormouseref09_Good.l0]
    rw [if_pos (by omega), if_pos (by omega)]
    by_cases z0 : (rd_T36 ts i).f0 = 0
    · rw [if_pos z0]
      by_cases z1 : (rd_T36 ts i).f1 = 0
      · rw [if_pos z1]
        by_cases z2 : ((rd_T36 ts i).f2.length : Int) = 0
        · rw [if_pos z2]
          exact step _ (by unfold NoneT; rw [beq_iff_eq]; constructor <;> intro h <;> omega)
        · rw [if_neg z2]; exact step _ ⟨fun h => (by cases h), fun h => absurd (by have := h.2.2.1; omega) z2⟩
      · rw [if_neg z1]; exact step _ ⟨fun h => (by cases h), fun h => absurd h.2.1 z1⟩
    · rw [if_neg z0]; exact step _ ⟨fun h => (by cases h), fun h => absurd h.1 z0⟩
theorem good_some (ts : List S36) (nx : List Int) (now a : Int) {k : Nat} (hk : 2000 < k) :
    dormouseref09_Good.f k l0 l1 l2 idle crit sw swE sems hor ts nx [] [] now a = some (goodB l0 l1 l2 idle crit sw swE sems hor ts nx now a) := by
  obtain ⟨k, rfl⟩ : ∃ q, k = q + 1 := ⟨k - 1, by omega⟩
  have j0 : ∀ b, b = true → ¬ GoodV l0 l1 l2 idle crit sw swE sems hor ts nx now a → dormouseref09_Good.j0 (k + 1) b l0 l1 l2 idle crit sw swE sems hor ts nx [] [] now a = some (goodB l0 l1 l2 idle crit sw swE sems hor ts nx now a) := fun b hb h => by
    simp only [dormouseref09_Good.j0]; rw [if_pos hb, goodB_no h]
  unfold dormouseref09_Good.f dormouseref01_Table.f
  rw [Option.bind_some]
  by_cases ht : TableOk l0 l1 l2 idle crit sw swE sems hor
  · rw [if_pos (by simp [tableB, ht])]
    by_cases c1 : (ts.length : Int) > 64
    · rw [if_pos c1]; exact j0 _ rfl (fun x => by have := x.few; omega)
    · rw [if_neg c1]
      by_cases c2 : (nx.length : Int) = (ts.length : Int)
      · rw [if_pos c2, moment_some, Option.bind_some]
        by_cases c3 : 0 ≤ now ∧ now ≤ 2097152
        · rw [if_pos (decide_eq_true c3), moment_some, Option.bind_some]
          by_cases c4 : 0 ≤ a ∧ a ≤ 2097152
          · rw [decide_eq_true c4]
            simp only [dormouseref09_Good.j0]
            rw [if_neg (by simp)]
            exact good_loop ht (by omega) (by omega) c3 c4 ts.length 0 k (by omega) (by omega) (fun j h => by omega)
          · rw [decide_eq_false c4]; exact j0 _ rfl (fun x => c4 x.at_)
        · rw [if_neg (by simpa using c3)]; exact j0 _ rfl (fun x => c3 x.now)
      · rw [if_neg c2]; exact j0 _ rfl (fun x => by have := x.len; omega)
  · rw [if_neg (by simp [tableB, ht])]; exact j0 _ rfl (fun x => ht x.table)
theorem good17_some (ts : List S36) (nx : List Int) (now a : Int) {k : Nat} (hk : 2000 < k) :
    dormouselaw17_good.f k l0 l1 l2 idle crit sw swE sems hor ts nx [] [] now a = some (goodB l0 l1 l2 idle crit sw swE sems hor ts nx now a) := by
  unfold dormouselaw17_good.f
  rw [if_pos (by simp), if_pos (by simp), good_some ts nx now a hk, Option.bind_some]
def zt (l0 : List S58) (sw now m : Int) (t : S36) (n : Int) : Int := if 0 < t.f0 then mn (mx (partOf l0 sw 0 t) 0) 17179869184 * mn (mx (m - mx now n) 0) 134217728 else 0
def zsum (l0 : List S58) (sw now m : Int) (nx : List Int) : List S36 → Nat → Int
  | [], _ => 0
  | t :: l, i => zt l0 sw now m t (rd nx i) + zsum l0 sw now m nx l (i + 1)
def atV (l0 : List S58) (sw now : Int) (nx : List Int) (ts : List S36) (m : Int) : Int := mn (mx (m - now) (-1073741824)) 1073741824 * 4294967296 - zsum l0 sw now m nx ts 0
theorem zt_bd {now m : Int} (h0 : 0 ≤ now) (h1 : m ≤ 4194304) (t : S36) (n : Int) : 0 ≤ zt l0 sw now m t n ∧ zt l0 sw now m t n ≤ 72057594037927936 := by
  unfold zt
  split
  · have a1 : 0 ≤ mn (mx (partOf l0 sw 0 t) 0) 17179869184 := by unfold mn mx; split <;> split <;> omega
    have a2 : mn (mx (partOf l0 sw 0 t) 0) 17179869184 ≤ 17179869184 := by unfold mn mx; split <;> split <;> omega
    have b1 : 0 ≤ mn (mx (m - mx now n) 0) 134217728 := by unfold mn mx; split <;> split <;> split <;> omega
    have b2 : mn (mx (m - mx now n) 0) 134217728 ≤ 4194304 := by unfold mn mx; split <;> split <;> split <;> omega
    have c1 := Int.mul_nonneg a1 b1
    have c2 : mn (mx (partOf l0 sw 0 t) 0) 17179869184 * mn (mx (m - mx now n) 0) 134217728 ≤ 17179869184 * 4194304 := Int.mul_le_mul a2 b2 b1 (by omega)
    omega
  · omega
theorem tasks_some {now m : Int} (ht : TableOk l0 l1 l2 idle crit sw swE sems hor) (h0 : 0 ≤ now ∧ now ≤ 2097152) (m0 : 0 ≤ m) (h1 : m ≤ 4194304) (hx : ∀ i : Nat, i < nx.length → 0 ≤ rd nx i ∧ rd nx i ≤ 2097152) : ∀ (l : List S36) (i : Nat) (s : Int), (∀ t ∈ l, NoneT t ∨ TaskOk l2.length sems hor t) → i + l.length ≤ nx.length → i + l.length ≤ 64 →
    s ≤ 36028797018963968 → -36028797018963968 - i * 72057594037927936 ≤ s → slack_view_at.tasks l0 l1 l2 idle crit sw swE sems hor m now nx l i s = some (s - zsum l0 sw now m nx l i) := by
  intro l
  induction l with
  | nil => intro i s _ _ _ _ _; simp [slack_view_at.tasks, zsum]
  | cons t l ih =>
    intro i s hl hi h64 s0 s1
    rw [List.length_cons] at hi h64
    unfold slack_view_at.tasks zsum
    have bd := zt_bd (l0 := l0) (sw := sw) h0.1 h1 t (rd nx i)
    have hxi := hx i (by omega)
    by_cases c : 0 < t.f0
    · have tk : TaskOk l2.length sems hor t := by
        rcases hl t (by simp) with y | y
        · have := y.1; omega
        · exact y
      have mb : 0 ≤ mx now (rd nx i) ∧ mx now (rd nx i) ≤ 2097152 := by unfold mx; split <;> omega
      have ez : zt l0 sw now m t (rd nx i) = mn (mx (partOf l0 sw 0 t) 0) 17179869184 * mn (mx (m - mx now (rd nx i)) 0) 134217728 := by unfold zt; rw [if_pos c]
      rw [if_pos c, part_some ht tk, Option.bind_some, if_pos (by omega)]
      unfold fix_Times.f fix_clamp_int.f
      rw [Option.bind_some, Option.bind_some, Option.bind_some, Adm.w64 (n := m - mx now (rd nx i)) (by omega) (by omega), ← ez, Adm.w64 (n := zt l0 sw now m t (rd nx i)) (by omega) (by omega), Adm.w64 (n := s - zt l0 sw now m t (rd nx i)) (by omega) (by omega)]
      have := ih (i + 1) (s - zt l0 sw now m t (rd nx i)) (fun u hu => hl u (by simp [hu])) (by omega) (by omega) (by omega) (by omega)
      rw [show ((i + 1 : Nat) : Int) = (i : Int) + 1 from by omega] at this
      rw [this]; congr 1; omega
    · have ez : zt l0 sw now m t (rd nx i) = 0 := by unfold zt; rw [if_neg c]
      rw [if_neg c, ez]
      have := ih (i + 1) s (fun u hu => hl u (by simp [hu])) (by omega) (by omega) (by omega) (by omega)
      rw [show ((i + 1 : Nat) : Int) = (i : Int) + 1 from by omega] at this
      rw [this]; congr 1; omega
theorem at_some (g : GoodV l0 l1 l2 idle crit sw swE sems hor ts nx now a) {m : Int} (m0 : 0 ≤ m) (h1 : m ≤ 4194304) : slack_view_at.r l0 l1 l2 idle crit sw swE sems hor ts nx [] now m = some (atV l0 sw now nx ts m) := by
  have hn := g.now
  unfold slack_view_at.r slack_view_at.jobs
  rw [Option.bind_some, Int.sub_zero, Adm.w64 (n := m - now) (by omega) (by omega), Adm.w64 (n := m - now) (by omega) (by omega)]
  unfold fix_Whole.f fix_clamp_int.f
  have b : -8388608 ≤ mn (mx (m - now) (-1073741824)) 1073741824 ∧ mn (mx (m - now) (-1073741824)) 1073741824 ≤ 8388608 := by unfold mn mx; split <;> split <;> omega
  rw [Option.bind_some, Option.bind_some, Adm.w64 (n := mn (mx (m - now) (-1073741824)) 1073741824 * 4294967296) (by omega) (by omega)]
  have := tasks_some (nx := nx) g.table hn m0 h1 (fun i hi => g.next i (by have := g.len; omega)) ts 0 (mn (mx (m - now) (-1073741824)) 1073741824 * 4294967296) (fun t h => by
    obtain ⟨i, hi, rfl⟩ := List.getElem_of_mem h
    have := g.task i hi
    unfold rd_T36 at this
    rwa [Int.toNat_natCast, List.getD_eq_getElem?_getD, List.getElem?_eq_getElem hi] at this) (by have := g.len; omega) (by have := g.few; omega) (by omega) (by omega)
  exact this
end
end Go.Proofs.Ytchlbnlhjllcbaa.Sla
namespace Go.Proofs.Ytchlbnlhjllcbaa.F
open Go.RowKit Go.Proofs.YtchlbnlhjllcbaaW.PrintWords Go.Proofs.YtchlbnlhjllcbaaW.PrintLast Go.Proofs.YtchlbnlhjllcbaaW.PrintMore
attribute [local go_sem] max2_int min2_int max_two min_two max_three min_three max_four min_four   -- for this text's walks alone
set_option linter.unusedVariables false
set_option linter.unusedSimpArgs false
mutual
def slack_view_least.l0 : Nat → Int → List Int → List (S38) → Int → Int → List (S58) → List (S68) → List (S71) → Int → Int → Int → Int → Int → Int → List (S36) → List Int → List (S38) → List (S73) → Int → Option (Int × Int × Int × Int × Int × Int × Int × Int)
  | 0, _, _, _, _, _, _, _, _, _, _, _, _, _, _, _, _, _, _, _ => none
  | k + 1, x1, x5, x16, x17, x18, x1000, x1001, x1002, x1003, x1004, x1005, x1006, x1007, x1008, x1009, x1010, x1011, x1012, x1013 => if x18 < x17 then (none) else (slack_view_least.l1 k x1 x5 x1009 (x1009.length : Int) 0 x1000 x1001 x1002 x1003 x1004 x1005 x1006 x1007 x1008 x1009 x1010 x1011 x1012 x1013)
def slack_view_least.l1 : Nat → Int → List Int → List (S36) → Int → Int → List (S58) → List (S68) → List (S71) → Int → Int → Int → Int → Int → Int → List (S36) → List Int → List (S38) → List (S73) → Int → Option (Int × Int × Int × Int × Int × Int × Int × Int)
  | 0, _, _, _, _, _, _, _, _, _, _, _, _, _, _, _, _, _, _, _ => none
  | k + 1, x1, x5, x31, x32, x33, x1000, x1001, x1002, x1003, x1004, x1005, x1006, x1007, x1008, x1009, x1010, x1011, x1012, x1013 => if x33 < x32 then (if 0 ≤ x33 then (if x33 < (x31.length : Int) then (if ((rd_T36 x31 x33).f0) > 0 then ((slack_view_from.f x1000 x1001 x1002 x1003 x1004 x1005 x1006 x1007 x1008 x1009 x1010 x1011 x1012 x1013 x33).bind fun bt229 => (if x5.length < 17592186044416 then (slack_view_least.l1 k x1 (x5 ++ [wrap64 (bt229.1 + ((rd_T36 x31 x33).f0))]) x31 x32 (wrap64 (x33 + 1)) x1000 x1001 x1002 bt229.2.1 bt229.2.2.1 bt229.2.2.2.1 bt229.2.2.2.2.1 bt229.2.2.2.2.2.1 bt229.2.2.2.2.2.2.1 x1009 x1010 x1011 x1012 bt229.2.2.2.2.2.2.2) else (none))) else (slack_view_least.l1 k x1 x5 x31 x32 (wrap64 (x33 + 1)) x1000 x1001 x1002 x1003 x1004 x1005 x1006 x1007 x1008 x1009 x1010 x1011 x1012 x1013)) else (none)) else (none)) else ((fix_Whole.f 1073741824).bind fun t240 => (slack_view_least.l2 k x1 t240 x5 (x5.length : Int) 0 x1000 x1001 x1002 x1003 x1004 x1005 x1006 x1007 x1008 x1009 x1010 x1011 x1012 x1013))
def slack_view_least.l2 : Nat → Int → Int → List Int → Int → Int → List (S58) → List (S68) → List (S71) → Int → Int → Int → Int → Int → Int → List (S36) → List Int → List (S38) → List (S73) → Int → Option (Int × Int × Int × Int × Int × Int × Int × Int)
  | 0, _, _, _, _, _, _, _, _, _, _, _, _, _, _, _, _, _, _, _ => none
  | k + 1, x1, x10, x52, x53, x54, x1000, x1001, x1002, x1003, x1004, x1005, x1006, x1007, x1008, x1009, x1010, x1011, x1012, x1013 => if x54 < x53 then (if 0 ≤ x54 then (if x54 < (x52.length : Int) then (if (rd x52 x54) ≥ x1 then ((slack_view_at.f x1000 x1001 x1002 x1003 x1004 x1005 x1006 x1007 x1008 x1009 x1010 x1011 x1012 x1013 (rd x52 x54)).bind fun bt242 => (slack_view_least.l2 k x1 (mn x10 bt242.1) x52 x53 (wrap64 (x54 + 1)) x1000 x1001 x1002 bt242.2.1 bt242.2.2.1 bt242.2.2.2.1 bt242.2.2.2.2.1 bt242.2.2.2.2.2.1 bt242.2.2.2.2.2.2.1 x1009 x1010 x1011 x1012 bt242.2.2.2.2.2.2.2)) else (slack_view_least.l2 k x1 x10 x52 x53 (wrap64 (x54 + 1)) x1000 x1001 x1002 x1003 x1004 x1005 x1006 x1007 x1008 x1009 x1010 x1011 x1012 x1013)) else (none)) else (none)) else (some (x10, x1003, x1004, x1005, x1006, x1007, x1008, x1013))
end
def slack_view_least.f (k : Nat) (s0_0 : List (S58)) (s0_1 : List (S68)) (s0_2 : List (S71)) (s0_3 : Int) (s0_4 : Int) (s0_5 : Int) (s0_6 : Int) (s0_7 : Int) (s0_8 : Int) (s0_9 : List (S36)) (s0_10 : List Int) (s0_11 : List (S38)) (s0_12 : List (S73)) (s0_13 : Int) (a1 : Int) : Option (Int × Int × Int × Int × Int × Int × Int × Int) := slack_view_least.l0 k a1 ([] : List Int) s0_11 (s0_11.length : Int) 0 s0_0 s0_1 s0_2 s0_3 s0_4 s0_5 s0_6 s0_7 s0_8 s0_9 s0_10 s0_11 s0_12 s0_13
def slack_view_least.T11 : Bool × List (List Nat × List Nat) := (true, [([], []), ([], []), ([], []), ([1, 2], [1, 2]), ([], []), ([4], [4]), ([3, 5], [3, 5]), ([6], [6]), ([0, 7, 3], [0, 7]), ([8, 8, 0, 1, 2, 3, 4, 5, 6, 7, 8], [0, 8])])
def slack_view_least.B11 : List Nat := [0, 0, 0, 6, 0, 16, 62, 126, 255, 511]
theorem slack_view_least.tab11 : rtab .any (opsOf Try.f37 11) = slack_view_least.T11 := by kernel_rfl
theorem slack_view_least.bits11 : waitsOk slack_view_least.T11.2 slack_view_least.B11 = true := by kernel_rfl
set_option maxHeartbeats 8000000 in
set_option maxRecDepth 100000 in
theorem slack_view_least.calls (k : Nat) (g : Nat) (s0_0 : List (S58)) (s0_1 : List (S68)) (s0_2 : List (S71)) (s0_3 : Int) (s0_4 : Int) (s0_5 : Int) (s0_6 : Int) (s0_7 : Int) (s0_8 : Int) (s0_9 : List (S36)) (s0_10 : List Int) (s0_11 : List (S38)) (s0_12 : List (S73)) (s0_13 : Int) (a1 : Int) (r1 : Int) (r2 : Int) (r3 : Int) (r4 : Int) (r5 : Int) (r6 : Int) (r7 : Int) (r8 : Int) (w0 w : World) (hI : IsS65 w0 w g s0_0 s0_1 s0_2 s0_3 s0_4 s0_5 s0_6 s0_7 s0_8 s0_9 s0_10 s0_11 s0_12 s0_13) (hB : Below w0.heap.size w0 w) (h : slack_view_least.f k s0_0 s0_1 s0_2 s0_3 s0_4 s0_5 s0_6 s0_7 s0_8 s0_9 s0_10 s0_11 s0_12 s0_13 a1 = some (r1, r2, r3, r4, r5, r6, r7, r8)) :
    Calls Try.prog 37 #[.pointer (some ⟨g, 0, none⟩), .int .i64 a1] w fun e w' => e = .returned (.int .i64 r1) ∧ IsS65 w0 w' g s0_0 s0_1 s0_2 r2 r3 r4 r5 r6 r7 s0_9 s0_10 s0_11 s0_12 r8 ∧ Below w0.heap.size w0 w' ∧ KeepBut w w' g none := by
  have hu38 := Try.underlying38
  have hu36 := Try.underlying36
  have HI0 := Aside0.mk hI
  have HK := Aside0.mk (KeepBut.refl w g none)
  have HL := Aside0.mk hB.size
  clear hI
  have HW0 := Aside0.mk hB.size
  have HB := Aside0.mk hB
  clear hB
  have H : (slack_view_least.l0 k a1 ([] : List Int) s0_11 (s0_11.length : Int) 0 s0_0 s0_1 s0_2 s0_3 s0_4 s0_5 s0_6 s0_7 s0_8 s0_9 s0_10 s0_11 s0_12 s0_13) = some (r1, r2, r3, r4, r5, r6, r7, r8) := h
  clear h
  have H' := Aside0.mk H
  clear H
  obtain ⟨ASz3_0, cSz3_0, ASz3_1, cSz3_1, ASz3_2, cSz3_2, ASz3_9, cSz3_9, ASz3_10, cSz3_10, ASz3_11, cSz3_11, ASz3_12, cSz3_12, HGz3, hgz3, HSz3_0, HSz3_1, HSz3_2, HSz3_9, HSz3_10, HSz3_11, HSz3_12⟩ := HI0.out
  have hcz3_0 := cellS65_0 HGz3
  have hcz3_1 := cellS65_1 HGz3
  have hcz3_2 := cellS65_2 HGz3
  have hcz3_3 := cellS65_3 HGz3
  have hcz3_4 := cellS65_4 HGz3
  have hcz3_5 := cellS65_5 HGz3
  have hcz3_6 := cellS65_6 HGz3
  have hcz3_7 := cellS65_7 HGz3
  have hcz3_8 := cellS65_8 HGz3
  have hcz3_9 := cellS65_9 HGz3
  have hcz3_10 := cellS65_10 HGz3
  have hcz3_11 := cellS65_11 HGz3
  have hcz3_12 := cellS65_12 HGz3
  have hcz3_13 := cellS65_13 HGz3
  have hfz3_3 := blk_frozen HGz3 3
  have hfz3_4 := blk_frozen HGz3 4
  have hfz3_5 := blk_frozen HGz3 5
  have hfz3_6 := blk_frozen HGz3 6
  have hfz3_7 := blk_frozen HGz3 7
  have hfz3_8 := blk_frozen HGz3 8
  have hfz3_13 := blk_frozen HGz3 13
  clear HGz3 hgz3
  go_enter Try.func37, Try.ntmps37
  go_wp2
  go_loopg [5, 18] k (fun kq v5 v18 w' => ∃ (x5_1 : List Int) (x18_1 : Int), v18 = .int .i64 x18_1 ∧ Aside0 (slack_view_least.l0 kq a1 x5_1 s0_11 (s0_11.length : Int) x18_1 s0_0 s0_1 s0_2 s0_3 s0_4 s0_5 s0_6 s0_7 s0_8 s0_9 s0_10 s0_11 s0_12 s0_13 = some (r1, r2, r3, r4, r5, r6, r7, r8)) ∧ Aside0 (kq ≤ k) ∧ Aside0 (Kd.R (Kd.int .i64) 3 w' w.heap.size (fun _ => True) v5 x5_1) ∧ Aside0 (IsS65 w0 w' g s0_0 s0_1 s0_2 s0_3 s0_4 s0_5 s0_6 s0_7 s0_8 s0_9 s0_10 s0_11 s0_12 s0_13) ∧ Aside0 (KeepBut w w' g none) ∧ Aside0 (Below w0.heap.size w0 w'))
  case atStart => exact ⟨(([] : List Int)), (0), (by first | rfl | (simp; done) | (simp [*]; done)), H', ⟨Nat.le_refl _⟩, ⟨by first | exact Kd.R_nil _ _ _ _ _ | exact Kd.N_nil _ _ _ _ _ | exact Kd.V_nil _ _ _ _ _ | exact Kd.Q_nil _ _ _ _ _ | exact Kd.S_nil _ _ _ _ _⟩, ⟨by repeat (first | (with_reducible first | exact HI0.out | apply IsS65.alloc | apply IsS65.drewN | apply IsS65.drew | apply IsS65.set_3 | apply IsS65.set_4 | apply IsS65.set_5 | apply IsS65.set_6 | apply IsS65.set_7 | apply IsS65.set_8 | apply IsS65.set_13) | exact HI0.out)⟩, ⟨by repeat (first | (with_reducible first | exact HK.out | apply KeepBut.set_ | apply keep_drewN | apply keep_drew | apply keep_alloc) | exact HK.out)⟩, ⟨by repeat (first | (with_reducible first | exact HB.out | apply below_alloc | apply pw_below_drewN | apply below_drew1 | refine below_set ?_ (IsS65.ge HI0.out)) | exact HB.out)⟩⟩
  case round =>
    clear H'
    try clear p2
    try clear c3
    try clear hcz3_0
    try clear hcz3_1
    try clear hcz3_10
    try clear hcz3_11
    try clear hcz3_12
    try clear hcz3_13
    try clear hcz3_2
    try clear hcz3_3
    try clear hcz3_4
    try clear hcz3_5
    try clear hcz3_6
    try clear hcz3_7
    try clear hcz3_8
    try clear hcz3_9
    try clear hfz3_13
    try clear hfz3_3
    try clear hfz3_4
    try clear hfz3_5
    try clear hfz3_6
    try clear hfz3_7
    try clear hfz3_8
    obtain ⟨x5_1, x18_1, rfl, HA, HK1, HO_5, HI0, HK, HB⟩ := hrel
    cases gk with
    | zero => exact absurd HA.out (by simp [slack_view_least.l0])
    | succ k1 =>
      have H := HA.out
      clear HA
      simp only [slack_view_least.l0] at H
      by_cases c4 : x18_1 < (s0_11.length : Int)
      · rw [if_pos c4] at H
        exact absurd H (by simp)
      · rw [if_neg c4] at H
        have c4b0 : decide (x18_1 < (s0_11.length : Int)) = false := decide_eq_false c4
        clear c4
        have H' := Aside0.mk H
        clear H
        obtain ⟨ASz13_0, cSz13_0, ASz13_1, cSz13_1, ASz13_2, cSz13_2, ASz13_9, cSz13_9, ASz13_10, cSz13_10, ASz13_11, cSz13_11, ASz13_12, cSz13_12, HGz13, hgz13, HSz13_0, HSz13_1, HSz13_2, HSz13_9, HSz13_10, HSz13_11, HSz13_12⟩ := HI0.out
        have hcz13_0 := cellS65_0 HGz13
        have hcz13_1 := cellS65_1 HGz13
        have hcz13_2 := cellS65_2 HGz13
        have hcz13_3 := cellS65_3 HGz13
        have hcz13_4 := cellS65_4 HGz13
        have hcz13_5 := cellS65_5 HGz13
        have hcz13_6 := cellS65_6 HGz13
        have hcz13_7 := cellS65_7 HGz13
        have hcz13_8 := cellS65_8 HGz13
        have hcz13_9 := cellS65_9 HGz13
        have hcz13_10 := cellS65_10 HGz13
        have hcz13_11 := cellS65_11 HGz13
        have hcz13_12 := cellS65_12 HGz13
        have hcz13_13 := cellS65_13 HGz13
        have hfz13_3 := blk_frozen HGz13 3
        have hfz13_4 := blk_frozen HGz13 4
        have hfz13_5 := blk_frozen HGz13 5
        have hfz13_6 := blk_frozen HGz13 6
        have hfz13_7 := blk_frozen HGz13 7
        have hfz13_8 := blk_frozen HGz13 8
        have hfz13_13 := blk_frozen HGz13 13
        clear HGz13 hgz13
        go_wp2
        go_loopg [5, 33] k1 (fun kq v5 v33 w' => ∃ (x5_2 : List Int) (x33_2 : Int) (x1003_2 : Int) (x1004_2 : Int) (x1005_2 : Int) (x1006_2 : Int) (x1007_2 : Int) (x1008_2 : Int) (x1013_2 : Int), v33 = .int .i64 x33_2 ∧ Aside0 (slack_view_least.l1 kq a1 x5_2 s0_9 (s0_9.length : Int) x33_2 s0_0 s0_1 s0_2 x1003_2 x1004_2 x1005_2 x1006_2 x1007_2 x1008_2 s0_9 s0_10 s0_11 s0_12 x1013_2 = some (r1, r2, r3, r4, r5, r6, r7, r8)) ∧ Aside0 (kq ≤ k1) ∧ Aside0 (Kd.R (Kd.int .i64) 3 w' w.heap.size (fun _ => True) v5 x5_2) ∧ Aside0 (IsS65 w0 w' g s0_0 s0_1 s0_2 x1003_2 x1004_2 x1005_2 x1006_2 x1007_2 x1008_2 s0_9 s0_10 s0_11 s0_12 x1013_2) ∧ Aside0 (KeepBut w w' g none) ∧ Aside0 (Below w0.heap.size w0 w'))
        case atStart => exact ⟨(x5_1), (0), (s0_3), (s0_4), (s0_5), (s0_6), (s0_7), (s0_8), (s0_13), (by first | rfl | (simp; done) | (simp [*]; done)), H', ⟨Nat.le_refl _⟩, ⟨by (with_reducible repeat (first | apply Kd.R_alloc | apply Kd.R_drewN | apply Kd.R_drew)); exact HO_5.out⟩, ⟨by repeat (first | (with_reducible first | exact HI0.out | apply IsS65.alloc | apply IsS65.drewN | apply IsS65.drew | apply IsS65.set_3 | apply IsS65.set_4 | apply IsS65.set_5 | apply IsS65.set_6 | apply IsS65.set_7 | apply IsS65.set_8 | apply IsS65.set_13) | exact HI0.out)⟩, ⟨by repeat (first | (with_reducible first | exact HK.out | apply KeepBut.set_ | apply keep_drewN | apply keep_drew | apply keep_alloc) | exact HK.out)⟩, ⟨by repeat (first | (with_reducible first | exact HB.out | apply below_alloc | apply pw_below_drewN | apply below_drew1 | refine below_set ?_ (IsS65.ge HI0.out)) | exact HB.out)⟩⟩
        case round =>
          clear H'
          try clear c1
          try clear p2
          try clear q2
          try clear hx2
          try clear c3
          try clear c4
          try clear c4b0
          try clear c5
          try clear c5b0
          try clear c6
          try clear c6b0
          try clear p6
          try clear c7
          try clear c10
          try clear hcz11_0
          try clear hcz11_1
          try clear hcz11_2
          try clear hcz11_3
          try clear hcz11_4
          try clear hcz11_5
          try clear hcz13_0
          try clear hcz13_1
          try clear hcz13_10
          try clear hcz13_11
          try clear hcz13_12
          try clear hcz13_13
          try clear hcz13_2
          try clear hcz13_3
          try clear hcz13_4
          try clear hcz13_5
          try clear hcz13_6
          try clear hcz13_7
          try clear hcz13_8
          try clear hcz13_9
          try clear hcz3_0
          try clear hcz3_1
          try clear hcz3_10
          try clear hcz3_11
          try clear hcz3_12
          try clear hcz3_13
          try clear hcz3_2
          try clear hcz3_3
          try clear hcz3_4
          try clear hcz3_5
          try clear hcz3_6
          try clear hcz3_7
          try clear hcz3_8
          try clear hcz3_9
          try clear hcz8_0
          try clear hcz8_1
          try clear hcz8_10
          try clear hcz8_11
          try clear hcz8_12
          try clear hcz8_13
          try clear hcz8_2
          try clear hcz8_3
          try clear hcz8_4
          try clear hcz8_5
          try clear hcz8_6
          try clear hcz8_7
          try clear hcz8_8
          try clear hcz8_9
          try clear hfz11_0
          try clear hfz11_1
          try clear hfz11_2
          try clear hfz11_3
          try clear hfz11_4
          try clear hfz11_5
          try clear hfz13_13
          try clear hfz13_3
          try clear hfz13_4
          try clear hfz13_5
          try clear hfz13_6
          try clear hfz13_7
          try clear hfz13_8
          try clear hfz3_13
          try clear hfz3_3
          try clear hfz3_4
          try clear hfz3_5
          try clear hfz3_6
          try clear hfz3_7
          try clear hfz3_8
          try clear hfz8_13
          try clear hfz8_3
          try clear hfz8_4
          try clear hfz8_5
          try clear hfz8_6
          try clear hfz8_7
          try clear hfz8_8
          try clear hx222_0
          try clear hx222_1
          try clear hx222_2
          try clear hx222_3
          try clear hx222_4
          try clear hx222_5
          try clear p2
          try clear p222
          try clear q222
          obtain ⟨x5_2, x33_2, x1003_2, x1004_2, x1005_2, x1006_2, x1007_2, x1008_2, x1013_2, rfl, HA, HK2, HO_5, HI0, HK, HB⟩ := hrel
          cases gk with
          | zero => exact absurd HA.out (by simp [slack_view_least.l1])
          | succ k2 =>
            have H := HA.out
            clear HA
            simp only [slack_view_least.l1] at H
            by_cases c14 : x33_2 < (s0_9.length : Int)
            · rw [if_pos c14] at H
              have c14b0 : decide (x33_2 < (s0_9.length : Int)) = true := decide_eq_true c14
              clear c14
              by_cases c15 : 0 ≤ x33_2
              · rw [if_pos c15] at H
                have c15b0 : decide (0 ≤ x33_2) = true := decide_eq_true c15
                clear c15
                by_cases c16 : x33_2 < (s0_9.length : Int)
                · rw [if_pos c16] at H
                  have c16b0 : decide (x33_2 < (s0_9.length : Int)) = true := decide_eq_true c16
                  clear c16
                  by_cases c17 : ((rd_T36 s0_9 x33_2).f0) > 0
                  · rw [if_pos c17] at H
                    have c17b0 : decide (0 < ((rd_T36 s0_9 x33_2).f0)) = true := decide_eq_true c17
                    clear c17
                    replace H := Option.bind_eq_some_iff.mp H
                    obtain ⟨⟨t229, t230, t231, t232, t233, t234, t235, t236⟩, A180, H⟩ := H
                    replace H : (if x5_2.length < 17592186044416 then (slack_view_least.l1 k2 a1 (x5_2 ++ [wrap64 (t229 + ((rd_T36 s0_9 x33_2).f0))]) s0_9 (s0_9.length : Int) (wrap64 (x33_2 + 1)) s0_0 s0_1 s0_2 t230 t231 t232 t233 t234 t235 s0_9 s0_10 s0_11 s0_12 t236) else (none)) = some (r1, r2, r3, r4, r5, r6, r7, r8) := H
                    have A18 := Aside0.mk A180
                    clear A180
                    by_cases c19 : x5_2.length < 17592186044416
                    · rw [if_pos c19] at H
                      have LMc19 := Aside0.mk c19
                      clear c19
                      obtain ⟨y237, hy237⟩ : ∃ y_ : List Int, y_ = (x5_2 ++ [wrap64 (t229 + ((rd_T36 s0_9 x33_2).f0))]) := ⟨_, rfl⟩
                      replace H : (slack_view_least.l1 k2 a1 y237 s0_9 (s0_9.length : Int) (wrap64 (x33_2 + 1)) s0_0 s0_1 s0_2 t230 t231 t232 t233 t234 t235 s0_9 s0_10 s0_11 s0_12 t236) = some (r1, r2, r3, r4, r5, r6, r7, r8) := by first | (rw [hy237]; with_reducible exact H) | (have H2_ := (Option.bind_some _ _).symm.trans H; rw [hy237]; with_reducible exact H2_) | (have H2_ := (Option.bind_some _ _).symm.trans H; with_reducible exact H2_) | with_reducible exact H | (rw [hy237]; exact H) | exact H
                      have Ny237 := Aside0.mk hy237
                      clear hy237
                      have H' := Aside0.mk H
                      clear H
                      obtain ⟨ASz20_0, cSz20_0, ASz20_1, cSz20_1, ASz20_2, cSz20_2, ASz20_9, cSz20_9, ASz20_10, cSz20_10, ASz20_11, cSz20_11, ASz20_12, cSz20_12, HGz20, hgz20, HSz20_0, HSz20_1, HSz20_2, HSz20_9, HSz20_10, HSz20_11, HSz20_12⟩ := HI0.out
                      have hcz20_0 := cellS65_0 HGz20
                      have hcz20_1 := cellS65_1 HGz20
                      have hcz20_2 := cellS65_2 HGz20
                      have hcz20_3 := cellS65_3 HGz20
                      have hcz20_4 := cellS65_4 HGz20
                      have hcz20_5 := cellS65_5 HGz20
                      have hcz20_6 := cellS65_6 HGz20
                      have hcz20_7 := cellS65_7 HGz20
                      have hcz20_8 := cellS65_8 HGz20
                      have hcz20_9 := cellS65_9 HGz20
                      have hcz20_10 := cellS65_10 HGz20
                      have hcz20_11 := cellS65_11 HGz20
                      have hcz20_12 := cellS65_12 HGz20
                      have hcz20_13 := cellS65_13 HGz20
                      have hfz20_3 := blk_frozen HGz20 3
                      have hfz20_4 := blk_frozen HGz20 4
                      have hfz20_5 := blk_frozen HGz20 5
                      have hfz20_6 := blk_frozen HGz20 6
                      have hfz20_7 := blk_frozen HGz20 7
                      have hfz20_8 := blk_frozen HGz20 8
                      have hfz20_13 := blk_frozen HGz20 13
                      clear HGz20 hgz20
                      have p227 : 0 ≤ (x33_2 : Int) := of_decide_eq_true (by first | (with_reducible assumption) | assumption)
                      have q227 : x33_2 < (s0_9.length : Int) := of_decide_eq_true (by first | (with_reducible assumption) | assumption)
                      obtain ⟨ad227, A227_2, c227_2, A227_3, c227_3, e227, hx227_0, hx227_1, hx227_2, hx227_3, hl227_2, hi227_2, hl227_3, hi227_3⟩ := at_T36 HSz13_9 x33_2 p227 q227
                      cases e227
                      replace hx227_0 := pw_cell_below HB.out hx227_0
                      replace hx227_1 := pw_cell_below HB.out hx227_1
                      replace hx227_2 := pw_cell_below HB.out hx227_2
                      replace hx227_3 := pw_cell_below HB.out hx227_3
                      have HR227_2 := Aside0.mk (Kd.C_below hi227_2 HB.out)
                      have HC227_2 := Aside0.mk hl227_2
                      clear hi227_2 hl227_2
                      have HR227_3 := Aside0.mk (Kd.C_below hi227_3 HB.out)
                      have HC227_3 := Aside0.mk hl227_3
                      clear hi227_3 hl227_3
                      replace p227 := eq_true p227
                      replace q227 := eq_true q227
                      try go_wp2_with (first | ((with_reducible refine gate_dst (N := 9) rfl ?_); refine box_event ?hg (N := 9) ?hd (cs := #[.int .i64 0, .int .i64 0, .slice none 0 0, .slice none 0 0]) (t := 36) ?hr ?_; (case hd => rfl); (case hg => rfl); (case hr => first | (go_simp; done) | (go_simp; rfl)); intro gb228 hg w21 hbox hb; have n0_ := Aside0.mk (Kd.R_below (by (with_reducible repeat (first | apply Kd.R_alloc | apply Kd.R_drewN | apply Kd.R_drew)); exact HO_5.out) hb); have n1_ := Aside0.mk (IsS65.below (by repeat (first | (with_reducible first | exact HI0.out | apply IsS65.alloc | apply IsS65.drewN | apply IsS65.drew | apply IsS65.set_3 | apply IsS65.set_4 | apply IsS65.set_5 | apply IsS65.set_6 | apply IsS65.set_7 | apply IsS65.set_8 | apply IsS65.set_13) | exact HI0.out)) hb); have n2_ := Aside0.mk (Kd.C_below (by repeat (first | (with_reducible exact HR227_2.out) | (with_reducible refine Kd.C_alloc ?_ _) | (with_reducible refine Kd.C_drewN ?_ _) | (with_reducible refine Kd.C_drew ?_) | exact HR227_2.out)) hb); have n3_ := Aside0.mk (Kd.C_below (by repeat (first | (with_reducible exact HR227_3.out) | (with_reducible refine Kd.C_alloc ?_ _) | (with_reducible refine Kd.C_drewN ?_ _) | (with_reducible refine Kd.C_drew ?_) | exact HR227_3.out)) hb); have n4_ := Aside0.mk (KeepBut.trans (by repeat (first | (with_reducible first | exact HK.out | apply KeepBut.set_ | apply keep_drewN | apply keep_drew | apply keep_alloc) | exact HK.out)) (KeepBut.of_below hb g none) (.inl rfl)); have n5_ := Aside0.mk (below_step (by repeat (first | (with_reducible first | exact HB.out | apply below_alloc | apply pw_below_drewN | apply below_drew1 | refine below_set ?_ (IsS65.ge HI0.out)) | exact HB.out)) hb); have n6_ := Aside0.mk (hbox); have n7_ := Aside0.mk ((by rw [hg]; exact (keep_size (w := w) (g := g) (row := none) (by repeat (first | (with_reducible first | exact HK.out | apply KeepBut.set_ | apply keep_drewN | apply keep_drew | apply keep_alloc) | exact HK.out))) : w.heap.size ≤ gb228)); have n8_ := Aside0.mk ((Nat.le_trans HW0.out (by rw [hg]; exact (keep_size (w := w) (g := g) (row := none) (by repeat (first | (with_reducible first | exact HK.out | apply KeepBut.set_ | apply keep_drewN | apply keep_drew | apply keep_alloc) | exact HK.out))) : w.heap.size ≤ gb228) : w0.heap.size ≤ gb228)); have n9_ := Aside0.mk ((by rw [hg]; exact Nat.ne_of_lt (IsS65.lt (show IsS65 w0 _ g s0_0 s0_1 s0_2 x1003_2 x1004_2 x1005_2 x1006_2 x1007_2 x1008_2 s0_9 s0_10 s0_11 s0_12 x1013_2 from by repeat (first | (with_reducible first | exact HI0.out | apply IsS65.alloc | apply IsS65.drewN | apply IsS65.drew | apply IsS65.set_3 | apply IsS65.set_4 | apply IsS65.set_5 | apply IsS65.set_6 | apply IsS65.set_7 | apply IsS65.set_8 | apply IsS65.set_13) | exact HI0.out))) : g ≠ gb228)); have n10_ := Aside0.mk ((by rw [hg]; exact Nat.ne_of_gt (IsS65.lt (show IsS65 w0 _ g s0_0 s0_1 s0_2 x1003_2 x1004_2 x1005_2 x1006_2 x1007_2 x1008_2 s0_9 s0_10 s0_11 s0_12 x1013_2 from by repeat (first | (with_reducible first | exact HI0.out | apply IsS65.alloc | apply IsS65.drewN | apply IsS65.drew | apply IsS65.set_3 | apply IsS65.set_4 | apply IsS65.set_5 | apply IsS65.set_6 | apply IsS65.set_7 | apply IsS65.set_8 | apply IsS65.set_13) | exact HI0.out))) : gb228 ≠ g)); clear HO_5; clear HI0; clear HR227_2; clear HR227_3; clear HK; clear HB; have HO_5 := n0_; have HI0 := n1_; have HR227_2 := n2_; have HR227_3 := n3_; have HK := n4_; have HB := n5_; have BK228 := n6_; have GW228 := n7_; have GE228 := n8_; have NB0_228 := n9_; have NB228_0 := n10_; clear n0_ n1_ n2_ n3_ n4_ n5_ n6_ n7_ n8_ n9_ n10_; clear hb hbox hg; have hnb22 := NB228_0.out; have hnc22 := NB0_228.out; have hcz23_0 : w21.cell? ⟨gb228, 0, none⟩ = some (.int .i64 0) := (blk_cell BK228.out 0).trans rfl; have hcz23_1 : w21.cell? ⟨gb228, 1, none⟩ = some (.int .i64 0) := (blk_cell BK228.out 1).trans rfl; have hcz23_2 : w21.cell? ⟨gb228, 2, none⟩ = some (.slice none 0 0) := (blk_cell BK228.out 2).trans rfl; have hcz23_3 : w21.cell? ⟨gb228, 3, none⟩ = some (.slice none 0 0) := (blk_cell BK228.out 3).trans rfl; have hfz23_0 := blk_frozen BK228.out 0; have hfz23_1 := blk_frozen BK228.out 1; have hfz23_2 := blk_frozen BK228.out 2; have hfz23_3 := blk_frozen BK228.out 3))
                      have n0_ : Aside0 (Kd.R (Kd.int .i64) 3 ((((w21.setCell ⟨gb228, 0, none⟩ (.int .i64 ((rd_T36 s0_9 x33_2).f0))).setCell ⟨gb228, 1, none⟩ (.int .i64 ((rd_T36 s0_9 x33_2).f1))).setCell ⟨gb228, 2, none⟩ (.slice A227_2 ((rd_T36 s0_9 x33_2).f2).length c227_2)).setCell ⟨gb228, 3, none⟩ (.slice A227_3 ((rd_T36 s0_9 x33_2).f3).length c227_3)) w.heap.size (fun _ => True) u5 x5_2) := ⟨by (with_reducible repeat (first | apply Kd.R_alloc | apply Kd.R_drewN | apply Kd.R_drew)); exact Kd.R_mono (Kd.R_far (p := ⟨gb228, 3, none⟩) (Kd.R_far (p := ⟨gb228, 2, none⟩) (Kd.R_far (p := ⟨gb228, 1, none⟩) (Kd.R_far (p := ⟨gb228, 0, none⟩) (Kd.R_types HO_5.out BK228.out (by decide)) (fun _ hk => hk.2) (.int .i64 ((rd_T36 s0_9 x33_2).f0))) (fun _ hk => hk.2) (.int .i64 ((rd_T36 s0_9 x33_2).f1))) (fun _ hk => hk.2) (.slice A227_2 ((rd_T36 s0_9 x33_2).f2).length c227_2)) (fun _ hk => hk.2) (.slice A227_3 ((rd_T36 s0_9 x33_2).f3).length c227_3)) (fun _ hk => trivial)⟩
                      have n1_ : Aside0 (((((w21.setCell ⟨gb228, 0, none⟩ (.int .i64 ((rd_T36 s0_9 x33_2).f0))).setCell ⟨gb228, 1, none⟩ (.int .i64 ((rd_T36 s0_9 x33_2).f1))).setCell ⟨gb228, 2, none⟩ (.slice A227_2 ((rd_T36 s0_9 x33_2).f2).length c227_2)).setCell ⟨gb228, 3, none⟩ (.slice A227_3 ((rd_T36 s0_9 x33_2).f3).length c227_3)).heap[gb228]? = some (.cells #[.int .i64 ((rd_T36 s0_9 x33_2).f0), .int .i64 ((rd_T36 s0_9 x33_2).f1), .slice A227_2 ((rd_T36 s0_9 x33_2).f2).length c227_2, .slice A227_3 ((rd_T36 s0_9 x33_2).f3).length c227_3] 36 (0, 0))) := ⟨by (with_reducible repeat (first | refine blk_drewN ?_ _ | refine blk_drew ?_ | refine blk_alloc ?_ _)); refine blk_put (cs := #[.int .i64 ((rd_T36 s0_9 x33_2).f0), .int .i64 ((rd_T36 s0_9 x33_2).f1), .slice A227_2 ((rd_T36 s0_9 x33_2).f2).length c227_2, .slice none 0 0]) ?_ 3 _ rfl; (with_reducible repeat (first | refine blk_drewN ?_ _ | refine blk_drew ?_ | refine blk_alloc ?_ _)); refine blk_put (cs := #[.int .i64 ((rd_T36 s0_9 x33_2).f0), .int .i64 ((rd_T36 s0_9 x33_2).f1), .slice none 0 0, .slice none 0 0]) ?_ 2 _ rfl; (with_reducible repeat (first | refine blk_drewN ?_ _ | refine blk_drew ?_ | refine blk_alloc ?_ _)); refine blk_put (cs := #[.int .i64 ((rd_T36 s0_9 x33_2).f0), .int .i64 0, .slice none 0 0, .slice none 0 0]) ?_ 1 _ rfl; (with_reducible repeat (first | refine blk_drewN ?_ _ | refine blk_drew ?_ | refine blk_alloc ?_ _)); refine blk_put (cs := #[.int .i64 0, .int .i64 0, .slice none 0 0, .slice none 0 0]) ?_ 0 _ rfl; (with_reducible repeat (first | refine blk_drewN ?_ _ | refine blk_drew ?_ | refine blk_alloc ?_ _)); exact BK228.out⟩
                      have n2_ : Aside0 (IsS65 w0 ((((w21.setCell ⟨gb228, 0, none⟩ (.int .i64 ((rd_T36 s0_9 x33_2).f0))).setCell ⟨gb228, 1, none⟩ (.int .i64 ((rd_T36 s0_9 x33_2).f1))).setCell ⟨gb228, 2, none⟩ (.slice A227_2 ((rd_T36 s0_9 x33_2).f2).length c227_2)).setCell ⟨gb228, 3, none⟩ (.slice A227_3 ((rd_T36 s0_9 x33_2).f3).length c227_3)) g s0_0 s0_1 s0_2 x1003_2 x1004_2 x1005_2 x1006_2 x1007_2 x1008_2 s0_9 s0_10 s0_11 s0_12 x1013_2) := ⟨by repeat (first | (with_reducible first | exact HI0.out | apply IsS65.alloc | apply IsS65.drewN | apply IsS65.drew | apply IsS65.set_3 | apply IsS65.set_4 | apply IsS65.set_5 | apply IsS65.set_6 | apply IsS65.set_7 | apply IsS65.set_8 | apply IsS65.set_13 | refine IsS65.far ?_ NB0_228.out _) | exact HI0.out)⟩
                      have n3_ : Aside0 (KeepBut w ((((w21.setCell ⟨gb228, 0, none⟩ (.int .i64 ((rd_T36 s0_9 x33_2).f0))).setCell ⟨gb228, 1, none⟩ (.int .i64 ((rd_T36 s0_9 x33_2).f1))).setCell ⟨gb228, 2, none⟩ (.slice A227_2 ((rd_T36 s0_9 x33_2).f2).length c227_2)).setCell ⟨gb228, 3, none⟩ (.slice A227_3 ((rd_T36 s0_9 x33_2).f3).length c227_3)) g none) := ⟨by repeat (first | (with_reducible first | exact HK.out | apply KeepBut.set_ | apply keep_drewN | apply keep_drew | apply keep_alloc | refine keep_far ?_ GW228.out _) | exact HK.out)⟩
                      have n4_ : Aside0 (Below w0.heap.size w0 ((((w21.setCell ⟨gb228, 0, none⟩ (.int .i64 ((rd_T36 s0_9 x33_2).f0))).setCell ⟨gb228, 1, none⟩ (.int .i64 ((rd_T36 s0_9 x33_2).f1))).setCell ⟨gb228, 2, none⟩ (.slice A227_2 ((rd_T36 s0_9 x33_2).f2).length c227_2)).setCell ⟨gb228, 3, none⟩ (.slice A227_3 ((rd_T36 s0_9 x33_2).f3).length c227_3))) := ⟨by repeat (first | (with_reducible first | exact HB.out | apply below_alloc | apply pw_below_drewN | apply below_drew1 | refine below_set ?_ (IsS65.ge HI0.out) | refine below_set ?_ GE228.out) | exact HB.out)⟩
                      (try clear HO_5)
                      (try clear BK228)
                      (try clear HI0)
                      (try clear HK)
                      (try clear HB)
                      generalize ((((w21.setCell ⟨gb228, 0, none⟩ (.int .i64 ((rd_T36 s0_9 x33_2).f0))).setCell ⟨gb228, 1, none⟩ (.int .i64 ((rd_T36 s0_9 x33_2).f1))).setCell ⟨gb228, 2, none⟩ (.slice A227_2 ((rd_T36 s0_9 x33_2).f2).length c227_2)).setCell ⟨gb228, 3, none⟩ (.slice A227_3 ((rd_T36 s0_9 x33_2).f3).length c227_3)) = w24 at n0_ n1_ n2_ n3_ n4_ ⊢
                      have HO_5 := n0_
                      have BK228 := n1_
                      have HI0 := n2_
                      have HK := n3_
                      have HB := n4_
                      clear n0_ n1_ n2_ n3_ n4_
                      have n0_ := Aside0.mk (Kd.R_drew HO_5.out)
                      have n1_ := Aside0.mk (blk_drew BK228.out)
                      have n2_ := Aside0.mk (IsS65.drew HI0.out)
                      have n3_ := Aside0.mk (keep_drew HK.out)
                      have n4_ := Aside0.mk (below_drew1 HB.out)
                      clear HO_5
                      clear BK228
                      clear HI0
                      clear HK
                      clear HB
                      have HO_5 := n0_
                      have BK228 := n1_
                      have HI0 := n2_
                      have HK := n3_
                      have HB := n4_
                      clear n0_ n1_ n2_ n3_ n4_
                      refine start_ (n := 10) (S := fun w' => w'.cell? ⟨gb228, 0, none⟩ = some (.int .i64 ((rd_T36 s0_9 x33_2).f0)) ∧ w'.cell? ⟨gb228, 1, none⟩ = some (.int .i64 ((rd_T36 s0_9 x33_2).f1)) ∧ w'.cell? ⟨gb228, 2, none⟩ = some (.slice A227_2 ((rd_T36 s0_9 x33_2).f2).length c227_2) ∧ w'.cell? ⟨gb228, 3, none⟩ = some (.slice A227_3 ((rd_T36 s0_9 x33_2).f3).length c227_3)) (ds := []) #[false, false, false, false, false, false, false, false, false, false] (by kernel_rfl) rfl rfl ⟨(blk_cell BK228.out 0).trans rfl, (blk_cell BK228.out 1).trans rfl, (blk_cell BK228.out 2).trans rfl, (blk_cell BK228.out 3).trans rfl⟩ (fun hHeld => ?_); refine with_tabW slack_view_least.tab11 slack_view_least.bits11 (fun HT_ HW_ => ?_)
                      generalize w24.drew = w25 at HO_5 BK228 HI0 HK HB hHeld ⊢
                      refine pure_ (i := 0) (N := some 41) (v := ?_) (a' := ?_) #[true, false, false, false, false, false, false, false, false, false] rfl rfl (any_of HT_.out (by kernel_rfl)) (fun _ _ _ h => h) (Or.inl ⟨by rfl, ?_⟩) ?_ ?_
                      rotate_left
                      · intro w'
                        go_simp
                        with_reducible rfl
                      rotate_left
                      · simp only [Act.put, List.setIfInBounds_toArray, List.set_cons_zero, List.set_cons_succ, i64_w, i32_w]
                        rfl
                      refine pure_ (i := 1) (N := some 42) (v := ?_) (a' := ?_) #[true, true, false, false, false, false, false, false, false, false] rfl rfl (any_of HT_.out (by kernel_rfl)) (fun _ _ _ h => h) (Or.inl ⟨by rfl, ?_⟩) ?_ ?_
                      rotate_left
                      · intro w'
                        go_simp
                        with_reducible rfl
                      rotate_left
                      · simp only [Act.put, List.setIfInBounds_toArray, List.set_cons_zero, List.set_cons_succ, i64_w, i32_w]
                        rfl
                      refine pure_ (i := 2) (N := some 43) (v := ?_) (a' := ?_) #[true, true, true, false, false, false, false, false, false, false] rfl rfl (any_of HT_.out (by kernel_rfl)) (fun _ _ _ h => h) (Or.inl ⟨by rfl, ?_⟩) ?_ ?_
                      rotate_left
                      · intro w'
                        go_simp
                        with_reducible rfl
                      rotate_left
                      · simp only [Act.put, List.setIfInBounds_toArray, List.set_cons_zero, List.set_cons_succ, i64_w, i32_w]
                        rfl
                      refine pure_ (i := 4) (N := some 45) (v := ?_) (a' := ?_) #[true, true, true, false, true, false, false, false, false, false] rfl rfl (any_of HT_.out (by kernel_rfl)) (fun _ _ _ h => h) (Or.inl ⟨by rfl, ?_⟩) ?_ ?_
                      rotate_left
                      · intro w'
                        go_simp
                        with_reducible rfl
                      rotate_left
                      · simp only [Act.put, List.setIfInBounds_toArray, List.set_cons_zero, List.set_cons_succ, i64_w, i32_w]
                        rfl
                      refine take_ (i := 5) (N := some 46) (v := ?_) (a' := ?_) #[true, true, true, false, true, true, false, false, false, false] rfl rfl (take_ofW HT_.out HW_.out (by kernel_rfl)) (fun _ _ _ h => h) (Or.inl ⟨by rfl, ?_⟩) hHeld ?_ ?_
                      rotate_left
                      · rintro w' ⟨s0, s1, s2, s3⟩
                        go_simp
                        with_reducible rfl
                      rotate_left
                      · simp only [Act.put, List.setIfInBounds_toArray, List.set_cons_zero, List.set_cons_succ, i64_w, i32_w]
                        rfl
                      refine one_ (i := 3) (N := some 44) #[true, true, true, true, true, true, false, false, false, false] rfl rfl (one_of HT_.out (by kernel_rfl)) (by decide) (fun K hK => ?_)
                      refine goes_ Try.func47 (by kernel_rfl) rfl #[.pointer (some ⟨g, 0, none⟩), .int .i64 x33_2] (by rfl) rfl rfl (by (try simp only [List.map_toArray, List.map_cons, List.map_nil]); first | done | rfl | (simp only [List.length_drop, List.length_take]; rfl)) ?_
                      with_reducible refine (slack_view_from.calls g s0_0 s0_1 s0_2 x1003_2 x1004_2 x1005_2 x1006_2 x1007_2 x1008_2 s0_9 s0_10 s0_11 s0_12 x1013_2 x33_2 t229 t230 t231 t232 t233 t234 t235 t236 w0 _ ?side1 ?side2 A18.out).mono ?_
                      (case side1 => repeat (first | (with_reducible first | exact HI0.out | apply IsS65.alloc | apply IsS65.drewN | apply IsS65.drew | apply IsS65.set_3 | apply IsS65.set_4 | apply IsS65.set_5 | apply IsS65.set_6 | apply IsS65.set_7 | apply IsS65.set_8 | apply IsS65.set_13 | refine IsS65.far ?_ NB0_228.out _) | exact HI0.out))
                      (case side2 => repeat (first | (with_reducible first | exact HB.out | apply below_alloc | apply pw_below_drewN | apply below_drew1 | refine below_set ?_ (IsS65.ge HI0.out) | refine below_set ?_ GE228.out) | exact HB.out))
                      rintro e w26 ⟨rfl, hi, hb, hk⟩
                      refine ⟨_, rfl, ?_⟩
                      have n0_ := Aside0.mk (Kd.R_mono (Kd.R_keep (IsS65.apart (show IsS65 w0 _ g s0_0 s0_1 s0_2 x1003_2 x1004_2 x1005_2 x1006_2 x1007_2 x1008_2 s0_9 s0_10 s0_11 s0_12 x1013_2 from by repeat (first | (with_reducible first | exact HI0.out | apply IsS65.alloc | apply IsS65.drewN | apply IsS65.drew | apply IsS65.set_3 | apply IsS65.set_4 | apply IsS65.set_5 | apply IsS65.set_6 | apply IsS65.set_7 | apply IsS65.set_8 | apply IsS65.set_13 | refine IsS65.far ?_ NB0_228.out _) | exact HI0.out)) (by (with_reducible repeat (first | apply Kd.R_alloc | apply Kd.R_drewN | apply Kd.R_drew)); exact HO_5.out) (by decide)) hk (fun _ h => h.2)) (fun _ h => h.1))
                      have n1_ := Aside0.mk (KeepBut.blk hk (g' := gb228) (o := .cells #[.int .i64 ((rd_T36 s0_9 x33_2).f0), .int .i64 ((rd_T36 s0_9 x33_2).f1), .slice A227_2 ((rd_T36 s0_9 x33_2).f2).length c227_2, .slice A227_3 ((rd_T36 s0_9 x33_2).f3).length c227_3] 36 (0, 0)) (by (with_reducible repeat (first | refine blk_drewN ?_ _ | refine blk_drew ?_ | refine blk_alloc ?_ _)); exact BK228.out) NB228_0.out (by simp))
                      have n2_ := Aside0.mk (KeepBut.trans (by repeat (first | (with_reducible first | exact HK.out | apply KeepBut.set_ | apply keep_drewN | apply keep_drew | apply keep_alloc | refine keep_far ?_ GW228.out _) | exact HK.out)) hk (.inl rfl))
                      have n3_ := Aside0.mk (hb)
                      have n4_ := Aside0.mk (hi)
                      clear HO_5
                      clear BK228
                      clear HK
                      clear HB
                      clear HI0
                      have HO_5 := n0_
                      have BK228 := n1_
                      have HK := n2_
                      have HB := n3_
                      have HI0 := n4_
                      clear n0_ n1_ n2_ n3_ n4_
                      (try clear hb)
                      (try clear hb2)
                      (try clear hk)
                      (try clear hi)
                      refine hK.out _ _ ⟨(blk_cell BK228.out 0).trans rfl, (blk_cell BK228.out 1).trans rfl, (blk_cell BK228.out 2).trans rfl, (blk_cell BK228.out 3).trans rfl⟩ (fun hHeld => ?_)
                      clear hK K
                      refine norm_ (a' := ?_) ?_ ?_
                      rotate_left
                      · show Act.put _ (some 44) _ = _
                        simp only [Act.put, List.setIfInBounds_toArray, List.set_cons_zero, List.set_cons_succ, i64_w, i32_w]
                        rfl
                      refine pure_ (i := 6) (N := some 47) (v := ?_) (a' := ?_) #[true, true, true, true, true, true, true, false, false, false] rfl rfl (any_of HT_.out (by kernel_rfl)) (fun _ _ _ h => h) (Or.inl ⟨by rfl, ?_⟩) ?_ ?_
                      rotate_left
                      · intro w'
                        go_simp
                        with_reducible rfl
                      rotate_left
                      · simp only [Act.put, List.setIfInBounds_toArray, List.set_cons_zero, List.set_cons_succ, i64_w, i32_w]
                        rfl
                      refine one_ (i := 7) (N := some 48) #[true, true, true, true, true, true, true, true, false, false] rfl rfl (one_of HT_.out (by kernel_rfl)) (by decide) (fun K hK => ?_)
                      refine value_ (w1 := ?_) (v := ?_) (by rfl) rfl ?_ ?_
                      rotate_left 2
                      · go_simp
                        constructor
                        · rfl
                        · rfl
                      refine hK.out _ _ ⟨(blk_cell (blk_alloc BK228.out _) 0).trans rfl, (blk_cell (blk_alloc BK228.out _) 1).trans rfl, (blk_cell (blk_alloc BK228.out _) 2).trans rfl, (blk_cell (blk_alloc BK228.out _) 3).trans rfl⟩ (fun hHeld => ?_)
                      clear hK K
                      refine norm_ (a' := ?_) ?_ ?_
                      rotate_left
                      · show Act.put _ (some 48) _ = _
                        simp only [Act.put, List.setIfInBounds_toArray, List.set_cons_zero, List.set_cons_succ, i64_w, i32_w]
                        rfl
                      refine one_ (i := 8) (N := some 49) #[true, true, true, true, true, true, true, true, true, false] rfl rfl (one_of HT_.out (by kernel_rfl)) (by decide) (fun K hK => ?_)
                      refine Kd.R_append_step (Kd.int .i64) w.heap.size (by rfl) (.tmp 41) (.tmp 48) 28 3 (.int .i64 0) 8 rfl Try.underlying28 info3 rfl (by decide) (by omega) u5 x5_2 (wrap64 (t229 + ((rd_T36 s0_9 x33_2).f0))) [.int .i64 (wrap64 (t229 + ((rd_T36 s0_9 x33_2).f0)))] (fun _ => True) (fun _ => False) rfl rfl ?aP (fun _ hk => hk.elim) ?aF ?aO (Below.refl _ _) ?aS ?aL ?_
                      (case aP => exact rfl)
                      (case aF => exact (fun _ _ => trivial))
                      (case aO => exact (by (with_reducible repeat (first | apply Kd.R_alloc | apply Kd.R_drewN | apply Kd.R_drew)); exact HO_5.out))
                      (case aS => exact (keep_size (w := w) (g := g) (row := none) (by repeat (first | (with_reducible first | exact HK.out | apply KeepBut.set_ | apply keep_drewN | apply keep_drew | apply keep_alloc | refine keep_far ?_ GW228.out _) | exact HK.out))))
                      (case aL => have := LMc19.out; omega)
                      intro v238 w27 ho hb hg hat
                      rw [← Ny237.out] at ho
                      have n0_ := Aside0.mk (IsS65.grown (by repeat (first | (with_reducible first | exact HI0.out | apply IsS65.alloc | apply IsS65.drewN | apply IsS65.drew | apply IsS65.set_3 | apply IsS65.set_4 | apply IsS65.set_5 | apply IsS65.set_6 | apply IsS65.set_7 | apply IsS65.set_8 | apply IsS65.set_13 | refine IsS65.far ?_ NB0_228.out _) | exact HI0.out)) hg (IsS65.own_ne HI0.out HO_5.out (by decide)))
                      have n1_ := Aside0.mk (blk_grown (g := gb228) (o := .cells #[.int .i64 ((rd_T36 s0_9 x33_2).f0), .int .i64 ((rd_T36 s0_9 x33_2).f1), .slice A227_2 ((rd_T36 s0_9 x33_2).f2).length c227_2, .slice A227_3 ((rd_T36 s0_9 x33_2).f3).length c227_3] 36 (0, 0)) (by (with_reducible repeat (first | refine blk_drewN ?_ _ | refine blk_drew ?_ | refine blk_alloc ?_ _)); exact BK228.out) hg (Kd.R_ne HO_5.out BK228.out (by decide)))
                      have n2_ := Aside0.mk (below_weaken (by repeat (first | (with_reducible first | exact HB.out | apply below_alloc | apply pw_below_drewN | apply below_drew1 | refine below_set ?_ (IsS65.ge HI0.out) | refine below_set ?_ GE228.out) | exact HB.out)) HL.out hb)
                      have n3_ := Aside0.mk (KeepBut.trans (by repeat (first | (with_reducible first | exact HK.out | apply KeepBut.set_ | apply keep_drewN | apply keep_drew | apply keep_alloc | refine keep_far ?_ GW228.out _) | exact HK.out)) (KeepBut.of_grown hg g) (Kd.R_base2 HO_5.out))
                      have n4_ := Aside0.mk (ho)
                      clear HI0
                      clear BK228
                      clear HB
                      clear HK
                      clear HO_5
                      have HI0 := n0_
                      have BK228 := n1_
                      have HB := n2_
                      have HK := n3_
                      have HO239 := n4_
                      clear n0_ n1_ n2_ n3_ n4_
                      clear ho hb hg hat
                      refine hK.out _ _ ⟨(blk_cell BK228.out 0).trans rfl, (blk_cell BK228.out 1).trans rfl, (blk_cell BK228.out 2).trans rfl, (blk_cell BK228.out 3).trans rfl⟩ (fun hHeld => ?_)
                      clear hK K
                      refine norm_ (a' := ?_) ?_ ?_
                      rotate_left
                      · show Act.put _ (some 49) _ = _
                        simp only [Act.put, List.setIfInBounds_toArray, List.set_cons_zero, List.set_cons_succ, i64_w, i32_w]
                        rfl
                      refine pure_ (i := 9) (N := some 5) (v := ?_) (a' := ?_) #[true, true, true, true, true, true, true, true, true, true] rfl rfl (any_of HT_.out (by kernel_rfl)) (fun _ _ _ h => h) (Or.inl ⟨by rfl, ?_⟩) ?_ ?_
                      rotate_left
                      · intro w'
                        go_simp
                        with_reducible rfl
                      rotate_left
                      · simp only [Act.put, List.setIfInBounds_toArray, List.set_cons_zero, List.set_cons_succ, i64_w, i32_w]
                        rfl
                      refine done_ (done_of HT_.out (by kernel_rfl)) ?_
                      try go_wp2
                      go_roundg k2
                      case measure => have := HK1.out; have := HK2.out; omega
                      case rel => exact ⟨(y237), (wrap64 (x33_2 + 1)), (t230), (t231), (t232), (t233), (t234), (t235), (t236), (by first | rfl | (simp; done) | (simp [*]; done)), H', ⟨by have := HK1.out; have := HK2.out; omega⟩, ⟨by (with_reducible repeat (first | apply Kd.R_alloc | apply Kd.R_drewN | apply Kd.R_drew)); exact HO239.out⟩, ⟨by repeat (first | (with_reducible first | exact HI0.out | apply IsS65.alloc | apply IsS65.drewN | apply IsS65.drew | apply IsS65.set_3 | apply IsS65.set_4 | apply IsS65.set_5 | apply IsS65.set_6 | apply IsS65.set_7 | apply IsS65.set_8 | apply IsS65.set_13 | refine IsS65.far ?_ NB0_228.out _) | exact HI0.out)⟩, ⟨by repeat (first | (with_reducible first | exact HK.out | apply KeepBut.set_ | apply keep_drewN | apply keep_drew | apply keep_alloc | refine keep_far ?_ GW228.out _) | exact HK.out)⟩, ⟨by repeat (first | (with_reducible first | exact HB.out | apply below_alloc | apply pw_below_drewN | apply below_drew1 | refine below_set ?_ (IsS65.ge HI0.out) | refine below_set ?_ GE228.out) | exact HB.out)⟩⟩
                    · rw [if_neg c19] at H
                      exact absurd H (by simp)
                  · rw [if_neg c17] at H
                    have c17b0 : decide (0 < ((rd_T36 s0_9 x33_2).f0)) = false := decide_eq_false c17
                    clear c17
                    have H' := Aside0.mk H
                    clear H
                    obtain ⟨ASz28_0, cSz28_0, ASz28_1, cSz28_1, ASz28_2, cSz28_2, ASz28_9, cSz28_9, ASz28_10, cSz28_10, ASz28_11, cSz28_11, ASz28_12, cSz28_12, HGz28, hgz28, HSz28_0, HSz28_1, HSz28_2, HSz28_9, HSz28_10, HSz28_11, HSz28_12⟩ := HI0.out
                    have hcz28_0 := cellS65_0 HGz28
                    have hcz28_1 := cellS65_1 HGz28
                    have hcz28_2 := cellS65_2 HGz28
                    have hcz28_3 := cellS65_3 HGz28
                    have hcz28_4 := cellS65_4 HGz28
                    have hcz28_5 := cellS65_5 HGz28
                    have hcz28_6 := cellS65_6 HGz28
                    have hcz28_7 := cellS65_7 HGz28
                    have hcz28_8 := cellS65_8 HGz28
                    have hcz28_9 := cellS65_9 HGz28
                    have hcz28_10 := cellS65_10 HGz28
                    have hcz28_11 := cellS65_11 HGz28
                    have hcz28_12 := cellS65_12 HGz28
                    have hcz28_13 := cellS65_13 HGz28
                    have hfz28_3 := blk_frozen HGz28 3
                    have hfz28_4 := blk_frozen HGz28 4
                    have hfz28_5 := blk_frozen HGz28 5
                    have hfz28_6 := blk_frozen HGz28 6
                    have hfz28_7 := blk_frozen HGz28 7
                    have hfz28_8 := blk_frozen HGz28 8
                    have hfz28_13 := blk_frozen HGz28 13
                    clear HGz28 hgz28
                    have p227 : 0 ≤ (x33_2 : Int) := of_decide_eq_true (by first | (with_reducible assumption) | assumption)
                    have q227 : x33_2 < (s0_9.length : Int) := of_decide_eq_true (by first | (with_reducible assumption) | assumption)
                    obtain ⟨ad227, A227_2, c227_2, A227_3, c227_3, e227, hx227_0, hx227_1, hx227_2, hx227_3, hl227_2, hi227_2, hl227_3, hi227_3⟩ := at_T36 HSz13_9 x33_2 p227 q227
                    cases e227
                    replace hx227_0 := pw_cell_below HB.out hx227_0
                    replace hx227_1 := pw_cell_below HB.out hx227_1
                    replace hx227_2 := pw_cell_below HB.out hx227_2
                    replace hx227_3 := pw_cell_below HB.out hx227_3
                    have HR227_2 := Aside0.mk (Kd.C_below hi227_2 HB.out)
                    have HC227_2 := Aside0.mk hl227_2
                    clear hi227_2 hl227_2
                    have HR227_3 := Aside0.mk (Kd.C_below hi227_3 HB.out)
                    have HC227_3 := Aside0.mk hl227_3
                    clear hi227_3 hl227_3
                    replace p227 := eq_true p227
                    replace q227 := eq_true q227
                    go_wp2_with (first | ((with_reducible refine gate_dst (N := 9) rfl ?_); refine box_event ?hg (N := 9) ?hd (cs := #[.int .i64 0, .int .i64 0, .slice none 0 0, .slice none 0 0]) (t := 36) ?hr ?_; (case hd => rfl); (case hg => rfl); (case hr => first | (go_simp; done) | (go_simp; rfl)); intro gb228 hg w29 hbox hb; have n0_ := Aside0.mk (Kd.R_below (by (with_reducible repeat (first | apply Kd.R_alloc | apply Kd.R_drewN | apply Kd.R_drew)); exact HO_5.out) hb); have n1_ := Aside0.mk (IsS65.below (by repeat (first | (with_reducible first | exact HI0.out | apply IsS65.alloc | apply IsS65.drewN | apply IsS65.drew | apply IsS65.set_3 | apply IsS65.set_4 | apply IsS65.set_5 | apply IsS65.set_6 | apply IsS65.set_7 | apply IsS65.set_8 | apply IsS65.set_13) | exact HI0.out)) hb); have n2_ := Aside0.mk (Kd.C_below (by repeat (first | (with_reducible exact HR227_2.out) | (with_reducible refine Kd.C_alloc ?_ _) | (with_reducible refine Kd.C_drewN ?_ _) | (with_reducible refine Kd.C_drew ?_) | exact HR227_2.out)) hb); have n3_ := Aside0.mk (Kd.C_below (by repeat (first | (with_reducible exact HR227_3.out) | (with_reducible refine Kd.C_alloc ?_ _) | (with_reducible refine Kd.C_drewN ?_ _) | (with_reducible refine Kd.C_drew ?_) | exact HR227_3.out)) hb); have n4_ := Aside0.mk (KeepBut.trans (by repeat (first | (with_reducible first | exact HK.out | apply KeepBut.set_ | apply keep_drewN | apply keep_drew | apply keep_alloc) | exact HK.out)) (KeepBut.of_below hb g none) (.inl rfl)); have n5_ := Aside0.mk (below_step (by repeat (first | (with_reducible first | exact HB.out | apply below_alloc | apply pw_below_drewN | apply below_drew1 | refine below_set ?_ (IsS65.ge HI0.out)) | exact HB.out)) hb); have n6_ := Aside0.mk (hbox); have n7_ := Aside0.mk ((by rw [hg]; exact (keep_size (w := w) (g := g) (row := none) (by repeat (first | (with_reducible first | exact HK.out | apply KeepBut.set_ | apply keep_drewN | apply keep_drew | apply keep_alloc) | exact HK.out))) : w.heap.size ≤ gb228)); have n8_ := Aside0.mk ((Nat.le_trans HW0.out (by rw [hg]; exact (keep_size (w := w) (g := g) (row := none) (by repeat (first | (with_reducible first | exact HK.out | apply KeepBut.set_ | apply keep_drewN | apply keep_drew | apply keep_alloc) | exact HK.out))) : w.heap.size ≤ gb228) : w0.heap.size ≤ gb228)); have n9_ := Aside0.mk ((by rw [hg]; exact Nat.ne_of_lt (IsS65.lt (show IsS65 w0 _ g s0_0 s0_1 s0_2 x1003_2 x1004_2 x1005_2 x1006_2 x1007_2 x1008_2 s0_9 s0_10 s0_11 s0_12 x1013_2 from by repeat (first | (with_reducible first | exact HI0.out | apply IsS65.alloc | apply IsS65.drewN | apply IsS65.drew | apply IsS65.set_3 | apply IsS65.set_4 | apply IsS65.set_5 | apply IsS65.set_6 | apply IsS65.set_7 | apply IsS65.set_8 | apply IsS65.set_13) | exact HI0.out))) : g ≠ gb228)); have n10_ := Aside0.mk ((by rw [hg]; exact Nat.ne_of_gt (IsS65.lt (show IsS65 w0 _ g s0_0 s0_1 s0_2 x1003_2 x1004_2 x1005_2 x1006_2 x1007_2 x1008_2 s0_9 s0_10 s0_11 s0_12 x1013_2 from by repeat (first | (with_reducible first | exact HI0.out | apply IsS65.alloc | apply IsS65.drewN | apply IsS65.drew | apply IsS65.set_3 | apply IsS65.set_4 | apply IsS65.set_5 | apply IsS65.set_6 | apply IsS65.set_7 | apply IsS65.set_8 | apply IsS65.set_13) | exact HI0.out))) : gb228 ≠ g)); clear HO_5; clear HI0; clear HR227_2; clear HR227_3; clear HK; clear HB; have HO_5 := n0_; have HI0 := n1_; have HR227_2 := n2_; have HR227_3 := n3_; have HK := n4_; have HB := n5_; have BK228 := n6_; have GW228 := n7_; have GE228 := n8_; have NB0_228 := n9_; have NB228_0 := n10_; clear n0_ n1_ n2_ n3_ n4_ n5_ n6_ n7_ n8_ n9_ n10_; clear hb hbox hg; have hnb30 := NB228_0.out; have hnc30 := NB0_228.out; have hcz31_0 : w29.cell? ⟨gb228, 0, none⟩ = some (.int .i64 0) := (blk_cell BK228.out 0).trans rfl; have hcz31_1 : w29.cell? ⟨gb228, 1, none⟩ = some (.int .i64 0) := (blk_cell BK228.out 1).trans rfl; have hcz31_2 : w29.cell? ⟨gb228, 2, none⟩ = some (.slice none 0 0) := (blk_cell BK228.out 2).trans rfl; have hcz31_3 : w29.cell? ⟨gb228, 3, none⟩ = some (.slice none 0 0) := (blk_cell BK228.out 3).trans rfl; have hfz31_0 := blk_frozen BK228.out 0; have hfz31_1 := blk_frozen BK228.out 1; have hfz31_2 := blk_frozen BK228.out 2; have hfz31_3 := blk_frozen BK228.out 3))
                    go_roundg k2
                    case measure => have := HK1.out; have := HK2.out; omega
                    case rel => exact ⟨(x5_2), (wrap64 (x33_2 + 1)), (x1003_2), (x1004_2), (x1005_2), (x1006_2), (x1007_2), (x1008_2), (x1013_2), (by first | rfl | (simp; done) | (simp [*]; done)), H', ⟨by have := HK1.out; have := HK2.out; omega⟩, ⟨by (with_reducible repeat (first | apply Kd.R_alloc | apply Kd.R_drewN | apply Kd.R_drew)); exact Kd.R_mono (Kd.R_far (p := ⟨gb228, 3, none⟩) (Kd.R_far (p := ⟨gb228, 2, none⟩) (Kd.R_far (p := ⟨gb228, 1, none⟩) (Kd.R_far (p := ⟨gb228, 0, none⟩) (Kd.R_types HO_5.out BK228.out (by decide)) (fun _ hk => hk.2) (.int .i64 ((rd_T36 s0_9 x33_2).f0))) (fun _ hk => hk.2) (.int .i64 ((rd_T36 s0_9 x33_2).f1))) (fun _ hk => hk.2) (.slice A227_2 ((rd_T36 s0_9 x33_2).f2).length c227_2)) (fun _ hk => hk.2) (.slice A227_3 ((rd_T36 s0_9 x33_2).f3).length c227_3)) (fun _ hk => trivial)⟩, ⟨by repeat (first | (with_reducible first | exact HI0.out | apply IsS65.alloc | apply IsS65.drewN | apply IsS65.drew | apply IsS65.set_3 | apply IsS65.set_4 | apply IsS65.set_5 | apply IsS65.set_6 | apply IsS65.set_7 | apply IsS65.set_8 | apply IsS65.set_13 | refine IsS65.far ?_ NB0_228.out _) | exact HI0.out)⟩, ⟨by repeat (first | (with_reducible first | exact HK.out | apply KeepBut.set_ | apply keep_drewN | apply keep_drew | apply keep_alloc | refine keep_far ?_ GW228.out _) | exact HK.out)⟩, ⟨by repeat (first | (with_reducible first | exact HB.out | apply below_alloc | apply pw_below_drewN | apply below_drew1 | refine below_set ?_ (IsS65.ge HI0.out) | refine below_set ?_ GE228.out) | exact HB.out)⟩⟩
                · rw [if_neg c16] at H
                  exact absurd H (by simp)
              · rw [if_neg c15] at H
                exact absurd H (by simp)
            · rw [if_neg c14] at H
              have c14b0 : decide (x33_2 < (s0_9.length : Int)) = false := decide_eq_false c14
              clear c14
              replace H := Option.bind_eq_some_iff.mp H
              obtain ⟨t240, A320, H⟩ := H
              replace H : (slack_view_least.l2 k2 a1 t240 x5_2 (x5_2.length : Int) 0 s0_0 s0_1 s0_2 x1003_2 x1004_2 x1005_2 x1006_2 x1007_2 x1008_2 s0_9 s0_10 s0_11 s0_12 x1013_2) = some (r1, r2, r3, r4, r5, r6, r7, r8) := H
              have A32 := Aside0.mk A320
              clear A320
              have H' := Aside0.mk H
              clear H
              go_wp2_with (first | ((with_reducible refine gate_callee (f := 44) rfl ?_); refine goesL_ (some 51) rfl rfl Try.func44 (by kernel_rfl) rfl #[.int .i64 1073741824] rfl (by (try simp only [List.map_toArray, List.map_cons, List.map_nil]); first | done | rfl | (simp only [List.length_drop, List.length_take]; rfl)) ?_; (with_reducible refine (fix_Whole.calls 1073741824 t240 _ A32.out).mono ?_); rintro e w33 ⟨rfl, hb⟩; refine ⟨_, rfl, ?_⟩; have n0_ := Aside0.mk (Kd.R_below (by (with_reducible repeat (first | apply Kd.R_alloc | apply Kd.R_drewN | apply Kd.R_drew)); exact HO_5.out) hb); have n1_ := Aside0.mk (IsS65.below (by repeat (first | (with_reducible first | exact HI0.out | apply IsS65.alloc | apply IsS65.drewN | apply IsS65.drew | apply IsS65.set_3 | apply IsS65.set_4 | apply IsS65.set_5 | apply IsS65.set_6 | apply IsS65.set_7 | apply IsS65.set_8 | apply IsS65.set_13) | exact HI0.out)) hb); have n2_ := Aside0.mk (KeepBut.trans (by repeat (first | (with_reducible first | exact HK.out | apply KeepBut.set_ | apply keep_drewN | apply keep_drew | apply keep_alloc) | exact HK.out)) (KeepBut.of_below hb g none) (.inl rfl)); have n3_ := Aside0.mk (below_step (by repeat (first | (with_reducible first | exact HB.out | apply below_alloc | apply pw_below_drewN | apply below_drew1 | refine below_set ?_ (IsS65.ge HI0.out)) | exact HB.out)) hb); clear HO_5; clear HI0; clear HK; clear HB; have HO_5 := n0_; have HI0 := n1_; have HK := n2_; have HB := n3_; clear n0_ n1_ n2_ n3_; (try clear hb); (try clear hb2); (try clear hk); (try clear hi); obtain ⟨Ao34, co34, eo34⟩ := Kd.R_slice HO_5.out; subst eo34))
              go_loopg [10, 54] k2 (fun kq v10 v54 w' => ∃ (x10_3 : Int) (x54_3 : Int) (x1003_3 : Int) (x1004_3 : Int) (x1005_3 : Int) (x1006_3 : Int) (x1007_3 : Int) (x1008_3 : Int) (x1013_3 : Int), v10 = .int .i64 x10_3 ∧ v54 = .int .i64 x54_3 ∧ Aside0 (slack_view_least.l2 kq a1 x10_3 x5_2 (x5_2.length : Int) x54_3 s0_0 s0_1 s0_2 x1003_3 x1004_3 x1005_3 x1006_3 x1007_3 x1008_3 s0_9 s0_10 s0_11 s0_12 x1013_3 = some (r1, r2, r3, r4, r5, r6, r7, r8)) ∧ Aside0 (kq ≤ k2) ∧ Aside0 (Kd.R (Kd.int .i64) 3 w' w.heap.size (fun _ => True) (.slice Ao34 x5_2.length co34) x5_2) ∧ Aside0 (IsS65 w0 w' g s0_0 s0_1 s0_2 x1003_3 x1004_3 x1005_3 x1006_3 x1007_3 x1008_3 s0_9 s0_10 s0_11 s0_12 x1013_3) ∧ Aside0 (KeepBut w w' g none) ∧ Aside0 (Below w0.heap.size w0 w'))
              case atStart => exact ⟨(t240), (0), (x1003_2), (x1004_2), (x1005_2), (x1006_2), (x1007_2), (x1008_2), (x1013_2), (by first | rfl | (simp; done) | (simp [*]; done)), (by first | rfl | (simp; done) | (simp [*]; done)), H', ⟨Nat.le_refl _⟩, ⟨by (with_reducible repeat (first | apply Kd.R_alloc | apply Kd.R_drewN | apply Kd.R_drew)); exact HO_5.out⟩, ⟨by repeat (first | (with_reducible first | exact HI0.out | apply IsS65.alloc | apply IsS65.drewN | apply IsS65.drew | apply IsS65.set_3 | apply IsS65.set_4 | apply IsS65.set_5 | apply IsS65.set_6 | apply IsS65.set_7 | apply IsS65.set_8 | apply IsS65.set_13) | exact HI0.out)⟩, ⟨by repeat (first | (with_reducible first | exact HK.out | apply KeepBut.set_ | apply keep_drewN | apply keep_drew | apply keep_alloc) | exact HK.out)⟩, ⟨by repeat (first | (with_reducible first | exact HB.out | apply below_alloc | apply pw_below_drewN | apply below_drew1 | refine below_set ?_ (IsS65.ge HI0.out)) | exact HB.out)⟩⟩
              case round =>
                clear H'
                try clear c1
                try clear c2
                try clear p2
                try clear q2
                try clear hx2
                try clear c3
                try clear c4
                try clear c4b0
                try clear c5
                try clear c5b0
                try clear c6
                try clear c6b0
                try clear p6
                try clear c7
                try clear c10
                try clear c14
                try clear c14b0
                try clear c15
                try clear c15b0
                try clear c16
                try clear c16b0
                try clear c17
                try clear c17b0
                try clear c19
                try clear c22
                try clear p22
                try clear q22
                try clear hx22
                try clear c30
                try clear hcz11_0
                try clear hcz11_1
                try clear hcz11_2
                try clear hcz11_3
                try clear hcz11_4
                try clear hcz11_5
                try clear hcz13_0
                try clear hcz13_1
                try clear hcz13_10
                try clear hcz13_11
                try clear hcz13_12
                try clear hcz13_13
                try clear hcz13_2
                try clear hcz13_3
                try clear hcz13_4
                try clear hcz13_5
                try clear hcz13_6
                try clear hcz13_7
                try clear hcz13_8
                try clear hcz13_9
                try clear hcz20_0
                try clear hcz20_1
                try clear hcz20_10
                try clear hcz20_11
                try clear hcz20_12
                try clear hcz20_13
                try clear hcz20_2
                try clear hcz20_3
                try clear hcz20_4
                try clear hcz20_5
                try clear hcz20_6
                try clear hcz20_7
                try clear hcz20_8
                try clear hcz20_9
                try clear hcz23_0
                try clear hcz23_1
                try clear hcz23_2
                try clear hcz23_3
                try clear hcz28_0
                try clear hcz28_1
                try clear hcz28_10
                try clear hcz28_11
                try clear hcz28_12
                try clear hcz28_13
                try clear hcz28_2
                try clear hcz28_3
                try clear hcz28_4
                try clear hcz28_5
                try clear hcz28_6
                try clear hcz28_7
                try clear hcz28_8
                try clear hcz28_9
                try clear hcz31_0
                try clear hcz31_1
                try clear hcz31_2
                try clear hcz31_3
                try clear hcz3_0
                try clear hcz3_1
                try clear hcz3_10
                try clear hcz3_11
                try clear hcz3_12
                try clear hcz3_13
                try clear hcz3_2
                try clear hcz3_3
                try clear hcz3_4
                try clear hcz3_5
                try clear hcz3_6
                try clear hcz3_7
                try clear hcz3_8
                try clear hcz3_9
                try clear hcz8_0
                try clear hcz8_1
                try clear hcz8_10
                try clear hcz8_11
                try clear hcz8_12
                try clear hcz8_13
                try clear hcz8_2
                try clear hcz8_3
                try clear hcz8_4
                try clear hcz8_5
                try clear hcz8_6
                try clear hcz8_7
                try clear hcz8_8
                try clear hcz8_9
                try clear hfz11_0
                try clear hfz11_1
                try clear hfz11_2
                try clear hfz11_3
                try clear hfz11_4
                try clear hfz11_5
                try clear hfz13_13
                try clear hfz13_3
                try clear hfz13_4
                try clear hfz13_5
                try clear hfz13_6
                try clear hfz13_7
                try clear hfz13_8
                try clear hfz20_13
                try clear hfz20_3
                try clear hfz20_4
                try clear hfz20_5
                try clear hfz20_6
                try clear hfz20_7
                try clear hfz20_8
                try clear hfz23_0
                try clear hfz23_1
                try clear hfz23_2
                try clear hfz23_3
                try clear hfz28_13
                try clear hfz28_3
                try clear hfz28_4
                try clear hfz28_5
                try clear hfz28_6
                try clear hfz28_7
                try clear hfz28_8
                try clear hfz31_0
                try clear hfz31_1
                try clear hfz31_2
                try clear hfz31_3
                try clear hfz3_13
                try clear hfz3_3
                try clear hfz3_4
                try clear hfz3_5
                try clear hfz3_6
                try clear hfz3_7
                try clear hfz3_8
                try clear hfz8_13
                try clear hfz8_3
                try clear hfz8_4
                try clear hfz8_5
                try clear hfz8_6
                try clear hfz8_7
                try clear hfz8_8
                try clear hx222_0
                try clear hx222_1
                try clear hx222_2
                try clear hx222_3
                try clear hx222_4
                try clear hx222_5
                try clear hx227_0
                try clear hx227_1
                try clear hx227_2
                try clear hx227_3
                try clear p2
                try clear p222
                try clear p227
                try clear p6
                try clear q2
                try clear q222
                try clear q227
                obtain ⟨x10_3, x54_3, x1003_3, x1004_3, x1005_3, x1006_3, x1007_3, x1008_3, x1013_3, rfl, rfl, HA, HK3, HO_52, HI0, HK, HB⟩ := hrel
                cases gk with
                | zero => exact absurd HA.out (by simp [slack_view_least.l2])
                | succ k3 =>
                  have H := HA.out
                  clear HA
                  simp only [slack_view_least.l2] at H
                  by_cases c35 : x54_3 < (x5_2.length : Int)
                  · rw [if_pos c35] at H
                    have c35b0 : decide (x54_3 < (x5_2.length : Int)) = true := decide_eq_true c35
                    clear c35
                    by_cases c36 : 0 ≤ x54_3
                    · rw [if_pos c36] at H
                      have c36b0 : decide (0 ≤ x54_3) = true := decide_eq_true c36
                      clear c36
                      by_cases c37 : x54_3 < (x5_2.length : Int)
                      · rw [if_pos c37] at H
                        have c37b0 : decide (x54_3 < (x5_2.length : Int)) = true := decide_eq_true c37
                        clear c37
                        by_cases c38 : (rd x5_2 x54_3) ≥ a1
                        · rw [if_pos c38] at H
                          have c38b0 : decide (a1 ≤ (rd x5_2 x54_3)) = true := decide_eq_true c38
                          clear c38
                          replace H := Option.bind_eq_some_iff.mp H
                          obtain ⟨⟨t242, t243, t244, t245, t246, t247, t248, t249⟩, A390, H⟩ := H
                          replace H : (slack_view_least.l2 k3 a1 (mn x10_3 t242) x5_2 (x5_2.length : Int) (wrap64 (x54_3 + 1)) s0_0 s0_1 s0_2 t243 t244 t245 t246 t247 t248 s0_9 s0_10 s0_11 s0_12 t249) = some (r1, r2, r3, r4, r5, r6, r7, r8) := H
                          have A39 := Aside0.mk A390
                          clear A390
                          obtain ⟨ji40, hji40⟩ : ∃ j_ : Int, (mn x10_3 t242) = j_ := ⟨_, rfl⟩
                          replace H : (slack_view_least.l2 k3 a1 ji40 x5_2 (x5_2.length : Int) (wrap64 (x54_3 + 1)) s0_0 s0_1 s0_2 t243 t244 t245 t246 t247 t248 s0_9 s0_10 s0_11 s0_12 t249) = some (r1, r2, r3, r4, r5, r6, r7, r8) := by first | (rw [hji40] at H; exact H) | (simp only [hji40] at H ⊢; exact H)
                          (try rw [hji40] at A39)
                          have hji40_ : (if t242 < x10_3 then t242 else x10_3) = ji40 := hji40
                          have H' := Aside0.mk H
                          clear H
                          have p241 : 0 ≤ (x54_3 : Int) := of_decide_eq_true (by first | (with_reducible assumption) | assumption)
                          have q241 : x54_3 < (x5_2.length : Int) := of_decide_eq_true (by first | (with_reducible assumption) | assumption)
                          obtain ⟨ad241, e241, hx241_0⟩ := Kd.at_int (Kd.R_reads' HO_52.out).2.2 x54_3 p241 q241
                          cases e241
                          replace p241 := eq_true p241
                          replace q241 := eq_true q241
                          go_wp2_with (first | ((with_reducible refine gate_callee (f := 32) rfl ?_); refine goesL_ (some 64) rfl rfl Try.func32 (by kernel_rfl) rfl #[.pointer (some ⟨g, 0, none⟩), .int .i64 (rd x5_2 x54_3)] rfl (by (try simp only [List.map_toArray, List.map_cons, List.map_nil]); first | done | rfl | (simp only [List.length_drop, List.length_take]; rfl)) ?_; (with_reducible refine (slack_view_at.calls g s0_0 s0_1 s0_2 x1003_3 x1004_3 x1005_3 x1006_3 x1007_3 x1008_3 s0_9 s0_10 s0_11 s0_12 x1013_3 (rd x5_2 x54_3) t242 t243 t244 t245 t246 t247 t248 t249 w0 _ ?side1 ?side2 A39.out).mono ?_); (case side1 => repeat (first | (with_reducible first | exact HI0.out | apply IsS65.alloc | apply IsS65.drewN | apply IsS65.drew | apply IsS65.set_3 | apply IsS65.set_4 | apply IsS65.set_5 | apply IsS65.set_6 | apply IsS65.set_7 | apply IsS65.set_8 | apply IsS65.set_13) | exact HI0.out)); (case side2 => repeat (first | (with_reducible first | exact HB.out | apply below_alloc | apply pw_below_drewN | apply below_drew1 | refine below_set ?_ (IsS65.ge HI0.out)) | exact HB.out)); rintro e w41 ⟨rfl, hi, hb, hk⟩; refine ⟨_, rfl, ?_⟩; have n0_ := Aside0.mk (Kd.R_mono (Kd.R_keep (IsS65.apart (show IsS65 w0 _ g s0_0 s0_1 s0_2 x1003_3 x1004_3 x1005_3 x1006_3 x1007_3 x1008_3 s0_9 s0_10 s0_11 s0_12 x1013_3 from by repeat (first | (with_reducible first | exact HI0.out | apply IsS65.alloc | apply IsS65.drewN | apply IsS65.drew | apply IsS65.set_3 | apply IsS65.set_4 | apply IsS65.set_5 | apply IsS65.set_6 | apply IsS65.set_7 | apply IsS65.set_8 | apply IsS65.set_13) | exact HI0.out)) (by (with_reducible repeat (first | apply Kd.R_alloc | apply Kd.R_drewN | apply Kd.R_drew)); exact HO_52.out) (by decide)) hk (fun _ h => h.2)) (fun _ h => h.1)); have n1_ := Aside0.mk (KeepBut.trans (by repeat (first | (with_reducible first | exact HK.out | apply KeepBut.set_ | apply keep_drewN | apply keep_drew | apply keep_alloc) | exact HK.out)) hk (.inl rfl)); have n2_ := Aside0.mk (hb); have n3_ := Aside0.mk (hi); clear HO_52; clear HK; clear HB; clear HI0; have HO_52 := n0_; have HK := n1_; have HB := n2_; have HI0 := n3_; clear n0_ n1_ n2_ n3_; (try clear hb); (try clear hb2); (try clear hk); (try clear hi)))
                          go_roundg k3
                          case measure => have := HK1.out; have := HK2.out; have := HK3.out; omega
                          case rel => exact ⟨(ji40), (wrap64 (x54_3 + 1)), (t243), (t244), (t245), (t246), (t247), (t248), (t249), (by first | rfl | (simp; done) | (simp only [← hji40] <;> (first | rfl | simp)) | (simp [*]; done)), (by first | rfl | (simp; done) | (simp [*]; done)), H', ⟨by have := HK1.out; have := HK2.out; have := HK3.out; omega⟩, ⟨by (with_reducible repeat (first | apply Kd.R_alloc | apply Kd.R_drewN | apply Kd.R_drew)); exact HO_52.out⟩, ⟨by repeat (first | (with_reducible first | exact HI0.out | apply IsS65.alloc | apply IsS65.drewN | apply IsS65.drew | apply IsS65.set_3 | apply IsS65.set_4 | apply IsS65.set_5 | apply IsS65.set_6 | apply IsS65.set_7 | apply IsS65.set_8 | apply IsS65.set_13) | exact HI0.out)⟩, ⟨by repeat (first | (with_reducible first | exact HK.out | apply KeepBut.set_ | apply keep_drewN | apply keep_drew | apply keep_alloc) | exact HK.out)⟩, ⟨by repeat (first | (with_reducible first | exact HB.out | apply below_alloc | apply pw_below_drewN | apply below_drew1 | refine below_set ?_ (IsS65.ge HI0.out)) | exact HB.out)⟩⟩
                        · rw [if_neg c38] at H
                          have c38b0 : decide (a1 ≤ (rd x5_2 x54_3)) = false := decide_eq_false c38
                          clear c38
                          have H' := Aside0.mk H
                          clear H
                          have p241 : 0 ≤ (x54_3 : Int) := of_decide_eq_true (by first | (with_reducible assumption) | assumption)
                          have q241 : x54_3 < (x5_2.length : Int) := of_decide_eq_true (by first | (with_reducible assumption) | assumption)
                          obtain ⟨ad241, e241, hx241_0⟩ := Kd.at_int (Kd.R_reads' HO_52.out).2.2 x54_3 p241 q241
                          cases e241
                          replace p241 := eq_true p241
                          replace q241 := eq_true q241
                          go_wp2
                          go_roundg k3
                          case measure => have := HK1.out; have := HK2.out; have := HK3.out; omega
                          case rel => exact ⟨(x10_3), (wrap64 (x54_3 + 1)), (x1003_3), (x1004_3), (x1005_3), (x1006_3), (x1007_3), (x1008_3), (x1013_3), (by first | rfl | (simp; done) | (simp [*]; done)), (by first | rfl | (simp; done) | (simp [*]; done)), H', ⟨by have := HK1.out; have := HK2.out; have := HK3.out; omega⟩, ⟨by (with_reducible repeat (first | apply Kd.R_alloc | apply Kd.R_drewN | apply Kd.R_drew)); exact HO_52.out⟩, ⟨by repeat (first | (with_reducible first | exact HI0.out | apply IsS65.alloc | apply IsS65.drewN | apply IsS65.drew | apply IsS65.set_3 | apply IsS65.set_4 | apply IsS65.set_5 | apply IsS65.set_6 | apply IsS65.set_7 | apply IsS65.set_8 | apply IsS65.set_13) | exact HI0.out)⟩, ⟨by repeat (first | (with_reducible first | exact HK.out | apply KeepBut.set_ | apply keep_drewN | apply keep_drew | apply keep_alloc) | exact HK.out)⟩, ⟨by repeat (first | (with_reducible first | exact HB.out | apply below_alloc | apply pw_below_drewN | apply below_drew1 | refine below_set ?_ (IsS65.ge HI0.out)) | exact HB.out)⟩⟩
                      · rw [if_neg c37] at H
                        exact absurd H (by simp)
                    · rw [if_neg c36] at H
                      exact absurd H (by simp)
                  · rw [if_neg c35] at H
                    have c35b0 : decide (x54_3 < (x5_2.length : Int)) = false := decide_eq_false c35
                    clear c35
                    simp only [Option.some.injEq, Prod.mk.injEq] at H
                    obtain ⟨rfl, rfl, rfl, rfl, rfl, rfl, rfl, rfl⟩ := H
                    go_wp2
                    go_ret
                    exact ⟨by first | rfl | (simp [errW_none, errW_some] <;> rfl) | (simp [*, errW_none, errW_some] <;> rfl), by repeat (first | (with_reducible first | exact HI0.out | apply IsS65.alloc | apply IsS65.drewN | apply IsS65.drew | apply IsS65.set_3 | apply IsS65.set_4 | apply IsS65.set_5 | apply IsS65.set_6 | apply IsS65.set_7 | apply IsS65.set_8 | apply IsS65.set_13) | exact HI0.out), by repeat (first | (with_reducible first | exact HB.out | apply below_alloc | apply pw_below_drewN | apply below_drew1 | refine below_set ?_ (IsS65.ge HI0.out)) | exact HB.out), by repeat (first | (with_reducible first | exact HK.out | apply KeepBut.set_ | apply keep_drewN | apply keep_drew | apply keep_alloc) | exact HK.out)⟩
end Go.Proofs.Ytchlbnlhjllcbaa.F
namespace Go.Proofs.Ytchlbnlhjllcbaa.F
open Go.RowKit Go.Proofs.YtchlbnlhjllcbaaW.PrintWords Go.Proofs.YtchlbnlhjllcbaaW.PrintLast Go.Proofs.YtchlbnlhjllcbaaW.PrintMore
attribute [local go_sem] max2_int min2_int max_two min_two max_three min_three max_four min_four
set_option linter.unusedVariables false
def slack_Least.f (l0_0 : List S58) (l0_1 : List S68) (l0_2 : List S71) (a0_3 : Int) (a0_4 : Int) (a0_5 : Int) (a0_6 : Int) (a0_7 : Int) (a0_8 : Int) (l1 : List S36) (l2 : List Int) (l3 : List S38) (l4 : List S73) (a5 : Int) (a6 : Int) : Option Int :=
  (slack_view_least.f 1000 l0_0 l0_1 l0_2 a0_3 a0_4 a0_5 a0_6 a0_7 a0_8 l1 l2 l3 l4 a5 a6).bind fun t => some t.1
set_option maxHeartbeats 4000000 in
theorem slack_Least.calls (A0_0 : Option Addr) (c0_0 : Nat) (l0_0 : List (S58)) (A0_1 : Option Addr) (c0_1 : Nat) (l0_1 : List (S68)) (A0_2 : Option Addr) (c0_2 : Nat) (l0_2 : List (S71)) (a0_3 : Int) (a0_4 : Int) (a0_5 : Int) (a0_6 : Int) (a0_7 : Int) (a0_8 : Int) (A1 : Option Addr) (c1 : Nat) (l1 : List (S36)) (A2 : Option Addr) (c2 : Nat) (l2 : List Int) (A3 : Option Addr) (c3 : Nat) (l3 : List (S38)) (A4 : Option Addr) (c4 : Nat) (l4 : List (S73)) (a5 : Int) (a6 : Int) (r : Int) (w : World) (hr0_0 : Kd.C k58 w A0_0 l0_0.length l0_0) (hc0_0 : l0_0.length ≤ c0_0) (hr0_1 : Kd.C k68 w A0_1 l0_1.length l0_1) (hc0_1 : l0_1.length ≤ c0_1) (hr0_2 : Kd.C k71 w A0_2 l0_2.length l0_2) (hc0_2 : l0_2.length ≤ c0_2) (hr1 : Kd.C k36 w A1 l1.length l1) (hc1 : l1.length ≤ c1) (hr2 : Kd.C (Kd.int .i64) w A2 l2.length l2) (hc2 : l2.length ≤ c2) (hr3 : Kd.C k38 w A3 l3.length l3) (hc3 : l3.length ≤ c3) (hr4 : Kd.C k73 w A4 l4.length l4) (hc4 : l4.length ≤ c4) (h : slack_Least.f l0_0 l0_1 l0_2 a0_3 a0_4 a0_5 a0_6 a0_7 a0_8 l1 l2 l3 l4 a5 a6 = some r) :
    Calls Try.prog 25 #[.agg #[.slice A0_0 l0_0.length c0_0, .slice A0_1 l0_1.length c0_1, .slice A0_2 l0_2.length c0_2, .int .i64 a0_3, .int .i64 a0_4, .int .i64 a0_5, .int .i64 a0_6, .int .i64 a0_7, .int .i64 a0_8], .slice A1 l1.length c1, .slice A2 l2.length c2, .slice A3 l3.length c3, .slice A4 l4.length c4, .int .i64 a5, .int .i64 a6] w fun e w' => e = .returned (.int .i64 r) ∧ Below w.heap.size w w' := by
  unfold slack_Least.f at h
  obtain ⟨⟨r1, r2, r3, r4, r5, r6, r7, r8⟩, hr, e⟩ := Option.bind_eq_some_iff.mp h
  obtain rfl := Option.some.inj e
  have HR0_0 := Aside0.mk hr0_0
  have HC0_0 := Aside0.mk hc0_0
  have HR0_1 := Aside0.mk hr0_1
  have HC0_1 := Aside0.mk hc0_1
  have HR0_2 := Aside0.mk hr0_2
  have HC0_2 := Aside0.mk hc0_2
  have HR1 := Aside0.mk hr1
  have HC1 := Aside0.mk hc1
  have HR2 := Aside0.mk hr2
  have HC2 := Aside0.mk hc2
  have HR3 := Aside0.mk hr3
  have HC3 := Aside0.mk hc3
  have HR4 := Aside0.mk hr4
  have HC4 := Aside0.mk hc4
  have HH := Aside0.mk hr
  clear hr0_0 hr0_1 hr0_2 hr1 hr2 hr3 hr4 hc0_0 hc0_1 hc0_2 hc1 hc2 hc3 hc4 h hr e
  go_enter Try.func25, Try.ntmps25
  go_wp2_with fail
  generalize hw1 : w.alloc (.cells #[.slice A0_0 l0_0.length c0_0, .slice A0_1 l0_1.length c0_1, .slice A0_2 l0_2.length c0_2, .int .i64 a0_3, .int .i64 a0_4, .int .i64 a0_5, .int .i64 a0_6, .int .i64 a0_7, .int .i64 a0_8] 26 (0, 0)) = w1
  have hb1 : Below w.heap.size w w1 := by rw [← hw1]; exact (Below.refl _ _).alloc (Nat.le_refl _) _
  have hs1 : w1.heap.size = w.heap.size + 1 := by rw [← hw1]; simp
  obtain ⟨g, hg⟩ : ∃ g, w.heap.size + 1 = g := ⟨_, rfl⟩
  generalize hw2 : w1.alloc (.cells #[.slice A0_0 l0_0.length c0_0, .slice A0_1 l0_1.length c0_1, .slice A0_2 l0_2.length c0_2, .int .i64 a0_3, .int .i64 a0_4, .int .i64 a0_5, .int .i64 a0_6, .int .i64 a0_7, .int .i64 a0_8, .slice A1 l1.length c1, .slice A2 l2.length c2, .slice A3 l3.length c3, .slice A4 l4.length c4, .int .i64 a5] 65 (0, 0)) = w2
  have hb2 : Below w1.heap.size w1 w2 := by rw [← hw2]; exact (Below.refl _ _).alloc (Nat.le_refl _) _
  have BK : Aside0 (w2.heap[g]? = some (.cells #[.slice A0_0 l0_0.length c0_0, .slice A0_1 l0_1.length c0_1, .slice A0_2 l0_2.length c0_2, .int .i64 a0_3, .int .i64 a0_4, .int .i64 a0_5, .int .i64 a0_6, .int .i64 a0_7, .int .i64 a0_8, .slice A1 l1.length c1, .slice A2 l2.length c2, .slice A3 l3.length c3, .slice A4 l4.length c4, .int .i64 a5] 65 (0, 0))) := ⟨by rw [← hw2, ← hg, ← hs1]; exact heap_alloc_new w1 _⟩
  have HB : Aside0 (Below w.heap.size w w2) := ⟨below_step hb1 hb2⟩
  have GE : Aside0 (w.heap.size ≤ g) := ⟨by rw [← hg]; omega⟩
  try rw [hg]
  clear hw1 hw2 hb1 hb2 hg hs1
  have HI : Aside0 (IsS65 w w2 g l0_0 l0_1 l0_2 a0_3 a0_4 a0_5 a0_6 a0_7 a0_8 l1 l2 l3 l4 a5) := ⟨⟨A0_0, c0_0, A0_1, c0_1, A0_2, c0_2, A1, c1, A2, c2, A3, c3, A4, c4, BK.out, ⟨GE.out, HC0_0.out, HC0_1.out, HC0_2.out, HC1.out, HC2.out, HC3.out, HC4.out⟩, HR0_0.out, HR0_1.out, HR0_2.out, HR1.out, HR2.out, HR3.out, HR4.out⟩⟩
  go_wp2_with (first | (go_at_call 37; (with_reducible refine Calls.mono (slack_view_least.calls 1000 g l0_0 l0_1 l0_2 a0_3 a0_4 a0_5 a0_6 a0_7 a0_8 l1 l2 l3 l4 a5 a6 r1 r2 r3 r4 r5 r6 r7 r8 w _ HI.out HB.out HH.out) ?_); rintro e w3 ⟨rfl, _, hb, _⟩; replace HB : Aside0 (Below w.heap.size w w3) := ⟨hb⟩; clear hb))
  go_ret
  exact ⟨rfl, HB.out⟩
end Go.Proofs.Ytchlbnlhjllcbaa.F
namespace Go.Proofs.Ytchlbnlhjllcbaa.F
noncomputable section
open Go.RowKit Go.Proofs.YtchlbnlhjllcbaaW.PrintWords Go.Proofs.YtchlbnlhjllcbaaW.PrintLast Go.Proofs.YtchlbnlhjllcbaaW.PrintMore
attribute [local go_sem] max2_int min2_int max_two min_two max_three min_three max_four min_four   -- for this text's walks alone
set_option linter.unusedVariables false
set_option linter.unusedSimpArgs false
def rest_Ready.f (l0_0 : List (S58)) (l0_1 : List (S68)) (l0_2 : List (S71)) (a0_3 : Int) (a0_4 : Int) (a0_5 : Int) (a0_6 : Int) (a0_7 : Int) (a0_8 : Int) (l1 : List (S36)) (l2 : List Int) (a3 : Int) : Option (Int) := (slack_Least.f l0_0 l0_1 l0_2 a0_3 a0_4 a0_5 a0_6 a0_7 a0_8 l1 l2 ([] : List (S38)) ([] : List (S73)) a3 a3).bind fun t287 => ((fix_Floor.f t287).bind fun t288 => (some (wrap64 (a3 + (mn (mx t288 0) 1024)))))
set_option maxHeartbeats 8000000 in
set_option maxRecDepth 100000 in
theorem rest_Ready.calls (A0_0 : Option Addr) (c0_0 : Nat) (l0_0 : List (S58)) (A0_1 : Option Addr) (c0_1 : Nat) (l0_1 : List (S68)) (A0_2 : Option Addr) (c0_2 : Nat) (l0_2 : List (S71)) (a0_3 : Int) (a0_4 : Int) (a0_5 : Int) (a0_6 : Int) (a0_7 : Int) (a0_8 : Int) (A1 : Option Addr) (c1 : Nat) (l1 : List (S36)) (A2 : Option Addr) (c2 : Nat) (l2 : List Int) (a3 : Int) (r : Int) (w : World) (hr0_0 : Kd.C k58 w A0_0 l0_0.length l0_0) (hc0_0 : l0_0.length ≤ c0_0) (hr0_1 : Kd.C k68 w A0_1 l0_1.length l0_1) (hc0_1 : l0_1.length ≤ c0_1) (hr0_2 : Kd.C k71 w A0_2 l0_2.length l0_2) (hc0_2 : l0_2.length ≤ c0_2) (hr1 : Kd.C k36 w A1 l1.length l1) (hc1 : l1.length ≤ c1) (hr2 : Kd.C (Kd.int .i64) w A2 l2.length l2) (hc2 : l2.length ≤ c2) (h : rest_Ready.f l0_0 l0_1 l0_2 a0_3 a0_4 a0_5 a0_6 a0_7 a0_8 l1 l2 a3 = some r) :
    Calls Try.prog 16 #[.agg #[.slice A0_0 l0_0.length c0_0, .slice A0_1 l0_1.length c0_1, .slice A0_2 l0_2.length c0_2, .int .i64 a0_3, .int .i64 a0_4, .int .i64 a0_5, .int .i64 a0_6, .int .i64 a0_7, .int .i64 a0_8], .slice A1 l1.length c1, .slice A2 l2.length c2, .int .i64 a3] w fun e w' => e = .returned (.int .i64 r) ∧ Below w.heap.size w w' := by
  have hu26 := Try.underlying26
  have HR0_0 := Aside0.mk hr0_0
  have HC0_0 := Aside0.mk hc0_0
  clear hr0_0 hc0_0
  have HR0_1 := Aside0.mk hr0_1
  have HC0_1 := Aside0.mk hc0_1
  clear hr0_1 hc0_1
  have HR0_2 := Aside0.mk hr0_2
  have HC0_2 := Aside0.mk hc0_2
  clear hr0_2 hc0_2
  have HR1 := Aside0.mk hr1
  have HC1 := Aside0.mk hc1
  clear hr1 hc1
  have HR2 := Aside0.mk hr2
  have HC2 := Aside0.mk hc2
  clear hr2 hc2
  have HB := Aside0.mk (Below.refl w.heap.size w)
  have H : ((slack_Least.f l0_0 l0_1 l0_2 a0_3 a0_4 a0_5 a0_6 a0_7 a0_8 l1 l2 ([] : List (S38)) ([] : List (S73)) a3 a3).bind fun t287 => ((fix_Floor.f t287).bind fun t288 => (some (wrap64 (a3 + (mn (mx t288 0) 1024)))))) = some r := h
  clear h
  replace H := Option.bind_eq_some_iff.mp H
  obtain ⟨t287, A50, H⟩ := H
  replace H : ((fix_Floor.f t287).bind fun t288 => (some (wrap64 (a3 + (mn (mx t288 0) 1024))))) = some r := H
  have A5 := Aside0.mk A50
  clear A50
  replace H := Option.bind_eq_some_iff.mp H
  obtain ⟨t288, A60, H⟩ := H
  replace H : (some (wrap64 (a3 + (mn (mx t288 0) 1024)))) = some r := H
  have A6 := Aside0.mk A60
  clear A60
  obtain ⟨ji7, hji7⟩ : ∃ j_ : Int, (mx t288 0) = j_ := ⟨_, rfl⟩
  replace H : (some (wrap64 (a3 + (mn (ji7) 1024)))) = some r := by first | (rw [hji7] at H; exact H) | (simp only [hji7] at H ⊢; exact H)
  (try rw [hji7] at A5)
  (try rw [hji7] at A6)
  (try (have hji7l : 0 ≤ ji7 := by (rw [← hji7]; unfold mx; (repeat' split) <;> omega)))
  (try (have hji7m : 0 ≤ ji7 := by omega))
  have hji7_ : (if t288 < 0 then 0 else t288) = ji7 := hji7
  obtain ⟨ji8, hji8⟩ : ∃ j_ : Int, (mn (ji7) 1024) = j_ := ⟨_, rfl⟩
  replace H : (some (wrap64 (a3 + (ji8)))) = some r := by first | (rw [hji8] at H; exact H) | (simp only [hji8] at H ⊢; exact H)
  (try rw [hji8] at A5)
  (try rw [hji8] at A6)
  have hji8_ : (if 1024 < (ji7) then 1024 else (ji7)) = ji8 := hji8
  obtain rfl := Option.some.inj H
  go_enter Try.func16, Try.ntmps16
  go_wp2_with (first | ((with_reducible refine gate_dst (N := 4) rfl ?_); refine box_event ?hg (N := 4) ?hd (cs := #[.slice A0_0 l0_0.length c0_0, .slice A0_1 l0_1.length c0_1, .slice A0_2 l0_2.length c0_2, .int .i64 a0_3, .int .i64 a0_4, .int .i64 a0_5, .int .i64 a0_6, .int .i64 a0_7, .int .i64 a0_8]) (t := 26) ?hr ?_; (case hd => rfl); (case hg => rfl); (case hr => first | (go_simp; done) | (go_simp; rfl)); intro gb286 hg w9 hbox hb; have n0_ := Aside0.mk (below_step (by repeat (first | (with_reducible first | exact HB.out | apply below_alloc | apply pw_below_drewN | apply below_drew1) | exact HB.out)) hb); have n1_ := Aside0.mk (hbox); have n2_ := Aside0.mk ((by rw [hg]; exact (below_size (by repeat (first | (with_reducible first | exact HB.out | apply below_alloc | apply pw_below_drewN | apply below_drew1) | exact HB.out))) : w.heap.size ≤ gb286)); have n3_ := Aside0.mk ((by rw [hg]; exact (below_size (by repeat (first | (with_reducible first | exact HB.out | apply below_alloc | apply pw_below_drewN | apply below_drew1) | exact HB.out))) : w.heap.size ≤ gb286)); clear HB; have HB := n0_; have BK286 := n1_; have GW286 := n2_; have GE286 := n3_; clear n0_ n1_ n2_ n3_; clear hb hbox hg; have hcz10_0 : w9.cell? ⟨gb286, 0, none⟩ = some (.slice A0_0 l0_0.length c0_0) := (blk_cell BK286.out 0).trans rfl; have hcz10_1 : w9.cell? ⟨gb286, 1, none⟩ = some (.slice A0_1 l0_1.length c0_1) := (blk_cell BK286.out 1).trans rfl; have hcz10_2 : w9.cell? ⟨gb286, 2, none⟩ = some (.slice A0_2 l0_2.length c0_2) := (blk_cell BK286.out 2).trans rfl; have hcz10_3 : w9.cell? ⟨gb286, 3, none⟩ = some (.int .i64 a0_3) := (blk_cell BK286.out 3).trans rfl; have hcz10_4 : w9.cell? ⟨gb286, 4, none⟩ = some (.int .i64 a0_4) := (blk_cell BK286.out 4).trans rfl; have hcz10_5 : w9.cell? ⟨gb286, 5, none⟩ = some (.int .i64 a0_5) := (blk_cell BK286.out 5).trans rfl; have hcz10_6 : w9.cell? ⟨gb286, 6, none⟩ = some (.int .i64 a0_6) := (blk_cell BK286.out 6).trans rfl; have hcz10_7 : w9.cell? ⟨gb286, 7, none⟩ = some (.int .i64 a0_7) := (blk_cell BK286.out 7).trans rfl; have hcz10_8 : w9.cell? ⟨gb286, 8, none⟩ = some (.int .i64 a0_8) := (blk_cell BK286.out 8).trans rfl; have hfz10_0 := blk_frozen BK286.out 0; have hfz10_1 := blk_frozen BK286.out 1; have hfz10_2 := blk_frozen BK286.out 2; have hfz10_3 := blk_frozen BK286.out 3; have hfz10_4 := blk_frozen BK286.out 4; have hfz10_5 := blk_frozen BK286.out 5; have hfz10_6 := blk_frozen BK286.out 6; have hfz10_7 := blk_frozen BK286.out 7; have hfz10_8 := blk_frozen BK286.out 8) | ((with_reducible refine gate_callee (f := 25) rfl ?_); refine goesL_ (some 15) rfl rfl Try.func25 (by kernel_rfl) rfl #[.agg #[.slice A0_0 l0_0.length c0_0, .slice A0_1 l0_1.length c0_1, .slice A0_2 l0_2.length c0_2, .int .i64 a0_3, .int .i64 a0_4, .int .i64 a0_5, .int .i64 a0_6, .int .i64 a0_7, .int .i64 a0_8], .slice A1 l1.length c1, .slice A2 l2.length c2, .slice none 0 0, .slice none 0 0, .int .i64 a3, .int .i64 a3] rfl (by (try simp only [List.map_toArray, List.map_cons, List.map_nil]); first | done | rfl | (simp only [List.length_drop, List.length_take]; rfl)) ?_; (refine (slack_Least.calls _ _ l0_0 _ _ l0_1 _ _ l0_2 a0_3 a0_4 a0_5 a0_6 a0_7 a0_8 _ _ l1 _ _ l2 _ _ ([] : List (S38)) _ _ ([] : List (S73)) a3 a3 t287 _ ?side1 ?side2 ?side3 ?side4 ?side5 ?side6 ?side7 ?side8 ?side9 ?side10 ?side11 ?side12 ?side13 ?side14 A5.out).mono ?_); (case side1 => repeat (first | exact (Kd.C_below HR0_0.out HB.out) | (with_reducible refine Kd.C_alloc ?_ _) | (with_reducible refine Kd.C_drewN ?_ _) | (with_reducible refine Kd.C_drew ?_))); (case side2 => exact HC0_0.out); (case side3 => repeat (first | exact (Kd.C_below HR0_1.out HB.out) | (with_reducible refine Kd.C_alloc ?_ _) | (with_reducible refine Kd.C_drewN ?_ _) | (with_reducible refine Kd.C_drew ?_))); (case side4 => exact HC0_1.out); (case side5 => repeat (first | exact (Kd.C_below HR0_2.out HB.out) | (with_reducible refine Kd.C_alloc ?_ _) | (with_reducible refine Kd.C_drewN ?_ _) | (with_reducible refine Kd.C_drew ?_))); (case side6 => exact HC0_2.out); (case side7 => repeat (first | exact (Kd.C_below HR1.out HB.out) | (with_reducible refine Kd.C_alloc ?_ _) | (with_reducible refine Kd.C_drewN ?_ _) | (with_reducible refine Kd.C_drew ?_))); (case side8 => exact HC1.out); (case side9 => repeat (first | exact (Kd.C_below HR2.out HB.out) | (with_reducible refine Kd.C_alloc ?_ _) | (with_reducible refine Kd.C_drewN ?_ _) | (with_reducible refine Kd.C_drew ?_))); (case side10 => exact HC2.out); (case side11 => exact Kd.C_nil _ _); (case side12 => exact Nat.le_refl _); (case side13 => exact Kd.C_nil _ _); (case side14 => exact Nat.le_refl _); rintro e w11 ⟨rfl, hb⟩; refine ⟨_, rfl, ?_⟩; have n0_ := Aside0.mk (blk_below (g := gb286) (o := .cells #[.slice A0_0 l0_0.length c0_0, .slice A0_1 l0_1.length c0_1, .slice A0_2 l0_2.length c0_2, .int .i64 a0_3, .int .i64 a0_4, .int .i64 a0_5, .int .i64 a0_6, .int .i64 a0_7, .int .i64 a0_8] 26 (0, 0)) (by (with_reducible repeat (first | refine blk_drewN ?_ _ | refine blk_drew ?_ | refine blk_alloc ?_ _)); exact BK286.out) hb); have n1_ := Aside0.mk (below_step (by repeat (first | (with_reducible first | exact HB.out | apply below_alloc | apply pw_below_drewN | apply below_drew1 | refine below_set ?_ GE286.out) | exact HB.out)) hb); clear BK286; clear HB; have BK286 := n0_; have HB := n1_; clear n0_ n1_; (try clear hb); (try clear hb2); (try clear hk); (try clear hi)) | ((with_reducible refine gate_callee (f := 28) rfl ?_); refine goesL_ (some 16) rfl rfl Try.func28 (by kernel_rfl) rfl #[.int .i64 t287] rfl (by (try simp only [List.map_toArray, List.map_cons, List.map_nil]); first | done | rfl | (simp only [List.length_drop, List.length_take]; rfl)) ?_; (with_reducible refine (fix_Floor.calls t287 t288 _ A6.out).mono ?_); rintro e w' ⟨rfl, ⟨nd, rfl⟩⟩; refine ⟨_, rfl, ?_⟩))
  go_ret
  exact ⟨by first | rfl | (simp [errW_none, errW_some] <;> rfl) | (simp only [← hji7, ← hji8]; first | rfl | (simp [errW_none, errW_some] <;> rfl)) | (simp [*, errW_none, errW_some] <;> rfl), by repeat (first | (with_reducible first | exact HB.out | apply below_alloc | apply pw_below_drewN | apply below_drew1 | refine below_set ?_ GE286.out) | exact HB.out)⟩
def dormouselaw17_answers.f  : Option (Bool) := (some (([(⟨1, 0⟩ : S58)] : List (S58)) : List (S58))).bind fun y289 => ((rest_Ready.f y289 ([] : List (S68)) ([] : List (S71)) 0 0 0 0 0 50 ([] : List (S36)) ([] : List Int) 7).bind fun t293 => (if t293 = 1031 then ((rest_Ready.f y289 ([] : List (S68)) ([] : List (S71)) 0 0 0 0 0 50 (([(⟨4, 1, ([] : List Int), ([] : List Int)⟩ : S36)] : List (S36))) (([0] : List Int)) 0).bind fun t300 => (some (t300 == 3))) else (some false)))
set_option maxHeartbeats 8000000 in
set_option maxRecDepth 100000 in
theorem dormouselaw17_answers.calls  (r : Bool) (w : World) (h : dormouselaw17_answers.f  = some r) :
    Calls Try.prog 15 #[] w fun e w' => e = .returned (.bool r) ∧ Below w.heap.size w w' := by
  have hu58 := Try.underlying58
  have hu26 := Try.underlying26
  have hu36 := Try.underlying36
  have HB := Aside0.mk (Below.refl w.heap.size w)
  have H : ((some (([(⟨1, 0⟩ : S58)] : List (S58)) : List (S58))).bind fun y289 => ((rest_Ready.f y289 ([] : List (S68)) ([] : List (S71)) 0 0 0 0 0 50 ([] : List (S36)) ([] : List Int) 7).bind fun t293 => (if t293 = 1031 then ((rest_Ready.f y289 ([] : List (S68)) ([] : List (S71)) 0 0 0 0 0 50 (([(⟨4, 1, ([] : List Int), ([] : List Int)⟩ : S36)] : List (S36))) (([0] : List Int)) 0).bind fun t300 => (some (t300 == 3))) else (some false)))) = some r := h
  clear h
  obtain ⟨y289, hy289⟩ : ∃ y_ : List (S58), y_ = (([(⟨1, 0⟩ : S58)] : List (S58))) := ⟨_, rfl⟩
  replace H : ((rest_Ready.f y289 ([] : List (S68)) ([] : List (S71)) 0 0 0 0 0 50 ([] : List (S36)) ([] : List Int) 7).bind fun t293 => (if t293 = 1031 then ((rest_Ready.f y289 ([] : List (S68)) ([] : List (S71)) 0 0 0 0 0 50 (([(⟨4, 1, ([] : List Int), ([] : List Int)⟩ : S36)] : List (S36))) (([0] : List Int)) 0).bind fun t300 => (some (t300 == 3))) else (some false))) = some r := by first | (rw [hy289]; with_reducible exact H) | (have H2_ := (Option.bind_some _ _).symm.trans H; rw [hy289]; with_reducible exact H2_) | (have H2_ := (Option.bind_some _ _).symm.trans H; with_reducible exact H2_) | with_reducible exact H | (rw [hy289]; exact H) | exact H
  have Ny289 := Aside0.mk hy289
  clear hy289
  replace H := Option.bind_eq_some_iff.mp H
  obtain ⟨t293, A10, H⟩ := H
  replace H : (if t293 = 1031 then ((rest_Ready.f y289 ([] : List (S68)) ([] : List (S71)) 0 0 0 0 0 50 (([(⟨4, 1, ([] : List Int), ([] : List Int)⟩ : S36)] : List (S36))) (([0] : List Int)) 0).bind fun t300 => (some (t300 == 3))) else (some false)) = some r := H
  have A1 := Aside0.mk A10
  clear A10
  by_cases c2 : t293 = 1031
  · rw [if_pos c2] at H
    have c2b0 : (t293 == 1031) = true := beq_iff_eq.mpr c2
    have c2b1 : (t293 != 1031) = false := bne_eq_false_iff_eq.mpr c2
    clear c2
    obtain ⟨y294, hy294⟩ : ∃ y_ : List (S36), y_ = (([(⟨4, 1, ([] : List Int), ([] : List Int)⟩ : S36)] : List (S36))) := ⟨_, rfl⟩
    replace H : ((rest_Ready.f y289 ([] : List (S68)) ([] : List (S71)) 0 0 0 0 0 50 y294 (([0] : List Int)) 0).bind fun t300 => (some (t300 == 3))) = some r := by first | (rw [hy294]; with_reducible exact H) | (have H2_ := (Option.bind_some _ _).symm.trans H; rw [hy294]; with_reducible exact H2_) | (have H2_ := (Option.bind_some _ _).symm.trans H; with_reducible exact H2_) | with_reducible exact H | (rw [hy294]; exact H) | exact H
    have Ny294 := Aside0.mk hy294
    clear hy294
    obtain ⟨y297, hy297⟩ : ∃ y_ : List Int, y_ = (([0] : List Int)) := ⟨_, rfl⟩
    replace H : ((rest_Ready.f y289 ([] : List (S68)) ([] : List (S71)) 0 0 0 0 0 50 y294 y297 0).bind fun t300 => (some (t300 == 3))) = some r := by first | (rw [hy297]; with_reducible exact H) | (have H2_ := (Option.bind_some _ _).symm.trans H; rw [hy297]; with_reducible exact H2_) | (have H2_ := (Option.bind_some _ _).symm.trans H; with_reducible exact H2_) | with_reducible exact H | (rw [hy297]; exact H) | exact H
    have Ny297 := Aside0.mk hy297
    clear hy297
    replace H := Option.bind_eq_some_iff.mp H
    obtain ⟨t300, A30, H⟩ := H
    replace H : (some (t300 == 3)) = some r := H
    have A3 := Aside0.mk A30
    clear A30
    obtain rfl := Option.some.inj H
    go_enter Try.func15, Try.ntmps15
    go_wp2_with (first | ((with_reducible refine gate_dst (N := 3) rfl ?_); (try (refine gate_guard (by rfl) ?_; dsimp only)); refine Kd.R_lit k58 _ 58 ?hg (N := 3) ?hd (xs := ([(⟨1, 0⟩ : S58)] : List (S58))) (inner := [.int .i64 1, .int .i64 0]) (ok := fun _ => True) (okp := fun _ => True) ?hr ?hp (fun _ hk => hk) trivial (Below.refl _ _) (Nat.le_refl _) (by simp) ?_; (case hd => rfl); (case hg => rfl); (case hr => first | (go_simp; done) | (go_simp; rfl)); (case hp => exact (Reps.c2 (show Kd.M k58 _ _ _ (⟨1, 0⟩ : S58) [.int .i64 1, .int .i64 0] from (k58_mkM _ _ _ (⟨1, 0⟩ : S58) )) (Reps.none _ _))); intro v290 w4 ho5 hb hg_ hnew_; clear hg_ hnew_; (first | rw [← Ny289.out] at ho5 | (simp only [Int.reduceToNat] at ho5; rw [← Ny289.out] at ho5)); have n0_ := Aside0.mk (Kd.R_lower ho5 (below_size (by repeat (first | (with_reducible first | exact HB.out | apply below_alloc | apply pw_below_drewN | apply below_drew1) | exact HB.out)))); have n1_ := Aside0.mk (below_step (by repeat (first | (with_reducible first | exact HB.out | apply below_alloc | apply pw_below_drewN | apply below_drew1) | exact HB.out)) hb); clear HB; have HO291 := n0_; have HB := n1_; clear n0_ n1_; clear hb ho5; obtain ⟨Ao6, co6, eo6⟩ := Kd.R_slice HO291.out; subst eo6) | ((with_reducible refine gate_dst (N := 1) rfl ?_); (try (refine gate_guard (by rfl) ?_; dsimp only)); refine box_event ?hg (N := 1) ?hd (cs := #[.slice none 0 0, .slice none 0 0, .slice none 0 0, .int .i64 0, .int .i64 0, .int .i64 0, .int .i64 0, .int .i64 0, .int .i64 0]) (t := 26) ?hr ?_; (case hd => rfl); (case hg => rfl); (case hr => first | (go_simp; done) | (go_simp; rfl)); intro gb292 hg w7 hbox hb; have n0_ := Aside0.mk (Kd.R_below (by (with_reducible repeat (first | apply Kd.R_alloc | apply Kd.R_drewN | apply Kd.R_drew)); exact HO291.out) hb); have n1_ := Aside0.mk (below_step (by repeat (first | (with_reducible first | exact HB.out | apply below_alloc | apply pw_below_drewN | apply below_drew1) | exact HB.out)) hb); have n2_ := Aside0.mk (hbox); have n3_ := Aside0.mk ((by rw [hg]; exact (below_size (by repeat (first | (with_reducible first | exact HB.out | apply below_alloc | apply pw_below_drewN | apply below_drew1) | exact HB.out))) : w.heap.size ≤ gb292)); have n4_ := Aside0.mk ((by rw [hg]; exact (below_size (by repeat (first | (with_reducible first | exact HB.out | apply below_alloc | apply pw_below_drewN | apply below_drew1) | exact HB.out))) : w.heap.size ≤ gb292)); clear HO291; clear HB; have HO291 := n0_; have HB := n1_; have BK292 := n2_; have GW292 := n3_; have GE292 := n4_; clear n0_ n1_ n2_ n3_ n4_; clear hb hbox hg; have hcz8_0 : w7.cell? ⟨gb292, 0, none⟩ = some (.slice none 0 0) := (blk_cell BK292.out 0).trans rfl; have hcz8_1 : w7.cell? ⟨gb292, 1, none⟩ = some (.slice none 0 0) := (blk_cell BK292.out 1).trans rfl; have hcz8_2 : w7.cell? ⟨gb292, 2, none⟩ = some (.slice none 0 0) := (blk_cell BK292.out 2).trans rfl; have hcz8_3 : w7.cell? ⟨gb292, 3, none⟩ = some (.int .i64 0) := (blk_cell BK292.out 3).trans rfl; have hcz8_4 : w7.cell? ⟨gb292, 4, none⟩ = some (.int .i64 0) := (blk_cell BK292.out 4).trans rfl; have hcz8_5 : w7.cell? ⟨gb292, 5, none⟩ = some (.int .i64 0) := (blk_cell BK292.out 5).trans rfl; have hcz8_6 : w7.cell? ⟨gb292, 6, none⟩ = some (.int .i64 0) := (blk_cell BK292.out 6).trans rfl; have hcz8_7 : w7.cell? ⟨gb292, 7, none⟩ = some (.int .i64 0) := (blk_cell BK292.out 7).trans rfl; have hcz8_8 : w7.cell? ⟨gb292, 8, none⟩ = some (.int .i64 0) := (blk_cell BK292.out 8).trans rfl; have hfz8_0 := blk_frozen BK292.out 0; have hfz8_1 := blk_frozen BK292.out 1; have hfz8_2 := blk_frozen BK292.out 2; have hfz8_3 := blk_frozen BK292.out 3; have hfz8_4 := blk_frozen BK292.out 4; have hfz8_5 := blk_frozen BK292.out 5; have hfz8_6 := blk_frozen BK292.out 6; have hfz8_7 := blk_frozen BK292.out 7; have hfz8_8 := blk_frozen BK292.out 8) | ((with_reducible refine gate_callee (f := 16) rfl ?_); refine goesL_ (some 6) rfl rfl Try.func16 (by kernel_rfl) rfl #[.agg #[.slice Ao6 y289.length co6, .slice none 0 0, .slice none 0 0, .int .i64 0, .int .i64 0, .int .i64 0, .int .i64 0, .int .i64 0, .int .i64 50], .slice none 0 0, .slice none 0 0, .int .i64 7] rfl (by (try simp only [List.map_toArray, List.map_cons, List.map_nil]); first | done | rfl | (simp only [List.length_drop, List.length_take]; rfl)) ?_; (refine (rest_Ready.calls _ _ y289 _ _ ([] : List (S68)) _ _ ([] : List (S71)) 0 0 0 0 0 50 _ _ ([] : List (S36)) _ _ ([] : List Int) 7 t293 _ ?side1 ?side2 ?side3 ?side4 ?side5 ?side6 ?side7 ?side8 ?side9 ?side10 A1.out).mono ?_); (case side1 => refine (Kd.R_reads' (e := 58) (base := w.heap.size) (ok := fun k_ => True) (n := y289.length) (c := co6) ?_).2.2; exact (by (with_reducible repeat (first | apply Kd.R_alloc | apply Kd.R_drewN | apply Kd.R_drew)); exact (Kd.R_mono (Kd.R_far (p := ⟨gb292, 8, none⟩) (Kd.R_far (p := ⟨gb292, 7, none⟩) (Kd.R_far (p := ⟨gb292, 6, none⟩) (Kd.R_far (p := ⟨gb292, 5, none⟩) (Kd.R_far (p := ⟨gb292, 4, none⟩) (Kd.R_far (p := ⟨gb292, 3, none⟩) (Kd.R_far (p := ⟨gb292, 2, none⟩) (Kd.R_far (p := ⟨gb292, 1, none⟩) (Kd.R_far (p := ⟨gb292, 0, none⟩) (Kd.R_types HO291.out BK292.out (by decide)) (fun _ hk => hk.2) (.slice Ao6 y289.length co6)) (fun _ hk => hk.2) (.slice none 0 0)) (fun _ hk => hk.2) (.slice none 0 0)) (fun _ hk => hk.2) (.int .i64 0)) (fun _ hk => hk.2) (.int .i64 0)) (fun _ hk => hk.2) (.int .i64 0)) (fun _ hk => hk.2) (.int .i64 0)) (fun _ hk => hk.2) (.int .i64 0)) (fun _ hk => hk.2) (.int .i64 50)) (fun _ h_ => h_.1)))); (case side2 => exact (Kd.R_reads' HO291.out).2.1); (case side3 => exact Kd.C_nil _ _); (case side4 => exact Nat.le_refl _); (case side5 => exact Kd.C_nil _ _); (case side6 => exact Nat.le_refl _); (case side7 => exact Kd.C_nil _ _); (case side8 => exact Nat.le_refl _); (case side9 => exact Kd.C_nil _ _); (case side10 => exact Nat.le_refl _); rintro e w9 ⟨rfl, hb⟩; refine ⟨_, rfl, ?_⟩; have n0_ := Aside0.mk (Kd.R_below (by (with_reducible repeat (first | apply Kd.R_alloc | apply Kd.R_drewN | apply Kd.R_drew)); exact (Kd.R_mono (Kd.R_far (p := ⟨gb292, 8, none⟩) (Kd.R_far (p := ⟨gb292, 7, none⟩) (Kd.R_far (p := ⟨gb292, 6, none⟩) (Kd.R_far (p := ⟨gb292, 5, none⟩) (Kd.R_far (p := ⟨gb292, 4, none⟩) (Kd.R_far (p := ⟨gb292, 3, none⟩) (Kd.R_far (p := ⟨gb292, 2, none⟩) (Kd.R_far (p := ⟨gb292, 1, none⟩) (Kd.R_far (p := ⟨gb292, 0, none⟩) (Kd.R_types HO291.out BK292.out (by decide)) (fun _ hk => hk.2) (.slice Ao6 y289.length co6)) (fun _ hk => hk.2) (.slice none 0 0)) (fun _ hk => hk.2) (.slice none 0 0)) (fun _ hk => hk.2) (.int .i64 0)) (fun _ hk => hk.2) (.int .i64 0)) (fun _ hk => hk.2) (.int .i64 0)) (fun _ hk => hk.2) (.int .i64 0)) (fun _ hk => hk.2) (.int .i64 0)) (fun _ hk => hk.2) (.int .i64 50)) (fun _ h_ => h_.1))) hb); have n1_ := Aside0.mk (blk_below (g := gb292) (o := .cells #[.slice Ao6 y289.length co6, .slice none 0 0, .slice none 0 0, .int .i64 0, .int .i64 0, .int .i64 0, .int .i64 0, .int .i64 0, .int .i64 50] 26 (0, 0)) (by (with_reducible repeat (first | refine blk_drewN ?_ _ | refine blk_drew ?_ | refine blk_alloc ?_ _)); refine blk_put (cs := #[.slice Ao6 y289.length co6, .slice none 0 0, .slice none 0 0, .int .i64 0, .int .i64 0, .int .i64 0, .int .i64 0, .int .i64 0, .int .i64 0]) ?_ 8 _ rfl; (with_reducible repeat (first | refine blk_drewN ?_ _ | refine blk_drew ?_ | refine blk_alloc ?_ _)); refine blk_put (cs := #[.slice Ao6 y289.length co6, .slice none 0 0, .slice none 0 0, .int .i64 0, .int .i64 0, .int .i64 0, .int .i64 0, .int .i64 0, .int .i64 0]) ?_ 7 _ rfl; (with_reducible repeat (first | refine blk_drewN ?_ _ | refine blk_drew ?_ | refine blk_alloc ?_ _)); refine blk_put (cs := #[.slice Ao6 y289.length co6, .slice none 0 0, .slice none 0 0, .int .i64 0, .int .i64 0, .int .i64 0, .int .i64 0, .int .i64 0, .int .i64 0]) ?_ 6 _ rfl; (with_reducible repeat (first | refine blk_drewN ?_ _ | refine blk_drew ?_ | refine blk_alloc ?_ _)); refine blk_put (cs := #[.slice Ao6 y289.length co6, .slice none 0 0, .slice none 0 0, .int .i64 0, .int .i64 0, .int .i64 0, .int .i64 0, .int .i64 0, .int .i64 0]) ?_ 5 _ rfl; (with_reducible repeat (first | refine blk_drewN ?_ _ | refine blk_drew ?_ | refine blk_alloc ?_ _)); refine blk_put (cs := #[.slice Ao6 y289.length co6, .slice none 0 0, .slice none 0 0, .int .i64 0, .int .i64 0, .int .i64 0, .int .i64 0, .int .i64 0, .int .i64 0]) ?_ 4 _ rfl; (with_reducible repeat (first | refine blk_drewN ?_ _ | refine blk_drew ?_ | refine blk_alloc ?_ _)); refine blk_put (cs := #[.slice Ao6 y289.length co6, .slice none 0 0, .slice none 0 0, .int .i64 0, .int .i64 0, .int .i64 0, .int .i64 0, .int .i64 0, .int .i64 0]) ?_ 3 _ rfl; (with_reducible repeat (first | refine blk_drewN ?_ _ | refine blk_drew ?_ | refine blk_alloc ?_ _)); refine blk_put (cs := #[.slice Ao6 y289.length co6, .slice none 0 0, .slice none 0 0, .int .i64 0, .int .i64 0, .int .i64 0, .int .i64 0, .int .i64 0, .int .i64 0]) ?_ 2 _ rfl; (with_reducible repeat (first | refine blk_drewN ?_ _ | refine blk_drew ?_ | refine blk_alloc ?_ _)); refine blk_put (cs := #[.slice Ao6 y289.length co6, .slice none 0 0, .slice none 0 0, .int .i64 0, .int .i64 0, .int .i64 0, .int .i64 0, .int .i64 0, .int .i64 0]) ?_ 1 _ rfl; (with_reducible repeat (first | refine blk_drewN ?_ _ | refine blk_drew ?_ | refine blk_alloc ?_ _)); refine blk_put (cs := #[.slice none 0 0, .slice none 0 0, .slice none 0 0, .int .i64 0, .int .i64 0, .int .i64 0, .int .i64 0, .int .i64 0, .int .i64 0]) ?_ 0 _ rfl; (with_reducible repeat (first | refine blk_drewN ?_ _ | refine blk_drew ?_ | refine blk_alloc ?_ _)); exact BK292.out) hb); have n2_ := Aside0.mk (below_step (by repeat (first | (with_reducible first | exact HB.out | apply below_alloc | apply pw_below_drewN | apply below_drew1 | refine below_set ?_ GE292.out) | exact HB.out)) hb); clear HO291; clear BK292; clear HB; have HO291 := n0_; have BK292 := n1_; have HB := n2_; clear n0_ n1_ n2_; (try clear hb); (try clear hb2); (try clear hk); (try clear hi); have hcz10_0 : w9.cell? ⟨gb292, 0, none⟩ = some (.slice Ao6 y289.length co6) := (blk_cell BK292.out 0).trans rfl; have hcz10_1 : w9.cell? ⟨gb292, 1, none⟩ = some (.slice none 0 0) := (blk_cell BK292.out 1).trans rfl; have hcz10_2 : w9.cell? ⟨gb292, 2, none⟩ = some (.slice none 0 0) := (blk_cell BK292.out 2).trans rfl; have hcz10_3 : w9.cell? ⟨gb292, 3, none⟩ = some (.int .i64 0) := (blk_cell BK292.out 3).trans rfl; have hcz10_4 : w9.cell? ⟨gb292, 4, none⟩ = some (.int .i64 0) := (blk_cell BK292.out 4).trans rfl; have hcz10_5 : w9.cell? ⟨gb292, 5, none⟩ = some (.int .i64 0) := (blk_cell BK292.out 5).trans rfl; have hcz10_6 : w9.cell? ⟨gb292, 6, none⟩ = some (.int .i64 0) := (blk_cell BK292.out 6).trans rfl; have hcz10_7 : w9.cell? ⟨gb292, 7, none⟩ = some (.int .i64 0) := (blk_cell BK292.out 7).trans rfl; have hcz10_8 : w9.cell? ⟨gb292, 8, none⟩ = some (.int .i64 50) := (blk_cell BK292.out 8).trans rfl; have hfz10_0 := blk_frozen BK292.out 0; have hfz10_1 := blk_frozen BK292.out 1; have hfz10_2 := blk_frozen BK292.out 2; have hfz10_3 := blk_frozen BK292.out 3; have hfz10_4 := blk_frozen BK292.out 4; have hfz10_5 := blk_frozen BK292.out 5; have hfz10_6 := blk_frozen BK292.out 6; have hfz10_7 := blk_frozen BK292.out 7; have hfz10_8 := blk_frozen BK292.out 8) | ((with_reducible refine gate_dst (N := 11) rfl ?_); (try (refine gate_guard (by rfl) ?_; dsimp only)); refine Kd.S_lit k36 _ 36 ?hg (N := 11) ?hd (xs := ([(⟨4, 1, ([] : List Int), ([] : List Int)⟩ : S36)] : List (S36))) (inner := [.int .i64 4, .int .i64 1, .slice none 0 0, .slice none 0 0]) (ok := fun _ => True) (okp := fun _ => True) ?hr ?hp (fun _ hk => hk) trivial (Below.refl _ _) (Nat.le_refl _) (by simp) ?_; (case hd => rfl); (case hg => rfl); (case hr => first | (go_simp; done) | (go_simp; rfl)); (case hp => exact (Reps.c4 (show Kd.M k36 _ _ _ (⟨4, 1, ([] : List Int), ([] : List Int)⟩ : S36) [.int .i64 4, .int .i64 1, .slice none 0 0, .slice none 0 0] from (k36_mkM _ _ _ (⟨4, 1, ([] : List Int), ([] : List Int)⟩ : S36) (Kd.R_nil _ _ _ _ _) (Kd.R_nil _ _ _ _ _))) (Reps.none _ _))); intro v295 w11 ho12 hb hg_ hnew_; clear hg_ hnew_; (first | rw [← Ny294.out] at ho12 | (simp only [Int.reduceToNat] at ho12; rw [← Ny294.out] at ho12)); have n0_ := Aside0.mk (Kd.R_below (by (with_reducible repeat (first | apply Kd.R_alloc | apply Kd.R_drewN | apply Kd.R_drew)); exact HO291.out) hb); have n1_ := Aside0.mk (Kd.S_lower ho12 (below_size (by repeat (first | (with_reducible first | exact HB.out | apply below_alloc | apply pw_below_drewN | apply below_drew1 | refine below_set ?_ GE292.out) | exact HB.out)))); have n2_ := Aside0.mk (blk_below (g := gb292) (o := .cells #[.slice Ao6 y289.length co6, .slice none 0 0, .slice none 0 0, .int .i64 0, .int .i64 0, .int .i64 0, .int .i64 0, .int .i64 0, .int .i64 50] 26 (0, 0)) (by (with_reducible repeat (first | refine blk_drewN ?_ _ | refine blk_drew ?_ | refine blk_alloc ?_ _)); exact BK292.out) hb); have n3_ := Aside0.mk (below_step (by repeat (first | (with_reducible first | exact HB.out | apply below_alloc | apply pw_below_drewN | apply below_drew1 | refine below_set ?_ GE292.out) | exact HB.out)) hb); clear HO291; clear BK292; clear HB; have HO291 := n0_; have HO296 := n1_; have BK292 := n2_; have HB := n3_; clear n0_ n1_ n2_ n3_; clear hb ho12) | ((with_reducible refine gate_dst (N := 12) rfl ?_); (try (refine gate_guard (by rfl) ?_; dsimp only)); refine Kd.R_lit (Kd.int .i64) _ 3 ?hg (N := 12) ?hd (xs := ([0] : List Int)) (inner := [.int .i64 0]) (ok := fun _ => True) (okp := fun _ => True) ?hr ?hp (fun _ hk => hk) trivial (Below.refl _ _) (Nat.le_refl _) (by simp) ?_; (case hd => rfl); (case hg => rfl); (case hr => first | (go_simp; done) | (go_simp; rfl)); (case hp => exact (Reps.one (show Kd.M (Kd.int .i64) _ _ _ 0 [.int .i64 0] from rfl) (Reps.none _ _))); intro v298 w13 ho14 hb hg_ hnew_; clear hg_ hnew_; (first | rw [← Ny297.out] at ho14 | (simp only [Int.reduceToNat] at ho14; rw [← Ny297.out] at ho14)); have n0_ := Aside0.mk (Kd.R_below (by (with_reducible repeat (first | apply Kd.R_alloc | apply Kd.R_drewN | apply Kd.R_drew)); exact HO291.out) hb); have n1_ := Aside0.mk (Kd.S_elder' (by (with_reducible repeat (first | apply Kd.S_alloc | apply Kd.S_drewN | apply Kd.S_drew)); exact HO296.out) (Kd.R_base ho14) hb); have n2_ := Aside0.mk (Kd.R_lower ho14 (below_size (by repeat (first | (with_reducible first | exact HB.out | apply below_alloc | apply pw_below_drewN | apply below_drew1 | refine below_set ?_ GE292.out) | exact HB.out)))); have n3_ := Aside0.mk (blk_below (g := gb292) (o := .cells #[.slice Ao6 y289.length co6, .slice none 0 0, .slice none 0 0, .int .i64 0, .int .i64 0, .int .i64 0, .int .i64 0, .int .i64 0, .int .i64 50] 26 (0, 0)) (by (with_reducible repeat (first | refine blk_drewN ?_ _ | refine blk_drew ?_ | refine blk_alloc ?_ _)); exact BK292.out) hb); have n4_ := Aside0.mk (below_step (by repeat (first | (with_reducible first | exact HB.out | apply below_alloc | apply pw_below_drewN | apply below_drew1 | refine below_set ?_ GE292.out) | exact HB.out)) hb); clear HO291; clear HO296; clear BK292; clear HB; have HO291 := n0_; have HO296 := n1_; have HO299 := n2_; have BK292 := n3_; have HB := n4_; clear n0_ n1_ n2_ n3_ n4_; clear hb ho14; obtain ⟨Ao15, co15, eo15⟩ := Kd.S_slice HO296.out; subst eo15; obtain ⟨Ao16, co16, eo16⟩ := Kd.R_slice HO299.out; subst eo16) | (go_at_call 16; (refine (rest_Ready.calls _ _ y289 _ _ ([] : List (S68)) _ _ ([] : List (S71)) 0 0 0 0 0 50 _ _ y294 _ _ y297 0 t300 _ ?side1 ?side2 ?side3 ?side4 ?side5 ?side6 ?side7 ?side8 ?side9 ?side10 A3.out).mono ?_); (case side1 => repeat (first | exact (Kd.R_reads' HO291.out).2.2 | (with_reducible refine Kd.C_alloc ?_ _) | (with_reducible refine Kd.C_drewN ?_ _) | (with_reducible refine Kd.C_drew ?_))); (case side2 => exact (Kd.R_reads' HO291.out).2.1); (case side3 => exact Kd.C_nil _ _); (case side4 => exact Nat.le_refl _); (case side5 => exact Kd.C_nil _ _); (case side6 => exact Nat.le_refl _); (case side7 => repeat (first | exact (Kd.S_reads' HO296.out).2.2 | (with_reducible refine Kd.C_alloc ?_ _) | (with_reducible refine Kd.C_drewN ?_ _) | (with_reducible refine Kd.C_drew ?_))); (case side8 => exact (Kd.S_reads' HO296.out).2.1); (case side9 => repeat (first | exact (Kd.R_reads' HO299.out).2.2 | (with_reducible refine Kd.C_alloc ?_ _) | (with_reducible refine Kd.C_drewN ?_ _) | (with_reducible refine Kd.C_drew ?_))); (case side10 => exact (Kd.R_reads' HO299.out).2.1); rintro e w17 ⟨rfl, hb⟩; have n0_ := Aside0.mk (Kd.R_below (by (with_reducible repeat (first | apply Kd.R_alloc | apply Kd.R_drewN | apply Kd.R_drew)); exact HO291.out) hb); have n1_ := Aside0.mk (Kd.S_below (by (with_reducible repeat (first | apply Kd.S_alloc | apply Kd.S_drewN | apply Kd.S_drew)); exact HO296.out) hb); have n2_ := Aside0.mk (Kd.R_below (by (with_reducible repeat (first | apply Kd.R_alloc | apply Kd.R_drewN | apply Kd.R_drew)); exact HO299.out) hb); have n3_ := Aside0.mk (blk_below (g := gb292) (o := .cells #[.slice Ao6 y289.length co6, .slice none 0 0, .slice none 0 0, .int .i64 0, .int .i64 0, .int .i64 0, .int .i64 0, .int .i64 0, .int .i64 50] 26 (0, 0)) (by (with_reducible repeat (first | refine blk_drewN ?_ _ | refine blk_drew ?_ | refine blk_alloc ?_ _)); exact BK292.out) hb); have n4_ := Aside0.mk (below_step (by repeat (first | (with_reducible first | exact HB.out | apply below_alloc | apply pw_below_drewN | apply below_drew1 | refine below_set ?_ GE292.out) | exact HB.out)) hb); clear HO291; clear HO296; clear HO299; clear BK292; clear HB; have HO291 := n0_; have HO296 := n1_; have HO299 := n2_; have BK292 := n3_; have HB := n4_; clear n0_ n1_ n2_ n3_ n4_; (try clear hb); (try clear hb2); (try clear hk); (try clear hi)))
    go_ret
    exact ⟨by first | rfl | (simp [errW_none, errW_some] <;> rfl) | (simp [*, errW_none, errW_some] <;> rfl), by repeat (first | (with_reducible first | exact HB.out | apply below_alloc | apply pw_below_drewN | apply below_drew1 | refine below_set ?_ GE292.out) | exact HB.out)⟩
  · rw [if_neg c2] at H
    have c2b0 : (t293 == 1031) = false := beq_eq_false_iff_ne.mpr c2
    have c2b1 : (t293 != 1031) = true := bne_iff_ne.mpr c2
    obtain rfl := Option.some.inj H
    go_enter Try.func15, Try.ntmps15
    go_wp2_with (first | ((with_reducible refine gate_dst (N := 3) rfl ?_); (try (refine gate_guard (by rfl) ?_; dsimp only)); refine Kd.R_lit k58 _ 58 ?hg (N := 3) ?hd (xs := ([(⟨1, 0⟩ : S58)] : List (S58))) (inner := [.int .i64 1, .int .i64 0]) (ok := fun _ => True) (okp := fun _ => True) ?hr ?hp (fun _ hk => hk) trivial (Below.refl _ _) (Nat.le_refl _) (by simp) ?_; (case hd => rfl); (case hg => rfl); (case hr => first | (go_simp; done) | (go_simp; rfl)); (case hp => exact (Reps.c2 (show Kd.M k58 _ _ _ (⟨1, 0⟩ : S58) [.int .i64 1, .int .i64 0] from (k58_mkM _ _ _ (⟨1, 0⟩ : S58) )) (Reps.none _ _))); intro v290 w18 ho19 hb hg_ hnew_; clear hg_ hnew_; (first | rw [← Ny289.out] at ho19 | (simp only [Int.reduceToNat] at ho19; rw [← Ny289.out] at ho19)); have n0_ := Aside0.mk (Kd.R_lower ho19 (below_size (by repeat (first | (with_reducible first | exact HB.out | apply below_alloc | apply pw_below_drewN | apply below_drew1) | exact HB.out)))); have n1_ := Aside0.mk (below_step (by repeat (first | (with_reducible first | exact HB.out | apply below_alloc | apply pw_below_drewN | apply below_drew1) | exact HB.out)) hb); clear HB; have HO291 := n0_; have HB := n1_; clear n0_ n1_; clear hb ho19; obtain ⟨Ao20, co20, eo20⟩ := Kd.R_slice HO291.out; subst eo20) | ((with_reducible refine gate_dst (N := 1) rfl ?_); (try (refine gate_guard (by rfl) ?_; dsimp only)); refine box_event ?hg (N := 1) ?hd (cs := #[.slice none 0 0, .slice none 0 0, .slice none 0 0, .int .i64 0, .int .i64 0, .int .i64 0, .int .i64 0, .int .i64 0, .int .i64 0]) (t := 26) ?hr ?_; (case hd => rfl); (case hg => rfl); (case hr => first | (go_simp; done) | (go_simp; rfl)); intro gb292 hg w21 hbox hb; have n0_ := Aside0.mk (Kd.R_below (by (with_reducible repeat (first | apply Kd.R_alloc | apply Kd.R_drewN | apply Kd.R_drew)); exact HO291.out) hb); have n1_ := Aside0.mk (below_step (by repeat (first | (with_reducible first | exact HB.out | apply below_alloc | apply pw_below_drewN | apply below_drew1) | exact HB.out)) hb); have n2_ := Aside0.mk (hbox); have n3_ := Aside0.mk ((by rw [hg]; exact (below_size (by repeat (first | (with_reducible first | exact HB.out | apply below_alloc | apply pw_below_drewN | apply below_drew1) | exact HB.out))) : w.heap.size ≤ gb292)); have n4_ := Aside0.mk ((by rw [hg]; exact (below_size (by repeat (first | (with_reducible first | exact HB.out | apply below_alloc | apply pw_below_drewN | apply below_drew1) | exact HB.out))) : w.heap.size ≤ gb292)); clear HO291; clear HB; have HO291 := n0_; have HB := n1_; have BK292 := n2_; have GW292 := n3_; have GE292 := n4_; clear n0_ n1_ n2_ n3_ n4_; clear hb hbox hg; have hcz22_0 : w21.cell? ⟨gb292, 0, none⟩ = some (.slice none 0 0) := (blk_cell BK292.out 0).trans rfl; have hcz22_1 : w21.cell? ⟨gb292, 1, none⟩ = some (.slice none 0 0) := (blk_cell BK292.out 1).trans rfl; have hcz22_2 : w21.cell? ⟨gb292, 2, none⟩ = some (.slice none 0 0) := (blk_cell BK292.out 2).trans rfl; have hcz22_3 : w21.cell? ⟨gb292, 3, none⟩ = some (.int .i64 0) := (blk_cell BK292.out 3).trans rfl; have hcz22_4 : w21.cell? ⟨gb292, 4, none⟩ = some (.int .i64 0) := (blk_cell BK292.out 4).trans rfl; have hcz22_5 : w21.cell? ⟨gb292, 5, none⟩ = some (.int .i64 0) := (blk_cell BK292.out 5).trans rfl; have hcz22_6 : w21.cell? ⟨gb292, 6, none⟩ = some (.int .i64 0) := (blk_cell BK292.out 6).trans rfl; have hcz22_7 : w21.cell? ⟨gb292, 7, none⟩ = some (.int .i64 0) := (blk_cell BK292.out 7).trans rfl; have hcz22_8 : w21.cell? ⟨gb292, 8, none⟩ = some (.int .i64 0) := (blk_cell BK292.out 8).trans rfl; have hfz22_0 := blk_frozen BK292.out 0; have hfz22_1 := blk_frozen BK292.out 1; have hfz22_2 := blk_frozen BK292.out 2; have hfz22_3 := blk_frozen BK292.out 3; have hfz22_4 := blk_frozen BK292.out 4; have hfz22_5 := blk_frozen BK292.out 5; have hfz22_6 := blk_frozen BK292.out 6; have hfz22_7 := blk_frozen BK292.out 7; have hfz22_8 := blk_frozen BK292.out 8) | ((with_reducible refine gate_callee (f := 16) rfl ?_); refine goesL_ (some 6) rfl rfl Try.func16 (by kernel_rfl) rfl #[.agg #[.slice Ao20 y289.length co20, .slice none 0 0, .slice none 0 0, .int .i64 0, .int .i64 0, .int .i64 0, .int .i64 0, .int .i64 0, .int .i64 50], .slice none 0 0, .slice none 0 0, .int .i64 7] rfl (by (try simp only [List.map_toArray, List.map_cons, List.map_nil]); first | done | rfl | (simp only [List.length_drop, List.length_take]; rfl)) ?_; (refine (rest_Ready.calls _ _ y289 _ _ ([] : List (S68)) _ _ ([] : List (S71)) 0 0 0 0 0 50 _ _ ([] : List (S36)) _ _ ([] : List Int) 7 t293 _ ?side1 ?side2 ?side3 ?side4 ?side5 ?side6 ?side7 ?side8 ?side9 ?side10 A1.out).mono ?_); (case side1 => refine (Kd.R_reads' (e := 58) (base := w.heap.size) (ok := fun k_ => True) (n := y289.length) (c := co20) ?_).2.2; exact (by (with_reducible repeat (first | apply Kd.R_alloc | apply Kd.R_drewN | apply Kd.R_drew)); exact (Kd.R_mono (Kd.R_far (p := ⟨gb292, 8, none⟩) (Kd.R_far (p := ⟨gb292, 7, none⟩) (Kd.R_far (p := ⟨gb292, 6, none⟩) (Kd.R_far (p := ⟨gb292, 5, none⟩) (Kd.R_far (p := ⟨gb292, 4, none⟩) (Kd.R_far (p := ⟨gb292, 3, none⟩) (Kd.R_far (p := ⟨gb292, 2, none⟩) (Kd.R_far (p := ⟨gb292, 1, none⟩) (Kd.R_far (p := ⟨gb292, 0, none⟩) (Kd.R_types HO291.out BK292.out (by decide)) (fun _ hk => hk.2) (.slice Ao20 y289.length co20)) (fun _ hk => hk.2) (.slice none 0 0)) (fun _ hk => hk.2) (.slice none 0 0)) (fun _ hk => hk.2) (.int .i64 0)) (fun _ hk => hk.2) (.int .i64 0)) (fun _ hk => hk.2) (.int .i64 0)) (fun _ hk => hk.2) (.int .i64 0)) (fun _ hk => hk.2) (.int .i64 0)) (fun _ hk => hk.2) (.int .i64 50)) (fun _ h_ => h_.1)))); (case side2 => exact (Kd.R_reads' HO291.out).2.1); (case side3 => exact Kd.C_nil _ _); (case side4 => exact Nat.le_refl _); (case side5 => exact Kd.C_nil _ _); (case side6 => exact Nat.le_refl _); (case side7 => exact Kd.C_nil _ _); (case side8 => exact Nat.le_refl _); (case side9 => exact Kd.C_nil _ _); (case side10 => exact Nat.le_refl _); rintro e w23 ⟨rfl, hb⟩; refine ⟨_, rfl, ?_⟩; have n0_ := Aside0.mk (Kd.R_below (by (with_reducible repeat (first | apply Kd.R_alloc | apply Kd.R_drewN | apply Kd.R_drew)); exact (Kd.R_mono (Kd.R_far (p := ⟨gb292, 8, none⟩) (Kd.R_far (p := ⟨gb292, 7, none⟩) (Kd.R_far (p := ⟨gb292, 6, none⟩) (Kd.R_far (p := ⟨gb292, 5, none⟩) (Kd.R_far (p := ⟨gb292, 4, none⟩) (Kd.R_far (p := ⟨gb292, 3, none⟩) (Kd.R_far (p := ⟨gb292, 2, none⟩) (Kd.R_far (p := ⟨gb292, 1, none⟩) (Kd.R_far (p := ⟨gb292, 0, none⟩) (Kd.R_types HO291.out BK292.out (by decide)) (fun _ hk => hk.2) (.slice Ao20 y289.length co20)) (fun _ hk => hk.2) (.slice none 0 0)) (fun _ hk => hk.2) (.slice none 0 0)) (fun _ hk => hk.2) (.int .i64 0)) (fun _ hk => hk.2) (.int .i64 0)) (fun _ hk => hk.2) (.int .i64 0)) (fun _ hk => hk.2) (.int .i64 0)) (fun _ hk => hk.2) (.int .i64 0)) (fun _ hk => hk.2) (.int .i64 50)) (fun _ h_ => h_.1))) hb); have n1_ := Aside0.mk (blk_below (g := gb292) (o := .cells #[.slice Ao20 y289.length co20, .slice none 0 0, .slice none 0 0, .int .i64 0, .int .i64 0, .int .i64 0, .int .i64 0, .int .i64 0, .int .i64 50] 26 (0, 0)) (by (with_reducible repeat (first | refine blk_drewN ?_ _ | refine blk_drew ?_ | refine blk_alloc ?_ _)); refine blk_put (cs := #[.slice Ao20 y289.length co20, .slice none 0 0, .slice none 0 0, .int .i64 0, .int .i64 0, .int .i64 0, .int .i64 0, .int .i64 0, .int .i64 0]) ?_ 8 _ rfl; (with_reducible repeat (first | refine blk_drewN ?_ _ | refine blk_drew ?_ | refine blk_alloc ?_ _)); refine blk_put (cs := #[.slice Ao20 y289.length co20, .slice none 0 0, .slice none 0 0, .int .i64 0, .int .i64 0, .int .i64 0, .int .i64 0, .int .i64 0, .int .i64 0]) ?_ 7 _ rfl; (with_reducible repeat (first | refine blk_drewN ?_ _ | refine blk_drew ?_ | refine blk_alloc ?_ _)); refine blk_put (cs := #[.slice Ao20 y289.length co20, .slice none 0 0, .slice none 0 0, .int .i64 0, .int .i64 0, .int .i64 0, .int .i64 0, .int .i64 0, .int .i64 0]) ?_ 6 _ rfl; (with_reducible repeat (first | refine blk_drewN ?_ _ | refine blk_drew ?_ | refine blk_alloc ?_ _)); refine blk_put (cs := #[.slice Ao20 y289.length co20, .slice none 0 0, .slice none 0 0, .int .i64 0, .int .i64 0, .int .i64 0, .int .i64 0, .int .i64 0, .int .i64 0]) ?_ 5 _ rfl; (with_reducible repeat (first | refine blk_drewN ?_ _ | refine blk_drew ?_ | refine blk_alloc ?_ _)); refine blk_put (cs := #[.slice Ao20 y289.length co20, .slice none 0 0, .slice none 0 0, .int .i64 0, .int .i64 0, .int .i64 0, .int .i64 0, .int .i64 0, .int .i64 0]) ?_ 4 _ rfl; (with_reducible repeat (first | refine blk_drewN ?_ _ | refine blk_drew ?_ | refine blk_alloc ?_ _)); refine blk_put (cs := #[.slice Ao20 y289.length co20, .slice none 0 0, .slice none 0 0, .int .i64 0, .int .i64 0, .int .i64 0, .int .i64 0, .int .i64 0, .int .i64 0]) ?_ 3 _ rfl; (with_reducible repeat (first | refine blk_drewN ?_ _ | refine blk_drew ?_ | refine blk_alloc ?_ _)); refine blk_put (cs := #[.slice Ao20 y289.length co20, .slice none 0 0, .slice none 0 0, .int .i64 0, .int .i64 0, .int .i64 0, .int .i64 0, .int .i64 0, .int .i64 0]) ?_ 2 _ rfl; (with_reducible repeat (first | refine blk_drewN ?_ _ | refine blk_drew ?_ | refine blk_alloc ?_ _)); refine blk_put (cs := #[.slice Ao20 y289.length co20, .slice none 0 0, .slice none 0 0, .int .i64 0, .int .i64 0, .int .i64 0, .int .i64 0, .int .i64 0, .int .i64 0]) ?_ 1 _ rfl; (with_reducible repeat (first | refine blk_drewN ?_ _ | refine blk_drew ?_ | refine blk_alloc ?_ _)); refine blk_put (cs := #[.slice none 0 0, .slice none 0 0, .slice none 0 0, .int .i64 0, .int .i64 0, .int .i64 0, .int .i64 0, .int .i64 0, .int .i64 0]) ?_ 0 _ rfl; (with_reducible repeat (first | refine blk_drewN ?_ _ | refine blk_drew ?_ | refine blk_alloc ?_ _)); exact BK292.out) hb); have n2_ := Aside0.mk (below_step (by repeat (first | (with_reducible first | exact HB.out | apply below_alloc | apply pw_below_drewN | apply below_drew1 | refine below_set ?_ GE292.out) | exact HB.out)) hb); clear HO291; clear BK292; clear HB; have HO291 := n0_; have BK292 := n1_; have HB := n2_; clear n0_ n1_ n2_; (try clear hb); (try clear hb2); (try clear hk); (try clear hi)))
    go_ret
    exact ⟨by first | rfl | (simp [errW_none, errW_some] <;> rfl) | (simp [*, errW_none, errW_some] <;> rfl), by repeat (first | (with_reducible first | exact HB.out | apply below_alloc | apply pw_below_drewN | apply below_drew1 | refine below_set ?_ GE292.out) | exact HB.out)⟩
end
end Go.Proofs.Ytchlbnlhjllcbaa.F
namespace Go.Proofs.Ytchlbnlhjllcbaa.Sla
open Go.RowKit Go.Proofs.Ytchlbnlhjllcbaa.F Go.Proofs.Ytchlbnlhjllcbaa.Tbl Go.Proofs.Ytchlbnlhjllcbaa.Adm Go.Proofs.YtchlbnlhjllcbaaW.PrintWords Go.Proofs.YtchlbnlhjllcbaaW.PrintLast
set_option linter.unusedVariables false
section
variable {l0 : List S58} {l1 : List S68} {l2 : List S71} {idle crit sw swE sems hor : Int} {ts : List S36} {nx : List Int} {now a : Int}
def ms (now : Int) (nx : List Int) : List S36 → Nat → List Int
  | [], _ => []
  | t :: l, i => if 0 < t.f0 then (mx now (rd nx i) + t.f0) :: ms now nx l (i + 1) else ms now nx l (i + 1)
theorem ms_cons (t : S36) (l : List S36) (i : Nat) : ms now nx (t :: l) i = if 0 < t.f0 then (mx now (rd nx i) + t.f0) :: ms now nx l (i + 1) else ms now nx l (i + 1) := rfl
def fl (f : Int → Int) : Int → List Int → Int
  | x, [] => x
  | x, d :: l => fl f (mn x (f d)) l
theorem fl_le (f : Int → Int) : ∀ (l : List Int) (x : Int), fl f x l ≤ x ∧ ∀ d ∈ l, fl f x l ≤ f d
  | [], x => ⟨Int.le_refl _, fun d h => by cases h⟩
  | e :: l, x => by
    have ih := fl_le f l (mn x (f e))
    have m := mn_le x (f e)
    unfold fl
    refine ⟨by omega, fun d h => ?_⟩
    rcases List.mem_cons.1 h with rfl | h
    · omega
    · exact ih.2 d h
theorem le_fl (f : Int → Int) {c : Int} : ∀ (l : List Int) (x : Int), c ≤ x → (∀ d ∈ l, c ≤ f d) → c ≤ fl f x l
  | [], x, h, _ => h
  | e :: l, x, h, hd => by
    unfold fl
    refine le_fl f l _ ?_ (fun d hm => hd d (by simp [hm]))
    have := hd e (by simp)
    rcases mn_cases x (f e) with y | y <;> omega
theorem ms_bd {now : Int} (h0 : 0 ≤ now ∧ now ≤ 2097152) (hh : hor ≤ 16384) (hx : ∀ i : Nat, i < nx.length → 0 ≤ rd nx i ∧ rd nx i ≤ 2097152) : ∀ (l : List S36) (i : Nat), (∀ t ∈ l, NoneT t ∨ TaskOk l2.length sems hor t) → i + l.length ≤ nx.length → ∀ d ∈ ms now nx l i, now ≤ d ∧ d ≤ 4194304
  | [], i, _, _, d, h => by cases h
  | t :: l, i, hl, hi, d, h => by
    rw [List.length_cons] at hi
    have ih := ms_bd h0 hh hx l (i + 1) (fun u hu => hl u (by simp [hu])) (by omega) d
    unfold ms at h
    by_cases c : 0 < t.f0
    · rw [if_pos c] at h
      rcases List.mem_cons.1 h with rfl | h
      · have hxi := hx i (by omega)
        have tk : TaskOk l2.length sems hor t := by
          rcases hl t (by simp) with y | y
          · have := y.1; omega
          · exact y
        have p := tk.period
        have mb : now ≤ mx now (rd nx i) ∧ mx now (rd nx i) ≤ 2097152 := by unfold mx; split <;> omega
        omega
      · exact ih h
    · rw [if_neg c] at h; exact ih h
theorem tasks_mem (g : GoodV l0 l1 l2 idle crit sw swE sems hor ts nx now a) : ∀ t ∈ ts, NoneT t ∨ TaskOk l2.length sems hor t := fun t h => by
  obtain ⟨i, hi, rfl⟩ := List.getElem_of_mem h
  have := g.task i hi
  unfold rd_T36 at this
  rwa [Int.toNat_natCast, List.getD_eq_getElem?_getD, List.getElem?_eq_getElem hi] at this
theorem g_ms (g : GoodV l0 l1 l2 idle crit sw swE sems hor ts nx now a) : ∀ d ∈ ms now nx ts 0, now ≤ d ∧ d ≤ 4194304 :=
  ms_bd (l2 := l2) (sems := sems) (hor := hor) g.now (by have := head_of g.table; omega) (fun i hi => g.next i (by have := g.len; omega)) ts 0 (tasks_mem g) (by have := g.len; omega)
theorem least_l2 (g : GoodV l0 l1 l2 idle crit sw swE sems hor ts nx now a) (md : List Int) (hm : ∀ d ∈ md, now ≤ d ∧ d ≤ 4194304) (h64 : md.length ≤ 64) (d : Nat) : ∀ (i k : Nat) (x : Int), i + d = md.length → d < k →
    slack_view_least.l2 k now x md md.length i l0 l1 l2 idle crit sw swE sems hor ts nx [] [] now = some (fl (atV l0 sw now nx ts) x (md.drop i), idle, crit, sw, swE, sems, hor, now) := by
  induction d with
  | zero =>
    intro i k x hi hk
    obtain ⟨k, rfl⟩ : ∃ q, k = q + 1 := ⟨k - 1, by omega⟩
    simp only [slack_view_least.l2]
    rw [if_neg (by omega), List.drop_eq_nil_of_le (by omega)]; rfl
  | succ d ih =>
    intro i k x hi hk
    obtain ⟨k, rfl⟩ : ∃ q, k = q + 1 := ⟨k - 1, by omega⟩
    have hil : i < md.length := by omega
    have e : rd md i = md[i] := by unfold rd; rw [Int.toNat_natCast, List.getD_eq_getElem?_getD, List.getElem?_eq_getElem hil]; rfl
    have b := hm _ (List.getElem_mem hil)
    have hn := g.now
    simp only [slack_view_least.l2]
    rw [if_pos (by omega), if_pos (by omega), if_pos (by omega), e, if_pos (by omega)]
    unfold slack_view_at.f
    rw [if_pos (show ([] : List S73).length = 0 from rfl), at_some g (by omega) b.2, Option.bind_some, Option.bind_some, Adm.w64 (n := (i : Int) + 1) (by omega) (by omega), List.drop_eq_getElem_cons hil]
    have := ih (i + 1) k (mn x (atV l0 sw now nx ts md[i])) (by omega) (by omega)
    rw [show ((i + 1 : Nat) : Int) = (i : Int) + 1 from by omega] at this
    exact this
theorem ms_len {now : Int} : ∀ (l : List S36) (i : Nat), (ms now nx l i).length ≤ l.length
  | [], i => Nat.le_refl _
  | t :: l, i => by
    have := ms_len (now := now) l (i + 1)
    unfold ms
    split <;> simp <;> omega
theorem least_l1 (g : GoodV l0 l1 l2 idle crit sw swE sems hor ts nx now a) (d : Nat) : ∀ (i k : Nat) (md : List Int), i + d = ts.length → 100 + d < k → md ++ ms now nx (ts.drop i) i = ms now nx ts 0 → md.length ≤ 64 →
    slack_view_least.l1 k now md ts ts.length i l0 l1 l2 idle crit sw swE sems hor ts nx [] [] now = some (fl (atV l0 sw now nx ts) 4611686018427387904 (ms now nx ts 0), idle, crit, sw, swE, sems, hor, now) := by
  have few := g.few
  induction d with
  | zero =>
    intro i k md hi hk he h64
    obtain ⟨k, rfl⟩ : ∃ q, k = q + 1 := ⟨k - 1, by omega⟩
    rw [List.drop_eq_nil_of_le (by omega)] at he
    have he' : md = ms now nx ts 0 := by rw [← he]; simp [ms]
    have l2 := least_l2 g md (by rw [he']; exact g_ms g) h64 md.length 0 k 4611686018427387904 (by omega) (by omega)
    simp only [slack_view_least.l1]
    rw [if_neg (by omega)]
    have ew : fix_Whole.f 1073741824 = some 4611686018427387904 := by decide +kernel
    rw [ew, Option.bind_some]
    rw [← he']
    exact l2
  | succ d ih =>
    intro i k md hi hk he h64
    obtain ⟨k, rfl⟩ : ∃ q, k = q + 1 := ⟨k - 1, by omega⟩
    have hn := g.now
    have hil : i < ts.length := by omega
    have hx := g.next i hil
    have hh := head_of g.table
    have mlen := ms_len (nx := nx) (now := now) ts 0
    simp only [slack_view_least.l1]
    rw [if_pos (by omega), if_pos (by omega), if_pos (by omega), Adm.w64 (n := (i : Int) + 1) (by omega) (by omega)]
    rw [drop_at ts hil, ms_cons] at he
    by_cases c : (rd_T36 ts i).f0 > 0
    · rw [if_pos c]
      rw [if_pos (show 0 < (rd_T36 ts i).f0 from c)] at he
      have tk : TaskOk l2.length sems hor (rd_T36 ts i) := by
        rcases g.task i hil with y | y
        · have := y.1; omega
        · exact y
      have p := tk.period
      have mb : 0 ≤ mx now (rd nx i) ∧ mx now (rd nx i) ≤ 2097152 := by unfold mx; split <;> omega
      unfold slack_view_from.f
      rw [if_pos (by omega), if_pos (by have := g.len; omega), Option.bind_some, if_pos (by omega), Adm.w64 (n := mx now (rd nx i) + (rd_T36 ts i).f0) (by omega) (by omega)]
      have ln : (md ++ [mx now (rd nx i) + (rd_T36 ts i).f0]).length ≤ 64 := by
        have e2 := congrArg List.length he
        rw [List.length_append, List.length_cons] at e2
        rw [List.length_append, List.length_singleton]; omega
      have := ih (i + 1) k (md ++ [mx now (rd nx i) + (rd_T36 ts i).f0]) (by omega) (by omega) (by rw [List.append_assoc]; exact he) ln
      rw [show ((i + 1 : Nat) : Int) = (i : Int) + 1 from by omega] at this
      exact this
    · rw [if_neg c]
      rw [if_neg (show ¬ 0 < (rd_T36 ts i).f0 from c)] at he
      have := ih (i + 1) k md (by omega) (by omega) he h64
      rw [show ((i + 1 : Nat) : Int) = (i : Int) + 1 from by omega] at this
      exact this
def least (l0 : List S58) (sw now : Int) (nx : List Int) (ts : List S36) : Int := fl (atV l0 sw now nx ts) 4611686018427387904 (ms now nx ts 0)
theorem least_some (g : GoodV l0 l1 l2 idle crit sw swE sems hor ts nx now a) : slack_Least.f l0 l1 l2 idle crit sw swE sems hor ts nx [] [] now now = some (least l0 sw now nx ts) := by
  have few := g.few
  have h := least_l1 g ts.length 0 999 [] (by omega) (by omega) rfl (by simp)
  unfold slack_Least.f slack_view_least.f
  have e : slack_view_least.l0 1000 now [] [] (([] : List S38).length : Int) 0 l0 l1 l2 idle crit sw swE sems hor ts nx [] [] now = slack_view_least.l1 999 now [] ts ts.length 0 l0 l1 l2 idle crit sw swE sems hor ts nx [] [] now := by
    show slack_view_least.l0 (999 + 1) now [] [] (([] : List S38).length : Int) 0 l0 l1 l2 idle crit sw swE sems hor ts nx [] [] now = _
    simp only [slack_view_least.l0]
    rw [if_neg (by simp)]
  rw [e]
  rw [show ((0 : Nat) : Int) = 0 from rfl] at h
  rw [h]
  rfl
def nap (x : Int) : Int := mn (mx (x / 4294967296) 0) 1024
theorem nap_bd (x : Int) : 0 ≤ nap x ∧ nap x ≤ 1024 := by
  unfold nap mn mx
  repeat' split
  all_goals omega
theorem ready_some (g : GoodV l0 l1 l2 idle crit sw swE sems hor ts nx now a) : rest_Ready.f l0 l1 l2 idle crit sw swE sems hor ts nx now = some (now + nap (least l0 sw now nx ts)) := by
  have hn := g.now
  have b := nap_bd (least l0 sw now nx ts)
  unfold rest_Ready.f
  rw [least_some g, Option.bind_some]
  unfold fix_Floor.f
  rw [Option.bind_some]
  show some (wrap64 (now + nap (least l0 sw now nx ts))) = _
  rw [Adm.w64 (by omega) (by omega)]
theorem answers_yes : dormouselaw17_answers.f = some true := by decide +kernel
end
end Go.Proofs.Ytchlbnlhjllcbaa.Sla
namespace Go.Proofs.Ytchlbnlhjllcbaa.F
open Go.RowKit Go.Proofs.YtchlbnlhjllcbaaW.PrintWords Go.Proofs.YtchlbnlhjllcbaaW.PrintLast Go.Proofs.YtchlbnlhjllcbaaW.PrintMore
attribute [local go_sem] max2_int min2_int max_two min_two max_three min_three max_four min_four   -- for this text's walks alone
set_option linter.unusedVariables false
set_option linter.unusedSimpArgs false
def dormouseref01_clamp.f (a0 : Int) (a1 : Int) (a2 : Int) : Option (Int) := if a0 < a1 then (some a1) else (if a0 > a2 then (some a2) else (some a0))
set_option maxHeartbeats 8000000 in
set_option maxRecDepth 100000 in
theorem dormouseref01_clamp.calls (a0 : Int) (a1 : Int) (a2 : Int) (r : Int) (w : World) (h : dormouseref01_clamp.f a0 a1 a2 = some r) :
    Calls Try.prog 38 #[.int .i64 a0, .int .i64 a1, .int .i64 a2] w fun e w' => e = .returned (.int .i64 r) ∧ Drawn0 w w' := by
  have H : (if a0 < a1 then (some a1) else (if a0 > a2 then (some a2) else (some a0))) = some r := h
  clear h
  by_cases c4 : a0 < a1
  · rw [if_pos c4] at H
    have c4b0 : decide (a0 < a1) = true := decide_eq_true c4
    clear c4
    obtain rfl := Option.some.inj H
    go_enter Try.func38, Try.ntmps38
    go_wp2
    go_ret
    exact ⟨by first | rfl | (simp; done) | (simp [*]; done), by repeat (first | exact Drawn0.refl _ | apply Drawn0.step)⟩
  · rw [if_neg c4] at H
    have c4b0 : decide (a0 < a1) = false := decide_eq_false c4
    clear c4
    by_cases c5 : a0 > a2
    · rw [if_pos c5] at H
      have c5b0 : decide (a2 < a0) = true := decide_eq_true c5
      clear c5
      obtain rfl := Option.some.inj H
      go_enter Try.func38, Try.ntmps38
      go_wp2
      go_ret
      exact ⟨by first | rfl | (simp; done) | (simp [*]; done), by repeat (first | exact Drawn0.refl _ | apply Drawn0.step)⟩
    · rw [if_neg c5] at H
      have c5b0 : decide (a2 < a0) = false := decide_eq_false c5
      clear c5
      obtain rfl := Option.some.inj H
      go_enter Try.func38, Try.ntmps38
      go_wp2
      go_ret
      exact ⟨by first | rfl | (simp; done) | (simp [*]; done), by repeat (first | exact Drawn0.refl _ | apply Drawn0.step)⟩
def dormouseref01_Util.f (a0 : Int) (a1 : Int) : Option (Int) := if a1 < 1 then (some 1099511627776) else ((dormouseref01_clamp.f a0 0 536870912).bind fun t267 => (if a1 = 0 then (none) else (if (Int.tmod (wrap64 (t267 * 4294967296)) a1) = 0 then (some (wrap64 (Int.tdiv (wrap64 (t267 * 4294967296)) a1))) else (some (wrap64 ((wrap64 (Int.tdiv (wrap64 (t267 * 4294967296)) a1)) + 1))))))
set_option maxHeartbeats 8000000 in
set_option maxRecDepth 100000 in
theorem dormouseref01_Util.calls (a0 : Int) (a1 : Int) (r : Int) (w : World) (h : dormouseref01_Util.f a0 a1 = some r) :
    Calls Try.prog 26 #[.int .i64 a0, .int .i64 a1] w fun e w' => e = .returned (.int .i64 r) ∧ Drawn0 w w' := by
  have H : (if a1 < 1 then (some 1099511627776) else ((dormouseref01_clamp.f a0 0 536870912).bind fun t267 => (if a1 = 0 then (none) else (if (Int.tmod (wrap64 (t267 * 4294967296)) a1) = 0 then (some (wrap64 (Int.tdiv (wrap64 (t267 * 4294967296)) a1))) else (some (wrap64 ((wrap64 (Int.tdiv (wrap64 (t267 * 4294967296)) a1)) + 1))))))) = some r := h
  clear h
  by_cases c3 : a1 < 1
  · rw [if_pos c3] at H
    have c3b0 : decide (a1 < 1) = true := decide_eq_true c3
    clear c3
    obtain rfl := Option.some.inj H
    go_enter Try.func26, Try.ntmps26
    go_wp2
    go_ret
    exact ⟨by first | rfl | (simp; done) | (simp [*]; done), by repeat (first | exact Drawn0.refl _ | apply Drawn0.step)⟩
  · rw [if_neg c3] at H
    have c3b0 : decide (a1 < 1) = false := decide_eq_false c3
    clear c3
    replace H := Option.bind_eq_some_iff.mp H
    obtain ⟨t267, A40, H⟩ := H
    replace H : (if a1 = 0 then (none) else (if (Int.tmod (wrap64 (t267 * 4294967296)) a1) = 0 then (some (wrap64 (Int.tdiv (wrap64 (t267 * 4294967296)) a1))) else (some (wrap64 ((wrap64 (Int.tdiv (wrap64 (t267 * 4294967296)) a1)) + 1))))) = some r := H
    have A4 := Aside0.mk A40
    clear A40
    by_cases c5 : a1 = 0
    · rw [if_pos c5] at H
      exact absurd H (by simp)
    · rw [if_neg c5] at H
      have c5b0 : (a1 == 0) = false := beq_eq_false_iff_ne.mpr c5
      have c5b1 : (a1 != 0) = true := bne_iff_ne.mpr c5
      by_cases c6 : (Int.tmod (wrap64 (t267 * 4294967296)) a1) = 0
      · rw [if_pos c6] at H
        have c6b0 : ((Int.tmod (wrap64 (t267 * 4294967296)) a1) == 0) = true := beq_iff_eq.mpr c6
        have c6b1 : ((Int.tmod (wrap64 (t267 * 4294967296)) a1) != 0) = false := bne_eq_false_iff_eq.mpr c6
        clear c6
        obtain rfl := Option.some.inj H
        go_enter Try.func26, Try.ntmps26
        go_wp2_with (first | ((with_reducible refine gate_callee (f := 38) rfl ?_); refine goesL_ (some 9) rfl rfl Try.func38 (by kernel_rfl) rfl #[.int .i64 a0, .int .i64 0, .int .i64 536870912] rfl (by (try simp only [List.map_toArray, List.map_cons, List.map_nil]); first | done | rfl | (simp only [List.length_drop, List.length_take]; rfl)) ?_; (with_reducible refine (dormouseref01_clamp.calls a0 0 536870912 t267 _ A4.out).mono ?_); rintro e w' ⟨rfl, ⟨nd, rfl⟩⟩; refine ⟨_, rfl, ?_⟩))
        go_ret
        exact ⟨by first | rfl | (simp; done) | (simp [*]; done), by repeat (first | exact Drawn0.refl _ | apply Drawn0.step)⟩
      · rw [if_neg c6] at H
        have c6b0 : ((Int.tmod (wrap64 (t267 * 4294967296)) a1) == 0) = false := beq_eq_false_iff_ne.mpr c6
        have c6b1 : ((Int.tmod (wrap64 (t267 * 4294967296)) a1) != 0) = true := bne_iff_ne.mpr c6
        obtain rfl := Option.some.inj H
        go_enter Try.func26, Try.ntmps26
        go_wp2_with (first | ((with_reducible refine gate_callee (f := 38) rfl ?_); refine goesL_ (some 9) rfl rfl Try.func38 (by kernel_rfl) rfl #[.int .i64 a0, .int .i64 0, .int .i64 536870912] rfl (by (try simp only [List.map_toArray, List.map_cons, List.map_nil]); first | done | rfl | (simp only [List.length_drop, List.length_take]; rfl)) ?_; (with_reducible refine (dormouseref01_clamp.calls a0 0 536870912 t267 _ A4.out).mono ?_); rintro e w' ⟨rfl, ⟨nd, rfl⟩⟩; refine ⟨_, rfl, ?_⟩))
        go_ret
        exact ⟨by first | rfl | (simp; done) | (simp [*]; done), by repeat (first | exact Drawn0.refl _ | apply Drawn0.step)⟩
end Go.Proofs.Ytchlbnlhjllcbaa.F
namespace Go.Proofs.Ytchlbnlhjllcbaa.F
open Go.RowKit Go.Proofs.YtchlbnlhjllcbaaW.PrintWords Go.Proofs.YtchlbnlhjllcbaaW.PrintLast Go.Proofs.YtchlbnlhjllcbaaW.PrintMore
attribute [local go_sem] max2_int min2_int max_two min_two max_three min_three max_four min_four   -- for this text's walks alone
set_option linter.unusedVariables false
set_option linter.unusedSimpArgs false
def dormouseref09_Part.j0 : Nat → Int → Bool → List (S58) → List (S68) → List (S71) → Int → Int → Int → Int → Int → Int → Int → Int → List Int → List Int → Option (Int)
  | 0, _, _, _, _, _, _, _, _, _, _, _, _, _, _, _ => none
  | k + 1, x2, x15, x269000, x269001, x269002, x269003, x269004, x269005, x269006, x269007, x269008, x270000, x270001, x270002, x270003 => if x15 = true then ((dormouseref01_Util.f 0 x270000).bind fun t270 => (some t270)) else (if 0 ≤ x2 then (if x2 < (x269000.length : Int) then ((dormouseref01_Util.f (wrap64 ((wrap64 (x270001 * ((rd_T58 x269000 x2).f0))) + (wrap64 (2 * x269005)))) x270000).bind fun t272 => (some t272)) else (none)) else (none))
def dormouseref09_Part.f (k : Nat) (l0_0 : List (S58)) (l0_1 : List (S68)) (l0_2 : List (S71)) (a0_3 : Int) (a0_4 : Int) (a0_5 : Int) (a0_6 : Int) (a0_7 : Int) (a0_8 : Int) (a1_0 : Int) (a1_1 : Int) (l1_2 : List Int) (l1_3 : List Int) (a2 : Int) : Option (Int) := if a2 < 0 then (dormouseref09_Part.j0 k a2 true l0_0 l0_1 l0_2 a0_3 a0_4 a0_5 a0_6 a0_7 a0_8 a1_0 a1_1 l1_2 l1_3) else (dormouseref09_Part.j0 k a2 (decide (a2 ≥ (l0_0.length : Int))) l0_0 l0_1 l0_2 a0_3 a0_4 a0_5 a0_6 a0_7 a0_8 a1_0 a1_1 l1_2 l1_3)
set_option maxHeartbeats 8000000 in
set_option maxRecDepth 100000 in
theorem dormouseref09_Part.calls (k : Nat) (A0_0 : Option Addr) (c0_0 : Nat) (l0_0 : List (S58)) (A0_1 : Option Addr) (c0_1 : Nat) (l0_1 : List (S68)) (A0_2 : Option Addr) (c0_2 : Nat) (l0_2 : List (S71)) (a0_3 : Int) (a0_4 : Int) (a0_5 : Int) (a0_6 : Int) (a0_7 : Int) (a0_8 : Int) (a1_0 : Int) (a1_1 : Int) (A1_2 : Option Addr) (c1_2 : Nat) (l1_2 : List Int) (A1_3 : Option Addr) (c1_3 : Nat) (l1_3 : List Int) (a2 : Int) (r : Int) (w : World) (hr0_0 : Kd.C k58 w A0_0 l0_0.length l0_0) (hc0_0 : l0_0.length ≤ c0_0) (hr0_1 : Kd.C k68 w A0_1 l0_1.length l0_1) (hc0_1 : l0_1.length ≤ c0_1) (hr0_2 : Kd.C k71 w A0_2 l0_2.length l0_2) (hc0_2 : l0_2.length ≤ c0_2) (hr1_2 : Kd.C (Kd.int .i64) w A1_2 l1_2.length l1_2) (hc1_2 : l1_2.length ≤ c1_2) (hr1_3 : Kd.C (Kd.int .i64) w A1_3 l1_3.length l1_3) (hc1_3 : l1_3.length ≤ c1_3) (h : dormouseref09_Part.f k l0_0 l0_1 l0_2 a0_3 a0_4 a0_5 a0_6 a0_7 a0_8 a1_0 a1_1 l1_2 l1_3 a2 = some r) :
    Calls Try.prog 12 #[.agg #[.slice A0_0 l0_0.length c0_0, .slice A0_1 l0_1.length c0_1, .slice A0_2 l0_2.length c0_2, .int .i64 a0_3, .int .i64 a0_4, .int .i64 a0_5, .int .i64 a0_6, .int .i64 a0_7, .int .i64 a0_8], .agg #[.int .i64 a1_0, .int .i64 a1_1, .slice A1_2 l1_2.length c1_2, .slice A1_3 l1_3.length c1_3], .int .i64 a2] w fun e w' => e = .returned (.int .i64 r) ∧ Below w.heap.size w w' := by
  have hu26 := Try.underlying26
  have hu36 := Try.underlying36
  have HR0_0 := Aside0.mk hr0_0
  have HC0_0 := Aside0.mk hc0_0
  clear hr0_0 hc0_0
  have HR0_1 := Aside0.mk hr0_1
  have HC0_1 := Aside0.mk hc0_1
  clear hr0_1 hc0_1
  have HR0_2 := Aside0.mk hr0_2
  have HC0_2 := Aside0.mk hc0_2
  clear hr0_2 hc0_2
  have HR1_2 := Aside0.mk hr1_2
  have HC1_2 := Aside0.mk hc1_2
  clear hr1_2 hc1_2
  have HR1_3 := Aside0.mk hr1_3
  have HC1_3 := Aside0.mk hc1_3
  clear hr1_3 hc1_3
  have HB := Aside0.mk (Below.refl w.heap.size w)
  have H : (if a2 < 0 then (dormouseref09_Part.j0 k a2 true l0_0 l0_1 l0_2 a0_3 a0_4 a0_5 a0_6 a0_7 a0_8 a1_0 a1_1 l1_2 l1_3) else (dormouseref09_Part.j0 k a2 (decide (a2 ≥ (l0_0.length : Int))) l0_0 l0_1 l0_2 a0_3 a0_4 a0_5 a0_6 a0_7 a0_8 a1_0 a1_1 l1_2 l1_3)) = some r := h
  clear h
  have HC4 := Aside0.mk H
  clear H
  go_enter Try.func12, Try.ntmps12
  go_upto_region 1 with (first | ((with_reducible refine gate_dst (N := 3) rfl ?_); (try (refine gate_guard (by rfl) ?_; dsimp only)); refine box_event ?hg (N := 3) ?hd (cs := #[.slice A0_0 l0_0.length c0_0, .slice A0_1 l0_1.length c0_1, .slice A0_2 l0_2.length c0_2, .int .i64 a0_3, .int .i64 a0_4, .int .i64 a0_5, .int .i64 a0_6, .int .i64 a0_7, .int .i64 a0_8]) (t := 26) ?hr ?_; (case hd => rfl); (case hg => rfl); (case hr => first | (go_simp; done) | (go_simp; rfl)); intro gb268 hg w5 hbox hb; have n0_ := Aside0.mk (below_step (by repeat (first | (with_reducible first | exact HB.out | apply below_alloc | apply pw_below_drewN | apply below_drew1) | exact HB.out)) hb); have n1_ := Aside0.mk (hbox); have n2_ := Aside0.mk ((by rw [hg]; exact (below_size (by repeat (first | (with_reducible first | exact HB.out | apply below_alloc | apply pw_below_drewN | apply below_drew1) | exact HB.out))) : w.heap.size ≤ gb268)); have n3_ := Aside0.mk ((by rw [hg]; exact (below_size (by repeat (first | (with_reducible first | exact HB.out | apply below_alloc | apply pw_below_drewN | apply below_drew1) | exact HB.out))) : w.heap.size ≤ gb268)); clear HB; have HB := n0_; have BK268 := n1_; have GW268 := n2_; have GE268 := n3_; clear n0_ n1_ n2_ n3_; clear hb hbox hg) | ((with_reducible refine gate_dst (N := 4) rfl ?_); (try (refine gate_guard (by rfl) ?_; dsimp only)); refine box_event ?hg (N := 4) ?hd (cs := #[.int .i64 a1_0, .int .i64 a1_1, .slice A1_2 l1_2.length c1_2, .slice A1_3 l1_3.length c1_3]) (t := 36) ?hr ?_; (case hd => rfl); (case hg => rfl); (case hr => first | (go_simp; done) | (go_simp; rfl)); intro gb269 hg w6 hbox hb; have n0_ := Aside0.mk (blk_below (g := gb268) (o := .cells #[.slice A0_0 l0_0.length c0_0, .slice A0_1 l0_1.length c0_1, .slice A0_2 l0_2.length c0_2, .int .i64 a0_3, .int .i64 a0_4, .int .i64 a0_5, .int .i64 a0_6, .int .i64 a0_7, .int .i64 a0_8] 26 (0, 0)) (by (with_reducible repeat (first | refine blk_drewN ?_ _ | refine blk_drew ?_ | refine blk_alloc ?_ _)); exact BK268.out) hb); have n1_ := Aside0.mk (below_step (by repeat (first | (with_reducible first | exact HB.out | apply below_alloc | apply pw_below_drewN | apply below_drew1 | refine below_set ?_ GE268.out) | exact HB.out)) hb); have n2_ := Aside0.mk (hbox); have n3_ := Aside0.mk ((by rw [hg]; exact (below_size (by repeat (first | (with_reducible first | exact HB.out | apply below_alloc | apply pw_below_drewN | apply below_drew1 | refine below_set ?_ GE268.out) | exact HB.out))) : w.heap.size ≤ gb269)); have n4_ := Aside0.mk ((by rw [hg]; exact (below_size (by repeat (first | (with_reducible first | exact HB.out | apply below_alloc | apply pw_below_drewN | apply below_drew1 | refine below_set ?_ GE268.out) | exact HB.out))) : w.heap.size ≤ gb269)); have n5_ := Aside0.mk ((by rw [hg]; exact Nat.ne_of_lt (blk_lt (g := gb268) (o := .cells #[.slice A0_0 l0_0.length c0_0, .slice A0_1 l0_1.length c0_1, .slice A0_2 l0_2.length c0_2, .int .i64 a0_3, .int .i64 a0_4, .int .i64 a0_5, .int .i64 a0_6, .int .i64 a0_7, .int .i64 a0_8] 26 (0, 0)) (by (with_reducible repeat (first | refine blk_drewN ?_ _ | refine blk_drew ?_ | refine blk_alloc ?_ _)); exact BK268.out)) : gb268 ≠ gb269)); have n6_ := Aside0.mk ((by rw [hg]; exact Nat.ne_of_gt (blk_lt (g := gb268) (o := .cells #[.slice A0_0 l0_0.length c0_0, .slice A0_1 l0_1.length c0_1, .slice A0_2 l0_2.length c0_2, .int .i64 a0_3, .int .i64 a0_4, .int .i64 a0_5, .int .i64 a0_6, .int .i64 a0_7, .int .i64 a0_8] 26 (0, 0)) (by (with_reducible repeat (first | refine blk_drewN ?_ _ | refine blk_drew ?_ | refine blk_alloc ?_ _)); exact BK268.out)) : gb269 ≠ gb268)); clear BK268; clear HB; have BK268 := n0_; have HB := n1_; have BK269 := n2_; have GW269 := n3_; have GE269 := n4_; have NB268_269 := n5_; have NB269_268 := n6_; clear n0_ n1_ n2_ n3_ n4_ n5_ n6_; clear hb hbox hg))
  repeat (go_quiet (first | ((with_reducible refine gate_dst (N := 3) rfl ?_); (try (refine gate_guard (by rfl) ?_; dsimp only)); refine box_event ?hg (N := 3) ?hd (cs := #[.slice A0_0 l0_0.length c0_0, .slice A0_1 l0_1.length c0_1, .slice A0_2 l0_2.length c0_2, .int .i64 a0_3, .int .i64 a0_4, .int .i64 a0_5, .int .i64 a0_6, .int .i64 a0_7, .int .i64 a0_8]) (t := 26) ?hr ?_; (case hd => rfl); (case hg => rfl); (case hr => first | (go_simp; done) | (go_simp; rfl)); intro gb268 hg w5 hbox hb; have n0_ := Aside0.mk (below_step (by repeat (first | (with_reducible first | exact HB.out | apply below_alloc | apply pw_below_drewN | apply below_drew1) | exact HB.out)) hb); have n1_ := Aside0.mk (hbox); have n2_ := Aside0.mk ((by rw [hg]; exact (below_size (by repeat (first | (with_reducible first | exact HB.out | apply below_alloc | apply pw_below_drewN | apply below_drew1) | exact HB.out))) : w.heap.size ≤ gb268)); have n3_ := Aside0.mk ((by rw [hg]; exact (below_size (by repeat (first | (with_reducible first | exact HB.out | apply below_alloc | apply pw_below_drewN | apply below_drew1) | exact HB.out))) : w.heap.size ≤ gb268)); clear HB; have HB := n0_; have BK268 := n1_; have GW268 := n2_; have GE268 := n3_; clear n0_ n1_ n2_ n3_; clear hb hbox hg) | ((with_reducible refine gate_dst (N := 4) rfl ?_); (try (refine gate_guard (by rfl) ?_; dsimp only)); refine box_event ?hg (N := 4) ?hd (cs := #[.int .i64 a1_0, .int .i64 a1_1, .slice A1_2 l1_2.length c1_2, .slice A1_3 l1_3.length c1_3]) (t := 36) ?hr ?_; (case hd => rfl); (case hg => rfl); (case hr => first | (go_simp; done) | (go_simp; rfl)); intro gb269 hg w6 hbox hb; have n0_ := Aside0.mk (blk_below (g := gb268) (o := .cells #[.slice A0_0 l0_0.length c0_0, .slice A0_1 l0_1.length c0_1, .slice A0_2 l0_2.length c0_2, .int .i64 a0_3, .int .i64 a0_4, .int .i64 a0_5, .int .i64 a0_6, .int .i64 a0_7, .int .i64 a0_8] 26 (0, 0)) (by (with_reducible repeat (first | refine blk_drewN ?_ _ | refine blk_drew ?_ | refine blk_alloc ?_ _)); exact BK268.out) hb); have n1_ := Aside0.mk (below_step (by repeat (first | (with_reducible first | exact HB.out | apply below_alloc | apply pw_below_drewN | apply below_drew1 | refine below_set ?_ GE268.out) | exact HB.out)) hb); have n2_ := Aside0.mk (hbox); have n3_ := Aside0.mk ((by rw [hg]; exact (below_size (by repeat (first | (with_reducible first | exact HB.out | apply below_alloc | apply pw_below_drewN | apply below_drew1 | refine below_set ?_ GE268.out) | exact HB.out))) : w.heap.size ≤ gb269)); have n4_ := Aside0.mk ((by rw [hg]; exact (below_size (by repeat (first | (with_reducible first | exact HB.out | apply below_alloc | apply pw_below_drewN | apply below_drew1 | refine below_set ?_ GE268.out) | exact HB.out))) : w.heap.size ≤ gb269)); have n5_ := Aside0.mk ((by rw [hg]; exact Nat.ne_of_lt (blk_lt (g := gb268) (o := .cells #[.slice A0_0 l0_0.length c0_0, .slice A0_1 l0_1.length c0_1, .slice A0_2 l0_2.length c0_2, .int .i64 a0_3, .int .i64 a0_4, .int .i64 a0_5, .int .i64 a0_6, .int .i64 a0_7, .int .i64 a0_8] 26 (0, 0)) (by (with_reducible repeat (first | refine blk_drewN ?_ _ | refine blk_drew ?_ | refine blk_alloc ?_ _)); exact BK268.out)) : gb268 ≠ gb269)); have n6_ := Aside0.mk ((by rw [hg]; exact Nat.ne_of_gt (blk_lt (g := gb268) (o := .cells #[.slice A0_0 l0_0.length c0_0, .slice A0_1 l0_1.length c0_1, .slice A0_2 l0_2.length c0_2, .int .i64 a0_3, .int .i64 a0_4, .int .i64 a0_5, .int .i64 a0_6, .int .i64 a0_7, .int .i64 a0_8] 26 (0, 0)) (by (with_reducible repeat (first | refine blk_drewN ?_ _ | refine blk_drew ?_ | refine blk_alloc ?_ _)); exact BK268.out)) : gb269 ≠ gb268)); clear BK268; clear HB; have BK268 := n0_; have HB := n1_; have BK269 := n2_; have GW269 := n3_; have GE269 := n4_; have NB268_269 := n5_; have NB269_268 := n6_; clear n0_ n1_ n2_ n3_ n4_ n5_ n6_; clear hb hbox hg)); go_upto_region 1 with (first | ((with_reducible refine gate_dst (N := 3) rfl ?_); (try (refine gate_guard (by rfl) ?_; dsimp only)); refine box_event ?hg (N := 3) ?hd (cs := #[.slice A0_0 l0_0.length c0_0, .slice A0_1 l0_1.length c0_1, .slice A0_2 l0_2.length c0_2, .int .i64 a0_3, .int .i64 a0_4, .int .i64 a0_5, .int .i64 a0_6, .int .i64 a0_7, .int .i64 a0_8]) (t := 26) ?hr ?_; (case hd => rfl); (case hg => rfl); (case hr => first | (go_simp; done) | (go_simp; rfl)); intro gb268 hg w5 hbox hb; have n0_ := Aside0.mk (below_step (by repeat (first | (with_reducible first | exact HB.out | apply below_alloc | apply pw_below_drewN | apply below_drew1) | exact HB.out)) hb); have n1_ := Aside0.mk (hbox); have n2_ := Aside0.mk ((by rw [hg]; exact (below_size (by repeat (first | (with_reducible first | exact HB.out | apply below_alloc | apply pw_below_drewN | apply below_drew1) | exact HB.out))) : w.heap.size ≤ gb268)); have n3_ := Aside0.mk ((by rw [hg]; exact (below_size (by repeat (first | (with_reducible first | exact HB.out | apply below_alloc | apply pw_below_drewN | apply below_drew1) | exact HB.out))) : w.heap.size ≤ gb268)); clear HB; have HB := n0_; have BK268 := n1_; have GW268 := n2_; have GE268 := n3_; clear n0_ n1_ n2_ n3_; clear hb hbox hg) | ((with_reducible refine gate_dst (N := 4) rfl ?_); (try (refine gate_guard (by rfl) ?_; dsimp only)); refine box_event ?hg (N := 4) ?hd (cs := #[.int .i64 a1_0, .int .i64 a1_1, .slice A1_2 l1_2.length c1_2, .slice A1_3 l1_3.length c1_3]) (t := 36) ?hr ?_; (case hd => rfl); (case hg => rfl); (case hr => first | (go_simp; done) | (go_simp; rfl)); intro gb269 hg w6 hbox hb; have n0_ := Aside0.mk (blk_below (g := gb268) (o := .cells #[.slice A0_0 l0_0.length c0_0, .slice A0_1 l0_1.length c0_1, .slice A0_2 l0_2.length c0_2, .int .i64 a0_3, .int .i64 a0_4, .int .i64 a0_5, .int .i64 a0_6, .int .i64 a0_7, .int .i64 a0_8] 26 (0, 0)) (by (with_reducible repeat (first | refine blk_drewN ?_ _ | refine blk_drew ?_ | refine blk_alloc ?_ _)); exact BK268.out) hb); have n1_ := Aside0.mk (below_step (by repeat (first | (with_reducible first | exact HB.out | apply below_alloc | apply pw_below_drewN | apply below_drew1 | refine below_set ?_ GE268.out) | exact HB.out)) hb); have n2_ := Aside0.mk (hbox); have n3_ := Aside0.mk ((by rw [hg]; exact (below_size (by repeat (first | (with_reducible first | exact HB.out | apply below_alloc | apply pw_below_drewN | apply below_drew1 | refine below_set ?_ GE268.out) | exact HB.out))) : w.heap.size ≤ gb269)); have n4_ := Aside0.mk ((by rw [hg]; exact (below_size (by repeat (first | (with_reducible first | exact HB.out | apply below_alloc | apply pw_below_drewN | apply below_drew1 | refine below_set ?_ GE268.out) | exact HB.out))) : w.heap.size ≤ gb269)); have n5_ := Aside0.mk ((by rw [hg]; exact Nat.ne_of_lt (blk_lt (g := gb268) (o := .cells #[.slice A0_0 l0_0.length c0_0, .slice A0_1 l0_1.length c0_1, .slice A0_2 l0_2.length c0_2, .int .i64 a0_3, .int .i64 a0_4, .int .i64 a0_5, .int .i64 a0_6, .int .i64 a0_7, .int .i64 a0_8] 26 (0, 0)) (by (with_reducible repeat (first | refine blk_drewN ?_ _ | refine blk_drew ?_ | refine blk_alloc ?_ _)); exact BK268.out)) : gb268 ≠ gb269)); have n6_ := Aside0.mk ((by rw [hg]; exact Nat.ne_of_gt (blk_lt (g := gb268) (o := .cells #[.slice A0_0 l0_0.length c0_0, .slice A0_1 l0_1.length c0_1, .slice A0_2 l0_2.length c0_2, .int .i64 a0_3, .int .i64 a0_4, .int .i64 a0_5, .int .i64 a0_6, .int .i64 a0_7, .int .i64 a0_8] 26 (0, 0)) (by (with_reducible repeat (first | refine blk_drewN ?_ _ | refine blk_drew ?_ | refine blk_alloc ?_ _)); exact BK268.out)) : gb269 ≠ gb268)); clear BK268; clear HB; have BK268 := n0_; have HB := n1_; have BK269 := n2_; have GW269 := n3_; have GE269 := n4_; have NB268_269 := n5_; have NB269_268 := n6_; clear n0_ n1_ n2_ n3_ n4_ n5_ n6_; clear hb hbox hg)))
  (try simp only [Act.put, List.setIfInBounds_toArray, List.set_cons_zero, List.set_cons_succ])
  go_cut [15] (fun v15 wc => ∃ (kq : Nat) (x15_3 : Bool), v15 = .bool x15_3 ∧ Aside0 (dormouseref09_Part.j0 kq a2 x15_3 l0_0 l0_1 l0_2 a0_3 a0_4 a0_5 a0_6 a0_7 a0_8 a1_0 a1_1 l1_2 l1_3 = some r) ∧ Aside0 (kq ≤ k) ∧ Aside0 (wc.heap[gb268]? = some (.cells #[(.slice A0_0 l0_0.length c0_0), (.slice A0_1 l0_1.length c0_1), (.slice A0_2 l0_2.length c0_2), .int .i64 a0_3, .int .i64 a0_4, .int .i64 a0_5, .int .i64 a0_6, .int .i64 a0_7, .int .i64 a0_8] 26 (0, 0))) ∧ Aside0 (wc.heap[gb269]? = some (.cells #[.int .i64 a1_0, .int .i64 a1_1, (.slice A1_2 l1_2.length c1_2), (.slice A1_3 l1_3.length c1_3)] 36 (0, 0))) ∧ Aside0 (Below w.heap.size w wc))
  case first =>
    have H := HC4.out
    clear HC4
    by_cases c7 : a2 < 0
    · rw [if_pos c7] at H
      have c7b0 : decide (a2 < 0) = true := decide_eq_true c7
      clear c7
      (first | rw [c7b0] | (simp only [i64_w, i32_w]; rw [c7b0]) | skip)
      have H' := Aside0.mk H
      clear H
      go_wp2
      repeat (go_quiet (fail); try go_wp2)
      go_meet
      case rel => exact ⟨_, (true), (by first | rfl | (simp; done) | (simp [*]; done)), H', ⟨by first | omega | exact Nat.le_refl _⟩, ⟨by (with_reducible repeat (first | refine blk_drewN ?_ _ | refine blk_drew ?_ | refine blk_alloc ?_ _)); exact BK268.out⟩, ⟨by (with_reducible repeat (first | refine blk_drewN ?_ _ | refine blk_drew ?_ | refine blk_alloc ?_ _)); exact BK269.out⟩, ⟨by repeat (first | (with_reducible first | exact HB.out | apply below_alloc | apply pw_below_drewN | apply below_drew1 | refine below_set ?_ GE268.out | refine below_set ?_ GE269.out) | exact HB.out)⟩⟩
    · rw [if_neg c7] at H
      have c7b0 : decide (a2 < 0) = false := decide_eq_false c7
      clear c7
      (first | rw [c7b0] | (simp only [i64_w, i32_w]; rw [c7b0]) | skip)
      have H' := Aside0.mk H
      clear H
      have hnb8 := NB268_269.out
      have hnc8 := NB269_268.out
      have hcz9_0 : w6.cell? ⟨gb268, 0, none⟩ = some (.slice A0_0 l0_0.length c0_0) := (blk_cell BK268.out 0).trans rfl
      have hcz9_1 : w6.cell? ⟨gb268, 1, none⟩ = some (.slice A0_1 l0_1.length c0_1) := (blk_cell BK268.out 1).trans rfl
      have hcz9_2 : w6.cell? ⟨gb268, 2, none⟩ = some (.slice A0_2 l0_2.length c0_2) := (blk_cell BK268.out 2).trans rfl
      have hcz9_3 : w6.cell? ⟨gb268, 3, none⟩ = some (.int .i64 a0_3) := (blk_cell BK268.out 3).trans rfl
      have hcz9_4 : w6.cell? ⟨gb268, 4, none⟩ = some (.int .i64 a0_4) := (blk_cell BK268.out 4).trans rfl
      have hcz9_5 : w6.cell? ⟨gb268, 5, none⟩ = some (.int .i64 a0_5) := (blk_cell BK268.out 5).trans rfl
      have hcz9_6 : w6.cell? ⟨gb268, 6, none⟩ = some (.int .i64 a0_6) := (blk_cell BK268.out 6).trans rfl
      have hcz9_7 : w6.cell? ⟨gb268, 7, none⟩ = some (.int .i64 a0_7) := (blk_cell BK268.out 7).trans rfl
      have hcz9_8 : w6.cell? ⟨gb268, 8, none⟩ = some (.int .i64 a0_8) := (blk_cell BK268.out 8).trans rfl
      have hfz9_0 := blk_frozen BK268.out 0
      have hfz9_1 := blk_frozen BK268.out 1
      have hfz9_2 := blk_frozen BK268.out 2
      have hfz9_3 := blk_frozen BK268.out 3
      have hfz9_4 := blk_frozen BK268.out 4
      have hfz9_5 := blk_frozen BK268.out 5
      have hfz9_6 := blk_frozen BK268.out 6
      have hfz9_7 := blk_frozen BK268.out 7
      have hfz9_8 := blk_frozen BK268.out 8
      go_wp2
      repeat (go_quiet (fail); try go_wp2)
      go_meet
      case rel => exact ⟨_, (decide (a2 ≥ (l0_0.length : Int))), (by first | rfl | (simp; done) | (simp [*]; done)), H', ⟨by first | omega | exact Nat.le_refl _⟩, ⟨by (with_reducible repeat (first | refine blk_drewN ?_ _ | refine blk_drew ?_ | refine blk_alloc ?_ _)); exact BK268.out⟩, ⟨by (with_reducible repeat (first | refine blk_drewN ?_ _ | refine blk_drew ?_ | refine blk_alloc ?_ _)); exact BK269.out⟩, ⟨by repeat (first | (with_reducible first | exact HB.out | apply below_alloc | apply pw_below_drewN | apply below_drew1 | refine below_set ?_ GE268.out | refine below_set ?_ GE269.out) | exact HB.out)⟩⟩
  case rest =>
    clear HC4
    try clear c1
    try clear p2
    try clear c7
    try clear c7b0
    try clear c8
    try clear hcz9_0
    try clear hcz9_1
    try clear hcz9_2
    try clear hcz9_3
    try clear hcz9_4
    try clear hcz9_5
    try clear hcz9_6
    try clear hcz9_7
    try clear hcz9_8
    try clear hfz9_0
    try clear hfz9_1
    try clear hfz9_2
    try clear hfz9_3
    try clear hfz9_4
    try clear hfz9_5
    try clear hfz9_6
    try clear hfz9_7
    try clear hfz9_8
    obtain ⟨kq, x15_3, rfl, HA, HJ3, BK268, BK269, HB⟩ := hcut
    cases kq with
    | zero => exact absurd HA.out (by simp [dormouseref09_Part.j0])
    | succ kj3 =>
      have H := HA.out
      clear HA
      simp only [dormouseref09_Part.j0] at H
      by_cases c10 : x15_3 = true
      · subst c10
        have H1 : ((dormouseref01_Util.f 0 a1_0).bind fun t270 => (some t270)) = some r := by rw [if_pos rfl] at H; exact H
        clear H
        have H := H1
        clear H1
        replace H := Option.bind_eq_some_iff.mp H
        obtain ⟨t270, A110, H⟩ := H
        replace H : (some t270) = some r := H
        have A11 := Aside0.mk A110
        clear A110
        obtain rfl := Option.some.inj H
        have hnb12 := NB269_268.out
        have hnc12 := NB268_269.out
        have hcz13_0 : wc.cell? ⟨gb269, 0, none⟩ = some (.int .i64 a1_0) := (blk_cell BK269.out 0).trans rfl
        have hcz13_1 : wc.cell? ⟨gb269, 1, none⟩ = some (.int .i64 a1_1) := (blk_cell BK269.out 1).trans rfl
        have hcz13_2 : wc.cell? ⟨gb269, 2, none⟩ = some (.slice A1_2 l1_2.length c1_2) := (blk_cell BK269.out 2).trans rfl
        have hcz13_3 : wc.cell? ⟨gb269, 3, none⟩ = some (.slice A1_3 l1_3.length c1_3) := (blk_cell BK269.out 3).trans rfl
        have hfz13_0 := blk_frozen BK269.out 0
        have hfz13_1 := blk_frozen BK269.out 1
        have hfz13_2 := blk_frozen BK269.out 2
        have hfz13_3 := blk_frozen BK269.out 3
        go_wp2_with (first | (go_at_call 26; (with_reducible refine (dormouseref01_Util.calls 0 a1_0 t270 _ A11.out).mono ?_); rintro e w' ⟨rfl, ⟨nd, rfl⟩⟩; (try first | exact ⟨rfl, _, World.drewN_drewN _ _ _⟩ | exact ⟨rfl, _, Eq.trans (World.drewN_drewN _ _ _) (congrArg (World.drewN _) (Nat.add_assoc _ _ _))⟩)))
        repeat (go_quiet (first | (go_at_call 26; (with_reducible refine (dormouseref01_Util.calls 0 a1_0 t270 _ A11.out).mono ?_); rintro e w' ⟨rfl, ⟨nd, rfl⟩⟩; (try first | exact ⟨rfl, _, World.drewN_drewN _ _ _⟩ | exact ⟨rfl, _, Eq.trans (World.drewN_drewN _ _ _) (congrArg (World.drewN _) (Nat.add_assoc _ _ _))⟩))); try go_wp2_with (first | (go_at_call 26; (with_reducible refine (dormouseref01_Util.calls 0 a1_0 t270 _ A11.out).mono ?_); rintro e w' ⟨rfl, ⟨nd, rfl⟩⟩; (try first | exact ⟨rfl, _, World.drewN_drewN _ _ _⟩ | exact ⟨rfl, _, Eq.trans (World.drewN_drewN _ _ _) (congrArg (World.drewN _) (Nat.add_assoc _ _ _))⟩))))
        go_ret
        exact ⟨by first | rfl | (simp [errW_none, errW_some] <;> rfl) | (simp [*, errW_none, errW_some] <;> rfl), by repeat (first | (with_reducible first | exact HB.out | apply below_alloc | apply pw_below_drewN | apply below_drew1 | refine below_set ?_ GE268.out | refine below_set ?_ GE269.out) | exact HB.out)⟩
      · replace c10 := Bool.eq_false_iff.mpr c10
        subst c10
        have H1 : (if 0 ≤ a2 then (if a2 < (l0_0.length : Int) then ((dormouseref01_Util.f (wrap64 ((wrap64 (a1_1 * ((rd_T58 l0_0 a2).f0))) + (wrap64 (2 * a0_5)))) a1_0).bind fun t272 => (some t272)) else (none)) else (none)) = some r := by rw [if_neg (show ¬ (false = true) by decide)] at H; exact H
        clear H
        have H := H1
        clear H1
        by_cases c14 : 0 ≤ a2
        · rw [if_pos c14] at H
          have c14b0 : decide (0 ≤ a2) = true := decide_eq_true c14
          clear c14
          by_cases c15 : a2 < (l0_0.length : Int)
          · rw [if_pos c15] at H
            have c15b0 : decide (a2 < (l0_0.length : Int)) = true := decide_eq_true c15
            clear c15
            replace H := Option.bind_eq_some_iff.mp H
            obtain ⟨t272, A160, H⟩ := H
            replace H : (some t272) = some r := H
            have A16 := Aside0.mk A160
            clear A160
            obtain rfl := Option.some.inj H
            have hnb17 := NB269_268.out
            have hnc17 := NB268_269.out
            have hcz18_0 : wc.cell? ⟨gb269, 0, none⟩ = some (.int .i64 a1_0) := (blk_cell BK269.out 0).trans rfl
            have hcz18_1 : wc.cell? ⟨gb269, 1, none⟩ = some (.int .i64 a1_1) := (blk_cell BK269.out 1).trans rfl
            have hcz18_2 : wc.cell? ⟨gb269, 2, none⟩ = some (.slice A1_2 l1_2.length c1_2) := (blk_cell BK269.out 2).trans rfl
            have hcz18_3 : wc.cell? ⟨gb269, 3, none⟩ = some (.slice A1_3 l1_3.length c1_3) := (blk_cell BK269.out 3).trans rfl
            have hfz18_0 := blk_frozen BK269.out 0
            have hfz18_1 := blk_frozen BK269.out 1
            have hfz18_2 := blk_frozen BK269.out 2
            have hfz18_3 := blk_frozen BK269.out 3
            have hcz19_0 : wc.cell? ⟨gb268, 0, none⟩ = some (.slice A0_0 l0_0.length c0_0) := (blk_cell BK268.out 0).trans rfl
            have hcz19_1 : wc.cell? ⟨gb268, 1, none⟩ = some (.slice A0_1 l0_1.length c0_1) := (blk_cell BK268.out 1).trans rfl
            have hcz19_2 : wc.cell? ⟨gb268, 2, none⟩ = some (.slice A0_2 l0_2.length c0_2) := (blk_cell BK268.out 2).trans rfl
            have hcz19_3 : wc.cell? ⟨gb268, 3, none⟩ = some (.int .i64 a0_3) := (blk_cell BK268.out 3).trans rfl
            have hcz19_4 : wc.cell? ⟨gb268, 4, none⟩ = some (.int .i64 a0_4) := (blk_cell BK268.out 4).trans rfl
            have hcz19_5 : wc.cell? ⟨gb268, 5, none⟩ = some (.int .i64 a0_5) := (blk_cell BK268.out 5).trans rfl
            have hcz19_6 : wc.cell? ⟨gb268, 6, none⟩ = some (.int .i64 a0_6) := (blk_cell BK268.out 6).trans rfl
            have hcz19_7 : wc.cell? ⟨gb268, 7, none⟩ = some (.int .i64 a0_7) := (blk_cell BK268.out 7).trans rfl
            have hcz19_8 : wc.cell? ⟨gb268, 8, none⟩ = some (.int .i64 a0_8) := (blk_cell BK268.out 8).trans rfl
            have hfz19_0 := blk_frozen BK268.out 0
            have hfz19_1 := blk_frozen BK268.out 1
            have hfz19_2 := blk_frozen BK268.out 2
            have hfz19_3 := blk_frozen BK268.out 3
            have hfz19_4 := blk_frozen BK268.out 4
            have hfz19_5 := blk_frozen BK268.out 5
            have hfz19_6 := blk_frozen BK268.out 6
            have hfz19_7 := blk_frozen BK268.out 7
            have hfz19_8 := blk_frozen BK268.out 8
            have p271 : 0 ≤ (a2 : Int) := of_decide_eq_true (by first | (with_reducible assumption) | assumption)
            have q271 : a2 < (l0_0.length : Int) := of_decide_eq_true (by first | (with_reducible assumption) | assumption)
            obtain ⟨ad271, e271, hx271_0, hx271_1⟩ := at_T58 HR0_0.out a2 p271 q271
            cases e271
            replace hx271_0 := (HB.out.cell (World.block_lt_of_cell? w _ hx271_0)).trans hx271_0
            replace hx271_1 := (HB.out.cell (World.block_lt_of_cell? w _ hx271_1)).trans hx271_1
            replace p271 := eq_true p271
            replace q271 := eq_true q271
            go_wp2_with (first | (go_at_call 26; (with_reducible refine (dormouseref01_Util.calls (wrap64 ((wrap64 (a1_1 * ((rd_T58 l0_0 a2).f0))) + (wrap64 (2 * a0_5)))) a1_0 t272 _ A16.out).mono ?_); rintro e w' ⟨rfl, ⟨nd, rfl⟩⟩; (try first | exact ⟨rfl, _, World.drewN_drewN _ _ _⟩ | exact ⟨rfl, _, Eq.trans (World.drewN_drewN _ _ _) (congrArg (World.drewN _) (Nat.add_assoc _ _ _))⟩)))
            repeat (go_quiet (first | (go_at_call 26; (with_reducible refine (dormouseref01_Util.calls (wrap64 ((wrap64 (a1_1 * ((rd_T58 l0_0 a2).f0))) + (wrap64 (2 * a0_5)))) a1_0 t272 _ A16.out).mono ?_); rintro e w' ⟨rfl, ⟨nd, rfl⟩⟩; (try first | exact ⟨rfl, _, World.drewN_drewN _ _ _⟩ | exact ⟨rfl, _, Eq.trans (World.drewN_drewN _ _ _) (congrArg (World.drewN _) (Nat.add_assoc _ _ _))⟩))); try go_wp2_with (first | (go_at_call 26; (with_reducible refine (dormouseref01_Util.calls (wrap64 ((wrap64 (a1_1 * ((rd_T58 l0_0 a2).f0))) + (wrap64 (2 * a0_5)))) a1_0 t272 _ A16.out).mono ?_); rintro e w' ⟨rfl, ⟨nd, rfl⟩⟩; (try first | exact ⟨rfl, _, World.drewN_drewN _ _ _⟩ | exact ⟨rfl, _, Eq.trans (World.drewN_drewN _ _ _) (congrArg (World.drewN _) (Nat.add_assoc _ _ _))⟩))))
            go_ret
            exact ⟨by first | rfl | (simp [errW_none, errW_some] <;> rfl) | (simp [*, errW_none, errW_some] <;> rfl), by repeat (first | (with_reducible first | exact HB.out | apply below_alloc | apply pw_below_drewN | apply below_drew1 | refine below_set ?_ GE268.out | refine below_set ?_ GE269.out) | exact HB.out)⟩
          · rw [if_neg c15] at H
            exact absurd H (by simp)
        · rw [if_neg c14] at H
          exact absurd H (by simp)
end Go.Proofs.Ytchlbnlhjllcbaa.F
namespace Go.Proofs.Ytchlbnlhjllcbaa.F
open Go.RowKit Go.Proofs.YtchlbnlhjllcbaaW.PrintWords Go.Proofs.YtchlbnlhjllcbaaW.PrintLast Go.Proofs.YtchlbnlhjllcbaaW.PrintMore
attribute [local go_sem] max2_int min2_int max_two min_two max_three min_three max_four min_four   -- for this text's walks alone
set_option linter.unusedVariables false
set_option linter.unusedSimpArgs false
def dormouseref01_Max.f (a0 : Int) (a1 : Int) : Option (Int) := if a0 > a1 then (some a0) else (some a1)
set_option maxHeartbeats 8000000 in
set_option maxRecDepth 100000 in
theorem dormouseref01_Max.calls (a0 : Int) (a1 : Int) (r : Int) (w : World) (h : dormouseref01_Max.f a0 a1 = some r) :
    Calls Try.prog 18 #[.int .i64 a0, .int .i64 a1] w fun e w' => e = .returned (.int .i64 r) ∧ Drawn0 w w' := by
  have H : (if a0 > a1 then (some a0) else (some a1)) = some r := h
  clear h
  by_cases c3 : a0 > a1
  · rw [if_pos c3] at H
    have c3b0 : decide (a1 < a0) = true := decide_eq_true c3
    clear c3
    obtain rfl := Option.some.inj H
    go_enter Try.func18, Try.ntmps18
    go_wp2
    go_ret
    exact ⟨by first | rfl | (simp; done) | (simp [*]; done), by repeat (first | exact Drawn0.refl _ | apply Drawn0.step)⟩
  · rw [if_neg c3] at H
    have c3b0 : decide (a1 < a0) = false := decide_eq_false c3
    clear c3
    obtain rfl := Option.some.inj H
    go_enter Try.func18, Try.ntmps18
    go_wp2
    go_ret
    exact ⟨by first | rfl | (simp; done) | (simp [*]; done), by repeat (first | exact Drawn0.refl _ | apply Drawn0.step)⟩
def dormouseref01_Floor.f (a0 : Int) : Option (Int) := if (wrap64 ((wrap64 (Int.tdiv a0 4294967296)) * 4294967296)) > a0 then (some (wrap64 ((wrap64 (Int.tdiv a0 4294967296)) - 1))) else (some (wrap64 (Int.tdiv a0 4294967296)))
set_option maxHeartbeats 8000000 in
set_option maxRecDepth 100000 in
theorem dormouseref01_Floor.calls (a0 : Int) (r : Int) (w : World) (h : dormouseref01_Floor.f a0 = some r) :
    Calls Try.prog 29 #[.int .i64 a0] w fun e w' => e = .returned (.int .i64 r) ∧ Drawn0 w w' := by
  have H : (if (wrap64 ((wrap64 (Int.tdiv a0 4294967296)) * 4294967296)) > a0 then (some (wrap64 ((wrap64 (Int.tdiv a0 4294967296)) - 1))) else (some (wrap64 (Int.tdiv a0 4294967296)))) = some r := h
  clear h
  by_cases c2 : (wrap64 ((wrap64 (Int.tdiv a0 4294967296)) * 4294967296)) > a0
  · rw [if_pos c2] at H
    have c2b0 : decide (a0 < (wrap64 ((wrap64 (Int.tdiv a0 4294967296)) * 4294967296))) = true := decide_eq_true c2
    clear c2
    obtain rfl := Option.some.inj H
    go_enter Try.func29, Try.ntmps29
    go_wp2
    go_ret
    exact ⟨by first | rfl | (simp; done) | (simp [*]; done), by repeat (first | exact Drawn0.refl _ | apply Drawn0.step)⟩
  · rw [if_neg c2] at H
    have c2b0 : decide (a0 < (wrap64 ((wrap64 (Int.tdiv a0 4294967296)) * 4294967296))) = false := decide_eq_false c2
    clear c2
    obtain rfl := Option.some.inj H
    go_enter Try.func29, Try.ntmps29
    go_wp2
    go_ret
    exact ⟨by first | rfl | (simp; done) | (simp [*]; done), by repeat (first | exact Drawn0.refl _ | apply Drawn0.step)⟩
def dormouseref01_Min.f (a0 : Int) (a1 : Int) : Option (Int) := if a0 < a1 then (some a0) else (some a1)
set_option maxHeartbeats 8000000 in
set_option maxRecDepth 100000 in
theorem dormouseref01_Min.calls (a0 : Int) (a1 : Int) (r : Int) (w : World) (h : dormouseref01_Min.f a0 a1 = some r) :
    Calls Try.prog 31 #[.int .i64 a0, .int .i64 a1] w fun e w' => e = .returned (.int .i64 r) ∧ Drawn0 w w' := by
  have H : (if a0 < a1 then (some a0) else (some a1)) = some r := h
  clear h
  by_cases c3 : a0 < a1
  · rw [if_pos c3] at H
    have c3b0 : decide (a0 < a1) = true := decide_eq_true c3
    clear c3
    obtain rfl := Option.some.inj H
    go_enter Try.func31, Try.ntmps31
    go_wp2
    go_ret
    exact ⟨by first | rfl | (simp; done) | (simp [*]; done), by repeat (first | exact Drawn0.refl _ | apply Drawn0.step)⟩
  · rw [if_neg c3] at H
    have c3b0 : decide (a0 < a1) = false := decide_eq_false c3
    clear c3
    obtain rfl := Option.some.inj H
    go_enter Try.func31, Try.ntmps31
    go_wp2
    go_ret
    exact ⟨by first | rfl | (simp; done) | (simp [*]; done), by repeat (first | exact Drawn0.refl _ | apply Drawn0.step)⟩
def dormouseref01_Whole.f (a0 : Int) : Option (Int) := (dormouseref01_clamp.f a0 (-1073741824) 1073741824).bind fun t301 => (some (wrap64 (t301 * 4294967296)))
set_option maxHeartbeats 8000000 in
set_option maxRecDepth 100000 in
theorem dormouseref01_Whole.calls (a0 : Int) (r : Int) (w : World) (h : dormouseref01_Whole.f a0 = some r) :
    Calls Try.prog 39 #[.int .i64 a0] w fun e w' => e = .returned (.int .i64 r) ∧ Drawn0 w w' := by
  have H : ((dormouseref01_clamp.f a0 (-1073741824) 1073741824).bind fun t301 => (some (wrap64 (t301 * 4294967296)))) = some r := h
  clear h
  replace H := Option.bind_eq_some_iff.mp H
  obtain ⟨t301, A20, H⟩ := H
  replace H : (some (wrap64 (t301 * 4294967296))) = some r := H
  have A2 := Aside0.mk A20
  clear A20
  obtain rfl := Option.some.inj H
  go_enter Try.func39, Try.ntmps39
  go_wp2_with (first | ((with_reducible refine gate_callee (f := 38) rfl ?_); refine goesL_ (some 4) rfl rfl Try.func38 (by kernel_rfl) rfl #[.int .i64 a0, .int .i64 (-1073741824), .int .i64 1073741824] rfl (by (try simp only [List.map_toArray, List.map_cons, List.map_nil]); first | done | rfl | (simp only [List.length_drop, List.length_take]; rfl)) ?_; (with_reducible refine (dormouseref01_clamp.calls a0 (-1073741824) 1073741824 t301 _ A2.out).mono ?_); rintro e w' ⟨rfl, ⟨nd, rfl⟩⟩; refine ⟨_, rfl, ?_⟩))
  go_ret
  exact ⟨by first | rfl | (simp; done) | (simp [*]; done), by repeat (first | exact Drawn0.refl _ | apply Drawn0.step)⟩
end Go.Proofs.Ytchlbnlhjllcbaa.F
namespace Go.Proofs.Ytchlbnlhjllcbaa.F
open Go.RowKit Go.Proofs.YtchlbnlhjllcbaaW.PrintWords Go.Proofs.YtchlbnlhjllcbaaW.PrintLast Go.Proofs.YtchlbnlhjllcbaaW.PrintMore
attribute [local go_sem] max2_int min2_int max_two min_two max_three min_three max_four min_four   -- for this text's walks alone
set_option linter.unusedVariables false
set_option linter.unusedSimpArgs false
def dormouseref09_from.f (l0 : List Int) (a1 : Int) (a2 : Int) : Option (Int) := if 0 ≤ a1 then (if a1 < (l0.length : Int) then ((dormouseref01_Max.f (rd l0 a1) a2).bind fun t303 => (some t303)) else (none)) else (none)
set_option maxHeartbeats 8000000 in
set_option maxRecDepth 100000 in
theorem dormouseref09_from.calls (A0 : Option Addr) (c0 : Nat) (l0 : List Int) (a1 : Int) (a2 : Int) (r : Int) (w : World) (hr0 : Kd.C (Kd.int .i64) w A0 l0.length l0) (hc0 : l0.length ≤ c0) (h : dormouseref09_from.f l0 a1 a2 = some r) :
    Calls Try.prog 41 #[.slice A0 l0.length c0, .int .i64 a1, .int .i64 a2] w fun e w' => e = .returned (.int .i64 r) ∧ Drawn0 w w' := by
  have HR0 := Aside0.mk hr0
  have HC0 := Aside0.mk hc0
  clear hr0 hc0
  have H : (if 0 ≤ a1 then (if a1 < (l0.length : Int) then ((dormouseref01_Max.f (rd l0 a1) a2).bind fun t303 => (some t303)) else (none)) else (none)) = some r := h
  clear h
  by_cases c4 : 0 ≤ a1
  · rw [if_pos c4] at H
    have c4b0 : decide (0 ≤ a1) = true := decide_eq_true c4
    clear c4
    by_cases c5 : a1 < (l0.length : Int)
    · rw [if_pos c5] at H
      have c5b0 : decide (a1 < (l0.length : Int)) = true := decide_eq_true c5
      clear c5
      replace H := Option.bind_eq_some_iff.mp H
      obtain ⟨t303, A60, H⟩ := H
      replace H : (some t303) = some r := H
      have A6 := Aside0.mk A60
      clear A60
      obtain rfl := Option.some.inj H
      have p302 : 0 ≤ (a1 : Int) := of_decide_eq_true (by first | (with_reducible assumption) | assumption)
      have q302 : a1 < (l0.length : Int) := of_decide_eq_true (by first | (with_reducible assumption) | assumption)
      obtain ⟨ad302, e302, hx302_0⟩ := Kd.at_int HR0.out a1 p302 q302
      cases e302
      replace p302 := eq_true p302
      replace q302 := eq_true q302
      go_enter Try.func41, Try.ntmps41
      go_wp2_with (first | ((with_reducible refine gate_callee (f := 18) rfl ?_); refine goesL_ (some 12) rfl rfl Try.func18 (by kernel_rfl) rfl #[.int .i64 (rd l0 a1), .int .i64 a2] rfl (by (try simp only [List.map_toArray, List.map_cons, List.map_nil]); first | done | rfl | (simp only [List.length_drop, List.length_take]; rfl)) ?_; (with_reducible refine (dormouseref01_Max.calls (rd l0 a1) a2 t303 _ A6.out).mono ?_); rintro e w' ⟨rfl, ⟨nd, rfl⟩⟩; refine ⟨_, rfl, ?_⟩))
      go_ret
      exact ⟨by first | rfl | (simp; done) | (simp [*]; done), by repeat (first | exact Drawn0.refl _ | apply Drawn0.step)⟩
    · rw [if_neg c5] at H
      exact absurd H (by simp)
  · rw [if_neg c4] at H
    exact absurd H (by simp)
end Go.Proofs.Ytchlbnlhjllcbaa.F
namespace Go.Proofs.Ytchlbnlhjllcbaa.F
open Go.RowKit Go.Proofs.YtchlbnlhjllcbaaW.PrintWords Go.Proofs.YtchlbnlhjllcbaaW.PrintLast Go.Proofs.YtchlbnlhjllcbaaW.PrintMore
attribute [local go_sem] max2_int min2_int max_two min_two max_three min_three max_four min_four
set_option linter.unusedVariables false
def dormouseref09_Hinders.f (l0_0 : List S58) (l0_1 : List S68) (l0_2 : List S71) (a0_3 : Int) (a0_4 : Int) (a0_5 : Int) (a0_6 : Int) (a0_7 : Int) (a0_8 : Int) (l1 : List S36) (l2 : List Int) (l3 : List S38) (l4 : List S56) (a5 : Int) (a6 : Int) : Option Int := if l4.length = 0 then some 0 else none
set_option maxHeartbeats 4000000 in
theorem dormouseref09_Hinders.calls (A0_0 : Option Addr) (c0_0 : Nat) (l0_0 : List (S58)) (A0_1 : Option Addr) (c0_1 : Nat) (l0_1 : List (S68)) (A0_2 : Option Addr) (c0_2 : Nat) (l0_2 : List (S71)) (a0_3 : Int) (a0_4 : Int) (a0_5 : Int) (a0_6 : Int) (a0_7 : Int) (a0_8 : Int) (A1 : Option Addr) (c1 : Nat) (l1 : List (S36)) (A2 : Option Addr) (c2 : Nat) (l2 : List Int) (A3 : Option Addr) (c3 : Nat) (l3 : List (S38)) (A4 : Option Addr) (c4 : Nat) (l4 : List (S56)) (a5 : Int) (a6 : Int) (r : Int) (w : World) (hr0_0 : Kd.C k58 w A0_0 l0_0.length l0_0) (hc0_0 : l0_0.length ≤ c0_0) (hr0_1 : Kd.C k68 w A0_1 l0_1.length l0_1) (hc0_1 : l0_1.length ≤ c0_1) (hr0_2 : Kd.C k71 w A0_2 l0_2.length l0_2) (hc0_2 : l0_2.length ≤ c0_2) (hr1 : Kd.C k36 w A1 l1.length l1) (hc1 : l1.length ≤ c1) (hr2 : Kd.C (Kd.int .i64) w A2 l2.length l2) (hc2 : l2.length ≤ c2) (hr3 : Kd.C k38 w A3 l3.length l3) (hc3 : l3.length ≤ c3) (hr4 : Kd.C k56 w A4 l4.length l4) (hc4 : l4.length ≤ c4) (h : dormouseref09_Hinders.f l0_0 l0_1 l0_2 a0_3 a0_4 a0_5 a0_6 a0_7 a0_8 l1 l2 l3 l4 a5 a6 = some r) :
    Calls Try.prog 52 #[.agg #[.slice A0_0 l0_0.length c0_0, .slice A0_1 l0_1.length c0_1, .slice A0_2 l0_2.length c0_2, .int .i64 a0_3, .int .i64 a0_4, .int .i64 a0_5, .int .i64 a0_6, .int .i64 a0_7, .int .i64 a0_8], .slice A1 l1.length c1, .slice A2 l2.length c2, .slice A3 l3.length c3, .slice A4 l4.length c4, .int .i64 a5, .int .i64 a6] w fun e w' => e = .returned (.int .i64 r) ∧ Below w.heap.size w w' := by
  unfold dormouseref09_Hinders.f at h
  by_cases z : l4.length = 0
  · rw [if_pos z] at h
    obtain rfl := Option.some.inj h
    have e4 : l4.length = 0 := z
    have HB := Aside0.mk (Below.refl w.heap.size w)
    clear hr0_0 hr0_1 hr0_2 hr1 hr2 hr3 hr4 hc0_0 hc0_1 hc0_2 hc1 hc2 hc3 hc4 h z
    rw [e4]
    go_enter Try.func52, Try.ntmps52
    go_wp2
    go_loopw [15, 16] (fun v15 v16 wr => v15 = .int .i64 0 ∧ v16 = .int .i64 0 ∧ Aside0 (Below w.heap.size w wr)) (fun _ _ _ => 0)
    case atStart => exact ⟨by first | rfl | simp, by first | rfl | simp, ⟨by repeat (first | (with_reducible first | exact HB.out | apply below_alloc | apply pw_below_drewN | apply below_drew1) | exact HB.out)⟩⟩
    case round =>
      obtain ⟨rfl, rfl, HW⟩ := hrel
      go_wp2
      go_ret
      exact ⟨rfl, HW.out⟩
  · rw [if_neg z] at h; cases h
end Go.Proofs.Ytchlbnlhjllcbaa.F
