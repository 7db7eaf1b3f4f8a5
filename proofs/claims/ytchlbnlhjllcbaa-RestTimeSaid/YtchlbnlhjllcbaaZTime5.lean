/- As long as the CPU is not there, there is time, up to each moment at which a job may have its deadline first; if there is none now, it is not away at all. Conditions: none. -/
import Derived.Test.YtchlbnlhjllcbaaZTime4
import Derived.Test.YtchlbnlhjllcbaaRows
import Derived.WalkKit
import Derived.ProofKit
import Derived.OpenShut
import Derived.ShutString
import Derived.ChangeOld
import Derived.Below
import Derived.SizedLaws
namespace Go.Proofs.Ytchlbnlhjllcbaa.F
noncomputable section
open Go.RowKit Go.Proofs.YtchlbnlhjllcbaaW.PrintWords Go.Proofs.YtchlbnlhjllcbaaW.PrintLast Go.Proofs.YtchlbnlhjllcbaaW.PrintMore
attribute [local go_sem] max2_int min2_int max_two min_two max_three min_three max_four min_four   -- for this text's walks alone
set_option linter.unusedVariables false
set_option linter.unusedSimpArgs false
mutual
def dormouselaw17_RestTime.j0 : Nat → Int → Bool → List (S58) → List (S68) → List (S71) → Int → Int → Int → Int → Int → Int → List (S36) → List Int → Int → Int → Option (Bool)
  | 0, _, _, _, _, _, _, _, _, _, _, _, _, _, _, _ => none
  | k + 1, x3, x29, x426000, x426001, x426002, x426003, x426004, x426005, x426006, x426007, x426008, x426009, x426010, x426013, x426014 => if x29 = true then (some false) else (dormouselaw17_RestTime.l0 k x3 0 x426000 x426001 x426002 x426003 x426004 x426005 x426006 x426007 x426008 x426009 x426010 x426013 x426014)
def dormouselaw17_RestTime.l0 : Nat → Int → Int → List (S58) → List (S68) → List (S71) → Int → Int → Int → Int → Int → Int → List (S36) → List Int → Int → Int → Option (Bool)
  | 0, _, _, _, _, _, _, _, _, _, _, _, _, _, _, _ => none
  | k + 1, x3, x4, x426000, x426001, x426002, x426003, x426004, x426005, x426006, x426007, x426008, x426009, x426010, x426013, x426014 => if x4 < (x426009.length : Int) then (if 0 ≤ x4 then (if x4 < (x426010.length : Int) then ((dormouseref01_Max.f (rd x426010 x4) x426013).bind fun t431 => (if ((rd_T36 x426009 x4).f0) > 0 then (if x3 > 0 then (if (wrap64 (t431 + ((rd_T36 x426009 x4).f0))) ≤ 2097152 then ((slack_At.f x426000 x426001 x426002 x426003 x426004 x426005 x426006 x426007 x426008 x426009 x426010 ([] : List (S38)) ([] : List (S73)) x426013 (wrap64 (t431 + ((rd_T36 x426009 x4).f0)))).bind fun t434 => (if t434 < (wrap64 (x3 * 4294967296)) then (some false) else (dormouselaw17_RestTime.l0 k x3 (wrap64 (x4 + 1)) x426000 x426001 x426002 x426003 x426004 x426005 x426006 x426007 x426008 x426009 x426010 x426013 x426014))) else (dormouselaw17_RestTime.l0 k x3 (wrap64 (x4 + 1)) x426000 x426001 x426002 x426003 x426004 x426005 x426006 x426007 x426008 x426009 x426010 x426013 x426014)) else (dormouselaw17_RestTime.l0 k x3 (wrap64 (x4 + 1)) x426000 x426001 x426002 x426003 x426004 x426005 x426006 x426007 x426008 x426009 x426010 x426013 x426014)) else (dormouselaw17_RestTime.l0 k x3 (wrap64 (x4 + 1)) x426000 x426001 x426002 x426003 x426004 x426005 x426006 x426007 x426008 x426009 x426010 x426013 x426014))) else (none)) else (none)) else ((dormouselaw17_answers.f).bind fun t429 => (some t429))
end
def dormouselaw17_RestTime.f (k : Nat) (l0_0 : List (S58)) (l0_1 : List (S68)) (l0_2 : List (S71)) (a0_3 : Int) (a0_4 : Int) (a0_5 : Int) (a0_6 : Int) (a0_7 : Int) (a0_8 : Int) (l0_9 : List (S36)) (l0_10 : List Int) (l0_11 : List (S38)) (l0_12 : List (S56)) (a0_13 : Int) (a0_14 : Int) : Option (Bool) := (dormouselaw17_good.f k l0_0 l0_1 l0_2 a0_3 a0_4 a0_5 a0_6 a0_7 a0_8 l0_9 l0_10 ([] : List (S38)) ([] : List (S56)) a0_13 a0_14).bind fun t426 => (if t426 = true then ((rest_Ready.f l0_0 l0_1 l0_2 a0_3 a0_4 a0_5 a0_6 a0_7 a0_8 l0_9 l0_10 a0_13).bind fun t428 => (if (wrap64 (t428 - a0_13)) < 0 then (dormouselaw17_RestTime.j0 k (wrap64 (t428 - a0_13)) true l0_0 l0_1 l0_2 a0_3 a0_4 a0_5 a0_6 a0_7 a0_8 l0_9 l0_10 a0_13 a0_14) else (dormouselaw17_RestTime.j0 k (wrap64 (t428 - a0_13)) (decide ((wrap64 (t428 - a0_13)) > 1024)) l0_0 l0_1 l0_2 a0_3 a0_4 a0_5 a0_6 a0_7 a0_8 l0_9 l0_10 a0_13 a0_14))) else ((dormouselaw17_answers.f).bind fun t427 => (some t427)))
def dormouselaw17_RestTime.T4 : Bool × List (List Nat × List Nat) := (true, [([], []), ([0], [0]), ([], []), ([2], [2]), ([], []), ([4], [4]), ([], []), ([6], [6]), ([1, 3, 5, 7], [1, 3, 5, 7]), ([], []), ([9], [9]), ([8, 10], [8, 10]), ([11, 8, 0, 1, 2, 3, 4, 5, 6, 7, 8, 9, 10, 11], [11])])
def dormouselaw17_RestTime.B4 : List Nat := [0, 1, 0, 4, 0, 16, 0, 64, 255, 0, 512, 2047, 4095]
theorem dormouselaw17_RestTime.tab4 : rtab .any (opsOf Try.f6 4) = dormouselaw17_RestTime.T4 := by kernel_rfl
theorem dormouselaw17_RestTime.bits4 : waitsOk dormouselaw17_RestTime.T4.2 dormouselaw17_RestTime.B4 = true := by kernel_rfl
def dormouselaw17_RestTime.T10 : Bool × List (List Nat × List Nat) := (true, [([], []), ([0], [0]), ([], []), ([1, 2], [1, 2]), ([3], [3]), ([], []), ([5], [5]), ([4, 6], [4, 6]), ([], []), ([8], [8]), ([], []), ([9, 10], [9, 10]), ([11], [11]), ([12], [12]), ([7, 13], [7, 13]), ([14, 7, 0, 1, 2, 3, 4, 5, 6, 7, 8, 9, 10, 11, 12, 13, 14], [14])])
def dormouselaw17_RestTime.B10 : List Nat := [0, 1, 0, 7, 15, 0, 32, 127, 0, 256, 0, 1792, 3840, 7936, 16383, 32767]
theorem dormouselaw17_RestTime.tab10 : rtab .any (opsOf Try.f6 10) = dormouselaw17_RestTime.T10 := by kernel_rfl
theorem dormouselaw17_RestTime.bits10 : waitsOk dormouselaw17_RestTime.T10.2 dormouselaw17_RestTime.B10 = true := by kernel_rfl
set_option maxHeartbeats 8000000 in
set_option maxRecDepth 100000 in
theorem dormouselaw17_RestTime.calls (k : Nat) (A0_0 : Option Addr) (c0_0 : Nat) (l0_0 : List (S58)) (A0_1 : Option Addr) (c0_1 : Nat) (l0_1 : List (S68)) (A0_2 : Option Addr) (c0_2 : Nat) (l0_2 : List (S71)) (a0_3 : Int) (a0_4 : Int) (a0_5 : Int) (a0_6 : Int) (a0_7 : Int) (a0_8 : Int) (A0_9 : Option Addr) (c0_9 : Nat) (l0_9 : List (S36)) (A0_10 : Option Addr) (c0_10 : Nat) (l0_10 : List Int) (A0_11 : Option Addr) (c0_11 : Nat) (l0_11 : List (S38)) (A0_12 : Option Addr) (c0_12 : Nat) (l0_12 : List (S56)) (a0_13 : Int) (a0_14 : Int) (r : Bool) (w : World) (hr0_0 : Kd.C k58 w A0_0 l0_0.length l0_0) (hc0_0 : l0_0.length ≤ c0_0) (hr0_1 : Kd.C k68 w A0_1 l0_1.length l0_1) (hc0_1 : l0_1.length ≤ c0_1) (hr0_2 : Kd.C k71 w A0_2 l0_2.length l0_2) (hc0_2 : l0_2.length ≤ c0_2) (hr0_9 : Kd.C k36 w A0_9 l0_9.length l0_9) (hc0_9 : l0_9.length ≤ c0_9) (hr0_10 : Kd.C (Kd.int .i64) w A0_10 l0_10.length l0_10) (hc0_10 : l0_10.length ≤ c0_10) (hr0_11 : Kd.C k38 w A0_11 l0_11.length l0_11) (hc0_11 : l0_11.length ≤ c0_11) (hr0_12 : Kd.C k56 w A0_12 l0_12.length l0_12) (hc0_12 : l0_12.length ≤ c0_12) (h : dormouselaw17_RestTime.f k l0_0 l0_1 l0_2 a0_3 a0_4 a0_5 a0_6 a0_7 a0_8 l0_9 l0_10 l0_11 l0_12 a0_13 a0_14 = some r) :
    Calls Try.prog 6 #[.agg #[.slice A0_0 l0_0.length c0_0, .slice A0_1 l0_1.length c0_1, .slice A0_2 l0_2.length c0_2, .int .i64 a0_3, .int .i64 a0_4, .int .i64 a0_5, .int .i64 a0_6, .int .i64 a0_7, .int .i64 a0_8, .slice A0_9 l0_9.length c0_9, .slice A0_10 l0_10.length c0_10, .slice A0_11 l0_11.length c0_11, .slice A0_12 l0_12.length c0_12, .int .i64 a0_13, .int .i64 a0_14]] w fun e w' => e = .returned (.bool r) ∧ Below w.heap.size w w' := by
  have hu32 := Try.underlying32
  have hu26 := Try.underlying26
  have HR0_0 := Aside0.mk hr0_0
  have HC0_0 := Aside0.mk hc0_0
  clear hr0_0 hc0_0
  have HR0_1 := Aside0.mk hr0_1
  have HC0_1 := Aside0.mk hc0_1
  clear hr0_1 hc0_1
  have HR0_2 := Aside0.mk hr0_2
  have HC0_2 := Aside0.mk hc0_2
  clear hr0_2 hc0_2
  have HR0_9 := Aside0.mk hr0_9
  have HC0_9 := Aside0.mk hc0_9
  clear hr0_9 hc0_9
  have HR0_10 := Aside0.mk hr0_10
  have HC0_10 := Aside0.mk hc0_10
  clear hr0_10 hc0_10
  have HR0_11 := Aside0.mk hr0_11
  have HC0_11 := Aside0.mk hc0_11
  clear hr0_11 hc0_11
  have HR0_12 := Aside0.mk hr0_12
  have HC0_12 := Aside0.mk hc0_12
  clear hr0_12 hc0_12
  have HB := Aside0.mk (Below.refl w.heap.size w)
  have H : ((dormouselaw17_good.f k l0_0 l0_1 l0_2 a0_3 a0_4 a0_5 a0_6 a0_7 a0_8 l0_9 l0_10 ([] : List (S38)) ([] : List (S56)) a0_13 a0_14).bind fun t426 => (if t426 = true then ((rest_Ready.f l0_0 l0_1 l0_2 a0_3 a0_4 a0_5 a0_6 a0_7 a0_8 l0_9 l0_10 a0_13).bind fun t428 => (if (wrap64 (t428 - a0_13)) < 0 then (dormouselaw17_RestTime.j0 k (wrap64 (t428 - a0_13)) true l0_0 l0_1 l0_2 a0_3 a0_4 a0_5 a0_6 a0_7 a0_8 l0_9 l0_10 a0_13 a0_14) else (dormouselaw17_RestTime.j0 k (wrap64 (t428 - a0_13)) (decide ((wrap64 (t428 - a0_13)) > 1024)) l0_0 l0_1 l0_2 a0_3 a0_4 a0_5 a0_6 a0_7 a0_8 l0_9 l0_10 a0_13 a0_14))) else ((dormouselaw17_answers.f).bind fun t427 => (some t427)))) = some r := h
  clear h
  replace H := Option.bind_eq_some_iff.mp H
  obtain ⟨t426, A20, H⟩ := H
  replace H : (if t426 = true then ((rest_Ready.f l0_0 l0_1 l0_2 a0_3 a0_4 a0_5 a0_6 a0_7 a0_8 l0_9 l0_10 a0_13).bind fun t428 => (if (wrap64 (t428 - a0_13)) < 0 then (dormouselaw17_RestTime.j0 k (wrap64 (t428 - a0_13)) true l0_0 l0_1 l0_2 a0_3 a0_4 a0_5 a0_6 a0_7 a0_8 l0_9 l0_10 a0_13 a0_14) else (dormouselaw17_RestTime.j0 k (wrap64 (t428 - a0_13)) (decide ((wrap64 (t428 - a0_13)) > 1024)) l0_0 l0_1 l0_2 a0_3 a0_4 a0_5 a0_6 a0_7 a0_8 l0_9 l0_10 a0_13 a0_14))) else ((dormouselaw17_answers.f).bind fun t427 => (some t427))) = some r := H
  have A2 := Aside0.mk A20
  clear A20
  by_cases c3 : t426 = true
  · subst c3
    have H1 : ((rest_Ready.f l0_0 l0_1 l0_2 a0_3 a0_4 a0_5 a0_6 a0_7 a0_8 l0_9 l0_10 a0_13).bind fun t428 => (if (wrap64 (t428 - a0_13)) < 0 then (dormouselaw17_RestTime.j0 k (wrap64 (t428 - a0_13)) true l0_0 l0_1 l0_2 a0_3 a0_4 a0_5 a0_6 a0_7 a0_8 l0_9 l0_10 a0_13 a0_14) else (dormouselaw17_RestTime.j0 k (wrap64 (t428 - a0_13)) (decide ((wrap64 (t428 - a0_13)) > 1024)) l0_0 l0_1 l0_2 a0_3 a0_4 a0_5 a0_6 a0_7 a0_8 l0_9 l0_10 a0_13 a0_14))) = some r := by rw [if_pos rfl] at H; exact H
    clear H
    have H := H1
    clear H1
    replace H := Option.bind_eq_some_iff.mp H
    obtain ⟨t428, A40, H⟩ := H
    replace H : (if (wrap64 (t428 - a0_13)) < 0 then (dormouselaw17_RestTime.j0 k (wrap64 (t428 - a0_13)) true l0_0 l0_1 l0_2 a0_3 a0_4 a0_5 a0_6 a0_7 a0_8 l0_9 l0_10 a0_13 a0_14) else (dormouselaw17_RestTime.j0 k (wrap64 (t428 - a0_13)) (decide ((wrap64 (t428 - a0_13)) > 1024)) l0_0 l0_1 l0_2 a0_3 a0_4 a0_5 a0_6 a0_7 a0_8 l0_9 l0_10 a0_13 a0_14)) = some r := H
    have A4 := Aside0.mk A40
    clear A40
    have HC5 := Aside0.mk H
    clear H
    go_enter Try.func6, Try.ntmps6
    try go_wp2_with (first | ((with_reducible refine gate_dst (N := 1) rfl ?_); refine box_event ?hg (N := 1) ?hd (cs := #[.slice A0_0 l0_0.length c0_0, .slice A0_1 l0_1.length c0_1, .slice A0_2 l0_2.length c0_2, .int .i64 a0_3, .int .i64 a0_4, .int .i64 a0_5, .int .i64 a0_6, .int .i64 a0_7, .int .i64 a0_8, .slice A0_9 l0_9.length c0_9, .slice A0_10 l0_10.length c0_10, .slice A0_11 l0_11.length c0_11, .slice A0_12 l0_12.length c0_12, .int .i64 a0_13, .int .i64 a0_14]) (t := 32) ?hr ?_; (case hd => rfl); (case hg => rfl); (case hr => first | (go_simp; done) | (go_simp; rfl)); intro gb425 hg w6 hbox hb; have n0_ := Aside0.mk (below_step (by repeat (first | (with_reducible first | exact HB.out | apply below_alloc | apply pw_below_drewN | apply below_drew1) | exact HB.out)) hb); have n1_ := Aside0.mk (hbox); have n2_ := Aside0.mk ((by rw [hg]; exact (below_size (by repeat (first | (with_reducible first | exact HB.out | apply below_alloc | apply pw_below_drewN | apply below_drew1) | exact HB.out))) : w.heap.size ≤ gb425)); have n3_ := Aside0.mk ((by rw [hg]; exact (below_size (by repeat (first | (with_reducible first | exact HB.out | apply below_alloc | apply pw_below_drewN | apply below_drew1) | exact HB.out))) : w.heap.size ≤ gb425)); clear HB; have HB := n0_; have BK425 := n1_; have GW425 := n2_; have GE425 := n3_; clear n0_ n1_ n2_ n3_; clear hb hbox hg; have hcz7_0 : w6.cell? ⟨gb425, 0, none⟩ = some (.slice A0_0 l0_0.length c0_0) := (blk_cell BK425.out 0).trans rfl; have hcz7_1 : w6.cell? ⟨gb425, 1, none⟩ = some (.slice A0_1 l0_1.length c0_1) := (blk_cell BK425.out 1).trans rfl; have hcz7_2 : w6.cell? ⟨gb425, 2, none⟩ = some (.slice A0_2 l0_2.length c0_2) := (blk_cell BK425.out 2).trans rfl; have hcz7_3 : w6.cell? ⟨gb425, 3, none⟩ = some (.int .i64 a0_3) := (blk_cell BK425.out 3).trans rfl; have hcz7_4 : w6.cell? ⟨gb425, 4, none⟩ = some (.int .i64 a0_4) := (blk_cell BK425.out 4).trans rfl; have hcz7_5 : w6.cell? ⟨gb425, 5, none⟩ = some (.int .i64 a0_5) := (blk_cell BK425.out 5).trans rfl; have hcz7_6 : w6.cell? ⟨gb425, 6, none⟩ = some (.int .i64 a0_6) := (blk_cell BK425.out 6).trans rfl; have hcz7_7 : w6.cell? ⟨gb425, 7, none⟩ = some (.int .i64 a0_7) := (blk_cell BK425.out 7).trans rfl; have hcz7_8 : w6.cell? ⟨gb425, 8, none⟩ = some (.int .i64 a0_8) := (blk_cell BK425.out 8).trans rfl; have hcz7_9 : w6.cell? ⟨gb425, 9, none⟩ = some (.slice A0_9 l0_9.length c0_9) := (blk_cell BK425.out 9).trans rfl; have hcz7_10 : w6.cell? ⟨gb425, 10, none⟩ = some (.slice A0_10 l0_10.length c0_10) := (blk_cell BK425.out 10).trans rfl; have hcz7_11 : w6.cell? ⟨gb425, 11, none⟩ = some (.slice A0_11 l0_11.length c0_11) := (blk_cell BK425.out 11).trans rfl; have hcz7_12 : w6.cell? ⟨gb425, 12, none⟩ = some (.slice A0_12 l0_12.length c0_12) := (blk_cell BK425.out 12).trans rfl; have hcz7_13 : w6.cell? ⟨gb425, 13, none⟩ = some (.int .i64 a0_13) := (blk_cell BK425.out 13).trans rfl; have hcz7_14 : w6.cell? ⟨gb425, 14, none⟩ = some (.int .i64 a0_14) := (blk_cell BK425.out 14).trans rfl; have hfz7_0 := blk_frozen BK425.out 0; have hfz7_1 := blk_frozen BK425.out 1; have hfz7_2 := blk_frozen BK425.out 2; have hfz7_3 := blk_frozen BK425.out 3; have hfz7_4 := blk_frozen BK425.out 4; have hfz7_5 := blk_frozen BK425.out 5; have hfz7_6 := blk_frozen BK425.out 6; have hfz7_7 := blk_frozen BK425.out 7; have hfz7_8 := blk_frozen BK425.out 8; have hfz7_9 := blk_frozen BK425.out 9; have hfz7_10 := blk_frozen BK425.out 10; have hfz7_11 := blk_frozen BK425.out 11; have hfz7_12 := blk_frozen BK425.out 12; have hfz7_13 := blk_frozen BK425.out 13; have hfz7_14 := blk_frozen BK425.out 14) | ((with_reducible refine gate_callee (f := 14) rfl ?_); refine goesL_ (some 9) rfl rfl Try.func14 (by kernel_rfl) rfl #[.agg #[.slice A0_0 l0_0.length c0_0, .slice A0_1 l0_1.length c0_1, .slice A0_2 l0_2.length c0_2, .int .i64 a0_3, .int .i64 a0_4, .int .i64 a0_5, .int .i64 a0_6, .int .i64 a0_7, .int .i64 a0_8, .slice A0_9 l0_9.length c0_9, .slice A0_10 l0_10.length c0_10, .slice none 0 0, .slice none 0 0, .int .i64 a0_13, .int .i64 a0_14]] rfl (by (try simp only [List.map_toArray, List.map_cons, List.map_nil]); first | done | rfl | (simp only [List.length_drop, List.length_take]; rfl)) ?_; (refine (dormouselaw17_good.calls k _ _ l0_0 _ _ l0_1 _ _ l0_2 a0_3 a0_4 a0_5 a0_6 a0_7 a0_8 _ _ l0_9 _ _ l0_10 _ _ ([] : List (S38)) _ _ ([] : List (S56)) a0_13 a0_14 true _ ?side1 ?side2 ?side3 ?side4 ?side5 ?side6 ?side7 ?side8 ?side9 ?side10 ?side11 ?side12 ?side13 ?side14 A2.out).mono ?_); (case side1 => exact Kd.C_below HR0_0.out (by repeat (first | (with_reducible first | exact HB.out | apply below_alloc | apply pw_below_drewN | apply below_drew1 | refine below_set ?_ GE425.out) | exact HB.out))); (case side2 => exact HC0_0.out); (case side3 => exact Kd.C_below HR0_1.out (by repeat (first | (with_reducible first | exact HB.out | apply below_alloc | apply pw_below_drewN | apply below_drew1 | refine below_set ?_ GE425.out) | exact HB.out))); (case side4 => exact HC0_1.out); (case side5 => exact Kd.C_below HR0_2.out (by repeat (first | (with_reducible first | exact HB.out | apply below_alloc | apply pw_below_drewN | apply below_drew1 | refine below_set ?_ GE425.out) | exact HB.out))); (case side6 => exact HC0_2.out); (case side7 => exact Kd.C_below HR0_9.out (by repeat (first | (with_reducible first | exact HB.out | apply below_alloc | apply pw_below_drewN | apply below_drew1 | refine below_set ?_ GE425.out) | exact HB.out))); (case side8 => exact HC0_9.out); (case side9 => exact Kd.C_below HR0_10.out (by repeat (first | (with_reducible first | exact HB.out | apply below_alloc | apply pw_below_drewN | apply below_drew1 | refine below_set ?_ GE425.out) | exact HB.out))); (case side10 => exact HC0_10.out); (case side11 => exact Kd.C_nil _ _); (case side12 => exact Nat.le_refl _); (case side13 => exact Kd.C_nil _ _); (case side14 => exact Nat.le_refl _); rintro e w8 ⟨rfl, hb⟩; refine ⟨_, rfl, ?_⟩; have n0_ := Aside0.mk (blk_below (g := gb425) (o := .cells #[.slice A0_0 l0_0.length c0_0, .slice A0_1 l0_1.length c0_1, .slice A0_2 l0_2.length c0_2, .int .i64 a0_3, .int .i64 a0_4, .int .i64 a0_5, .int .i64 a0_6, .int .i64 a0_7, .int .i64 a0_8, .slice A0_9 l0_9.length c0_9, .slice A0_10 l0_10.length c0_10, .slice none 0 0, .slice none 0 0, .int .i64 a0_13, .int .i64 a0_14] 32 (0, 0)) (by (with_reducible repeat (first | refine blk_drewN ?_ _ | refine blk_drew ?_ | refine blk_alloc ?_ _)); refine blk_put (cs := #[.slice A0_0 l0_0.length c0_0, .slice A0_1 l0_1.length c0_1, .slice A0_2 l0_2.length c0_2, .int .i64 a0_3, .int .i64 a0_4, .int .i64 a0_5, .int .i64 a0_6, .int .i64 a0_7, .int .i64 a0_8, .slice A0_9 l0_9.length c0_9, .slice A0_10 l0_10.length c0_10, .slice none 0 0, .slice A0_12 l0_12.length c0_12, .int .i64 a0_13, .int .i64 a0_14]) ?_ 12 _ rfl; (with_reducible repeat (first | refine blk_drewN ?_ _ | refine blk_drew ?_ | refine blk_alloc ?_ _)); refine blk_put (cs := #[.slice A0_0 l0_0.length c0_0, .slice A0_1 l0_1.length c0_1, .slice A0_2 l0_2.length c0_2, .int .i64 a0_3, .int .i64 a0_4, .int .i64 a0_5, .int .i64 a0_6, .int .i64 a0_7, .int .i64 a0_8, .slice A0_9 l0_9.length c0_9, .slice A0_10 l0_10.length c0_10, .slice A0_11 l0_11.length c0_11, .slice A0_12 l0_12.length c0_12, .int .i64 a0_13, .int .i64 a0_14]) ?_ 11 _ rfl; (with_reducible repeat (first | refine blk_drewN ?_ _ | refine blk_drew ?_ | refine blk_alloc ?_ _)); exact BK425.out) hb); have n1_ := Aside0.mk (below_step (by repeat (first | (with_reducible first | exact HB.out | apply below_alloc | apply pw_below_drewN | apply below_drew1 | refine below_set ?_ GE425.out) | exact HB.out)) hb); clear BK425; clear HB; have BK425 := n0_; have HB := n1_; clear n0_ n1_; (try clear hb); (try clear hb2); (try clear hk); (try clear hi)))
    have n0_ := Aside0.mk (blk_drew BK425.out)
    have n1_ := Aside0.mk (below_drew1 HB.out)
    clear BK425
    clear HB
    have BK425 := n0_
    have HB := n1_
    clear n0_ n1_
    refine start_ (n := 13) (S := fun w' => w'.cell? ⟨gb425, 0, none⟩ = some (.slice A0_0 l0_0.length c0_0) ∧ w'.cell? ⟨gb425, 1, none⟩ = some (.slice A0_1 l0_1.length c0_1) ∧ w'.cell? ⟨gb425, 2, none⟩ = some (.slice A0_2 l0_2.length c0_2) ∧ w'.cell? ⟨gb425, 3, none⟩ = some (.int .i64 a0_3) ∧ w'.cell? ⟨gb425, 4, none⟩ = some (.int .i64 a0_4) ∧ w'.cell? ⟨gb425, 5, none⟩ = some (.int .i64 a0_5) ∧ w'.cell? ⟨gb425, 6, none⟩ = some (.int .i64 a0_6) ∧ w'.cell? ⟨gb425, 7, none⟩ = some (.int .i64 a0_7) ∧ w'.cell? ⟨gb425, 8, none⟩ = some (.int .i64 a0_8) ∧ w'.cell? ⟨gb425, 9, none⟩ = some (.slice A0_9 l0_9.length c0_9) ∧ w'.cell? ⟨gb425, 10, none⟩ = some (.slice A0_10 l0_10.length c0_10) ∧ w'.cell? ⟨gb425, 11, none⟩ = some (.slice none 0 0) ∧ w'.cell? ⟨gb425, 12, none⟩ = some (.slice none 0 0) ∧ w'.cell? ⟨gb425, 13, none⟩ = some (.int .i64 a0_13) ∧ w'.cell? ⟨gb425, 14, none⟩ = some (.int .i64 a0_14)) (ds := []) #[false, false, false, false, false, false, false, false, false, false, false, false, false] (by kernel_rfl) rfl rfl ⟨(blk_cell BK425.out 0).trans rfl, (blk_cell BK425.out 1).trans rfl, (blk_cell BK425.out 2).trans rfl, (blk_cell BK425.out 3).trans rfl, (blk_cell BK425.out 4).trans rfl, (blk_cell BK425.out 5).trans rfl, (blk_cell BK425.out 6).trans rfl, (blk_cell BK425.out 7).trans rfl, (blk_cell BK425.out 8).trans rfl, (blk_cell BK425.out 9).trans rfl, (blk_cell BK425.out 10).trans rfl, (blk_cell BK425.out 11).trans rfl, (blk_cell BK425.out 12).trans rfl, (blk_cell BK425.out 13).trans rfl, (blk_cell BK425.out 14).trans rfl⟩ (fun hHeld => ?_); refine with_tabW dormouselaw17_RestTime.tab4 dormouselaw17_RestTime.bits4 (fun HT_ HW_ => ?_)
    generalize w8.drew = w9 at BK425 HB hHeld ⊢
    refine pure_ (i := 0) (N := some 12) (v := ?_) (a' := ?_) #[true, false, false, false, false, false, false, false, false, false, false, false, false] rfl rfl (any_of HT_.out (by kernel_rfl)) (fun _ _ _ h => h) (Or.inl ⟨by rfl, ?_⟩) ?_ ?_
    rotate_left
    · intro w'
      go_simp
      with_reducible rfl
    rotate_left
    · simp only [Act.put, List.setIfInBounds_toArray, List.set_cons_zero, List.set_cons_succ, i64_w, i32_w]
      rfl
    refine pure_ (i := 2) (N := some 14) (v := ?_) (a' := ?_) #[true, false, true, false, false, false, false, false, false, false, false, false, false] rfl rfl (any_of HT_.out (by kernel_rfl)) (fun _ _ _ h => h) (Or.inl ⟨by rfl, ?_⟩) ?_ ?_
    rotate_left
    · intro w'
      go_simp
      with_reducible rfl
    rotate_left
    · simp only [Act.put, List.setIfInBounds_toArray, List.set_cons_zero, List.set_cons_succ, i64_w, i32_w]
      rfl
    refine pure_ (i := 4) (N := some 16) (v := ?_) (a' := ?_) #[true, false, true, false, true, false, false, false, false, false, false, false, false] rfl rfl (any_of HT_.out (by kernel_rfl)) (fun _ _ _ h => h) (Or.inl ⟨by rfl, ?_⟩) ?_ ?_
    rotate_left
    · intro w'
      go_simp
      with_reducible rfl
    rotate_left
    · simp only [Act.put, List.setIfInBounds_toArray, List.set_cons_zero, List.set_cons_succ, i64_w, i32_w]
      rfl
    refine pure_ (i := 6) (N := some 18) (v := ?_) (a' := ?_) #[true, false, true, false, true, false, true, false, false, false, false, false, false] rfl rfl (any_of HT_.out (by kernel_rfl)) (fun _ _ _ h => h) (Or.inl ⟨by rfl, ?_⟩) ?_ ?_
    rotate_left
    · intro w'
      go_simp
      with_reducible rfl
    rotate_left
    · simp only [Act.put, List.setIfInBounds_toArray, List.set_cons_zero, List.set_cons_succ, i64_w, i32_w]
      rfl
    refine pure_ (i := 9) (N := some 21) (v := ?_) (a' := ?_) #[true, false, true, false, true, false, true, false, false, true, false, false, false] rfl rfl (any_of HT_.out (by kernel_rfl)) (fun _ _ _ h => h) (Or.inl ⟨by rfl, ?_⟩) ?_ ?_
    rotate_left
    · intro w'
      go_simp
      with_reducible rfl
    rotate_left
    · simp only [Act.put, List.setIfInBounds_toArray, List.set_cons_zero, List.set_cons_succ, i64_w, i32_w]
      rfl
    refine take_ (i := 1) (N := some 13) (v := ?_) (a' := ?_) #[true, true, true, false, true, false, true, false, false, true, false, false, false] rfl rfl (take_ofW HT_.out HW_.out (by kernel_rfl)) (fun _ _ _ h => h) (Or.inl ⟨by rfl, ?_⟩) hHeld ?_ ?_
    rotate_left
    · rintro w' ⟨s0, s1, s2, s3, s4, s5, s6, s7, s8, s9, s10, s11, s12, s13, s14⟩
      go_simp
      with_reducible rfl
    rotate_left
    · simp only [Act.put, List.setIfInBounds_toArray, List.set_cons_zero, List.set_cons_succ, i64_w, i32_w]
      rfl
    refine take_ (i := 3) (N := some 15) (v := ?_) (a' := ?_) #[true, true, true, true, true, false, true, false, false, true, false, false, false] rfl rfl (take_ofW HT_.out HW_.out (by kernel_rfl)) (fun _ _ _ h => h) (Or.inl ⟨by rfl, ?_⟩) hHeld ?_ ?_
    rotate_left
    · rintro w' ⟨s0, s1, s2, s3, s4, s5, s6, s7, s8, s9, s10, s11, s12, s13, s14⟩
      go_simp
      with_reducible rfl
    rotate_left
    · simp only [Act.put, List.setIfInBounds_toArray, List.set_cons_zero, List.set_cons_succ, i64_w, i32_w]
      rfl
    refine take_ (i := 5) (N := some 17) (v := ?_) (a' := ?_) #[true, true, true, true, true, true, true, false, false, true, false, false, false] rfl rfl (take_ofW HT_.out HW_.out (by kernel_rfl)) (fun _ _ _ h => h) (Or.inl ⟨by rfl, ?_⟩) hHeld ?_ ?_
    rotate_left
    · rintro w' ⟨s0, s1, s2, s3, s4, s5, s6, s7, s8, s9, s10, s11, s12, s13, s14⟩
      go_simp
      with_reducible rfl
    rotate_left
    · simp only [Act.put, List.setIfInBounds_toArray, List.set_cons_zero, List.set_cons_succ, i64_w, i32_w]
      rfl
    refine take_ (i := 7) (N := some 19) (v := ?_) (a' := ?_) #[true, true, true, true, true, true, true, true, false, true, false, false, false] rfl rfl (take_ofW HT_.out HW_.out (by kernel_rfl)) (fun _ _ _ h => h) (Or.inl ⟨by rfl, ?_⟩) hHeld ?_ ?_
    rotate_left
    · rintro w' ⟨s0, s1, s2, s3, s4, s5, s6, s7, s8, s9, s10, s11, s12, s13, s14⟩
      go_simp
      with_reducible rfl
    rotate_left
    · simp only [Act.put, List.setIfInBounds_toArray, List.set_cons_zero, List.set_cons_succ, i64_w, i32_w]
      rfl
    refine take_ (i := 10) (N := some 22) (v := ?_) (a' := ?_) #[true, true, true, true, true, true, true, true, false, true, true, false, false] rfl rfl (take_ofW HT_.out HW_.out (by kernel_rfl)) (fun _ _ _ h => h) (Or.inl ⟨by rfl, ?_⟩) hHeld ?_ ?_
    rotate_left
    · rintro w' ⟨s0, s1, s2, s3, s4, s5, s6, s7, s8, s9, s10, s11, s12, s13, s14⟩
      go_simp
      with_reducible rfl
    rotate_left
    · simp only [Act.put, List.setIfInBounds_toArray, List.set_cons_zero, List.set_cons_succ, i64_w, i32_w]
      rfl
    refine one_ (i := 8) (N := some 20) #[true, true, true, true, true, true, true, true, true, true, true, false, false] rfl rfl (one_of HT_.out (by kernel_rfl)) (by decide) (fun K hK => ?_)
    refine goes_ Try.func16 (by kernel_rfl) rfl #[.agg #[.slice A0_0 l0_0.length c0_0, .slice A0_1 l0_1.length c0_1, .slice A0_2 l0_2.length c0_2, .int .i64 a0_3, .int .i64 a0_4, .int .i64 a0_5, .int .i64 a0_6, .int .i64 a0_7, .int .i64 a0_8], .slice A0_9 l0_9.length c0_9, .slice A0_10 l0_10.length c0_10, .int .i64 a0_13] (by rfl) rfl rfl (by (try simp only [List.map_toArray, List.map_cons, List.map_nil]); first | done | rfl | (simp only [List.length_drop, List.length_take]; rfl)) ?_
    with_reducible refine (rest_Ready.calls _ _ l0_0 _ _ l0_1 _ _ l0_2 a0_3 a0_4 a0_5 a0_6 a0_7 a0_8 _ _ l0_9 _ _ l0_10 a0_13 t428 _ ?side1 ?side2 ?side3 ?side4 ?side5 ?side6 ?side7 ?side8 ?side9 ?side10 A4.out).mono ?_
    (case side1 => repeat (first | exact (Kd.C_below HR0_0.out HB.out) | (with_reducible refine Kd.C_alloc ?_ _) | (with_reducible refine Kd.C_drewN ?_ _) | (with_reducible refine Kd.C_drew ?_)))
    (case side2 => exact HC0_0.out)
    (case side3 => repeat (first | exact (Kd.C_below HR0_1.out HB.out) | (with_reducible refine Kd.C_alloc ?_ _) | (with_reducible refine Kd.C_drewN ?_ _) | (with_reducible refine Kd.C_drew ?_)))
    (case side4 => exact HC0_1.out)
    (case side5 => repeat (first | exact (Kd.C_below HR0_2.out HB.out) | (with_reducible refine Kd.C_alloc ?_ _) | (with_reducible refine Kd.C_drewN ?_ _) | (with_reducible refine Kd.C_drew ?_)))
    (case side6 => exact HC0_2.out)
    (case side7 => repeat (first | exact (Kd.C_below HR0_9.out HB.out) | (with_reducible refine Kd.C_alloc ?_ _) | (with_reducible refine Kd.C_drewN ?_ _) | (with_reducible refine Kd.C_drew ?_)))
    (case side8 => exact HC0_9.out)
    (case side9 => repeat (first | exact (Kd.C_below HR0_10.out HB.out) | (with_reducible refine Kd.C_alloc ?_ _) | (with_reducible refine Kd.C_drewN ?_ _) | (with_reducible refine Kd.C_drew ?_)))
    (case side10 => exact HC0_10.out)
    rintro e w10 ⟨rfl, hb⟩
    refine ⟨_, rfl, ?_⟩
    have n0_ := Aside0.mk (blk_below (g := gb425) (o := .cells #[.slice A0_0 l0_0.length c0_0, .slice A0_1 l0_1.length c0_1, .slice A0_2 l0_2.length c0_2, .int .i64 a0_3, .int .i64 a0_4, .int .i64 a0_5, .int .i64 a0_6, .int .i64 a0_7, .int .i64 a0_8, .slice A0_9 l0_9.length c0_9, .slice A0_10 l0_10.length c0_10, .slice none 0 0, .slice none 0 0, .int .i64 a0_13, .int .i64 a0_14] 32 (0, 0)) (by (with_reducible repeat (first | refine blk_drewN ?_ _ | refine blk_drew ?_ | refine blk_alloc ?_ _)); exact BK425.out) hb)
    have n1_ := Aside0.mk (below_step (by repeat (first | (with_reducible first | exact HB.out | apply below_alloc | apply pw_below_drewN | apply below_drew1 | refine below_set ?_ GE425.out) | exact HB.out)) hb)
    clear BK425
    clear HB
    have BK425 := n0_
    have HB := n1_
    clear n0_ n1_
    (try clear hb)
    (try clear hb2)
    (try clear hk)
    (try clear hi)
    refine hK.out _ _ ⟨(blk_cell BK425.out 0).trans rfl, (blk_cell BK425.out 1).trans rfl, (blk_cell BK425.out 2).trans rfl, (blk_cell BK425.out 3).trans rfl, (blk_cell BK425.out 4).trans rfl, (blk_cell BK425.out 5).trans rfl, (blk_cell BK425.out 6).trans rfl, (blk_cell BK425.out 7).trans rfl, (blk_cell BK425.out 8).trans rfl, (blk_cell BK425.out 9).trans rfl, (blk_cell BK425.out 10).trans rfl, (blk_cell BK425.out 11).trans rfl, (blk_cell BK425.out 12).trans rfl, (blk_cell BK425.out 13).trans rfl, (blk_cell BK425.out 14).trans rfl⟩ (fun hHeld => ?_)
    clear hK K
    refine norm_ (a' := ?_) ?_ ?_
    rotate_left
    · show Act.put _ (some 20) _ = _
      simp only [Act.put, List.setIfInBounds_toArray, List.set_cons_zero, List.set_cons_succ, i64_w, i32_w]
      rfl
    refine pure_ (i := 11) (N := some 23) (v := ?_) (a' := ?_) #[true, true, true, true, true, true, true, true, true, true, true, true, false] rfl rfl (any_of HT_.out (by kernel_rfl)) (fun _ _ _ h => h) (Or.inl ⟨by rfl, ?_⟩) ?_ ?_
    rotate_left
    · intro w'
      go_simp
      with_reducible rfl
    rotate_left
    · simp only [Act.put, List.setIfInBounds_toArray, List.set_cons_zero, List.set_cons_succ, i64_w, i32_w]
      rfl
    refine pure_ (i := 12) (N := some 3) (v := ?_) (a' := ?_) #[true, true, true, true, true, true, true, true, true, true, true, true, true] rfl rfl (any_of HT_.out (by kernel_rfl)) (fun _ _ _ h => h) (Or.inl ⟨by rfl, ?_⟩) ?_ ?_
    rotate_left
    · intro w'
      go_simp
      with_reducible rfl
    rotate_left
    · simp only [Act.put, List.setIfInBounds_toArray, List.set_cons_zero, List.set_cons_succ, i64_w, i32_w]
      rfl
    refine done_ (done_of HT_.out (by kernel_rfl)) ?_
    go_upto_region 5 with (fail)
    go_cut [29] (fun v29 wc => ∃ (kq : Nat) (x29_4 : Bool), v29 = .bool x29_4 ∧ Aside0 (dormouselaw17_RestTime.j0 kq (wrap64 (t428 - a0_13)) x29_4 l0_0 l0_1 l0_2 a0_3 a0_4 a0_5 a0_6 a0_7 a0_8 l0_9 l0_10 a0_13 a0_14 = some r) ∧ Aside0 (kq ≤ k) ∧ Aside0 (wc.heap[gb425]? = some (.cells #[(.slice A0_0 l0_0.length c0_0), (.slice A0_1 l0_1.length c0_1), (.slice A0_2 l0_2.length c0_2), .int .i64 a0_3, .int .i64 a0_4, .int .i64 a0_5, .int .i64 a0_6, .int .i64 a0_7, .int .i64 a0_8, (.slice A0_9 l0_9.length c0_9), (.slice A0_10 l0_10.length c0_10), (.slice none 0 0), (.slice none 0 0), .int .i64 a0_13, .int .i64 a0_14] 32 (0, 0))) ∧ Aside0 (Below w.heap.size w wc))
    case first =>
      have H := HC5.out
      clear HC5
      by_cases c11 : (wrap64 (t428 - a0_13)) < 0
      · rw [if_pos c11] at H
        have c11b0 : decide ((wrap64 (t428 - a0_13)) < 0) = true := decide_eq_true c11
        clear c11
        (first | rw [c11b0] | (simp only [i64_w, i32_w]; rw [c11b0]) | skip)
        have H' := Aside0.mk H
        clear H
        go_wp2
        go_meet
        case rel => exact ⟨_, (true), (by first | rfl | (simp; done) | (simp [*]; done)), H', ⟨by first | omega | exact Nat.le_refl _⟩, ⟨by (with_reducible repeat (first | refine blk_drewN ?_ _ | refine blk_drew ?_ | refine blk_alloc ?_ _)); exact BK425.out⟩, ⟨by repeat (first | (with_reducible first | exact HB.out | apply below_alloc | apply pw_below_drewN | apply below_drew1 | refine below_set ?_ GE425.out) | exact HB.out)⟩⟩
      · rw [if_neg c11] at H
        have c11b0 : decide ((wrap64 (t428 - a0_13)) < 0) = false := decide_eq_false c11
        clear c11
        (first | rw [c11b0] | (simp only [i64_w, i32_w]; rw [c11b0]) | skip)
        have H' := Aside0.mk H
        clear H
        go_wp2
        go_meet
        case rel => exact ⟨_, (decide ((wrap64 (t428 - a0_13)) > 1024)), (by first | rfl | (simp; done) | (simp [*]; done)), H', ⟨by first | omega | exact Nat.le_refl _⟩, ⟨by (with_reducible repeat (first | refine blk_drewN ?_ _ | refine blk_drew ?_ | refine blk_alloc ?_ _)); exact BK425.out⟩, ⟨by repeat (first | (with_reducible first | exact HB.out | apply below_alloc | apply pw_below_drewN | apply below_drew1 | refine below_set ?_ GE425.out) | exact HB.out)⟩⟩
    case rest =>
      clear HC5
      try clear c1
      try clear p2
      try clear c3
      try clear c6
      try clear p6
      try clear c11
      try clear c11b0
      try clear hcz7_0
      try clear hcz7_1
      try clear hcz7_10
      try clear hcz7_11
      try clear hcz7_12
      try clear hcz7_13
      try clear hcz7_14
      try clear hcz7_2
      try clear hcz7_3
      try clear hcz7_4
      try clear hcz7_5
      try clear hcz7_6
      try clear hcz7_7
      try clear hcz7_8
      try clear hcz7_9
      try clear hfz7_0
      try clear hfz7_1
      try clear hfz7_10
      try clear hfz7_11
      try clear hfz7_12
      try clear hfz7_13
      try clear hfz7_14
      try clear hfz7_2
      try clear hfz7_3
      try clear hfz7_4
      try clear hfz7_5
      try clear hfz7_6
      try clear hfz7_7
      try clear hfz7_8
      try clear hfz7_9
      obtain ⟨kq, x29_4, rfl, HA, HJ4, BK425, HB⟩ := hcut
      cases kq with
      | zero => exact absurd HA.out (by simp [dormouselaw17_RestTime.j0])
      | succ kj4 =>
        have H := HA.out
        clear HA
        simp only [dormouselaw17_RestTime.j0] at H
        by_cases c12 : x29_4 = true
        · subst c12
          have H1 : (some false) = some r := by rw [if_pos rfl] at H; exact H
          clear H
          have H := H1
          clear H1
          obtain rfl := Option.some.inj H
          go_wp2
          go_ret
          exact ⟨by first | rfl | (simp [errW_none, errW_some] <;> rfl) | (simp [*, errW_none, errW_some] <;> rfl), by repeat (first | (with_reducible first | exact HB.out | apply below_alloc | apply pw_below_drewN | apply below_drew1 | refine below_set ?_ GE425.out) | exact HB.out)⟩
        · replace c12 := Bool.eq_false_iff.mpr c12
          subst c12
          have H1 : (dormouselaw17_RestTime.l0 kj4 (wrap64 (t428 - a0_13)) 0 l0_0 l0_1 l0_2 a0_3 a0_4 a0_5 a0_6 a0_7 a0_8 l0_9 l0_10 a0_13 a0_14) = some r := by rw [if_neg (show ¬ (false = true) by decide)] at H; exact H
          clear H
          have H := H1
          clear H1
          have H' := Aside0.mk H
          clear H
          go_wp2
          go_loopg [4] kj4 (fun kq v4 w' => ∃ (x4_2 : Int), v4 = .int .i64 x4_2 ∧ Aside0 (dormouselaw17_RestTime.l0 kq (wrap64 (t428 - a0_13)) x4_2 l0_0 l0_1 l0_2 a0_3 a0_4 a0_5 a0_6 a0_7 a0_8 l0_9 l0_10 a0_13 a0_14 = some r) ∧ Aside0 (kq ≤ kj4) ∧ Aside0 (w'.heap[gb425]? = some (.cells #[(.slice A0_0 l0_0.length c0_0), (.slice A0_1 l0_1.length c0_1), (.slice A0_2 l0_2.length c0_2), .int .i64 a0_3, .int .i64 a0_4, .int .i64 a0_5, .int .i64 a0_6, .int .i64 a0_7, .int .i64 a0_8, (.slice A0_9 l0_9.length c0_9), (.slice A0_10 l0_10.length c0_10), (.slice none 0 0), (.slice none 0 0), .int .i64 a0_13, .int .i64 a0_14] 32 (0, 0))) ∧ Aside0 (Below w.heap.size w w'))
          case atStart => exact ⟨(0), (by first | rfl | (simp; done) | (simp [*]; done)), H', ⟨Nat.le_refl _⟩, ⟨by (with_reducible repeat (first | refine blk_drewN ?_ _ | refine blk_drew ?_ | refine blk_alloc ?_ _)); exact BK425.out⟩, ⟨by repeat (first | (with_reducible first | exact HB.out | apply below_alloc | apply pw_below_drewN | apply below_drew1 | refine below_set ?_ GE425.out) | exact HB.out)⟩⟩
          case round =>
            clear H'
            try clear c1
            try clear p2
            try clear c3
            try clear c6
            try clear p6
            try clear c11
            try clear c11b0
            try clear c12
            try clear hcz7_0
            try clear hcz7_1
            try clear hcz7_10
            try clear hcz7_11
            try clear hcz7_12
            try clear hcz7_13
            try clear hcz7_14
            try clear hcz7_2
            try clear hcz7_3
            try clear hcz7_4
            try clear hcz7_5
            try clear hcz7_6
            try clear hcz7_7
            try clear hcz7_8
            try clear hcz7_9
            try clear hfz7_0
            try clear hfz7_1
            try clear hfz7_10
            try clear hfz7_11
            try clear hfz7_12
            try clear hfz7_13
            try clear hfz7_14
            try clear hfz7_2
            try clear hfz7_3
            try clear hfz7_4
            try clear hfz7_5
            try clear hfz7_6
            try clear hfz7_7
            try clear hfz7_8
            try clear hfz7_9
            try clear p2
            try clear p6
            obtain ⟨x4_2, rfl, HA, HK2, BK425, HB⟩ := hrel
            cases gk with
            | zero => exact absurd HA.out (by simp [dormouselaw17_RestTime.l0])
            | succ k2 =>
              have H := HA.out
              clear HA
              simp only [dormouselaw17_RestTime.l0] at H
              by_cases c13 : x4_2 < (l0_9.length : Int)
              · rw [if_pos c13] at H
                have c13b0 : decide (x4_2 < (l0_9.length : Int)) = true := decide_eq_true c13
                clear c13
                by_cases c14 : 0 ≤ x4_2
                · rw [if_pos c14] at H
                  have c14b0 : decide (0 ≤ x4_2) = true := decide_eq_true c14
                  clear c14
                  by_cases c15 : x4_2 < (l0_10.length : Int)
                  · rw [if_pos c15] at H
                    have c15b0 : decide (x4_2 < (l0_10.length : Int)) = true := decide_eq_true c15
                    clear c15
                    replace H := Option.bind_eq_some_iff.mp H
                    obtain ⟨t431, A160, H⟩ := H
                    replace H : (if ((rd_T36 l0_9 x4_2).f0) > 0 then (if (wrap64 (t428 - a0_13)) > 0 then (if (wrap64 (t431 + ((rd_T36 l0_9 x4_2).f0))) ≤ 2097152 then ((slack_At.f l0_0 l0_1 l0_2 a0_3 a0_4 a0_5 a0_6 a0_7 a0_8 l0_9 l0_10 ([] : List (S38)) ([] : List (S73)) a0_13 (wrap64 (t431 + ((rd_T36 l0_9 x4_2).f0)))).bind fun t434 => (if t434 < (wrap64 ((wrap64 (t428 - a0_13)) * 4294967296)) then (some false) else (dormouselaw17_RestTime.l0 k2 (wrap64 (t428 - a0_13)) (wrap64 (x4_2 + 1)) l0_0 l0_1 l0_2 a0_3 a0_4 a0_5 a0_6 a0_7 a0_8 l0_9 l0_10 a0_13 a0_14))) else (dormouselaw17_RestTime.l0 k2 (wrap64 (t428 - a0_13)) (wrap64 (x4_2 + 1)) l0_0 l0_1 l0_2 a0_3 a0_4 a0_5 a0_6 a0_7 a0_8 l0_9 l0_10 a0_13 a0_14)) else (dormouselaw17_RestTime.l0 k2 (wrap64 (t428 - a0_13)) (wrap64 (x4_2 + 1)) l0_0 l0_1 l0_2 a0_3 a0_4 a0_5 a0_6 a0_7 a0_8 l0_9 l0_10 a0_13 a0_14)) else (dormouselaw17_RestTime.l0 k2 (wrap64 (t428 - a0_13)) (wrap64 (x4_2 + 1)) l0_0 l0_1 l0_2 a0_3 a0_4 a0_5 a0_6 a0_7 a0_8 l0_9 l0_10 a0_13 a0_14)) = some r := H
                    have A16 := Aside0.mk A160
                    clear A160
                    by_cases c17 : ((rd_T36 l0_9 x4_2).f0) > 0
                    · rw [if_pos c17] at H
                      have c17b0 : decide (0 < ((rd_T36 l0_9 x4_2).f0)) = true := decide_eq_true c17
                      clear c17
                      by_cases c18 : (wrap64 (t428 - a0_13)) > 0
                      · rw [if_pos c18] at H
                        have c18b0 : decide (0 < (wrap64 (t428 - a0_13))) = true := decide_eq_true c18
                        clear c18
                        by_cases c19 : (wrap64 (t431 + ((rd_T36 l0_9 x4_2).f0))) ≤ 2097152
                        · rw [if_pos c19] at H
                          have c19b0 : decide ((wrap64 (t431 + ((rd_T36 l0_9 x4_2).f0))) ≤ 2097152) = true := decide_eq_true c19
                          clear c19
                          replace H := Option.bind_eq_some_iff.mp H
                          obtain ⟨t434, A200, H⟩ := H
                          replace H : (if t434 < (wrap64 ((wrap64 (t428 - a0_13)) * 4294967296)) then (some false) else (dormouselaw17_RestTime.l0 k2 (wrap64 (t428 - a0_13)) (wrap64 (x4_2 + 1)) l0_0 l0_1 l0_2 a0_3 a0_4 a0_5 a0_6 a0_7 a0_8 l0_9 l0_10 a0_13 a0_14)) = some r := H
                          have A20 := Aside0.mk A200
                          clear A200
                          by_cases c21 : t434 < (wrap64 ((wrap64 (t428 - a0_13)) * 4294967296))
                          · rw [if_pos c21] at H
                            have c21b0 : decide (t434 < (wrap64 ((wrap64 (t428 - a0_13)) * 4294967296))) = true := decide_eq_true c21
                            clear c21
                            obtain rfl := Option.some.inj H
                            have hcz22_0 : wr.cell? ⟨gb425, 0, none⟩ = some (.slice A0_0 l0_0.length c0_0) := (blk_cell BK425.out 0).trans rfl
                            have hcz22_1 : wr.cell? ⟨gb425, 1, none⟩ = some (.slice A0_1 l0_1.length c0_1) := (blk_cell BK425.out 1).trans rfl
                            have hcz22_2 : wr.cell? ⟨gb425, 2, none⟩ = some (.slice A0_2 l0_2.length c0_2) := (blk_cell BK425.out 2).trans rfl
                            have hcz22_3 : wr.cell? ⟨gb425, 3, none⟩ = some (.int .i64 a0_3) := (blk_cell BK425.out 3).trans rfl
                            have hcz22_4 : wr.cell? ⟨gb425, 4, none⟩ = some (.int .i64 a0_4) := (blk_cell BK425.out 4).trans rfl
                            have hcz22_5 : wr.cell? ⟨gb425, 5, none⟩ = some (.int .i64 a0_5) := (blk_cell BK425.out 5).trans rfl
                            have hcz22_6 : wr.cell? ⟨gb425, 6, none⟩ = some (.int .i64 a0_6) := (blk_cell BK425.out 6).trans rfl
                            have hcz22_7 : wr.cell? ⟨gb425, 7, none⟩ = some (.int .i64 a0_7) := (blk_cell BK425.out 7).trans rfl
                            have hcz22_8 : wr.cell? ⟨gb425, 8, none⟩ = some (.int .i64 a0_8) := (blk_cell BK425.out 8).trans rfl
                            have hcz22_9 : wr.cell? ⟨gb425, 9, none⟩ = some (.slice A0_9 l0_9.length c0_9) := (blk_cell BK425.out 9).trans rfl
                            have hcz22_10 : wr.cell? ⟨gb425, 10, none⟩ = some (.slice A0_10 l0_10.length c0_10) := (blk_cell BK425.out 10).trans rfl
                            have hcz22_11 : wr.cell? ⟨gb425, 11, none⟩ = some (.slice none 0 0) := (blk_cell BK425.out 11).trans rfl
                            have hcz22_12 : wr.cell? ⟨gb425, 12, none⟩ = some (.slice none 0 0) := (blk_cell BK425.out 12).trans rfl
                            have hcz22_13 : wr.cell? ⟨gb425, 13, none⟩ = some (.int .i64 a0_13) := (blk_cell BK425.out 13).trans rfl
                            have hcz22_14 : wr.cell? ⟨gb425, 14, none⟩ = some (.int .i64 a0_14) := (blk_cell BK425.out 14).trans rfl
                            have hfz22_0 := blk_frozen BK425.out 0
                            have hfz22_1 := blk_frozen BK425.out 1
                            have hfz22_2 := blk_frozen BK425.out 2
                            have hfz22_3 := blk_frozen BK425.out 3
                            have hfz22_4 := blk_frozen BK425.out 4
                            have hfz22_5 := blk_frozen BK425.out 5
                            have hfz22_6 := blk_frozen BK425.out 6
                            have hfz22_7 := blk_frozen BK425.out 7
                            have hfz22_8 := blk_frozen BK425.out 8
                            have hfz22_9 := blk_frozen BK425.out 9
                            have hfz22_10 := blk_frozen BK425.out 10
                            have hfz22_11 := blk_frozen BK425.out 11
                            have hfz22_12 := blk_frozen BK425.out 12
                            have hfz22_13 := blk_frozen BK425.out 13
                            have hfz22_14 := blk_frozen BK425.out 14
                            try go_wp2
                            have n0_ := Aside0.mk (blk_drew BK425.out)
                            have n1_ := Aside0.mk (below_drew1 HB.out)
                            clear BK425
                            clear HB
                            have BK425 := n0_
                            have HB := n1_
                            clear n0_ n1_
                            have p430 : 0 ≤ (x4_2 : Int) := of_decide_eq_true (by first | (with_reducible assumption) | assumption)
                            have q430 : x4_2 < (l0_10.length : Int) := of_decide_eq_true (by first | (with_reducible assumption) | assumption)
                            obtain ⟨ad430, e430, hx430_0⟩ := Kd.at_int HR0_10.out x4_2 p430 q430
                            have hw430_0 := hx430_0
                            cases e430
                            replace hx430_0 := (HB.out.cell (World.block_lt_of_cell? w _ hx430_0)).trans hx430_0
                            replace p430 := eq_true p430
                            replace q430 := eq_true q430
                            have p432 : 0 ≤ (x4_2 : Int) := of_decide_eq_true (by first | (with_reducible assumption) | assumption)
                            have q432 : x4_2 < (l0_9.length : Int) := of_decide_eq_true (by first | (with_reducible assumption) | assumption)
                            obtain ⟨ad432, A432_2, c432_2, A432_3, c432_3, e432, hx432_0, hx432_1, hx432_2, hx432_3, hl432_2, hi432_2, hl432_3, hi432_3⟩ := at_T36 HR0_9.out x4_2 p432 q432
                            have hw432_3 := hx432_3
                            have hw432_2 := hx432_2
                            have hw432_1 := hx432_1
                            have hw432_0 := hx432_0
                            cases e432
                            replace hx432_0 := (HB.out.cell (World.block_lt_of_cell? w _ hx432_0)).trans hx432_0
                            replace hx432_1 := (HB.out.cell (World.block_lt_of_cell? w _ hx432_1)).trans hx432_1
                            replace hx432_2 := (HB.out.cell (World.block_lt_of_cell? w _ hx432_2)).trans hx432_2
                            replace hx432_3 := (HB.out.cell (World.block_lt_of_cell? w _ hx432_3)).trans hx432_3
                            have HR432_2 := Aside0.mk hi432_2
                            have HC432_2 := Aside0.mk hl432_2
                            clear hi432_2 hl432_2
                            have HR432_3 := Aside0.mk hi432_3
                            have HC432_3 := Aside0.mk hl432_3
                            clear hi432_3 hl432_3
                            replace p432 := eq_true p432
                            replace q432 := eq_true q432
                            refine start_ (n := 16) (S := fun w' => w'.cell? ⟨gb425, 0, none⟩ = some (.slice A0_0 l0_0.length c0_0) ∧ w'.cell? ⟨gb425, 1, none⟩ = some (.slice A0_1 l0_1.length c0_1) ∧ w'.cell? ⟨gb425, 2, none⟩ = some (.slice A0_2 l0_2.length c0_2) ∧ w'.cell? ⟨gb425, 3, none⟩ = some (.int .i64 a0_3) ∧ w'.cell? ⟨gb425, 4, none⟩ = some (.int .i64 a0_4) ∧ w'.cell? ⟨gb425, 5, none⟩ = some (.int .i64 a0_5) ∧ w'.cell? ⟨gb425, 6, none⟩ = some (.int .i64 a0_6) ∧ w'.cell? ⟨gb425, 7, none⟩ = some (.int .i64 a0_7) ∧ w'.cell? ⟨gb425, 8, none⟩ = some (.int .i64 a0_8) ∧ w'.cell? ⟨gb425, 9, none⟩ = some (.slice (some ad432) l0_9.length c0_9) ∧ w'.cell? ⟨gb425, 10, none⟩ = some (.slice (some ad430) l0_10.length c0_10) ∧ w'.cell? ⟨gb425, 11, none⟩ = some (.slice none 0 0) ∧ w'.cell? ⟨gb425, 12, none⟩ = some (.slice none 0 0) ∧ w'.cell? ⟨gb425, 13, none⟩ = some (.int .i64 a0_13) ∧ w'.cell? ⟨gb425, 14, none⟩ = some (.int .i64 a0_14) ∧ w'.cell? (ad430.add (x4_2).toNat) = some (.int .i64 (rd l0_10 x4_2)) ∧ w'.cell? (ad432.add ((x4_2).toNat * 4)) = some (.int .i64 ((rd_T36 l0_9 x4_2).f0)) ∧ w'.cell? ⟨(ad432.add ((x4_2).toNat * 4)).block, (ad432.add ((x4_2).toNat * 4)).off + 1, none⟩ = some (.int .i64 ((rd_T36 l0_9 x4_2).f1)) ∧ w'.cell? ⟨(ad432.add ((x4_2).toNat * 4)).block, (ad432.add ((x4_2).toNat * 4)).off + 2, none⟩ = some (.slice A432_2 ((rd_T36 l0_9 x4_2).f2).length c432_2) ∧ w'.cell? ⟨(ad432.add ((x4_2).toNat * 4)).block, (ad432.add ((x4_2).toNat * 4)).off + 3, none⟩ = some (.slice A432_3 ((rd_T36 l0_9 x4_2).f3).length c432_3)) (ds := []) #[false, false, false, false, false, false, false, false, false, false, false, false, false, false, false, false] (by kernel_rfl) rfl rfl ⟨(blk_cell BK425.out 0).trans rfl, (blk_cell BK425.out 1).trans rfl, (blk_cell BK425.out 2).trans rfl, (blk_cell BK425.out 3).trans rfl, (blk_cell BK425.out 4).trans rfl, (blk_cell BK425.out 5).trans rfl, (blk_cell BK425.out 6).trans rfl, (blk_cell BK425.out 7).trans rfl, (blk_cell BK425.out 8).trans rfl, (blk_cell BK425.out 9).trans rfl, (blk_cell BK425.out 10).trans rfl, (blk_cell BK425.out 11).trans rfl, (blk_cell BK425.out 12).trans rfl, (blk_cell BK425.out 13).trans rfl, (blk_cell BK425.out 14).trans rfl, ((HB.out.cell (World.block_lt_of_cell? w _ hw430_0)).trans hw430_0), ((HB.out.cell (World.block_lt_of_cell? w _ hw432_0)).trans hw432_0), ((HB.out.cell (World.block_lt_of_cell? w _ hw432_1)).trans hw432_1), ((HB.out.cell (World.block_lt_of_cell? w _ hw432_2)).trans hw432_2), ((HB.out.cell (World.block_lt_of_cell? w _ hw432_3)).trans hw432_3)⟩ (fun hHeld => ?_); refine with_tabW dormouselaw17_RestTime.tab10 dormouselaw17_RestTime.bits10 (fun HT_ HW_ => ?_)
                            generalize wr.drew = w23 at BK425 HB HR432_2 HR432_3 hx430_0 hx432_0 hx432_1 hx432_2 hx432_3 hHeld ⊢
                            refine pure_ (i := 0) (N := some 37) (v := ?_) (a' := ?_) #[true, false, false, false, false, false, false, false, false, false, false, false, false, false, false, false] rfl rfl (any_of HT_.out (by kernel_rfl)) (fun _ _ _ h => h) (Or.inl ⟨by rfl, ?_⟩) ?_ ?_
                            rotate_left
                            · intro w'
                              go_simp
                              with_reducible rfl
                            rotate_left
                            · simp only [Act.put, List.setIfInBounds_toArray, List.set_cons_zero, List.set_cons_succ, i64_w, i32_w]
                              rfl
                            refine pure_ (i := 2) (N := some 39) (v := ?_) (a' := ?_) #[true, false, true, false, false, false, false, false, false, false, false, false, false, false, false, false] rfl rfl (any_of HT_.out (by kernel_rfl)) (fun _ _ _ h => h) (Or.inl ⟨by rfl, ?_⟩) ?_ ?_
                            rotate_left
                            · intro w'
                              go_simp
                              with_reducible rfl
                            rotate_left
                            · simp only [Act.put, List.setIfInBounds_toArray, List.set_cons_zero, List.set_cons_succ, i64_w, i32_w]
                              rfl
                            refine pure_ (i := 5) (N := some 42) (v := ?_) (a' := ?_) #[true, false, true, false, false, true, false, false, false, false, false, false, false, false, false, false] rfl rfl (any_of HT_.out (by kernel_rfl)) (fun _ _ _ h => h) (Or.inl ⟨by rfl, ?_⟩) ?_ ?_
                            rotate_left
                            · intro w'
                              go_simp
                              with_reducible rfl
                            rotate_left
                            · simp only [Act.put, List.setIfInBounds_toArray, List.set_cons_zero, List.set_cons_succ, i64_w, i32_w]
                              rfl
                            refine pure_ (i := 8) (N := some 45) (v := ?_) (a' := ?_) #[true, false, true, false, false, true, false, false, true, false, false, false, false, false, false, false] rfl rfl (any_of HT_.out (by kernel_rfl)) (fun _ _ _ h => h) (Or.inl ⟨by rfl, ?_⟩) ?_ ?_
                            rotate_left
                            · intro w'
                              go_simp
                              with_reducible rfl
                            rotate_left
                            · simp only [Act.put, List.setIfInBounds_toArray, List.set_cons_zero, List.set_cons_succ, i64_w, i32_w]
                              rfl
                            refine pure_ (i := 10) (N := some 47) (v := ?_) (a' := ?_) #[true, false, true, false, false, true, false, false, true, false, true, false, false, false, false, false] rfl rfl (any_of HT_.out (by kernel_rfl)) (fun _ _ _ h => h) (Or.inl ⟨by rfl, ?_⟩) ?_ ?_
                            rotate_left
                            · intro w'
                              go_simp
                              with_reducible rfl
                            rotate_left
                            · simp only [Act.put, List.setIfInBounds_toArray, List.set_cons_zero, List.set_cons_succ, i64_w, i32_w]
                              rfl
                            refine take_ (i := 1) (N := some 38) (v := ?_) (a' := ?_) #[true, true, true, false, false, true, false, false, true, false, true, false, false, false, false, false] rfl rfl (take_ofW HT_.out HW_.out (by kernel_rfl)) (fun _ _ _ h => h) (Or.inl ⟨by rfl, ?_⟩) hHeld ?_ ?_
                            rotate_left
                            · rintro w' ⟨s0, s1, s2, s3, s4, s5, s6, s7, s8, s9, s10, s11, s12, s13, s14, s15, s16, s17, s18, s19⟩
                              go_simp
                              with_reducible rfl
                            rotate_left
                            · simp only [Act.put, List.setIfInBounds_toArray, List.set_cons_zero, List.set_cons_succ, i64_w, i32_w]
                              rfl
                            refine pure_ (i := 3) (N := some 40) (v := ?_) (a' := ?_) #[true, true, true, true, false, true, false, false, true, false, true, false, false, false, false, false] rfl rfl (any_of HT_.out (by kernel_rfl)) (fun _ _ _ h => h) (Or.inl ⟨by rfl, ?_⟩) ?_ ?_
                            rotate_left
                            · intro w'
                              go_simp
                              with_reducible rfl
                            rotate_left
                            · simp only [Act.put, List.setIfInBounds_toArray, List.set_cons_zero, List.set_cons_succ, i64_w, i32_w]
                              rfl
                            refine take_ (i := 4) (N := some 41) (v := ?_) (a' := ?_) #[true, true, true, true, true, true, false, false, true, false, true, false, false, false, false, false] rfl rfl (take_ofW HT_.out HW_.out (by kernel_rfl)) (fun _ _ _ h => h) (Or.inl ⟨by rfl, ?_⟩) hHeld ?_ ?_
                            rotate_left
                            · rintro w' ⟨s0, s1, s2, s3, s4, s5, s6, s7, s8, s9, s10, s11, s12, s13, s14, s15, s16, s17, s18, s19⟩
                              go_simp
                              with_reducible rfl
                            rotate_left
                            · simp only [Act.put, List.setIfInBounds_toArray, List.set_cons_zero, List.set_cons_succ, i64_w, i32_w]
                              rfl
                            refine take_ (i := 6) (N := some 43) (v := ?_) (a' := ?_) #[true, true, true, true, true, true, true, false, true, false, true, false, false, false, false, false] rfl rfl (take_ofW HT_.out HW_.out (by kernel_rfl)) (fun _ _ _ h => h) (Or.inl ⟨by rfl, ?_⟩) hHeld ?_ ?_
                            rotate_left
                            · rintro w' ⟨s0, s1, s2, s3, s4, s5, s6, s7, s8, s9, s10, s11, s12, s13, s14, s15, s16, s17, s18, s19⟩
                              go_simp
                              with_reducible rfl
                            rotate_left
                            · simp only [Act.put, List.setIfInBounds_toArray, List.set_cons_zero, List.set_cons_succ, i64_w, i32_w]
                              rfl
                            refine take_ (i := 9) (N := some 46) (v := ?_) (a' := ?_) #[true, true, true, true, true, true, true, false, true, true, true, false, false, false, false, false] rfl rfl (take_ofW HT_.out HW_.out (by kernel_rfl)) (fun _ _ _ h => h) (Or.inl ⟨by rfl, ?_⟩) hHeld ?_ ?_
                            rotate_left
                            · rintro w' ⟨s0, s1, s2, s3, s4, s5, s6, s7, s8, s9, s10, s11, s12, s13, s14, s15, s16, s17, s18, s19⟩
                              go_simp
                              with_reducible rfl
                            rotate_left
                            · simp only [Act.put, List.setIfInBounds_toArray, List.set_cons_zero, List.set_cons_succ, i64_w, i32_w]
                              rfl
                            refine pure_ (i := 11) (N := some 48) (v := ?_) (a' := ?_) #[true, true, true, true, true, true, true, false, true, true, true, true, false, false, false, false] rfl rfl (any_of HT_.out (by kernel_rfl)) (fun _ _ _ h => h) (Or.inl ⟨by rfl, ?_⟩) ?_ ?_
                            rotate_left
                            · intro w'
                              go_simp
                              with_reducible rfl
                            rotate_left
                            · simp only [Act.put, List.setIfInBounds_toArray, List.set_cons_zero, List.set_cons_succ, i64_w, i32_w]
                              rfl
                            refine pure_ (i := 12) (N := some 49) (v := ?_) (a' := ?_) #[true, true, true, true, true, true, true, false, true, true, true, true, true, false, false, false] rfl rfl (any_of HT_.out (by kernel_rfl)) (fun _ _ _ h => h) (Or.inl ⟨by rfl, ?_⟩) ?_ ?_
                            rotate_left
                            · intro w'
                              go_simp
                              with_reducible rfl
                            rotate_left
                            · simp only [Act.put, List.setIfInBounds_toArray, List.set_cons_zero, List.set_cons_succ, i64_w, i32_w]
                              rfl
                            refine take_ (i := 13) (N := some 50) (v := ?_) (a' := ?_) #[true, true, true, true, true, true, true, false, true, true, true, true, true, true, false, false] rfl rfl (take_ofW HT_.out HW_.out (by kernel_rfl)) (fun _ _ _ h => h) (Or.inl ⟨by rfl, ?_⟩) hHeld ?_ ?_
                            rotate_left
                            · rintro w' ⟨s0, s1, s2, s3, s4, s5, s6, s7, s8, s9, s10, s11, s12, s13, s14, s15, s16, s17, s18, s19⟩
                              go_simp
                              with_reducible rfl
                            rotate_left
                            · simp only [Act.put, List.setIfInBounds_toArray, List.set_cons_zero, List.set_cons_succ, i64_w, i32_w]
                              rfl
                            refine one_ (i := 7) (N := some 44) #[true, true, true, true, true, true, true, true, true, true, true, true, true, true, false, false] rfl rfl (one_of HT_.out (by kernel_rfl)) (by decide) (fun K hK => ?_)
                            refine goes_ Try.func18 (by kernel_rfl) rfl #[.int .i64 (rd l0_10 x4_2), .int .i64 a0_13] (by rfl) rfl rfl (by (try simp only [List.map_toArray, List.map_cons, List.map_nil]); first | done | rfl | (simp only [List.length_drop, List.length_take]; rfl)) ?_
                            with_reducible refine (dormouseref01_Max.calls (rd l0_10 x4_2) a0_13 t431 _ A16.out).mono ?_
                            rintro e w' ⟨rfl, ⟨nd, rfl⟩⟩
                            refine ⟨_, rfl, ?_⟩
                            refine hK.out _ _ ⟨(blk_cell BK425.out 0).trans rfl, (blk_cell BK425.out 1).trans rfl, (blk_cell BK425.out 2).trans rfl, (blk_cell BK425.out 3).trans rfl, (blk_cell BK425.out 4).trans rfl, (blk_cell BK425.out 5).trans rfl, (blk_cell BK425.out 6).trans rfl, (blk_cell BK425.out 7).trans rfl, (blk_cell BK425.out 8).trans rfl, (blk_cell BK425.out 9).trans rfl, (blk_cell BK425.out 10).trans rfl, (blk_cell BK425.out 11).trans rfl, (blk_cell BK425.out 12).trans rfl, (blk_cell BK425.out 13).trans rfl, (blk_cell BK425.out 14).trans rfl, ((HB.out.cell (World.block_lt_of_cell? w _ hw430_0)).trans hw430_0), ((HB.out.cell (World.block_lt_of_cell? w _ hw432_0)).trans hw432_0), ((HB.out.cell (World.block_lt_of_cell? w _ hw432_1)).trans hw432_1), ((HB.out.cell (World.block_lt_of_cell? w _ hw432_2)).trans hw432_2), ((HB.out.cell (World.block_lt_of_cell? w _ hw432_3)).trans hw432_3)⟩ (fun hHeld => ?_)
                            clear hK K
                            refine norm_ (a' := ?_) ?_ ?_
                            rotate_left
                            · show Act.put _ (some 44) _ = _
                              simp only [Act.put, List.setIfInBounds_toArray, List.set_cons_zero, List.set_cons_succ, i64_w, i32_w]
                              rfl
                            refine pure_ (i := 14) (N := some 51) (v := ?_) (a' := ?_) #[true, true, true, true, true, true, true, true, true, true, true, true, true, true, true, false] rfl rfl (any_of HT_.out (by kernel_rfl)) (fun _ _ _ h => h) (Or.inl ⟨by rfl, ?_⟩) ?_ ?_
                            rotate_left
                            · intro w'
                              go_simp
                              with_reducible rfl
                            rotate_left
                            · simp only [Act.put, List.setIfInBounds_toArray, List.set_cons_zero, List.set_cons_succ, i64_w, i32_w]
                              rfl
                            refine pure_ (i := 15) (N := some 5) (v := ?_) (a' := ?_) #[true, true, true, true, true, true, true, true, true, true, true, true, true, true, true, true] rfl rfl (any_of HT_.out (by kernel_rfl)) (fun _ _ _ h => h) (Or.inl ⟨by rfl, ?_⟩) ?_ ?_
                            rotate_left
                            · intro w'
                              go_simp
                              with_reducible rfl
                            rotate_left
                            · simp only [Act.put, List.setIfInBounds_toArray, List.set_cons_zero, List.set_cons_succ, i64_w, i32_w]
                              rfl
                            refine done_ (done_of HT_.out (by kernel_rfl)) ?_
                            have hcz24_0 : w23.cell? ⟨gb425, 0, none⟩ = some (.slice A0_0 l0_0.length c0_0) := (blk_cell BK425.out 0).trans rfl
                            have hcz24_1 : w23.cell? ⟨gb425, 1, none⟩ = some (.slice A0_1 l0_1.length c0_1) := (blk_cell BK425.out 1).trans rfl
                            have hcz24_2 : w23.cell? ⟨gb425, 2, none⟩ = some (.slice A0_2 l0_2.length c0_2) := (blk_cell BK425.out 2).trans rfl
                            have hcz24_3 : w23.cell? ⟨gb425, 3, none⟩ = some (.int .i64 a0_3) := (blk_cell BK425.out 3).trans rfl
                            have hcz24_4 : w23.cell? ⟨gb425, 4, none⟩ = some (.int .i64 a0_4) := (blk_cell BK425.out 4).trans rfl
                            have hcz24_5 : w23.cell? ⟨gb425, 5, none⟩ = some (.int .i64 a0_5) := (blk_cell BK425.out 5).trans rfl
                            have hcz24_6 : w23.cell? ⟨gb425, 6, none⟩ = some (.int .i64 a0_6) := (blk_cell BK425.out 6).trans rfl
                            have hcz24_7 : w23.cell? ⟨gb425, 7, none⟩ = some (.int .i64 a0_7) := (blk_cell BK425.out 7).trans rfl
                            have hcz24_8 : w23.cell? ⟨gb425, 8, none⟩ = some (.int .i64 a0_8) := (blk_cell BK425.out 8).trans rfl
                            have hcz24_9 : w23.cell? ⟨gb425, 9, none⟩ = some (.slice (some ad432) l0_9.length c0_9) := (blk_cell BK425.out 9).trans rfl
                            have hcz24_10 : w23.cell? ⟨gb425, 10, none⟩ = some (.slice (some ad430) l0_10.length c0_10) := (blk_cell BK425.out 10).trans rfl
                            have hcz24_11 : w23.cell? ⟨gb425, 11, none⟩ = some (.slice none 0 0) := (blk_cell BK425.out 11).trans rfl
                            have hcz24_12 : w23.cell? ⟨gb425, 12, none⟩ = some (.slice none 0 0) := (blk_cell BK425.out 12).trans rfl
                            have hcz24_13 : w23.cell? ⟨gb425, 13, none⟩ = some (.int .i64 a0_13) := (blk_cell BK425.out 13).trans rfl
                            have hcz24_14 : w23.cell? ⟨gb425, 14, none⟩ = some (.int .i64 a0_14) := (blk_cell BK425.out 14).trans rfl
                            have hfz24_0 := blk_frozen BK425.out 0
                            have hfz24_1 := blk_frozen BK425.out 1
                            have hfz24_2 := blk_frozen BK425.out 2
                            have hfz24_3 := blk_frozen BK425.out 3
                            have hfz24_4 := blk_frozen BK425.out 4
                            have hfz24_5 := blk_frozen BK425.out 5
                            have hfz24_6 := blk_frozen BK425.out 6
                            have hfz24_7 := blk_frozen BK425.out 7
                            have hfz24_8 := blk_frozen BK425.out 8
                            have hfz24_9 := blk_frozen BK425.out 9
                            have hfz24_10 := blk_frozen BK425.out 10
                            have hfz24_11 := blk_frozen BK425.out 11
                            have hfz24_12 := blk_frozen BK425.out 12
                            have hfz24_13 := blk_frozen BK425.out 13
                            have hfz24_14 := blk_frozen BK425.out 14
                            have p433 : 0 ≤ (x4_2 : Int) := of_decide_eq_true (by first | (with_reducible assumption) | assumption)
                            have q433 : x4_2 < (l0_9.length : Int) := of_decide_eq_true (by first | (with_reducible assumption) | assumption)
                            obtain ⟨ad433, A433_2, c433_2, A433_3, c433_3, e433, hx433_0, hx433_1, hx433_2, hx433_3, hl433_2, hi433_2, hl433_3, hi433_3⟩ := at_T36 HR0_9.out x4_2 p433 q433
                            obtain rfl : ad432 = ad433 := (by injection e433)
                            replace hx433_0 := (HB.out.cell (World.block_lt_of_cell? w _ hx433_0)).trans hx433_0
                            replace hx433_1 := (HB.out.cell (World.block_lt_of_cell? w _ hx433_1)).trans hx433_1
                            replace hx433_2 := (HB.out.cell (World.block_lt_of_cell? w _ hx433_2)).trans hx433_2
                            replace hx433_3 := (HB.out.cell (World.block_lt_of_cell? w _ hx433_3)).trans hx433_3
                            have HR433_2 := Aside0.mk hi433_2
                            have HC433_2 := Aside0.mk hl433_2
                            clear hi433_2 hl433_2
                            have HR433_3 := Aside0.mk hi433_3
                            have HC433_3 := Aside0.mk hl433_3
                            clear hi433_3 hl433_3
                            replace p433 := eq_true p433
                            replace q433 := eq_true q433
                            have ea_ := Option.some.inj (hx432_2.symm.trans hx433_2)
                            injection ea_ with ea_ en_ ec_
                            subst ea_
                            subst ec_
                            clear en_
                            have ea_ := Option.some.inj (hx432_3.symm.trans hx433_3)
                            injection ea_ with ea_ en_ ec_
                            subst ea_
                            subst ec_
                            clear en_
                            try go_wp2_with (first | (go_at_call 19; (refine (slack_At.calls _ _ l0_0 _ _ l0_1 _ _ l0_2 a0_3 a0_4 a0_5 a0_6 a0_7 a0_8 _ _ l0_9 _ _ l0_10 _ _ ([] : List (S38)) _ _ ([] : List (S73)) a0_13 (wrap64 (t431 + ((rd_T36 l0_9 x4_2).f0))) t434 _ ?side1 ?side2 ?side3 ?side4 ?side5 ?side6 ?side7 ?side8 ?side9 ?side10 ?side11 ?side12 ?side13 ?side14 A20.out).mono ?_); (case side1 => repeat (first | exact (Kd.C_below HR0_0.out (by repeat (first | (with_reducible first | exact HB.out | apply below_alloc | apply pw_below_drewN | apply below_drew1 | refine below_set ?_ GE425.out) | exact HB.out))) | (with_reducible refine Kd.C_alloc ?_ _) | (with_reducible refine Kd.C_drewN ?_ _) | (with_reducible refine Kd.C_drew ?_))); (case side2 => exact HC0_0.out); (case side3 => repeat (first | exact (Kd.C_below HR0_1.out (by repeat (first | (with_reducible first | exact HB.out | apply below_alloc | apply pw_below_drewN | apply below_drew1 | refine below_set ?_ GE425.out) | exact HB.out))) | (with_reducible refine Kd.C_alloc ?_ _) | (with_reducible refine Kd.C_drewN ?_ _) | (with_reducible refine Kd.C_drew ?_))); (case side4 => exact HC0_1.out); (case side5 => repeat (first | exact (Kd.C_below HR0_2.out (by repeat (first | (with_reducible first | exact HB.out | apply below_alloc | apply pw_below_drewN | apply below_drew1 | refine below_set ?_ GE425.out) | exact HB.out))) | (with_reducible refine Kd.C_alloc ?_ _) | (with_reducible refine Kd.C_drewN ?_ _) | (with_reducible refine Kd.C_drew ?_))); (case side6 => exact HC0_2.out); (case side7 => repeat (first | exact (Kd.C_below HR0_9.out (by repeat (first | (with_reducible first | exact HB.out | apply below_alloc | apply pw_below_drewN | apply below_drew1 | refine below_set ?_ GE425.out) | exact HB.out))) | (with_reducible refine Kd.C_alloc ?_ _) | (with_reducible refine Kd.C_drewN ?_ _) | (with_reducible refine Kd.C_drew ?_))); (case side8 => exact HC0_9.out); (case side9 => repeat (first | exact (Kd.C_below HR0_10.out (by repeat (first | (with_reducible first | exact HB.out | apply below_alloc | apply pw_below_drewN | apply below_drew1 | refine below_set ?_ GE425.out) | exact HB.out))) | (with_reducible refine Kd.C_alloc ?_ _) | (with_reducible refine Kd.C_drewN ?_ _) | (with_reducible refine Kd.C_drew ?_))); (case side10 => exact HC0_10.out); (case side11 => exact Kd.C_nil _ _); (case side12 => exact Nat.le_refl _); (case side13 => exact Kd.C_nil _ _); (case side14 => exact Nat.le_refl _); rintro e w25 ⟨rfl, hb⟩; have n0_ := Aside0.mk (blk_below (g := gb425) (o := .cells #[.slice A0_0 l0_0.length c0_0, .slice A0_1 l0_1.length c0_1, .slice A0_2 l0_2.length c0_2, .int .i64 a0_3, .int .i64 a0_4, .int .i64 a0_5, .int .i64 a0_6, .int .i64 a0_7, .int .i64 a0_8, .slice (some ad432) l0_9.length c0_9, .slice (some ad430) l0_10.length c0_10, .slice none 0 0, .slice none 0 0, .int .i64 a0_13, .int .i64 a0_14] 32 (0, 0)) (by (with_reducible repeat (first | refine blk_drewN ?_ _ | refine blk_drew ?_ | refine blk_alloc ?_ _)); exact BK425.out) hb); have n1_ := Aside0.mk (below_step (by repeat (first | (with_reducible first | exact HB.out | apply below_alloc | apply pw_below_drewN | apply below_drew1 | refine below_set ?_ GE425.out) | exact HB.out)) hb); clear BK425; clear HB; have BK425 := n0_; have HB := n1_; clear n0_ n1_; (try clear hb); (try clear hb2); (try clear hk); (try clear hi)))
                            go_ret
                            exact ⟨by first | rfl | (simp [errW_none, errW_some] <;> rfl) | (simp [*, errW_none, errW_some] <;> rfl), by repeat (first | (with_reducible first | exact HB.out | apply below_alloc | apply pw_below_drewN | apply below_drew1 | refine below_set ?_ GE425.out) | exact HB.out)⟩
                          · rw [if_neg c21] at H
                            have c21b0 : decide (t434 < (wrap64 ((wrap64 (t428 - a0_13)) * 4294967296))) = false := decide_eq_false c21
                            clear c21
                            have H' := Aside0.mk H
                            clear H
                            have hcz26_0 : wr.cell? ⟨gb425, 0, none⟩ = some (.slice A0_0 l0_0.length c0_0) := (blk_cell BK425.out 0).trans rfl
                            have hcz26_1 : wr.cell? ⟨gb425, 1, none⟩ = some (.slice A0_1 l0_1.length c0_1) := (blk_cell BK425.out 1).trans rfl
                            have hcz26_2 : wr.cell? ⟨gb425, 2, none⟩ = some (.slice A0_2 l0_2.length c0_2) := (blk_cell BK425.out 2).trans rfl
                            have hcz26_3 : wr.cell? ⟨gb425, 3, none⟩ = some (.int .i64 a0_3) := (blk_cell BK425.out 3).trans rfl
                            have hcz26_4 : wr.cell? ⟨gb425, 4, none⟩ = some (.int .i64 a0_4) := (blk_cell BK425.out 4).trans rfl
                            have hcz26_5 : wr.cell? ⟨gb425, 5, none⟩ = some (.int .i64 a0_5) := (blk_cell BK425.out 5).trans rfl
                            have hcz26_6 : wr.cell? ⟨gb425, 6, none⟩ = some (.int .i64 a0_6) := (blk_cell BK425.out 6).trans rfl
                            have hcz26_7 : wr.cell? ⟨gb425, 7, none⟩ = some (.int .i64 a0_7) := (blk_cell BK425.out 7).trans rfl
                            have hcz26_8 : wr.cell? ⟨gb425, 8, none⟩ = some (.int .i64 a0_8) := (blk_cell BK425.out 8).trans rfl
                            have hcz26_9 : wr.cell? ⟨gb425, 9, none⟩ = some (.slice A0_9 l0_9.length c0_9) := (blk_cell BK425.out 9).trans rfl
                            have hcz26_10 : wr.cell? ⟨gb425, 10, none⟩ = some (.slice A0_10 l0_10.length c0_10) := (blk_cell BK425.out 10).trans rfl
                            have hcz26_11 : wr.cell? ⟨gb425, 11, none⟩ = some (.slice none 0 0) := (blk_cell BK425.out 11).trans rfl
                            have hcz26_12 : wr.cell? ⟨gb425, 12, none⟩ = some (.slice none 0 0) := (blk_cell BK425.out 12).trans rfl
                            have hcz26_13 : wr.cell? ⟨gb425, 13, none⟩ = some (.int .i64 a0_13) := (blk_cell BK425.out 13).trans rfl
                            have hcz26_14 : wr.cell? ⟨gb425, 14, none⟩ = some (.int .i64 a0_14) := (blk_cell BK425.out 14).trans rfl
                            have hfz26_0 := blk_frozen BK425.out 0
                            have hfz26_1 := blk_frozen BK425.out 1
                            have hfz26_2 := blk_frozen BK425.out 2
                            have hfz26_3 := blk_frozen BK425.out 3
                            have hfz26_4 := blk_frozen BK425.out 4
                            have hfz26_5 := blk_frozen BK425.out 5
                            have hfz26_6 := blk_frozen BK425.out 6
                            have hfz26_7 := blk_frozen BK425.out 7
                            have hfz26_8 := blk_frozen BK425.out 8
                            have hfz26_9 := blk_frozen BK425.out 9
                            have hfz26_10 := blk_frozen BK425.out 10
                            have hfz26_11 := blk_frozen BK425.out 11
                            have hfz26_12 := blk_frozen BK425.out 12
                            have hfz26_13 := blk_frozen BK425.out 13
                            have hfz26_14 := blk_frozen BK425.out 14
                            try go_wp2
                            have n0_ := Aside0.mk (blk_drew BK425.out)
                            have n1_ := Aside0.mk (below_drew1 HB.out)
                            clear BK425
                            clear HB
                            have BK425 := n0_
                            have HB := n1_
                            clear n0_ n1_
                            have p430 : 0 ≤ (x4_2 : Int) := of_decide_eq_true (by first | (with_reducible assumption) | assumption)
                            have q430 : x4_2 < (l0_10.length : Int) := of_decide_eq_true (by first | (with_reducible assumption) | assumption)
                            obtain ⟨ad430, e430, hx430_0⟩ := Kd.at_int HR0_10.out x4_2 p430 q430
                            have hw430_0 := hx430_0
                            cases e430
                            replace hx430_0 := (HB.out.cell (World.block_lt_of_cell? w _ hx430_0)).trans hx430_0
                            replace p430 := eq_true p430
                            replace q430 := eq_true q430
                            have p432 : 0 ≤ (x4_2 : Int) := of_decide_eq_true (by first | (with_reducible assumption) | assumption)
                            have q432 : x4_2 < (l0_9.length : Int) := of_decide_eq_true (by first | (with_reducible assumption) | assumption)
                            obtain ⟨ad432, A432_2, c432_2, A432_3, c432_3, e432, hx432_0, hx432_1, hx432_2, hx432_3, hl432_2, hi432_2, hl432_3, hi432_3⟩ := at_T36 HR0_9.out x4_2 p432 q432
                            have hw432_3 := hx432_3
                            have hw432_2 := hx432_2
                            have hw432_1 := hx432_1
                            have hw432_0 := hx432_0
                            cases e432
                            replace hx432_0 := (HB.out.cell (World.block_lt_of_cell? w _ hx432_0)).trans hx432_0
                            replace hx432_1 := (HB.out.cell (World.block_lt_of_cell? w _ hx432_1)).trans hx432_1
                            replace hx432_2 := (HB.out.cell (World.block_lt_of_cell? w _ hx432_2)).trans hx432_2
                            replace hx432_3 := (HB.out.cell (World.block_lt_of_cell? w _ hx432_3)).trans hx432_3
                            have HR432_2 := Aside0.mk hi432_2
                            have HC432_2 := Aside0.mk hl432_2
                            clear hi432_2 hl432_2
                            have HR432_3 := Aside0.mk hi432_3
                            have HC432_3 := Aside0.mk hl432_3
                            clear hi432_3 hl432_3
                            replace p432 := eq_true p432
                            replace q432 := eq_true q432
                            refine start_ (n := 16) (S := fun w' => w'.cell? ⟨gb425, 0, none⟩ = some (.slice A0_0 l0_0.length c0_0) ∧ w'.cell? ⟨gb425, 1, none⟩ = some (.slice A0_1 l0_1.length c0_1) ∧ w'.cell? ⟨gb425, 2, none⟩ = some (.slice A0_2 l0_2.length c0_2) ∧ w'.cell? ⟨gb425, 3, none⟩ = some (.int .i64 a0_3) ∧ w'.cell? ⟨gb425, 4, none⟩ = some (.int .i64 a0_4) ∧ w'.cell? ⟨gb425, 5, none⟩ = some (.int .i64 a0_5) ∧ w'.cell? ⟨gb425, 6, none⟩ = some (.int .i64 a0_6) ∧ w'.cell? ⟨gb425, 7, none⟩ = some (.int .i64 a0_7) ∧ w'.cell? ⟨gb425, 8, none⟩ = some (.int .i64 a0_8) ∧ w'.cell? ⟨gb425, 9, none⟩ = some (.slice (some ad432) l0_9.length c0_9) ∧ w'.cell? ⟨gb425, 10, none⟩ = some (.slice (some ad430) l0_10.length c0_10) ∧ w'.cell? ⟨gb425, 11, none⟩ = some (.slice none 0 0) ∧ w'.cell? ⟨gb425, 12, none⟩ = some (.slice none 0 0) ∧ w'.cell? ⟨gb425, 13, none⟩ = some (.int .i64 a0_13) ∧ w'.cell? ⟨gb425, 14, none⟩ = some (.int .i64 a0_14) ∧ w'.cell? (ad430.add (x4_2).toNat) = some (.int .i64 (rd l0_10 x4_2)) ∧ w'.cell? (ad432.add ((x4_2).toNat * 4)) = some (.int .i64 ((rd_T36 l0_9 x4_2).f0)) ∧ w'.cell? ⟨(ad432.add ((x4_2).toNat * 4)).block, (ad432.add ((x4_2).toNat * 4)).off + 1, none⟩ = some (.int .i64 ((rd_T36 l0_9 x4_2).f1)) ∧ w'.cell? ⟨(ad432.add ((x4_2).toNat * 4)).block, (ad432.add ((x4_2).toNat * 4)).off + 2, none⟩ = some (.slice A432_2 ((rd_T36 l0_9 x4_2).f2).length c432_2) ∧ w'.cell? ⟨(ad432.add ((x4_2).toNat * 4)).block, (ad432.add ((x4_2).toNat * 4)).off + 3, none⟩ = some (.slice A432_3 ((rd_T36 l0_9 x4_2).f3).length c432_3)) (ds := []) #[false, false, false, false, false, false, false, false, false, false, false, false, false, false, false, false] (by kernel_rfl) rfl rfl ⟨(blk_cell BK425.out 0).trans rfl, (blk_cell BK425.out 1).trans rfl, (blk_cell BK425.out 2).trans rfl, (blk_cell BK425.out 3).trans rfl, (blk_cell BK425.out 4).trans rfl, (blk_cell BK425.out 5).trans rfl, (blk_cell BK425.out 6).trans rfl, (blk_cell BK425.out 7).trans rfl, (blk_cell BK425.out 8).trans rfl, (blk_cell BK425.out 9).trans rfl, (blk_cell BK425.out 10).trans rfl, (blk_cell BK425.out 11).trans rfl, (blk_cell BK425.out 12).trans rfl, (blk_cell BK425.out 13).trans rfl, (blk_cell BK425.out 14).trans rfl, ((HB.out.cell (World.block_lt_of_cell? w _ hw430_0)).trans hw430_0), ((HB.out.cell (World.block_lt_of_cell? w _ hw432_0)).trans hw432_0), ((HB.out.cell (World.block_lt_of_cell? w _ hw432_1)).trans hw432_1), ((HB.out.cell (World.block_lt_of_cell? w _ hw432_2)).trans hw432_2), ((HB.out.cell (World.block_lt_of_cell? w _ hw432_3)).trans hw432_3)⟩ (fun hHeld => ?_); refine with_tabW dormouselaw17_RestTime.tab10 dormouselaw17_RestTime.bits10 (fun HT_ HW_ => ?_)
                            generalize wr.drew = w27 at BK425 HB HR432_2 HR432_3 hx430_0 hx432_0 hx432_1 hx432_2 hx432_3 hHeld ⊢
                            refine pure_ (i := 0) (N := some 37) (v := ?_) (a' := ?_) #[true, false, false, false, false, false, false, false, false, false, false, false, false, false, false, false] rfl rfl (any_of HT_.out (by kernel_rfl)) (fun _ _ _ h => h) (Or.inl ⟨by rfl, ?_⟩) ?_ ?_
                            rotate_left
                            · intro w'
                              go_simp
                              with_reducible rfl
                            rotate_left
                            · simp only [Act.put, List.setIfInBounds_toArray, List.set_cons_zero, List.set_cons_succ, i64_w, i32_w]
                              rfl
                            refine pure_ (i := 2) (N := some 39) (v := ?_) (a' := ?_) #[true, false, true, false, false, false, false, false, false, false, false, false, false, false, false, false] rfl rfl (any_of HT_.out (by kernel_rfl)) (fun _ _ _ h => h) (Or.inl ⟨by rfl, ?_⟩) ?_ ?_
                            rotate_left
                            · intro w'
                              go_simp
                              with_reducible rfl
                            rotate_left
                            · simp only [Act.put, List.setIfInBounds_toArray, List.set_cons_zero, List.set_cons_succ, i64_w, i32_w]
                              rfl
                            refine pure_ (i := 5) (N := some 42) (v := ?_) (a' := ?_) #[true, false, true, false, false, true, false, false, false, false, false, false, false, false, false, false] rfl rfl (any_of HT_.out (by kernel_rfl)) (fun _ _ _ h => h) (Or.inl ⟨by rfl, ?_⟩) ?_ ?_
                            rotate_left
                            · intro w'
                              go_simp
                              with_reducible rfl
                            rotate_left
                            · simp only [Act.put, List.setIfInBounds_toArray, List.set_cons_zero, List.set_cons_succ, i64_w, i32_w]
                              rfl
                            refine pure_ (i := 8) (N := some 45) (v := ?_) (a' := ?_) #[true, false, true, false, false, true, false, false, true, false, false, false, false, false, false, false] rfl rfl (any_of HT_.out (by kernel_rfl)) (fun _ _ _ h => h) (Or.inl ⟨by rfl, ?_⟩) ?_ ?_
                            rotate_left
                            · intro w'
                              go_simp
                              with_reducible rfl
                            rotate_left
                            · simp only [Act.put, List.setIfInBounds_toArray, List.set_cons_zero, List.set_cons_succ, i64_w, i32_w]
                              rfl
                            refine pure_ (i := 10) (N := some 47) (v := ?_) (a' := ?_) #[true, false, true, false, false, true, false, false, true, false, true, false, false, false, false, false] rfl rfl (any_of HT_.out (by kernel_rfl)) (fun _ _ _ h => h) (Or.inl ⟨by rfl, ?_⟩) ?_ ?_
                            rotate_left
                            · intro w'
                              go_simp
                              with_reducible rfl
                            rotate_left
                            · simp only [Act.put, List.setIfInBounds_toArray, List.set_cons_zero, List.set_cons_succ, i64_w, i32_w]
                              rfl
                            refine take_ (i := 1) (N := some 38) (v := ?_) (a' := ?_) #[true, true, true, false, false, true, false, false, true, false, true, false, false, false, false, false] rfl rfl (take_ofW HT_.out HW_.out (by kernel_rfl)) (fun _ _ _ h => h) (Or.inl ⟨by rfl, ?_⟩) hHeld ?_ ?_
                            rotate_left
                            · rintro w' ⟨s0, s1, s2, s3, s4, s5, s6, s7, s8, s9, s10, s11, s12, s13, s14, s15, s16, s17, s18, s19⟩
                              go_simp
                              with_reducible rfl
                            rotate_left
                            · simp only [Act.put, List.setIfInBounds_toArray, List.set_cons_zero, List.set_cons_succ, i64_w, i32_w]
                              rfl
                            refine pure_ (i := 3) (N := some 40) (v := ?_) (a' := ?_) #[true, true, true, true, false, true, false, false, true, false, true, false, false, false, false, false] rfl rfl (any_of HT_.out (by kernel_rfl)) (fun _ _ _ h => h) (Or.inl ⟨by rfl, ?_⟩) ?_ ?_
                            rotate_left
                            · intro w'
                              go_simp
                              with_reducible rfl
                            rotate_left
                            · simp only [Act.put, List.setIfInBounds_toArray, List.set_cons_zero, List.set_cons_succ, i64_w, i32_w]
                              rfl
                            refine take_ (i := 4) (N := some 41) (v := ?_) (a' := ?_) #[true, true, true, true, true, true, false, false, true, false, true, false, false, false, false, false] rfl rfl (take_ofW HT_.out HW_.out (by kernel_rfl)) (fun _ _ _ h => h) (Or.inl ⟨by rfl, ?_⟩) hHeld ?_ ?_
                            rotate_left
                            · rintro w' ⟨s0, s1, s2, s3, s4, s5, s6, s7, s8, s9, s10, s11, s12, s13, s14, s15, s16, s17, s18, s19⟩
                              go_simp
                              with_reducible rfl
                            rotate_left
                            · simp only [Act.put, List.setIfInBounds_toArray, List.set_cons_zero, List.set_cons_succ, i64_w, i32_w]
                              rfl
                            refine take_ (i := 6) (N := some 43) (v := ?_) (a' := ?_) #[true, true, true, true, true, true, true, false, true, false, true, false, false, false, false, false] rfl rfl (take_ofW HT_.out HW_.out (by kernel_rfl)) (fun _ _ _ h => h) (Or.inl ⟨by rfl, ?_⟩) hHeld ?_ ?_
                            rotate_left
                            · rintro w' ⟨s0, s1, s2, s3, s4, s5, s6, s7, s8, s9, s10, s11, s12, s13, s14, s15, s16, s17, s18, s19⟩
                              go_simp
                              with_reducible rfl
                            rotate_left
                            · simp only [Act.put, List.setIfInBounds_toArray, List.set_cons_zero, List.set_cons_succ, i64_w, i32_w]
                              rfl
                            refine take_ (i := 9) (N := some 46) (v := ?_) (a' := ?_) #[true, true, true, true, true, true, true, false, true, true, true, false, false, false, false, false] rfl rfl (take_ofW HT_.out HW_.out (by kernel_rfl)) (fun _ _ _ h => h) (Or.inl ⟨by rfl, ?_⟩) hHeld ?_ ?_
                            rotate_left
                            · rintro w' ⟨s0, s1, s2, s3, s4, s5, s6, s7, s8, s9, s10, s11, s12, s13, s14, s15, s16, s17, s18, s19⟩
                              go_simp
                              with_reducible rfl
                            rotate_left
                            · simp only [Act.put, List.setIfInBounds_toArray, List.set_cons_zero, List.set_cons_succ, i64_w, i32_w]
                              rfl
                            refine pure_ (i := 11) (N := some 48) (v := ?_) (a' := ?_) #[true, true, true, true, true, true, true, false, true, true, true, true, false, false, false, false] rfl rfl (any_of HT_.out (by kernel_rfl)) (fun _ _ _ h => h) (Or.inl ⟨by rfl, ?_⟩) ?_ ?_
                            rotate_left
                            · intro w'
                              go_simp
                              with_reducible rfl
                            rotate_left
                            · simp only [Act.put, List.setIfInBounds_toArray, List.set_cons_zero, List.set_cons_succ, i64_w, i32_w]
                              rfl
                            refine pure_ (i := 12) (N := some 49) (v := ?_) (a' := ?_) #[true, true, true, true, true, true, true, false, true, true, true, true, true, false, false, false] rfl rfl (any_of HT_.out (by kernel_rfl)) (fun _ _ _ h => h) (Or.inl ⟨by rfl, ?_⟩) ?_ ?_
                            rotate_left
                            · intro w'
                              go_simp
                              with_reducible rfl
                            rotate_left
                            · simp only [Act.put, List.setIfInBounds_toArray, List.set_cons_zero, List.set_cons_succ, i64_w, i32_w]
                              rfl
                            refine take_ (i := 13) (N := some 50) (v := ?_) (a' := ?_) #[true, true, true, true, true, true, true, false, true, true, true, true, true, true, false, false] rfl rfl (take_ofW HT_.out HW_.out (by kernel_rfl)) (fun _ _ _ h => h) (Or.inl ⟨by rfl, ?_⟩) hHeld ?_ ?_
                            rotate_left
                            · rintro w' ⟨s0, s1, s2, s3, s4, s5, s6, s7, s8, s9, s10, s11, s12, s13, s14, s15, s16, s17, s18, s19⟩
                              go_simp
                              with_reducible rfl
                            rotate_left
                            · simp only [Act.put, List.setIfInBounds_toArray, List.set_cons_zero, List.set_cons_succ, i64_w, i32_w]
                              rfl
                            refine one_ (i := 7) (N := some 44) #[true, true, true, true, true, true, true, true, true, true, true, true, true, true, false, false] rfl rfl (one_of HT_.out (by kernel_rfl)) (by decide) (fun K hK => ?_)
                            refine goes_ Try.func18 (by kernel_rfl) rfl #[.int .i64 (rd l0_10 x4_2), .int .i64 a0_13] (by rfl) rfl rfl (by (try simp only [List.map_toArray, List.map_cons, List.map_nil]); first | done | rfl | (simp only [List.length_drop, List.length_take]; rfl)) ?_
                            with_reducible refine (dormouseref01_Max.calls (rd l0_10 x4_2) a0_13 t431 _ A16.out).mono ?_
                            rintro e w' ⟨rfl, ⟨nd, rfl⟩⟩
                            refine ⟨_, rfl, ?_⟩
                            refine hK.out _ _ ⟨(blk_cell BK425.out 0).trans rfl, (blk_cell BK425.out 1).trans rfl, (blk_cell BK425.out 2).trans rfl, (blk_cell BK425.out 3).trans rfl, (blk_cell BK425.out 4).trans rfl, (blk_cell BK425.out 5).trans rfl, (blk_cell BK425.out 6).trans rfl, (blk_cell BK425.out 7).trans rfl, (blk_cell BK425.out 8).trans rfl, (blk_cell BK425.out 9).trans rfl, (blk_cell BK425.out 10).trans rfl, (blk_cell BK425.out 11).trans rfl, (blk_cell BK425.out 12).trans rfl, (blk_cell BK425.out 13).trans rfl, (blk_cell BK425.out 14).trans rfl, ((HB.out.cell (World.block_lt_of_cell? w _ hw430_0)).trans hw430_0), ((HB.out.cell (World.block_lt_of_cell? w _ hw432_0)).trans hw432_0), ((HB.out.cell (World.block_lt_of_cell? w _ hw432_1)).trans hw432_1), ((HB.out.cell (World.block_lt_of_cell? w _ hw432_2)).trans hw432_2), ((HB.out.cell (World.block_lt_of_cell? w _ hw432_3)).trans hw432_3)⟩ (fun hHeld => ?_)
                            clear hK K
                            refine norm_ (a' := ?_) ?_ ?_
                            rotate_left
                            · show Act.put _ (some 44) _ = _
                              simp only [Act.put, List.setIfInBounds_toArray, List.set_cons_zero, List.set_cons_succ, i64_w, i32_w]
                              rfl
                            refine pure_ (i := 14) (N := some 51) (v := ?_) (a' := ?_) #[true, true, true, true, true, true, true, true, true, true, true, true, true, true, true, false] rfl rfl (any_of HT_.out (by kernel_rfl)) (fun _ _ _ h => h) (Or.inl ⟨by rfl, ?_⟩) ?_ ?_
                            rotate_left
                            · intro w'
                              go_simp
                              with_reducible rfl
                            rotate_left
                            · simp only [Act.put, List.setIfInBounds_toArray, List.set_cons_zero, List.set_cons_succ, i64_w, i32_w]
                              rfl
                            refine pure_ (i := 15) (N := some 5) (v := ?_) (a' := ?_) #[true, true, true, true, true, true, true, true, true, true, true, true, true, true, true, true] rfl rfl (any_of HT_.out (by kernel_rfl)) (fun _ _ _ h => h) (Or.inl ⟨by rfl, ?_⟩) ?_ ?_
                            rotate_left
                            · intro w'
                              go_simp
                              with_reducible rfl
                            rotate_left
                            · simp only [Act.put, List.setIfInBounds_toArray, List.set_cons_zero, List.set_cons_succ, i64_w, i32_w]
                              rfl
                            refine done_ (done_of HT_.out (by kernel_rfl)) ?_
                            have hcz28_0 : w27.cell? ⟨gb425, 0, none⟩ = some (.slice A0_0 l0_0.length c0_0) := (blk_cell BK425.out 0).trans rfl
                            have hcz28_1 : w27.cell? ⟨gb425, 1, none⟩ = some (.slice A0_1 l0_1.length c0_1) := (blk_cell BK425.out 1).trans rfl
                            have hcz28_2 : w27.cell? ⟨gb425, 2, none⟩ = some (.slice A0_2 l0_2.length c0_2) := (blk_cell BK425.out 2).trans rfl
                            have hcz28_3 : w27.cell? ⟨gb425, 3, none⟩ = some (.int .i64 a0_3) := (blk_cell BK425.out 3).trans rfl
                            have hcz28_4 : w27.cell? ⟨gb425, 4, none⟩ = some (.int .i64 a0_4) := (blk_cell BK425.out 4).trans rfl
                            have hcz28_5 : w27.cell? ⟨gb425, 5, none⟩ = some (.int .i64 a0_5) := (blk_cell BK425.out 5).trans rfl
                            have hcz28_6 : w27.cell? ⟨gb425, 6, none⟩ = some (.int .i64 a0_6) := (blk_cell BK425.out 6).trans rfl
                            have hcz28_7 : w27.cell? ⟨gb425, 7, none⟩ = some (.int .i64 a0_7) := (blk_cell BK425.out 7).trans rfl
                            have hcz28_8 : w27.cell? ⟨gb425, 8, none⟩ = some (.int .i64 a0_8) := (blk_cell BK425.out 8).trans rfl
                            have hcz28_9 : w27.cell? ⟨gb425, 9, none⟩ = some (.slice (some ad432) l0_9.length c0_9) := (blk_cell BK425.out 9).trans rfl
                            have hcz28_10 : w27.cell? ⟨gb425, 10, none⟩ = some (.slice (some ad430) l0_10.length c0_10) := (blk_cell BK425.out 10).trans rfl
                            have hcz28_11 : w27.cell? ⟨gb425, 11, none⟩ = some (.slice none 0 0) := (blk_cell BK425.out 11).trans rfl
                            have hcz28_12 : w27.cell? ⟨gb425, 12, none⟩ = some (.slice none 0 0) := (blk_cell BK425.out 12).trans rfl
                            have hcz28_13 : w27.cell? ⟨gb425, 13, none⟩ = some (.int .i64 a0_13) := (blk_cell BK425.out 13).trans rfl
                            have hcz28_14 : w27.cell? ⟨gb425, 14, none⟩ = some (.int .i64 a0_14) := (blk_cell BK425.out 14).trans rfl
                            have hfz28_0 := blk_frozen BK425.out 0
                            have hfz28_1 := blk_frozen BK425.out 1
                            have hfz28_2 := blk_frozen BK425.out 2
                            have hfz28_3 := blk_frozen BK425.out 3
                            have hfz28_4 := blk_frozen BK425.out 4
                            have hfz28_5 := blk_frozen BK425.out 5
                            have hfz28_6 := blk_frozen BK425.out 6
                            have hfz28_7 := blk_frozen BK425.out 7
                            have hfz28_8 := blk_frozen BK425.out 8
                            have hfz28_9 := blk_frozen BK425.out 9
                            have hfz28_10 := blk_frozen BK425.out 10
                            have hfz28_11 := blk_frozen BK425.out 11
                            have hfz28_12 := blk_frozen BK425.out 12
                            have hfz28_13 := blk_frozen BK425.out 13
                            have hfz28_14 := blk_frozen BK425.out 14
                            have p433 : 0 ≤ (x4_2 : Int) := of_decide_eq_true (by first | (with_reducible assumption) | assumption)
                            have q433 : x4_2 < (l0_9.length : Int) := of_decide_eq_true (by first | (with_reducible assumption) | assumption)
                            obtain ⟨ad433, A433_2, c433_2, A433_3, c433_3, e433, hx433_0, hx433_1, hx433_2, hx433_3, hl433_2, hi433_2, hl433_3, hi433_3⟩ := at_T36 HR0_9.out x4_2 p433 q433
                            obtain rfl : ad432 = ad433 := (by injection e433)
                            replace hx433_0 := (HB.out.cell (World.block_lt_of_cell? w _ hx433_0)).trans hx433_0
                            replace hx433_1 := (HB.out.cell (World.block_lt_of_cell? w _ hx433_1)).trans hx433_1
                            replace hx433_2 := (HB.out.cell (World.block_lt_of_cell? w _ hx433_2)).trans hx433_2
                            replace hx433_3 := (HB.out.cell (World.block_lt_of_cell? w _ hx433_3)).trans hx433_3
                            have HR433_2 := Aside0.mk hi433_2
                            have HC433_2 := Aside0.mk hl433_2
                            clear hi433_2 hl433_2
                            have HR433_3 := Aside0.mk hi433_3
                            have HC433_3 := Aside0.mk hl433_3
                            clear hi433_3 hl433_3
                            replace p433 := eq_true p433
                            replace q433 := eq_true q433
                            have ea_ := Option.some.inj (hx432_2.symm.trans hx433_2)
                            injection ea_ with ea_ en_ ec_
                            subst ea_
                            subst ec_
                            clear en_
                            have ea_ := Option.some.inj (hx432_3.symm.trans hx433_3)
                            injection ea_ with ea_ en_ ec_
                            subst ea_
                            subst ec_
                            clear en_
                            try go_wp2_with (first | (go_at_call 19; (refine (slack_At.calls _ _ l0_0 _ _ l0_1 _ _ l0_2 a0_3 a0_4 a0_5 a0_6 a0_7 a0_8 _ _ l0_9 _ _ l0_10 _ _ ([] : List (S38)) _ _ ([] : List (S73)) a0_13 (wrap64 (t431 + ((rd_T36 l0_9 x4_2).f0))) t434 _ ?side1 ?side2 ?side3 ?side4 ?side5 ?side6 ?side7 ?side8 ?side9 ?side10 ?side11 ?side12 ?side13 ?side14 A20.out).mono ?_); (case side1 => repeat (first | exact (Kd.C_below HR0_0.out (by repeat (first | (with_reducible first | exact HB.out | apply below_alloc | apply pw_below_drewN | apply below_drew1 | refine below_set ?_ GE425.out) | exact HB.out))) | (with_reducible refine Kd.C_alloc ?_ _) | (with_reducible refine Kd.C_drewN ?_ _) | (with_reducible refine Kd.C_drew ?_))); (case side2 => exact HC0_0.out); (case side3 => repeat (first | exact (Kd.C_below HR0_1.out (by repeat (first | (with_reducible first | exact HB.out | apply below_alloc | apply pw_below_drewN | apply below_drew1 | refine below_set ?_ GE425.out) | exact HB.out))) | (with_reducible refine Kd.C_alloc ?_ _) | (with_reducible refine Kd.C_drewN ?_ _) | (with_reducible refine Kd.C_drew ?_))); (case side4 => exact HC0_1.out); (case side5 => repeat (first | exact (Kd.C_below HR0_2.out (by repeat (first | (with_reducible first | exact HB.out | apply below_alloc | apply pw_below_drewN | apply below_drew1 | refine below_set ?_ GE425.out) | exact HB.out))) | (with_reducible refine Kd.C_alloc ?_ _) | (with_reducible refine Kd.C_drewN ?_ _) | (with_reducible refine Kd.C_drew ?_))); (case side6 => exact HC0_2.out); (case side7 => repeat (first | exact (Kd.C_below HR0_9.out (by repeat (first | (with_reducible first | exact HB.out | apply below_alloc | apply pw_below_drewN | apply below_drew1 | refine below_set ?_ GE425.out) | exact HB.out))) | (with_reducible refine Kd.C_alloc ?_ _) | (with_reducible refine Kd.C_drewN ?_ _) | (with_reducible refine Kd.C_drew ?_))); (case side8 => exact HC0_9.out); (case side9 => repeat (first | exact (Kd.C_below HR0_10.out (by repeat (first | (with_reducible first | exact HB.out | apply below_alloc | apply pw_below_drewN | apply below_drew1 | refine below_set ?_ GE425.out) | exact HB.out))) | (with_reducible refine Kd.C_alloc ?_ _) | (with_reducible refine Kd.C_drewN ?_ _) | (with_reducible refine Kd.C_drew ?_))); (case side10 => exact HC0_10.out); (case side11 => exact Kd.C_nil _ _); (case side12 => exact Nat.le_refl _); (case side13 => exact Kd.C_nil _ _); (case side14 => exact Nat.le_refl _); rintro e w29 ⟨rfl, hb⟩; have n0_ := Aside0.mk (blk_below (g := gb425) (o := .cells #[.slice A0_0 l0_0.length c0_0, .slice A0_1 l0_1.length c0_1, .slice A0_2 l0_2.length c0_2, .int .i64 a0_3, .int .i64 a0_4, .int .i64 a0_5, .int .i64 a0_6, .int .i64 a0_7, .int .i64 a0_8, .slice (some ad432) l0_9.length c0_9, .slice (some ad430) l0_10.length c0_10, .slice none 0 0, .slice none 0 0, .int .i64 a0_13, .int .i64 a0_14] 32 (0, 0)) (by (with_reducible repeat (first | refine blk_drewN ?_ _ | refine blk_drew ?_ | refine blk_alloc ?_ _)); exact BK425.out) hb); have n1_ := Aside0.mk (below_step (by repeat (first | (with_reducible first | exact HB.out | apply below_alloc | apply pw_below_drewN | apply below_drew1 | refine below_set ?_ GE425.out) | exact HB.out)) hb); clear BK425; clear HB; have BK425 := n0_; have HB := n1_; clear n0_ n1_; (try clear hb); (try clear hb2); (try clear hk); (try clear hi)))
                            go_roundg k2
                            case measure => have := HJ4.out; have := HK2.out; omega
                            case rel => exact ⟨(wrap64 (x4_2 + 1)), (by first | rfl | (simp; done) | (simp [*]; done)), H', ⟨by have := HJ4.out; have := HK2.out; omega⟩, ⟨by (with_reducible repeat (first | refine blk_drewN ?_ _ | refine blk_drew ?_ | refine blk_alloc ?_ _)); exact BK425.out⟩, ⟨by repeat (first | (with_reducible first | exact HB.out | apply below_alloc | apply pw_below_drewN | apply below_drew1 | refine below_set ?_ GE425.out) | exact HB.out)⟩⟩
                        · rw [if_neg c19] at H
                          have c19b0 : decide ((wrap64 (t431 + ((rd_T36 l0_9 x4_2).f0))) ≤ 2097152) = false := decide_eq_false c19
                          clear c19
                          have H' := Aside0.mk H
                          clear H
                          have hcz30_0 : wr.cell? ⟨gb425, 0, none⟩ = some (.slice A0_0 l0_0.length c0_0) := (blk_cell BK425.out 0).trans rfl
                          have hcz30_1 : wr.cell? ⟨gb425, 1, none⟩ = some (.slice A0_1 l0_1.length c0_1) := (blk_cell BK425.out 1).trans rfl
                          have hcz30_2 : wr.cell? ⟨gb425, 2, none⟩ = some (.slice A0_2 l0_2.length c0_2) := (blk_cell BK425.out 2).trans rfl
                          have hcz30_3 : wr.cell? ⟨gb425, 3, none⟩ = some (.int .i64 a0_3) := (blk_cell BK425.out 3).trans rfl
                          have hcz30_4 : wr.cell? ⟨gb425, 4, none⟩ = some (.int .i64 a0_4) := (blk_cell BK425.out 4).trans rfl
                          have hcz30_5 : wr.cell? ⟨gb425, 5, none⟩ = some (.int .i64 a0_5) := (blk_cell BK425.out 5).trans rfl
                          have hcz30_6 : wr.cell? ⟨gb425, 6, none⟩ = some (.int .i64 a0_6) := (blk_cell BK425.out 6).trans rfl
                          have hcz30_7 : wr.cell? ⟨gb425, 7, none⟩ = some (.int .i64 a0_7) := (blk_cell BK425.out 7).trans rfl
                          have hcz30_8 : wr.cell? ⟨gb425, 8, none⟩ = some (.int .i64 a0_8) := (blk_cell BK425.out 8).trans rfl
                          have hcz30_9 : wr.cell? ⟨gb425, 9, none⟩ = some (.slice A0_9 l0_9.length c0_9) := (blk_cell BK425.out 9).trans rfl
                          have hcz30_10 : wr.cell? ⟨gb425, 10, none⟩ = some (.slice A0_10 l0_10.length c0_10) := (blk_cell BK425.out 10).trans rfl
                          have hcz30_11 : wr.cell? ⟨gb425, 11, none⟩ = some (.slice none 0 0) := (blk_cell BK425.out 11).trans rfl
                          have hcz30_12 : wr.cell? ⟨gb425, 12, none⟩ = some (.slice none 0 0) := (blk_cell BK425.out 12).trans rfl
                          have hcz30_13 : wr.cell? ⟨gb425, 13, none⟩ = some (.int .i64 a0_13) := (blk_cell BK425.out 13).trans rfl
                          have hcz30_14 : wr.cell? ⟨gb425, 14, none⟩ = some (.int .i64 a0_14) := (blk_cell BK425.out 14).trans rfl
                          have hfz30_0 := blk_frozen BK425.out 0
                          have hfz30_1 := blk_frozen BK425.out 1
                          have hfz30_2 := blk_frozen BK425.out 2
                          have hfz30_3 := blk_frozen BK425.out 3
                          have hfz30_4 := blk_frozen BK425.out 4
                          have hfz30_5 := blk_frozen BK425.out 5
                          have hfz30_6 := blk_frozen BK425.out 6
                          have hfz30_7 := blk_frozen BK425.out 7
                          have hfz30_8 := blk_frozen BK425.out 8
                          have hfz30_9 := blk_frozen BK425.out 9
                          have hfz30_10 := blk_frozen BK425.out 10
                          have hfz30_11 := blk_frozen BK425.out 11
                          have hfz30_12 := blk_frozen BK425.out 12
                          have hfz30_13 := blk_frozen BK425.out 13
                          have hfz30_14 := blk_frozen BK425.out 14
                          try go_wp2
                          have n0_ := Aside0.mk (blk_drew BK425.out)
                          have n1_ := Aside0.mk (below_drew1 HB.out)
                          clear BK425
                          clear HB
                          have BK425 := n0_
                          have HB := n1_
                          clear n0_ n1_
                          have p430 : 0 ≤ (x4_2 : Int) := of_decide_eq_true (by first | (with_reducible assumption) | assumption)
                          have q430 : x4_2 < (l0_10.length : Int) := of_decide_eq_true (by first | (with_reducible assumption) | assumption)
                          obtain ⟨ad430, e430, hx430_0⟩ := Kd.at_int HR0_10.out x4_2 p430 q430
                          have hw430_0 := hx430_0
                          cases e430
                          replace hx430_0 := (HB.out.cell (World.block_lt_of_cell? w _ hx430_0)).trans hx430_0
                          replace p430 := eq_true p430
                          replace q430 := eq_true q430
                          have p432 : 0 ≤ (x4_2 : Int) := of_decide_eq_true (by first | (with_reducible assumption) | assumption)
                          have q432 : x4_2 < (l0_9.length : Int) := of_decide_eq_true (by first | (with_reducible assumption) | assumption)
                          obtain ⟨ad432, A432_2, c432_2, A432_3, c432_3, e432, hx432_0, hx432_1, hx432_2, hx432_3, hl432_2, hi432_2, hl432_3, hi432_3⟩ := at_T36 HR0_9.out x4_2 p432 q432
                          have hw432_3 := hx432_3
                          have hw432_2 := hx432_2
                          have hw432_1 := hx432_1
                          have hw432_0 := hx432_0
                          cases e432
                          replace hx432_0 := (HB.out.cell (World.block_lt_of_cell? w _ hx432_0)).trans hx432_0
                          replace hx432_1 := (HB.out.cell (World.block_lt_of_cell? w _ hx432_1)).trans hx432_1
                          replace hx432_2 := (HB.out.cell (World.block_lt_of_cell? w _ hx432_2)).trans hx432_2
                          replace hx432_3 := (HB.out.cell (World.block_lt_of_cell? w _ hx432_3)).trans hx432_3
                          have HR432_2 := Aside0.mk hi432_2
                          have HC432_2 := Aside0.mk hl432_2
                          clear hi432_2 hl432_2
                          have HR432_3 := Aside0.mk hi432_3
                          have HC432_3 := Aside0.mk hl432_3
                          clear hi432_3 hl432_3
                          replace p432 := eq_true p432
                          replace q432 := eq_true q432
                          refine start_ (n := 16) (S := fun w' => w'.cell? ⟨gb425, 0, none⟩ = some (.slice A0_0 l0_0.length c0_0) ∧ w'.cell? ⟨gb425, 1, none⟩ = some (.slice A0_1 l0_1.length c0_1) ∧ w'.cell? ⟨gb425, 2, none⟩ = some (.slice A0_2 l0_2.length c0_2) ∧ w'.cell? ⟨gb425, 3, none⟩ = some (.int .i64 a0_3) ∧ w'.cell? ⟨gb425, 4, none⟩ = some (.int .i64 a0_4) ∧ w'.cell? ⟨gb425, 5, none⟩ = some (.int .i64 a0_5) ∧ w'.cell? ⟨gb425, 6, none⟩ = some (.int .i64 a0_6) ∧ w'.cell? ⟨gb425, 7, none⟩ = some (.int .i64 a0_7) ∧ w'.cell? ⟨gb425, 8, none⟩ = some (.int .i64 a0_8) ∧ w'.cell? ⟨gb425, 9, none⟩ = some (.slice (some ad432) l0_9.length c0_9) ∧ w'.cell? ⟨gb425, 10, none⟩ = some (.slice (some ad430) l0_10.length c0_10) ∧ w'.cell? ⟨gb425, 11, none⟩ = some (.slice none 0 0) ∧ w'.cell? ⟨gb425, 12, none⟩ = some (.slice none 0 0) ∧ w'.cell? ⟨gb425, 13, none⟩ = some (.int .i64 a0_13) ∧ w'.cell? ⟨gb425, 14, none⟩ = some (.int .i64 a0_14) ∧ w'.cell? (ad430.add (x4_2).toNat) = some (.int .i64 (rd l0_10 x4_2)) ∧ w'.cell? (ad432.add ((x4_2).toNat * 4)) = some (.int .i64 ((rd_T36 l0_9 x4_2).f0)) ∧ w'.cell? ⟨(ad432.add ((x4_2).toNat * 4)).block, (ad432.add ((x4_2).toNat * 4)).off + 1, none⟩ = some (.int .i64 ((rd_T36 l0_9 x4_2).f1)) ∧ w'.cell? ⟨(ad432.add ((x4_2).toNat * 4)).block, (ad432.add ((x4_2).toNat * 4)).off + 2, none⟩ = some (.slice A432_2 ((rd_T36 l0_9 x4_2).f2).length c432_2) ∧ w'.cell? ⟨(ad432.add ((x4_2).toNat * 4)).block, (ad432.add ((x4_2).toNat * 4)).off + 3, none⟩ = some (.slice A432_3 ((rd_T36 l0_9 x4_2).f3).length c432_3)) (ds := []) #[false, false, false, false, false, false, false, false, false, false, false, false, false, false, false, false] (by kernel_rfl) rfl rfl ⟨(blk_cell BK425.out 0).trans rfl, (blk_cell BK425.out 1).trans rfl, (blk_cell BK425.out 2).trans rfl, (blk_cell BK425.out 3).trans rfl, (blk_cell BK425.out 4).trans rfl, (blk_cell BK425.out 5).trans rfl, (blk_cell BK425.out 6).trans rfl, (blk_cell BK425.out 7).trans rfl, (blk_cell BK425.out 8).trans rfl, (blk_cell BK425.out 9).trans rfl, (blk_cell BK425.out 10).trans rfl, (blk_cell BK425.out 11).trans rfl, (blk_cell BK425.out 12).trans rfl, (blk_cell BK425.out 13).trans rfl, (blk_cell BK425.out 14).trans rfl, ((HB.out.cell (World.block_lt_of_cell? w _ hw430_0)).trans hw430_0), ((HB.out.cell (World.block_lt_of_cell? w _ hw432_0)).trans hw432_0), ((HB.out.cell (World.block_lt_of_cell? w _ hw432_1)).trans hw432_1), ((HB.out.cell (World.block_lt_of_cell? w _ hw432_2)).trans hw432_2), ((HB.out.cell (World.block_lt_of_cell? w _ hw432_3)).trans hw432_3)⟩ (fun hHeld => ?_); refine with_tabW dormouselaw17_RestTime.tab10 dormouselaw17_RestTime.bits10 (fun HT_ HW_ => ?_)
                          generalize wr.drew = w31 at BK425 HB HR432_2 HR432_3 hx430_0 hx432_0 hx432_1 hx432_2 hx432_3 hHeld ⊢
                          refine pure_ (i := 0) (N := some 37) (v := ?_) (a' := ?_) #[true, false, false, false, false, false, false, false, false, false, false, false, false, false, false, false] rfl rfl (any_of HT_.out (by kernel_rfl)) (fun _ _ _ h => h) (Or.inl ⟨by rfl, ?_⟩) ?_ ?_
                          rotate_left
                          · intro w'
                            go_simp
                            with_reducible rfl
                          rotate_left
                          · simp only [Act.put, List.setIfInBounds_toArray, List.set_cons_zero, List.set_cons_succ, i64_w, i32_w]
                            rfl
                          refine pure_ (i := 2) (N := some 39) (v := ?_) (a' := ?_) #[true, false, true, false, false, false, false, false, false, false, false, false, false, false, false, false] rfl rfl (any_of HT_.out (by kernel_rfl)) (fun _ _ _ h => h) (Or.inl ⟨by rfl, ?_⟩) ?_ ?_
                          rotate_left
                          · intro w'
                            go_simp
                            with_reducible rfl
                          rotate_left
                          · simp only [Act.put, List.setIfInBounds_toArray, List.set_cons_zero, List.set_cons_succ, i64_w, i32_w]
                            rfl
                          refine pure_ (i := 5) (N := some 42) (v := ?_) (a' := ?_) #[true, false, true, false, false, true, false, false, false, false, false, false, false, false, false, false] rfl rfl (any_of HT_.out (by kernel_rfl)) (fun _ _ _ h => h) (Or.inl ⟨by rfl, ?_⟩) ?_ ?_
                          rotate_left
                          · intro w'
                            go_simp
                            with_reducible rfl
                          rotate_left
                          · simp only [Act.put, List.setIfInBounds_toArray, List.set_cons_zero, List.set_cons_succ, i64_w, i32_w]
                            rfl
                          refine pure_ (i := 8) (N := some 45) (v := ?_) (a' := ?_) #[true, false, true, false, false, true, false, false, true, false, false, false, false, false, false, false] rfl rfl (any_of HT_.out (by kernel_rfl)) (fun _ _ _ h => h) (Or.inl ⟨by rfl, ?_⟩) ?_ ?_
                          rotate_left
                          · intro w'
                            go_simp
                            with_reducible rfl
                          rotate_left
                          · simp only [Act.put, List.setIfInBounds_toArray, List.set_cons_zero, List.set_cons_succ, i64_w, i32_w]
                            rfl
                          refine pure_ (i := 10) (N := some 47) (v := ?_) (a' := ?_) #[true, false, true, false, false, true, false, false, true, false, true, false, false, false, false, false] rfl rfl (any_of HT_.out (by kernel_rfl)) (fun _ _ _ h => h) (Or.inl ⟨by rfl, ?_⟩) ?_ ?_
                          rotate_left
                          · intro w'
                            go_simp
                            with_reducible rfl
                          rotate_left
                          · simp only [Act.put, List.setIfInBounds_toArray, List.set_cons_zero, List.set_cons_succ, i64_w, i32_w]
                            rfl
                          refine take_ (i := 1) (N := some 38) (v := ?_) (a' := ?_) #[true, true, true, false, false, true, false, false, true, false, true, false, false, false, false, false] rfl rfl (take_ofW HT_.out HW_.out (by kernel_rfl)) (fun _ _ _ h => h) (Or.inl ⟨by rfl, ?_⟩) hHeld ?_ ?_
                          rotate_left
                          · rintro w' ⟨s0, s1, s2, s3, s4, s5, s6, s7, s8, s9, s10, s11, s12, s13, s14, s15, s16, s17, s18, s19⟩
                            go_simp
                            with_reducible rfl
                          rotate_left
                          · simp only [Act.put, List.setIfInBounds_toArray, List.set_cons_zero, List.set_cons_succ, i64_w, i32_w]
                            rfl
                          refine pure_ (i := 3) (N := some 40) (v := ?_) (a' := ?_) #[true, true, true, true, false, true, false, false, true, false, true, false, false, false, false, false] rfl rfl (any_of HT_.out (by kernel_rfl)) (fun _ _ _ h => h) (Or.inl ⟨by rfl, ?_⟩) ?_ ?_
                          rotate_left
                          · intro w'
                            go_simp
                            with_reducible rfl
                          rotate_left
                          · simp only [Act.put, List.setIfInBounds_toArray, List.set_cons_zero, List.set_cons_succ, i64_w, i32_w]
                            rfl
                          refine take_ (i := 4) (N := some 41) (v := ?_) (a' := ?_) #[true, true, true, true, true, true, false, false, true, false, true, false, false, false, false, false] rfl rfl (take_ofW HT_.out HW_.out (by kernel_rfl)) (fun _ _ _ h => h) (Or.inl ⟨by rfl, ?_⟩) hHeld ?_ ?_
                          rotate_left
                          · rintro w' ⟨s0, s1, s2, s3, s4, s5, s6, s7, s8, s9, s10, s11, s12, s13, s14, s15, s16, s17, s18, s19⟩
                            go_simp
                            with_reducible rfl
                          rotate_left
                          · simp only [Act.put, List.setIfInBounds_toArray, List.set_cons_zero, List.set_cons_succ, i64_w, i32_w]
                            rfl
                          refine take_ (i := 6) (N := some 43) (v := ?_) (a' := ?_) #[true, true, true, true, true, true, true, false, true, false, true, false, false, false, false, false] rfl rfl (take_ofW HT_.out HW_.out (by kernel_rfl)) (fun _ _ _ h => h) (Or.inl ⟨by rfl, ?_⟩) hHeld ?_ ?_
                          rotate_left
                          · rintro w' ⟨s0, s1, s2, s3, s4, s5, s6, s7, s8, s9, s10, s11, s12, s13, s14, s15, s16, s17, s18, s19⟩
                            go_simp
                            with_reducible rfl
                          rotate_left
                          · simp only [Act.put, List.setIfInBounds_toArray, List.set_cons_zero, List.set_cons_succ, i64_w, i32_w]
                            rfl
                          refine take_ (i := 9) (N := some 46) (v := ?_) (a' := ?_) #[true, true, true, true, true, true, true, false, true, true, true, false, false, false, false, false] rfl rfl (take_ofW HT_.out HW_.out (by kernel_rfl)) (fun _ _ _ h => h) (Or.inl ⟨by rfl, ?_⟩) hHeld ?_ ?_
                          rotate_left
                          · rintro w' ⟨s0, s1, s2, s3, s4, s5, s6, s7, s8, s9, s10, s11, s12, s13, s14, s15, s16, s17, s18, s19⟩
                            go_simp
                            with_reducible rfl
                          rotate_left
                          · simp only [Act.put, List.setIfInBounds_toArray, List.set_cons_zero, List.set_cons_succ, i64_w, i32_w]
                            rfl
                          refine pure_ (i := 11) (N := some 48) (v := ?_) (a' := ?_) #[true, true, true, true, true, true, true, false, true, true, true, true, false, false, false, false] rfl rfl (any_of HT_.out (by kernel_rfl)) (fun _ _ _ h => h) (Or.inl ⟨by rfl, ?_⟩) ?_ ?_
                          rotate_left
                          · intro w'
                            go_simp
                            with_reducible rfl
                          rotate_left
                          · simp only [Act.put, List.setIfInBounds_toArray, List.set_cons_zero, List.set_cons_succ, i64_w, i32_w]
                            rfl
                          refine pure_ (i := 12) (N := some 49) (v := ?_) (a' := ?_) #[true, true, true, true, true, true, true, false, true, true, true, true, true, false, false, false] rfl rfl (any_of HT_.out (by kernel_rfl)) (fun _ _ _ h => h) (Or.inl ⟨by rfl, ?_⟩) ?_ ?_
                          rotate_left
                          · intro w'
                            go_simp
                            with_reducible rfl
                          rotate_left
                          · simp only [Act.put, List.setIfInBounds_toArray, List.set_cons_zero, List.set_cons_succ, i64_w, i32_w]
                            rfl
                          refine take_ (i := 13) (N := some 50) (v := ?_) (a' := ?_) #[true, true, true, true, true, true, true, false, true, true, true, true, true, true, false, false] rfl rfl (take_ofW HT_.out HW_.out (by kernel_rfl)) (fun _ _ _ h => h) (Or.inl ⟨by rfl, ?_⟩) hHeld ?_ ?_
                          rotate_left
                          · rintro w' ⟨s0, s1, s2, s3, s4, s5, s6, s7, s8, s9, s10, s11, s12, s13, s14, s15, s16, s17, s18, s19⟩
                            go_simp
                            with_reducible rfl
                          rotate_left
                          · simp only [Act.put, List.setIfInBounds_toArray, List.set_cons_zero, List.set_cons_succ, i64_w, i32_w]
                            rfl
                          refine one_ (i := 7) (N := some 44) #[true, true, true, true, true, true, true, true, true, true, true, true, true, true, false, false] rfl rfl (one_of HT_.out (by kernel_rfl)) (by decide) (fun K hK => ?_)
                          refine goes_ Try.func18 (by kernel_rfl) rfl #[.int .i64 (rd l0_10 x4_2), .int .i64 a0_13] (by rfl) rfl rfl (by (try simp only [List.map_toArray, List.map_cons, List.map_nil]); first | done | rfl | (simp only [List.length_drop, List.length_take]; rfl)) ?_
                          with_reducible refine (dormouseref01_Max.calls (rd l0_10 x4_2) a0_13 t431 _ A16.out).mono ?_
                          rintro e w' ⟨rfl, ⟨nd, rfl⟩⟩
                          refine ⟨_, rfl, ?_⟩
                          refine hK.out _ _ ⟨(blk_cell BK425.out 0).trans rfl, (blk_cell BK425.out 1).trans rfl, (blk_cell BK425.out 2).trans rfl, (blk_cell BK425.out 3).trans rfl, (blk_cell BK425.out 4).trans rfl, (blk_cell BK425.out 5).trans rfl, (blk_cell BK425.out 6).trans rfl, (blk_cell BK425.out 7).trans rfl, (blk_cell BK425.out 8).trans rfl, (blk_cell BK425.out 9).trans rfl, (blk_cell BK425.out 10).trans rfl, (blk_cell BK425.out 11).trans rfl, (blk_cell BK425.out 12).trans rfl, (blk_cell BK425.out 13).trans rfl, (blk_cell BK425.out 14).trans rfl, ((HB.out.cell (World.block_lt_of_cell? w _ hw430_0)).trans hw430_0), ((HB.out.cell (World.block_lt_of_cell? w _ hw432_0)).trans hw432_0), ((HB.out.cell (World.block_lt_of_cell? w _ hw432_1)).trans hw432_1), ((HB.out.cell (World.block_lt_of_cell? w _ hw432_2)).trans hw432_2), ((HB.out.cell (World.block_lt_of_cell? w _ hw432_3)).trans hw432_3)⟩ (fun hHeld => ?_)
                          clear hK K
                          refine norm_ (a' := ?_) ?_ ?_
                          rotate_left
                          · show Act.put _ (some 44) _ = _
                            simp only [Act.put, List.setIfInBounds_toArray, List.set_cons_zero, List.set_cons_succ, i64_w, i32_w]
                            rfl
                          refine pure_ (i := 14) (N := some 51) (v := ?_) (a' := ?_) #[true, true, true, true, true, true, true, true, true, true, true, true, true, true, true, false] rfl rfl (any_of HT_.out (by kernel_rfl)) (fun _ _ _ h => h) (Or.inl ⟨by rfl, ?_⟩) ?_ ?_
                          rotate_left
                          · intro w'
                            go_simp
                            with_reducible rfl
                          rotate_left
                          · simp only [Act.put, List.setIfInBounds_toArray, List.set_cons_zero, List.set_cons_succ, i64_w, i32_w]
                            rfl
                          refine pure_ (i := 15) (N := some 5) (v := ?_) (a' := ?_) #[true, true, true, true, true, true, true, true, true, true, true, true, true, true, true, true] rfl rfl (any_of HT_.out (by kernel_rfl)) (fun _ _ _ h => h) (Or.inl ⟨by rfl, ?_⟩) ?_ ?_
                          rotate_left
                          · intro w'
                            go_simp
                            with_reducible rfl
                          rotate_left
                          · simp only [Act.put, List.setIfInBounds_toArray, List.set_cons_zero, List.set_cons_succ, i64_w, i32_w]
                            rfl
                          refine done_ (done_of HT_.out (by kernel_rfl)) ?_
                          have hcz32_0 : w31.cell? ⟨gb425, 0, none⟩ = some (.slice A0_0 l0_0.length c0_0) := (blk_cell BK425.out 0).trans rfl
                          have hcz32_1 : w31.cell? ⟨gb425, 1, none⟩ = some (.slice A0_1 l0_1.length c0_1) := (blk_cell BK425.out 1).trans rfl
                          have hcz32_2 : w31.cell? ⟨gb425, 2, none⟩ = some (.slice A0_2 l0_2.length c0_2) := (blk_cell BK425.out 2).trans rfl
                          have hcz32_3 : w31.cell? ⟨gb425, 3, none⟩ = some (.int .i64 a0_3) := (blk_cell BK425.out 3).trans rfl
                          have hcz32_4 : w31.cell? ⟨gb425, 4, none⟩ = some (.int .i64 a0_4) := (blk_cell BK425.out 4).trans rfl
                          have hcz32_5 : w31.cell? ⟨gb425, 5, none⟩ = some (.int .i64 a0_5) := (blk_cell BK425.out 5).trans rfl
                          have hcz32_6 : w31.cell? ⟨gb425, 6, none⟩ = some (.int .i64 a0_6) := (blk_cell BK425.out 6).trans rfl
                          have hcz32_7 : w31.cell? ⟨gb425, 7, none⟩ = some (.int .i64 a0_7) := (blk_cell BK425.out 7).trans rfl
                          have hcz32_8 : w31.cell? ⟨gb425, 8, none⟩ = some (.int .i64 a0_8) := (blk_cell BK425.out 8).trans rfl
                          have hcz32_9 : w31.cell? ⟨gb425, 9, none⟩ = some (.slice (some ad432) l0_9.length c0_9) := (blk_cell BK425.out 9).trans rfl
                          have hcz32_10 : w31.cell? ⟨gb425, 10, none⟩ = some (.slice (some ad430) l0_10.length c0_10) := (blk_cell BK425.out 10).trans rfl
                          have hcz32_11 : w31.cell? ⟨gb425, 11, none⟩ = some (.slice none 0 0) := (blk_cell BK425.out 11).trans rfl
                          have hcz32_12 : w31.cell? ⟨gb425, 12, none⟩ = some (.slice none 0 0) := (blk_cell BK425.out 12).trans rfl
                          have hcz32_13 : w31.cell? ⟨gb425, 13, none⟩ = some (.int .i64 a0_13) := (blk_cell BK425.out 13).trans rfl
                          have hcz32_14 : w31.cell? ⟨gb425, 14, none⟩ = some (.int .i64 a0_14) := (blk_cell BK425.out 14).trans rfl
                          have hfz32_0 := blk_frozen BK425.out 0
                          have hfz32_1 := blk_frozen BK425.out 1
                          have hfz32_2 := blk_frozen BK425.out 2
                          have hfz32_3 := blk_frozen BK425.out 3
                          have hfz32_4 := blk_frozen BK425.out 4
                          have hfz32_5 := blk_frozen BK425.out 5
                          have hfz32_6 := blk_frozen BK425.out 6
                          have hfz32_7 := blk_frozen BK425.out 7
                          have hfz32_8 := blk_frozen BK425.out 8
                          have hfz32_9 := blk_frozen BK425.out 9
                          have hfz32_10 := blk_frozen BK425.out 10
                          have hfz32_11 := blk_frozen BK425.out 11
                          have hfz32_12 := blk_frozen BK425.out 12
                          have hfz32_13 := blk_frozen BK425.out 13
                          have hfz32_14 := blk_frozen BK425.out 14
                          have p433 : 0 ≤ (x4_2 : Int) := of_decide_eq_true (by first | (with_reducible assumption) | assumption)
                          have q433 : x4_2 < (l0_9.length : Int) := of_decide_eq_true (by first | (with_reducible assumption) | assumption)
                          obtain ⟨ad433, A433_2, c433_2, A433_3, c433_3, e433, hx433_0, hx433_1, hx433_2, hx433_3, hl433_2, hi433_2, hl433_3, hi433_3⟩ := at_T36 HR0_9.out x4_2 p433 q433
                          obtain rfl : ad432 = ad433 := (by injection e433)
                          replace hx433_0 := (HB.out.cell (World.block_lt_of_cell? w _ hx433_0)).trans hx433_0
                          replace hx433_1 := (HB.out.cell (World.block_lt_of_cell? w _ hx433_1)).trans hx433_1
                          replace hx433_2 := (HB.out.cell (World.block_lt_of_cell? w _ hx433_2)).trans hx433_2
                          replace hx433_3 := (HB.out.cell (World.block_lt_of_cell? w _ hx433_3)).trans hx433_3
                          have HR433_2 := Aside0.mk hi433_2
                          have HC433_2 := Aside0.mk hl433_2
                          clear hi433_2 hl433_2
                          have HR433_3 := Aside0.mk hi433_3
                          have HC433_3 := Aside0.mk hl433_3
                          clear hi433_3 hl433_3
                          replace p433 := eq_true p433
                          replace q433 := eq_true q433
                          have ea_ := Option.some.inj (hx432_2.symm.trans hx433_2)
                          injection ea_ with ea_ en_ ec_
                          subst ea_
                          subst ec_
                          clear en_
                          have ea_ := Option.some.inj (hx432_3.symm.trans hx433_3)
                          injection ea_ with ea_ en_ ec_
                          subst ea_
                          subst ec_
                          clear en_
                          try go_wp2
                          go_roundg k2
                          case measure => have := HJ4.out; have := HK2.out; omega
                          case rel => exact ⟨(wrap64 (x4_2 + 1)), (by first | rfl | (simp; done) | (simp [*]; done)), H', ⟨by have := HJ4.out; have := HK2.out; omega⟩, ⟨by (with_reducible repeat (first | refine blk_drewN ?_ _ | refine blk_drew ?_ | refine blk_alloc ?_ _)); exact BK425.out⟩, ⟨by repeat (first | (with_reducible first | exact HB.out | apply below_alloc | apply pw_below_drewN | apply below_drew1 | refine below_set ?_ GE425.out) | exact HB.out)⟩⟩
                      · rw [if_neg c18] at H
                        have c18b0 : decide (0 < (wrap64 (t428 - a0_13))) = false := decide_eq_false c18
                        clear c18
                        have H' := Aside0.mk H
                        clear H
                        have hcz33_0 : wr.cell? ⟨gb425, 0, none⟩ = some (.slice A0_0 l0_0.length c0_0) := (blk_cell BK425.out 0).trans rfl
                        have hcz33_1 : wr.cell? ⟨gb425, 1, none⟩ = some (.slice A0_1 l0_1.length c0_1) := (blk_cell BK425.out 1).trans rfl
                        have hcz33_2 : wr.cell? ⟨gb425, 2, none⟩ = some (.slice A0_2 l0_2.length c0_2) := (blk_cell BK425.out 2).trans rfl
                        have hcz33_3 : wr.cell? ⟨gb425, 3, none⟩ = some (.int .i64 a0_3) := (blk_cell BK425.out 3).trans rfl
                        have hcz33_4 : wr.cell? ⟨gb425, 4, none⟩ = some (.int .i64 a0_4) := (blk_cell BK425.out 4).trans rfl
                        have hcz33_5 : wr.cell? ⟨gb425, 5, none⟩ = some (.int .i64 a0_5) := (blk_cell BK425.out 5).trans rfl
                        have hcz33_6 : wr.cell? ⟨gb425, 6, none⟩ = some (.int .i64 a0_6) := (blk_cell BK425.out 6).trans rfl
                        have hcz33_7 : wr.cell? ⟨gb425, 7, none⟩ = some (.int .i64 a0_7) := (blk_cell BK425.out 7).trans rfl
                        have hcz33_8 : wr.cell? ⟨gb425, 8, none⟩ = some (.int .i64 a0_8) := (blk_cell BK425.out 8).trans rfl
                        have hcz33_9 : wr.cell? ⟨gb425, 9, none⟩ = some (.slice A0_9 l0_9.length c0_9) := (blk_cell BK425.out 9).trans rfl
                        have hcz33_10 : wr.cell? ⟨gb425, 10, none⟩ = some (.slice A0_10 l0_10.length c0_10) := (blk_cell BK425.out 10).trans rfl
                        have hcz33_11 : wr.cell? ⟨gb425, 11, none⟩ = some (.slice none 0 0) := (blk_cell BK425.out 11).trans rfl
                        have hcz33_12 : wr.cell? ⟨gb425, 12, none⟩ = some (.slice none 0 0) := (blk_cell BK425.out 12).trans rfl
                        have hcz33_13 : wr.cell? ⟨gb425, 13, none⟩ = some (.int .i64 a0_13) := (blk_cell BK425.out 13).trans rfl
                        have hcz33_14 : wr.cell? ⟨gb425, 14, none⟩ = some (.int .i64 a0_14) := (blk_cell BK425.out 14).trans rfl
                        have hfz33_0 := blk_frozen BK425.out 0
                        have hfz33_1 := blk_frozen BK425.out 1
                        have hfz33_2 := blk_frozen BK425.out 2
                        have hfz33_3 := blk_frozen BK425.out 3
                        have hfz33_4 := blk_frozen BK425.out 4
                        have hfz33_5 := blk_frozen BK425.out 5
                        have hfz33_6 := blk_frozen BK425.out 6
                        have hfz33_7 := blk_frozen BK425.out 7
                        have hfz33_8 := blk_frozen BK425.out 8
                        have hfz33_9 := blk_frozen BK425.out 9
                        have hfz33_10 := blk_frozen BK425.out 10
                        have hfz33_11 := blk_frozen BK425.out 11
                        have hfz33_12 := blk_frozen BK425.out 12
                        have hfz33_13 := blk_frozen BK425.out 13
                        have hfz33_14 := blk_frozen BK425.out 14
                        try go_wp2
                        have n0_ := Aside0.mk (blk_drew BK425.out)
                        have n1_ := Aside0.mk (below_drew1 HB.out)
                        clear BK425
                        clear HB
                        have BK425 := n0_
                        have HB := n1_
                        clear n0_ n1_
                        have p430 : 0 ≤ (x4_2 : Int) := of_decide_eq_true (by first | (with_reducible assumption) | assumption)
                        have q430 : x4_2 < (l0_10.length : Int) := of_decide_eq_true (by first | (with_reducible assumption) | assumption)
                        obtain ⟨ad430, e430, hx430_0⟩ := Kd.at_int HR0_10.out x4_2 p430 q430
                        have hw430_0 := hx430_0
                        cases e430
                        replace hx430_0 := (HB.out.cell (World.block_lt_of_cell? w _ hx430_0)).trans hx430_0
                        replace p430 := eq_true p430
                        replace q430 := eq_true q430
                        have p432 : 0 ≤ (x4_2 : Int) := of_decide_eq_true (by first | (with_reducible assumption) | assumption)
                        have q432 : x4_2 < (l0_9.length : Int) := of_decide_eq_true (by first | (with_reducible assumption) | assumption)
                        obtain ⟨ad432, A432_2, c432_2, A432_3, c432_3, e432, hx432_0, hx432_1, hx432_2, hx432_3, hl432_2, hi432_2, hl432_3, hi432_3⟩ := at_T36 HR0_9.out x4_2 p432 q432
                        have hw432_3 := hx432_3
                        have hw432_2 := hx432_2
                        have hw432_1 := hx432_1
                        have hw432_0 := hx432_0
                        cases e432
                        replace hx432_0 := (HB.out.cell (World.block_lt_of_cell? w _ hx432_0)).trans hx432_0
                        replace hx432_1 := (HB.out.cell (World.block_lt_of_cell? w _ hx432_1)).trans hx432_1
                        replace hx432_2 := (HB.out.cell (World.block_lt_of_cell? w _ hx432_2)).trans hx432_2
                        replace hx432_3 := (HB.out.cell (World.block_lt_of_cell? w _ hx432_3)).trans hx432_3
                        have HR432_2 := Aside0.mk hi432_2
                        have HC432_2 := Aside0.mk hl432_2
                        clear hi432_2 hl432_2
                        have HR432_3 := Aside0.mk hi432_3
                        have HC432_3 := Aside0.mk hl432_3
                        clear hi432_3 hl432_3
                        replace p432 := eq_true p432
                        replace q432 := eq_true q432
                        refine start_ (n := 16) (S := fun w' => w'.cell? ⟨gb425, 0, none⟩ = some (.slice A0_0 l0_0.length c0_0) ∧ w'.cell? ⟨gb425, 1, none⟩ = some (.slice A0_1 l0_1.length c0_1) ∧ w'.cell? ⟨gb425, 2, none⟩ = some (.slice A0_2 l0_2.length c0_2) ∧ w'.cell? ⟨gb425, 3, none⟩ = some (.int .i64 a0_3) ∧ w'.cell? ⟨gb425, 4, none⟩ = some (.int .i64 a0_4) ∧ w'.cell? ⟨gb425, 5, none⟩ = some (.int .i64 a0_5) ∧ w'.cell? ⟨gb425, 6, none⟩ = some (.int .i64 a0_6) ∧ w'.cell? ⟨gb425, 7, none⟩ = some (.int .i64 a0_7) ∧ w'.cell? ⟨gb425, 8, none⟩ = some (.int .i64 a0_8) ∧ w'.cell? ⟨gb425, 9, none⟩ = some (.slice (some ad432) l0_9.length c0_9) ∧ w'.cell? ⟨gb425, 10, none⟩ = some (.slice (some ad430) l0_10.length c0_10) ∧ w'.cell? ⟨gb425, 11, none⟩ = some (.slice none 0 0) ∧ w'.cell? ⟨gb425, 12, none⟩ = some (.slice none 0 0) ∧ w'.cell? ⟨gb425, 13, none⟩ = some (.int .i64 a0_13) ∧ w'.cell? ⟨gb425, 14, none⟩ = some (.int .i64 a0_14) ∧ w'.cell? (ad430.add (x4_2).toNat) = some (.int .i64 (rd l0_10 x4_2)) ∧ w'.cell? (ad432.add ((x4_2).toNat * 4)) = some (.int .i64 ((rd_T36 l0_9 x4_2).f0)) ∧ w'.cell? ⟨(ad432.add ((x4_2).toNat * 4)).block, (ad432.add ((x4_2).toNat * 4)).off + 1, none⟩ = some (.int .i64 ((rd_T36 l0_9 x4_2).f1)) ∧ w'.cell? ⟨(ad432.add ((x4_2).toNat * 4)).block, (ad432.add ((x4_2).toNat * 4)).off + 2, none⟩ = some (.slice A432_2 ((rd_T36 l0_9 x4_2).f2).length c432_2) ∧ w'.cell? ⟨(ad432.add ((x4_2).toNat * 4)).block, (ad432.add ((x4_2).toNat * 4)).off + 3, none⟩ = some (.slice A432_3 ((rd_T36 l0_9 x4_2).f3).length c432_3)) (ds := []) #[false, false, false, false, false, false, false, false, false, false, false, false, false, false, false, false] (by kernel_rfl) rfl rfl ⟨(blk_cell BK425.out 0).trans rfl, (blk_cell BK425.out 1).trans rfl, (blk_cell BK425.out 2).trans rfl, (blk_cell BK425.out 3).trans rfl, (blk_cell BK425.out 4).trans rfl, (blk_cell BK425.out 5).trans rfl, (blk_cell BK425.out 6).trans rfl, (blk_cell BK425.out 7).trans rfl, (blk_cell BK425.out 8).trans rfl, (blk_cell BK425.out 9).trans rfl, (blk_cell BK425.out 10).trans rfl, (blk_cell BK425.out 11).trans rfl, (blk_cell BK425.out 12).trans rfl, (blk_cell BK425.out 13).trans rfl, (blk_cell BK425.out 14).trans rfl, ((HB.out.cell (World.block_lt_of_cell? w _ hw430_0)).trans hw430_0), ((HB.out.cell (World.block_lt_of_cell? w _ hw432_0)).trans hw432_0), ((HB.out.cell (World.block_lt_of_cell? w _ hw432_1)).trans hw432_1), ((HB.out.cell (World.block_lt_of_cell? w _ hw432_2)).trans hw432_2), ((HB.out.cell (World.block_lt_of_cell? w _ hw432_3)).trans hw432_3)⟩ (fun hHeld => ?_); refine with_tabW dormouselaw17_RestTime.tab10 dormouselaw17_RestTime.bits10 (fun HT_ HW_ => ?_)
                        generalize wr.drew = w34 at BK425 HB HR432_2 HR432_3 hx430_0 hx432_0 hx432_1 hx432_2 hx432_3 hHeld ⊢
                        refine pure_ (i := 0) (N := some 37) (v := ?_) (a' := ?_) #[true, false, false, false, false, false, false, false, false, false, false, false, false, false, false, false] rfl rfl (any_of HT_.out (by kernel_rfl)) (fun _ _ _ h => h) (Or.inl ⟨by rfl, ?_⟩) ?_ ?_
                        rotate_left
                        · intro w'
                          go_simp
                          with_reducible rfl
                        rotate_left
                        · simp only [Act.put, List.setIfInBounds_toArray, List.set_cons_zero, List.set_cons_succ, i64_w, i32_w]
                          rfl
                        refine pure_ (i := 2) (N := some 39) (v := ?_) (a' := ?_) #[true, false, true, false, false, false, false, false, false, false, false, false, false, false, false, false] rfl rfl (any_of HT_.out (by kernel_rfl)) (fun _ _ _ h => h) (Or.inl ⟨by rfl, ?_⟩) ?_ ?_
                        rotate_left
                        · intro w'
                          go_simp
                          with_reducible rfl
                        rotate_left
                        · simp only [Act.put, List.setIfInBounds_toArray, List.set_cons_zero, List.set_cons_succ, i64_w, i32_w]
                          rfl
                        refine pure_ (i := 5) (N := some 42) (v := ?_) (a' := ?_) #[true, false, true, false, false, true, false, false, false, false, false, false, false, false, false, false] rfl rfl (any_of HT_.out (by kernel_rfl)) (fun _ _ _ h => h) (Or.inl ⟨by rfl, ?_⟩) ?_ ?_
                        rotate_left
                        · intro w'
                          go_simp
                          with_reducible rfl
                        rotate_left
                        · simp only [Act.put, List.setIfInBounds_toArray, List.set_cons_zero, List.set_cons_succ, i64_w, i32_w]
                          rfl
                        refine pure_ (i := 8) (N := some 45) (v := ?_) (a' := ?_) #[true, false, true, false, false, true, false, false, true, false, false, false, false, false, false, false] rfl rfl (any_of HT_.out (by kernel_rfl)) (fun _ _ _ h => h) (Or.inl ⟨by rfl, ?_⟩) ?_ ?_
                        rotate_left
                        · intro w'
                          go_simp
                          with_reducible rfl
                        rotate_left
                        · simp only [Act.put, List.setIfInBounds_toArray, List.set_cons_zero, List.set_cons_succ, i64_w, i32_w]
                          rfl
                        refine pure_ (i := 10) (N := some 47) (v := ?_) (a' := ?_) #[true, false, true, false, false, true, false, false, true, false, true, false, false, false, false, false] rfl rfl (any_of HT_.out (by kernel_rfl)) (fun _ _ _ h => h) (Or.inl ⟨by rfl, ?_⟩) ?_ ?_
                        rotate_left
                        · intro w'
                          go_simp
                          with_reducible rfl
                        rotate_left
                        · simp only [Act.put, List.setIfInBounds_toArray, List.set_cons_zero, List.set_cons_succ, i64_w, i32_w]
                          rfl
                        refine take_ (i := 1) (N := some 38) (v := ?_) (a' := ?_) #[true, true, true, false, false, true, false, false, true, false, true, false, false, false, false, false] rfl rfl (take_ofW HT_.out HW_.out (by kernel_rfl)) (fun _ _ _ h => h) (Or.inl ⟨by rfl, ?_⟩) hHeld ?_ ?_
                        rotate_left
                        · rintro w' ⟨s0, s1, s2, s3, s4, s5, s6, s7, s8, s9, s10, s11, s12, s13, s14, s15, s16, s17, s18, s19⟩
                          go_simp
                          with_reducible rfl
                        rotate_left
                        · simp only [Act.put, List.setIfInBounds_toArray, List.set_cons_zero, List.set_cons_succ, i64_w, i32_w]
                          rfl
                        refine pure_ (i := 3) (N := some 40) (v := ?_) (a' := ?_) #[true, true, true, true, false, true, false, false, true, false, true, false, false, false, false, false] rfl rfl (any_of HT_.out (by kernel_rfl)) (fun _ _ _ h => h) (Or.inl ⟨by rfl, ?_⟩) ?_ ?_
                        rotate_left
                        · intro w'
                          go_simp
                          with_reducible rfl
                        rotate_left
                        · simp only [Act.put, List.setIfInBounds_toArray, List.set_cons_zero, List.set_cons_succ, i64_w, i32_w]
                          rfl
                        refine take_ (i := 4) (N := some 41) (v := ?_) (a' := ?_) #[true, true, true, true, true, true, false, false, true, false, true, false, false, false, false, false] rfl rfl (take_ofW HT_.out HW_.out (by kernel_rfl)) (fun _ _ _ h => h) (Or.inl ⟨by rfl, ?_⟩) hHeld ?_ ?_
                        rotate_left
                        · rintro w' ⟨s0, s1, s2, s3, s4, s5, s6, s7, s8, s9, s10, s11, s12, s13, s14, s15, s16, s17, s18, s19⟩
                          go_simp
                          with_reducible rfl
                        rotate_left
                        · simp only [Act.put, List.setIfInBounds_toArray, List.set_cons_zero, List.set_cons_succ, i64_w, i32_w]
                          rfl
                        refine take_ (i := 6) (N := some 43) (v := ?_) (a' := ?_) #[true, true, true, true, true, true, true, false, true, false, true, false, false, false, false, false] rfl rfl (take_ofW HT_.out HW_.out (by kernel_rfl)) (fun _ _ _ h => h) (Or.inl ⟨by rfl, ?_⟩) hHeld ?_ ?_
                        rotate_left
                        · rintro w' ⟨s0, s1, s2, s3, s4, s5, s6, s7, s8, s9, s10, s11, s12, s13, s14, s15, s16, s17, s18, s19⟩
                          go_simp
                          with_reducible rfl
                        rotate_left
                        · simp only [Act.put, List.setIfInBounds_toArray, List.set_cons_zero, List.set_cons_succ, i64_w, i32_w]
                          rfl
                        refine take_ (i := 9) (N := some 46) (v := ?_) (a' := ?_) #[true, true, true, true, true, true, true, false, true, true, true, false, false, false, false, false] rfl rfl (take_ofW HT_.out HW_.out (by kernel_rfl)) (fun _ _ _ h => h) (Or.inl ⟨by rfl, ?_⟩) hHeld ?_ ?_
                        rotate_left
                        · rintro w' ⟨s0, s1, s2, s3, s4, s5, s6, s7, s8, s9, s10, s11, s12, s13, s14, s15, s16, s17, s18, s19⟩
                          go_simp
                          with_reducible rfl
                        rotate_left
                        · simp only [Act.put, List.setIfInBounds_toArray, List.set_cons_zero, List.set_cons_succ, i64_w, i32_w]
                          rfl
                        refine pure_ (i := 11) (N := some 48) (v := ?_) (a' := ?_) #[true, true, true, true, true, true, true, false, true, true, true, true, false, false, false, false] rfl rfl (any_of HT_.out (by kernel_rfl)) (fun _ _ _ h => h) (Or.inl ⟨by rfl, ?_⟩) ?_ ?_
                        rotate_left
                        · intro w'
                          go_simp
                          with_reducible rfl
                        rotate_left
                        · simp only [Act.put, List.setIfInBounds_toArray, List.set_cons_zero, List.set_cons_succ, i64_w, i32_w]
                          rfl
                        refine pure_ (i := 12) (N := some 49) (v := ?_) (a' := ?_) #[true, true, true, true, true, true, true, false, true, true, true, true, true, false, false, false] rfl rfl (any_of HT_.out (by kernel_rfl)) (fun _ _ _ h => h) (Or.inl ⟨by rfl, ?_⟩) ?_ ?_
                        rotate_left
                        · intro w'
                          go_simp
                          with_reducible rfl
                        rotate_left
                        · simp only [Act.put, List.setIfInBounds_toArray, List.set_cons_zero, List.set_cons_succ, i64_w, i32_w]
                          rfl
                        refine take_ (i := 13) (N := some 50) (v := ?_) (a' := ?_) #[true, true, true, true, true, true, true, false, true, true, true, true, true, true, false, false] rfl rfl (take_ofW HT_.out HW_.out (by kernel_rfl)) (fun _ _ _ h => h) (Or.inl ⟨by rfl, ?_⟩) hHeld ?_ ?_
                        rotate_left
                        · rintro w' ⟨s0, s1, s2, s3, s4, s5, s6, s7, s8, s9, s10, s11, s12, s13, s14, s15, s16, s17, s18, s19⟩
                          go_simp
                          with_reducible rfl
                        rotate_left
                        · simp only [Act.put, List.setIfInBounds_toArray, List.set_cons_zero, List.set_cons_succ, i64_w, i32_w]
                          rfl
                        refine one_ (i := 7) (N := some 44) #[true, true, true, true, true, true, true, true, true, true, true, true, true, true, false, false] rfl rfl (one_of HT_.out (by kernel_rfl)) (by decide) (fun K hK => ?_)
                        refine goes_ Try.func18 (by kernel_rfl) rfl #[.int .i64 (rd l0_10 x4_2), .int .i64 a0_13] (by rfl) rfl rfl (by (try simp only [List.map_toArray, List.map_cons, List.map_nil]); first | done | rfl | (simp only [List.length_drop, List.length_take]; rfl)) ?_
                        with_reducible refine (dormouseref01_Max.calls (rd l0_10 x4_2) a0_13 t431 _ A16.out).mono ?_
                        rintro e w' ⟨rfl, ⟨nd, rfl⟩⟩
                        refine ⟨_, rfl, ?_⟩
                        refine hK.out _ _ ⟨(blk_cell BK425.out 0).trans rfl, (blk_cell BK425.out 1).trans rfl, (blk_cell BK425.out 2).trans rfl, (blk_cell BK425.out 3).trans rfl, (blk_cell BK425.out 4).trans rfl, (blk_cell BK425.out 5).trans rfl, (blk_cell BK425.out 6).trans rfl, (blk_cell BK425.out 7).trans rfl, (blk_cell BK425.out 8).trans rfl, (blk_cell BK425.out 9).trans rfl, (blk_cell BK425.out 10).trans rfl, (blk_cell BK425.out 11).trans rfl, (blk_cell BK425.out 12).trans rfl, (blk_cell BK425.out 13).trans rfl, (blk_cell BK425.out 14).trans rfl, ((HB.out.cell (World.block_lt_of_cell? w _ hw430_0)).trans hw430_0), ((HB.out.cell (World.block_lt_of_cell? w _ hw432_0)).trans hw432_0), ((HB.out.cell (World.block_lt_of_cell? w _ hw432_1)).trans hw432_1), ((HB.out.cell (World.block_lt_of_cell? w _ hw432_2)).trans hw432_2), ((HB.out.cell (World.block_lt_of_cell? w _ hw432_3)).trans hw432_3)⟩ (fun hHeld => ?_)
                        clear hK K
                        refine norm_ (a' := ?_) ?_ ?_
                        rotate_left
                        · show Act.put _ (some 44) _ = _
                          simp only [Act.put, List.setIfInBounds_toArray, List.set_cons_zero, List.set_cons_succ, i64_w, i32_w]
                          rfl
                        refine pure_ (i := 14) (N := some 51) (v := ?_) (a' := ?_) #[true, true, true, true, true, true, true, true, true, true, true, true, true, true, true, false] rfl rfl (any_of HT_.out (by kernel_rfl)) (fun _ _ _ h => h) (Or.inl ⟨by rfl, ?_⟩) ?_ ?_
                        rotate_left
                        · intro w'
                          go_simp
                          with_reducible rfl
                        rotate_left
                        · simp only [Act.put, List.setIfInBounds_toArray, List.set_cons_zero, List.set_cons_succ, i64_w, i32_w]
                          rfl
                        refine pure_ (i := 15) (N := some 5) (v := ?_) (a' := ?_) #[true, true, true, true, true, true, true, true, true, true, true, true, true, true, true, true] rfl rfl (any_of HT_.out (by kernel_rfl)) (fun _ _ _ h => h) (Or.inl ⟨by rfl, ?_⟩) ?_ ?_
                        rotate_left
                        · intro w'
                          go_simp
                          with_reducible rfl
                        rotate_left
                        · simp only [Act.put, List.setIfInBounds_toArray, List.set_cons_zero, List.set_cons_succ, i64_w, i32_w]
                          rfl
                        refine done_ (done_of HT_.out (by kernel_rfl)) ?_
                        have hcz35_0 : w34.cell? ⟨gb425, 0, none⟩ = some (.slice A0_0 l0_0.length c0_0) := (blk_cell BK425.out 0).trans rfl
                        have hcz35_1 : w34.cell? ⟨gb425, 1, none⟩ = some (.slice A0_1 l0_1.length c0_1) := (blk_cell BK425.out 1).trans rfl
                        have hcz35_2 : w34.cell? ⟨gb425, 2, none⟩ = some (.slice A0_2 l0_2.length c0_2) := (blk_cell BK425.out 2).trans rfl
                        have hcz35_3 : w34.cell? ⟨gb425, 3, none⟩ = some (.int .i64 a0_3) := (blk_cell BK425.out 3).trans rfl
                        have hcz35_4 : w34.cell? ⟨gb425, 4, none⟩ = some (.int .i64 a0_4) := (blk_cell BK425.out 4).trans rfl
                        have hcz35_5 : w34.cell? ⟨gb425, 5, none⟩ = some (.int .i64 a0_5) := (blk_cell BK425.out 5).trans rfl
                        have hcz35_6 : w34.cell? ⟨gb425, 6, none⟩ = some (.int .i64 a0_6) := (blk_cell BK425.out 6).trans rfl
                        have hcz35_7 : w34.cell? ⟨gb425, 7, none⟩ = some (.int .i64 a0_7) := (blk_cell BK425.out 7).trans rfl
                        have hcz35_8 : w34.cell? ⟨gb425, 8, none⟩ = some (.int .i64 a0_8) := (blk_cell BK425.out 8).trans rfl
                        have hcz35_9 : w34.cell? ⟨gb425, 9, none⟩ = some (.slice (some ad432) l0_9.length c0_9) := (blk_cell BK425.out 9).trans rfl
                        have hcz35_10 : w34.cell? ⟨gb425, 10, none⟩ = some (.slice (some ad430) l0_10.length c0_10) := (blk_cell BK425.out 10).trans rfl
                        have hcz35_11 : w34.cell? ⟨gb425, 11, none⟩ = some (.slice none 0 0) := (blk_cell BK425.out 11).trans rfl
                        have hcz35_12 : w34.cell? ⟨gb425, 12, none⟩ = some (.slice none 0 0) := (blk_cell BK425.out 12).trans rfl
                        have hcz35_13 : w34.cell? ⟨gb425, 13, none⟩ = some (.int .i64 a0_13) := (blk_cell BK425.out 13).trans rfl
                        have hcz35_14 : w34.cell? ⟨gb425, 14, none⟩ = some (.int .i64 a0_14) := (blk_cell BK425.out 14).trans rfl
                        have hfz35_0 := blk_frozen BK425.out 0
                        have hfz35_1 := blk_frozen BK425.out 1
                        have hfz35_2 := blk_frozen BK425.out 2
                        have hfz35_3 := blk_frozen BK425.out 3
                        have hfz35_4 := blk_frozen BK425.out 4
                        have hfz35_5 := blk_frozen BK425.out 5
                        have hfz35_6 := blk_frozen BK425.out 6
                        have hfz35_7 := blk_frozen BK425.out 7
                        have hfz35_8 := blk_frozen BK425.out 8
                        have hfz35_9 := blk_frozen BK425.out 9
                        have hfz35_10 := blk_frozen BK425.out 10
                        have hfz35_11 := blk_frozen BK425.out 11
                        have hfz35_12 := blk_frozen BK425.out 12
                        have hfz35_13 := blk_frozen BK425.out 13
                        have hfz35_14 := blk_frozen BK425.out 14
                        have p433 : 0 ≤ (x4_2 : Int) := of_decide_eq_true (by first | (with_reducible assumption) | assumption)
                        have q433 : x4_2 < (l0_9.length : Int) := of_decide_eq_true (by first | (with_reducible assumption) | assumption)
                        obtain ⟨ad433, A433_2, c433_2, A433_3, c433_3, e433, hx433_0, hx433_1, hx433_2, hx433_3, hl433_2, hi433_2, hl433_3, hi433_3⟩ := at_T36 HR0_9.out x4_2 p433 q433
                        obtain rfl : ad432 = ad433 := (by injection e433)
                        replace hx433_0 := (HB.out.cell (World.block_lt_of_cell? w _ hx433_0)).trans hx433_0
                        replace hx433_1 := (HB.out.cell (World.block_lt_of_cell? w _ hx433_1)).trans hx433_1
                        replace hx433_2 := (HB.out.cell (World.block_lt_of_cell? w _ hx433_2)).trans hx433_2
                        replace hx433_3 := (HB.out.cell (World.block_lt_of_cell? w _ hx433_3)).trans hx433_3
                        have HR433_2 := Aside0.mk hi433_2
                        have HC433_2 := Aside0.mk hl433_2
                        clear hi433_2 hl433_2
                        have HR433_3 := Aside0.mk hi433_3
                        have HC433_3 := Aside0.mk hl433_3
                        clear hi433_3 hl433_3
                        replace p433 := eq_true p433
                        replace q433 := eq_true q433
                        have ea_ := Option.some.inj (hx432_2.symm.trans hx433_2)
                        injection ea_ with ea_ en_ ec_
                        subst ea_
                        subst ec_
                        clear en_
                        have ea_ := Option.some.inj (hx432_3.symm.trans hx433_3)
                        injection ea_ with ea_ en_ ec_
                        subst ea_
                        subst ec_
                        clear en_
                        try go_wp2
                        go_roundg k2
                        case measure => have := HJ4.out; have := HK2.out; omega
                        case rel => exact ⟨(wrap64 (x4_2 + 1)), (by first | rfl | (simp; done) | (simp [*]; done)), H', ⟨by have := HJ4.out; have := HK2.out; omega⟩, ⟨by (with_reducible repeat (first | refine blk_drewN ?_ _ | refine blk_drew ?_ | refine blk_alloc ?_ _)); exact BK425.out⟩, ⟨by repeat (first | (with_reducible first | exact HB.out | apply below_alloc | apply pw_below_drewN | apply below_drew1 | refine below_set ?_ GE425.out) | exact HB.out)⟩⟩
                    · rw [if_neg c17] at H
                      have c17b0 : decide (0 < ((rd_T36 l0_9 x4_2).f0)) = false := decide_eq_false c17
                      clear c17
                      have H' := Aside0.mk H
                      clear H
                      have hcz36_0 : wr.cell? ⟨gb425, 0, none⟩ = some (.slice A0_0 l0_0.length c0_0) := (blk_cell BK425.out 0).trans rfl
                      have hcz36_1 : wr.cell? ⟨gb425, 1, none⟩ = some (.slice A0_1 l0_1.length c0_1) := (blk_cell BK425.out 1).trans rfl
                      have hcz36_2 : wr.cell? ⟨gb425, 2, none⟩ = some (.slice A0_2 l0_2.length c0_2) := (blk_cell BK425.out 2).trans rfl
                      have hcz36_3 : wr.cell? ⟨gb425, 3, none⟩ = some (.int .i64 a0_3) := (blk_cell BK425.out 3).trans rfl
                      have hcz36_4 : wr.cell? ⟨gb425, 4, none⟩ = some (.int .i64 a0_4) := (blk_cell BK425.out 4).trans rfl
                      have hcz36_5 : wr.cell? ⟨gb425, 5, none⟩ = some (.int .i64 a0_5) := (blk_cell BK425.out 5).trans rfl
                      have hcz36_6 : wr.cell? ⟨gb425, 6, none⟩ = some (.int .i64 a0_6) := (blk_cell BK425.out 6).trans rfl
                      have hcz36_7 : wr.cell? ⟨gb425, 7, none⟩ = some (.int .i64 a0_7) := (blk_cell BK425.out 7).trans rfl
                      have hcz36_8 : wr.cell? ⟨gb425, 8, none⟩ = some (.int .i64 a0_8) := (blk_cell BK425.out 8).trans rfl
                      have hcz36_9 : wr.cell? ⟨gb425, 9, none⟩ = some (.slice A0_9 l0_9.length c0_9) := (blk_cell BK425.out 9).trans rfl
                      have hcz36_10 : wr.cell? ⟨gb425, 10, none⟩ = some (.slice A0_10 l0_10.length c0_10) := (blk_cell BK425.out 10).trans rfl
                      have hcz36_11 : wr.cell? ⟨gb425, 11, none⟩ = some (.slice none 0 0) := (blk_cell BK425.out 11).trans rfl
                      have hcz36_12 : wr.cell? ⟨gb425, 12, none⟩ = some (.slice none 0 0) := (blk_cell BK425.out 12).trans rfl
                      have hcz36_13 : wr.cell? ⟨gb425, 13, none⟩ = some (.int .i64 a0_13) := (blk_cell BK425.out 13).trans rfl
                      have hcz36_14 : wr.cell? ⟨gb425, 14, none⟩ = some (.int .i64 a0_14) := (blk_cell BK425.out 14).trans rfl
                      have hfz36_0 := blk_frozen BK425.out 0
                      have hfz36_1 := blk_frozen BK425.out 1
                      have hfz36_2 := blk_frozen BK425.out 2
                      have hfz36_3 := blk_frozen BK425.out 3
                      have hfz36_4 := blk_frozen BK425.out 4
                      have hfz36_5 := blk_frozen BK425.out 5
                      have hfz36_6 := blk_frozen BK425.out 6
                      have hfz36_7 := blk_frozen BK425.out 7
                      have hfz36_8 := blk_frozen BK425.out 8
                      have hfz36_9 := blk_frozen BK425.out 9
                      have hfz36_10 := blk_frozen BK425.out 10
                      have hfz36_11 := blk_frozen BK425.out 11
                      have hfz36_12 := blk_frozen BK425.out 12
                      have hfz36_13 := blk_frozen BK425.out 13
                      have hfz36_14 := blk_frozen BK425.out 14
                      try go_wp2
                      have n0_ := Aside0.mk (blk_drew BK425.out)
                      have n1_ := Aside0.mk (below_drew1 HB.out)
                      clear BK425
                      clear HB
                      have BK425 := n0_
                      have HB := n1_
                      clear n0_ n1_
                      have p430 : 0 ≤ (x4_2 : Int) := of_decide_eq_true (by first | (with_reducible assumption) | assumption)
                      have q430 : x4_2 < (l0_10.length : Int) := of_decide_eq_true (by first | (with_reducible assumption) | assumption)
                      obtain ⟨ad430, e430, hx430_0⟩ := Kd.at_int HR0_10.out x4_2 p430 q430
                      have hw430_0 := hx430_0
                      cases e430
                      replace hx430_0 := (HB.out.cell (World.block_lt_of_cell? w _ hx430_0)).trans hx430_0
                      replace p430 := eq_true p430
                      replace q430 := eq_true q430
                      have p432 : 0 ≤ (x4_2 : Int) := of_decide_eq_true (by first | (with_reducible assumption) | assumption)
                      have q432 : x4_2 < (l0_9.length : Int) := of_decide_eq_true (by first | (with_reducible assumption) | assumption)
                      obtain ⟨ad432, A432_2, c432_2, A432_3, c432_3, e432, hx432_0, hx432_1, hx432_2, hx432_3, hl432_2, hi432_2, hl432_3, hi432_3⟩ := at_T36 HR0_9.out x4_2 p432 q432
                      have hw432_3 := hx432_3
                      have hw432_2 := hx432_2
                      have hw432_1 := hx432_1
                      have hw432_0 := hx432_0
                      cases e432
                      replace hx432_0 := (HB.out.cell (World.block_lt_of_cell? w _ hx432_0)).trans hx432_0
                      replace hx432_1 := (HB.out.cell (World.block_lt_of_cell? w _ hx432_1)).trans hx432_1
                      replace hx432_2 := (HB.out.cell (World.block_lt_of_cell? w _ hx432_2)).trans hx432_2
                      replace hx432_3 := (HB.out.cell (World.block_lt_of_cell? w _ hx432_3)).trans hx432_3
                      have HR432_2 := Aside0.mk hi432_2
                      have HC432_2 := Aside0.mk hl432_2
                      clear hi432_2 hl432_2
                      have HR432_3 := Aside0.mk hi432_3
                      have HC432_3 := Aside0.mk hl432_3
                      clear hi432_3 hl432_3
                      replace p432 := eq_true p432
                      replace q432 := eq_true q432
                      refine start_ (n := 16) (S := fun w' => w'.cell? ⟨gb425, 0, none⟩ = some (.slice A0_0 l0_0.length c0_0) ∧ w'.cell? ⟨gb425, 1, none⟩ = some (.slice A0_1 l0_1.length c0_1) ∧ w'.cell? ⟨gb425, 2, none⟩ = some (.slice A0_2 l0_2.length c0_2) ∧ w'.cell? ⟨gb425, 3, none⟩ = some (.int .i64 a0_3) ∧ w'.cell? ⟨gb425, 4, none⟩ = some (.int .i64 a0_4) ∧ w'.cell? ⟨gb425, 5, none⟩ = some (.int .i64 a0_5) ∧ w'.cell? ⟨gb425, 6, none⟩ = some (.int .i64 a0_6) ∧ w'.cell? ⟨gb425, 7, none⟩ = some (.int .i64 a0_7) ∧ w'.cell? ⟨gb425, 8, none⟩ = some (.int .i64 a0_8) ∧ w'.cell? ⟨gb425, 9, none⟩ = some (.slice (some ad432) l0_9.length c0_9) ∧ w'.cell? ⟨gb425, 10, none⟩ = some (.slice (some ad430) l0_10.length c0_10) ∧ w'.cell? ⟨gb425, 11, none⟩ = some (.slice none 0 0) ∧ w'.cell? ⟨gb425, 12, none⟩ = some (.slice none 0 0) ∧ w'.cell? ⟨gb425, 13, none⟩ = some (.int .i64 a0_13) ∧ w'.cell? ⟨gb425, 14, none⟩ = some (.int .i64 a0_14) ∧ w'.cell? (ad430.add (x4_2).toNat) = some (.int .i64 (rd l0_10 x4_2)) ∧ w'.cell? (ad432.add ((x4_2).toNat * 4)) = some (.int .i64 ((rd_T36 l0_9 x4_2).f0)) ∧ w'.cell? ⟨(ad432.add ((x4_2).toNat * 4)).block, (ad432.add ((x4_2).toNat * 4)).off + 1, none⟩ = some (.int .i64 ((rd_T36 l0_9 x4_2).f1)) ∧ w'.cell? ⟨(ad432.add ((x4_2).toNat * 4)).block, (ad432.add ((x4_2).toNat * 4)).off + 2, none⟩ = some (.slice A432_2 ((rd_T36 l0_9 x4_2).f2).length c432_2) ∧ w'.cell? ⟨(ad432.add ((x4_2).toNat * 4)).block, (ad432.add ((x4_2).toNat * 4)).off + 3, none⟩ = some (.slice A432_3 ((rd_T36 l0_9 x4_2).f3).length c432_3)) (ds := []) #[false, false, false, false, false, false, false, false, false, false, false, false, false, false, false, false] (by kernel_rfl) rfl rfl ⟨(blk_cell BK425.out 0).trans rfl, (blk_cell BK425.out 1).trans rfl, (blk_cell BK425.out 2).trans rfl, (blk_cell BK425.out 3).trans rfl, (blk_cell BK425.out 4).trans rfl, (blk_cell BK425.out 5).trans rfl, (blk_cell BK425.out 6).trans rfl, (blk_cell BK425.out 7).trans rfl, (blk_cell BK425.out 8).trans rfl, (blk_cell BK425.out 9).trans rfl, (blk_cell BK425.out 10).trans rfl, (blk_cell BK425.out 11).trans rfl, (blk_cell BK425.out 12).trans rfl, (blk_cell BK425.out 13).trans rfl, (blk_cell BK425.out 14).trans rfl, ((HB.out.cell (World.block_lt_of_cell? w _ hw430_0)).trans hw430_0), ((HB.out.cell (World.block_lt_of_cell? w _ hw432_0)).trans hw432_0), ((HB.out.cell (World.block_lt_of_cell? w _ hw432_1)).trans hw432_1), ((HB.out.cell (World.block_lt_of_cell? w _ hw432_2)).trans hw432_2), ((HB.out.cell (World.block_lt_of_cell? w _ hw432_3)).trans hw432_3)⟩ (fun hHeld => ?_); refine with_tabW dormouselaw17_RestTime.tab10 dormouselaw17_RestTime.bits10 (fun HT_ HW_ => ?_)
                      generalize wr.drew = w37 at BK425 HB HR432_2 HR432_3 hx430_0 hx432_0 hx432_1 hx432_2 hx432_3 hHeld ⊢
                      refine pure_ (i := 0) (N := some 37) (v := ?_) (a' := ?_) #[true, false, false, false, false, false, false, false, false, false, false, false, false, false, false, false] rfl rfl (any_of HT_.out (by kernel_rfl)) (fun _ _ _ h => h) (Or.inl ⟨by rfl, ?_⟩) ?_ ?_
                      rotate_left
                      · intro w'
                        go_simp
                        with_reducible rfl
                      rotate_left
                      · simp only [Act.put, List.setIfInBounds_toArray, List.set_cons_zero, List.set_cons_succ, i64_w, i32_w]
                        rfl
                      refine pure_ (i := 2) (N := some 39) (v := ?_) (a' := ?_) #[true, false, true, false, false, false, false, false, false, false, false, false, false, false, false, false] rfl rfl (any_of HT_.out (by kernel_rfl)) (fun _ _ _ h => h) (Or.inl ⟨by rfl, ?_⟩) ?_ ?_
                      rotate_left
                      · intro w'
                        go_simp
                        with_reducible rfl
                      rotate_left
                      · simp only [Act.put, List.setIfInBounds_toArray, List.set_cons_zero, List.set_cons_succ, i64_w, i32_w]
                        rfl
                      refine pure_ (i := 5) (N := some 42) (v := ?_) (a' := ?_) #[true, false, true, false, false, true, false, false, false, false, false, false, false, false, false, false] rfl rfl (any_of HT_.out (by kernel_rfl)) (fun _ _ _ h => h) (Or.inl ⟨by rfl, ?_⟩) ?_ ?_
                      rotate_left
                      · intro w'
                        go_simp
                        with_reducible rfl
                      rotate_left
                      · simp only [Act.put, List.setIfInBounds_toArray, List.set_cons_zero, List.set_cons_succ, i64_w, i32_w]
                        rfl
                      refine pure_ (i := 8) (N := some 45) (v := ?_) (a' := ?_) #[true, false, true, false, false, true, false, false, true, false, false, false, false, false, false, false] rfl rfl (any_of HT_.out (by kernel_rfl)) (fun _ _ _ h => h) (Or.inl ⟨by rfl, ?_⟩) ?_ ?_
                      rotate_left
                      · intro w'
                        go_simp
                        with_reducible rfl
                      rotate_left
                      · simp only [Act.put, List.setIfInBounds_toArray, List.set_cons_zero, List.set_cons_succ, i64_w, i32_w]
                        rfl
                      refine pure_ (i := 10) (N := some 47) (v := ?_) (a' := ?_) #[true, false, true, false, false, true, false, false, true, false, true, false, false, false, false, false] rfl rfl (any_of HT_.out (by kernel_rfl)) (fun _ _ _ h => h) (Or.inl ⟨by rfl, ?_⟩) ?_ ?_
                      rotate_left
                      · intro w'
                        go_simp
                        with_reducible rfl
                      rotate_left
                      · simp only [Act.put, List.setIfInBounds_toArray, List.set_cons_zero, List.set_cons_succ, i64_w, i32_w]
                        rfl
                      refine take_ (i := 1) (N := some 38) (v := ?_) (a' := ?_) #[true, true, true, false, false, true, false, false, true, false, true, false, false, false, false, false] rfl rfl (take_ofW HT_.out HW_.out (by kernel_rfl)) (fun _ _ _ h => h) (Or.inl ⟨by rfl, ?_⟩) hHeld ?_ ?_
                      rotate_left
                      · rintro w' ⟨s0, s1, s2, s3, s4, s5, s6, s7, s8, s9, s10, s11, s12, s13, s14, s15, s16, s17, s18, s19⟩
                        go_simp
                        with_reducible rfl
                      rotate_left
                      · simp only [Act.put, List.setIfInBounds_toArray, List.set_cons_zero, List.set_cons_succ, i64_w, i32_w]
                        rfl
                      refine pure_ (i := 3) (N := some 40) (v := ?_) (a' := ?_) #[true, true, true, true, false, true, false, false, true, false, true, false, false, false, false, false] rfl rfl (any_of HT_.out (by kernel_rfl)) (fun _ _ _ h => h) (Or.inl ⟨by rfl, ?_⟩) ?_ ?_
                      rotate_left
                      · intro w'
                        go_simp
                        with_reducible rfl
                      rotate_left
                      · simp only [Act.put, List.setIfInBounds_toArray, List.set_cons_zero, List.set_cons_succ, i64_w, i32_w]
                        rfl
                      refine take_ (i := 4) (N := some 41) (v := ?_) (a' := ?_) #[true, true, true, true, true, true, false, false, true, false, true, false, false, false, false, false] rfl rfl (take_ofW HT_.out HW_.out (by kernel_rfl)) (fun _ _ _ h => h) (Or.inl ⟨by rfl, ?_⟩) hHeld ?_ ?_
                      rotate_left
                      · rintro w' ⟨s0, s1, s2, s3, s4, s5, s6, s7, s8, s9, s10, s11, s12, s13, s14, s15, s16, s17, s18, s19⟩
                        go_simp
                        with_reducible rfl
                      rotate_left
                      · simp only [Act.put, List.setIfInBounds_toArray, List.set_cons_zero, List.set_cons_succ, i64_w, i32_w]
                        rfl
                      refine take_ (i := 6) (N := some 43) (v := ?_) (a' := ?_) #[true, true, true, true, true, true, true, false, true, false, true, false, false, false, false, false] rfl rfl (take_ofW HT_.out HW_.out (by kernel_rfl)) (fun _ _ _ h => h) (Or.inl ⟨by rfl, ?_⟩) hHeld ?_ ?_
                      rotate_left
                      · rintro w' ⟨s0, s1, s2, s3, s4, s5, s6, s7, s8, s9, s10, s11, s12, s13, s14, s15, s16, s17, s18, s19⟩
                        go_simp
                        with_reducible rfl
                      rotate_left
                      · simp only [Act.put, List.setIfInBounds_toArray, List.set_cons_zero, List.set_cons_succ, i64_w, i32_w]
                        rfl
                      refine take_ (i := 9) (N := some 46) (v := ?_) (a' := ?_) #[true, true, true, true, true, true, true, false, true, true, true, false, false, false, false, false] rfl rfl (take_ofW HT_.out HW_.out (by kernel_rfl)) (fun _ _ _ h => h) (Or.inl ⟨by rfl, ?_⟩) hHeld ?_ ?_
                      rotate_left
                      · rintro w' ⟨s0, s1, s2, s3, s4, s5, s6, s7, s8, s9, s10, s11, s12, s13, s14, s15, s16, s17, s18, s19⟩
                        go_simp
                        with_reducible rfl
                      rotate_left
                      · simp only [Act.put, List.setIfInBounds_toArray, List.set_cons_zero, List.set_cons_succ, i64_w, i32_w]
                        rfl
                      refine pure_ (i := 11) (N := some 48) (v := ?_) (a' := ?_) #[true, true, true, true, true, true, true, false, true, true, true, true, false, false, false, false] rfl rfl (any_of HT_.out (by kernel_rfl)) (fun _ _ _ h => h) (Or.inl ⟨by rfl, ?_⟩) ?_ ?_
                      rotate_left
                      · intro w'
                        go_simp
                        with_reducible rfl
                      rotate_left
                      · simp only [Act.put, List.setIfInBounds_toArray, List.set_cons_zero, List.set_cons_succ, i64_w, i32_w]
                        rfl
                      refine pure_ (i := 12) (N := some 49) (v := ?_) (a' := ?_) #[true, true, true, true, true, true, true, false, true, true, true, true, true, false, false, false] rfl rfl (any_of HT_.out (by kernel_rfl)) (fun _ _ _ h => h) (Or.inl ⟨by rfl, ?_⟩) ?_ ?_
                      rotate_left
                      · intro w'
                        go_simp
                        with_reducible rfl
                      rotate_left
                      · simp only [Act.put, List.setIfInBounds_toArray, List.set_cons_zero, List.set_cons_succ, i64_w, i32_w]
                        rfl
                      refine take_ (i := 13) (N := some 50) (v := ?_) (a' := ?_) #[true, true, true, true, true, true, true, false, true, true, true, true, true, true, false, false] rfl rfl (take_ofW HT_.out HW_.out (by kernel_rfl)) (fun _ _ _ h => h) (Or.inl ⟨by rfl, ?_⟩) hHeld ?_ ?_
                      rotate_left
                      · rintro w' ⟨s0, s1, s2, s3, s4, s5, s6, s7, s8, s9, s10, s11, s12, s13, s14, s15, s16, s17, s18, s19⟩
                        go_simp
                        with_reducible rfl
                      rotate_left
                      · simp only [Act.put, List.setIfInBounds_toArray, List.set_cons_zero, List.set_cons_succ, i64_w, i32_w]
                        rfl
                      refine one_ (i := 7) (N := some 44) #[true, true, true, true, true, true, true, true, true, true, true, true, true, true, false, false] rfl rfl (one_of HT_.out (by kernel_rfl)) (by decide) (fun K hK => ?_)
                      refine goes_ Try.func18 (by kernel_rfl) rfl #[.int .i64 (rd l0_10 x4_2), .int .i64 a0_13] (by rfl) rfl rfl (by (try simp only [List.map_toArray, List.map_cons, List.map_nil]); first | done | rfl | (simp only [List.length_drop, List.length_take]; rfl)) ?_
                      with_reducible refine (dormouseref01_Max.calls (rd l0_10 x4_2) a0_13 t431 _ A16.out).mono ?_
                      rintro e w' ⟨rfl, ⟨nd, rfl⟩⟩
                      refine ⟨_, rfl, ?_⟩
                      refine hK.out _ _ ⟨(blk_cell BK425.out 0).trans rfl, (blk_cell BK425.out 1).trans rfl, (blk_cell BK425.out 2).trans rfl, (blk_cell BK425.out 3).trans rfl, (blk_cell BK425.out 4).trans rfl, (blk_cell BK425.out 5).trans rfl, (blk_cell BK425.out 6).trans rfl, (blk_cell BK425.out 7).trans rfl, (blk_cell BK425.out 8).trans rfl, (blk_cell BK425.out 9).trans rfl, (blk_cell BK425.out 10).trans rfl, (blk_cell BK425.out 11).trans rfl, (blk_cell BK425.out 12).trans rfl, (blk_cell BK425.out 13).trans rfl, (blk_cell BK425.out 14).trans rfl, ((HB.out.cell (World.block_lt_of_cell? w _ hw430_0)).trans hw430_0), ((HB.out.cell (World.block_lt_of_cell? w _ hw432_0)).trans hw432_0), ((HB.out.cell (World.block_lt_of_cell? w _ hw432_1)).trans hw432_1), ((HB.out.cell (World.block_lt_of_cell? w _ hw432_2)).trans hw432_2), ((HB.out.cell (World.block_lt_of_cell? w _ hw432_3)).trans hw432_3)⟩ (fun hHeld => ?_)
                      clear hK K
                      refine norm_ (a' := ?_) ?_ ?_
                      rotate_left
                      · show Act.put _ (some 44) _ = _
                        simp only [Act.put, List.setIfInBounds_toArray, List.set_cons_zero, List.set_cons_succ, i64_w, i32_w]
                        rfl
                      refine pure_ (i := 14) (N := some 51) (v := ?_) (a' := ?_) #[true, true, true, true, true, true, true, true, true, true, true, true, true, true, true, false] rfl rfl (any_of HT_.out (by kernel_rfl)) (fun _ _ _ h => h) (Or.inl ⟨by rfl, ?_⟩) ?_ ?_
                      rotate_left
                      · intro w'
                        go_simp
                        with_reducible rfl
                      rotate_left
                      · simp only [Act.put, List.setIfInBounds_toArray, List.set_cons_zero, List.set_cons_succ, i64_w, i32_w]
                        rfl
                      refine pure_ (i := 15) (N := some 5) (v := ?_) (a' := ?_) #[true, true, true, true, true, true, true, true, true, true, true, true, true, true, true, true] rfl rfl (any_of HT_.out (by kernel_rfl)) (fun _ _ _ h => h) (Or.inl ⟨by rfl, ?_⟩) ?_ ?_
                      rotate_left
                      · intro w'
                        go_simp
                        with_reducible rfl
                      rotate_left
                      · simp only [Act.put, List.setIfInBounds_toArray, List.set_cons_zero, List.set_cons_succ, i64_w, i32_w]
                        rfl
                      refine done_ (done_of HT_.out (by kernel_rfl)) ?_
                      have hcz38_0 : w37.cell? ⟨gb425, 0, none⟩ = some (.slice A0_0 l0_0.length c0_0) := (blk_cell BK425.out 0).trans rfl
                      have hcz38_1 : w37.cell? ⟨gb425, 1, none⟩ = some (.slice A0_1 l0_1.length c0_1) := (blk_cell BK425.out 1).trans rfl
                      have hcz38_2 : w37.cell? ⟨gb425, 2, none⟩ = some (.slice A0_2 l0_2.length c0_2) := (blk_cell BK425.out 2).trans rfl
                      have hcz38_3 : w37.cell? ⟨gb425, 3, none⟩ = some (.int .i64 a0_3) := (blk_cell BK425.out 3).trans rfl
                      have hcz38_4 : w37.cell? ⟨gb425, 4, none⟩ = some (.int .i64 a0_4) := (blk_cell BK425.out 4).trans rfl
                      have hcz38_5 : w37.cell? ⟨gb425, 5, none⟩ = some (.int .i64 a0_5) := (blk_cell BK425.out 5).trans rfl
                      have hcz38_6 : w37.cell? ⟨gb425, 6, none⟩ = some (.int .i64 a0_6) := (blk_cell BK425.out 6).trans rfl
                      have hcz38_7 : w37.cell? ⟨gb425, 7, none⟩ = some (.int .i64 a0_7) := (blk_cell BK425.out 7).trans rfl
                      have hcz38_8 : w37.cell? ⟨gb425, 8, none⟩ = some (.int .i64 a0_8) := (blk_cell BK425.out 8).trans rfl
                      have hcz38_9 : w37.cell? ⟨gb425, 9, none⟩ = some (.slice (some ad432) l0_9.length c0_9) := (blk_cell BK425.out 9).trans rfl
                      have hcz38_10 : w37.cell? ⟨gb425, 10, none⟩ = some (.slice (some ad430) l0_10.length c0_10) := (blk_cell BK425.out 10).trans rfl
                      have hcz38_11 : w37.cell? ⟨gb425, 11, none⟩ = some (.slice none 0 0) := (blk_cell BK425.out 11).trans rfl
                      have hcz38_12 : w37.cell? ⟨gb425, 12, none⟩ = some (.slice none 0 0) := (blk_cell BK425.out 12).trans rfl
                      have hcz38_13 : w37.cell? ⟨gb425, 13, none⟩ = some (.int .i64 a0_13) := (blk_cell BK425.out 13).trans rfl
                      have hcz38_14 : w37.cell? ⟨gb425, 14, none⟩ = some (.int .i64 a0_14) := (blk_cell BK425.out 14).trans rfl
                      have hfz38_0 := blk_frozen BK425.out 0
                      have hfz38_1 := blk_frozen BK425.out 1
                      have hfz38_2 := blk_frozen BK425.out 2
                      have hfz38_3 := blk_frozen BK425.out 3
                      have hfz38_4 := blk_frozen BK425.out 4
                      have hfz38_5 := blk_frozen BK425.out 5
                      have hfz38_6 := blk_frozen BK425.out 6
                      have hfz38_7 := blk_frozen BK425.out 7
                      have hfz38_8 := blk_frozen BK425.out 8
                      have hfz38_9 := blk_frozen BK425.out 9
                      have hfz38_10 := blk_frozen BK425.out 10
                      have hfz38_11 := blk_frozen BK425.out 11
                      have hfz38_12 := blk_frozen BK425.out 12
                      have hfz38_13 := blk_frozen BK425.out 13
                      have hfz38_14 := blk_frozen BK425.out 14
                      have p433 : 0 ≤ (x4_2 : Int) := of_decide_eq_true (by first | (with_reducible assumption) | assumption)
                      have q433 : x4_2 < (l0_9.length : Int) := of_decide_eq_true (by first | (with_reducible assumption) | assumption)
                      obtain ⟨ad433, A433_2, c433_2, A433_3, c433_3, e433, hx433_0, hx433_1, hx433_2, hx433_3, hl433_2, hi433_2, hl433_3, hi433_3⟩ := at_T36 HR0_9.out x4_2 p433 q433
                      obtain rfl : ad432 = ad433 := (by injection e433)
                      replace hx433_0 := (HB.out.cell (World.block_lt_of_cell? w _ hx433_0)).trans hx433_0
                      replace hx433_1 := (HB.out.cell (World.block_lt_of_cell? w _ hx433_1)).trans hx433_1
                      replace hx433_2 := (HB.out.cell (World.block_lt_of_cell? w _ hx433_2)).trans hx433_2
                      replace hx433_3 := (HB.out.cell (World.block_lt_of_cell? w _ hx433_3)).trans hx433_3
                      have HR433_2 := Aside0.mk hi433_2
                      have HC433_2 := Aside0.mk hl433_2
                      clear hi433_2 hl433_2
                      have HR433_3 := Aside0.mk hi433_3
                      have HC433_3 := Aside0.mk hl433_3
                      clear hi433_3 hl433_3
                      replace p433 := eq_true p433
                      replace q433 := eq_true q433
                      have ea_ := Option.some.inj (hx432_2.symm.trans hx433_2)
                      injection ea_ with ea_ en_ ec_
                      subst ea_
                      subst ec_
                      clear en_
                      have ea_ := Option.some.inj (hx432_3.symm.trans hx433_3)
                      injection ea_ with ea_ en_ ec_
                      subst ea_
                      subst ec_
                      clear en_
                      try go_wp2
                      go_roundg k2
                      case measure => have := HJ4.out; have := HK2.out; omega
                      case rel => exact ⟨(wrap64 (x4_2 + 1)), (by first | rfl | (simp; done) | (simp [*]; done)), H', ⟨by have := HJ4.out; have := HK2.out; omega⟩, ⟨by (with_reducible repeat (first | refine blk_drewN ?_ _ | refine blk_drew ?_ | refine blk_alloc ?_ _)); exact BK425.out⟩, ⟨by repeat (first | (with_reducible first | exact HB.out | apply below_alloc | apply pw_below_drewN | apply below_drew1 | refine below_set ?_ GE425.out) | exact HB.out)⟩⟩
                  · rw [if_neg c15] at H
                    exact absurd H (by simp)
                · rw [if_neg c14] at H
                  exact absurd H (by simp)
              · rw [if_neg c13] at H
                have c13b0 : decide (x4_2 < (l0_9.length : Int)) = false := decide_eq_false c13
                clear c13
                replace H := Option.bind_eq_some_iff.mp H
                obtain ⟨t429, A390, H⟩ := H
                replace H : (some t429) = some r := H
                have A39 := Aside0.mk A390
                clear A390
                obtain rfl := Option.some.inj H
                have hcz40_0 : wr.cell? ⟨gb425, 0, none⟩ = some (.slice A0_0 l0_0.length c0_0) := (blk_cell BK425.out 0).trans rfl
                have hcz40_1 : wr.cell? ⟨gb425, 1, none⟩ = some (.slice A0_1 l0_1.length c0_1) := (blk_cell BK425.out 1).trans rfl
                have hcz40_2 : wr.cell? ⟨gb425, 2, none⟩ = some (.slice A0_2 l0_2.length c0_2) := (blk_cell BK425.out 2).trans rfl
                have hcz40_3 : wr.cell? ⟨gb425, 3, none⟩ = some (.int .i64 a0_3) := (blk_cell BK425.out 3).trans rfl
                have hcz40_4 : wr.cell? ⟨gb425, 4, none⟩ = some (.int .i64 a0_4) := (blk_cell BK425.out 4).trans rfl
                have hcz40_5 : wr.cell? ⟨gb425, 5, none⟩ = some (.int .i64 a0_5) := (blk_cell BK425.out 5).trans rfl
                have hcz40_6 : wr.cell? ⟨gb425, 6, none⟩ = some (.int .i64 a0_6) := (blk_cell BK425.out 6).trans rfl
                have hcz40_7 : wr.cell? ⟨gb425, 7, none⟩ = some (.int .i64 a0_7) := (blk_cell BK425.out 7).trans rfl
                have hcz40_8 : wr.cell? ⟨gb425, 8, none⟩ = some (.int .i64 a0_8) := (blk_cell BK425.out 8).trans rfl
                have hcz40_9 : wr.cell? ⟨gb425, 9, none⟩ = some (.slice A0_9 l0_9.length c0_9) := (blk_cell BK425.out 9).trans rfl
                have hcz40_10 : wr.cell? ⟨gb425, 10, none⟩ = some (.slice A0_10 l0_10.length c0_10) := (blk_cell BK425.out 10).trans rfl
                have hcz40_11 : wr.cell? ⟨gb425, 11, none⟩ = some (.slice none 0 0) := (blk_cell BK425.out 11).trans rfl
                have hcz40_12 : wr.cell? ⟨gb425, 12, none⟩ = some (.slice none 0 0) := (blk_cell BK425.out 12).trans rfl
                have hcz40_13 : wr.cell? ⟨gb425, 13, none⟩ = some (.int .i64 a0_13) := (blk_cell BK425.out 13).trans rfl
                have hcz40_14 : wr.cell? ⟨gb425, 14, none⟩ = some (.int .i64 a0_14) := (blk_cell BK425.out 14).trans rfl
                have hfz40_0 := blk_frozen BK425.out 0
                have hfz40_1 := blk_frozen BK425.out 1
                have hfz40_2 := blk_frozen BK425.out 2
                have hfz40_3 := blk_frozen BK425.out 3
                have hfz40_4 := blk_frozen BK425.out 4
                have hfz40_5 := blk_frozen BK425.out 5
                have hfz40_6 := blk_frozen BK425.out 6
                have hfz40_7 := blk_frozen BK425.out 7
                have hfz40_8 := blk_frozen BK425.out 8
                have hfz40_9 := blk_frozen BK425.out 9
                have hfz40_10 := blk_frozen BK425.out 10
                have hfz40_11 := blk_frozen BK425.out 11
                have hfz40_12 := blk_frozen BK425.out 12
                have hfz40_13 := blk_frozen BK425.out 13
                have hfz40_14 := blk_frozen BK425.out 14
                go_wp2_with (first | ((with_reducible refine gate_callee (f := 15) rfl ?_); refine goesL_ (some 82) rfl rfl Try.func15 (by kernel_rfl) rfl #[] rfl (by (try simp only [List.map_toArray, List.map_cons, List.map_nil]); first | done | rfl | (simp only [List.length_drop, List.length_take]; rfl)) ?_; (with_reducible refine (dormouselaw17_answers.calls  t429 _ A39.out).mono ?_); rintro e w41 ⟨rfl, hb⟩; refine ⟨_, rfl, ?_⟩; have n0_ := Aside0.mk (blk_below (g := gb425) (o := .cells #[.slice A0_0 l0_0.length c0_0, .slice A0_1 l0_1.length c0_1, .slice A0_2 l0_2.length c0_2, .int .i64 a0_3, .int .i64 a0_4, .int .i64 a0_5, .int .i64 a0_6, .int .i64 a0_7, .int .i64 a0_8, .slice A0_9 l0_9.length c0_9, .slice A0_10 l0_10.length c0_10, .slice none 0 0, .slice none 0 0, .int .i64 a0_13, .int .i64 a0_14] 32 (0, 0)) (by (with_reducible repeat (first | refine blk_drewN ?_ _ | refine blk_drew ?_ | refine blk_alloc ?_ _)); exact BK425.out) hb); have n1_ := Aside0.mk (below_step (by repeat (first | (with_reducible first | exact HB.out | apply below_alloc | apply pw_below_drewN | apply below_drew1 | refine below_set ?_ GE425.out) | exact HB.out)) hb); clear BK425; clear HB; have BK425 := n0_; have HB := n1_; clear n0_ n1_; (try clear hb); (try clear hb2); (try clear hk); (try clear hi)))
                go_ret
                exact ⟨by first | rfl | (simp [errW_none, errW_some] <;> rfl) | (simp [*, errW_none, errW_some] <;> rfl), by repeat (first | (with_reducible first | exact HB.out | apply below_alloc | apply pw_below_drewN | apply below_drew1 | refine below_set ?_ GE425.out) | exact HB.out)⟩
  · replace c3 := Bool.eq_false_iff.mpr c3
    subst c3
    have H1 : ((dormouselaw17_answers.f).bind fun t427 => (some t427)) = some r := by rw [if_neg (show ¬ (false = true) by decide)] at H; exact H
    clear H
    have H := H1
    clear H1
    replace H := Option.bind_eq_some_iff.mp H
    obtain ⟨t427, A420, H⟩ := H
    replace H : (some t427) = some r := H
    have A42 := Aside0.mk A420
    clear A420
    obtain rfl := Option.some.inj H
    go_enter Try.func6, Try.ntmps6
    go_wp2_with (first | ((with_reducible refine gate_dst (N := 1) rfl ?_); refine box_event ?hg (N := 1) ?hd (cs := #[.slice A0_0 l0_0.length c0_0, .slice A0_1 l0_1.length c0_1, .slice A0_2 l0_2.length c0_2, .int .i64 a0_3, .int .i64 a0_4, .int .i64 a0_5, .int .i64 a0_6, .int .i64 a0_7, .int .i64 a0_8, .slice A0_9 l0_9.length c0_9, .slice A0_10 l0_10.length c0_10, .slice A0_11 l0_11.length c0_11, .slice A0_12 l0_12.length c0_12, .int .i64 a0_13, .int .i64 a0_14]) (t := 32) ?hr ?_; (case hd => rfl); (case hg => rfl); (case hr => first | (go_simp; done) | (go_simp; rfl)); intro gb425 hg w43 hbox hb; have n0_ := Aside0.mk (below_step (by repeat (first | (with_reducible first | exact HB.out | apply below_alloc | apply pw_below_drewN | apply below_drew1) | exact HB.out)) hb); have n1_ := Aside0.mk (hbox); have n2_ := Aside0.mk ((by rw [hg]; exact (below_size (by repeat (first | (with_reducible first | exact HB.out | apply below_alloc | apply pw_below_drewN | apply below_drew1) | exact HB.out))) : w.heap.size ≤ gb425)); have n3_ := Aside0.mk ((by rw [hg]; exact (below_size (by repeat (first | (with_reducible first | exact HB.out | apply below_alloc | apply pw_below_drewN | apply below_drew1) | exact HB.out))) : w.heap.size ≤ gb425)); clear HB; have HB := n0_; have BK425 := n1_; have GW425 := n2_; have GE425 := n3_; clear n0_ n1_ n2_ n3_; clear hb hbox hg; have hcz44_0 : w43.cell? ⟨gb425, 0, none⟩ = some (.slice A0_0 l0_0.length c0_0) := (blk_cell BK425.out 0).trans rfl; have hcz44_1 : w43.cell? ⟨gb425, 1, none⟩ = some (.slice A0_1 l0_1.length c0_1) := (blk_cell BK425.out 1).trans rfl; have hcz44_2 : w43.cell? ⟨gb425, 2, none⟩ = some (.slice A0_2 l0_2.length c0_2) := (blk_cell BK425.out 2).trans rfl; have hcz44_3 : w43.cell? ⟨gb425, 3, none⟩ = some (.int .i64 a0_3) := (blk_cell BK425.out 3).trans rfl; have hcz44_4 : w43.cell? ⟨gb425, 4, none⟩ = some (.int .i64 a0_4) := (blk_cell BK425.out 4).trans rfl; have hcz44_5 : w43.cell? ⟨gb425, 5, none⟩ = some (.int .i64 a0_5) := (blk_cell BK425.out 5).trans rfl; have hcz44_6 : w43.cell? ⟨gb425, 6, none⟩ = some (.int .i64 a0_6) := (blk_cell BK425.out 6).trans rfl; have hcz44_7 : w43.cell? ⟨gb425, 7, none⟩ = some (.int .i64 a0_7) := (blk_cell BK425.out 7).trans rfl; have hcz44_8 : w43.cell? ⟨gb425, 8, none⟩ = some (.int .i64 a0_8) := (blk_cell BK425.out 8).trans rfl; have hcz44_9 : w43.cell? ⟨gb425, 9, none⟩ = some (.slice A0_9 l0_9.length c0_9) := (blk_cell BK425.out 9).trans rfl; have hcz44_10 : w43.cell? ⟨gb425, 10, none⟩ = some (.slice A0_10 l0_10.length c0_10) := (blk_cell BK425.out 10).trans rfl; have hcz44_11 : w43.cell? ⟨gb425, 11, none⟩ = some (.slice A0_11 l0_11.length c0_11) := (blk_cell BK425.out 11).trans rfl; have hcz44_12 : w43.cell? ⟨gb425, 12, none⟩ = some (.slice A0_12 l0_12.length c0_12) := (blk_cell BK425.out 12).trans rfl; have hcz44_13 : w43.cell? ⟨gb425, 13, none⟩ = some (.int .i64 a0_13) := (blk_cell BK425.out 13).trans rfl; have hcz44_14 : w43.cell? ⟨gb425, 14, none⟩ = some (.int .i64 a0_14) := (blk_cell BK425.out 14).trans rfl; have hfz44_0 := blk_frozen BK425.out 0; have hfz44_1 := blk_frozen BK425.out 1; have hfz44_2 := blk_frozen BK425.out 2; have hfz44_3 := blk_frozen BK425.out 3; have hfz44_4 := blk_frozen BK425.out 4; have hfz44_5 := blk_frozen BK425.out 5; have hfz44_6 := blk_frozen BK425.out 6; have hfz44_7 := blk_frozen BK425.out 7; have hfz44_8 := blk_frozen BK425.out 8; have hfz44_9 := blk_frozen BK425.out 9; have hfz44_10 := blk_frozen BK425.out 10; have hfz44_11 := blk_frozen BK425.out 11; have hfz44_12 := blk_frozen BK425.out 12; have hfz44_13 := blk_frozen BK425.out 13; have hfz44_14 := blk_frozen BK425.out 14) | ((with_reducible refine gate_callee (f := 14) rfl ?_); refine goesL_ (some 9) rfl rfl Try.func14 (by kernel_rfl) rfl #[.agg #[.slice A0_0 l0_0.length c0_0, .slice A0_1 l0_1.length c0_1, .slice A0_2 l0_2.length c0_2, .int .i64 a0_3, .int .i64 a0_4, .int .i64 a0_5, .int .i64 a0_6, .int .i64 a0_7, .int .i64 a0_8, .slice A0_9 l0_9.length c0_9, .slice A0_10 l0_10.length c0_10, .slice none 0 0, .slice none 0 0, .int .i64 a0_13, .int .i64 a0_14]] rfl (by (try simp only [List.map_toArray, List.map_cons, List.map_nil]); first | done | rfl | (simp only [List.length_drop, List.length_take]; rfl)) ?_; (refine (dormouselaw17_good.calls k _ _ l0_0 _ _ l0_1 _ _ l0_2 a0_3 a0_4 a0_5 a0_6 a0_7 a0_8 _ _ l0_9 _ _ l0_10 _ _ ([] : List (S38)) _ _ ([] : List (S56)) a0_13 a0_14 false _ ?side1 ?side2 ?side3 ?side4 ?side5 ?side6 ?side7 ?side8 ?side9 ?side10 ?side11 ?side12 ?side13 ?side14 A2.out).mono ?_); (case side1 => exact Kd.C_below HR0_0.out (by repeat (first | (with_reducible first | exact HB.out | apply below_alloc | apply pw_below_drewN | apply below_drew1 | refine below_set ?_ GE425.out) | exact HB.out))); (case side2 => exact HC0_0.out); (case side3 => exact Kd.C_below HR0_1.out (by repeat (first | (with_reducible first | exact HB.out | apply below_alloc | apply pw_below_drewN | apply below_drew1 | refine below_set ?_ GE425.out) | exact HB.out))); (case side4 => exact HC0_1.out); (case side5 => exact Kd.C_below HR0_2.out (by repeat (first | (with_reducible first | exact HB.out | apply below_alloc | apply pw_below_drewN | apply below_drew1 | refine below_set ?_ GE425.out) | exact HB.out))); (case side6 => exact HC0_2.out); (case side7 => exact Kd.C_below HR0_9.out (by repeat (first | (with_reducible first | exact HB.out | apply below_alloc | apply pw_below_drewN | apply below_drew1 | refine below_set ?_ GE425.out) | exact HB.out))); (case side8 => exact HC0_9.out); (case side9 => exact Kd.C_below HR0_10.out (by repeat (first | (with_reducible first | exact HB.out | apply below_alloc | apply pw_below_drewN | apply below_drew1 | refine below_set ?_ GE425.out) | exact HB.out))); (case side10 => exact HC0_10.out); (case side11 => exact Kd.C_nil _ _); (case side12 => exact Nat.le_refl _); (case side13 => exact Kd.C_nil _ _); (case side14 => exact Nat.le_refl _); rintro e w45 ⟨rfl, hb⟩; refine ⟨_, rfl, ?_⟩; have n0_ := Aside0.mk (blk_below (g := gb425) (o := .cells #[.slice A0_0 l0_0.length c0_0, .slice A0_1 l0_1.length c0_1, .slice A0_2 l0_2.length c0_2, .int .i64 a0_3, .int .i64 a0_4, .int .i64 a0_5, .int .i64 a0_6, .int .i64 a0_7, .int .i64 a0_8, .slice A0_9 l0_9.length c0_9, .slice A0_10 l0_10.length c0_10, .slice none 0 0, .slice none 0 0, .int .i64 a0_13, .int .i64 a0_14] 32 (0, 0)) (by (with_reducible repeat (first | refine blk_drewN ?_ _ | refine blk_drew ?_ | refine blk_alloc ?_ _)); refine blk_put (cs := #[.slice A0_0 l0_0.length c0_0, .slice A0_1 l0_1.length c0_1, .slice A0_2 l0_2.length c0_2, .int .i64 a0_3, .int .i64 a0_4, .int .i64 a0_5, .int .i64 a0_6, .int .i64 a0_7, .int .i64 a0_8, .slice A0_9 l0_9.length c0_9, .slice A0_10 l0_10.length c0_10, .slice none 0 0, .slice A0_12 l0_12.length c0_12, .int .i64 a0_13, .int .i64 a0_14]) ?_ 12 _ rfl; (with_reducible repeat (first | refine blk_drewN ?_ _ | refine blk_drew ?_ | refine blk_alloc ?_ _)); refine blk_put (cs := #[.slice A0_0 l0_0.length c0_0, .slice A0_1 l0_1.length c0_1, .slice A0_2 l0_2.length c0_2, .int .i64 a0_3, .int .i64 a0_4, .int .i64 a0_5, .int .i64 a0_6, .int .i64 a0_7, .int .i64 a0_8, .slice A0_9 l0_9.length c0_9, .slice A0_10 l0_10.length c0_10, .slice A0_11 l0_11.length c0_11, .slice A0_12 l0_12.length c0_12, .int .i64 a0_13, .int .i64 a0_14]) ?_ 11 _ rfl; (with_reducible repeat (first | refine blk_drewN ?_ _ | refine blk_drew ?_ | refine blk_alloc ?_ _)); exact BK425.out) hb); have n1_ := Aside0.mk (below_step (by repeat (first | (with_reducible first | exact HB.out | apply below_alloc | apply pw_below_drewN | apply below_drew1 | refine below_set ?_ GE425.out) | exact HB.out)) hb); clear BK425; clear HB; have BK425 := n0_; have HB := n1_; clear n0_ n1_; (try clear hb); (try clear hb2); (try clear hk); (try clear hi)) | ((with_reducible refine gate_callee (f := 15) rfl ?_); refine goesL_ (some 11) rfl rfl Try.func15 (by kernel_rfl) rfl #[] rfl (by (try simp only [List.map_toArray, List.map_cons, List.map_nil]); first | done | rfl | (simp only [List.length_drop, List.length_take]; rfl)) ?_; (with_reducible refine (dormouselaw17_answers.calls  t427 _ A42.out).mono ?_); rintro e w46 ⟨rfl, hb⟩; refine ⟨_, rfl, ?_⟩; have n0_ := Aside0.mk (blk_below (g := gb425) (o := .cells #[.slice A0_0 l0_0.length c0_0, .slice A0_1 l0_1.length c0_1, .slice A0_2 l0_2.length c0_2, .int .i64 a0_3, .int .i64 a0_4, .int .i64 a0_5, .int .i64 a0_6, .int .i64 a0_7, .int .i64 a0_8, .slice A0_9 l0_9.length c0_9, .slice A0_10 l0_10.length c0_10, .slice none 0 0, .slice none 0 0, .int .i64 a0_13, .int .i64 a0_14] 32 (0, 0)) (by (with_reducible repeat (first | refine blk_drewN ?_ _ | refine blk_drew ?_ | refine blk_alloc ?_ _)); exact BK425.out) hb); have n1_ := Aside0.mk (below_step (by repeat (first | (with_reducible first | exact HB.out | apply below_alloc | apply pw_below_drewN | apply below_drew1 | refine below_set ?_ GE425.out) | exact HB.out)) hb); clear BK425; clear HB; have BK425 := n0_; have HB := n1_; clear n0_ n1_; (try clear hb); (try clear hb2); (try clear hk); (try clear hi)))
    go_ret
    exact ⟨by first | rfl | (simp [errW_none, errW_some] <;> rfl) | (simp [*, errW_none, errW_some] <;> rfl), by repeat (first | (with_reducible first | exact HB.out | apply below_alloc | apply pw_below_drewN | apply below_drew1 | refine below_set ?_ GE425.out) | exact HB.out)⟩
end
end Go.Proofs.Ytchlbnlhjllcbaa.F
namespace Go.Proofs.Ytchlbnlhjllcbaa.Sla
open Go.RowKit Go.Proofs.Ytchlbnlhjllcbaa.F Go.Proofs.Ytchlbnlhjllcbaa.Tbl Go.Proofs.Ytchlbnlhjllcbaa.Adm Go.Proofs.Ytchlbnlhjllcbaa.Opn Go.Proofs.YtchlbnlhjllcbaaW.PrintWords Go.Proofs.YtchlbnlhjllcbaaW.PrintLast
set_option linter.unusedVariables false
section
variable {l0 : List S58} {l1 : List S68} {l2 : List S71} {idle crit sw swE sems hor : Int} {ts : List S36} {nx : List Int} {now a : Int}
theorem max_some (x y : Int) : dormouseref01_Max.f x y = some (mx y x) := by
  unfold dormouseref01_Max.f mx
  by_cases h : x > y
  · rw [if_pos h, if_pos (by omega)]
  · rw [if_neg h, if_neg (by omega)]
theorem time_loop (g : GoodV l0 l1 l2 idle crit sw swE sems hor ts nx now a) (d : Nat) : ∀ (i k : Nat), i + d = ts.length → d < k → dormouselaw17_RestTime.l0 k (nap (least l0 sw now nx ts)) i l0 l1 l2 idle crit sw swE sems hor ts nx now a = some true := by
  have few := g.few
  have hl := g.len
  have hn := g.now
  have hh := head_of g.table
  have nb := nap_bd (least l0 sw now nx ts)
  induction d with
  | zero =>
    intro i k hi hk
    obtain ⟨k, rfl⟩ : ∃ q, k = q + 1 := ⟨k - 1, by omega⟩
    simp only [dormouselaw17_RestTime.l0]
    rw [if_neg (by omega), answers_yes]; rfl
  | succ d ih =>
    intro i k hi hk
    obtain ⟨k, rfl⟩ : ∃ q, k = q + 1 := ⟨k - 1, by omega⟩
    have hil : i < ts.length := by omega
    have hx := g.next i hil
    have go := ih (i + 1) k (by omega) (by omega)
    rw [show ((i + 1 : Nat) : Int) = (i : Int) + 1 from by omega] at go
    simp only [dormouselaw17_RestTime.l0]
    rw [if_pos (by omega), if_pos (by omega), if_pos (by omega), max_some, Option.bind_some, Adm.w64 (n := (i : Int) + 1) (by omega) (by omega)]
    by_cases c1 : (rd_T36 ts i).f0 > 0
    · rw [if_pos c1]
      by_cases c2 : nap (least l0 sw now nx ts) > 0
      · rw [if_pos c2]
        have tk : TaskOk l2.length sems hor (rd_T36 ts i) := by
          rcases g.task i hil with y | y
          · have := y.1; omega
          · exact y
        have p := tk.period
        have mb : 0 ≤ mx now (rd nx i) ∧ mx now (rd nx i) ≤ 2097152 := by unfold mx; split <;> omega
        rw [Adm.w64 (n := mx now (rd nx i) + (rd_T36 ts i).f0) (by omega) (by omega)]
        by_cases c3 : mx now (rd nx i) + (rd_T36 ts i).f0 ≤ 2097152
        · rw [if_pos c3]
          unfold slack_At.f
          rw [if_pos (show ([] : List S73).length = 0 from rfl), at_some g (by omega) (by omega), Option.bind_some, Adm.w64 (n := nap (least l0 sw now nx ts) * 4294967296) (by omega) (by omega)]
          have mem := ms_mem (nx := nx) (now := now) ts 0 i hil c1
          rw [Nat.zero_add] at mem
          have h1 := (fl_le (atV l0 sw now nx ts) (ms now nx ts 0) 4611686018427387904).2 _ mem
          have h2 := nap_le c2
          have h3 : least l0 sw now nx ts ≤ atV l0 sw now nx ts (mx now (rd nx i) + (rd_T36 ts i).f0) := h1
          rw [if_neg (by omega)]
          exact go
        · rw [if_neg c3]; exact go
      · rw [if_neg c2]; exact go
    · rw [if_neg c1]; exact go
theorem time_pure (ts : List S36) (nx : List Int) (js : List S38) (hs : List S56) (now a : Int) {k : Nat} (hk : 3000 < k) : dormouselaw17_RestTime.f k l0 l1 l2 idle crit sw swE sems hor ts nx js hs now a = some true := by
  unfold dormouselaw17_RestTime.f
  rw [good17_some ts nx now a (by omega), Option.bind_some]
  by_cases g : GoodV l0 l1 l2 idle crit sw swE sems hor ts nx now a
  · have hn := g.now
    have nb := nap_bd (least l0 sw now nx ts)
    have few := g.few
    rw [if_pos (goodB_yes g), ready_some g, Option.bind_some, show now + nap (least l0 sw now nx ts) - now = nap (least l0 sw now nx ts) from by omega, Adm.w64 (n := nap (least l0 sw now nx ts)) (by omega) (by omega), if_neg (by omega), decide_eq_false (by omega)]
    obtain ⟨k, rfl⟩ : ∃ q, k = q + 1 := ⟨k - 1, by omega⟩
    simp only [dormouselaw17_RestTime.j0]
    rw [if_neg (by simp)]
    exact time_loop g ts.length 0 k (by omega) (by omega)
  · rw [if_neg (by rw [goodB_no g]; simp), answers_yes]; rfl
end
theorem great : ∃ k : Nat, 3000 < k := ⟨_, Nat.lt_succ_self _⟩
theorem time_calls {w : World} (x : VView) (cs : List Value) (h : kView.K w x cs) (_ok : True) :
    Calls Try.prog 6 #[.agg cs.toArray] w fun e w' => e = .returned (.bool true) ∧ Below w.heap.size w w' := by
  obtain ⟨A0, c0, A1, c1, A2, c2, A3, c3, A4, c4, A5, c5, A6, c6, rfl, ⟨g0, r0⟩, ⟨g1, r1⟩, ⟨g2, r2⟩, ⟨g3, r3⟩, ⟨g4, r4⟩, ⟨g5, r5⟩, ⟨g6, r6⟩⟩ := view_open h
  obtain ⟨k, hk⟩ := great
  exact dormouselaw17_RestTime.calls k A0 c0 _ A1 c1 _ A2 c2 _ _ _ _ _ _ _ A3 c3 _ A4 c4 _ A5 c5 _ A6 c6 _ _ _ true w r0 g0 r1 g1 r2 g2 r3 g3 r4 g4 r5 g5 r6 g6 (time_pure _ _ _ _ _ _ hk)
end Go.Proofs.Ytchlbnlhjllcbaa.Sla
namespace Go.Proofs.Ytchlbnlhjllcbaa.restTime
open Go.ChangeShapes Go.WideShapes Go.ChangeAt Go.RowKit Go.Proofs.Ytchlbnlhjllcbaa.Opn
set_option linter.unusedVariables false
theorem own : ownKnob Try.prog.godebug = none := by kernel_rfl
theorem laidOut : laidOutB Try.prog = true := by kernel_rfl
set_option maxRecDepth 100000 in
theorem lifted (os : Os) (started : os.Started) (H : Type) (enc : TypeId × Value → H) :
    ReturnsInHanded {} Try.checked os 6 .any (Rows.restTimeSpec.pre6 enc Try.prog Try.f6 Rows.restTimeRow.domain false) (Rows.restTimeSpec.post enc Try.prog Try.f6 false true false false) := by
  refine returnsInHanded_of_change_sized (C := Try.checked) own started (by kernel_rfl) Try.func6
    (ChangeSpec.witness6 (enc := enc) (C := Try.checked) false ⟨#[], #[.agg #[.slice none 0 0, .slice none 0 0, .slice none 0 0, .int .i64 0, .int .i64 0, .int .i64 0, .int .i64 0, .int .i64 0, .int .i64 0, .slice none 0 0, .slice none 0 0, .slice none 0 0, .slice none 0 0, .int .i64 0, .int .i64 0]], []⟩ 8 (by kernel_rfl) (by kernel_rfl) (by kernel_rfl) (by kernel_rfl)) ?_
  intro W base args ds gs before hval0 hW hcnd hsz0 _
  have hval : ∀ (j : Nat) t v, Try.f6.params[j]? = some t → args[j]? = some v → Value.okWide Try.prog W .any base t v := hval0
  have hW' := hW
  obtain ⟨p, q, hA0, hV, rfl, hfz, hnd⟩ := hW
  have hA : DataW.TrodAll enc Try.prog W 0 (fun _ => true) true Try.f6.params.toList args.toList ds p := hA0
  rw [Try.params6] at hA hval
  obtain ⟨v0, vs0, d0, ds0, p0, q0, hargs, rfl, rfl, h0, r0⟩ := trodAll_cons hA
  obtain ⟨rfl, rfl, rfl⟩ := trodAll_nil r0
  obtain rfl : args = #[v0] := by cases args; simp_all
  obtain ⟨rfl, rfl⟩ := trodVars_none hV
  have k0 := h0
  have lt0 : ∀ x ∈ p0, x.block < W.heap.size := by obtain ⟨m, hm⟩ := k0; exact DataW.trod_lt m _ _ _ hm
  obtain ⟨x0, g0, ok0⟩ := Opens.get oView h0
  obtain ⟨cs0, rfl, e0⟩ := agg_of Try.underlying32 (hval 0 32 v0 rfl rfl)
  rw [e0] at g0
  clear hA0 hval0 hsz0
  refine (Sla.time_calls (w := W) x0 cs0 g0 ok0).mono fun e W' ⟨he, bel⟩ => ?_
  subst he
  exact ⟨_, rfl, _, _, _, [], _, [], hW', trodAll_mk1 (shut_bool Try.underlying4 _), (trodAll_cons_mk (Below.trod laidOut (by kernel_rfl) (of_decide_eq_true (by kernel_rfl)) k0 bel lt0) trodAll_mk0), rfl, bel.frame _, fun h => by cases h⟩
theorem over : Rows.restTimeRow.holds Try.pinned (OpenSpec.ofChange Rows.restTimeSpec) :=
  OpenClaim.holds_of_wide 6 Try.f6 rfl rfl rfl rfl rfl rfl rfl ⟨rfl, rfl, rfl, rfl, rfl⟩ rfl rfl rfl rfl rfl (by kernel_rfl) Try.func6 (by kernel_rfl)
    (of_decide_eq_true (by kernel_rfl)) (by unfold Func.isWrapper; first | (rw [if_pos (by decide +kernel)]; kernel_rfl) | (rw [if_neg (by decide +kernel)]; exact ⟨rfl, rfl⟩))
    (fun os started H enc _ => lifted os started H enc)
theorem proved : Rows.RestTimeSaid := over
end Go.Proofs.Ytchlbnlhjllcbaa.restTime
namespace Go.Proofs.Ytchlbnlhjllcbaa
/-- The row, under a short name, for the claim. -/
theorem restTime_holds : Rows.RestTimeSaid := restTime.proved
end Go.Proofs.Ytchlbnlhjllcbaa
