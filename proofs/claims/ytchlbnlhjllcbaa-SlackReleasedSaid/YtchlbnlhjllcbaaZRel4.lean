/- When a job comes of a task that fits by itself, no earlier than it may, what is left over up to any moment is no less than before. Conditions: none. -/
import Derived.Test.YtchlbnlhjllcbaaZRel3
import Derived.Deep.RegionHeld3
import Derived.Deep.QuietTactic
import Derived.BigQuiet
import Derived.Outline
import Derived.Test.YtchlbnlhjllcbaaRows
import Derived.WalkKit
import Derived.ProofKit
import Derived.OpenShut
import Derived.ShutString
import Derived.ChangeOld
import Derived.Below
import Derived.SizedLaws
namespace Go.Proofs.Ytchlbnlhjllcbaa.F
open Go.RowKit Go.Proofs.YtchlbnlhjllcbaaW.PrintWords Go.Proofs.YtchlbnlhjllcbaaW.PrintLast Go.Proofs.YtchlbnlhjllcbaaW.PrintMore
attribute [local go_sem] max2_int min2_int max_two min_two max_three min_three max_four min_four   -- for this text's walks alone
set_option linter.unusedVariables false
set_option linter.unusedSimpArgs false
def dormouselaw15_at.f (k : Nat) (l0_0 : List (S58)) (l0_1 : List (S68)) (l0_2 : List (S71)) (a0_3 : Int) (a0_4 : Int) (a0_5 : Int) (a0_6 : Int) (a0_7 : Int) (a0_8 : Int) (l0_9 : List (S36)) (l0_10 : List Int) (l0_11 : List (S38)) (l0_12 : List (S56)) (a0_13 : Int) (a0_14 : Int) (a1 : Int) : Option (Int) := (dormouselaw15_held.f k l0_12).bind fun t280 => ((slack_At.f l0_0 l0_1 l0_2 a0_3 a0_4 a0_5 a0_6 a0_7 a0_8 l0_9 l0_10 l0_11 t280 a0_13 a1).bind fun t283 => (some t283))
def dormouselaw15_at.T1 : Bool × List (List Nat × List Nat) := (true, [([], []), ([0], [0]), ([], []), ([2], [2]), ([], []), ([4], [4]), ([], []), ([6], [6]), ([], []), ([8], [8]), ([9], [9]), ([], []), ([11], [11]), ([], []), ([1, 3, 5, 7, 10, 12, 13, 10], [1, 3, 5, 7, 10, 12, 13]), ([14, 14, 0, 1, 2, 3, 4, 5, 6, 7, 8, 9, 10, 11, 12, 13, 14], [14])])
def dormouselaw15_at.B1 : List Nat := [0, 1, 0, 4, 0, 16, 0, 64, 0, 256, 768, 0, 2048, 0, 16383, 32767]
theorem dormouselaw15_at.tab1 : rtab .any (opsOf Try.f13 1) = dormouselaw15_at.T1 := by kernel_rfl
theorem dormouselaw15_at.bits1 : waitsOk dormouselaw15_at.T1.2 dormouselaw15_at.B1 = true := by kernel_rfl
set_option maxHeartbeats 8000000 in
set_option maxRecDepth 100000 in
theorem dormouselaw15_at.calls (k : Nat) (A0_0 : Option Addr) (c0_0 : Nat) (l0_0 : List (S58)) (A0_1 : Option Addr) (c0_1 : Nat) (l0_1 : List (S68)) (A0_2 : Option Addr) (c0_2 : Nat) (l0_2 : List (S71)) (a0_3 : Int) (a0_4 : Int) (a0_5 : Int) (a0_6 : Int) (a0_7 : Int) (a0_8 : Int) (A0_9 : Option Addr) (c0_9 : Nat) (l0_9 : List (S36)) (A0_10 : Option Addr) (c0_10 : Nat) (l0_10 : List Int) (A0_11 : Option Addr) (c0_11 : Nat) (l0_11 : List (S38)) (A0_12 : Option Addr) (c0_12 : Nat) (l0_12 : List (S56)) (a0_13 : Int) (a0_14 : Int) (a1 : Int) (r : Int) (w : World) (hr0_0 : Kd.C k58 w A0_0 l0_0.length l0_0) (hc0_0 : l0_0.length ≤ c0_0) (hr0_1 : Kd.C k68 w A0_1 l0_1.length l0_1) (hc0_1 : l0_1.length ≤ c0_1) (hr0_2 : Kd.C k71 w A0_2 l0_2.length l0_2) (hc0_2 : l0_2.length ≤ c0_2) (hr0_9 : Kd.C k36 w A0_9 l0_9.length l0_9) (hc0_9 : l0_9.length ≤ c0_9) (hr0_10 : Kd.C (Kd.int .i64) w A0_10 l0_10.length l0_10) (hc0_10 : l0_10.length ≤ c0_10) (hr0_11 : Kd.C k38 w A0_11 l0_11.length l0_11) (hc0_11 : l0_11.length ≤ c0_11) (hr0_12 : Kd.C k56 w A0_12 l0_12.length l0_12) (hc0_12 : l0_12.length ≤ c0_12) (h : dormouselaw15_at.f k l0_0 l0_1 l0_2 a0_3 a0_4 a0_5 a0_6 a0_7 a0_8 l0_9 l0_10 l0_11 l0_12 a0_13 a0_14 a1 = some r) :
    Calls Try.prog 13 #[.agg #[.slice A0_0 l0_0.length c0_0, .slice A0_1 l0_1.length c0_1, .slice A0_2 l0_2.length c0_2, .int .i64 a0_3, .int .i64 a0_4, .int .i64 a0_5, .int .i64 a0_6, .int .i64 a0_7, .int .i64 a0_8, .slice A0_9 l0_9.length c0_9, .slice A0_10 l0_10.length c0_10, .slice A0_11 l0_11.length c0_11, .slice A0_12 l0_12.length c0_12, .int .i64 a0_13, .int .i64 a0_14], .int .i64 a1] w fun e w' => e = .returned (.int .i64 r) ∧ Below w.heap.size w w' := by
  have hu32 := Try.underlying32
  have hu26 := Try.underlying26
  have HR0_0 := Aside0.mk hr0_0
  have HC0_0 := Aside0.mk hc0_0
  clear hr0_0 hc0_0
  have HR0_1 := Aside0.mk hr0_1
  have HC0_1 := Aside0.mk hc0_1
  clear hr0_1 hc0_1
  have HR0_2 := Aside0.mk hr0_2
  have HC0_2 := Aside0.mk hc0_2
  clear hr0_2 hc0_2
  have HR0_9 := Aside0.mk hr0_9
  have HC0_9 := Aside0.mk hc0_9
  clear hr0_9 hc0_9
  have HR0_10 := Aside0.mk hr0_10
  have HC0_10 := Aside0.mk hc0_10
  clear hr0_10 hc0_10
  have HR0_11 := Aside0.mk hr0_11
  have HC0_11 := Aside0.mk hc0_11
  clear hr0_11 hc0_11
  have HR0_12 := Aside0.mk hr0_12
  have HC0_12 := Aside0.mk hc0_12
  clear hr0_12 hc0_12
  have HB := Aside0.mk (Below.refl w.heap.size w)
  have H : ((dormouselaw15_held.f k l0_12).bind fun t280 => ((slack_At.f l0_0 l0_1 l0_2 a0_3 a0_4 a0_5 a0_6 a0_7 a0_8 l0_9 l0_10 l0_11 t280 a0_13 a1).bind fun t283 => (some t283))) = some r := h
  clear h
  replace H := Option.bind_eq_some_iff.mp H
  obtain ⟨t280, A30, H⟩ := H
  replace H : ((slack_At.f l0_0 l0_1 l0_2 a0_3 a0_4 a0_5 a0_6 a0_7 a0_8 l0_9 l0_10 l0_11 t280 a0_13 a1).bind fun t283 => (some t283)) = some r := H
  have A3 := Aside0.mk A30
  clear A30
  replace H := Option.bind_eq_some_iff.mp H
  obtain ⟨t283, A40, H⟩ := H
  replace H : (some t283) = some r := H
  have A4 := Aside0.mk A40
  clear A40
  obtain rfl := Option.some.inj H
  go_enter Try.func13, Try.ntmps13
  try go_wp2_with (first | ((with_reducible refine gate_dst (N := 2) rfl ?_); refine box_event ?hg (N := 2) ?hd (cs := #[.slice A0_0 l0_0.length c0_0, .slice A0_1 l0_1.length c0_1, .slice A0_2 l0_2.length c0_2, .int .i64 a0_3, .int .i64 a0_4, .int .i64 a0_5, .int .i64 a0_6, .int .i64 a0_7, .int .i64 a0_8, .slice A0_9 l0_9.length c0_9, .slice A0_10 l0_10.length c0_10, .slice A0_11 l0_11.length c0_11, .slice A0_12 l0_12.length c0_12, .int .i64 a0_13, .int .i64 a0_14]) (t := 32) ?hr ?_; (case hd => rfl); (case hg => rfl); (case hr => first | (go_simp; done) | (go_simp; rfl)); intro gb279 hg w5 hbox hb; have n0_ := Aside0.mk (below_step (by repeat (first | (with_reducible first | exact HB.out | apply below_alloc | apply pw_below_drewN | apply below_drew1) | exact HB.out)) hb); have n1_ := Aside0.mk (hbox); have n2_ := Aside0.mk ((by rw [hg]; exact (below_size (by repeat (first | (with_reducible first | exact HB.out | apply below_alloc | apply pw_below_drewN | apply below_drew1) | exact HB.out))) : w.heap.size ≤ gb279)); have n3_ := Aside0.mk ((by rw [hg]; exact (below_size (by repeat (first | (with_reducible first | exact HB.out | apply below_alloc | apply pw_below_drewN | apply below_drew1) | exact HB.out))) : w.heap.size ≤ gb279)); clear HB; have HB := n0_; have BK279 := n1_; have GW279 := n2_; have GE279 := n3_; clear n0_ n1_ n2_ n3_; clear hb hbox hg))
  have n0_ := Aside0.mk (blk_drew BK279.out)
  have n1_ := Aside0.mk (below_drew1 HB.out)
  clear BK279
  clear HB
  have BK279 := n0_
  have HB := n1_
  clear n0_ n1_
  refine start_ (n := 16) (S := fun w' => w'.cell? ⟨gb279, 0, none⟩ = some (.slice A0_0 l0_0.length c0_0) ∧ w'.cell? ⟨gb279, 1, none⟩ = some (.slice A0_1 l0_1.length c0_1) ∧ w'.cell? ⟨gb279, 2, none⟩ = some (.slice A0_2 l0_2.length c0_2) ∧ w'.cell? ⟨gb279, 3, none⟩ = some (.int .i64 a0_3) ∧ w'.cell? ⟨gb279, 4, none⟩ = some (.int .i64 a0_4) ∧ w'.cell? ⟨gb279, 5, none⟩ = some (.int .i64 a0_5) ∧ w'.cell? ⟨gb279, 6, none⟩ = some (.int .i64 a0_6) ∧ w'.cell? ⟨gb279, 7, none⟩ = some (.int .i64 a0_7) ∧ w'.cell? ⟨gb279, 8, none⟩ = some (.int .i64 a0_8) ∧ w'.cell? ⟨gb279, 9, none⟩ = some (.slice A0_9 l0_9.length c0_9) ∧ w'.cell? ⟨gb279, 10, none⟩ = some (.slice A0_10 l0_10.length c0_10) ∧ w'.cell? ⟨gb279, 11, none⟩ = some (.slice A0_11 l0_11.length c0_11) ∧ w'.cell? ⟨gb279, 12, none⟩ = some (.slice A0_12 l0_12.length c0_12) ∧ w'.cell? ⟨gb279, 13, none⟩ = some (.int .i64 a0_13) ∧ w'.cell? ⟨gb279, 14, none⟩ = some (.int .i64 a0_14)) (ds := []) #[false, false, false, false, false, false, false, false, false, false, false, false, false, false, false, false] (by kernel_rfl) rfl rfl ⟨(blk_cell BK279.out 0).trans rfl, (blk_cell BK279.out 1).trans rfl, (blk_cell BK279.out 2).trans rfl, (blk_cell BK279.out 3).trans rfl, (blk_cell BK279.out 4).trans rfl, (blk_cell BK279.out 5).trans rfl, (blk_cell BK279.out 6).trans rfl, (blk_cell BK279.out 7).trans rfl, (blk_cell BK279.out 8).trans rfl, (blk_cell BK279.out 9).trans rfl, (blk_cell BK279.out 10).trans rfl, (blk_cell BK279.out 11).trans rfl, (blk_cell BK279.out 12).trans rfl, (blk_cell BK279.out 13).trans rfl, (blk_cell BK279.out 14).trans rfl⟩ (fun hHeld => ?_); refine with_tabW dormouselaw15_at.tab1 dormouselaw15_at.bits1 (fun HT_ HW_ => ?_)
  generalize w5.drew = w6 at BK279 HB hHeld ⊢
  refine pure_ (i := 0) (N := some 5) (v := ?_) (a' := ?_) #[true, false, false, false, false, false, false, false, false, false, false, false, false, false, false, false] rfl rfl (any_of HT_.out (by kernel_rfl)) (fun _ _ _ h => h) (Or.inl ⟨by rfl, ?_⟩) ?_ ?_
  rotate_left
  · intro w'
    go_simp
    with_reducible rfl
  rotate_left
  · simp only [Act.put, List.setIfInBounds_toArray, List.set_cons_zero, List.set_cons_succ, i64_w, i32_w]
    rfl
  refine pure_ (i := 2) (N := some 7) (v := ?_) (a' := ?_) #[true, false, true, false, false, false, false, false, false, false, false, false, false, false, false, false] rfl rfl (any_of HT_.out (by kernel_rfl)) (fun _ _ _ h => h) (Or.inl ⟨by rfl, ?_⟩) ?_ ?_
  rotate_left
  · intro w'
    go_simp
    with_reducible rfl
  rotate_left
  · simp only [Act.put, List.setIfInBounds_toArray, List.set_cons_zero, List.set_cons_succ, i64_w, i32_w]
    rfl
  refine pure_ (i := 4) (N := some 9) (v := ?_) (a' := ?_) #[true, false, true, false, true, false, false, false, false, false, false, false, false, false, false, false] rfl rfl (any_of HT_.out (by kernel_rfl)) (fun _ _ _ h => h) (Or.inl ⟨by rfl, ?_⟩) ?_ ?_
  rotate_left
  · intro w'
    go_simp
    with_reducible rfl
  rotate_left
  · simp only [Act.put, List.setIfInBounds_toArray, List.set_cons_zero, List.set_cons_succ, i64_w, i32_w]
    rfl
  refine pure_ (i := 6) (N := some 11) (v := ?_) (a' := ?_) #[true, false, true, false, true, false, true, false, false, false, false, false, false, false, false, false] rfl rfl (any_of HT_.out (by kernel_rfl)) (fun _ _ _ h => h) (Or.inl ⟨by rfl, ?_⟩) ?_ ?_
  rotate_left
  · intro w'
    go_simp
    with_reducible rfl
  rotate_left
  · simp only [Act.put, List.setIfInBounds_toArray, List.set_cons_zero, List.set_cons_succ, i64_w, i32_w]
    rfl
  refine pure_ (i := 8) (N := some 13) (v := ?_) (a' := ?_) #[true, false, true, false, true, false, true, false, true, false, false, false, false, false, false, false] rfl rfl (any_of HT_.out (by kernel_rfl)) (fun _ _ _ h => h) (Or.inl ⟨by rfl, ?_⟩) ?_ ?_
  rotate_left
  · intro w'
    go_simp
    with_reducible rfl
  rotate_left
  · simp only [Act.put, List.setIfInBounds_toArray, List.set_cons_zero, List.set_cons_succ, i64_w, i32_w]
    rfl
  refine pure_ (i := 11) (N := some 16) (v := ?_) (a' := ?_) #[true, false, true, false, true, false, true, false, true, false, false, true, false, false, false, false] rfl rfl (any_of HT_.out (by kernel_rfl)) (fun _ _ _ h => h) (Or.inl ⟨by rfl, ?_⟩) ?_ ?_
  rotate_left
  · intro w'
    go_simp
    with_reducible rfl
  rotate_left
  · simp only [Act.put, List.setIfInBounds_toArray, List.set_cons_zero, List.set_cons_succ, i64_w, i32_w]
    rfl
  refine pure_ (i := 13) (N := some 18) (v := ?_) (a' := ?_) #[true, false, true, false, true, false, true, false, true, false, false, true, false, true, false, false] rfl rfl (any_of HT_.out (by kernel_rfl)) (fun _ _ _ h => h) (Or.inl ⟨by rfl, ?_⟩) ?_ ?_
  rotate_left
  · intro w'
    go_simp
    with_reducible rfl
  rotate_left
  · simp only [Act.put, List.setIfInBounds_toArray, List.set_cons_zero, List.set_cons_succ, i64_w, i32_w]
    rfl
  refine take_ (i := 1) (N := some 6) (v := ?_) (a' := ?_) #[true, true, true, false, true, false, true, false, true, false, false, true, false, true, false, false] rfl rfl (take_ofW HT_.out HW_.out (by kernel_rfl)) (fun _ _ _ h => h) (Or.inl ⟨by rfl, ?_⟩) hHeld ?_ ?_
  rotate_left
  · rintro w' ⟨s0, s1, s2, s3, s4, s5, s6, s7, s8, s9, s10, s11, s12, s13, s14⟩
    go_simp
    with_reducible rfl
  rotate_left
  · simp only [Act.put, List.setIfInBounds_toArray, List.set_cons_zero, List.set_cons_succ, i64_w, i32_w]
    rfl
  refine take_ (i := 3) (N := some 8) (v := ?_) (a' := ?_) #[true, true, true, true, true, false, true, false, true, false, false, true, false, true, false, false] rfl rfl (take_ofW HT_.out HW_.out (by kernel_rfl)) (fun _ _ _ h => h) (Or.inl ⟨by rfl, ?_⟩) hHeld ?_ ?_
  rotate_left
  · rintro w' ⟨s0, s1, s2, s3, s4, s5, s6, s7, s8, s9, s10, s11, s12, s13, s14⟩
    go_simp
    with_reducible rfl
  rotate_left
  · simp only [Act.put, List.setIfInBounds_toArray, List.set_cons_zero, List.set_cons_succ, i64_w, i32_w]
    rfl
  refine take_ (i := 5) (N := some 10) (v := ?_) (a' := ?_) #[true, true, true, true, true, true, true, false, true, false, false, true, false, true, false, false] rfl rfl (take_ofW HT_.out HW_.out (by kernel_rfl)) (fun _ _ _ h => h) (Or.inl ⟨by rfl, ?_⟩) hHeld ?_ ?_
  rotate_left
  · rintro w' ⟨s0, s1, s2, s3, s4, s5, s6, s7, s8, s9, s10, s11, s12, s13, s14⟩
    go_simp
    with_reducible rfl
  rotate_left
  · simp only [Act.put, List.setIfInBounds_toArray, List.set_cons_zero, List.set_cons_succ, i64_w, i32_w]
    rfl
  refine take_ (i := 7) (N := some 12) (v := ?_) (a' := ?_) #[true, true, true, true, true, true, true, true, true, false, false, true, false, true, false, false] rfl rfl (take_ofW HT_.out HW_.out (by kernel_rfl)) (fun _ _ _ h => h) (Or.inl ⟨by rfl, ?_⟩) hHeld ?_ ?_
  rotate_left
  · rintro w' ⟨s0, s1, s2, s3, s4, s5, s6, s7, s8, s9, s10, s11, s12, s13, s14⟩
    go_simp
    with_reducible rfl
  rotate_left
  · simp only [Act.put, List.setIfInBounds_toArray, List.set_cons_zero, List.set_cons_succ, i64_w, i32_w]
    rfl
  refine take_ (i := 9) (N := some 14) (v := ?_) (a' := ?_) #[true, true, true, true, true, true, true, true, true, true, false, true, false, true, false, false] rfl rfl (take_ofW HT_.out HW_.out (by kernel_rfl)) (fun _ _ _ h => h) (Or.inl ⟨by rfl, ?_⟩) hHeld ?_ ?_
  rotate_left
  · rintro w' ⟨s0, s1, s2, s3, s4, s5, s6, s7, s8, s9, s10, s11, s12, s13, s14⟩
    go_simp
    with_reducible rfl
  rotate_left
  · simp only [Act.put, List.setIfInBounds_toArray, List.set_cons_zero, List.set_cons_succ, i64_w, i32_w]
    rfl
  refine take_ (i := 12) (N := some 17) (v := ?_) (a' := ?_) #[true, true, true, true, true, true, true, true, true, true, false, true, true, true, false, false] rfl rfl (take_ofW HT_.out HW_.out (by kernel_rfl)) (fun _ _ _ h => h) (Or.inl ⟨by rfl, ?_⟩) hHeld ?_ ?_
  rotate_left
  · rintro w' ⟨s0, s1, s2, s3, s4, s5, s6, s7, s8, s9, s10, s11, s12, s13, s14⟩
    go_simp
    with_reducible rfl
  rotate_left
  · simp only [Act.put, List.setIfInBounds_toArray, List.set_cons_zero, List.set_cons_succ, i64_w, i32_w]
    rfl
  refine one_ (i := 10) (N := some 15) #[true, true, true, true, true, true, true, true, true, true, true, true, true, true, false, false] rfl rfl (one_of HT_.out (by kernel_rfl)) (by decide) (fun K hK => ?_)
  refine goes_ Try.func27 (by kernel_rfl) rfl #[.slice A0_12 l0_12.length c0_12] (by rfl) rfl rfl (by (try simp only [List.map_toArray, List.map_cons, List.map_nil]); first | done | rfl | (simp only [List.length_drop, List.length_take]; rfl)) ?_
  with_reducible refine (dormouselaw15_held.calls k _ _ l0_12 t280 _ ?side1 ?side2 A3.out).mono ?_
  (case side1 => repeat (first | exact (Kd.C_below HR0_12.out HB.out) | (with_reducible refine Kd.C_alloc ?_ _) | (with_reducible refine Kd.C_drewN ?_ _) | (with_reducible refine Kd.C_drew ?_)))
  (case side2 => exact HC0_12.out)
  rintro e w7 ⟨v281, rfl, ho0, hb⟩
  refine ⟨_, rfl, ?_⟩
  have n0_ := Aside0.mk (Kd.R_lower ho0 (below_size (by repeat (first | (with_reducible first | exact HB.out | apply below_alloc | apply pw_below_drewN | apply below_drew1 | refine below_set ?_ GE279.out) | exact HB.out))))
  have n1_ := Aside0.mk (blk_below (g := gb279) (o := .cells #[.slice A0_0 l0_0.length c0_0, .slice A0_1 l0_1.length c0_1, .slice A0_2 l0_2.length c0_2, .int .i64 a0_3, .int .i64 a0_4, .int .i64 a0_5, .int .i64 a0_6, .int .i64 a0_7, .int .i64 a0_8, .slice A0_9 l0_9.length c0_9, .slice A0_10 l0_10.length c0_10, .slice A0_11 l0_11.length c0_11, .slice A0_12 l0_12.length c0_12, .int .i64 a0_13, .int .i64 a0_14] 32 (0, 0)) (by (with_reducible repeat (first | refine blk_drewN ?_ _ | refine blk_drew ?_ | refine blk_alloc ?_ _)); exact BK279.out) hb)
  have n2_ := Aside0.mk (below_step (by repeat (first | (with_reducible first | exact HB.out | apply below_alloc | apply pw_below_drewN | apply below_drew1 | refine below_set ?_ GE279.out) | exact HB.out)) hb)
  clear BK279
  clear HB
  have HO282 := n0_
  have BK279 := n1_
  have HB := n2_
  clear n0_ n1_ n2_
  (try clear hb)
  (try clear hb2)
  (try clear hk)
  (try clear hi)
  (try clear ho0)
  obtain ⟨Ao8, co8, eo8⟩ := Kd.R_slice HO282.out
  (first | subst eo8 | (injection eo8 with f1_ f2_ f3_; have f4_ := f1_.symm; have f5_ := f3_.symm; clear f1_ f2_ f3_; subst f4_; subst f5_))
  refine hK.out _ _ ⟨(blk_cell BK279.out 0).trans rfl, (blk_cell BK279.out 1).trans rfl, (blk_cell BK279.out 2).trans rfl, (blk_cell BK279.out 3).trans rfl, (blk_cell BK279.out 4).trans rfl, (blk_cell BK279.out 5).trans rfl, (blk_cell BK279.out 6).trans rfl, (blk_cell BK279.out 7).trans rfl, (blk_cell BK279.out 8).trans rfl, (blk_cell BK279.out 9).trans rfl, (blk_cell BK279.out 10).trans rfl, (blk_cell BK279.out 11).trans rfl, (blk_cell BK279.out 12).trans rfl, (blk_cell BK279.out 13).trans rfl, (blk_cell BK279.out 14).trans rfl⟩ (fun hHeld => ?_)
  clear hK K
  refine norm_ (a' := ?_) ?_ ?_
  rotate_left
  · show Act.put _ (some 15) _ = _
    simp only [Act.put, List.setIfInBounds_toArray, List.set_cons_zero, List.set_cons_succ, i64_w, i32_w]
    rfl
  refine one_ (i := 14) (N := some 19) #[true, true, true, true, true, true, true, true, true, true, true, true, true, true, true, false] rfl rfl (one_of HT_.out (by kernel_rfl)) (by decide) (fun K hK => ?_)
  refine goes_ Try.func19 (by kernel_rfl) rfl #[.agg #[.slice A0_0 l0_0.length c0_0, .slice A0_1 l0_1.length c0_1, .slice A0_2 l0_2.length c0_2, .int .i64 a0_3, .int .i64 a0_4, .int .i64 a0_5, .int .i64 a0_6, .int .i64 a0_7, .int .i64 a0_8], .slice A0_9 l0_9.length c0_9, .slice A0_10 l0_10.length c0_10, .slice A0_11 l0_11.length c0_11, .slice Ao8 t280.length co8, .int .i64 a0_13, .int .i64 a1] (by rfl) rfl rfl (by (try simp only [List.map_toArray, List.map_cons, List.map_nil]); first | done | rfl | (simp only [List.length_drop, List.length_take]; rfl)) ?_
  with_reducible refine (slack_At.calls _ _ l0_0 _ _ l0_1 _ _ l0_2 a0_3 a0_4 a0_5 a0_6 a0_7 a0_8 _ _ l0_9 _ _ l0_10 _ _ l0_11 _ _ t280 a0_13 a1 t283 _ ?side1 ?side2 ?side3 ?side4 ?side5 ?side6 ?side7 ?side8 ?side9 ?side10 ?side11 ?side12 ?side13 ?side14 A4.out).mono ?_
  (case side1 => repeat (first | exact (Kd.C_below HR0_0.out HB.out) | (with_reducible refine Kd.C_alloc ?_ _) | (with_reducible refine Kd.C_drewN ?_ _) | (with_reducible refine Kd.C_drew ?_)))
  (case side2 => exact HC0_0.out)
  (case side3 => repeat (first | exact (Kd.C_below HR0_1.out HB.out) | (with_reducible refine Kd.C_alloc ?_ _) | (with_reducible refine Kd.C_drewN ?_ _) | (with_reducible refine Kd.C_drew ?_)))
  (case side4 => exact HC0_1.out)
  (case side5 => repeat (first | exact (Kd.C_below HR0_2.out HB.out) | (with_reducible refine Kd.C_alloc ?_ _) | (with_reducible refine Kd.C_drewN ?_ _) | (with_reducible refine Kd.C_drew ?_)))
  (case side6 => exact HC0_2.out)
  (case side7 => repeat (first | exact (Kd.C_below HR0_9.out HB.out) | (with_reducible refine Kd.C_alloc ?_ _) | (with_reducible refine Kd.C_drewN ?_ _) | (with_reducible refine Kd.C_drew ?_)))
  (case side8 => exact HC0_9.out)
  (case side9 => repeat (first | exact (Kd.C_below HR0_10.out HB.out) | (with_reducible refine Kd.C_alloc ?_ _) | (with_reducible refine Kd.C_drewN ?_ _) | (with_reducible refine Kd.C_drew ?_)))
  (case side10 => exact HC0_10.out)
  (case side11 => repeat (first | exact (Kd.C_below HR0_11.out HB.out) | (with_reducible refine Kd.C_alloc ?_ _) | (with_reducible refine Kd.C_drewN ?_ _) | (with_reducible refine Kd.C_drew ?_)))
  (case side12 => exact HC0_11.out)
  (case side13 => repeat (first | exact (Kd.R_reads' HO282.out).2.2 | (with_reducible refine Kd.C_alloc ?_ _) | (with_reducible refine Kd.C_drewN ?_ _) | (with_reducible refine Kd.C_drew ?_)))
  (case side14 => exact (Kd.R_reads' HO282.out).2.1)
  rintro e w9 ⟨rfl, hb⟩
  refine ⟨_, rfl, ?_⟩
  have n0_ := Aside0.mk (Kd.R_below (by (with_reducible repeat (first | apply Kd.R_alloc | apply Kd.R_drewN | apply Kd.R_drew)); exact HO282.out) hb)
  have n1_ := Aside0.mk (blk_below (g := gb279) (o := .cells #[.slice A0_0 l0_0.length c0_0, .slice A0_1 l0_1.length c0_1, .slice A0_2 l0_2.length c0_2, .int .i64 a0_3, .int .i64 a0_4, .int .i64 a0_5, .int .i64 a0_6, .int .i64 a0_7, .int .i64 a0_8, .slice A0_9 l0_9.length c0_9, .slice A0_10 l0_10.length c0_10, .slice A0_11 l0_11.length c0_11, .slice A0_12 l0_12.length c0_12, .int .i64 a0_13, .int .i64 a0_14] 32 (0, 0)) (by (with_reducible repeat (first | refine blk_drewN ?_ _ | refine blk_drew ?_ | refine blk_alloc ?_ _)); exact BK279.out) hb)
  have n2_ := Aside0.mk (below_step (by repeat (first | (with_reducible first | exact HB.out | apply below_alloc | apply pw_below_drewN | apply below_drew1 | refine below_set ?_ GE279.out) | exact HB.out)) hb)
  clear HO282
  clear BK279
  clear HB
  have HO282 := n0_
  have BK279 := n1_
  have HB := n2_
  clear n0_ n1_ n2_
  (try clear hb)
  (try clear hb2)
  (try clear hk)
  (try clear hi)
  refine hK.out _ _ ⟨(blk_cell BK279.out 0).trans rfl, (blk_cell BK279.out 1).trans rfl, (blk_cell BK279.out 2).trans rfl, (blk_cell BK279.out 3).trans rfl, (blk_cell BK279.out 4).trans rfl, (blk_cell BK279.out 5).trans rfl, (blk_cell BK279.out 6).trans rfl, (blk_cell BK279.out 7).trans rfl, (blk_cell BK279.out 8).trans rfl, (blk_cell BK279.out 9).trans rfl, (blk_cell BK279.out 10).trans rfl, (blk_cell BK279.out 11).trans rfl, (blk_cell BK279.out 12).trans rfl, (blk_cell BK279.out 13).trans rfl, (blk_cell BK279.out 14).trans rfl⟩ (fun hHeld => ?_)
  clear hK K
  refine norm_ (a' := ?_) ?_ ?_
  rotate_left
  · show Act.put _ (some 19) _ = _
    simp only [Act.put, List.setIfInBounds_toArray, List.set_cons_zero, List.set_cons_succ, i64_w, i32_w]
    rfl
  refine pure_ (i := 15) (N := some 4) (v := ?_) (a' := ?_) #[true, true, true, true, true, true, true, true, true, true, true, true, true, true, true, true] rfl rfl (any_of HT_.out (by kernel_rfl)) (fun _ _ _ h => h) (Or.inl ⟨by rfl, ?_⟩) ?_ ?_
  rotate_left
  · intro w'
    go_simp
    with_reducible rfl
  rotate_left
  · simp only [Act.put, List.setIfInBounds_toArray, List.set_cons_zero, List.set_cons_succ, i64_w, i32_w]
    rfl
  refine done_ (done_of HT_.out (by kernel_rfl)) ?_
  try go_wp2
  go_ret
  exact ⟨by first | rfl | (simp [errW_none, errW_some] <;> rfl) | (simp [*, errW_none, errW_some] <;> rfl), by repeat (first | (with_reducible first | exact HB.out | apply below_alloc | apply pw_below_drewN | apply below_drew1 | refine below_set ?_ GE279.out) | exact HB.out)⟩
end Go.Proofs.Ytchlbnlhjllcbaa.F
namespace Go.Proofs.Ytchlbnlhjllcbaa.F
open Go.RowKit Go.Proofs.YtchlbnlhjllcbaaW.PrintWords Go.Proofs.YtchlbnlhjllcbaaW.PrintLast Go.Proofs.YtchlbnlhjllcbaaW.PrintMore
attribute [local go_sem] max2_int min2_int max_two min_two max_three min_three max_four min_four   -- for this text's walks alone
set_option linter.unusedVariables false
set_option linter.unusedSimpArgs false
def dormouseref01_clamp.f (a0 : Int) (a1 : Int) (a2 : Int) : Option (Int) := if a0 < a1 then (some a1) else (if a0 > a2 then (some a2) else (some a0))
set_option maxHeartbeats 8000000 in
set_option maxRecDepth 100000 in
theorem dormouseref01_clamp.calls (a0 : Int) (a1 : Int) (a2 : Int) (r : Int) (w : World) (h : dormouseref01_clamp.f a0 a1 a2 = some r) :
    Calls Try.prog 38 #[.int .i64 a0, .int .i64 a1, .int .i64 a2] w fun e w' => e = .returned (.int .i64 r) ∧ Drawn0 w w' := by
  have H : (if a0 < a1 then (some a1) else (if a0 > a2 then (some a2) else (some a0))) = some r := h
  clear h
  by_cases c4 : a0 < a1
  · rw [if_pos c4] at H
    have c4b0 : decide (a0 < a1) = true := decide_eq_true c4
    clear c4
    obtain rfl := Option.some.inj H
    go_enter Try.func38, Try.ntmps38
    go_wp2
    go_ret
    exact ⟨by first | rfl | (simp; done) | (simp [*]; done), by repeat (first | exact Drawn0.refl _ | apply Drawn0.step)⟩
  · rw [if_neg c4] at H
    have c4b0 : decide (a0 < a1) = false := decide_eq_false c4
    clear c4
    by_cases c5 : a0 > a2
    · rw [if_pos c5] at H
      have c5b0 : decide (a2 < a0) = true := decide_eq_true c5
      clear c5
      obtain rfl := Option.some.inj H
      go_enter Try.func38, Try.ntmps38
      go_wp2
      go_ret
      exact ⟨by first | rfl | (simp; done) | (simp [*]; done), by repeat (first | exact Drawn0.refl _ | apply Drawn0.step)⟩
    · rw [if_neg c5] at H
      have c5b0 : decide (a2 < a0) = false := decide_eq_false c5
      clear c5
      obtain rfl := Option.some.inj H
      go_enter Try.func38, Try.ntmps38
      go_wp2
      go_ret
      exact ⟨by first | rfl | (simp; done) | (simp [*]; done), by repeat (first | exact Drawn0.refl _ | apply Drawn0.step)⟩
def dormouseref01_Util.f (a0 : Int) (a1 : Int) : Option (Int) := if a1 < 1 then (some 1099511627776) else ((dormouseref01_clamp.f a0 0 536870912).bind fun t267 => (if a1 = 0 then (none) else (if (Int.tmod (wrap64 (t267 * 4294967296)) a1) = 0 then (some (wrap64 (Int.tdiv (wrap64 (t267 * 4294967296)) a1))) else (some (wrap64 ((wrap64 (Int.tdiv (wrap64 (t267 * 4294967296)) a1)) + 1))))))
set_option maxHeartbeats 8000000 in
set_option maxRecDepth 100000 in
theorem dormouseref01_Util.calls (a0 : Int) (a1 : Int) (r : Int) (w : World) (h : dormouseref01_Util.f a0 a1 = some r) :
    Calls Try.prog 26 #[.int .i64 a0, .int .i64 a1] w fun e w' => e = .returned (.int .i64 r) ∧ Drawn0 w w' := by
  have H : (if a1 < 1 then (some 1099511627776) else ((dormouseref01_clamp.f a0 0 536870912).bind fun t267 => (if a1 = 0 then (none) else (if (Int.tmod (wrap64 (t267 * 4294967296)) a1) = 0 then (some (wrap64 (Int.tdiv (wrap64 (t267 * 4294967296)) a1))) else (some (wrap64 ((wrap64 (Int.tdiv (wrap64 (t267 * 4294967296)) a1)) + 1))))))) = some r := h
  clear h
  by_cases c3 : a1 < 1
  · rw [if_pos c3] at H
    have c3b0 : decide (a1 < 1) = true := decide_eq_true c3
    clear c3
    obtain rfl := Option.some.inj H
    go_enter Try.func26, Try.ntmps26
    go_wp2
    go_ret
    exact ⟨by first | rfl | (simp; done) | (simp [*]; done), by repeat (first | exact Drawn0.refl _ | apply Drawn0.step)⟩
  · rw [if_neg c3] at H
    have c3b0 : decide (a1 < 1) = false := decide_eq_false c3
    clear c3
    replace H := Option.bind_eq_some_iff.mp H
    obtain ⟨t267, A40, H⟩ := H
    replace H : (if a1 = 0 then (none) else (if (Int.tmod (wrap64 (t267 * 4294967296)) a1) = 0 then (some (wrap64 (Int.tdiv (wrap64 (t267 * 4294967296)) a1))) else (some (wrap64 ((wrap64 (Int.tdiv (wrap64 (t267 * 4294967296)) a1)) + 1))))) = some r := H
    have A4 := Aside0.mk A40
    clear A40
    by_cases c5 : a1 = 0
    · rw [if_pos c5] at H
      exact absurd H (by simp)
    · rw [if_neg c5] at H
      have c5b0 : (a1 == 0) = false := beq_eq_false_iff_ne.mpr c5
      have c5b1 : (a1 != 0) = true := bne_iff_ne.mpr c5
      by_cases c6 : (Int.tmod (wrap64 (t267 * 4294967296)) a1) = 0
      · rw [if_pos c6] at H
        have c6b0 : ((Int.tmod (wrap64 (t267 * 4294967296)) a1) == 0) = true := beq_iff_eq.mpr c6
        have c6b1 : ((Int.tmod (wrap64 (t267 * 4294967296)) a1) != 0) = false := bne_eq_false_iff_eq.mpr c6
        clear c6
        obtain rfl := Option.some.inj H
        go_enter Try.func26, Try.ntmps26
        go_wp2_with (first | ((with_reducible refine gate_callee (f := 38) rfl ?_); refine goesL_ (some 9) rfl rfl Try.func38 (by kernel_rfl) rfl #[.int .i64 a0, .int .i64 0, .int .i64 536870912] rfl (by (try simp only [List.map_toArray, List.map_cons, List.map_nil]); first | done | rfl | (simp only [List.length_drop, List.length_take]; rfl)) ?_; (with_reducible refine (dormouseref01_clamp.calls a0 0 536870912 t267 _ A4.out).mono ?_); rintro e w' ⟨rfl, ⟨nd, rfl⟩⟩; refine ⟨_, rfl, ?_⟩))
        go_ret
        exact ⟨by first | rfl | (simp; done) | (simp [*]; done), by repeat (first | exact Drawn0.refl _ | apply Drawn0.step)⟩
      · rw [if_neg c6] at H
        have c6b0 : ((Int.tmod (wrap64 (t267 * 4294967296)) a1) == 0) = false := beq_eq_false_iff_ne.mpr c6
        have c6b1 : ((Int.tmod (wrap64 (t267 * 4294967296)) a1) != 0) = true := bne_iff_ne.mpr c6
        obtain rfl := Option.some.inj H
        go_enter Try.func26, Try.ntmps26
        go_wp2_with (first | ((with_reducible refine gate_callee (f := 38) rfl ?_); refine goesL_ (some 9) rfl rfl Try.func38 (by kernel_rfl) rfl #[.int .i64 a0, .int .i64 0, .int .i64 536870912] rfl (by (try simp only [List.map_toArray, List.map_cons, List.map_nil]); first | done | rfl | (simp only [List.length_drop, List.length_take]; rfl)) ?_; (with_reducible refine (dormouseref01_clamp.calls a0 0 536870912 t267 _ A4.out).mono ?_); rintro e w' ⟨rfl, ⟨nd, rfl⟩⟩; refine ⟨_, rfl, ?_⟩))
        go_ret
        exact ⟨by first | rfl | (simp; done) | (simp [*]; done), by repeat (first | exact Drawn0.refl _ | apply Drawn0.step)⟩
end Go.Proofs.Ytchlbnlhjllcbaa.F
namespace Go.Proofs.Ytchlbnlhjllcbaa.Sla
open Go.RowKit Go.Proofs.Ytchlbnlhjllcbaa.F Go.Proofs.Ytchlbnlhjllcbaa.Tbl Go.Proofs.Ytchlbnlhjllcbaa.Adm Go.Proofs.YtchlbnlhjllcbaaW.PrintWords Go.Proofs.YtchlbnlhjllcbaaW.PrintLast
set_option linter.unusedVariables false
section
variable {l0 : List S58} {l1 : List S68} {l2 : List S71} {idle crit sw swE sems hor : Int} {ts : List S36} {nx : List Int} {js : List S38} {now a : Int}
theorem at13_some (g : GoodJ l0 l1 l2 idle crit sw swE sems hor ts nx js now a) (b : Int) {m : Int} (m0 : 0 ≤ m) (h1 : m ≤ 4194304) : dormouselaw15_at.f 5 l0 l1 l2 idle crit sw swE sems hor ts nx js [] now b m = some (atJ l0 sw now nx ts js m) := by
  unfold dormouselaw15_at.f dormouselaw15_held.f
  simp only [dormouselaw15_held.l0]
  rw [if_neg (by simp), Option.bind_some]
  unfold slack_At.f
  rw [if_pos (show ([] : List S73).length = 0 from rfl), atJ_some g m0 h1, Option.bind_some]
theorem answers15 : dormouselaw15_answers.f = some true := by decide +kernel
end
theorem at13_calls (k : Nat) (A0_0 : Option Addr) (c0_0 : Nat) (l0_0 : List (S58)) (A0_1 : Option Addr) (c0_1 : Nat) (l0_1 : List (S68)) (A0_2 : Option Addr) (c0_2 : Nat) (l0_2 : List (S71)) (a0_3 : Int) (a0_4 : Int) (a0_5 : Int) (a0_6 : Int) (a0_7 : Int) (a0_8 : Int) (A0_9 : Option Addr) (c0_9 : Nat) (l0_9 : List (S36)) (A0_10 : Option Addr) (c0_10 : Nat) (l0_10 : List Int) (A0_11 : Option Addr) (c0_11 : Nat) (l0_11 : List (S38)) (a0_13 : Int) (a0_14 : Int) (a1 : Int) (r : Int) (w : World) (hr0_0 : Kd.C k58 w A0_0 l0_0.length l0_0) (hc0_0 : l0_0.length ≤ c0_0) (hr0_1 : Kd.C k68 w A0_1 l0_1.length l0_1) (hc0_1 : l0_1.length ≤ c0_1) (hr0_2 : Kd.C k71 w A0_2 l0_2.length l0_2) (hc0_2 : l0_2.length ≤ c0_2) (hr0_9 : Kd.C k36 w A0_9 l0_9.length l0_9) (hc0_9 : l0_9.length ≤ c0_9) (hr0_10 : Kd.C (Kd.int .i64) w A0_10 l0_10.length l0_10) (hc0_10 : l0_10.length ≤ c0_10) (hr0_11 : Kd.C k38 w A0_11 l0_11.length l0_11) (hc0_11 : l0_11.length ≤ c0_11) (h : dormouselaw15_at.f k l0_0 l0_1 l0_2 a0_3 a0_4 a0_5 a0_6 a0_7 a0_8 l0_9 l0_10 l0_11 [] a0_13 a0_14 a1 = some r) :
    Calls Try.prog 13 #[.agg #[.slice A0_0 l0_0.length c0_0, .slice A0_1 l0_1.length c0_1, .slice A0_2 l0_2.length c0_2, .int .i64 a0_3, .int .i64 a0_4, .int .i64 a0_5, .int .i64 a0_6, .int .i64 a0_7, .int .i64 a0_8, .slice A0_9 l0_9.length c0_9, .slice A0_10 l0_10.length c0_10, .slice A0_11 l0_11.length c0_11, .slice none 0 0, .int .i64 a0_13, .int .i64 a0_14], .int .i64 a1] w fun e w' => e = .returned (.int .i64 r) ∧ Below w.heap.size w w' := dormouselaw15_at.calls k A0_0 c0_0 l0_0 A0_1 c0_1 l0_1 A0_2 c0_2 l0_2 a0_3 a0_4 a0_5 a0_6 a0_7 a0_8 A0_9 c0_9 l0_9 A0_10 c0_10 l0_10 A0_11 c0_11 l0_11 none 0 [] a0_13 a0_14 a1 r w hr0_0 hc0_0 hr0_1 hc0_1 hr0_2 hc0_2 hr0_9 hc0_9 hr0_10 hc0_10 hr0_11 hc0_11 (Kd.C_nil _ _) (Nat.le_refl _) h
end Go.Proofs.Ytchlbnlhjllcbaa.Sla
namespace Go.Proofs.Ytchlbnlhjllcbaa.F
open Go.RowKit Go.Proofs.YtchlbnlhjllcbaaW.PrintWords Go.Proofs.YtchlbnlhjllcbaaW.PrintLast Go.Proofs.YtchlbnlhjllcbaaW.PrintMore
attribute [local go_sem] max2_int min2_int max_two min_two max_three min_three max_four min_four   -- for this text's walks alone
set_option linter.unusedVariables false
set_option linter.unusedSimpArgs false
def dormouseref09_Part.j0 : Nat → Int → Bool → List (S58) → List (S68) → List (S71) → Int → Int → Int → Int → Int → Int → Int → Int → List Int → List Int → Option (Int)
  | 0, _, _, _, _, _, _, _, _, _, _, _, _, _, _, _ => none
  | k + 1, x2, x15, x269000, x269001, x269002, x269003, x269004, x269005, x269006, x269007, x269008, x270000, x270001, x270002, x270003 => if x15 = true then ((dormouseref01_Util.f 0 x270000).bind fun t270 => (some t270)) else (if 0 ≤ x2 then (if x2 < (x269000.length : Int) then ((dormouseref01_Util.f (wrap64 ((wrap64 (x270001 * ((rd_T58 x269000 x2).f0))) + (wrap64 (2 * x269005)))) x270000).bind fun t272 => (some t272)) else (none)) else (none))
def dormouseref09_Part.f (k : Nat) (l0_0 : List (S58)) (l0_1 : List (S68)) (l0_2 : List (S71)) (a0_3 : Int) (a0_4 : Int) (a0_5 : Int) (a0_6 : Int) (a0_7 : Int) (a0_8 : Int) (a1_0 : Int) (a1_1 : Int) (l1_2 : List Int) (l1_3 : List Int) (a2 : Int) : Option (Int) := if a2 < 0 then (dormouseref09_Part.j0 k a2 true l0_0 l0_1 l0_2 a0_3 a0_4 a0_5 a0_6 a0_7 a0_8 a1_0 a1_1 l1_2 l1_3) else (dormouseref09_Part.j0 k a2 (decide (a2 ≥ (l0_0.length : Int))) l0_0 l0_1 l0_2 a0_3 a0_4 a0_5 a0_6 a0_7 a0_8 a1_0 a1_1 l1_2 l1_3)
set_option maxHeartbeats 8000000 in
set_option maxRecDepth 100000 in
theorem dormouseref09_Part.calls (k : Nat) (A0_0 : Option Addr) (c0_0 : Nat) (l0_0 : List (S58)) (A0_1 : Option Addr) (c0_1 : Nat) (l0_1 : List (S68)) (A0_2 : Option Addr) (c0_2 : Nat) (l0_2 : List (S71)) (a0_3 : Int) (a0_4 : Int) (a0_5 : Int) (a0_6 : Int) (a0_7 : Int) (a0_8 : Int) (a1_0 : Int) (a1_1 : Int) (A1_2 : Option Addr) (c1_2 : Nat) (l1_2 : List Int) (A1_3 : Option Addr) (c1_3 : Nat) (l1_3 : List Int) (a2 : Int) (r : Int) (w : World) (hr0_0 : Kd.C k58 w A0_0 l0_0.length l0_0) (hc0_0 : l0_0.length ≤ c0_0) (hr0_1 : Kd.C k68 w A0_1 l0_1.length l0_1) (hc0_1 : l0_1.length ≤ c0_1) (hr0_2 : Kd.C k71 w A0_2 l0_2.length l0_2) (hc0_2 : l0_2.length ≤ c0_2) (hr1_2 : Kd.C (Kd.int .i64) w A1_2 l1_2.length l1_2) (hc1_2 : l1_2.length ≤ c1_2) (hr1_3 : Kd.C (Kd.int .i64) w A1_3 l1_3.length l1_3) (hc1_3 : l1_3.length ≤ c1_3) (h : dormouseref09_Part.f k l0_0 l0_1 l0_2 a0_3 a0_4 a0_5 a0_6 a0_7 a0_8 a1_0 a1_1 l1_2 l1_3 a2 = some r) :
    Calls Try.prog 12 #[.agg #[.slice A0_0 l0_0.length c0_0, .slice A0_1 l0_1.length c0_1, .slice A0_2 l0_2.length c0_2, .int .i64 a0_3, .int .i64 a0_4, .int .i64 a0_5, .int .i64 a0_6, .int .i64 a0_7, .int .i64 a0_8], .agg #[.int .i64 a1_0, .int .i64 a1_1, .slice A1_2 l1_2.length c1_2, .slice A1_3 l1_3.length c1_3], .int .i64 a2] w fun e w' => e = .returned (.int .i64 r) ∧ Below w.heap.size w w' := by
  have hu26 := Try.underlying26
  have hu36 := Try.underlying36
  have HR0_0 := Aside0.mk hr0_0
  have HC0_0 := Aside0.mk hc0_0
  clear hr0_0 hc0_0
  have HR0_1 := Aside0.mk hr0_1
  have HC0_1 := Aside0.mk hc0_1
  clear hr0_1 hc0_1
  have HR0_2 := Aside0.mk hr0_2
  have HC0_2 := Aside0.mk hc0_2
  clear hr0_2 hc0_2
  have HR1_2 := Aside0.mk hr1_2
  have HC1_2 := Aside0.mk hc1_2
  clear hr1_2 hc1_2
  have HR1_3 := Aside0.mk hr1_3
  have HC1_3 := Aside0.mk hc1_3
  clear hr1_3 hc1_3
  have HB := Aside0.mk (Below.refl w.heap.size w)
  have H : (if a2 < 0 then (dormouseref09_Part.j0 k a2 true l0_0 l0_1 l0_2 a0_3 a0_4 a0_5 a0_6 a0_7 a0_8 a1_0 a1_1 l1_2 l1_3) else (dormouseref09_Part.j0 k a2 (decide (a2 ≥ (l0_0.length : Int))) l0_0 l0_1 l0_2 a0_3 a0_4 a0_5 a0_6 a0_7 a0_8 a1_0 a1_1 l1_2 l1_3)) = some r := h
  clear h
  have HC4 := Aside0.mk H
  clear H
  go_enter Try.func12, Try.ntmps12
  go_upto_region 1 with (first | ((with_reducible refine gate_dst (N := 3) rfl ?_); (try (refine gate_guard (by rfl) ?_; dsimp only)); refine box_event ?hg (N := 3) ?hd (cs := #[.slice A0_0 l0_0.length c0_0, .slice A0_1 l0_1.length c0_1, .slice A0_2 l0_2.length c0_2, .int .i64 a0_3, .int .i64 a0_4, .int .i64 a0_5, .int .i64 a0_6, .int .i64 a0_7, .int .i64 a0_8]) (t := 26) ?hr ?_; (case hd => rfl); (case hg => rfl); (case hr => first | (go_simp; done) | (go_simp; rfl)); intro gb268 hg w5 hbox hb; have n0_ := Aside0.mk (below_step (by repeat (first | (with_reducible first | exact HB.out | apply below_alloc | apply pw_below_drewN | apply below_drew1) | exact HB.out)) hb); have n1_ := Aside0.mk (hbox); have n2_ := Aside0.mk ((by rw [hg]; exact (below_size (by repeat (first | (with_reducible first | exact HB.out | apply below_alloc | apply pw_below_drewN | apply below_drew1) | exact HB.out))) : w.heap.size ≤ gb268)); have n3_ := Aside0.mk ((by rw [hg]; exact (below_size (by repeat (first | (with_reducible first | exact HB.out | apply below_alloc | apply pw_below_drewN | apply below_drew1) | exact HB.out))) : w.heap.size ≤ gb268)); clear HB; have HB := n0_; have BK268 := n1_; have GW268 := n2_; have GE268 := n3_; clear n0_ n1_ n2_ n3_; clear hb hbox hg) | ((with_reducible refine gate_dst (N := 4) rfl ?_); (try (refine gate_guard (by rfl) ?_; dsimp only)); refine box_event ?hg (N := 4) ?hd (cs := #[.int .i64 a1_0, .int .i64 a1_1, .slice A1_2 l1_2.length c1_2, .slice A1_3 l1_3.length c1_3]) (t := 36) ?hr ?_; (case hd => rfl); (case hg => rfl); (case hr => first | (go_simp; done) | (go_simp; rfl)); intro gb269 hg w6 hbox hb; have n0_ := Aside0.mk (blk_below (g := gb268) (o := .cells #[.slice A0_0 l0_0.length c0_0, .slice A0_1 l0_1.length c0_1, .slice A0_2 l0_2.length c0_2, .int .i64 a0_3, .int .i64 a0_4, .int .i64 a0_5, .int .i64 a0_6, .int .i64 a0_7, .int .i64 a0_8] 26 (0, 0)) (by (with_reducible repeat (first | refine blk_drewN ?_ _ | refine blk_drew ?_ | refine blk_alloc ?_ _)); exact BK268.out) hb); have n1_ := Aside0.mk (below_step (by repeat (first | (with_reducible first | exact HB.out | apply below_alloc | apply pw_below_drewN | apply below_drew1 | refine below_set ?_ GE268.out) | exact HB.out)) hb); have n2_ := Aside0.mk (hbox); have n3_ := Aside0.mk ((by rw [hg]; exact (below_size (by repeat (first | (with_reducible first | exact HB.out | apply below_alloc | apply pw_below_drewN | apply below_drew1 | refine below_set ?_ GE268.out) | exact HB.out))) : w.heap.size ≤ gb269)); have n4_ := Aside0.mk ((by rw [hg]; exact (below_size (by repeat (first | (with_reducible first | exact HB.out | apply below_alloc | apply pw_below_drewN | apply below_drew1 | refine below_set ?_ GE268.out) | exact HB.out))) : w.heap.size ≤ gb269)); have n5_ := Aside0.mk ((by rw [hg]; exact Nat.ne_of_lt (blk_lt (g := gb268) (o := .cells #[.slice A0_0 l0_0.length c0_0, .slice A0_1 l0_1.length c0_1, .slice A0_2 l0_2.length c0_2, .int .i64 a0_3, .int .i64 a0_4, .int .i64 a0_5, .int .i64 a0_6, .int .i64 a0_7, .int .i64 a0_8] 26 (0, 0)) (by (with_reducible repeat (first | refine blk_drewN ?_ _ | refine blk_drew ?_ | refine blk_alloc ?_ _)); exact BK268.out)) : gb268 ≠ gb269)); have n6_ := Aside0.mk ((by rw [hg]; exact Nat.ne_of_gt (blk_lt (g := gb268) (o := .cells #[.slice A0_0 l0_0.length c0_0, .slice A0_1 l0_1.length c0_1, .slice A0_2 l0_2.length c0_2, .int .i64 a0_3, .int .i64 a0_4, .int .i64 a0_5, .int .i64 a0_6, .int .i64 a0_7, .int .i64 a0_8] 26 (0, 0)) (by (with_reducible repeat (first | refine blk_drewN ?_ _ | refine blk_drew ?_ | refine blk_alloc ?_ _)); exact BK268.out)) : gb269 ≠ gb268)); clear BK268; clear HB; have BK268 := n0_; have HB := n1_; have BK269 := n2_; have GW269 := n3_; have GE269 := n4_; have NB268_269 := n5_; have NB269_268 := n6_; clear n0_ n1_ n2_ n3_ n4_ n5_ n6_; clear hb hbox hg))
  repeat (go_quiet (first | ((with_reducible refine gate_dst (N := 3) rfl ?_); (try (refine gate_guard (by rfl) ?_; dsimp only)); refine box_event ?hg (N := 3) ?hd (cs := #[.slice A0_0 l0_0.length c0_0, .slice A0_1 l0_1.length c0_1, .slice A0_2 l0_2.length c0_2, .int .i64 a0_3, .int .i64 a0_4, .int .i64 a0_5, .int .i64 a0_6, .int .i64 a0_7, .int .i64 a0_8]) (t := 26) ?hr ?_; (case hd => rfl); (case hg => rfl); (case hr => first | (go_simp; done) | (go_simp; rfl)); intro gb268 hg w5 hbox hb; have n0_ := Aside0.mk (below_step (by repeat (first | (with_reducible first | exact HB.out | apply below_alloc | apply pw_below_drewN | apply below_drew1) | exact HB.out)) hb); have n1_ := Aside0.mk (hbox); have n2_ := Aside0.mk ((by rw [hg]; exact (below_size (by repeat (first | (with_reducible first | exact HB.out | apply below_alloc | apply pw_below_drewN | apply below_drew1) | exact HB.out))) : w.heap.size ≤ gb268)); have n3_ := Aside0.mk ((by rw [hg]; exact (below_size (by repeat (first | (with_reducible first | exact HB.out | apply below_alloc | apply pw_below_drewN | apply below_drew1) | exact HB.out))) : w.heap.size ≤ gb268)); clear HB; have HB := n0_; have BK268 := n1_; have GW268 := n2_; have GE268 := n3_; clear n0_ n1_ n2_ n3_; clear hb hbox hg) | ((with_reducible refine gate_dst (N := 4) rfl ?_); (try (refine gate_guard (by rfl) ?_; dsimp only)); refine box_event ?hg (N := 4) ?hd (cs := #[.int .i64 a1_0, .int .i64 a1_1, .slice A1_2 l1_2.length c1_2, .slice A1_3 l1_3.length c1_3]) (t := 36) ?hr ?_; (case hd => rfl); (case hg => rfl); (case hr => first | (go_simp; done) | (go_simp; rfl)); intro gb269 hg w6 hbox hb; have n0_ := Aside0.mk (blk_below (g := gb268) (o := .cells #[.slice A0_0 l0_0.length c0_0, .slice A0_1 l0_1.length c0_1, .slice A0_2 l0_2.length c0_2, .int .i64 a0_3, .int .i64 a0_4, .int .i64 a0_5, .int .i64 a0_6, .int .i64 a0_7, .int .i64 a0_8] 26 (0, 0)) (by (with_reducible repeat (first | refine blk_drewN ?_ _ | refine blk_drew ?_ | refine blk_alloc ?_ _)); exact BK268.out) hb); have n1_ := Aside0.mk (below_step (by repeat (first | (with_reducible first | exact HB.out | apply below_alloc | apply pw_below_drewN | apply below_drew1 | refine below_set ?_ GE268.out) | exact HB.out)) hb); have n2_ := Aside0.mk (hbox); have n3_ := Aside0.mk ((by rw [hg]; exact (below_size (by repeat (first | (with_reducible first | exact HB.out | apply below_alloc | apply pw_below_drewN | apply below_drew1 | refine below_set ?_ GE268.out) | exact HB.out))) : w.heap.size ≤ gb269)); have n4_ := Aside0.mk ((by rw [hg]; exact (below_size (by repeat (first | (with_reducible first | exact HB.out | apply below_alloc | apply pw_below_drewN | apply below_drew1 | refine below_set ?_ GE268.out) | exact HB.out))) : w.heap.size ≤ gb269)); have n5_ := Aside0.mk ((by rw [hg]; exact Nat.ne_of_lt (blk_lt (g := gb268) (o := .cells #[.slice A0_0 l0_0.length c0_0, .slice A0_1 l0_1.length c0_1, .slice A0_2 l0_2.length c0_2, .int .i64 a0_3, .int .i64 a0_4, .int .i64 a0_5, .int .i64 a0_6, .int .i64 a0_7, .int .i64 a0_8] 26 (0, 0)) (by (with_reducible repeat (first | refine blk_drewN ?_ _ | refine blk_drew ?_ | refine blk_alloc ?_ _)); exact BK268.out)) : gb268 ≠ gb269)); have n6_ := Aside0.mk ((by rw [hg]; exact Nat.ne_of_gt (blk_lt (g := gb268) (o := .cells #[.slice A0_0 l0_0.length c0_0, .slice A0_1 l0_1.length c0_1, .slice A0_2 l0_2.length c0_2, .int .i64 a0_3, .int .i64 a0_4, .int .i64 a0_5, .int .i64 a0_6, .int .i64 a0_7, .int .i64 a0_8] 26 (0, 0)) (by (with_reducible repeat (first | refine blk_drewN ?_ _ | refine blk_drew ?_ | refine blk_alloc ?_ _)); exact BK268.out)) : gb269 ≠ gb268)); clear BK268; clear HB; have BK268 := n0_; have HB := n1_; have BK269 := n2_; have GW269 := n3_; have GE269 := n4_; have NB268_269 := n5_; have NB269_268 := n6_; clear n0_ n1_ n2_ n3_ n4_ n5_ n6_; clear hb hbox hg)); go_upto_region 1 with (first | ((with_reducible refine gate_dst (N := 3) rfl ?_); (try (refine gate_guard (by rfl) ?_; dsimp only)); refine box_event ?hg (N := 3) ?hd (cs := #[.slice A0_0 l0_0.length c0_0, .slice A0_1 l0_1.length c0_1, .slice A0_2 l0_2.length c0_2, .int .i64 a0_3, .int .i64 a0_4, .int .i64 a0_5, .int .i64 a0_6, .int .i64 a0_7, .int .i64 a0_8]) (t := 26) ?hr ?_; (case hd => rfl); (case hg => rfl); (case hr => first | (go_simp; done) | (go_simp; rfl)); intro gb268 hg w5 hbox hb; have n0_ := Aside0.mk (below_step (by repeat (first | (with_reducible first | exact HB.out | apply below_alloc | apply pw_below_drewN | apply below_drew1) | exact HB.out)) hb); have n1_ := Aside0.mk (hbox); have n2_ := Aside0.mk ((by rw [hg]; exact (below_size (by repeat (first | (with_reducible first | exact HB.out | apply below_alloc | apply pw_below_drewN | apply below_drew1) | exact HB.out))) : w.heap.size ≤ gb268)); have n3_ := Aside0.mk ((by rw [hg]; exact (below_size (by repeat (first | (with_reducible first | exact HB.out | apply below_alloc | apply pw_below_drewN | apply below_drew1) | exact HB.out))) : w.heap.size ≤ gb268)); clear HB; have HB := n0_; have BK268 := n1_; have GW268 := n2_; have GE268 := n3_; clear n0_ n1_ n2_ n3_; clear hb hbox hg) | ((with_reducible refine gate_dst (N := 4) rfl ?_); (try (refine gate_guard (by rfl) ?_; dsimp only)); refine box_event ?hg (N := 4) ?hd (cs := #[.int .i64 a1_0, .int .i64 a1_1, .slice A1_2 l1_2.length c1_2, .slice A1_3 l1_3.length c1_3]) (t := 36) ?hr ?_; (case hd => rfl); (case hg => rfl); (case hr => first | (go_simp; done) | (go_simp; rfl)); intro gb269 hg w6 hbox hb; have n0_ := Aside0.mk (blk_below (g := gb268) (o := .cells #[.slice A0_0 l0_0.length c0_0, .slice A0_1 l0_1.length c0_1, .slice A0_2 l0_2.length c0_2, .int .i64 a0_3, .int .i64 a0_4, .int .i64 a0_5, .int .i64 a0_6, .int .i64 a0_7, .int .i64 a0_8] 26 (0, 0)) (by (with_reducible repeat (first | refine blk_drewN ?_ _ | refine blk_drew ?_ | refine blk_alloc ?_ _)); exact BK268.out) hb); have n1_ := Aside0.mk (below_step (by repeat (first | (with_reducible first | exact HB.out | apply below_alloc | apply pw_below_drewN | apply below_drew1 | refine below_set ?_ GE268.out) | exact HB.out)) hb); have n2_ := Aside0.mk (hbox); have n3_ := Aside0.mk ((by rw [hg]; exact (below_size (by repeat (first | (with_reducible first | exact HB.out | apply below_alloc | apply pw_below_drewN | apply below_drew1 | refine below_set ?_ GE268.out) | exact HB.out))) : w.heap.size ≤ gb269)); have n4_ := Aside0.mk ((by rw [hg]; exact (below_size (by repeat (first | (with_reducible first | exact HB.out | apply below_alloc | apply pw_below_drewN | apply below_drew1 | refine below_set ?_ GE268.out) | exact HB.out))) : w.heap.size ≤ gb269)); have n5_ := Aside0.mk ((by rw [hg]; exact Nat.ne_of_lt (blk_lt (g := gb268) (o := .cells #[.slice A0_0 l0_0.length c0_0, .slice A0_1 l0_1.length c0_1, .slice A0_2 l0_2.length c0_2, .int .i64 a0_3, .int .i64 a0_4, .int .i64 a0_5, .int .i64 a0_6, .int .i64 a0_7, .int .i64 a0_8] 26 (0, 0)) (by (with_reducible repeat (first | refine blk_drewN ?_ _ | refine blk_drew ?_ | refine blk_alloc ?_ _)); exact BK268.out)) : gb268 ≠ gb269)); have n6_ := Aside0.mk ((by rw [hg]; exact Nat.ne_of_gt (blk_lt (g := gb268) (o := .cells #[.slice A0_0 l0_0.length c0_0, .slice A0_1 l0_1.length c0_1, .slice A0_2 l0_2.length c0_2, .int .i64 a0_3, .int .i64 a0_4, .int .i64 a0_5, .int .i64 a0_6, .int .i64 a0_7, .int .i64 a0_8] 26 (0, 0)) (by (with_reducible repeat (first | refine blk_drewN ?_ _ | refine blk_drew ?_ | refine blk_alloc ?_ _)); exact BK268.out)) : gb269 ≠ gb268)); clear BK268; clear HB; have BK268 := n0_; have HB := n1_; have BK269 := n2_; have GW269 := n3_; have GE269 := n4_; have NB268_269 := n5_; have NB269_268 := n6_; clear n0_ n1_ n2_ n3_ n4_ n5_ n6_; clear hb hbox hg)))
  (try simp only [Act.put, List.setIfInBounds_toArray, List.set_cons_zero, List.set_cons_succ])
  go_cut [15] (fun v15 wc => ∃ (kq : Nat) (x15_3 : Bool), v15 = .bool x15_3 ∧ Aside0 (dormouseref09_Part.j0 kq a2 x15_3 l0_0 l0_1 l0_2 a0_3 a0_4 a0_5 a0_6 a0_7 a0_8 a1_0 a1_1 l1_2 l1_3 = some r) ∧ Aside0 (kq ≤ k) ∧ Aside0 (wc.heap[gb268]? = some (.cells #[(.slice A0_0 l0_0.length c0_0), (.slice A0_1 l0_1.length c0_1), (.slice A0_2 l0_2.length c0_2), .int .i64 a0_3, .int .i64 a0_4, .int .i64 a0_5, .int .i64 a0_6, .int .i64 a0_7, .int .i64 a0_8] 26 (0, 0))) ∧ Aside0 (wc.heap[gb269]? = some (.cells #[.int .i64 a1_0, .int .i64 a1_1, (.slice A1_2 l1_2.length c1_2), (.slice A1_3 l1_3.length c1_3)] 36 (0, 0))) ∧ Aside0 (Below w.heap.size w wc))
  case first =>
    have H := HC4.out
    clear HC4
    by_cases c7 : a2 < 0
    · rw [if_pos c7] at H
      have c7b0 : decide (a2 < 0) = true := decide_eq_true c7
      clear c7
      (first | rw [c7b0] | (simp only [i64_w, i32_w]; rw [c7b0]) | skip)
      have H' := Aside0.mk H
      clear H
      go_wp2
      repeat (go_quiet (fail); try go_wp2)
      go_meet
      case rel => exact ⟨_, (true), (by first | rfl | (simp; done) | (simp [*]; done)), H', ⟨by first | omega | exact Nat.le_refl _⟩, ⟨by (with_reducible repeat (first | refine blk_drewN ?_ _ | refine blk_drew ?_ | refine blk_alloc ?_ _)); exact BK268.out⟩, ⟨by (with_reducible repeat (first | refine blk_drewN ?_ _ | refine blk_drew ?_ | refine blk_alloc ?_ _)); exact BK269.out⟩, ⟨by repeat (first | (with_reducible first | exact HB.out | apply below_alloc | apply pw_below_drewN | apply below_drew1 | refine below_set ?_ GE268.out | refine below_set ?_ GE269.out) | exact HB.out)⟩⟩
    · rw [if_neg c7] at H
      have c7b0 : decide (a2 < 0) = false := decide_eq_false c7
      clear c7
      (first | rw [c7b0] | (simp only [i64_w, i32_w]; rw [c7b0]) | skip)
      have H' := Aside0.mk H
      clear H
      have hnb8 := NB268_269.out
      have hnc8 := NB269_268.out
      have hcz9_0 : w6.cell? ⟨gb268, 0, none⟩ = some (.slice A0_0 l0_0.length c0_0) := (blk_cell BK268.out 0).trans rfl
      have hcz9_1 : w6.cell? ⟨gb268, 1, none⟩ = some (.slice A0_1 l0_1.length c0_1) := (blk_cell BK268.out 1).trans rfl
      have hcz9_2 : w6.cell? ⟨gb268, 2, none⟩ = some (.slice A0_2 l0_2.length c0_2) := (blk_cell BK268.out 2).trans rfl
      have hcz9_3 : w6.cell? ⟨gb268, 3, none⟩ = some (.int .i64 a0_3) := (blk_cell BK268.out 3).trans rfl
      have hcz9_4 : w6.cell? ⟨gb268, 4, none⟩ = some (.int .i64 a0_4) := (blk_cell BK268.out 4).trans rfl
      have hcz9_5 : w6.cell? ⟨gb268, 5, none⟩ = some (.int .i64 a0_5) := (blk_cell BK268.out 5).trans rfl
      have hcz9_6 : w6.cell? ⟨gb268, 6, none⟩ = some (.int .i64 a0_6) := (blk_cell BK268.out 6).trans rfl
      have hcz9_7 : w6.cell? ⟨gb268, 7, none⟩ = some (.int .i64 a0_7) := (blk_cell BK268.out 7).trans rfl
      have hcz9_8 : w6.cell? ⟨gb268, 8, none⟩ = some (.int .i64 a0_8) := (blk_cell BK268.out 8).trans rfl
      have hfz9_0 := blk_frozen BK268.out 0
      have hfz9_1 := blk_frozen BK268.out 1
      have hfz9_2 := blk_frozen BK268.out 2
      have hfz9_3 := blk_frozen BK268.out 3
      have hfz9_4 := blk_frozen BK268.out 4
      have hfz9_5 := blk_frozen BK268.out 5
      have hfz9_6 := blk_frozen BK268.out 6
      have hfz9_7 := blk_frozen BK268.out 7
      have hfz9_8 := blk_frozen BK268.out 8
      go_wp2
      repeat (go_quiet (fail); try go_wp2)
      go_meet
      case rel => exact ⟨_, (decide (a2 ≥ (l0_0.length : Int))), (by first | rfl | (simp; done) | (simp [*]; done)), H', ⟨by first | omega | exact Nat.le_refl _⟩, ⟨by (with_reducible repeat (first | refine blk_drewN ?_ _ | refine blk_drew ?_ | refine blk_alloc ?_ _)); exact BK268.out⟩, ⟨by (with_reducible repeat (first | refine blk_drewN ?_ _ | refine blk_drew ?_ | refine blk_alloc ?_ _)); exact BK269.out⟩, ⟨by repeat (first | (with_reducible first | exact HB.out | apply below_alloc | apply pw_below_drewN | apply below_drew1 | refine below_set ?_ GE268.out | refine below_set ?_ GE269.out) | exact HB.out)⟩⟩
  case rest =>
    clear HC4
    try clear c1
    try clear p2
    try clear c7
    try clear c7b0
    try clear c8
    try clear hcz9_0
    try clear hcz9_1
    try clear hcz9_2
    try clear hcz9_3
    try clear hcz9_4
    try clear hcz9_5
    try clear hcz9_6
    try clear hcz9_7
    try clear hcz9_8
    try clear hfz9_0
    try clear hfz9_1
    try clear hfz9_2
    try clear hfz9_3
    try clear hfz9_4
    try clear hfz9_5
    try clear hfz9_6
    try clear hfz9_7
    try clear hfz9_8
    obtain ⟨kq, x15_3, rfl, HA, HJ3, BK268, BK269, HB⟩ := hcut
    cases kq with
    | zero => exact absurd HA.out (by simp [dormouseref09_Part.j0])
    | succ kj3 =>
      have H := HA.out
      clear HA
      simp only [dormouseref09_Part.j0] at H
      by_cases c10 : x15_3 = true
      · subst c10
        have H1 : ((dormouseref01_Util.f 0 a1_0).bind fun t270 => (some t270)) = some r := by rw [if_pos rfl] at H; exact H
        clear H
        have H := H1
        clear H1
        replace H := Option.bind_eq_some_iff.mp H
        obtain ⟨t270, A110, H⟩ := H
        replace H : (some t270) = some r := H
        have A11 := Aside0.mk A110
        clear A110
        obtain rfl := Option.some.inj H
        have hnb12 := NB269_268.out
        have hnc12 := NB268_269.out
        have hcz13_0 : wc.cell? ⟨gb269, 0, none⟩ = some (.int .i64 a1_0) := (blk_cell BK269.out 0).trans rfl
        have hcz13_1 : wc.cell? ⟨gb269, 1, none⟩ = some (.int .i64 a1_1) := (blk_cell BK269.out 1).trans rfl
        have hcz13_2 : wc.cell? ⟨gb269, 2, none⟩ = some (.slice A1_2 l1_2.length c1_2) := (blk_cell BK269.out 2).trans rfl
        have hcz13_3 : wc.cell? ⟨gb269, 3, none⟩ = some (.slice A1_3 l1_3.length c1_3) := (blk_cell BK269.out 3).trans rfl
        have hfz13_0 := blk_frozen BK269.out 0
        have hfz13_1 := blk_frozen BK269.out 1
        have hfz13_2 := blk_frozen BK269.out 2
        have hfz13_3 := blk_frozen BK269.out 3
        go_wp2_with (first | (go_at_call 26; (with_reducible refine (dormouseref01_Util.calls 0 a1_0 t270 _ A11.out).mono ?_); rintro e w' ⟨rfl, ⟨nd, rfl⟩⟩; (try first | exact ⟨rfl, _, World.drewN_drewN _ _ _⟩ | exact ⟨rfl, _, Eq.trans (World.drewN_drewN _ _ _) (congrArg (World.drewN _) (Nat.add_assoc _ _ _))⟩)))
        repeat (go_quiet (first | (go_at_call 26; (with_reducible refine (dormouseref01_Util.calls 0 a1_0 t270 _ A11.out).mono ?_); rintro e w' ⟨rfl, ⟨nd, rfl⟩⟩; (try first | exact ⟨rfl, _, World.drewN_drewN _ _ _⟩ | exact ⟨rfl, _, Eq.trans (World.drewN_drewN _ _ _) (congrArg (World.drewN _) (Nat.add_assoc _ _ _))⟩))); try go_wp2_with (first | (go_at_call 26; (with_reducible refine (dormouseref01_Util.calls 0 a1_0 t270 _ A11.out).mono ?_); rintro e w' ⟨rfl, ⟨nd, rfl⟩⟩; (try first | exact ⟨rfl, _, World.drewN_drewN _ _ _⟩ | exact ⟨rfl, _, Eq.trans (World.drewN_drewN _ _ _) (congrArg (World.drewN _) (Nat.add_assoc _ _ _))⟩))))
        go_ret
        exact ⟨by first | rfl | (simp [errW_none, errW_some] <;> rfl) | (simp [*, errW_none, errW_some] <;> rfl), by repeat (first | (with_reducible first | exact HB.out | apply below_alloc | apply pw_below_drewN | apply below_drew1 | refine below_set ?_ GE268.out | refine below_set ?_ GE269.out) | exact HB.out)⟩
      · replace c10 := Bool.eq_false_iff.mpr c10
        subst c10
        have H1 : (if 0 ≤ a2 then (if a2 < (l0_0.length : Int) then ((dormouseref01_Util.f (wrap64 ((wrap64 (a1_1 * ((rd_T58 l0_0 a2).f0))) + (wrap64 (2 * a0_5)))) a1_0).bind fun t272 => (some t272)) else (none)) else (none)) = some r := by rw [if_neg (show ¬ (false = true) by decide)] at H; exact H
        clear H
        have H := H1
        clear H1
        by_cases c14 : 0 ≤ a2
        · rw [if_pos c14] at H
          have c14b0 : decide (0 ≤ a2) = true := decide_eq_true c14
          clear c14
          by_cases c15 : a2 < (l0_0.length : Int)
          · rw [if_pos c15] at H
            have c15b0 : decide (a2 < (l0_0.length : Int)) = true := decide_eq_true c15
            clear c15
            replace H := Option.bind_eq_some_iff.mp H
            obtain ⟨t272, A160, H⟩ := H
            replace H : (some t272) = some r := H
            have A16 := Aside0.mk A160
            clear A160
            obtain rfl := Option.some.inj H
            have hnb17 := NB269_268.out
            have hnc17 := NB268_269.out
            have hcz18_0 : wc.cell? ⟨gb269, 0, none⟩ = some (.int .i64 a1_0) := (blk_cell BK269.out 0).trans rfl
            have hcz18_1 : wc.cell? ⟨gb269, 1, none⟩ = some (.int .i64 a1_1) := (blk_cell BK269.out 1).trans rfl
            have hcz18_2 : wc.cell? ⟨gb269, 2, none⟩ = some (.slice A1_2 l1_2.length c1_2) := (blk_cell BK269.out 2).trans rfl
            have hcz18_3 : wc.cell? ⟨gb269, 3, none⟩ = some (.slice A1_3 l1_3.length c1_3) := (blk_cell BK269.out 3).trans rfl
            have hfz18_0 := blk_frozen BK269.out 0
            have hfz18_1 := blk_frozen BK269.out 1
            have hfz18_2 := blk_frozen BK269.out 2
            have hfz18_3 := blk_frozen BK269.out 3
            have hcz19_0 : wc.cell? ⟨gb268, 0, none⟩ = some (.slice A0_0 l0_0.length c0_0) := (blk_cell BK268.out 0).trans rfl
            have hcz19_1 : wc.cell? ⟨gb268, 1, none⟩ = some (.slice A0_1 l0_1.length c0_1) := (blk_cell BK268.out 1).trans rfl
            have hcz19_2 : wc.cell? ⟨gb268, 2, none⟩ = some (.slice A0_2 l0_2.length c0_2) := (blk_cell BK268.out 2).trans rfl
            have hcz19_3 : wc.cell? ⟨gb268, 3, none⟩ = some (.int .i64 a0_3) := (blk_cell BK268.out 3).trans rfl
            have hcz19_4 : wc.cell? ⟨gb268, 4, none⟩ = some (.int .i64 a0_4) := (blk_cell BK268.out 4).trans rfl
            have hcz19_5 : wc.cell? ⟨gb268, 5, none⟩ = some (.int .i64 a0_5) := (blk_cell BK268.out 5).trans rfl
            have hcz19_6 : wc.cell? ⟨gb268, 6, none⟩ = some (.int .i64 a0_6) := (blk_cell BK268.out 6).trans rfl
            have hcz19_7 : wc.cell? ⟨gb268, 7, none⟩ = some (.int .i64 a0_7) := (blk_cell BK268.out 7).trans rfl
            have hcz19_8 : wc.cell? ⟨gb268, 8, none⟩ = some (.int .i64 a0_8) := (blk_cell BK268.out 8).trans rfl
            have hfz19_0 := blk_frozen BK268.out 0
            have hfz19_1 := blk_frozen BK268.out 1
            have hfz19_2 := blk_frozen BK268.out 2
            have hfz19_3 := blk_frozen BK268.out 3
            have hfz19_4 := blk_frozen BK268.out 4
            have hfz19_5 := blk_frozen BK268.out 5
            have hfz19_6 := blk_frozen BK268.out 6
            have hfz19_7 := blk_frozen BK268.out 7
            have hfz19_8 := blk_frozen BK268.out 8
            have p271 : 0 ≤ (a2 : Int) := of_decide_eq_true (by first | (with_reducible assumption) | assumption)
            have q271 : a2 < (l0_0.length : Int) := of_decide_eq_true (by first | (with_reducible assumption) | assumption)
            obtain ⟨ad271, e271, hx271_0, hx271_1⟩ := at_T58 HR0_0.out a2 p271 q271
            cases e271
            replace hx271_0 := (HB.out.cell (World.block_lt_of_cell? w _ hx271_0)).trans hx271_0
            replace hx271_1 := (HB.out.cell (World.block_lt_of_cell? w _ hx271_1)).trans hx271_1
            replace p271 := eq_true p271
            replace q271 := eq_true q271
            go_wp2_with (first | (go_at_call 26; (with_reducible refine (dormouseref01_Util.calls (wrap64 ((wrap64 (a1_1 * ((rd_T58 l0_0 a2).f0))) + (wrap64 (2 * a0_5)))) a1_0 t272 _ A16.out).mono ?_); rintro e w' ⟨rfl, ⟨nd, rfl⟩⟩; (try first | exact ⟨rfl, _, World.drewN_drewN _ _ _⟩ | exact ⟨rfl, _, Eq.trans (World.drewN_drewN _ _ _) (congrArg (World.drewN _) (Nat.add_assoc _ _ _))⟩)))
            repeat (go_quiet (first | (go_at_call 26; (with_reducible refine (dormouseref01_Util.calls (wrap64 ((wrap64 (a1_1 * ((rd_T58 l0_0 a2).f0))) + (wrap64 (2 * a0_5)))) a1_0 t272 _ A16.out).mono ?_); rintro e w' ⟨rfl, ⟨nd, rfl⟩⟩; (try first | exact ⟨rfl, _, World.drewN_drewN _ _ _⟩ | exact ⟨rfl, _, Eq.trans (World.drewN_drewN _ _ _) (congrArg (World.drewN _) (Nat.add_assoc _ _ _))⟩))); try go_wp2_with (first | (go_at_call 26; (with_reducible refine (dormouseref01_Util.calls (wrap64 ((wrap64 (a1_1 * ((rd_T58 l0_0 a2).f0))) + (wrap64 (2 * a0_5)))) a1_0 t272 _ A16.out).mono ?_); rintro e w' ⟨rfl, ⟨nd, rfl⟩⟩; (try first | exact ⟨rfl, _, World.drewN_drewN _ _ _⟩ | exact ⟨rfl, _, Eq.trans (World.drewN_drewN _ _ _) (congrArg (World.drewN _) (Nat.add_assoc _ _ _))⟩))))
            go_ret
            exact ⟨by first | rfl | (simp [errW_none, errW_some] <;> rfl) | (simp [*, errW_none, errW_some] <;> rfl), by repeat (first | (with_reducible first | exact HB.out | apply below_alloc | apply pw_below_drewN | apply below_drew1 | refine below_set ?_ GE268.out | refine below_set ?_ GE269.out) | exact HB.out)⟩
          · rw [if_neg c15] at H
            exact absurd H (by simp)
        · rw [if_neg c14] at H
          exact absurd H (by simp)
end Go.Proofs.Ytchlbnlhjllcbaa.F
namespace Go.Proofs.Ytchlbnlhjllcbaa.Sla
open Go.RowKit Go.Proofs.Ytchlbnlhjllcbaa.F Go.Proofs.Ytchlbnlhjllcbaa.Tbl Go.Proofs.Ytchlbnlhjllcbaa.Adm Go.Proofs.Ytchlbnlhjllcbaa.Opn Go.Proofs.YtchlbnlhjllcbaaW.PrintWords Go.Proofs.YtchlbnlhjllcbaaW.PrintLast Go.Proofs.YtchlbnlhjllcbaaW.PrintMore
set_option linter.unusedVariables false
section
variable {P : Program} {ops : Array Oper} {o : Oper} {a : Act} {Q : Exit → Act → World → Prop} {Kc : Act → World → Prop} {α : Type} {d : Kd α}
theorem OwnT.far {e : Nat} {w W : World} {base : Nat} {v : Value} {xs : List α} (h : OwnT d e w W base v xs) {p : Addr} (hp : p.block < base) (u : Value) : OwnT d e w (W.setCell p u) base v xs := by
  obtain ⟨rows, ⟨hfl, ho⟩, r⟩ := h
  refine ⟨rows, ⟨hfl, ?_⟩, r⟩
  rcases ho with ho | ⟨g, cap, cur, hv, hbg, hgg, q⟩
  · exact .inl ho
  · exact .inr ⟨g, cap, cur, hv, hbg, blk_far hgg (by omega) u, q⟩
theorem OwnT.rows {e : Nat} {w W : World} {base : Nat} {v : Value} {xs : List α} (h : OwnT d e w W base v xs) (hn : 0 < xs.length) : ∃ g c, v = .slice (some ⟨g, 0, none⟩) xs.length c ∧ xs.length ≤ c ∧ base ≤ g ∧ Rows d e w W g xs := by
  obtain ⟨rows, ho, hs, hl, hK⟩ := h
  obtain ⟨hfl, ho'⟩ := ho
  rcases ho' with ⟨hv, h0⟩ | ⟨g, cap, cur, hv, hbg, hgg, hcap, hmx, hsz, htk⟩
  · omega
  · exact ⟨g, cap, hv, hcap, hbg, rows_of_own (base := base) (m := xs.length) (c := cap) (n := xs.length) ⟨hfl, .inr ⟨g, cap, cur, rfl, hbg, hgg, hcap, hmx, hsz, htk⟩⟩ hs hl hK⟩
theorem Rows.lt {e : Nat} {w W : World} {g : Nat} {xs : List α} (h : Rows d e w W g xs) : g < W.heap.size := by
  obtain ⟨cur, hg, _⟩ := h
  exact blk_lt hg
theorem stp_own_at {w0 W : World} (base : Nat) (hw : Region.wanted o (yielded ops a.tmps) = true) (s x : Operand) (t e : TypeId) (z : Value) (size bytes : Nat)
    (ho : o.op = .call { callee := .builtin .append, args := #[s, x], argTypes := #[t, t] })
    (ht : P.underlying t = some (.slice e)) (hinfo : (P.info? e).map (fun i => (i.zero, i.size, i.bytes)) = some (some z, size, bytes)) (hz : z.cells.size = size) (hs0 : 0 < size) (hb0 : 0 < bytes)
    (v : Value) (n : Nat) (xs : List Value) (hs : a.eval s = v) (HO : W.ownsRow base e size v n xs) (ad : Addr) (m c : Nat) (news : List Value) (hx : a.eval x = .slice (some ad) m c) (hnl : news.length = m * size)
    (hnews : ∀ j u, news[j]? = some u → W.cell? (ad.add j) = some u) (h1 : ∀ u ∈ news, u.oneCell' = true) (HB : Below base w0 W) (hbase : base ≤ W.heap.size) (hl : (n + m) * bytes ≤ 140737488355328)
    (h : ∀ v1 w1, w1.ownsRow base e size v1 (n + m) (xs ++ news) → Below base w0 w1 → (∀ k, k < W.heap.size → some k ≠ v.ownBlock → w1.heap[k]? = W.heap[k]?) → Kc (a.put o.dst v1) w1) :
    if Region.wanted o (yielded ops a.tmps) = true then Oper.wp P o a W Kc Q else Kc (a.put o.dst undef) W := by
  obtain ⟨i0, hi, hzz⟩ := Option.map_eq_some_iff.1 hinfo
  simp only [Prod.mk.injEq] at hzz
  obtain ⟨hz0, hz1, hz2⟩ := hzz
  have hlen : n + m ≤ 140737488355328 := Nat.le_trans (Nat.le_mul_of_pos_right _ hb0) hl
  rw [if_pos hw]
  obtain ⟨v1, w1, hr, hown, hg, _, hat⟩ := run_append_own_at (P := P) W base t o.type e i0 z size bytes ht hi hz0 hz1 hz2 hz hs0 v n xs HO ad m c news hnl hnews h1 (by simp only [maxLen]; omega) hl hbase
  unfold Oper.wp execOp
  simp only [ho, resolve, invoke, builtin, Sem.run_bind, Sem.run_pure, Result.andThen_ok, List.map_toArray, List.map_cons, List.map_nil, hs, hx, hr]
  exact h v1 w1 hown (HB.grown hg hbase (own_base HO)) (fun k hk hn => hg.block k hk hn)
theorem stp_own_none {W : World} (base : Nat) (hw : Region.wanted o (yielded ops a.tmps) = true) (s x : Operand) (t e : TypeId) (size : Nat) (z : Value) (bytes : Nat)
    (ho : o.op = .call { callee := .builtin .append, args := #[s, x], argTypes := #[t, t] }) (ht : P.underlying t = some (.slice e)) (hinfo : (P.info? e).map (fun i => (i.zero, i.size, i.bytes)) = some (some z, size, bytes))
    (v : Value) (n : Nat) (xs : List Value) (hs : a.eval s = v) (HO : W.ownsRow base e size v n xs) {c : Nat} (hx : a.eval x = .slice none 0 c) (h : Kc (a.put o.dst v) W) :
    if Region.wanted o (yielded ops a.tmps) = true then Oper.wp P o a W Kc Q else Kc (a.put o.dst undef) W := by
  obtain ⟨i0, hi, hzz⟩ := Option.map_eq_some_iff.1 hinfo
  rw [if_pos hw]
  have hr : (Builtin.append_ #[t, t] o.type #[v, .slice none 0 c]).run P W = .ok v W := by
    rcases HO.2 with ⟨rfl, rfl⟩ | ⟨g, cap, cur, rfl, _, _, hnc, _⟩
    · simp [Builtin.append_, run_underlying ht, sizeOf, typeInfo, hi, Builtin.lenOf, Builtin.firstCells]
    · simp [Builtin.append_, run_underlying ht, sizeOf, typeInfo, hi, Builtin.lenOf, Builtin.firstCells, hnc, storeCells]
  unfold Oper.wp execOp
  simp only [ho, resolve, invoke, builtin, Sem.run_bind, Sem.run_pure, Result.andThen_ok, List.map_toArray, List.map_cons, List.map_nil, hs, hx, hr]
  exact h
/-- append(empty, xs...) -/
theorem stp_rows {wr w0 W : World} (hw : Region.wanted o (yielded ops a.tmps) = true) (s x : Operand) (t e : TypeId) (z : Value) (bytes : Nat)
    (ho : o.op = .call { callee := .builtin .append, args := #[s, x], argTypes := #[t, t] })
    (ht : P.underlying t = some (.slice e)) (hinfo : (P.info? e).map (fun i => (i.zero, i.size, i.bytes)) = some (some z, d.sz, bytes)) (hz : z.cells.size = d.sz) (hs0 : 0 < d.sz) (hb0 : 0 < bytes)
    (v : Value) (hs : a.eval s = v) (HO : W.ownsRow w0.heap.size e d.sz v 0 []) (HB : Below w0.heap.size w0 W) {A : Option Addr} {c : Nat} {xs : List α} (hx : a.eval x = .slice A xs.length c) (hR : Below wr.heap.size wr w0) (hC : Kd.C d wr A xs.length xs)
    (hl : xs.length * bytes ≤ 140737488355328)
    (h : ∀ v1 w1, OwnT d e wr w1 w0.heap.size v1 xs → Below w0.heap.size w0 w1 → (∀ k, k < W.heap.size → some k ≠ v.ownBlock → w1.heap[k]? = W.heap[k]?) → Kc (a.put o.dst v1) w1) :
    if Region.wanted o (yielded ops a.tmps) = true then Oper.wp P o a W Kc Q else Kc (a.put o.dst undef) W := by
  by_cases hn : xs.length = 0
  · have hxs : xs = [] := List.eq_nil_of_length_eq_zero hn
    subst hxs
    rcases A with _ | ad
    · exact stp_own_none w0.heap.size hw s x t e d.sz z bytes ho ht hinfo v 0 [] hs HO hx (h v W ⟨[], HO, fun r h => by simp at h, rfl, fun j p h => by simp at h⟩ HB (fun k _ _ => rfl))
    · exact stp_own_at (w0 := w0) w0.heap.size hw s x t e z d.sz bytes ho ht hinfo hz hs0 hb0 v 0 [] hs HO ad 0 c [] hx (by simp) (fun j u h => by simp at h) (fun u h => by simp at h) HB HB.size (by simp)
        (fun v1 w1 hown hb hk => h v1 w1 ⟨[], by simpa using hown, fun r h => by simp at h, rfl, fun j p h => by simp at h⟩ hb hk)
  · obtain ⟨ad, rows, rfl, hrl, hrs, hrK, hrc⟩ := cells_of hC (by omega)
    refine stp_own_at (w0 := w0) w0.heap.size hw s x t e z d.sz bytes ho ht hinfo hz hs0 hb0 v 0 [] hs HO ad xs.length c rows.flatten hx (by rw [flat_len rows d.sz hrs, hrl]) ?_ ?_ HB HB.size (by rw [Nat.zero_add]; exact hl) ?_
    · intro k u hu
      obtain ⟨j, i, r, hj, hr, rfl⟩ := flat_of rows d.sz hrs hs0 k u hu
      exact pw_cell_below HB (pw_cell_below hR (hrc j r hj i u hr))
    · intro u hu
      obtain ⟨r, hr, hu'⟩ := List.mem_flatten.1 hu
      obtain ⟨j, hj⟩ := List.getElem?_of_mem hr
      have hjl : j < rows.length := by rw [List.getElem?_eq_some_iff] at hj; exact hj.1
      obtain ⟨r', h1, h2⟩ := hrK j xs[j] (List.getElem?_eq_getElem (by omega))
      rw [hj] at h1; cases h1
      exact d.K_one h2 u hu'
    · intro v1 w1 hown hb hk
      exact h v1 w1 ⟨rows, by simpa using hown, hrs, hrl, hrK⟩ hb hk
/-- append(v, x), x's cells in a block that was made before -/
theorem stp_one {wr w0 W : World} (hw : Region.wanted o (yielded ops a.tmps) = true) (s x : Operand) (t e : TypeId) (z : Value) (bytes : Nat)
    (ho : o.op = .call { callee := .builtin .append, args := #[s, x], argTypes := #[t, t] })
    (ht : P.underlying t = some (.slice e)) (hinfo : (P.info? e).map (fun i => (i.zero, i.size, i.bytes)) = some (some z, d.sz, bytes)) (hz : z.cells.size = d.sz) (hs0 : 0 < d.sz) (hb0 : 0 < bytes)
    (v : Value) (xs : List α) (ys : List Value) (p : α) (hs : a.eval s = v) (g : Nat) (hx : a.eval x = .slice (some ⟨g, 0, none⟩) 1 1) (hg : W.heap[g]? = some (.cells ys.toArray e (0, 0))) (HK : d.K wr p ys)
    (HO : OwnT d e wr W w0.heap.size v xs) (HB : Below w0.heap.size w0 W) (hl : (xs.length + 1) * bytes ≤ 140737488355328)
    (h : ∀ v1 w1, OwnT d e wr w1 w0.heap.size v1 (xs ++ [p]) → Below w0.heap.size w0 w1 → (∀ k, k < W.heap.size → some k ≠ v.ownBlock → w1.heap[k]? = W.heap[k]?) → Kc (a.put o.dst v1) w1) :
    if Region.wanted o (yielded ops a.tmps) = true then Oper.wp P o a W Kc Q else Kc (a.put o.dst undef) W := by
  obtain ⟨rows, ho', hs', hl', hK⟩ := HO
  have hlen := d.K_len HK
  refine stp_own_at (w0 := w0) w0.heap.size hw s x t e z d.sz bytes ho ht hinfo hz hs0 hb0 v xs.length rows.flatten hs ho' ⟨g, 0, none⟩ 1 1 ys hx (by rw [hlen]; simp) ?_ (d.K_one HK) HB HB.size hl ?_
  · intro j u hu
    have e : ∀ n : Nat, (⟨g, 0, none⟩ : Addr).add n = ⟨g, n, none⟩ := fun n => by unfold Addr.add; split <;> simp_all
    rw [e]
    have := blk_cell hg j
    rw [this]; simpa using hu
  intro v1 w1 hown hb hk
  refine h v1 w1 ⟨rows ++ [ys], ?_, ?_, by simp [hl'], ?_⟩ hb hk
  · rw [List.flatten_append, List.length_append]; simpa using hown
  · intro r hr
    rcases List.mem_append.1 hr with hr | hr
    · exact hs' r hr
    · rw [List.mem_singleton] at hr; subst hr; exact hlen
  · intro j q hj
    by_cases c : j < xs.length
    · rw [List.getElem?_append_left c] at hj
      obtain ⟨r, h1, h2⟩ := hK j q hj
      exact ⟨r, by rw [List.getElem?_append_left (by omega)]; exact h1, h2⟩
    · rw [List.getElem?_append_right (by omega)] at hj
      have hj0 : j - xs.length = 0 := by
        have : j - xs.length < 1 := by rw [List.getElem?_eq_some_iff] at hj; exact hj.1
        omega
      rw [hj0] at hj
      cases hj
      exact ⟨ys, by rw [List.getElem?_append_right (by omega), hl', hj0]; rfl, HK⟩
end
section
variable {l0 : List S58} {l1 : List S68} {l2 : List S71} {idle crit sw swE sems hor : Int} {ts : List S36} {nx : List Int} {js : List S38} {now a : Int}
theorem job_K {w : World} (a b c d e : Int) (f : Bool) : k38.K w (⟨a, b, c, d, e, f⟩ : S38) [.int .i64 a, .int .i64 b, .int .i64 c, .int .i64 d, .int .i64 e, .bool f] :=
  ⟨[.int .i64 a], _, rfl, rfl, [.int .i64 b], _, rfl, rfl, [.int .i64 c], _, rfl, rfl, [.int .i64 d], _, rfl, rfl, [.int .i64 e], _, rfl, rfl, rfl⟩
theorem jobOf_some (hjs : js.length ≤ 64) (n : Int) (d : Nat) : ∀ (i k : Nat), i + d = js.length → d < k → ∃ r1 r2 r3 r4 r5 r6 r7, dormouseref09_JobOf.l0 k js n i = some (r1, r2, r3, r4, r5, r6, r7) := by
  induction d with
  | zero =>
    intro i k hi hk
    obtain ⟨k, rfl⟩ : ∃ q, k = q + 1 := ⟨k - 1, by omega⟩
    simp only [dormouseref09_JobOf.l0]
    rw [if_neg (by omega)]
    exact ⟨_, _, _, _, _, _, _, rfl⟩
  | succ d ih =>
    intro i k hi hk
    obtain ⟨k, rfl⟩ : ∃ q, k = q + 1 := ⟨k - 1, by omega⟩
    simp only [dormouseref09_JobOf.l0]
    rw [if_pos (by omega), if_pos (by omega)]
    by_cases c : (rd_T38 js i).f0 = n
    · rw [if_pos c]; exact ⟨_, _, _, _, _, _, _, rfl⟩
    · rw [if_neg c, Adm.w64 (n := (i : Int) + 1) (by omega) (by omega), show (i : Int) + 1 = ((i + 1 : Nat) : Int) from by omega]
      exact ih (i + 1) k (by omega) (by omega)
theorem jobOf_any (hjs : js.length ≤ 64) (n : Int) : ∃ r1 r2 r3 r4 r5 r6 r7, dormouseref09_JobOf.f 70 js n = some (r1, r2, r3, r4, r5, r6, r7) := jobOf_some hjs n js.length 0 70 (by omega) (by omega)
/-- the document's Util is the program's -/
theorem refp_util {c t : Int} (ht : 1 ≤ t) (h0 : 0 ≤ c) (h1 : c ≤ 536870912) : dormouseref01_Util.f c t = some (Adm.part c t) := by
  unfold dormouseref01_Util.f dormouseref01_clamp.f
  rw [if_neg (by omega), if_neg (by omega), if_neg (by omega), Option.bind_some, if_neg (by omega)]
  rw [Adm.w64 (n := c * 4294967296) (by omega) (by omega)]
  have hn : 0 ≤ c * 4294967296 := by omega
  rw [Int.tdiv_eq_ediv_of_nonneg hn, Int.tmod_eq_emod_of_nonneg hn]
  have h5 := Int.ediv_nonneg hn (show 0 ≤ t by omega)
  have h6 := Int.ediv_le_self t hn
  rw [Adm.w64 (n := c * 4294967296 / t) (by omega) (by omega)]
  have e := ceil_eq (n := c * 4294967296) ht
  unfold Adm.part
  by_cases hm : c * 4294967296 % t = 0
  · rw [if_pos hm]; rw [if_pos hm] at e; congr 1; omega
  · rw [if_neg hm, Adm.w64 (by omega) (by omega)]; rw [if_neg hm] at e; congr 1
theorem refp_part (h : TableOk l0 l1 l2 idle crit sw swE sems hor) {t : S36} (ht : TaskOk l2.length sems hor t) (level : Int) {k : Nat} (hk : 0 < k) : dormouseref09_Part.f k l0 l1 l2 idle crit sw swE sems hor t.f0 t.f1 t.f2 t.f3 level = some (partOf l0 sw level t) := by
  obtain ⟨k, rfl⟩ : ∃ q, k = q + 1 := ⟨k - 1, by omega⟩
  have hp := ht.period
  have hm := most_bd h ht level
  have hd := head_of h
  have zero : ¬ (0 ≤ level ∧ level < l0.length) → dormouseref01_Util.f 0 t.f0 = some (partOf l0 sw level t) := by
    intro hl
    rw [refp_util hp.1 (by omega) (by omega)]
    unfold partOf most; rw [if_neg hl]
  unfold dormouseref09_Part.f
  by_cases c1 : level < 0
  · rw [if_pos c1]; simp only [dormouseref09_Part.j0]
    rw [if_pos (by trivial), zero (by omega), Option.bind_some]
  · rw [if_neg c1]; simp only [dormouseref09_Part.j0]
    by_cases c2 : level ≥ (l0.length : Int)
    · rw [if_pos (decide_eq_true c2), zero (by omega), Option.bind_some]
    · rw [if_neg (by simpa using c2), if_pos (by omega), if_pos (by omega)]
      have hl := level_bd h (n := level) (by omega) (by omega)
      have e : most l0 sw level t = t.f1 * (rd_T58 l0 level).f0 + 2 * sw := by unfold most; rw [if_pos (by omega)]
      have hmul : 0 ≤ t.f1 * (rd_T58 l0 level).f0 := Int.mul_nonneg (by have := ht.cycles; omega) (by omega)
      rw [e] at hm
      rw [Adm.w64 (n := t.f1 * (rd_T58 l0 level).f0) (by omega) (by omega), Adm.w64 (n := 2 * sw) (by omega) (by omega), Adm.w64 (by omega) (by omega), refp_util hp.1 hm.1 (by omega), Option.bind_some]
      unfold partOf; rw [e]
end
end Go.Proofs.Ytchlbnlhjllcbaa.Sla
namespace Go.Proofs.Ytchlbnlhjllcbaa.Sla
open Go.RowKit Go.Proofs.Ytchlbnlhjllcbaa.F Go.Proofs.Ytchlbnlhjllcbaa.Tbl Go.Proofs.Ytchlbnlhjllcbaa.Adm Go.Proofs.Ytchlbnlhjllcbaa.Opn Go.Proofs.YtchlbnlhjllcbaaW.PrintWords Go.Proofs.YtchlbnlhjllcbaaW.PrintLast Go.Proofs.YtchlbnlhjllcbaaW.PrintMore
set_option linter.unusedVariables false
attribute [local go_sem] max2_int min2_int max_two min_two max_three min_three max_four min_four
set_option maxHeartbeats 12800000 in
set_option maxRecDepth 100000 in
theorem released_walk {w : World} (x : VView) (cs : List Value) (h : kView.K w x cs) (_ok : True) (n : Int) (hn : (Lit.int .u8 n).wf = true) (later : Int) (hlt : (Lit.int .u8 later).wf = true) :
    Calls Try.prog 3 #[.agg cs.toArray, .int .u8 n, .int .u8 later] w fun e w' => e = .returned (.bool true) ∧ Below w.heap.size w w' := by
  obtain ⟨A0, c0, A1, c1, A2, c2, A3, c3, A4, c4, A5, c5, A6, c6, rfl, ⟨g0, r0⟩, ⟨g1, r1⟩, ⟨g2, r2⟩, ⟨g3, r3⟩, ⟨g4, r4⟩, ⟨g5, r5⟩, ⟨g6, r6⟩⟩ := view_open h
  clear h
  obtain ⟨⟨l0, l1, l2, idle, crit, sw, swE, sems, hor⟩, ts, nx, js, hs, now, at_⟩ := x
  dsimp only at *
  have hn2 : 0 ≤ n ∧ n ≤ 255 := by simp [Lit.wf, IntKind.min, IntKind.max, IntKind.signed, IntKind.bits] at hn; omega
  have hl2 : 0 ≤ later ∧ later ≤ 255 := by simp [Lit.wf, IntKind.min, IntKind.max, IntKind.signed, IntKind.bits] at hlt; omega
  clear hn hlt
  have RJ := Aside0.mk r5
  have GJ := Aside0.mk g5
  have RN := Aside0.mk r4
  have hA5 : Aside0 (A5 = none → js.length = 0) := ⟨fun h => by rcases Nat.eq_zero_or_pos js.length with h0 | h0; exact h0; obtain ⟨ad, e, _⟩ := r5.2.2 h0; rw [h] at e; cases e⟩
  have V := VM.start (idle := idle) (crit := crit) (sw := sw) (swE := swE) (sems := sems) (hor := hor) (jv := .slice A5 js.length c5) (hv := .slice A6 hs.length c6) (now := now) (at_ := at_) g0 r0 g1 r1 g2 r2 g3 r3 g4 r4
  go_enter Try.func3, Try.ntmps3
  go_upto_region 1 with (fail)
  generalize w.alloc (.cells #[.slice A0 l0.length c0, .slice A1 l1.length c1, .slice A2 l2.length c2, .int .i64 idle, .int .i64 crit, .int .i64 sw, .int .i64 swE, .int .i64 sems, .int .i64 hor, .slice A3 ts.length c3, .slice A4 nx.length c4, .slice A5 js.length c5, .slice A6 hs.length c6, .int .i64 now, .int .i64 at_] 32 (0, 0)) = w0 at V ⊢
  clear r0 r1 r2 r3 r4 r5 r6 g0 g1 g2 g3 g4 g5 g6
  obtain ⟨x0, x1, x2, x3, x4, x5, x6, x7, x8, x9, x10, x11, x12, x13, x14⟩ := V.x
  have f12 := blk_frozen V.bv 12
  go_upto_region 2 with (fail)
  clear x0 x1 x2 x3 x4 x5 x6 x7 x8 x9 x10 x11 x12 x13 x14
  clear f12
  replace V := V.seth (.slice none 0 0)
  generalize w0.setCell ⟨w.heap.size, 12, none⟩ (.slice none 0 0) = w1 at V ⊢
  obtain ⟨x0, x1, x2, x3, x4, x5, x6, x7, x8, x9, x10, x11, x12, x13, x14⟩ := V.x
  go_wp2_with fail
  clear x0 x1 x2 x3 x4 x5 x6 x7 x8 x9 x10 x11 x12 x13 x14
  by_cases hg : GoodJ l0 l1 l2 idle crit sw swE sems hor ts nx js now at_
  case neg =>
    have NG := Aside0.mk (goodJ_no hg)
    clear hg
    refine (good_walk A0 c0 l0 A1 c1 l1 A2 c2 l2 idle crit sw swE sems hor A3 c3 ts A4 c4 nx A5 c5 js now at_ V.g0 V.R0 V.g1 V.R1 V.g2 V.R2 V.g3 V.R3 V.g4 V.R4 GJ.out (Kd.C_below RJ.out V.hb)).mono ?_; rintro e w2 ⟨rfl, hb⟩
    rw [NG.out]
    replace V := V.step hb
    clear hb
    go_wp2_with fail
    refine (dormouselaw15_answers.calls true _ answers15).mono ?_; rintro e w9 ⟨rfl, hb⟩
    replace V := V.step hb
    clear hb
    go_wp2_with fail
    go_ret
    exact ⟨rfl, V.hb⟩
  case pos =>
    have YG := Aside0.mk (goodJ_yes hg)
    have HG := Aside0.mk hg
    have few := hg.base.few
    have HL := Aside0.mk hg.base.len
    have HNW := Aside0.mk hg.base.now
    clear hg
    refine (good_walk A0 c0 l0 A1 c1 l1 A2 c2 l2 idle crit sw swE sems hor A3 c3 ts A4 c4 nx A5 c5 js now at_ V.g0 V.R0 V.g1 V.R1 V.g2 V.R2 V.g3 V.R3 V.g4 V.R4 GJ.out (Kd.C_below RJ.out V.hb)).mono ?_; rintro e w2 ⟨rfl, hb⟩
    rw [YG.out]
    replace V := V.step hb
    clear hb
    by_cases z : ts.length = 0
    case pos =>
      have z1 : ((ts.length : Int) == 0) = true := by rw [beq_iff_eq]; omega
      have Z := Aside0.mk z
      clear z
      obtain ⟨x0, x1, x2, x3, x4, x5, x6, x7, x8, x9, x10, x11, x12, x13, x14⟩ := V.x
      go_wp2_with fail
      refine (dormouselaw15_answers.calls true _ answers15).mono ?_; rintro e w9 ⟨rfl, hb⟩
      replace V := V.step hb
      clear hb
      go_wp2_with fail
      go_ret
      exact ⟨rfl, V.hb⟩
    case neg =>
      have z1 : ((ts.length : Int) == 0) = false := by rw [beq_eq_false_iff_ne]; omega
      have Z := Aside0.mk z
      clear z
      have hm0 : 1 ≤ (ts.length : Int) := by have := Z.out; omega
      obtain ⟨x0, x1, x2, x3, x4, x5, x6, x7, x8, x9, x10, x11, x12, x13, x14⟩ := V.x
      go_upto_region 5 with (fail)
      clear x0 x1 x2 x3 x4 x5 x6 x7 x8 x9 x10 x11 x12 x13 x14
      clear z1
      obtain ⟨s, hs2⟩ : ∃ s : Nat, n % (ts.length : Int) = s := ⟨_, (Int.toNat_of_nonneg (Int.emod_nonneg _ (by omega))).symm⟩
      have hm2 : (s : Int) < (ts.length : Int) := by have := Int.emod_lt_of_pos n (show (0 : Int) < ts.length by omega); omega
      have hm1 : 0 ≤ (s : Int) := by omega
      rw [hs2]
      clear hs2
      obtain ⟨ad, B2, d2, B3, d3, ea, y0, y1, y2, y3, hl2', hi2', hl3', hi3'⟩ := at_T36 V.R3 (s : Int) hm1 hm2
      cases ea
      simp only [Int.toNat_natCast] at y0 y1 y2 y3
      have Q2 := Aside0.mk hl2'
      have Q3 := Aside0.mk hl3'
      have I2 := Aside0.mk hi2'
      have I3 := Aside0.mk hi3'
      clear hl2' hi2' hl3' hi3'
      have TASK := Aside0.mk (HG.out.base.task s (by omega))
      have NEXT := Aside0.mk (HG.out.base.next s (by omega))
      obtain ⟨t, ht_⟩ : ∃ t, rd_T36 ts (s : Int) = t := ⟨_, rfl⟩
      have TT := Aside0.mk ht_
      rw [ht_] at y0 y1 y2 y3 TASK Q2 Q3 I2 I3
      clear ht_
      obtain ⟨x0, x1, x2, x3, x4, x5, x6, x7, x8, x9, x10, x11, x12, x13, x14⟩ := V.x
      have hz := blk_lt V.bv
      go_upto_region 6 with (fail)
      clear x0 x1 x2 x3 x4 x5 x6 x7 x8 x9 x10 x11 x12 x13 x14
      clear y0 y1 y2 y3
      have BT := Aside0.mk (heap_alloc_new w2 (.cells #[.int .i64 t.f0, .int .i64 t.f1, .slice B2 t.f2.length d2, .slice B3 t.f3.length d3] 36 (0, 0)))
      have hbt : Below w2.heap.size w2 (w2.alloc (.cells #[.int .i64 t.f0, .int .i64 t.f1, .slice B2 t.f2.length d2, .slice B3 t.f3.length d3] 36 (0, 0))) := (Below.refl _ _).alloc (Nat.le_refl _) _
      replace V := V.step hbt
      replace I2 := Aside0.mk (Kd.C_below I2.out hbt)
      replace I3 := Aside0.mk (Kd.C_below I3.out hbt)
      have GT : Aside0 (w.heap.size < w2.heap.size) := ⟨hz⟩
      clear hbt hz
      generalize w2.alloc (.cells #[.int .i64 t.f0, .int .i64 t.f1, .slice B2 t.f2.length d2, .slice B3 t.f3.length d3] 36 (0, 0)) = wq at V BT I2 I3 ⊢
      generalize w2.heap.size = gt at BT GT ⊢
      have JF := Aside0.mk (jobs_few HG.out)
      obtain ⟨r1, r2, r3, r4, r5, r6, r7, hjo⟩ := jobOf_any (js := js) JF.out (s : Int)
      have HJO := Aside0.mk hjo
      clear hjo
      obtain ⟨x0, x1, x2, x3, x4, x5, x6, x7, x8, x9, x10, x11, x12, x13, x14⟩ := V.x
      go_wp2_with fail
      clear x0 x1 x2 x3 x4 x5 x6 x7 x8 x9 x10 x11 x12 x13 x14
      refine (dormouseref09_JobOf.calls 70 A5 c5 js (s : Int) r1 r2 r3 r4 r5 r6 r7 _ (Kd.C_below RJ.out V.hb) GJ.out HJO.out).mono ?_; rintro e w3 ⟨rfl, hb⟩
      replace V := V.step hb
      replace BT := Aside0.mk (blk_below BT.out hb)
      replace I2 := Aside0.mk (Kd.C_below I2.out hb)
      replace I3 := Aside0.mk (Kd.C_below I3.out hb)
      clear hb
      go_upto_region 7 with (fail)
      have hb : Below w3.heap.size w3 (w3.alloc (.cells #[.int .i64 r1, .int .i64 r2, .int .i64 r3, .int .i64 r4, .int .i64 r5, .bool r6] 38 (0, 0))) := (Below.refl _ _).alloc (Nat.le_refl _) _
      replace V := V.step hb
      replace BT := Aside0.mk (blk_below BT.out hb)
      replace I2 := Aside0.mk (Kd.C_below I2.out hb)
      replace I3 := Aside0.mk (Kd.C_below I3.out hb)
      clear hb
      generalize w3.alloc (.cells #[.int .i64 r1, .int .i64 r2, .int .i64 r3, .int .i64 r4, .int .i64 r5, .bool r6] 38 (0, 0)) = w4 at V BT I2 I3 ⊢
      generalize w3.heap.size = gj at ⊢
      clear HJO
      obtain ⟨an, en, xn0⟩ := Kd.at_int V.R4 (s : Int) hm1 (by rw [HL.out]; exact hm2)
      cases en
      simp only [Int.toNat_natCast] at xn0
      obtain ⟨nv, hnv⟩ : ∃ v, rd nx (s : Int) = v := ⟨_, rfl⟩
      have HNV := Aside0.mk hnv
      rw [hnv] at xn0 NEXT
      clear hnv
      have XN := Aside0.mk xn0
      clear xn0
      have q2_ : ((s : Int) < (nx.length : Int)) = True := eq_true (by rw [HL.out]; exact hm2)
      have q3_ : ((s : Int) < (ts.length : Int)) = True := eq_true hm2
      cases r7 with
      | true =>
        obtain ⟨x0, x1, x2, x3, x4, x5, x6, x7, x8, x9, x10, x11, x12, x13, x14⟩ := V.x
        obtain ⟨y0, y1, y2, y3⟩ : _ ∧ _ ∧ _ ∧ _ := ⟨(blk_cell BT.out 0).trans rfl, (blk_cell BT.out 1).trans rfl, (blk_cell BT.out 2).trans rfl, (blk_cell BT.out 3).trans rfl⟩
        have xn := XN.out
        go_wp2_with fail
        go_quiet (fail)
        go_wp2_with fail
        clear x0 x1 x2 x3 x4 x5 x6 x7 x8 x9 x10 x11 x12 x13 x14
        clear y0 y1 y2 y3 xn
        replace V := V.step (pw_below_drewN (Below.refl w4.heap.size w4) nq)
        refine (dormouselaw15_answers.calls true _ answers15).mono ?_; rintro e w9 ⟨rfl, hb⟩
        replace V := V.step hb
        clear hb
        go_wp2_with fail
        go_ret
        exact ⟨rfl, V.hb⟩
      | false =>
        by_cases hp : t.f0 = 0
        case pos =>
          have dp : (t.f0 == 0) = true := by rw [beq_iff_eq]; exact hp
          clear hp
          obtain ⟨x0, x1, x2, x3, x4, x5, x6, x7, x8, x9, x10, x11, x12, x13, x14⟩ := V.x
          obtain ⟨y0, y1, y2, y3⟩ : _ ∧ _ ∧ _ ∧ _ := ⟨(blk_cell BT.out 0).trans rfl, (blk_cell BT.out 1).trans rfl, (blk_cell BT.out 2).trans rfl, (blk_cell BT.out 3).trans rfl⟩
          have xn := XN.out
          go_wp2_with fail
          go_quiet (fail)
          go_wp2_with fail
          clear x0 x1 x2 x3 x4 x5 x6 x7 x8 x9 x10 x11 x12 x13 x14
          clear y0 y1 y2 y3 xn
          replace V := V.step (pw_below_drewN (Below.refl w4.heap.size w4) nq)
          refine (dormouselaw15_answers.calls true _ answers15).mono ?_; rintro e w9 ⟨rfl, hb⟩
          replace V := V.step hb
          clear hb
          go_wp2_with fail
          go_ret
          exact ⟨rfl, V.hb⟩
        case neg =>
          have dp : (t.f0 == 0) = false := by rw [beq_eq_false_iff_ne]; exact hp
          have TOK : Aside0 (TaskOk l2.length sems hor t) := ⟨by rcases TASK.out with y | y; exact absurd y.1 hp; exact y⟩
          clear hp
          by_cases hx : now < nv
          case pos =>
            have dx : decide (now < nv) = true := decide_eq_true hx
            obtain ⟨x0, x1, x2, x3, x4, x5, x6, x7, x8, x9, x10, x11, x12, x13, x14⟩ := V.x
            obtain ⟨y0, y1, y2, y3⟩ : _ ∧ _ ∧ _ ∧ _ := ⟨(blk_cell BT.out 0).trans rfl, (blk_cell BT.out 1).trans rfl, (blk_cell BT.out 2).trans rfl, (blk_cell BT.out 3).trans rfl⟩
            have xn := XN.out
            go_wp2_with fail
            go_quiet (fail)
            go_wp2_with fail
            clear x0 x1 x2 x3 x4 x5 x6 x7 x8 x9 x10 x11 x12 x13 x14
            clear y0 y1 y2 y3 xn
            replace V := V.step (pw_below_drewN (Below.refl w4.heap.size w4) nq)
            refine (dormouselaw15_answers.calls true _ answers15).mono ?_; rintro e w9 ⟨rfl, hb⟩
            replace V := V.step hb
            clear hb
            go_wp2_with fail
            go_ret
            exact ⟨rfl, V.hb⟩
          case neg =>
            have dx : decide (now < nv) = false := decide_eq_false hx
            have HX := Aside0.mk hx
            clear hx
            have PT := Aside0.mk (refp_part HG.out.base.table TOK.out 0 (show 0 < 1 by decide))
            obtain ⟨pt, hpt⟩ : ∃ v, partOf l0 sw 0 t = v := ⟨_, rfl⟩
            have HPT := Aside0.mk hpt
            rw [hpt] at PT
            clear hpt
            by_cases ho : (4294967296 : Int) < pt
            case pos =>
              have do_ : decide ((4294967296 : Int) < pt) = true := decide_eq_true ho
              obtain ⟨x0, x1, x2, x3, x4, x5, x6, x7, x8, x9, x10, x11, x12, x13, x14⟩ := V.x
              obtain ⟨y0, y1, y2, y3⟩ : _ ∧ _ ∧ _ ∧ _ := ⟨(blk_cell BT.out 0).trans rfl, (blk_cell BT.out 1).trans rfl, (blk_cell BT.out 2).trans rfl, (blk_cell BT.out 3).trans rfl⟩
              have xn := XN.out
              go_wp2_with fail
              go_region_held3 (fun w' => w'.cell? ⟨w.heap.size, 0, none⟩ = some (.slice A0 l0.length c0) ∧ w'.cell? ⟨w.heap.size, 1, none⟩ = some (.slice A1 l1.length c1) ∧ w'.cell? ⟨w.heap.size, 2, none⟩ = some (.slice A2 l2.length c2) ∧ w'.cell? ⟨w.heap.size, 3, none⟩ = some (.int .i64 idle) ∧ w'.cell? ⟨w.heap.size, 4, none⟩ = some (.int .i64 crit) ∧ w'.cell? ⟨w.heap.size, 5, none⟩ = some (.int .i64 sw) ∧ w'.cell? ⟨w.heap.size, 6, none⟩ = some (.int .i64 swE) ∧ w'.cell? ⟨w.heap.size, 7, none⟩ = some (.int .i64 sems) ∧ w'.cell? ⟨w.heap.size, 8, none⟩ = some (.int .i64 hor) ∧ w'.cell? ⟨w.heap.size, 9, none⟩ = some (.slice (some ad) ts.length c3) ∧ w'.cell? ⟨w.heap.size, 10, none⟩ = some (.slice (some an) nx.length c4) ∧ w'.cell? ⟨w.heap.size, 11, none⟩ = some (.slice A5 js.length c5) ∧ w'.cell? ⟨w.heap.size, 12, none⟩ = some (.slice none 0 0) ∧ w'.cell? ⟨w.heap.size, 13, none⟩ = some (.int .i64 now) ∧ w'.cell? ⟨w.heap.size, 14, none⟩ = some (.int .i64 at_) ∧ w'.cell? ⟨gt, 0, none⟩ = some (.int .i64 t.f0) ∧ w'.cell? ⟨gt, 1, none⟩ = some (.int .i64 t.f1) ∧ w'.cell? ⟨gt, 2, none⟩ = some (.slice B2 t.f2.length d2) ∧ w'.cell? ⟨gt, 3, none⟩ = some (.slice B3 t.f3.length d3) ∧ w'.cell? (an.add s) = some (.int .i64 nv)) (first | exact ⟨x0, x1, x2, x3, x4, x5, x6, x7, x8, x9, x10, x11, x12, x13, x14, y0, y1, y2, y3, xn⟩)
                ((go_at_call 12; replace V := V.drew; replace I2 := Aside0.mk (Kd.C_drew I2.out); replace I3 := Aside0.mk (Kd.C_drew I3.out); (with_reducible refine (dormouseref09_Part.calls 1 A0 c0 l0 A1 c1 l1 A2 c2 l2 idle crit sw swE sems hor t.f0 t.f1 B2 d2 t.f2 B3 d3 t.f3 0 pt _ V.R0 V.g0 V.R1 V.g1 V.R2 V.g2 I2.out Q2.out I3.out Q3.out PT.out).mono ?_); rintro e w5 ⟨rfl, hb⟩; replace V := V.step hb; replace BT := Aside0.mk (blk_below (blk_drew BT.out) hb); replace I2 := Aside0.mk (Kd.C_below I2.out hb); replace I3 := Aside0.mk (Kd.C_below I3.out hb); replace XN := Aside0.mk (pw_cell_below hb ((World.cell?_drew _ _).trans XN.out)); clear hb x0 x1 x2 x3 x4 x5 x6 x7 x8 x9 x10 x11 x12 x13 x14 y0 y1 y2 y3 xn; obtain ⟨x0, x1, x2, x3, x4, x5, x6, x7, x8, x9, x10, x11, x12, x13, x14⟩ := V.x; obtain ⟨y0, y1, y2, y3⟩ : w5.cell? ⟨gt, 0, none⟩ = some (.int .i64 t.f0) ∧ w5.cell? ⟨gt, 1, none⟩ = some (.int .i64 t.f1) ∧ w5.cell? ⟨gt, 2, none⟩ = some (.slice B2 t.f2.length d2) ∧ w5.cell? ⟨gt, 3, none⟩ = some (.slice B3 t.f3.length d3) := ⟨(blk_cell BT.out 0).trans rfl, (blk_cell BT.out 1).trans rfl, (blk_cell BT.out 2).trans rfl, (blk_cell BT.out 3).trans rfl⟩; have xn := XN.out))
              try go_wp2_with fail
              refine (dormouselaw15_answers.calls true _ answers15).mono ?_; rintro e w9 ⟨rfl, hb⟩
              replace V := V.step hb
              clear hb
              go_wp2_with fail
              go_ret
              exact ⟨rfl, V.hb⟩
            case neg =>
              have do_ : decide ((4294967296 : Int) < pt) = false := decide_eq_false ho
              have HO1 := Aside0.mk ho
              clear ho
              obtain ⟨x0, x1, x2, x3, x4, x5, x6, x7, x8, x9, x10, x11, x12, x13, x14⟩ := V.x
              obtain ⟨y0, y1, y2, y3⟩ : _ ∧ _ ∧ _ ∧ _ := ⟨(blk_cell BT.out 0).trans rfl, (blk_cell BT.out 1).trans rfl, (blk_cell BT.out 2).trans rfl, (blk_cell BT.out 3).trans rfl⟩
              have xn := XN.out
              go_wp2_with fail
              go_region_held3 (fun w' => w'.cell? ⟨w.heap.size, 0, none⟩ = some (.slice A0 l0.length c0) ∧ w'.cell? ⟨w.heap.size, 1, none⟩ = some (.slice A1 l1.length c1) ∧ w'.cell? ⟨w.heap.size, 2, none⟩ = some (.slice A2 l2.length c2) ∧ w'.cell? ⟨w.heap.size, 3, none⟩ = some (.int .i64 idle) ∧ w'.cell? ⟨w.heap.size, 4, none⟩ = some (.int .i64 crit) ∧ w'.cell? ⟨w.heap.size, 5, none⟩ = some (.int .i64 sw) ∧ w'.cell? ⟨w.heap.size, 6, none⟩ = some (.int .i64 swE) ∧ w'.cell? ⟨w.heap.size, 7, none⟩ = some (.int .i64 sems) ∧ w'.cell? ⟨w.heap.size, 8, none⟩ = some (.int .i64 hor) ∧ w'.cell? ⟨w.heap.size, 9, none⟩ = some (.slice (some ad) ts.length c3) ∧ w'.cell? ⟨w.heap.size, 10, none⟩ = some (.slice (some an) nx.length c4) ∧ w'.cell? ⟨w.heap.size, 11, none⟩ = some (.slice A5 js.length c5) ∧ w'.cell? ⟨w.heap.size, 12, none⟩ = some (.slice none 0 0) ∧ w'.cell? ⟨w.heap.size, 13, none⟩ = some (.int .i64 now) ∧ w'.cell? ⟨w.heap.size, 14, none⟩ = some (.int .i64 at_) ∧ w'.cell? ⟨gt, 0, none⟩ = some (.int .i64 t.f0) ∧ w'.cell? ⟨gt, 1, none⟩ = some (.int .i64 t.f1) ∧ w'.cell? ⟨gt, 2, none⟩ = some (.slice B2 t.f2.length d2) ∧ w'.cell? ⟨gt, 3, none⟩ = some (.slice B3 t.f3.length d3) ∧ w'.cell? (an.add s) = some (.int .i64 nv)) (first | exact ⟨x0, x1, x2, x3, x4, x5, x6, x7, x8, x9, x10, x11, x12, x13, x14, y0, y1, y2, y3, xn⟩)
                ((go_at_call 12; replace V := V.drew; replace I2 := Aside0.mk (Kd.C_drew I2.out); replace I3 := Aside0.mk (Kd.C_drew I3.out); (with_reducible refine (dormouseref09_Part.calls 1 A0 c0 l0 A1 c1 l1 A2 c2 l2 idle crit sw swE sems hor t.f0 t.f1 B2 d2 t.f2 B3 d3 t.f3 0 pt _ V.R0 V.g0 V.R1 V.g1 V.R2 V.g2 I2.out Q2.out I3.out Q3.out PT.out).mono ?_); rintro e w5 ⟨rfl, hb⟩; replace V := V.step hb; replace BT := Aside0.mk (blk_below (blk_drew BT.out) hb); replace I2 := Aside0.mk (Kd.C_below I2.out hb); replace I3 := Aside0.mk (Kd.C_below I3.out hb); replace XN := Aside0.mk (pw_cell_below hb ((World.cell?_drew _ _).trans XN.out)); clear hb x0 x1 x2 x3 x4 x5 x6 x7 x8 x9 x10 x11 x12 x13 x14 y0 y1 y2 y3 xn; obtain ⟨x0, x1, x2, x3, x4, x5, x6, x7, x8, x9, x10, x11, x12, x13, x14⟩ := V.x; obtain ⟨y0, y1, y2, y3⟩ : w5.cell? ⟨gt, 0, none⟩ = some (.int .i64 t.f0) ∧ w5.cell? ⟨gt, 1, none⟩ = some (.int .i64 t.f1) ∧ w5.cell? ⟨gt, 2, none⟩ = some (.slice B2 t.f2.length d2) ∧ w5.cell? ⟨gt, 3, none⟩ = some (.slice B3 t.f3.length d3) := ⟨(blk_cell BT.out 0).trans rfl, (blk_cell BT.out 1).trans rfl, (blk_cell BT.out 2).trans rfl, (blk_cell BT.out 3).trans rfl⟩; have xn := XN.out))
              try go_upto_region 11 with (fail)
              clear x0 x1 x2 x3 x4 x5 x6 x7 x8 x9 x10 x11 x12 x13 x14
              clear y0 y1 y2 y3 xn
              clear dp dx do_
              have BW := Aside0.mk (heap_alloc_new w5 (.cells #[.slice A0 l0.length c0, .slice A1 l1.length c1, .slice A2 l2.length c2, .int .i64 idle, .int .i64 crit, .int .i64 sw, .int .i64 swE, .int .i64 sems, .int .i64 hor, .slice (some ad) ts.length c3, .slice (some an) nx.length c4, .slice A5 js.length c5, .slice none 0 0, .int .i64 now, .int .i64 at_] 32 (0, 0)))
              have GW : Aside0 (w.heap.size < w5.heap.size ∧ gt < w5.heap.size) := ⟨blk_lt V.bv, blk_lt BT.out⟩
              have hb : Below w5.heap.size w5 (w5.alloc (.cells #[.slice A0 l0.length c0, .slice A1 l1.length c1, .slice A2 l2.length c2, .int .i64 idle, .int .i64 crit, .int .i64 sw, .int .i64 swE, .int .i64 sems, .int .i64 hor, .slice (some ad) ts.length c3, .slice (some an) nx.length c4, .slice A5 js.length c5, .slice none 0 0, .int .i64 now, .int .i64 at_] 32 (0, 0))) := (Below.refl _ _).alloc (Nat.le_refl _) _
              replace V := V.step hb
              replace BT := Aside0.mk (blk_below BT.out hb)
              replace I2 := Aside0.mk (Kd.C_below I2.out hb)
              replace I3 := Aside0.mk (Kd.C_below I3.out hb)
              clear hb
              generalize w5.alloc (.cells #[.slice A0 l0.length c0, .slice A1 l1.length c1, .slice A2 l2.length c2, .int .i64 idle, .int .i64 crit, .int .i64 sw, .int .i64 swE, .int .i64 sems, .int .i64 hor, .slice (some ad) ts.length c3, .slice (some an) nx.length c4, .slice A5 js.length c5, .slice none 0 0, .int .i64 now, .int .i64 at_] 32 (0, 0)) = w6 at V BT BW I2 I3 ⊢
              generalize w5.heap.size = gW at BW GW ⊢
              clear I2 I3 XN
              have TP := TOK.out.period
              have TC := TOK.out.cycles
              have HD := Aside0.mk (head_of HG.out.base.table)
              have hs1 : IntKind.i64.wrap (now + t.f0) = now + t.f0 := IntWalk.i64_in _ ⟨by have := HD.out; have := HNW.out; omega, by have := HD.out; have := HNW.out; omega⟩
              have hs3 : IntKind.i64.wrap (1 + later) = 1 + later := IntWalk.i64_in _ ⟨by omega, by omega⟩
              have hs4 : IntKind.i64.wrap later = later := IntWalk.i64_in _ ⟨by omega, by omega⟩
              obtain ⟨c11, y0, y1⟩ : w6.drew.cell? ⟨w.heap.size, 11, none⟩ = some (.slice A5 js.length c5) ∧ w6.drew.cell? ⟨gt, 0, none⟩ = some (.int .i64 t.f0) ∧ w6.drew.cell? ⟨gt, 1, none⟩ = some (.int .i64 t.f1) := ⟨(blk_cell (blk_drew V.bv) 11).trans rfl, (blk_cell (blk_drew BT.out) 0).trans rfl, (blk_cell (blk_drew BT.out) 1).trans rfl⟩
              refine start_ (n := 20) (S := fun w' => w'.cell? ⟨w.heap.size, 11, none⟩ = some (.slice A5 js.length c5) ∧ w'.cell? ⟨gt, 0, none⟩ = some (.int .i64 t.f0) ∧ w'.cell? ⟨gt, 1, none⟩ = some (.int .i64 t.f1)) (ds := [17, 19]) #[false, false, false, false, false, false, false, false, false, false, false, false, false, false, false, false, false, false, false, false] (by kernel_rfl) rfl rfl ⟨c11, y0, y1⟩ (fun hHeld => ?_)
              clear c11 y0 y1
              replace V := V.drew
              replace BT := Aside0.mk (blk_drew BT.out)
              replace BW := Aside0.mk (blk_drew BW.out)
              generalize w6.drew = wd at V BT BW hHeld ⊢
              refine pure_ (i := 1) (N := some 70) (v := ?_) (a' := ?_) #[false, true, false, false, false, false, false, false, false, false, false, false, false, false, false, false, false, false, false, false] rfl rfl (by kernel_rfl) (fun _ _ _ h => h) (Or.inl ⟨by rfl, ?_⟩) ?_ ?_
              rotate_left
              · intro w'
                go_simp
                with_reducible rfl
              rotate_left
              · simp only [Act.put, List.setIfInBounds_toArray, List.set_cons_zero, List.set_cons_succ, hs1, hs3, hs4]
                rfl
              refine take_ (i := 2) (N := some 71) (v := ?_) (a' := ?_) #[false, true, true, false, false, false, false, false, false, false, false, false, false, false, false, false, false, false, false, false] rfl rfl (by kernel_rfl) (fun _ _ _ h => h) (Or.inl ⟨by rfl, ?_⟩) hHeld ?_ ?_
              rotate_left
              · rintro w' ⟨s0, s1, s2⟩
                go_simp
                with_reducible rfl
              rotate_left
              · simp only [Act.put, List.setIfInBounds_toArray, List.set_cons_zero, List.set_cons_succ]
                rfl
              refine pure_ (i := 4) (N := some 73) (v := ?_) (a' := ?_) #[false, true, true, false, true, false, false, false, false, false, false, false, false, false, false, false, false, false, false, false] rfl rfl (by kernel_rfl) (fun _ _ _ h => h) (Or.inl ⟨by rfl, ?_⟩) ?_ ?_
              rotate_left
              · intro w'
                go_simp
                with_reducible rfl
              rotate_left
              · simp only [Act.put, List.setIfInBounds_toArray, List.set_cons_zero, List.set_cons_succ, hs1, hs3, hs4]
                rfl
              refine pure_ (i := 5) (N := some 74) (v := ?_) (a' := ?_) #[false, true, true, false, true, true, false, false, false, false, false, false, false, false, false, false, false, false, false, false] rfl rfl (by kernel_rfl) (fun _ _ _ h => h) (Or.inl ⟨by rfl, ?_⟩) ?_ ?_
              rotate_left
              · intro w'
                go_simp
                with_reducible rfl
              rotate_left
              · simp only [Act.put, List.setIfInBounds_toArray, List.set_cons_zero, List.set_cons_succ, hs1, hs3, hs4]
                rfl
              refine pure_ (i := 6) (N := some 75) (v := ?_) (a' := ?_) #[false, true, true, false, true, true, true, false, false, false, false, false, false, false, false, false, false, false, false, false] rfl rfl (by kernel_rfl) (fun _ _ _ h => h) (Or.inl ⟨by rfl, ?_⟩) ?_ ?_
              rotate_left
              · intro w'
                go_simp
                with_reducible rfl
              rotate_left
              · simp only [Act.put, List.setIfInBounds_toArray, List.set_cons_zero, List.set_cons_succ, hs1, hs3, hs4]
                rfl
              refine pure_ (i := 7) (N := some 76) (v := ?_) (a' := ?_) #[false, true, true, false, true, true, true, true, false, false, false, false, false, false, false, false, false, false, false, false] rfl rfl (by kernel_rfl) (fun _ _ _ h => h) (Or.inl ⟨by rfl, ?_⟩) ?_ ?_
              rotate_left
              · intro w'
                go_simp
                with_reducible rfl
              rotate_left
              · simp only [Act.put, List.setIfInBounds_toArray, List.set_cons_zero, List.set_cons_succ, hs1, hs3, hs4]
                rfl
              refine take_ (i := 8) (N := some 77) (v := ?_) (a' := ?_) #[false, true, true, false, true, true, true, true, true, false, false, false, false, false, false, false, false, false, false, false] rfl rfl (by kernel_rfl) (fun _ _ _ h => h) (Or.inl ⟨by rfl, ?_⟩) hHeld ?_ ?_
              rotate_left
              · rintro w' ⟨s0, s1, s2⟩
                go_simp
                with_reducible rfl
              rotate_left
              · simp only [Act.put, List.setIfInBounds_toArray, List.set_cons_zero, List.set_cons_succ]
                rfl
              refine pure_ (i := 9) (N := some 78) (v := ?_) (a' := ?_) #[false, true, true, false, true, true, true, true, true, true, false, false, false, false, false, false, false, false, false, false] rfl rfl (by kernel_rfl) (fun _ _ _ h => h) (Or.inl ⟨by rfl, ?_⟩) ?_ ?_
              rotate_left
              · intro w'
                go_simp
                with_reducible rfl
              rotate_left
              · simp only [Act.put, List.setIfInBounds_toArray, List.set_cons_zero, List.set_cons_succ, hs1, hs3, hs4]
                rfl
              refine pure_ (i := 10) (N := some 79) (v := ?_) (a' := ?_) #[false, true, true, false, true, true, true, true, true, true, true, false, false, false, false, false, false, false, false, false] rfl rfl (by kernel_rfl) (fun _ _ _ h => h) (Or.inl ⟨by rfl, ?_⟩) ?_ ?_
              rotate_left
              · intro w'
                go_simp
                with_reducible rfl
              rotate_left
              · simp only [Act.put, List.setIfInBounds_toArray, List.set_cons_zero, List.set_cons_succ, hs1, hs3, hs4]
                rfl
              refine take_ (i := 11) (N := some 80) (v := ?_) (a' := ?_) #[false, true, true, false, true, true, true, true, true, true, true, true, false, false, false, false, false, false, false, false] rfl rfl (by kernel_rfl) (fun _ _ _ h => h) (Or.inl ⟨by rfl, ?_⟩) hHeld ?_ ?_
              rotate_left
              · rintro w' ⟨s0, s1, s2⟩
                go_simp
                with_reducible rfl
              rotate_left
              · simp only [Act.put, List.setIfInBounds_toArray, List.set_cons_zero, List.set_cons_succ]
                rfl
              refine pure_ (i := 12) (N := some 81) (v := ?_) (a' := ?_) #[false, true, true, false, true, true, true, true, true, true, true, true, true, false, false, false, false, false, false, false] rfl rfl (by kernel_rfl) (fun _ _ _ h => h) (Or.inl ⟨by rfl, ?_⟩) ?_ ?_
              rotate_left
              · intro w'
                go_simp
                with_reducible rfl
              rotate_left
              · simp only [Act.put, List.setIfInBounds_toArray, List.set_cons_zero, List.set_cons_succ, hs1, hs3, hs4]
                rfl
              refine pure_ (i := 13) (N := some 82) (v := ?_) (a' := ?_) #[false, true, true, false, true, true, true, true, true, true, true, true, true, true, false, false, false, false, false, false] rfl rfl (by kernel_rfl) (fun _ _ _ h => h) (Or.inl ⟨by rfl, ?_⟩) ?_ ?_
              rotate_left
              · intro w'
                go_simp
                with_reducible rfl
              rotate_left
              · simp only [Act.put, List.setIfInBounds_toArray, List.set_cons_zero, List.set_cons_succ, hs1, hs3, hs4]
                rfl
              refine pure_ (i := 14) (N := some 83) (v := ?_) (a' := ?_) #[false, true, true, false, true, true, true, true, true, true, true, true, true, true, true, false, false, false, false, false] rfl rfl (by kernel_rfl) (fun _ _ _ h => h) (Or.inl ⟨by rfl, ?_⟩) ?_ ?_
              rotate_left
              · intro w'
                go_simp
                with_reducible rfl
              rotate_left
              · simp only [Act.put, List.setIfInBounds_toArray, List.set_cons_zero, List.set_cons_succ, hs1, hs3, hs4]
                rfl
              refine pure_ (i := 15) (N := some 84) (v := ?_) (a' := ?_) #[false, true, true, false, true, true, true, true, true, true, true, true, true, true, true, true, false, false, false, false] rfl rfl (by kernel_rfl) (fun _ _ _ h => h) (Or.inl ⟨by rfl, ?_⟩) ?_ ?_
              rotate_left
              · intro w'
                go_simp
                with_reducible rfl
              rotate_left
              · simp only [Act.put, List.setIfInBounds_toArray, List.set_cons_zero, List.set_cons_succ, hs1, hs3, hs4]
                rfl
              clear hs1 hs3 hs4
              have SC : ∀ W, Below wd.heap.size wd W → W.cell? ⟨w.heap.size, 11, none⟩ = some (.slice A5 js.length c5) ∧ W.cell? ⟨gt, 0, none⟩ = some (.int .i64 t.f0) ∧ W.cell? ⟨gt, 1, none⟩ = some (.int .i64 t.f1) := fun W hb => ⟨pw_cell_below hb hHeld.1, pw_cell_below hb hHeld.2.1, pw_cell_below hb hHeld.2.2⟩
              have SCC := Aside0.mk SC
              clear SC hHeld
              have KJ : Aside0 (k38.K w (⟨(s : Int), now, now + t.f0, t.f1, 1 + later, false⟩ : S38) [.int .i64 (s : Int), .int .i64 now, .int .i64 (now + t.f0), .int .i64 t.f1, .int .i64 (1 + later), .bool false]) := ⟨job_K _ _ _ _ _ _⟩
              refine join_ (σ := Value × Value × Nat) 3 #[true, true, true, true, true, true, true, true, true, true, true, true, true, true, true, true, true, false, false, false] (fun q => [(69, q.1), (72, q.2.1), (85, .slice (some ⟨q.2.2, 0, none⟩) 1 1)]) (fun q W => OwnT k38 38 w W wd.heap.size q.2.1 js ∧ W.heap[q.2.2]? = some (.cells #[.int .i64 (s : Int), .int .i64 now, .int .i64 (now + t.f0), .int .i64 t.f1, .int .i64 (1 + later), .bool false] 38 (0, 0)) ∧ Below wd.heap.size wd W ∧ wd.heap.size ≤ q.2.2) ?_ ?_
              rotate_left
              · intro H
                have HH := Aside0.mk H
                clear H
                refine wpAnyLast_ready (rs := [0, 16]) (by kernel_rfl) (by simp) (AllReadyL.cons rfl (by simp) (fun K hK => ?_) (AllReadyL.cons rfl (by simp) (fun K hK => ?_) AllReadyL.nil))
                · go_simp
                  refine hK.out _ _ (SCC.out _ ((Below.refl wd.heap.size wd).alloc (Nat.le_refl _) (.cells #[] 38 (0, 0)))) (fun _ => ?_)
                  clear hK K
                  refine wpAnyLast_ready (rs := [3, 16]) (by kernel_rfl) (by simp) (AllReadyL.cons rfl (by simp) (fun K hK => ?_) (AllReadyL.cons rfl (by simp) (fun K hK => ?_) AllReadyL.nil))
                  · skip
                    refine stp_rows (wr := w) (w0 := wd) (d := k38) (xs := js) (by rfl) (.tmp 69) (.tmp 71) 29 38 _ 48 rfl Try.underlying29 info38 rfl (by decide) (by decide) (.slice (some ⟨wd.heap.size, 0, none⟩) 0 0) rfl ⟨rfl, .inr ⟨_, 0, #[], rfl, Nat.le_refl _, heap_alloc_new wd (.cells #[] 38 (0, 0)), Nat.le_refl _, by simp [maxLen], rfl, rfl⟩⟩ ((Below.refl wd.heap.size wd).alloc (Nat.le_refl _) (.cells #[] 38 (0, 0))) rfl V.hb RJ.out (by have := JF.out; omega) ?_
                    intro v1 wA hO hBA hKA
                    refine hK.out _ _ (SCC.out _ hBA) (fun _ => ?_)
                    clear hK K
                    refine wpAnyLast_ready (rs := [16]) (by kernel_rfl) (by simp) (AllReadyL.cons rfl (by simp) (fun K hK => ?_) AllReadyL.nil)
                    go_simp
                    refine hK.out _ _ (SCC.out _ (hBA.alloc hBA.size (.cells #[.int .i64 (s : Int), .int .i64 now, .int .i64 (now + t.f0), .int .i64 t.f1, .int .i64 (1 + later), .bool false] 38 (0, 0)))) (fun _ => ?_)
                    clear hK K
                    have h := HH.out ((.slice (some ⟨wd.heap.size, 0, none⟩) 0 0), v1, wA.heap.size) _ ⟨hO.below ((Below.refl wA.heap.size wA).alloc (Nat.le_refl _) (.cells #[.int .i64 (s : Int), .int .i64 now, .int .i64 (now + t.f0), .int .i64 t.f1, .int .i64 (1 + later), .bool false] 38 (0, 0))), heap_alloc_new wA (.cells #[.int .i64 (s : Int), .int .i64 now, .int .i64 (now + t.f0), .int .i64 t.f1, .int .i64 (1 + later), .bool false] 38 (0, 0)), hBA.alloc hBA.size _, hBA.size⟩
                    simp only [putAll, Act.put, List.setIfInBounds_toArray, List.set_cons_zero, List.set_cons_succ] at h ⊢
                    exact h
                  · go_simp
                    refine hK.out _ _ (SCC.out _ (((Below.refl wd.heap.size wd).alloc (Nat.le_refl _) (.cells #[] 38 (0, 0))).alloc (by simp) (.cells #[.int .i64 (s : Int), .int .i64 now, .int .i64 (now + t.f0), .int .i64 t.f1, .int .i64 (1 + later), .bool false] 38 (0, 0)))) (fun _ => ?_)
                    clear hK K
                    refine wpAnyLast_ready (rs := [3]) (by kernel_rfl) (by simp) (AllReadyL.cons rfl (by simp) (fun K hK => ?_) AllReadyL.nil)
                    refine stp_rows (wr := w) (w0 := wd) (d := k38) (xs := js) (by rfl) (.tmp 69) (.tmp 71) 29 38 _ 48 rfl Try.underlying29 info38 rfl (by decide) (by decide) (.slice (some ⟨wd.heap.size, 0, none⟩) 0 0) rfl ⟨rfl, .inr ⟨_, 0, #[], rfl, Nat.le_refl _, blk_alloc (heap_alloc_new wd (.cells #[] 38 (0, 0))) _, Nat.le_refl _, by simp [maxLen], rfl, rfl⟩⟩ (((Below.refl wd.heap.size wd).alloc (Nat.le_refl _) (.cells #[] 38 (0, 0))).alloc (by simp) (.cells #[.int .i64 (s : Int), .int .i64 now, .int .i64 (now + t.f0), .int .i64 t.f1, .int .i64 (1 + later), .bool false] 38 (0, 0))) rfl V.hb RJ.out (by have := JF.out; omega) ?_
                    intro v1 wA hO hBA hKA
                    refine hK.out _ _ (SCC.out _ hBA) (fun _ => ?_)
                    clear hK K
                    have h := HH.out ((.slice (some ⟨wd.heap.size, 0, none⟩) 0 0), v1, wd.heap.size + 1) _ ⟨hO, (by rw [hKA _ (by (simp; try omega)) (by (simp [Value.ownBlock]; try omega))]; have h := heap_alloc_new (wd.alloc (.cells #[] 38 (0, 0))) (.cells #[.int .i64 (s : Int), .int .i64 now, .int .i64 (now + t.f0), .int .i64 t.f1, .int .i64 (1 + later), .bool false] 38 (0, 0)); rw [show (wd.alloc (.cells #[] 38 (0, 0))).heap.size = wd.heap.size + 1 from by simp] at h; exact h), hBA, by simp⟩
                    simp only [putAll, Act.put, List.setIfInBounds_toArray, List.set_cons_zero, List.set_cons_succ] at h ⊢
                    exact h
                · go_simp
                  refine hK.out _ _ (SCC.out _ ((Below.refl wd.heap.size wd).alloc (Nat.le_refl _) (.cells #[.int .i64 (s : Int), .int .i64 now, .int .i64 (now + t.f0), .int .i64 t.f1, .int .i64 (1 + later), .bool false] 38 (0, 0)))) (fun _ => ?_)
                  clear hK K
                  refine wpAnyLast_ready (rs := [0]) (by kernel_rfl) (by simp) (AllReadyL.cons rfl (by simp) (fun K hK => ?_) AllReadyL.nil)
                  go_simp
                  refine hK.out _ _ (SCC.out _ (((Below.refl wd.heap.size wd).alloc (Nat.le_refl _) (.cells #[.int .i64 (s : Int), .int .i64 now, .int .i64 (now + t.f0), .int .i64 t.f1, .int .i64 (1 + later), .bool false] 38 (0, 0))).alloc (by simp) (.cells #[] 38 (0, 0)))) (fun _ => ?_)
                  clear hK K
                  refine wpAnyLast_ready (rs := [3]) (by kernel_rfl) (by simp) (AllReadyL.cons rfl (by simp) (fun K hK => ?_) AllReadyL.nil)
                  refine stp_rows (wr := w) (w0 := wd) (d := k38) (xs := js) (by rfl) (.tmp 69) (.tmp 71) 29 38 _ 48 rfl Try.underlying29 info38 rfl (by decide) (by decide) (.slice (some ⟨wd.heap.size + 1, 0, none⟩) 0 0) rfl ⟨rfl, .inr ⟨_, 0, #[], rfl, Nat.le_succ _, (by have h := heap_alloc_new (wd.alloc (.cells #[.int .i64 (s : Int), .int .i64 now, .int .i64 (now + t.f0), .int .i64 t.f1, .int .i64 (1 + later), .bool false] 38 (0, 0))) (.cells #[] 38 (0, 0)); rw [show (wd.alloc (.cells #[.int .i64 (s : Int), .int .i64 now, .int .i64 (now + t.f0), .int .i64 t.f1, .int .i64 (1 + later), .bool false] 38 (0, 0))).heap.size = wd.heap.size + 1 from by simp] at h; exact h), Nat.le_refl _, by simp [maxLen], rfl, rfl⟩⟩ (((Below.refl wd.heap.size wd).alloc (Nat.le_refl _) (.cells #[.int .i64 (s : Int), .int .i64 now, .int .i64 (now + t.f0), .int .i64 t.f1, .int .i64 (1 + later), .bool false] 38 (0, 0))).alloc (by simp) (.cells #[] 38 (0, 0))) rfl V.hb RJ.out (by have := JF.out; omega) ?_
                  intro v1 wA hO hBA hKA
                  refine hK.out _ _ (SCC.out _ hBA) (fun _ => ?_)
                  clear hK K
                  have h := HH.out ((.slice (some ⟨wd.heap.size + 1, 0, none⟩) 0 0), v1, wd.heap.size) _ ⟨hO, (by rw [hKA _ (by (simp; try omega)) (by (simp [Value.ownBlock]; try omega))]; exact blk_alloc (heap_alloc_new wd (.cells #[.int .i64 (s : Int), .int .i64 now, .int .i64 (now + t.f0), .int .i64 t.f1, .int .i64 (1 + later), .bool false] 38 (0, 0))) _), hBA, Nat.le_refl _⟩
                  simp only [putAll, Act.put, List.setIfInBounds_toArray, List.set_cons_zero, List.set_cons_succ] at h ⊢
                  exact h
              rintro ⟨vE, v1, gb⟩ W ⟨hO, hbx, hBW, hgb⟩
              dsimp only at hO hbx hgb
              refine norm_ (a' := ?_) ?_ ?_
              rotate_left
              · simp only [putAll, Act.put, List.setIfInBounds_toArray, List.set_cons_zero, List.set_cons_succ]
                rfl
              refine last_ (i := 17) (N := some 86) #[true, true, true, true, true, true, true, true, true, true, true, true, true, true, true, true, true, true, false, false] rfl rfl (by kernel_rfl) (by simp) (fun K hK => ?_)
              refine stp_one (wr := w) (w0 := wd) (d := k38) (by rfl) (.tmp 72) (.tmp 85) 29 38 _ 48 rfl Try.underlying29 info38 rfl (by decide) (by decide) v1 js [.int .i64 (s : Int), .int .i64 now, .int .i64 (now + t.f0), .int .i64 t.f1, .int .i64 (1 + later), .bool false] (⟨(s : Int), now, now + t.f0, t.f1, 1 + later, false⟩ : S38) rfl gb rfl hbx KJ.out hO hBW (by have := JF.out; omega) ?_
              intro v2 wB hO2 hBB hKB
              refine hK.out _ _ ?_
              clear hK K hKB hbx hO hBW hgb
              have hgw : gW < wd.heap.size := blk_lt BW.out
              replace V := V.step hBB
              replace BT := Aside0.mk (blk_below BT.out hBB)
              replace BW := Aside0.mk (blk_below BW.out hBB)
              have HO2 := Aside0.mk hO2
              clear hO2 hBB
              have HGW := Aside0.mk hgw
              clear hgw
              refine norm_ (a' := ?_) ?_ ?_
              rotate_left
              · show Act.put _ (some 86) _ = _
                simp only [Act.put, List.setIfInBounds_toArray, List.set_cons_zero, List.set_cons_succ]
                rfl
              refine pure_ (i := 18) (N := some 87) (v := ?_) (a' := ?_) #[true, true, true, true, true, true, true, true, true, true, true, true, true, true, true, true, true, true, true, false] rfl rfl (by kernel_rfl) (fun _ _ _ h => h) (Or.inl ⟨by rfl, ?_⟩) ?_ ?_
              rotate_left
              · intro w'
                go_simp
                with_reducible rfl
              rotate_left
              · simp only [Act.put, List.setIfInBounds_toArray, List.set_cons_zero, List.set_cons_succ]
                rfl
              have k11 : wB.cell? ⟨gW, 11, none⟩ = some (.slice A5 js.length c5) := (blk_cell BW.out 11).trans rfl
              have f11 := blk_frozen BW.out 11
              have JL2 : (js ++ [(⟨(s : Int), now, now + t.f0, t.f1, 1 + later, false⟩ : S38)]).length * 48 ≤ 140737488355328 := by have := JF.out; simp; omega
              obtain ⟨js2, hjs2⟩ : ∃ l, js ++ [(⟨(s : Int), now, now + t.f0, t.f1, 1 + later, false⟩ : S38)] = l := ⟨_, rfl⟩
              have JS2 := Aside0.mk hjs2
              rw [hjs2] at HO2 JL2
              clear hjs2
              obtain ⟨gq, cJ, hv2, hcJ, hq2, hrq⟩ := HO2.out.rows (by rw [← JS2.out]; simp)
              subst hv2
              have HCJ := Aside0.mk hcJ
              have HQ2 := Aside0.mk hq2
              replace HO2 := Aside0.mk hrq
              clear hcJ hq2 hrq
              refine last_ (i := 19) (N := none) #[true, true, true, true, true, true, true, true, true, true, true, true, true, true, true, true, true, true, true, true] rfl rfl (by kernel_rfl) (by simp) (fun K hK => ?_)
              go_simp
              clear k11 f11 JL2
              have hgW := GW.out.1
              refine hK.out _ (wB.setCell ⟨gW, 11, none⟩ (.slice (some ⟨gq, 0, none⟩) js2.length cJ)) ?_
              clear hK K
              replace V := V.far (p := ⟨gW, 11, none⟩) hgW (.slice (some ⟨gq, 0, none⟩) js2.length cJ)
              replace BT := Aside0.mk (blk_far BT.out (p := ⟨gW, 11, none⟩) (Nat.ne_of_lt GW.out.2) (.slice (some ⟨gq, 0, none⟩) js2.length cJ))
              replace BW : Aside0 ((wB.setCell ⟨gW, 11, none⟩ (.slice (some ⟨gq, 0, none⟩) js2.length cJ)).heap[gW]? = some (.cells #[.slice A0 l0.length c0, .slice A1 l1.length c1, .slice A2 l2.length c2, .int .i64 idle, .int .i64 crit, .int .i64 sw, .int .i64 swE, .int .i64 sems, .int .i64 hor, .slice (some ad) ts.length c3, .slice (some an) nx.length c4, .slice (some ⟨gq, 0, none⟩) js2.length cJ, .slice none 0 0, .int .i64 now, .int .i64 at_] 32 (0, 0))) := ⟨blk_put BW.out 11 _ rfl⟩
              replace HO2 := Aside0.mk (HO2.out.far (p := ⟨gW, 11, none⟩) (Nat.ne_of_gt (Nat.lt_of_lt_of_le HGW.out HQ2.out)) (.slice (some ⟨gq, 0, none⟩) js2.length cJ))
              generalize wB.setCell ⟨gW, 11, none⟩ (.slice (some ⟨gq, 0, none⟩) js2.length cJ) = wC at V BT BW HO2 ⊢
              refine done_ (by kernel_rfl) ?_
              obtain ⟨x0, x1, x2, x3, x4, x5, x6, x7, x8, x9, x10, x11, x12, x13, x14⟩ := V.x
              have hzc := blk_lt V.bv
              have n0 : 0 < nx.length := by have := HL.out; omega
              have n8 : nx.length * 8 ≤ 140737488355328 := by have := HL.out; omega
              have HQC := Aside0.mk HO2.out.lt
              go_upto_region 13 with ((at_builtin; (refine app_rows (wr := w) (w0 := wC) (d := Kd.int .i64) rfl (.tmp 88) (.tmp 90) 28 3 _ 8 rfl Try.underlying28 info3 rfl (by decide) (by decide) (.slice (some ⟨wC.heap.size, 0, none⟩) 0 0) rfl ?own ((Below.refl _ _).alloc (Nat.le_refl _) _) rfl V.hb RN.out n0 n8 ?_; (case own => exact ⟨rfl, .inr ⟨_, 0, #[], rfl, Nat.le_refl _, heap_alloc_new _ _, Nat.le_refl _, by simp [maxLen], rfl, rfl⟩⟩); intro gN cN wD hrows hcN hgeN hbel; have k10 : wD.cell? ⟨gW, 10, none⟩ = some (.slice (some an) nx.length c4) := (blk_cell (blk_below BW.out hbel) 10).trans rfl; have k10f := blk_frozen (blk_below BW.out hbel) 10)))
              clear x0 x1 x2 x3 x4 x5 x6 x7 x8 x9 x10 x11 x12 x13 x14
              clear k10 k10f n0 n8
              have hgn : gW < gN := Nat.lt_of_lt_of_le (blk_lt BW.out) hgeN
              have HGN := Aside0.mk hgn
              clear hgn
              have hwn : w.heap.size < gN := Nat.lt_trans hgW HGN.out
              replace V := (V.step hbel).far (p := ⟨gW, 10, none⟩) hgW (.slice (some ⟨gN, 0, none⟩) nx.length cN)
              replace BT := Aside0.mk (blk_far (blk_below BT.out hbel) (p := ⟨gW, 10, none⟩) (Nat.ne_of_lt GW.out.2) (.slice (some ⟨gN, 0, none⟩) nx.length cN))
              replace BW : Aside0 ((wD.setCell ⟨gW, 10, none⟩ (.slice (some ⟨gN, 0, none⟩) nx.length cN)).heap[gW]? = some (.cells #[.slice A0 l0.length c0, .slice A1 l1.length c1, .slice A2 l2.length c2, .int .i64 idle, .int .i64 crit, .int .i64 sw, .int .i64 swE, .int .i64 sems, .int .i64 hor, .slice (some ad) ts.length c3, .slice (some ⟨gN, 0, none⟩) nx.length cN, .slice (some ⟨gq, 0, none⟩) js2.length cJ, .slice none 0 0, .int .i64 now, .int .i64 at_] 32 (0, 0))) := ⟨blk_put (blk_below BW.out hbel) 10 _ rfl⟩
              replace HO2 := Aside0.mk ((HO2.out.below hbel).far (p := ⟨gW, 10, none⟩) (Nat.ne_of_gt (Nat.lt_of_lt_of_le HGW.out HQ2.out)) (.slice (some ⟨gN, 0, none⟩) nx.length cN))
              have HQN : Aside0 (gq < gN) := ⟨Nat.lt_of_lt_of_le HQC.out hgeN⟩
              have HN := Aside0.mk (hrows.far (p := ⟨gW, 10, none⟩) (Nat.ne_of_gt HGN.out) (.slice (some ⟨gN, 0, none⟩) nx.length cN))
              clear hrows hbel hgeN
              generalize wD.setCell ⟨gW, 10, none⟩ (.slice (some ⟨gN, 0, none⟩) nx.length cN) = wE at V BT BW HO2 HN ⊢
              obtain ⟨u0, xs0⟩ := HN.out.cell s (show s < nx.length * (Kd.int .i64).sz by show s < nx.length * 1; have := HL.out; omega)
              have xsf := HN.out.frozen s
              have k10 : wE.cell? ⟨gW, 10, none⟩ = some (.slice (some ⟨gN, 0, none⟩) nx.length cN) := (blk_cell BW.out 10).trans rfl
              have y0 : wE.cell? ⟨gt, 0, none⟩ = some (.int .i64 t.f0) := (blk_cell BT.out 0).trans rfl
              have HWR : IntKind.i64.wrap (now + t.f0) = now + t.f0 := IntWalk.i64_in _ ⟨by have := HD.out; have := HNW.out; omega, by have := HD.out; have := HNW.out; omega⟩
              clear q3_
              obtain ⟨x0, x1, x2, x3, x4, x5, x6, x7, x8, x9, x10, x11, x12, x13, x14⟩ := V.x
              go_upto_region 14 with (fail)
              clear x0 x1 x2 x3 x4 x5 x6 x7 x8 x9 x10 x11 x12 x13 x14
              clear k10 y0 xs0 xsf HWR q2_
              have hgn := HGN.out
              replace V := V.far (p := ⟨gN, s, none⟩) hwn (.int .i64 (now + t.f0))
              replace BW := Aside0.mk (blk_far BW.out (p := ⟨gN, s, none⟩) (Nat.ne_of_lt hgn) (.int .i64 (now + t.f0)))
              replace HO2 := Aside0.mk (HO2.out.far (p := ⟨gN, s, none⟩) (Nat.ne_of_lt HQN.out) (.int .i64 (now + t.f0)))
              have HN2 := Aside0.mk (HN.out.set1 (by rfl) s (now + t.f0) (by have := HL.out; omega) (.int .i64 (now + t.f0)) (show (Kd.int .i64).K w (now + t.f0) [(.int .i64 (now + t.f0))] from rfl))
              generalize wE.setCell ⟨gN, s, none⟩ (.int .i64 (now + t.f0)) = wF at V BW HO2 HN2 ⊢
              clear HN BT hgn hwn
              obtain ⟨nx2, hnx2⟩ : ∃ l, nx.set s (now + t.f0) = l := ⟨_, rfl⟩
              have NX2 := Aside0.mk hnx2
              rw [hnx2] at HN2
              have nl2 : nx.length = nx2.length := by rw [← hnx2, List.length_set]
              clear hnx2
              replace BW : Aside0 (wF.heap[gW]? = some (.cells #[.slice A0 l0.length c0, .slice A1 l1.length c1, .slice A2 l2.length c2, .int .i64 idle, .int .i64 crit, .int .i64 sw, .int .i64 swE, .int .i64 sems, .int .i64 hor, .slice (some ad) ts.length c3, .slice (some ⟨gN, 0, none⟩) nx2.length cN, .slice (some ⟨gq, 0, none⟩) js2.length cJ, .slice none 0 0, .int .i64 now, .int .i64 at_] 32 (0, 0))) := ⟨by rw [← nl2]; exact BW.out⟩
              have HJ2 : Aside0 (Kd.C k38 wF (some ⟨gq, 0, none⟩) js2.length js2) := ⟨HO2.out.C V.hb (by rw [← JS2.out]; have := JF.out; simp; omega)⟩
              have HNC : Aside0 (Kd.C (Kd.int .i64) wF (some ⟨gN, 0, none⟩) nx2.length nx2) := ⟨HN2.out.C V.hb (by have := HL.out; omega)⟩
              have hcN2 : nx2.length ≤ cN := by omega
              have HCN := Aside0.mk hcN2
              clear HN2 HO2 hcN2 nl2
              obtain ⟨v0, v1, v2, v3, v4, v5, v6, v7, v8, v9, v10, v11, v12, v13, v14⟩ : wF.cell? ⟨gW, 0, none⟩ = some (.slice A0 l0.length c0) ∧ wF.cell? ⟨gW, 1, none⟩ = some (.slice A1 l1.length c1) ∧ wF.cell? ⟨gW, 2, none⟩ = some (.slice A2 l2.length c2) ∧ wF.cell? ⟨gW, 3, none⟩ = some (.int .i64 idle) ∧ wF.cell? ⟨gW, 4, none⟩ = some (.int .i64 crit) ∧ wF.cell? ⟨gW, 5, none⟩ = some (.int .i64 sw) ∧ wF.cell? ⟨gW, 6, none⟩ = some (.int .i64 swE) ∧ wF.cell? ⟨gW, 7, none⟩ = some (.int .i64 sems) ∧ wF.cell? ⟨gW, 8, none⟩ = some (.int .i64 hor) ∧ wF.cell? ⟨gW, 9, none⟩ = some (.slice (some ad) ts.length c3) ∧ wF.cell? ⟨gW, 10, none⟩ = some (.slice (some ⟨gN, 0, none⟩) nx2.length cN) ∧ wF.cell? ⟨gW, 11, none⟩ = some (.slice (some ⟨gq, 0, none⟩) js2.length cJ) ∧ wF.cell? ⟨gW, 12, none⟩ = some (.slice none 0 0) ∧ wF.cell? ⟨gW, 13, none⟩ = some (.int .i64 now) ∧ wF.cell? ⟨gW, 14, none⟩ = some (.int .i64 at_) := ⟨(blk_cell BW.out 0).trans rfl, (blk_cell BW.out 1).trans rfl, (blk_cell BW.out 2).trans rfl, (blk_cell BW.out 3).trans rfl, (blk_cell BW.out 4).trans rfl, (blk_cell BW.out 5).trans rfl, (blk_cell BW.out 6).trans rfl, (blk_cell BW.out 7).trans rfl, (blk_cell BW.out 8).trans rfl, (blk_cell BW.out 9).trans rfl, (blk_cell BW.out 10).trans rfl, (blk_cell BW.out 11).trans rfl, (blk_cell BW.out 12).trans rfl, (blk_cell BW.out 13).trans rfl, (blk_cell BW.out 14).trans rfl⟩
              go_wp2_with fail
              clear v0 v1 v2 v3 v4 v5 v6 v7 v8 v9 v10 v11 v12 v13 v14
              by_cases hg2 : GoodJ l0 l1 l2 idle crit sw swE sems hor ts nx2 js2 now at_
              case neg =>
                have NG := Aside0.mk (goodJ_no hg2)
                clear hg2
                refine (good_walk A0 c0 l0 A1 c1 l1 A2 c2 l2 idle crit sw swE sems hor _ c3 ts _ cN nx2 _ cJ js2 now at_ V.g0 V.R0 V.g1 V.R1 V.g2 V.R2 V.g3 V.R3 HCN.out HNC.out HCJ.out HJ2.out).mono ?_; rintro e wG ⟨rfl, hb⟩
                rw [NG.out]
                replace V := V.step hb
                replace BW := Aside0.mk (blk_below BW.out hb)
                replace HJ2 := Aside0.mk (Kd.C_below HJ2.out hb)
                replace HNC := Aside0.mk (Kd.C_below HNC.out hb)
                clear hb
                go_wp2_with fail
                refine (dormouselaw15_answers.calls true _ answers15).mono ?_; rintro e w9 ⟨rfl, hb⟩
                replace V := V.step hb
                clear hb
                go_wp2_with fail
                go_ret
                exact ⟨rfl, V.hb⟩
              case pos =>
                have YG2 := Aside0.mk (goodJ_yes hg2)
                have HG2 := Aside0.mk hg2
                clear hg2
                refine (good_walk A0 c0 l0 A1 c1 l1 A2 c2 l2 idle crit sw swE sems hor _ c3 ts _ cN nx2 _ cJ js2 now at_ V.g0 V.R0 V.g1 V.R1 V.g2 V.R2 V.g3 V.R3 HCN.out HNC.out HCJ.out HJ2.out).mono ?_; rintro e wG ⟨rfl, hb⟩
                rw [YG2.out]
                replace V := V.step hb
                replace BW := Aside0.mk (blk_below BW.out hb)
                replace HJ2 := Aside0.mk (Kd.C_below HJ2.out hb)
                replace HNC := Aside0.mk (Kd.C_below HNC.out hb)
                clear hb
                have HAT := HG.out.base.at_
                have TSS : ts[s]'(by omega) = t := by have h := TT.out; unfold rd_T36 at h; rw [Int.toNat_natCast, List.getD_eq_getElem?_getD, List.getElem?_eq_getElem (by omega)] at h; exact h
                have HC : Aside0 (atJ l0 sw now nx ts js at_ ≤ atJ l0 sw now nx2 ts js2 at_) := ⟨by
                  have h := comes HG.out s (by omega) (by rw [TSS]; have := TOK.out.period; omega) (by rw [HNV.out]; have := HX.out; omega) (by rw [TSS, HPT.out]; have := HO1.out; omega) ⟨(s : Int), now, now + t.f0, t.f1, 1 + later, false⟩ (by rw [TSS]) (by rw [TSS]) rfl (m := at_) (by omega) (by omega)
                  rw [TSS] at h; rw [← NX2.out, ← JS2.out]; exact h⟩
                clear TSS
                have E1 := Aside0.mk (at13_some HG2.out at_ (show 0 ≤ at_ by omega) (show at_ ≤ 4194304 by omega))
                have E2 := Aside0.mk (at13_some HG.out at_ (show 0 ≤ at_ by omega) (show at_ ≤ 4194304 by omega))
                generalize atJ l0 sw now nx2 ts js2 at_ = u1 at HC E1
                generalize atJ l0 sw now nx ts js at_ = u2 at HC E2
                obtain ⟨x0, x1, x2, x3, x4, x5, x6, x7, x8, x9, x10, x11, x12, x13, x14⟩ := V.x; obtain ⟨v0, v1, v2, v3, v4, v5, v6, v7, v8, v9, v10, v11, v12, v13, v14⟩ : wG.cell? ⟨gW, 0, none⟩ = some (.slice A0 l0.length c0) ∧ wG.cell? ⟨gW, 1, none⟩ = some (.slice A1 l1.length c1) ∧ wG.cell? ⟨gW, 2, none⟩ = some (.slice A2 l2.length c2) ∧ wG.cell? ⟨gW, 3, none⟩ = some (.int .i64 idle) ∧ wG.cell? ⟨gW, 4, none⟩ = some (.int .i64 crit) ∧ wG.cell? ⟨gW, 5, none⟩ = some (.int .i64 sw) ∧ wG.cell? ⟨gW, 6, none⟩ = some (.int .i64 swE) ∧ wG.cell? ⟨gW, 7, none⟩ = some (.int .i64 sems) ∧ wG.cell? ⟨gW, 8, none⟩ = some (.int .i64 hor) ∧ wG.cell? ⟨gW, 9, none⟩ = some (.slice (some ad) ts.length c3) ∧ wG.cell? ⟨gW, 10, none⟩ = some (.slice (some ⟨gN, 0, none⟩) nx2.length cN) ∧ wG.cell? ⟨gW, 11, none⟩ = some (.slice (some ⟨gq, 0, none⟩) js2.length cJ) ∧ wG.cell? ⟨gW, 12, none⟩ = some (.slice none 0 0) ∧ wG.cell? ⟨gW, 13, none⟩ = some (.int .i64 now) ∧ wG.cell? ⟨gW, 14, none⟩ = some (.int .i64 at_) := ⟨(blk_cell BW.out 0).trans rfl, (blk_cell BW.out 1).trans rfl, (blk_cell BW.out 2).trans rfl, (blk_cell BW.out 3).trans rfl, (blk_cell BW.out 4).trans rfl, (blk_cell BW.out 5).trans rfl, (blk_cell BW.out 6).trans rfl, (blk_cell BW.out 7).trans rfl, (blk_cell BW.out 8).trans rfl, (blk_cell BW.out 9).trans rfl, (blk_cell BW.out 10).trans rfl, (blk_cell BW.out 11).trans rfl, (blk_cell BW.out 12).trans rfl, (blk_cell BW.out 13).trans rfl, (blk_cell BW.out 14).trans rfl⟩
                go_wp2_with fail
                go_region_held3 (fun w' => w'.cell? ⟨w.heap.size, 0, none⟩ = some (.slice A0 l0.length c0) ∧ w'.cell? ⟨w.heap.size, 1, none⟩ = some (.slice A1 l1.length c1) ∧ w'.cell? ⟨w.heap.size, 2, none⟩ = some (.slice A2 l2.length c2) ∧ w'.cell? ⟨w.heap.size, 3, none⟩ = some (.int .i64 idle) ∧ w'.cell? ⟨w.heap.size, 4, none⟩ = some (.int .i64 crit) ∧ w'.cell? ⟨w.heap.size, 5, none⟩ = some (.int .i64 sw) ∧ w'.cell? ⟨w.heap.size, 6, none⟩ = some (.int .i64 swE) ∧ w'.cell? ⟨w.heap.size, 7, none⟩ = some (.int .i64 sems) ∧ w'.cell? ⟨w.heap.size, 8, none⟩ = some (.int .i64 hor) ∧ w'.cell? ⟨w.heap.size, 9, none⟩ = some (.slice (some ad) ts.length c3) ∧ w'.cell? ⟨w.heap.size, 10, none⟩ = some (.slice (some an) nx.length c4) ∧ w'.cell? ⟨w.heap.size, 11, none⟩ = some (.slice A5 js.length c5) ∧ w'.cell? ⟨w.heap.size, 12, none⟩ = some (.slice none 0 0) ∧ w'.cell? ⟨w.heap.size, 13, none⟩ = some (.int .i64 now) ∧ w'.cell? ⟨w.heap.size, 14, none⟩ = some (.int .i64 at_) ∧ w'.cell? ⟨gW, 0, none⟩ = some (.slice A0 l0.length c0) ∧ w'.cell? ⟨gW, 1, none⟩ = some (.slice A1 l1.length c1) ∧ w'.cell? ⟨gW, 2, none⟩ = some (.slice A2 l2.length c2) ∧ w'.cell? ⟨gW, 3, none⟩ = some (.int .i64 idle) ∧ w'.cell? ⟨gW, 4, none⟩ = some (.int .i64 crit) ∧ w'.cell? ⟨gW, 5, none⟩ = some (.int .i64 sw) ∧ w'.cell? ⟨gW, 6, none⟩ = some (.int .i64 swE) ∧ w'.cell? ⟨gW, 7, none⟩ = some (.int .i64 sems) ∧ w'.cell? ⟨gW, 8, none⟩ = some (.int .i64 hor) ∧ w'.cell? ⟨gW, 9, none⟩ = some (.slice (some ad) ts.length c3) ∧ w'.cell? ⟨gW, 10, none⟩ = some (.slice (some ⟨gN, 0, none⟩) nx2.length cN) ∧ w'.cell? ⟨gW, 11, none⟩ = some (.slice (some ⟨gq, 0, none⟩) js2.length cJ) ∧ w'.cell? ⟨gW, 12, none⟩ = some (.slice none 0 0) ∧ w'.cell? ⟨gW, 13, none⟩ = some (.int .i64 now) ∧ w'.cell? ⟨gW, 14, none⟩ = some (.int .i64 at_)) (first | exact ⟨x0, x1, x2, x3, x4, x5, x6, x7, x8, x9, x10, x11, x12, x13, x14, v0, v1, v2, v3, v4, v5, v6, v7, v8, v9, v10, v11, v12, v13, v14⟩)
                  (first
                    | (go_at_call 10; (with_reducible refine (dormouselaw15_answers.calls true _ answers15).mono ?_); rintro e w16 ⟨rfl, hb⟩; replace hb := below_undrew hb; replace V := V.step hb; replace BW := Aside0.mk (blk_below BW.out hb); replace HJ2 := Aside0.mk (Kd.C_below HJ2.out hb); replace HNC := Aside0.mk (Kd.C_below HNC.out hb); clear hb x0 x1 x2 x3 x4 x5 x6 x7 x8 x9 x10 x11 x12 x13 x14 v0 v1 v2 v3 v4 v5 v6 v7 v8 v9 v10 v11 v12 v13 v14; obtain ⟨x0, x1, x2, x3, x4, x5, x6, x7, x8, x9, x10, x11, x12, x13, x14⟩ := V.x; obtain ⟨v0, v1, v2, v3, v4, v5, v6, v7, v8, v9, v10, v11, v12, v13, v14⟩ : w16.cell? ⟨gW, 0, none⟩ = some (.slice A0 l0.length c0) ∧ w16.cell? ⟨gW, 1, none⟩ = some (.slice A1 l1.length c1) ∧ w16.cell? ⟨gW, 2, none⟩ = some (.slice A2 l2.length c2) ∧ w16.cell? ⟨gW, 3, none⟩ = some (.int .i64 idle) ∧ w16.cell? ⟨gW, 4, none⟩ = some (.int .i64 crit) ∧ w16.cell? ⟨gW, 5, none⟩ = some (.int .i64 sw) ∧ w16.cell? ⟨gW, 6, none⟩ = some (.int .i64 swE) ∧ w16.cell? ⟨gW, 7, none⟩ = some (.int .i64 sems) ∧ w16.cell? ⟨gW, 8, none⟩ = some (.int .i64 hor) ∧ w16.cell? ⟨gW, 9, none⟩ = some (.slice (some ad) ts.length c3) ∧ w16.cell? ⟨gW, 10, none⟩ = some (.slice (some ⟨gN, 0, none⟩) nx2.length cN) ∧ w16.cell? ⟨gW, 11, none⟩ = some (.slice (some ⟨gq, 0, none⟩) js2.length cJ) ∧ w16.cell? ⟨gW, 12, none⟩ = some (.slice none 0 0) ∧ w16.cell? ⟨gW, 13, none⟩ = some (.int .i64 now) ∧ w16.cell? ⟨gW, 14, none⟩ = some (.int .i64 at_) := ⟨(blk_cell BW.out 0).trans rfl, (blk_cell BW.out 1).trans rfl, (blk_cell BW.out 2).trans rfl, (blk_cell BW.out 3).trans rfl, (blk_cell BW.out 4).trans rfl, (blk_cell BW.out 5).trans rfl, (blk_cell BW.out 6).trans rfl, (blk_cell BW.out 7).trans rfl, (blk_cell BW.out 8).trans rfl, (blk_cell BW.out 9).trans rfl, (blk_cell BW.out 10).trans rfl, (blk_cell BW.out 11).trans rfl, (blk_cell BW.out 12).trans rfl, (blk_cell BW.out 13).trans rfl, (blk_cell BW.out 14).trans rfl⟩)
                    | (go_at_call 13; (with_reducible refine (at13_calls 5 A0 c0 l0 A1 c1 l1 A2 c2 l2 idle crit sw swE sems hor _ c3 ts _ cN nx2 _ cJ js2 now at_ at_ _ _ V.R0 V.g0 V.R1 V.g1 V.R2 V.g2 V.R3 V.g3 HNC.out HCN.out HJ2.out HCJ.out E1.out).mono ?_); rintro e w17 ⟨rfl, hb⟩; replace V := V.step hb; replace BW := Aside0.mk (blk_below BW.out hb); replace HJ2 := Aside0.mk (Kd.C_below HJ2.out hb); replace HNC := Aside0.mk (Kd.C_below HNC.out hb); clear hb x0 x1 x2 x3 x4 x5 x6 x7 x8 x9 x10 x11 x12 x13 x14 v0 v1 v2 v3 v4 v5 v6 v7 v8 v9 v10 v11 v12 v13 v14; obtain ⟨x0, x1, x2, x3, x4, x5, x6, x7, x8, x9, x10, x11, x12, x13, x14⟩ := V.x; obtain ⟨v0, v1, v2, v3, v4, v5, v6, v7, v8, v9, v10, v11, v12, v13, v14⟩ : w17.cell? ⟨gW, 0, none⟩ = some (.slice A0 l0.length c0) ∧ w17.cell? ⟨gW, 1, none⟩ = some (.slice A1 l1.length c1) ∧ w17.cell? ⟨gW, 2, none⟩ = some (.slice A2 l2.length c2) ∧ w17.cell? ⟨gW, 3, none⟩ = some (.int .i64 idle) ∧ w17.cell? ⟨gW, 4, none⟩ = some (.int .i64 crit) ∧ w17.cell? ⟨gW, 5, none⟩ = some (.int .i64 sw) ∧ w17.cell? ⟨gW, 6, none⟩ = some (.int .i64 swE) ∧ w17.cell? ⟨gW, 7, none⟩ = some (.int .i64 sems) ∧ w17.cell? ⟨gW, 8, none⟩ = some (.int .i64 hor) ∧ w17.cell? ⟨gW, 9, none⟩ = some (.slice (some ad) ts.length c3) ∧ w17.cell? ⟨gW, 10, none⟩ = some (.slice (some ⟨gN, 0, none⟩) nx2.length cN) ∧ w17.cell? ⟨gW, 11, none⟩ = some (.slice (some ⟨gq, 0, none⟩) js2.length cJ) ∧ w17.cell? ⟨gW, 12, none⟩ = some (.slice none 0 0) ∧ w17.cell? ⟨gW, 13, none⟩ = some (.int .i64 now) ∧ w17.cell? ⟨gW, 14, none⟩ = some (.int .i64 at_) := ⟨(blk_cell BW.out 0).trans rfl, (blk_cell BW.out 1).trans rfl, (blk_cell BW.out 2).trans rfl, (blk_cell BW.out 3).trans rfl, (blk_cell BW.out 4).trans rfl, (blk_cell BW.out 5).trans rfl, (blk_cell BW.out 6).trans rfl, (blk_cell BW.out 7).trans rfl, (blk_cell BW.out 8).trans rfl, (blk_cell BW.out 9).trans rfl, (blk_cell BW.out 10).trans rfl, (blk_cell BW.out 11).trans rfl, (blk_cell BW.out 12).trans rfl, (blk_cell BW.out 13).trans rfl, (blk_cell BW.out 14).trans rfl⟩)
                    | (go_at_call 13; (with_reducible refine (at13_calls 5 A0 c0 l0 A1 c1 l1 A2 c2 l2 idle crit sw swE sems hor _ c3 ts _ c4 nx A5 c5 js now at_ at_ _ _ V.R0 V.g0 V.R1 V.g1 V.R2 V.g2 V.R3 V.g3 V.R4 V.g4 (Kd.C_below RJ.out V.hb) GJ.out E2.out).mono ?_); rintro e w18 ⟨rfl, hb⟩; replace V := V.step hb; replace BW := Aside0.mk (blk_below BW.out hb); replace HJ2 := Aside0.mk (Kd.C_below HJ2.out hb); replace HNC := Aside0.mk (Kd.C_below HNC.out hb); clear hb x0 x1 x2 x3 x4 x5 x6 x7 x8 x9 x10 x11 x12 x13 x14 v0 v1 v2 v3 v4 v5 v6 v7 v8 v9 v10 v11 v12 v13 v14; obtain ⟨x0, x1, x2, x3, x4, x5, x6, x7, x8, x9, x10, x11, x12, x13, x14⟩ := V.x; obtain ⟨v0, v1, v2, v3, v4, v5, v6, v7, v8, v9, v10, v11, v12, v13, v14⟩ : w18.cell? ⟨gW, 0, none⟩ = some (.slice A0 l0.length c0) ∧ w18.cell? ⟨gW, 1, none⟩ = some (.slice A1 l1.length c1) ∧ w18.cell? ⟨gW, 2, none⟩ = some (.slice A2 l2.length c2) ∧ w18.cell? ⟨gW, 3, none⟩ = some (.int .i64 idle) ∧ w18.cell? ⟨gW, 4, none⟩ = some (.int .i64 crit) ∧ w18.cell? ⟨gW, 5, none⟩ = some (.int .i64 sw) ∧ w18.cell? ⟨gW, 6, none⟩ = some (.int .i64 swE) ∧ w18.cell? ⟨gW, 7, none⟩ = some (.int .i64 sems) ∧ w18.cell? ⟨gW, 8, none⟩ = some (.int .i64 hor) ∧ w18.cell? ⟨gW, 9, none⟩ = some (.slice (some ad) ts.length c3) ∧ w18.cell? ⟨gW, 10, none⟩ = some (.slice (some ⟨gN, 0, none⟩) nx2.length cN) ∧ w18.cell? ⟨gW, 11, none⟩ = some (.slice (some ⟨gq, 0, none⟩) js2.length cJ) ∧ w18.cell? ⟨gW, 12, none⟩ = some (.slice none 0 0) ∧ w18.cell? ⟨gW, 13, none⟩ = some (.int .i64 now) ∧ w18.cell? ⟨gW, 14, none⟩ = some (.int .i64 at_) := ⟨(blk_cell BW.out 0).trans rfl, (blk_cell BW.out 1).trans rfl, (blk_cell BW.out 2).trans rfl, (blk_cell BW.out 3).trans rfl, (blk_cell BW.out 4).trans rfl, (blk_cell BW.out 5).trans rfl, (blk_cell BW.out 6).trans rfl, (blk_cell BW.out 7).trans rfl, (blk_cell BW.out 8).trans rfl, (blk_cell BW.out 9).trans rfl, (blk_cell BW.out 10).trans rfl, (blk_cell BW.out 11).trans rfl, (blk_cell BW.out 12).trans rfl, (blk_cell BW.out 13).trans rfl, (blk_cell BW.out 14).trans rfl⟩))
                clear x0 x1 x2 x3 x4 x5 x6 x7 x8 x9 x10 x11 x12 x13 x14
                clear v0 v1 v2 v3 v4 v5 v6 v7 v8 v9 v10 v11 v12 v13 v14
                go_wp2_with fail
                go_ret
                exact ⟨congrArg (fun b => Ending.returned (.bool b)) (decide_eq_true HC.out), V.hb⟩
end Go.Proofs.Ytchlbnlhjllcbaa.Sla
namespace Go.Proofs.Ytchlbnlhjllcbaa.slackReleased
open Go.ChangeShapes Go.WideShapes Go.ChangeAt Go.RowKit Go.Proofs.Ytchlbnlhjllcbaa.Opn
set_option linter.unusedVariables false
theorem own : ownKnob Try.prog.godebug = none := by kernel_rfl
theorem laidOut : laidOutB Try.prog = true := by kernel_rfl
set_option maxRecDepth 100000 in
theorem lifted (os : Os) (started : os.Started) (H : Type) (enc : TypeId × Value → H) :
    ReturnsInHanded {} Try.checked os 3 .any (Rows.slackReleasedSpec.pre6 enc Try.prog Try.f3 Rows.slackReleasedRow.domain false) (Rows.slackReleasedSpec.post enc Try.prog Try.f3 false true false false) := by
  refine returnsInHanded_of_change_sized (C := Try.checked) own started (by kernel_rfl) Try.func3
    (ChangeSpec.witness6 (enc := enc) (C := Try.checked) false ⟨#[], #[.agg #[.slice none 0 0, .slice none 0 0, .slice none 0 0, .int .i64 0, .int .i64 0, .int .i64 0, .int .i64 0, .int .i64 0, .int .i64 0, .slice none 0 0, .slice none 0 0, .slice none 0 0, .slice none 0 0, .int .i64 0, .int .i64 0], .int .u8 0, .int .u8 0], []⟩ 8 (by kernel_rfl) (by kernel_rfl) (by kernel_rfl) (by kernel_rfl)) ?_
  intro W base args ds gs before hval0 hW hcnd hsz0 _
  have hval : ∀ (j : Nat) t v, Try.f3.params[j]? = some t → args[j]? = some v → Value.okWide Try.prog W .any base t v := hval0
  have hW' := hW
  obtain ⟨p, q, hA0, hV, rfl, hfz, hnd⟩ := hW
  have hA : DataW.TrodAll enc Try.prog W 0 (fun _ => true) true Try.f3.params.toList args.toList ds p := hA0
  rw [Try.params3] at hA hval
  obtain ⟨v0, vs0, d0, ds0, p0, q0, hargs, rfl, rfl, h0, r0⟩ := trodAll_cons hA
  obtain ⟨v1, vs1, d1, ds1, p1, q1, rfl, rfl, rfl, h1, r1⟩ := trodAll_cons r0
  obtain ⟨v2, vs2, d2, ds2, p2, q2, rfl, rfl, rfl, h2, r2⟩ := trodAll_cons r1
  obtain ⟨rfl, rfl, rfl⟩ := trodAll_nil r2
  obtain rfl : args = #[v0, v1, v2] := by cases args; simp_all
  obtain ⟨rfl, rfl⟩ := trodVars_none hV
  have k0 := h0
  have lt0 : ∀ x ∈ p0, x.block < W.heap.size := by obtain ⟨m, hm⟩ := k0; exact DataW.trod_lt m _ _ _ hm
  obtain ⟨x0, g0, ok0⟩ := Opens.get oView h0
  obtain ⟨cs0, rfl, e0⟩ := agg_of Try.underlying32 (hval 0 32 v0 rfl rfl)
  rw [e0] at g0
  obtain ⟨a1, rfl, rfl, rfl, w1⟩ := open_int Try.underlying5 (hval 1 5 v1 rfl rfl) h1
  obtain ⟨a2, rfl, rfl, rfl, w2⟩ := open_int Try.underlying5 (hval 2 5 v2 rfl rfl) h2
  clear hA0 hval0 hsz0
  refine (Sla.released_walk (w := W) x0 cs0 g0 ok0 a1 w1 a2 w2).mono fun e W' ⟨he, bel⟩ => ?_
  subst he
  exact ⟨_, rfl, _, _, _, [], _, [], hW', trodAll_mk1 (shut_bool Try.underlying4 _), (trodAll_cons_mk (Below.trod laidOut (by kernel_rfl) (of_decide_eq_true (by kernel_rfl)) k0 bel lt0) (trodAll_cons_mk (shut_int Try.underlying5 w1) (trodAll_cons_mk (shut_int Try.underlying5 w2) trodAll_mk0))), rfl, bel.frame _, fun h => by cases h⟩
theorem over : Rows.slackReleasedRow.holds Try.pinned (OpenSpec.ofChange Rows.slackReleasedSpec) :=
  OpenClaim.holds_of_wide 3 Try.f3 rfl rfl rfl rfl rfl rfl rfl ⟨rfl, rfl, rfl, rfl, rfl⟩ rfl rfl rfl rfl rfl (by kernel_rfl) Try.func3 (by kernel_rfl)
    (of_decide_eq_true (by kernel_rfl)) (by unfold Func.isWrapper; first | (rw [if_pos (by decide +kernel)]; kernel_rfl) | (rw [if_neg (by decide +kernel)]; exact ⟨rfl, rfl⟩))
    (fun os started H enc _ => lifted os started H enc)
theorem proved : Rows.SlackReleasedSaid := over
end Go.Proofs.Ytchlbnlhjllcbaa.slackReleased
namespace Go.Proofs.Ytchlbnlhjllcbaa
/-- The row, under a short name, for the claim. -/
theorem slackReleased_holds : Rows.SlackReleasedSaid := slackReleased.proved
end Go.Proofs.Ytchlbnlhjllcbaa
