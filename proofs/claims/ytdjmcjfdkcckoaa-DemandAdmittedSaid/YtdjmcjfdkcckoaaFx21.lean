-- Told by the kit's print.py out of this seat's translation, for this session's own texts (not a PRINTED file).
import Derived.Test.YtdjmcjfdkcckoaaFx0
namespace Go.Proofs.Ytdjmcjfdkcckoaa.F
open Go.RowKit Go.Proofs.YtdjmcjfdkcckoaaW.PrintWords Go.Proofs.YtdjmcjfdkcckoaaW.PrintLast Go.Proofs.YtdjmcjfdkcckoaaW.PrintMore
attribute [local go_sem] max2_int min2_int max_two min_two max_three min_three max_four min_four   -- for this text's walks alone
set_option linter.unusedVariables false
set_option linter.unusedSimpArgs false

/-! ### dormouseref09_Task: function 24 -/
mutual
def dormouseref09_Task.j0 : Nat → Bool → List (S63) → List (S66) → List (S69) → Int → Int → Int → Int → Int → Int → Int → Int → List Int → List Int → Option (Bool)
  | 0, _, _, _, _, _, _, _, _, _, _, _, _, _, _ => none
  | k + 1, x34, x187000, x187001, x187002, x187003, x187004, x187005, x187006, x187007, x187008, x188000, x188001, x188002, x188003 => if x34 = true then (some false) else (dormouseref09_Task.l0 k 0 x187000 x187001 x187002 x187003 x187004 x187005 x187006 x187007 x187008 x188000 x188001 x188002 x188003)
def dormouseref09_Task.l0 : Nat → Int → List (S63) → List (S66) → List (S69) → Int → Int → Int → Int → Int → Int → Int → Int → List Int → List Int → Option (Bool)
  | 0, _, _, _, _, _, _, _, _, _, _, _, _, _, _ => none
  | k + 1, x5, x187000, x187001, x187002, x187003, x187004, x187005, x187006, x187007, x187008, x188000, x188001, x188002, x188003 => if x5 < (x188002.length : Int) then (if 0 ≤ x5 then (if (rd x188002 x5) < 0 then (some false) else (if (rd x188002 x5) > x188001 then (some false) else (dormouseref09_Task.l0 k (wrap64 (x5 + 1)) x187000 x187001 x187002 x187003 x187004 x187005 x187006 x187007 x187008 x188000 x188001 x188002 x188003))) else (none)) else (dormouseref09_Task.l1 k 0 x187000 x187001 x187002 x187003 x187004 x187005 x187006 x187007 x187008 x188000 x188001 x188002 x188003)
def dormouseref09_Task.l1 : Nat → Int → List (S63) → List (S66) → List (S69) → Int → Int → Int → Int → Int → Int → Int → Int → List Int → List Int → Option (Bool)
  | 0, _, _, _, _, _, _, _, _, _, _, _, _, _, _ => none
  | k + 1, x6, x187000, x187001, x187002, x187003, x187004, x187005, x187006, x187007, x187008, x188000, x188001, x188002, x188003 => if x6 < (x188003.length : Int) then (if 0 ≤ x6 then (if (rd x188003 x6) < 0 then (some false) else (if (rd x188003 x6) ≥ (x187002.length : Int) then (some false) else (if x6 > 0 then (if 0 ≤ (wrap64 (x6 - 1)) then (if (wrap64 (x6 - 1)) < (x188003.length : Int) then (if (rd x188003 (wrap64 (x6 - 1))) ≥ (rd x188003 x6) then (some false) else (dormouseref09_Task.l1 k (wrap64 (x6 + 1)) x187000 x187001 x187002 x187003 x187004 x187005 x187006 x187007 x187008 x188000 x188001 x188002 x188003)) else (none)) else (none)) else (dormouseref09_Task.l1 k (wrap64 (x6 + 1)) x187000 x187001 x187002 x187003 x187004 x187005 x187006 x187007 x187008 x188000 x188001 x188002 x188003)))) else (none)) else (some true)
end
def dormouseref09_Task.f (k : Nat) (l0_0 : List (S63)) (l0_1 : List (S66)) (l0_2 : List (S69)) (a0_3 : Int) (a0_4 : Int) (a0_5 : Int) (a0_6 : Int) (a0_7 : Int) (a0_8 : Int) (a1_0 : Int) (a1_1 : Int) (l1_2 : List Int) (l1_3 : List Int) : Option (Bool) := if a1_0 < 1 then (dormouseref09_Task.j0 k true l0_0 l0_1 l0_2 a0_3 a0_4 a0_5 a0_6 a0_7 a0_8 a1_0 a1_1 l1_2 l1_3) else (if a1_0 > a0_8 then (dormouseref09_Task.j0 k true l0_0 l0_1 l0_2 a0_3 a0_4 a0_5 a0_6 a0_7 a0_8 a1_0 a1_1 l1_2 l1_3) else (if a1_1 < 1 then (dormouseref09_Task.j0 k true l0_0 l0_1 l0_2 a0_3 a0_4 a0_5 a0_6 a0_7 a0_8 a1_0 a1_1 l1_2 l1_3) else (if a1_1 > 4096 then (dormouseref09_Task.j0 k true l0_0 l0_1 l0_2 a0_3 a0_4 a0_5 a0_6 a0_7 a0_8 a1_0 a1_1 l1_2 l1_3) else (dormouseref09_Task.j0 k (decide ((l1_2.length : Int) > a0_7)) l0_0 l0_1 l0_2 a0_3 a0_4 a0_5 a0_6 a0_7 a0_8 a1_0 a1_1 l1_2 l1_3))))
theorem dormouseref09_Task.mono_l : ∀ k, (∀ y0 y1 y2 y3 y4 y5 y6 y7 y8 y9 y10 y11 y12 y13, LeO (dormouseref09_Task.j0 k y0 y1 y2 y3 y4 y5 y6 y7 y8 y9 y10 y11 y12 y13) (dormouseref09_Task.j0 (k + 1) y0 y1 y2 y3 y4 y5 y6 y7 y8 y9 y10 y11 y12 y13)) ∧ (∀ y0 y1 y2 y3 y4 y5 y6 y7 y8 y9 y10 y11 y12 y13, LeO (dormouseref09_Task.l0 k y0 y1 y2 y3 y4 y5 y6 y7 y8 y9 y10 y11 y12 y13) (dormouseref09_Task.l0 (k + 1) y0 y1 y2 y3 y4 y5 y6 y7 y8 y9 y10 y11 y12 y13)) ∧ (∀ y0 y1 y2 y3 y4 y5 y6 y7 y8 y9 y10 y11 y12 y13, LeO (dormouseref09_Task.l1 k y0 y1 y2 y3 y4 y5 y6 y7 y8 y9 y10 y11 y12 y13) (dormouseref09_Task.l1 (k + 1) y0 y1 y2 y3 y4 y5 y6 y7 y8 y9 y10 y11 y12 y13))
  | 0 => ⟨fun _ _ _ _ _ _ _ _ _ _ _ _ _ _ r h => by simp [dormouseref09_Task.j0] at h, fun _ _ _ _ _ _ _ _ _ _ _ _ _ _ r h => by simp [dormouseref09_Task.l0] at h, fun _ _ _ _ _ _ _ _ _ _ _ _ _ _ r h => by simp [dormouseref09_Task.l1] at h⟩
  | k + 1 => by
    obtain ⟨ih0, ih1, ih2⟩ := dormouseref09_Task.mono_l k
    refine ⟨?_, ?_, ?_⟩
    · intro y0 y1 y2 y3 y4 y5 y6 y7 y8 y9 y10 y11 y12 y13
      unfold dormouseref09_Task.j0
      repeat' first
      | (with_reducible exact ih0 _ _ _ _ _ _ _ _ _ _ _ _ _ _)
      | (with_reducible exact ih1 _ _ _ _ _ _ _ _ _ _ _ _ _ _)
      | (with_reducible exact ih2 _ _ _ _ _ _ _ _ _ _ _ _ _ _)
      | (with_reducible exact LeO.refl _)
      | (with_reducible exact LeO.none _)
      | (with_reducible refine LeO.ite ?_ ?_)
      | (with_reducible refine LeO.bind ?_ (fun _ => ?_))
      | exact ih0 _ _ _ _ _ _ _ _ _ _ _ _ _ _
      | exact ih1 _ _ _ _ _ _ _ _ _ _ _ _ _ _
      | exact ih2 _ _ _ _ _ _ _ _ _ _ _ _ _ _
      | exact LeO.none _
      | refine LeO.ite ?_ ?_
      | refine LeO.bind ?_ (fun _ => ?_)
    · intro y0 y1 y2 y3 y4 y5 y6 y7 y8 y9 y10 y11 y12 y13
      unfold dormouseref09_Task.l0
      repeat' first
      | (with_reducible exact ih0 _ _ _ _ _ _ _ _ _ _ _ _ _ _)
      | (with_reducible exact ih1 _ _ _ _ _ _ _ _ _ _ _ _ _ _)
      | (with_reducible exact ih2 _ _ _ _ _ _ _ _ _ _ _ _ _ _)
      | (with_reducible exact LeO.refl _)
      | (with_reducible exact LeO.none _)
      | (with_reducible refine LeO.ite ?_ ?_)
      | (with_reducible refine LeO.bind ?_ (fun _ => ?_))
      | exact ih0 _ _ _ _ _ _ _ _ _ _ _ _ _ _
      | exact ih1 _ _ _ _ _ _ _ _ _ _ _ _ _ _
      | exact ih2 _ _ _ _ _ _ _ _ _ _ _ _ _ _
      | exact LeO.none _
      | refine LeO.ite ?_ ?_
      | refine LeO.bind ?_ (fun _ => ?_)
    · intro y0 y1 y2 y3 y4 y5 y6 y7 y8 y9 y10 y11 y12 y13
      unfold dormouseref09_Task.l1
      repeat' first
      | (with_reducible exact ih0 _ _ _ _ _ _ _ _ _ _ _ _ _ _)
      | (with_reducible exact ih1 _ _ _ _ _ _ _ _ _ _ _ _ _ _)
      | (with_reducible exact ih2 _ _ _ _ _ _ _ _ _ _ _ _ _ _)
      | (with_reducible exact LeO.refl _)
      | (with_reducible exact LeO.none _)
      | (with_reducible refine LeO.ite ?_ ?_)
      | (with_reducible refine LeO.bind ?_ (fun _ => ?_))
      | exact ih0 _ _ _ _ _ _ _ _ _ _ _ _ _ _
      | exact ih1 _ _ _ _ _ _ _ _ _ _ _ _ _ _
      | exact ih2 _ _ _ _ _ _ _ _ _ _ _ _ _ _
      | exact LeO.none _
      | refine LeO.ite ?_ ?_
      | refine LeO.bind ?_ (fun _ => ?_)
theorem dormouseref09_Task.mono : ∀ a0 a1 a2 a3 a4 a5 a6 a7 a8 a9 a10 a11 a12 k, LeO (dormouseref09_Task.f k a0 a1 a2 a3 a4 a5 a6 a7 a8 a9 a10 a11 a12) (dormouseref09_Task.f (k + 1) a0 a1 a2 a3 a4 a5 a6 a7 a8 a9 a10 a11 a12) := by
  intro a0 a1 a2 a3 a4 a5 a6 a7 a8 a9 a10 a11 a12 k
  obtain ⟨ih0, ih1, ih2⟩ := dormouseref09_Task.mono_l k
  unfold dormouseref09_Task.f
  repeat' first
      | (with_reducible exact ih0 _ _ _ _ _ _ _ _ _ _ _ _ _ _)
      | (with_reducible exact ih1 _ _ _ _ _ _ _ _ _ _ _ _ _ _)
      | (with_reducible exact ih2 _ _ _ _ _ _ _ _ _ _ _ _ _ _)
      | (with_reducible exact LeO.refl _)
      | (with_reducible exact LeO.none _)
      | (with_reducible refine LeO.ite ?_ ?_)
      | (with_reducible refine LeO.bind ?_ (fun _ => ?_))
      | exact ih0 _ _ _ _ _ _ _ _ _ _ _ _ _ _
      | exact ih1 _ _ _ _ _ _ _ _ _ _ _ _ _ _
      | exact ih2 _ _ _ _ _ _ _ _ _ _ _ _ _ _
      | exact LeO.none _
      | refine LeO.ite ?_ ?_
      | refine LeO.bind ?_ (fun _ => ?_)
set_option maxHeartbeats 8000000 in
set_option maxRecDepth 100000 in
theorem dormouseref09_Task.calls (k : Nat) (A0_0 : Option Addr) (c0_0 : Nat) (l0_0 : List (S63)) (A0_1 : Option Addr) (c0_1 : Nat) (l0_1 : List (S66)) (A0_2 : Option Addr) (c0_2 : Nat) (l0_2 : List (S69)) (a0_3 : Int) (a0_4 : Int) (a0_5 : Int) (a0_6 : Int) (a0_7 : Int) (a0_8 : Int) (a1_0 : Int) (a1_1 : Int) (A1_2 : Option Addr) (c1_2 : Nat) (l1_2 : List Int) (A1_3 : Option Addr) (c1_3 : Nat) (l1_3 : List Int) (r : Bool) (w : World) (hr0_0 : Kd.C k63 w A0_0 l0_0.length l0_0) (hc0_0 : l0_0.length ≤ c0_0) (hr0_1 : Kd.C k66 w A0_1 l0_1.length l0_1) (hc0_1 : l0_1.length ≤ c0_1) (hr0_2 : Kd.C k69 w A0_2 l0_2.length l0_2) (hc0_2 : l0_2.length ≤ c0_2) (hr1_2 : Kd.C (Kd.int .i64) w A1_2 l1_2.length l1_2) (hc1_2 : l1_2.length ≤ c1_2) (hr1_3 : Kd.C (Kd.int .i64) w A1_3 l1_3.length l1_3) (hc1_3 : l1_3.length ≤ c1_3) (h : dormouseref09_Task.f k l0_0 l0_1 l0_2 a0_3 a0_4 a0_5 a0_6 a0_7 a0_8 a1_0 a1_1 l1_2 l1_3 = some r) :
    Calls Try.prog 24 #[.agg #[.slice A0_0 l0_0.length c0_0, .slice A0_1 l0_1.length c0_1, .slice A0_2 l0_2.length c0_2, .int .i64 a0_3, .int .i64 a0_4, .int .i64 a0_5, .int .i64 a0_6, .int .i64 a0_7, .int .i64 a0_8], .agg #[.int .i64 a1_0, .int .i64 a1_1, .slice A1_2 l1_2.length c1_2, .slice A1_3 l1_3.length c1_3]] w fun e w' => e = .returned (.bool r) ∧ Below w.heap.size w w' := by
  have hu43 := Try.underlying43
  have hu49 := Try.underlying49
  have HR0_0 := Aside0.mk hr0_0
  have HC0_0 := Aside0.mk hc0_0
  clear hr0_0 hc0_0
  have HR0_1 := Aside0.mk hr0_1
  have HC0_1 := Aside0.mk hc0_1
  clear hr0_1 hc0_1
  have HR0_2 := Aside0.mk hr0_2
  have HC0_2 := Aside0.mk hc0_2
  clear hr0_2 hc0_2
  have HR1_2 := Aside0.mk hr1_2
  have HC1_2 := Aside0.mk hc1_2
  clear hr1_2 hc1_2
  have HR1_3 := Aside0.mk hr1_3
  have HC1_3 := Aside0.mk hc1_3
  clear hr1_3 hc1_3
  have HB := Aside0.mk (Below.refl w.heap.size w)
  have H : (if a1_0 < 1 then (dormouseref09_Task.j0 k true l0_0 l0_1 l0_2 a0_3 a0_4 a0_5 a0_6 a0_7 a0_8 a1_0 a1_1 l1_2 l1_3) else (if a1_0 > a0_8 then (dormouseref09_Task.j0 k true l0_0 l0_1 l0_2 a0_3 a0_4 a0_5 a0_6 a0_7 a0_8 a1_0 a1_1 l1_2 l1_3) else (if a1_1 < 1 then (dormouseref09_Task.j0 k true l0_0 l0_1 l0_2 a0_3 a0_4 a0_5 a0_6 a0_7 a0_8 a1_0 a1_1 l1_2 l1_3) else (if a1_1 > 4096 then (dormouseref09_Task.j0 k true l0_0 l0_1 l0_2 a0_3 a0_4 a0_5 a0_6 a0_7 a0_8 a1_0 a1_1 l1_2 l1_3) else (dormouseref09_Task.j0 k (decide ((l1_2.length : Int) > a0_7)) l0_0 l0_1 l0_2 a0_3 a0_4 a0_5 a0_6 a0_7 a0_8 a1_0 a1_1 l1_2 l1_3))))) = some r := h
  clear h
  have HC3 := Aside0.mk H
  clear H
  go_enter Try.func24, Try.ntmps24
  go_upto_region 1 with (first | ((with_reducible refine gate_dst (N := 2) rfl ?_); (try (refine gate_guard (by rfl) ?_; dsimp only)); refine box_event ?hg (N := 2) ?hd (cs := #[.slice A0_0 l0_0.length c0_0, .slice A0_1 l0_1.length c0_1, .slice A0_2 l0_2.length c0_2, .int .i64 a0_3, .int .i64 a0_4, .int .i64 a0_5, .int .i64 a0_6, .int .i64 a0_7, .int .i64 a0_8]) (t := 43) ?hr ?_; (case hd => rfl); (case hg => rfl); (case hr => first | (go_simp; done) | (go_simp; rfl)); intro gb186 hg w4 hbox hb; have n0_ := Aside0.mk (below_step (by repeat (first | (with_reducible first | exact HB.out | apply below_alloc | apply pw_below_drewN | apply below_drew1) | exact HB.out)) hb); have n1_ := Aside0.mk (hbox); have n2_ := Aside0.mk ((by rw [hg]; exact (below_size (by repeat (first | (with_reducible first | exact HB.out | apply below_alloc | apply pw_below_drewN | apply below_drew1) | exact HB.out))) : w.heap.size ≤ gb186)); have n3_ := Aside0.mk ((by rw [hg]; exact (below_size (by repeat (first | (with_reducible first | exact HB.out | apply below_alloc | apply pw_below_drewN | apply below_drew1) | exact HB.out))) : w.heap.size ≤ gb186)); clear HB; have HB := n0_; have BK186 := n1_; have GW186 := n2_; have GE186 := n3_; clear n0_ n1_ n2_ n3_; clear hb hbox hg) | ((with_reducible refine gate_dst (N := 3) rfl ?_); (try (refine gate_guard (by rfl) ?_; dsimp only)); refine box_event ?hg (N := 3) ?hd (cs := #[.int .i64 a1_0, .int .i64 a1_1, .slice A1_2 l1_2.length c1_2, .slice A1_3 l1_3.length c1_3]) (t := 49) ?hr ?_; (case hd => rfl); (case hg => rfl); (case hr => first | (go_simp; done) | (go_simp; rfl)); intro gb187 hg w5 hbox hb; have n0_ := Aside0.mk (blk_below (g := gb186) (o := .cells #[.slice A0_0 l0_0.length c0_0, .slice A0_1 l0_1.length c0_1, .slice A0_2 l0_2.length c0_2, .int .i64 a0_3, .int .i64 a0_4, .int .i64 a0_5, .int .i64 a0_6, .int .i64 a0_7, .int .i64 a0_8] 43 (0, 0)) (by (with_reducible repeat (first | refine blk_drewN ?_ _ | refine blk_drew ?_ | refine blk_alloc ?_ _)); exact BK186.out) hb); have n1_ := Aside0.mk (below_step (by repeat (first | (with_reducible first | exact HB.out | apply below_alloc | apply pw_below_drewN | apply below_drew1 | refine below_set ?_ GE186.out) | exact HB.out)) hb); have n2_ := Aside0.mk (hbox); have n3_ := Aside0.mk ((by rw [hg]; exact (below_size (by repeat (first | (with_reducible first | exact HB.out | apply below_alloc | apply pw_below_drewN | apply below_drew1 | refine below_set ?_ GE186.out) | exact HB.out))) : w.heap.size ≤ gb187)); have n4_ := Aside0.mk ((by rw [hg]; exact (below_size (by repeat (first | (with_reducible first | exact HB.out | apply below_alloc | apply pw_below_drewN | apply below_drew1 | refine below_set ?_ GE186.out) | exact HB.out))) : w.heap.size ≤ gb187)); have n5_ := Aside0.mk ((by rw [hg]; exact Nat.ne_of_lt (blk_lt (g := gb186) (o := .cells #[.slice A0_0 l0_0.length c0_0, .slice A0_1 l0_1.length c0_1, .slice A0_2 l0_2.length c0_2, .int .i64 a0_3, .int .i64 a0_4, .int .i64 a0_5, .int .i64 a0_6, .int .i64 a0_7, .int .i64 a0_8] 43 (0, 0)) (by (with_reducible repeat (first | refine blk_drewN ?_ _ | refine blk_drew ?_ | refine blk_alloc ?_ _)); exact BK186.out)) : gb186 ≠ gb187)); have n6_ := Aside0.mk ((by rw [hg]; exact Nat.ne_of_gt (blk_lt (g := gb186) (o := .cells #[.slice A0_0 l0_0.length c0_0, .slice A0_1 l0_1.length c0_1, .slice A0_2 l0_2.length c0_2, .int .i64 a0_3, .int .i64 a0_4, .int .i64 a0_5, .int .i64 a0_6, .int .i64 a0_7, .int .i64 a0_8] 43 (0, 0)) (by (with_reducible repeat (first | refine blk_drewN ?_ _ | refine blk_drew ?_ | refine blk_alloc ?_ _)); exact BK186.out)) : gb187 ≠ gb186)); clear BK186; clear HB; have BK186 := n0_; have HB := n1_; have BK187 := n2_; have GW187 := n3_; have GE187 := n4_; have NB186_187 := n5_; have NB187_186 := n6_; clear n0_ n1_ n2_ n3_ n4_ n5_ n6_; clear hb hbox hg))
  repeat (go_quiet (first | ((with_reducible refine gate_dst (N := 2) rfl ?_); (try (refine gate_guard (by rfl) ?_; dsimp only)); refine box_event ?hg (N := 2) ?hd (cs := #[.slice A0_0 l0_0.length c0_0, .slice A0_1 l0_1.length c0_1, .slice A0_2 l0_2.length c0_2, .int .i64 a0_3, .int .i64 a0_4, .int .i64 a0_5, .int .i64 a0_6, .int .i64 a0_7, .int .i64 a0_8]) (t := 43) ?hr ?_; (case hd => rfl); (case hg => rfl); (case hr => first | (go_simp; done) | (go_simp; rfl)); intro gb186 hg w4 hbox hb; have n0_ := Aside0.mk (below_step (by repeat (first | (with_reducible first | exact HB.out | apply below_alloc | apply pw_below_drewN | apply below_drew1) | exact HB.out)) hb); have n1_ := Aside0.mk (hbox); have n2_ := Aside0.mk ((by rw [hg]; exact (below_size (by repeat (first | (with_reducible first | exact HB.out | apply below_alloc | apply pw_below_drewN | apply below_drew1) | exact HB.out))) : w.heap.size ≤ gb186)); have n3_ := Aside0.mk ((by rw [hg]; exact (below_size (by repeat (first | (with_reducible first | exact HB.out | apply below_alloc | apply pw_below_drewN | apply below_drew1) | exact HB.out))) : w.heap.size ≤ gb186)); clear HB; have HB := n0_; have BK186 := n1_; have GW186 := n2_; have GE186 := n3_; clear n0_ n1_ n2_ n3_; clear hb hbox hg) | ((with_reducible refine gate_dst (N := 3) rfl ?_); (try (refine gate_guard (by rfl) ?_; dsimp only)); refine box_event ?hg (N := 3) ?hd (cs := #[.int .i64 a1_0, .int .i64 a1_1, .slice A1_2 l1_2.length c1_2, .slice A1_3 l1_3.length c1_3]) (t := 49) ?hr ?_; (case hd => rfl); (case hg => rfl); (case hr => first | (go_simp; done) | (go_simp; rfl)); intro gb187 hg w5 hbox hb; have n0_ := Aside0.mk (blk_below (g := gb186) (o := .cells #[.slice A0_0 l0_0.length c0_0, .slice A0_1 l0_1.length c0_1, .slice A0_2 l0_2.length c0_2, .int .i64 a0_3, .int .i64 a0_4, .int .i64 a0_5, .int .i64 a0_6, .int .i64 a0_7, .int .i64 a0_8] 43 (0, 0)) (by (with_reducible repeat (first | refine blk_drewN ?_ _ | refine blk_drew ?_ | refine blk_alloc ?_ _)); exact BK186.out) hb); have n1_ := Aside0.mk (below_step (by repeat (first | (with_reducible first | exact HB.out | apply below_alloc | apply pw_below_drewN | apply below_drew1 | refine below_set ?_ GE186.out) | exact HB.out)) hb); have n2_ := Aside0.mk (hbox); have n3_ := Aside0.mk ((by rw [hg]; exact (below_size (by repeat (first | (with_reducible first | exact HB.out | apply below_alloc | apply pw_below_drewN | apply below_drew1 | refine below_set ?_ GE186.out) | exact HB.out))) : w.heap.size ≤ gb187)); have n4_ := Aside0.mk ((by rw [hg]; exact (below_size (by repeat (first | (with_reducible first | exact HB.out | apply below_alloc | apply pw_below_drewN | apply below_drew1 | refine below_set ?_ GE186.out) | exact HB.out))) : w.heap.size ≤ gb187)); have n5_ := Aside0.mk ((by rw [hg]; exact Nat.ne_of_lt (blk_lt (g := gb186) (o := .cells #[.slice A0_0 l0_0.length c0_0, .slice A0_1 l0_1.length c0_1, .slice A0_2 l0_2.length c0_2, .int .i64 a0_3, .int .i64 a0_4, .int .i64 a0_5, .int .i64 a0_6, .int .i64 a0_7, .int .i64 a0_8] 43 (0, 0)) (by (with_reducible repeat (first | refine blk_drewN ?_ _ | refine blk_drew ?_ | refine blk_alloc ?_ _)); exact BK186.out)) : gb186 ≠ gb187)); have n6_ := Aside0.mk ((by rw [hg]; exact Nat.ne_of_gt (blk_lt (g := gb186) (o := .cells #[.slice A0_0 l0_0.length c0_0, .slice A0_1 l0_1.length c0_1, .slice A0_2 l0_2.length c0_2, .int .i64 a0_3, .int .i64 a0_4, .int .i64 a0_5, .int .i64 a0_6, .int .i64 a0_7, .int .i64 a0_8] 43 (0, 0)) (by (with_reducible repeat (first | refine blk_drewN ?_ _ | refine blk_drew ?_ | refine blk_alloc ?_ _)); exact BK186.out)) : gb187 ≠ gb186)); clear BK186; clear HB; have BK186 := n0_; have HB := n1_; have BK187 := n2_; have GW187 := n3_; have GE187 := n4_; have NB186_187 := n5_; have NB187_186 := n6_; clear n0_ n1_ n2_ n3_ n4_ n5_ n6_; clear hb hbox hg)); go_upto_region 1 with (first | ((with_reducible refine gate_dst (N := 2) rfl ?_); (try (refine gate_guard (by rfl) ?_; dsimp only)); refine box_event ?hg (N := 2) ?hd (cs := #[.slice A0_0 l0_0.length c0_0, .slice A0_1 l0_1.length c0_1, .slice A0_2 l0_2.length c0_2, .int .i64 a0_3, .int .i64 a0_4, .int .i64 a0_5, .int .i64 a0_6, .int .i64 a0_7, .int .i64 a0_8]) (t := 43) ?hr ?_; (case hd => rfl); (case hg => rfl); (case hr => first | (go_simp; done) | (go_simp; rfl)); intro gb186 hg w4 hbox hb; have n0_ := Aside0.mk (below_step (by repeat (first | (with_reducible first | exact HB.out | apply below_alloc | apply pw_below_drewN | apply below_drew1) | exact HB.out)) hb); have n1_ := Aside0.mk (hbox); have n2_ := Aside0.mk ((by rw [hg]; exact (below_size (by repeat (first | (with_reducible first | exact HB.out | apply below_alloc | apply pw_below_drewN | apply below_drew1) | exact HB.out))) : w.heap.size ≤ gb186)); have n3_ := Aside0.mk ((by rw [hg]; exact (below_size (by repeat (first | (with_reducible first | exact HB.out | apply below_alloc | apply pw_below_drewN | apply below_drew1) | exact HB.out))) : w.heap.size ≤ gb186)); clear HB; have HB := n0_; have BK186 := n1_; have GW186 := n2_; have GE186 := n3_; clear n0_ n1_ n2_ n3_; clear hb hbox hg) | ((with_reducible refine gate_dst (N := 3) rfl ?_); (try (refine gate_guard (by rfl) ?_; dsimp only)); refine box_event ?hg (N := 3) ?hd (cs := #[.int .i64 a1_0, .int .i64 a1_1, .slice A1_2 l1_2.length c1_2, .slice A1_3 l1_3.length c1_3]) (t := 49) ?hr ?_; (case hd => rfl); (case hg => rfl); (case hr => first | (go_simp; done) | (go_simp; rfl)); intro gb187 hg w5 hbox hb; have n0_ := Aside0.mk (blk_below (g := gb186) (o := .cells #[.slice A0_0 l0_0.length c0_0, .slice A0_1 l0_1.length c0_1, .slice A0_2 l0_2.length c0_2, .int .i64 a0_3, .int .i64 a0_4, .int .i64 a0_5, .int .i64 a0_6, .int .i64 a0_7, .int .i64 a0_8] 43 (0, 0)) (by (with_reducible repeat (first | refine blk_drewN ?_ _ | refine blk_drew ?_ | refine blk_alloc ?_ _)); exact BK186.out) hb); have n1_ := Aside0.mk (below_step (by repeat (first | (with_reducible first | exact HB.out | apply below_alloc | apply pw_below_drewN | apply below_drew1 | refine below_set ?_ GE186.out) | exact HB.out)) hb); have n2_ := Aside0.mk (hbox); have n3_ := Aside0.mk ((by rw [hg]; exact (below_size (by repeat (first | (with_reducible first | exact HB.out | apply below_alloc | apply pw_below_drewN | apply below_drew1 | refine below_set ?_ GE186.out) | exact HB.out))) : w.heap.size ≤ gb187)); have n4_ := Aside0.mk ((by rw [hg]; exact (below_size (by repeat (first | (with_reducible first | exact HB.out | apply below_alloc | apply pw_below_drewN | apply below_drew1 | refine below_set ?_ GE186.out) | exact HB.out))) : w.heap.size ≤ gb187)); have n5_ := Aside0.mk ((by rw [hg]; exact Nat.ne_of_lt (blk_lt (g := gb186) (o := .cells #[.slice A0_0 l0_0.length c0_0, .slice A0_1 l0_1.length c0_1, .slice A0_2 l0_2.length c0_2, .int .i64 a0_3, .int .i64 a0_4, .int .i64 a0_5, .int .i64 a0_6, .int .i64 a0_7, .int .i64 a0_8] 43 (0, 0)) (by (with_reducible repeat (first | refine blk_drewN ?_ _ | refine blk_drew ?_ | refine blk_alloc ?_ _)); exact BK186.out)) : gb186 ≠ gb187)); have n6_ := Aside0.mk ((by rw [hg]; exact Nat.ne_of_gt (blk_lt (g := gb186) (o := .cells #[.slice A0_0 l0_0.length c0_0, .slice A0_1 l0_1.length c0_1, .slice A0_2 l0_2.length c0_2, .int .i64 a0_3, .int .i64 a0_4, .int .i64 a0_5, .int .i64 a0_6, .int .i64 a0_7, .int .i64 a0_8] 43 (0, 0)) (by (with_reducible repeat (first | refine blk_drewN ?_ _ | refine blk_drew ?_ | refine blk_alloc ?_ _)); exact BK186.out)) : gb187 ≠ gb186)); clear BK186; clear HB; have BK186 := n0_; have HB := n1_; have BK187 := n2_; have GW187 := n3_; have GE187 := n4_; have NB186_187 := n5_; have NB187_186 := n6_; clear n0_ n1_ n2_ n3_ n4_ n5_ n6_; clear hb hbox hg)))
  (try simp only [Act.put, List.setIfInBounds_toArray, List.set_cons_zero, List.set_cons_succ])
  go_cut [34] (fun v34 wc => ∃ (kq : Nat) (x34_2 : Bool), v34 = .bool x34_2 ∧ Aside0 (dormouseref09_Task.j0 kq x34_2 l0_0 l0_1 l0_2 a0_3 a0_4 a0_5 a0_6 a0_7 a0_8 a1_0 a1_1 l1_2 l1_3 = some r) ∧ Aside0 (kq ≤ k) ∧ Aside0 (wc.heap[gb186]? = some (.cells #[(.slice A0_0 l0_0.length c0_0), (.slice A0_1 l0_1.length c0_1), (.slice A0_2 l0_2.length c0_2), .int .i64 a0_3, .int .i64 a0_4, .int .i64 a0_5, .int .i64 a0_6, .int .i64 a0_7, .int .i64 a0_8] 43 (0, 0))) ∧ Aside0 (wc.heap[gb187]? = some (.cells #[.int .i64 a1_0, .int .i64 a1_1, (.slice A1_2 l1_2.length c1_2), (.slice A1_3 l1_3.length c1_3)] 49 (0, 0))) ∧ Aside0 (Below w.heap.size w wc))
  case first =>
    have H := HC3.out
    clear HC3
    by_cases c6 : a1_0 < 1
    · rw [if_pos c6] at H
      have c6b0 : decide (a1_0 < 1) = true := decide_eq_true c6
      clear c6
      (first | rw [c6b0] | (simp only [i64_w, i32_w]; rw [c6b0]) | skip)
      have H' := Aside0.mk H
      clear H
      have hnb7 := NB187_186.out
      have hnc7 := NB186_187.out
      have hcz8_0 : w5.cell? ⟨gb187, 0, none⟩ = some (.int .i64 a1_0) := (blk_cell BK187.out 0).trans rfl
      have hcz8_1 : w5.cell? ⟨gb187, 1, none⟩ = some (.int .i64 a1_1) := (blk_cell BK187.out 1).trans rfl
      have hcz8_2 : w5.cell? ⟨gb187, 2, none⟩ = some (.slice A1_2 l1_2.length c1_2) := (blk_cell BK187.out 2).trans rfl
      have hcz8_3 : w5.cell? ⟨gb187, 3, none⟩ = some (.slice A1_3 l1_3.length c1_3) := (blk_cell BK187.out 3).trans rfl
      have hfz8_0 := blk_frozen BK187.out 0
      have hfz8_1 := blk_frozen BK187.out 1
      have hfz8_2 := blk_frozen BK187.out 2
      have hfz8_3 := blk_frozen BK187.out 3
      go_wp2
      repeat (go_quiet (fail); try go_wp2)
      go_meet
      case rel => exact ⟨_, (true), (by first | rfl | (simp; done) | (simp [*]; done)), H', ⟨by first | omega | exact Nat.le_refl _⟩, ⟨by (with_reducible repeat (first | refine blk_drewN ?_ _ | refine blk_drew ?_ | refine blk_alloc ?_ _)); exact BK186.out⟩, ⟨by (with_reducible repeat (first | refine blk_drewN ?_ _ | refine blk_drew ?_ | refine blk_alloc ?_ _)); exact BK187.out⟩, ⟨by repeat (first | (with_reducible first | exact HB.out | apply below_alloc | apply pw_below_drewN | apply below_drew1 | refine below_set ?_ GE186.out | refine below_set ?_ GE187.out) | exact HB.out)⟩⟩
    · rw [if_neg c6] at H
      have c6b0 : decide (a1_0 < 1) = false := decide_eq_false c6
      clear c6
      (first | rw [c6b0] | (simp only [i64_w, i32_w]; rw [c6b0]) | skip)
      by_cases c9 : a1_0 > a0_8
      · rw [if_pos c9] at H
        have c9b0 : decide (a0_8 < a1_0) = true := decide_eq_true c9
        clear c9
        have H' := Aside0.mk H
        clear H
        have hnb10 := NB187_186.out
        have hnc10 := NB186_187.out
        have hcz11_0 : w5.cell? ⟨gb187, 0, none⟩ = some (.int .i64 a1_0) := (blk_cell BK187.out 0).trans rfl
        have hcz11_1 : w5.cell? ⟨gb187, 1, none⟩ = some (.int .i64 a1_1) := (blk_cell BK187.out 1).trans rfl
        have hcz11_2 : w5.cell? ⟨gb187, 2, none⟩ = some (.slice A1_2 l1_2.length c1_2) := (blk_cell BK187.out 2).trans rfl
        have hcz11_3 : w5.cell? ⟨gb187, 3, none⟩ = some (.slice A1_3 l1_3.length c1_3) := (blk_cell BK187.out 3).trans rfl
        have hfz11_0 := blk_frozen BK187.out 0
        have hfz11_1 := blk_frozen BK187.out 1
        have hfz11_2 := blk_frozen BK187.out 2
        have hfz11_3 := blk_frozen BK187.out 3
        have hcz12_0 : w5.cell? ⟨gb186, 0, none⟩ = some (.slice A0_0 l0_0.length c0_0) := (blk_cell BK186.out 0).trans rfl
        have hcz12_1 : w5.cell? ⟨gb186, 1, none⟩ = some (.slice A0_1 l0_1.length c0_1) := (blk_cell BK186.out 1).trans rfl
        have hcz12_2 : w5.cell? ⟨gb186, 2, none⟩ = some (.slice A0_2 l0_2.length c0_2) := (blk_cell BK186.out 2).trans rfl
        have hcz12_3 : w5.cell? ⟨gb186, 3, none⟩ = some (.int .i64 a0_3) := (blk_cell BK186.out 3).trans rfl
        have hcz12_4 : w5.cell? ⟨gb186, 4, none⟩ = some (.int .i64 a0_4) := (blk_cell BK186.out 4).trans rfl
        have hcz12_5 : w5.cell? ⟨gb186, 5, none⟩ = some (.int .i64 a0_5) := (blk_cell BK186.out 5).trans rfl
        have hcz12_6 : w5.cell? ⟨gb186, 6, none⟩ = some (.int .i64 a0_6) := (blk_cell BK186.out 6).trans rfl
        have hcz12_7 : w5.cell? ⟨gb186, 7, none⟩ = some (.int .i64 a0_7) := (blk_cell BK186.out 7).trans rfl
        have hcz12_8 : w5.cell? ⟨gb186, 8, none⟩ = some (.int .i64 a0_8) := (blk_cell BK186.out 8).trans rfl
        have hfz12_0 := blk_frozen BK186.out 0
        have hfz12_1 := blk_frozen BK186.out 1
        have hfz12_2 := blk_frozen BK186.out 2
        have hfz12_3 := blk_frozen BK186.out 3
        have hfz12_4 := blk_frozen BK186.out 4
        have hfz12_5 := blk_frozen BK186.out 5
        have hfz12_6 := blk_frozen BK186.out 6
        have hfz12_7 := blk_frozen BK186.out 7
        have hfz12_8 := blk_frozen BK186.out 8
        go_wp2
        repeat (go_quiet (fail); try go_wp2)
        go_meet
        case rel => exact ⟨_, (true), (by first | rfl | (simp; done) | (simp [*]; done)), H', ⟨by first | omega | exact Nat.le_refl _⟩, ⟨by (with_reducible repeat (first | refine blk_drewN ?_ _ | refine blk_drew ?_ | refine blk_alloc ?_ _)); exact BK186.out⟩, ⟨by (with_reducible repeat (first | refine blk_drewN ?_ _ | refine blk_drew ?_ | refine blk_alloc ?_ _)); exact BK187.out⟩, ⟨by repeat (first | (with_reducible first | exact HB.out | apply below_alloc | apply pw_below_drewN | apply below_drew1 | refine below_set ?_ GE186.out | refine below_set ?_ GE187.out) | exact HB.out)⟩⟩
      · rw [if_neg c9] at H
        have c9b0 : decide (a0_8 < a1_0) = false := decide_eq_false c9
        clear c9
        by_cases c13 : a1_1 < 1
        · rw [if_pos c13] at H
          have c13b0 : decide (a1_1 < 1) = true := decide_eq_true c13
          clear c13
          have H' := Aside0.mk H
          clear H
          have hnb14 := NB187_186.out
          have hnc14 := NB186_187.out
          have hcz15_0 : w5.cell? ⟨gb187, 0, none⟩ = some (.int .i64 a1_0) := (blk_cell BK187.out 0).trans rfl
          have hcz15_1 : w5.cell? ⟨gb187, 1, none⟩ = some (.int .i64 a1_1) := (blk_cell BK187.out 1).trans rfl
          have hcz15_2 : w5.cell? ⟨gb187, 2, none⟩ = some (.slice A1_2 l1_2.length c1_2) := (blk_cell BK187.out 2).trans rfl
          have hcz15_3 : w5.cell? ⟨gb187, 3, none⟩ = some (.slice A1_3 l1_3.length c1_3) := (blk_cell BK187.out 3).trans rfl
          have hfz15_0 := blk_frozen BK187.out 0
          have hfz15_1 := blk_frozen BK187.out 1
          have hfz15_2 := blk_frozen BK187.out 2
          have hfz15_3 := blk_frozen BK187.out 3
          have hcz16_0 : w5.cell? ⟨gb186, 0, none⟩ = some (.slice A0_0 l0_0.length c0_0) := (blk_cell BK186.out 0).trans rfl
          have hcz16_1 : w5.cell? ⟨gb186, 1, none⟩ = some (.slice A0_1 l0_1.length c0_1) := (blk_cell BK186.out 1).trans rfl
          have hcz16_2 : w5.cell? ⟨gb186, 2, none⟩ = some (.slice A0_2 l0_2.length c0_2) := (blk_cell BK186.out 2).trans rfl
          have hcz16_3 : w5.cell? ⟨gb186, 3, none⟩ = some (.int .i64 a0_3) := (blk_cell BK186.out 3).trans rfl
          have hcz16_4 : w5.cell? ⟨gb186, 4, none⟩ = some (.int .i64 a0_4) := (blk_cell BK186.out 4).trans rfl
          have hcz16_5 : w5.cell? ⟨gb186, 5, none⟩ = some (.int .i64 a0_5) := (blk_cell BK186.out 5).trans rfl
          have hcz16_6 : w5.cell? ⟨gb186, 6, none⟩ = some (.int .i64 a0_6) := (blk_cell BK186.out 6).trans rfl
          have hcz16_7 : w5.cell? ⟨gb186, 7, none⟩ = some (.int .i64 a0_7) := (blk_cell BK186.out 7).trans rfl
          have hcz16_8 : w5.cell? ⟨gb186, 8, none⟩ = some (.int .i64 a0_8) := (blk_cell BK186.out 8).trans rfl
          have hfz16_0 := blk_frozen BK186.out 0
          have hfz16_1 := blk_frozen BK186.out 1
          have hfz16_2 := blk_frozen BK186.out 2
          have hfz16_3 := blk_frozen BK186.out 3
          have hfz16_4 := blk_frozen BK186.out 4
          have hfz16_5 := blk_frozen BK186.out 5
          have hfz16_6 := blk_frozen BK186.out 6
          have hfz16_7 := blk_frozen BK186.out 7
          have hfz16_8 := blk_frozen BK186.out 8
          go_wp2
          repeat (go_quiet (fail); try go_wp2)
          go_meet
          case rel => exact ⟨_, (true), (by first | rfl | (simp; done) | (simp [*]; done)), H', ⟨by first | omega | exact Nat.le_refl _⟩, ⟨by (with_reducible repeat (first | refine blk_drewN ?_ _ | refine blk_drew ?_ | refine blk_alloc ?_ _)); exact BK186.out⟩, ⟨by (with_reducible repeat (first | refine blk_drewN ?_ _ | refine blk_drew ?_ | refine blk_alloc ?_ _)); exact BK187.out⟩, ⟨by repeat (first | (with_reducible first | exact HB.out | apply below_alloc | apply pw_below_drewN | apply below_drew1 | refine below_set ?_ GE186.out | refine below_set ?_ GE187.out) | exact HB.out)⟩⟩
        · rw [if_neg c13] at H
          have c13b0 : decide (a1_1 < 1) = false := decide_eq_false c13
          clear c13
          by_cases c17 : a1_1 > 4096
          · rw [if_pos c17] at H
            have c17b0 : decide (4096 < a1_1) = true := decide_eq_true c17
            clear c17
            have H' := Aside0.mk H
            clear H
            have hnb18 := NB187_186.out
            have hnc18 := NB186_187.out
            have hcz19_0 : w5.cell? ⟨gb187, 0, none⟩ = some (.int .i64 a1_0) := (blk_cell BK187.out 0).trans rfl
            have hcz19_1 : w5.cell? ⟨gb187, 1, none⟩ = some (.int .i64 a1_1) := (blk_cell BK187.out 1).trans rfl
            have hcz19_2 : w5.cell? ⟨gb187, 2, none⟩ = some (.slice A1_2 l1_2.length c1_2) := (blk_cell BK187.out 2).trans rfl
            have hcz19_3 : w5.cell? ⟨gb187, 3, none⟩ = some (.slice A1_3 l1_3.length c1_3) := (blk_cell BK187.out 3).trans rfl
            have hfz19_0 := blk_frozen BK187.out 0
            have hfz19_1 := blk_frozen BK187.out 1
            have hfz19_2 := blk_frozen BK187.out 2
            have hfz19_3 := blk_frozen BK187.out 3
            have hcz20_0 : w5.cell? ⟨gb186, 0, none⟩ = some (.slice A0_0 l0_0.length c0_0) := (blk_cell BK186.out 0).trans rfl
            have hcz20_1 : w5.cell? ⟨gb186, 1, none⟩ = some (.slice A0_1 l0_1.length c0_1) := (blk_cell BK186.out 1).trans rfl
            have hcz20_2 : w5.cell? ⟨gb186, 2, none⟩ = some (.slice A0_2 l0_2.length c0_2) := (blk_cell BK186.out 2).trans rfl
            have hcz20_3 : w5.cell? ⟨gb186, 3, none⟩ = some (.int .i64 a0_3) := (blk_cell BK186.out 3).trans rfl
            have hcz20_4 : w5.cell? ⟨gb186, 4, none⟩ = some (.int .i64 a0_4) := (blk_cell BK186.out 4).trans rfl
            have hcz20_5 : w5.cell? ⟨gb186, 5, none⟩ = some (.int .i64 a0_5) := (blk_cell BK186.out 5).trans rfl
            have hcz20_6 : w5.cell? ⟨gb186, 6, none⟩ = some (.int .i64 a0_6) := (blk_cell BK186.out 6).trans rfl
            have hcz20_7 : w5.cell? ⟨gb186, 7, none⟩ = some (.int .i64 a0_7) := (blk_cell BK186.out 7).trans rfl
            have hcz20_8 : w5.cell? ⟨gb186, 8, none⟩ = some (.int .i64 a0_8) := (blk_cell BK186.out 8).trans rfl
            have hfz20_0 := blk_frozen BK186.out 0
            have hfz20_1 := blk_frozen BK186.out 1
            have hfz20_2 := blk_frozen BK186.out 2
            have hfz20_3 := blk_frozen BK186.out 3
            have hfz20_4 := blk_frozen BK186.out 4
            have hfz20_5 := blk_frozen BK186.out 5
            have hfz20_6 := blk_frozen BK186.out 6
            have hfz20_7 := blk_frozen BK186.out 7
            have hfz20_8 := blk_frozen BK186.out 8
            go_wp2
            repeat (go_quiet (fail); try go_wp2)
            go_meet
            case rel => exact ⟨_, (true), (by first | rfl | (simp; done) | (simp [*]; done)), H', ⟨by first | omega | exact Nat.le_refl _⟩, ⟨by (with_reducible repeat (first | refine blk_drewN ?_ _ | refine blk_drew ?_ | refine blk_alloc ?_ _)); exact BK186.out⟩, ⟨by (with_reducible repeat (first | refine blk_drewN ?_ _ | refine blk_drew ?_ | refine blk_alloc ?_ _)); exact BK187.out⟩, ⟨by repeat (first | (with_reducible first | exact HB.out | apply below_alloc | apply pw_below_drewN | apply below_drew1 | refine below_set ?_ GE186.out | refine below_set ?_ GE187.out) | exact HB.out)⟩⟩
          · rw [if_neg c17] at H
            have c17b0 : decide (4096 < a1_1) = false := decide_eq_false c17
            clear c17
            have H' := Aside0.mk H
            clear H
            have hnb21 := NB187_186.out
            have hnc21 := NB186_187.out
            have hcz22_0 : w5.cell? ⟨gb187, 0, none⟩ = some (.int .i64 a1_0) := (blk_cell BK187.out 0).trans rfl
            have hcz22_1 : w5.cell? ⟨gb187, 1, none⟩ = some (.int .i64 a1_1) := (blk_cell BK187.out 1).trans rfl
            have hcz22_2 : w5.cell? ⟨gb187, 2, none⟩ = some (.slice A1_2 l1_2.length c1_2) := (blk_cell BK187.out 2).trans rfl
            have hcz22_3 : w5.cell? ⟨gb187, 3, none⟩ = some (.slice A1_3 l1_3.length c1_3) := (blk_cell BK187.out 3).trans rfl
            have hfz22_0 := blk_frozen BK187.out 0
            have hfz22_1 := blk_frozen BK187.out 1
            have hfz22_2 := blk_frozen BK187.out 2
            have hfz22_3 := blk_frozen BK187.out 3
            have hcz23_0 : w5.cell? ⟨gb186, 0, none⟩ = some (.slice A0_0 l0_0.length c0_0) := (blk_cell BK186.out 0).trans rfl
            have hcz23_1 : w5.cell? ⟨gb186, 1, none⟩ = some (.slice A0_1 l0_1.length c0_1) := (blk_cell BK186.out 1).trans rfl
            have hcz23_2 : w5.cell? ⟨gb186, 2, none⟩ = some (.slice A0_2 l0_2.length c0_2) := (blk_cell BK186.out 2).trans rfl
            have hcz23_3 : w5.cell? ⟨gb186, 3, none⟩ = some (.int .i64 a0_3) := (blk_cell BK186.out 3).trans rfl
            have hcz23_4 : w5.cell? ⟨gb186, 4, none⟩ = some (.int .i64 a0_4) := (blk_cell BK186.out 4).trans rfl
            have hcz23_5 : w5.cell? ⟨gb186, 5, none⟩ = some (.int .i64 a0_5) := (blk_cell BK186.out 5).trans rfl
            have hcz23_6 : w5.cell? ⟨gb186, 6, none⟩ = some (.int .i64 a0_6) := (blk_cell BK186.out 6).trans rfl
            have hcz23_7 : w5.cell? ⟨gb186, 7, none⟩ = some (.int .i64 a0_7) := (blk_cell BK186.out 7).trans rfl
            have hcz23_8 : w5.cell? ⟨gb186, 8, none⟩ = some (.int .i64 a0_8) := (blk_cell BK186.out 8).trans rfl
            have hfz23_0 := blk_frozen BK186.out 0
            have hfz23_1 := blk_frozen BK186.out 1
            have hfz23_2 := blk_frozen BK186.out 2
            have hfz23_3 := blk_frozen BK186.out 3
            have hfz23_4 := blk_frozen BK186.out 4
            have hfz23_5 := blk_frozen BK186.out 5
            have hfz23_6 := blk_frozen BK186.out 6
            have hfz23_7 := blk_frozen BK186.out 7
            have hfz23_8 := blk_frozen BK186.out 8
            go_wp2
            repeat (go_quiet (fail); try go_wp2)
            go_meet
            case rel => exact ⟨_, (decide ((l1_2.length : Int) > a0_7)), (by first | rfl | (simp; done) | (simp [*]; done)), H', ⟨by first | omega | exact Nat.le_refl _⟩, ⟨by (with_reducible repeat (first | refine blk_drewN ?_ _ | refine blk_drew ?_ | refine blk_alloc ?_ _)); exact BK186.out⟩, ⟨by (with_reducible repeat (first | refine blk_drewN ?_ _ | refine blk_drew ?_ | refine blk_alloc ?_ _)); exact BK187.out⟩, ⟨by repeat (first | (with_reducible first | exact HB.out | apply below_alloc | apply pw_below_drewN | apply below_drew1 | refine below_set ?_ GE186.out | refine below_set ?_ GE187.out) | exact HB.out)⟩⟩
  case rest =>
    clear HC3
    try clear c1
    try clear c2
    try clear p2
    try clear c6
    try clear c6b0
    try clear c7
    try clear c9
    try clear c9b0
    try clear c10
    try clear c13
    try clear c13b0
    try clear c14
    try clear c17
    try clear c17b0
    try clear c18
    try clear c21
    try clear hcz11_0
    try clear hcz11_1
    try clear hcz11_2
    try clear hcz11_3
    try clear hcz12_0
    try clear hcz12_1
    try clear hcz12_2
    try clear hcz12_3
    try clear hcz12_4
    try clear hcz12_5
    try clear hcz12_6
    try clear hcz12_7
    try clear hcz12_8
    try clear hcz15_0
    try clear hcz15_1
    try clear hcz15_2
    try clear hcz15_3
    try clear hcz16_0
    try clear hcz16_1
    try clear hcz16_2
    try clear hcz16_3
    try clear hcz16_4
    try clear hcz16_5
    try clear hcz16_6
    try clear hcz16_7
    try clear hcz16_8
    try clear hcz19_0
    try clear hcz19_1
    try clear hcz19_2
    try clear hcz19_3
    try clear hcz20_0
    try clear hcz20_1
    try clear hcz20_2
    try clear hcz20_3
    try clear hcz20_4
    try clear hcz20_5
    try clear hcz20_6
    try clear hcz20_7
    try clear hcz20_8
    try clear hcz22_0
    try clear hcz22_1
    try clear hcz22_2
    try clear hcz22_3
    try clear hcz23_0
    try clear hcz23_1
    try clear hcz23_2
    try clear hcz23_3
    try clear hcz23_4
    try clear hcz23_5
    try clear hcz23_6
    try clear hcz23_7
    try clear hcz23_8
    try clear hcz8_0
    try clear hcz8_1
    try clear hcz8_2
    try clear hcz8_3
    try clear hfz11_0
    try clear hfz11_1
    try clear hfz11_2
    try clear hfz11_3
    try clear hfz12_0
    try clear hfz12_1
    try clear hfz12_2
    try clear hfz12_3
    try clear hfz12_4
    try clear hfz12_5
    try clear hfz12_6
    try clear hfz12_7
    try clear hfz12_8
    try clear hfz15_0
    try clear hfz15_1
    try clear hfz15_2
    try clear hfz15_3
    try clear hfz16_0
    try clear hfz16_1
    try clear hfz16_2
    try clear hfz16_3
    try clear hfz16_4
    try clear hfz16_5
    try clear hfz16_6
    try clear hfz16_7
    try clear hfz16_8
    try clear hfz19_0
    try clear hfz19_1
    try clear hfz19_2
    try clear hfz19_3
    try clear hfz20_0
    try clear hfz20_1
    try clear hfz20_2
    try clear hfz20_3
    try clear hfz20_4
    try clear hfz20_5
    try clear hfz20_6
    try clear hfz20_7
    try clear hfz20_8
    try clear hfz22_0
    try clear hfz22_1
    try clear hfz22_2
    try clear hfz22_3
    try clear hfz23_0
    try clear hfz23_1
    try clear hfz23_2
    try clear hfz23_3
    try clear hfz23_4
    try clear hfz23_5
    try clear hfz23_6
    try clear hfz23_7
    try clear hfz23_8
    try clear hfz8_0
    try clear hfz8_1
    try clear hfz8_2
    try clear hfz8_3
    obtain ⟨kq, x34_2, rfl, HA, HJ2, BK186, BK187, HB⟩ := hcut
    cases kq with
    | zero => exact absurd HA.out (by simp [dormouseref09_Task.j0])
    | succ kj2 =>
      have H := HA.out
      clear HA
      simp only [dormouseref09_Task.j0] at H
      by_cases c24 : x34_2 = true
      · subst c24
        have H1 : (some false) = some r := by rw [if_pos rfl] at H; exact H
        clear H
        have H := H1
        clear H1
        obtain rfl := Option.some.inj H
        go_wp2
        repeat (go_quiet (fail); try go_wp2)
        go_ret
        exact ⟨by first | rfl | (simp [errW_none, errW_some] <;> rfl) | (simp [*, errW_none, errW_some] <;> rfl), by repeat (first | (with_reducible first | exact HB.out | apply below_alloc | apply pw_below_drewN | apply below_drew1 | refine below_set ?_ GE186.out | refine below_set ?_ GE187.out) | exact HB.out)⟩
      · replace c24 := Bool.eq_false_iff.mpr c24
        subst c24
        have H1 : (dormouseref09_Task.l0 kj2 0 l0_0 l0_1 l0_2 a0_3 a0_4 a0_5 a0_6 a0_7 a0_8 a1_0 a1_1 l1_2 l1_3) = some r := by rw [if_neg (show ¬ (false = true) by decide)] at H; exact H
        clear H
        have H := H1
        clear H1
        have H' := Aside0.mk H
        clear H
        go_wp2
        repeat (go_quiet (fail); try go_wp2)
        go_loopg [5] kj2 (fun kq v5 w' => ∃ (x5_2 : Int), v5 = .int .i64 x5_2 ∧ Aside0 (dormouseref09_Task.l0 kq x5_2 l0_0 l0_1 l0_2 a0_3 a0_4 a0_5 a0_6 a0_7 a0_8 a1_0 a1_1 l1_2 l1_3 = some r) ∧ Aside0 (kq ≤ kj2) ∧ Aside0 (w'.heap[gb186]? = some (.cells #[(.slice A0_0 l0_0.length c0_0), (.slice A0_1 l0_1.length c0_1), (.slice A0_2 l0_2.length c0_2), .int .i64 a0_3, .int .i64 a0_4, .int .i64 a0_5, .int .i64 a0_6, .int .i64 a0_7, .int .i64 a0_8] 43 (0, 0))) ∧ Aside0 (w'.heap[gb187]? = some (.cells #[.int .i64 a1_0, .int .i64 a1_1, (.slice A1_2 l1_2.length c1_2), (.slice A1_3 l1_3.length c1_3)] 49 (0, 0))) ∧ Aside0 (Below w.heap.size w w'))
        case atStart => exact ⟨(0), (by first | rfl | (simp; done) | (simp [*]; done)), H', ⟨Nat.le_refl _⟩, ⟨by (with_reducible repeat (first | refine blk_drewN ?_ _ | refine blk_drew ?_ | refine blk_alloc ?_ _)); exact BK186.out⟩, ⟨by (with_reducible repeat (first | refine blk_drewN ?_ _ | refine blk_drew ?_ | refine blk_alloc ?_ _)); exact BK187.out⟩, ⟨by repeat (first | (with_reducible first | exact HB.out | apply below_alloc | apply pw_below_drewN | apply below_drew1 | refine below_set ?_ GE186.out | refine below_set ?_ GE187.out) | exact HB.out)⟩⟩
        case round =>
          clear H'
          try clear c1
          try clear c2
          try clear p2
          try clear c6
          try clear c6b0
          try clear c7
          try clear c9
          try clear c9b0
          try clear c10
          try clear c13
          try clear c13b0
          try clear c14
          try clear c17
          try clear c17b0
          try clear c18
          try clear c21
          try clear c24
          try clear hcz11_0
          try clear hcz11_1
          try clear hcz11_2
          try clear hcz11_3
          try clear hcz12_0
          try clear hcz12_1
          try clear hcz12_2
          try clear hcz12_3
          try clear hcz12_4
          try clear hcz12_5
          try clear hcz12_6
          try clear hcz12_7
          try clear hcz12_8
          try clear hcz15_0
          try clear hcz15_1
          try clear hcz15_2
          try clear hcz15_3
          try clear hcz16_0
          try clear hcz16_1
          try clear hcz16_2
          try clear hcz16_3
          try clear hcz16_4
          try clear hcz16_5
          try clear hcz16_6
          try clear hcz16_7
          try clear hcz16_8
          try clear hcz19_0
          try clear hcz19_1
          try clear hcz19_2
          try clear hcz19_3
          try clear hcz20_0
          try clear hcz20_1
          try clear hcz20_2
          try clear hcz20_3
          try clear hcz20_4
          try clear hcz20_5
          try clear hcz20_6
          try clear hcz20_7
          try clear hcz20_8
          try clear hcz22_0
          try clear hcz22_1
          try clear hcz22_2
          try clear hcz22_3
          try clear hcz23_0
          try clear hcz23_1
          try clear hcz23_2
          try clear hcz23_3
          try clear hcz23_4
          try clear hcz23_5
          try clear hcz23_6
          try clear hcz23_7
          try clear hcz23_8
          try clear hcz8_0
          try clear hcz8_1
          try clear hcz8_2
          try clear hcz8_3
          try clear hfz11_0
          try clear hfz11_1
          try clear hfz11_2
          try clear hfz11_3
          try clear hfz12_0
          try clear hfz12_1
          try clear hfz12_2
          try clear hfz12_3
          try clear hfz12_4
          try clear hfz12_5
          try clear hfz12_6
          try clear hfz12_7
          try clear hfz12_8
          try clear hfz15_0
          try clear hfz15_1
          try clear hfz15_2
          try clear hfz15_3
          try clear hfz16_0
          try clear hfz16_1
          try clear hfz16_2
          try clear hfz16_3
          try clear hfz16_4
          try clear hfz16_5
          try clear hfz16_6
          try clear hfz16_7
          try clear hfz16_8
          try clear hfz19_0
          try clear hfz19_1
          try clear hfz19_2
          try clear hfz19_3
          try clear hfz20_0
          try clear hfz20_1
          try clear hfz20_2
          try clear hfz20_3
          try clear hfz20_4
          try clear hfz20_5
          try clear hfz20_6
          try clear hfz20_7
          try clear hfz20_8
          try clear hfz22_0
          try clear hfz22_1
          try clear hfz22_2
          try clear hfz22_3
          try clear hfz23_0
          try clear hfz23_1
          try clear hfz23_2
          try clear hfz23_3
          try clear hfz23_4
          try clear hfz23_5
          try clear hfz23_6
          try clear hfz23_7
          try clear hfz23_8
          try clear hfz8_0
          try clear hfz8_1
          try clear hfz8_2
          try clear hfz8_3
          try clear p2
          obtain ⟨x5_2, rfl, HA, HK2, BK186, BK187, HB⟩ := hrel
          cases gk with
          | zero => exact absurd HA.out (by simp [dormouseref09_Task.l0])
          | succ k2 =>
            have H := HA.out
            clear HA
            simp only [dormouseref09_Task.l0] at H
            by_cases c25 : x5_2 < (l1_2.length : Int)
            · rw [if_pos c25] at H
              have c25b0 : decide (x5_2 < (l1_2.length : Int)) = true := decide_eq_true c25
              clear c25
              by_cases c26 : 0 ≤ x5_2
              · rw [if_pos c26] at H
                have c26b0 : decide (0 ≤ x5_2) = true := decide_eq_true c26
                clear c26
                by_cases c27 : (rd l1_2 x5_2) < 0
                · rw [if_pos c27] at H
                  have c27b0 : decide ((rd l1_2 x5_2) < 0) = true := decide_eq_true c27
                  clear c27
                  obtain rfl := Option.some.inj H
                  have hnb28 := NB187_186.out
                  have hnc28 := NB186_187.out
                  have hcz29_0 : wr.cell? ⟨gb187, 0, none⟩ = some (.int .i64 a1_0) := (blk_cell BK187.out 0).trans rfl
                  have hcz29_1 : wr.cell? ⟨gb187, 1, none⟩ = some (.int .i64 a1_1) := (blk_cell BK187.out 1).trans rfl
                  have hcz29_2 : wr.cell? ⟨gb187, 2, none⟩ = some (.slice A1_2 l1_2.length c1_2) := (blk_cell BK187.out 2).trans rfl
                  have hcz29_3 : wr.cell? ⟨gb187, 3, none⟩ = some (.slice A1_3 l1_3.length c1_3) := (blk_cell BK187.out 3).trans rfl
                  have hfz29_0 := blk_frozen BK187.out 0
                  have hfz29_1 := blk_frozen BK187.out 1
                  have hfz29_2 := blk_frozen BK187.out 2
                  have hfz29_3 := blk_frozen BK187.out 3
                  have p188 : 0 ≤ (x5_2 : Int) := of_decide_eq_true (by first | (with_reducible assumption) | assumption)
                  have q188 : x5_2 < (l1_2.length : Int) := of_decide_eq_true (by first | (with_reducible assumption) | assumption)
                  obtain ⟨ad188, e188, hx188_0⟩ := Kd.at_int HR1_2.out x5_2 p188 q188
                  cases e188
                  replace hx188_0 := (HB.out.cell (World.block_lt_of_cell? w _ hx188_0)).trans hx188_0
                  replace p188 := eq_true p188
                  replace q188 := eq_true q188
                  go_wp2
                  repeat (go_quiet (fail); try go_wp2)
                  go_ret
                  exact ⟨by first | rfl | (simp [errW_none, errW_some] <;> rfl) | (simp [*, errW_none, errW_some] <;> rfl), by repeat (first | (with_reducible first | exact HB.out | apply below_alloc | apply pw_below_drewN | apply below_drew1 | refine below_set ?_ GE186.out | refine below_set ?_ GE187.out) | exact HB.out)⟩
                · rw [if_neg c27] at H
                  have c27b0 : decide ((rd l1_2 x5_2) < 0) = false := decide_eq_false c27
                  clear c27
                  by_cases c30 : (rd l1_2 x5_2) > a1_1
                  · rw [if_pos c30] at H
                    have c30b0 : decide (a1_1 < (rd l1_2 x5_2)) = true := decide_eq_true c30
                    clear c30
                    obtain rfl := Option.some.inj H
                    have hnb31 := NB187_186.out
                    have hnc31 := NB186_187.out
                    have hcz32_0 : wr.cell? ⟨gb187, 0, none⟩ = some (.int .i64 a1_0) := (blk_cell BK187.out 0).trans rfl
                    have hcz32_1 : wr.cell? ⟨gb187, 1, none⟩ = some (.int .i64 a1_1) := (blk_cell BK187.out 1).trans rfl
                    have hcz32_2 : wr.cell? ⟨gb187, 2, none⟩ = some (.slice A1_2 l1_2.length c1_2) := (blk_cell BK187.out 2).trans rfl
                    have hcz32_3 : wr.cell? ⟨gb187, 3, none⟩ = some (.slice A1_3 l1_3.length c1_3) := (blk_cell BK187.out 3).trans rfl
                    have hfz32_0 := blk_frozen BK187.out 0
                    have hfz32_1 := blk_frozen BK187.out 1
                    have hfz32_2 := blk_frozen BK187.out 2
                    have hfz32_3 := blk_frozen BK187.out 3
                    have p188 : 0 ≤ (x5_2 : Int) := of_decide_eq_true (by first | (with_reducible assumption) | assumption)
                    have q188 : x5_2 < (l1_2.length : Int) := of_decide_eq_true (by first | (with_reducible assumption) | assumption)
                    obtain ⟨ad188, e188, hx188_0⟩ := Kd.at_int HR1_2.out x5_2 p188 q188
                    cases e188
                    replace hx188_0 := (HB.out.cell (World.block_lt_of_cell? w _ hx188_0)).trans hx188_0
                    replace p188 := eq_true p188
                    replace q188 := eq_true q188
                    have p189 : 0 ≤ (x5_2 : Int) := of_decide_eq_true (by first | (with_reducible assumption) | assumption)
                    have q189 : x5_2 < (l1_2.length : Int) := of_decide_eq_true (by first | (with_reducible assumption) | assumption)
                    obtain ⟨ad189, e189, hx189_0⟩ := Kd.at_int HR1_2.out x5_2 p189 q189
                    obtain rfl : ad188 = ad189 := (by injection e189)
                    replace hx189_0 := (HB.out.cell (World.block_lt_of_cell? w _ hx189_0)).trans hx189_0
                    replace p189 := eq_true p189
                    replace q189 := eq_true q189
                    go_wp2
                    repeat (go_quiet (fail); try go_wp2)
                    go_ret
                    exact ⟨by first | rfl | (simp [errW_none, errW_some] <;> rfl) | (simp [*, errW_none, errW_some] <;> rfl), by repeat (first | (with_reducible first | exact HB.out | apply below_alloc | apply pw_below_drewN | apply below_drew1 | refine below_set ?_ GE186.out | refine below_set ?_ GE187.out) | exact HB.out)⟩
                  · rw [if_neg c30] at H
                    have c30b0 : decide (a1_1 < (rd l1_2 x5_2)) = false := decide_eq_false c30
                    clear c30
                    have H' := Aside0.mk H
                    clear H
                    have hnb33 := NB187_186.out
                    have hnc33 := NB186_187.out
                    have hcz34_0 : wr.cell? ⟨gb187, 0, none⟩ = some (.int .i64 a1_0) := (blk_cell BK187.out 0).trans rfl
                    have hcz34_1 : wr.cell? ⟨gb187, 1, none⟩ = some (.int .i64 a1_1) := (blk_cell BK187.out 1).trans rfl
                    have hcz34_2 : wr.cell? ⟨gb187, 2, none⟩ = some (.slice A1_2 l1_2.length c1_2) := (blk_cell BK187.out 2).trans rfl
                    have hcz34_3 : wr.cell? ⟨gb187, 3, none⟩ = some (.slice A1_3 l1_3.length c1_3) := (blk_cell BK187.out 3).trans rfl
                    have hfz34_0 := blk_frozen BK187.out 0
                    have hfz34_1 := blk_frozen BK187.out 1
                    have hfz34_2 := blk_frozen BK187.out 2
                    have hfz34_3 := blk_frozen BK187.out 3
                    have p188 : 0 ≤ (x5_2 : Int) := of_decide_eq_true (by first | (with_reducible assumption) | assumption)
                    have q188 : x5_2 < (l1_2.length : Int) := of_decide_eq_true (by first | (with_reducible assumption) | assumption)
                    obtain ⟨ad188, e188, hx188_0⟩ := Kd.at_int HR1_2.out x5_2 p188 q188
                    cases e188
                    replace hx188_0 := (HB.out.cell (World.block_lt_of_cell? w _ hx188_0)).trans hx188_0
                    replace p188 := eq_true p188
                    replace q188 := eq_true q188
                    have p189 : 0 ≤ (x5_2 : Int) := of_decide_eq_true (by first | (with_reducible assumption) | assumption)
                    have q189 : x5_2 < (l1_2.length : Int) := of_decide_eq_true (by first | (with_reducible assumption) | assumption)
                    obtain ⟨ad189, e189, hx189_0⟩ := Kd.at_int HR1_2.out x5_2 p189 q189
                    obtain rfl : ad188 = ad189 := (by injection e189)
                    replace hx189_0 := (HB.out.cell (World.block_lt_of_cell? w _ hx189_0)).trans hx189_0
                    replace p189 := eq_true p189
                    replace q189 := eq_true q189
                    go_wp2
                    repeat (go_quiet (fail); try go_wp2)
                    go_roundg k2
                    case measure => have := HJ2.out; have := HK2.out; omega
                    case rel => exact ⟨(wrap64 (x5_2 + 1)), (by first | rfl | (simp; done) | (simp [*]; done)), H', ⟨by have := HJ2.out; have := HK2.out; omega⟩, ⟨by (with_reducible repeat (first | refine blk_drewN ?_ _ | refine blk_drew ?_ | refine blk_alloc ?_ _)); exact BK186.out⟩, ⟨by (with_reducible repeat (first | refine blk_drewN ?_ _ | refine blk_drew ?_ | refine blk_alloc ?_ _)); exact BK187.out⟩, ⟨by repeat (first | (with_reducible first | exact HB.out | apply below_alloc | apply pw_below_drewN | apply below_drew1 | refine below_set ?_ GE186.out | refine below_set ?_ GE187.out) | exact HB.out)⟩⟩
              · rw [if_neg c26] at H
                exact absurd H (by simp)
            · rw [if_neg c25] at H
              have c25b0 : decide (x5_2 < (l1_2.length : Int)) = false := decide_eq_false c25
              clear c25
              have H' := Aside0.mk H
              clear H
              have hnb35 := NB187_186.out
              have hnc35 := NB186_187.out
              have hcz36_0 : wr.cell? ⟨gb187, 0, none⟩ = some (.int .i64 a1_0) := (blk_cell BK187.out 0).trans rfl
              have hcz36_1 : wr.cell? ⟨gb187, 1, none⟩ = some (.int .i64 a1_1) := (blk_cell BK187.out 1).trans rfl
              have hcz36_2 : wr.cell? ⟨gb187, 2, none⟩ = some (.slice A1_2 l1_2.length c1_2) := (blk_cell BK187.out 2).trans rfl
              have hcz36_3 : wr.cell? ⟨gb187, 3, none⟩ = some (.slice A1_3 l1_3.length c1_3) := (blk_cell BK187.out 3).trans rfl
              have hfz36_0 := blk_frozen BK187.out 0
              have hfz36_1 := blk_frozen BK187.out 1
              have hfz36_2 := blk_frozen BK187.out 2
              have hfz36_3 := blk_frozen BK187.out 3
              go_wp2
              repeat (go_quiet (fail); try go_wp2)
              go_loopg [6] k2 (fun kq v6 w' => ∃ (x6_3 : Int), v6 = .int .i64 x6_3 ∧ Aside0 (dormouseref09_Task.l1 kq x6_3 l0_0 l0_1 l0_2 a0_3 a0_4 a0_5 a0_6 a0_7 a0_8 a1_0 a1_1 l1_2 l1_3 = some r) ∧ Aside0 (kq ≤ k2) ∧ Aside0 (w'.heap[gb186]? = some (.cells #[(.slice A0_0 l0_0.length c0_0), (.slice A0_1 l0_1.length c0_1), (.slice A0_2 l0_2.length c0_2), .int .i64 a0_3, .int .i64 a0_4, .int .i64 a0_5, .int .i64 a0_6, .int .i64 a0_7, .int .i64 a0_8] 43 (0, 0))) ∧ Aside0 (w'.heap[gb187]? = some (.cells #[.int .i64 a1_0, .int .i64 a1_1, (.slice A1_2 l1_2.length c1_2), (.slice A1_3 l1_3.length c1_3)] 49 (0, 0))) ∧ Aside0 (Below w.heap.size w w'))
              case atStart => exact ⟨(0), (by first | rfl | (simp; done) | (simp [*]; done)), H', ⟨Nat.le_refl _⟩, ⟨by (with_reducible repeat (first | refine blk_drewN ?_ _ | refine blk_drew ?_ | refine blk_alloc ?_ _)); exact BK186.out⟩, ⟨by (with_reducible repeat (first | refine blk_drewN ?_ _ | refine blk_drew ?_ | refine blk_alloc ?_ _)); exact BK187.out⟩, ⟨by repeat (first | (with_reducible first | exact HB.out | apply below_alloc | apply pw_below_drewN | apply below_drew1 | refine below_set ?_ GE186.out | refine below_set ?_ GE187.out) | exact HB.out)⟩⟩
              case round =>
                clear H'
                try clear c1
                try clear p1
                try clear q1
                try clear hx1
                try clear c2
                try clear p2
                try clear c3
                try clear c6
                try clear c6b0
                try clear p6
                try clear c7
                try clear c9
                try clear c9b0
                try clear c10
                try clear c13
                try clear c13b0
                try clear c14
                try clear c17
                try clear c17b0
                try clear c18
                try clear p18
                try clear q18
                try clear hx18
                try clear c21
                try clear c24
                try clear c25
                try clear c25b0
                try clear c26
                try clear c26b0
                try clear c27
                try clear c27b0
                try clear c28
                try clear c30
                try clear c30b0
                try clear c31
                try clear c33
                try clear c35
                try clear hcz11_0
                try clear hcz11_1
                try clear hcz11_2
                try clear hcz11_3
                try clear hcz12_0
                try clear hcz12_1
                try clear hcz12_2
                try clear hcz12_3
                try clear hcz12_4
                try clear hcz12_5
                try clear hcz12_6
                try clear hcz12_7
                try clear hcz12_8
                try clear hcz15_0
                try clear hcz15_1
                try clear hcz15_2
                try clear hcz15_3
                try clear hcz16_0
                try clear hcz16_1
                try clear hcz16_2
                try clear hcz16_3
                try clear hcz16_4
                try clear hcz16_5
                try clear hcz16_6
                try clear hcz16_7
                try clear hcz16_8
                try clear hcz19_0
                try clear hcz19_1
                try clear hcz19_2
                try clear hcz19_3
                try clear hcz20_0
                try clear hcz20_1
                try clear hcz20_2
                try clear hcz20_3
                try clear hcz20_4
                try clear hcz20_5
                try clear hcz20_6
                try clear hcz20_7
                try clear hcz20_8
                try clear hcz22_0
                try clear hcz22_1
                try clear hcz22_2
                try clear hcz22_3
                try clear hcz23_0
                try clear hcz23_1
                try clear hcz23_2
                try clear hcz23_3
                try clear hcz23_4
                try clear hcz23_5
                try clear hcz23_6
                try clear hcz23_7
                try clear hcz23_8
                try clear hcz29_0
                try clear hcz29_1
                try clear hcz29_2
                try clear hcz29_3
                try clear hcz32_0
                try clear hcz32_1
                try clear hcz32_2
                try clear hcz32_3
                try clear hcz34_0
                try clear hcz34_1
                try clear hcz34_2
                try clear hcz34_3
                try clear hcz36_0
                try clear hcz36_1
                try clear hcz36_2
                try clear hcz36_3
                try clear hcz8_0
                try clear hcz8_1
                try clear hcz8_2
                try clear hcz8_3
                try clear hfz11_0
                try clear hfz11_1
                try clear hfz11_2
                try clear hfz11_3
                try clear hfz12_0
                try clear hfz12_1
                try clear hfz12_2
                try clear hfz12_3
                try clear hfz12_4
                try clear hfz12_5
                try clear hfz12_6
                try clear hfz12_7
                try clear hfz12_8
                try clear hfz15_0
                try clear hfz15_1
                try clear hfz15_2
                try clear hfz15_3
                try clear hfz16_0
                try clear hfz16_1
                try clear hfz16_2
                try clear hfz16_3
                try clear hfz16_4
                try clear hfz16_5
                try clear hfz16_6
                try clear hfz16_7
                try clear hfz16_8
                try clear hfz19_0
                try clear hfz19_1
                try clear hfz19_2
                try clear hfz19_3
                try clear hfz20_0
                try clear hfz20_1
                try clear hfz20_2
                try clear hfz20_3
                try clear hfz20_4
                try clear hfz20_5
                try clear hfz20_6
                try clear hfz20_7
                try clear hfz20_8
                try clear hfz22_0
                try clear hfz22_1
                try clear hfz22_2
                try clear hfz22_3
                try clear hfz23_0
                try clear hfz23_1
                try clear hfz23_2
                try clear hfz23_3
                try clear hfz23_4
                try clear hfz23_5
                try clear hfz23_6
                try clear hfz23_7
                try clear hfz23_8
                try clear hfz29_0
                try clear hfz29_1
                try clear hfz29_2
                try clear hfz29_3
                try clear hfz32_0
                try clear hfz32_1
                try clear hfz32_2
                try clear hfz32_3
                try clear hfz34_0
                try clear hfz34_1
                try clear hfz34_2
                try clear hfz34_3
                try clear hfz36_0
                try clear hfz36_1
                try clear hfz36_2
                try clear hfz36_3
                try clear hfz8_0
                try clear hfz8_1
                try clear hfz8_2
                try clear hfz8_3
                try clear hx188_0
                try clear hx189_0
                try clear p188
                try clear p189
                try clear p2
                try clear q188
                try clear q189
                obtain ⟨x6_3, rfl, HA, HK3, BK186, BK187, HB⟩ := hrel
                cases gk with
                | zero => exact absurd HA.out (by simp [dormouseref09_Task.l1])
                | succ k3 =>
                  have H := HA.out
                  clear HA
                  simp only [dormouseref09_Task.l1] at H
                  by_cases c37 : x6_3 < (l1_3.length : Int)
                  · rw [if_pos c37] at H
                    have c37b0 : decide (x6_3 < (l1_3.length : Int)) = true := decide_eq_true c37
                    clear c37
                    by_cases c38 : 0 ≤ x6_3
                    · rw [if_pos c38] at H
                      have c38b0 : decide (0 ≤ x6_3) = true := decide_eq_true c38
                      clear c38
                      by_cases c39 : (rd l1_3 x6_3) < 0
                      · rw [if_pos c39] at H
                        have c39b0 : decide ((rd l1_3 x6_3) < 0) = true := decide_eq_true c39
                        clear c39
                        obtain rfl := Option.some.inj H
                        have hnb40 := NB187_186.out
                        have hnc40 := NB186_187.out
                        have hcz41_0 : wr.cell? ⟨gb187, 0, none⟩ = some (.int .i64 a1_0) := (blk_cell BK187.out 0).trans rfl
                        have hcz41_1 : wr.cell? ⟨gb187, 1, none⟩ = some (.int .i64 a1_1) := (blk_cell BK187.out 1).trans rfl
                        have hcz41_2 : wr.cell? ⟨gb187, 2, none⟩ = some (.slice A1_2 l1_2.length c1_2) := (blk_cell BK187.out 2).trans rfl
                        have hcz41_3 : wr.cell? ⟨gb187, 3, none⟩ = some (.slice A1_3 l1_3.length c1_3) := (blk_cell BK187.out 3).trans rfl
                        have hfz41_0 := blk_frozen BK187.out 0
                        have hfz41_1 := blk_frozen BK187.out 1
                        have hfz41_2 := blk_frozen BK187.out 2
                        have hfz41_3 := blk_frozen BK187.out 3
                        have p190 : 0 ≤ (x6_3 : Int) := of_decide_eq_true (by first | (with_reducible assumption) | assumption)
                        have q190 : x6_3 < (l1_3.length : Int) := of_decide_eq_true (by first | (with_reducible assumption) | assumption)
                        obtain ⟨ad190, e190, hx190_0⟩ := Kd.at_int HR1_3.out x6_3 p190 q190
                        cases e190
                        replace hx190_0 := (HB.out.cell (World.block_lt_of_cell? w _ hx190_0)).trans hx190_0
                        replace p190 := eq_true p190
                        replace q190 := eq_true q190
                        go_wp2
                        repeat (go_quiet (fail); try go_wp2)
                        go_ret
                        exact ⟨by first | rfl | (simp [errW_none, errW_some] <;> rfl) | (simp [*, errW_none, errW_some] <;> rfl), by repeat (first | (with_reducible first | exact HB.out | apply below_alloc | apply pw_below_drewN | apply below_drew1 | refine below_set ?_ GE186.out | refine below_set ?_ GE187.out) | exact HB.out)⟩
                      · rw [if_neg c39] at H
                        have c39b0 : decide ((rd l1_3 x6_3) < 0) = false := decide_eq_false c39
                        clear c39
                        by_cases c42 : (rd l1_3 x6_3) ≥ (l0_2.length : Int)
                        · rw [if_pos c42] at H
                          have c42b0 : decide ((l0_2.length : Int) ≤ (rd l1_3 x6_3)) = true := decide_eq_true c42
                          clear c42
                          obtain rfl := Option.some.inj H
                          have hnb43 := NB187_186.out
                          have hnc43 := NB186_187.out
                          have hcz44_0 : wr.cell? ⟨gb187, 0, none⟩ = some (.int .i64 a1_0) := (blk_cell BK187.out 0).trans rfl
                          have hcz44_1 : wr.cell? ⟨gb187, 1, none⟩ = some (.int .i64 a1_1) := (blk_cell BK187.out 1).trans rfl
                          have hcz44_2 : wr.cell? ⟨gb187, 2, none⟩ = some (.slice A1_2 l1_2.length c1_2) := (blk_cell BK187.out 2).trans rfl
                          have hcz44_3 : wr.cell? ⟨gb187, 3, none⟩ = some (.slice A1_3 l1_3.length c1_3) := (blk_cell BK187.out 3).trans rfl
                          have hfz44_0 := blk_frozen BK187.out 0
                          have hfz44_1 := blk_frozen BK187.out 1
                          have hfz44_2 := blk_frozen BK187.out 2
                          have hfz44_3 := blk_frozen BK187.out 3
                          have p190 : 0 ≤ (x6_3 : Int) := of_decide_eq_true (by first | (with_reducible assumption) | assumption)
                          have q190 : x6_3 < (l1_3.length : Int) := of_decide_eq_true (by first | (with_reducible assumption) | assumption)
                          obtain ⟨ad190, e190, hx190_0⟩ := Kd.at_int HR1_3.out x6_3 p190 q190
                          cases e190
                          replace hx190_0 := (HB.out.cell (World.block_lt_of_cell? w _ hx190_0)).trans hx190_0
                          replace p190 := eq_true p190
                          replace q190 := eq_true q190
                          have p191 : 0 ≤ (x6_3 : Int) := of_decide_eq_true (by first | (with_reducible assumption) | assumption)
                          have q191 : x6_3 < (l1_3.length : Int) := of_decide_eq_true (by first | (with_reducible assumption) | assumption)
                          obtain ⟨ad191, e191, hx191_0⟩ := Kd.at_int HR1_3.out x6_3 p191 q191
                          obtain rfl : ad190 = ad191 := (by injection e191)
                          replace hx191_0 := (HB.out.cell (World.block_lt_of_cell? w _ hx191_0)).trans hx191_0
                          replace p191 := eq_true p191
                          replace q191 := eq_true q191
                          have hcz45_0 : wr.cell? ⟨gb186, 0, none⟩ = some (.slice A0_0 l0_0.length c0_0) := (blk_cell BK186.out 0).trans rfl
                          have hcz45_1 : wr.cell? ⟨gb186, 1, none⟩ = some (.slice A0_1 l0_1.length c0_1) := (blk_cell BK186.out 1).trans rfl
                          have hcz45_2 : wr.cell? ⟨gb186, 2, none⟩ = some (.slice A0_2 l0_2.length c0_2) := (blk_cell BK186.out 2).trans rfl
                          have hcz45_3 : wr.cell? ⟨gb186, 3, none⟩ = some (.int .i64 a0_3) := (blk_cell BK186.out 3).trans rfl
                          have hcz45_4 : wr.cell? ⟨gb186, 4, none⟩ = some (.int .i64 a0_4) := (blk_cell BK186.out 4).trans rfl
                          have hcz45_5 : wr.cell? ⟨gb186, 5, none⟩ = some (.int .i64 a0_5) := (blk_cell BK186.out 5).trans rfl
                          have hcz45_6 : wr.cell? ⟨gb186, 6, none⟩ = some (.int .i64 a0_6) := (blk_cell BK186.out 6).trans rfl
                          have hcz45_7 : wr.cell? ⟨gb186, 7, none⟩ = some (.int .i64 a0_7) := (blk_cell BK186.out 7).trans rfl
                          have hcz45_8 : wr.cell? ⟨gb186, 8, none⟩ = some (.int .i64 a0_8) := (blk_cell BK186.out 8).trans rfl
                          have hfz45_0 := blk_frozen BK186.out 0
                          have hfz45_1 := blk_frozen BK186.out 1
                          have hfz45_2 := blk_frozen BK186.out 2
                          have hfz45_3 := blk_frozen BK186.out 3
                          have hfz45_4 := blk_frozen BK186.out 4
                          have hfz45_5 := blk_frozen BK186.out 5
                          have hfz45_6 := blk_frozen BK186.out 6
                          have hfz45_7 := blk_frozen BK186.out 7
                          have hfz45_8 := blk_frozen BK186.out 8
                          go_wp2
                          repeat (go_quiet (fail); try go_wp2)
                          go_ret
                          exact ⟨by first | rfl | (simp [errW_none, errW_some] <;> rfl) | (simp [*, errW_none, errW_some] <;> rfl), by repeat (first | (with_reducible first | exact HB.out | apply below_alloc | apply pw_below_drewN | apply below_drew1 | refine below_set ?_ GE186.out | refine below_set ?_ GE187.out) | exact HB.out)⟩
                        · rw [if_neg c42] at H
                          have c42b0 : decide ((l0_2.length : Int) ≤ (rd l1_3 x6_3)) = false := decide_eq_false c42
                          clear c42
                          by_cases c46 : x6_3 > 0
                          · rw [if_pos c46] at H
                            have c46b0 : decide (0 < x6_3) = true := decide_eq_true c46
                            clear c46
                            obtain ⟨ji47, hji47⟩ : ∃ j_ : Int, (wrap64 (x6_3 - 1)) = j_ := ⟨_, rfl⟩
                            replace H : (if 0 ≤ (ji47) then (if (ji47) < (l1_3.length : Int) then (if (rd l1_3 (ji47)) ≥ (rd l1_3 x6_3) then (some false) else (dormouseref09_Task.l1 k3 (wrap64 (x6_3 + 1)) l0_0 l0_1 l0_2 a0_3 a0_4 a0_5 a0_6 a0_7 a0_8 a1_0 a1_1 l1_2 l1_3)) else (none)) else (none)) = some r := by first | (rw [hji47] at H; exact H) | (simp only [hji47] at H ⊢; exact H)
                            have hji47w : (IntKind.i64.wrap (x6_3 - 1)) = ji47 := (i64_w _).trans hji47
                            by_cases c48 : 0 ≤ (ji47)
                            · rw [if_pos c48] at H
                              have c48b0 : decide (0 ≤ (ji47)) = true := decide_eq_true c48
                              clear c48
                              by_cases c49 : (ji47) < (l1_3.length : Int)
                              · rw [if_pos c49] at H
                                have c49b0 : decide ((ji47) < (l1_3.length : Int)) = true := decide_eq_true c49
                                clear c49
                                by_cases c50 : (rd l1_3 (ji47)) ≥ (rd l1_3 x6_3)
                                · rw [if_pos c50] at H
                                  have c50b0 : decide ((rd l1_3 x6_3) ≤ (rd l1_3 (ji47))) = true := decide_eq_true c50
                                  clear c50
                                  obtain rfl := Option.some.inj H
                                  have hnb51 := NB187_186.out
                                  have hnc51 := NB186_187.out
                                  have hcz52_0 : wr.cell? ⟨gb187, 0, none⟩ = some (.int .i64 a1_0) := (blk_cell BK187.out 0).trans rfl
                                  have hcz52_1 : wr.cell? ⟨gb187, 1, none⟩ = some (.int .i64 a1_1) := (blk_cell BK187.out 1).trans rfl
                                  have hcz52_2 : wr.cell? ⟨gb187, 2, none⟩ = some (.slice A1_2 l1_2.length c1_2) := (blk_cell BK187.out 2).trans rfl
                                  have hcz52_3 : wr.cell? ⟨gb187, 3, none⟩ = some (.slice A1_3 l1_3.length c1_3) := (blk_cell BK187.out 3).trans rfl
                                  have hfz52_0 := blk_frozen BK187.out 0
                                  have hfz52_1 := blk_frozen BK187.out 1
                                  have hfz52_2 := blk_frozen BK187.out 2
                                  have hfz52_3 := blk_frozen BK187.out 3
                                  have p190 : 0 ≤ (x6_3 : Int) := of_decide_eq_true (by first | (with_reducible assumption) | assumption)
                                  have q190 : x6_3 < (l1_3.length : Int) := of_decide_eq_true (by first | (with_reducible assumption) | assumption)
                                  obtain ⟨ad190, e190, hx190_0⟩ := Kd.at_int HR1_3.out x6_3 p190 q190
                                  cases e190
                                  replace hx190_0 := (HB.out.cell (World.block_lt_of_cell? w _ hx190_0)).trans hx190_0
                                  replace p190 := eq_true p190
                                  replace q190 := eq_true q190
                                  have p191 : 0 ≤ (x6_3 : Int) := of_decide_eq_true (by first | (with_reducible assumption) | assumption)
                                  have q191 : x6_3 < (l1_3.length : Int) := of_decide_eq_true (by first | (with_reducible assumption) | assumption)
                                  obtain ⟨ad191, e191, hx191_0⟩ := Kd.at_int HR1_3.out x6_3 p191 q191
                                  obtain rfl : ad190 = ad191 := (by injection e191)
                                  replace hx191_0 := (HB.out.cell (World.block_lt_of_cell? w _ hx191_0)).trans hx191_0
                                  replace p191 := eq_true p191
                                  replace q191 := eq_true q191
                                  have hcz53_0 : wr.cell? ⟨gb186, 0, none⟩ = some (.slice A0_0 l0_0.length c0_0) := (blk_cell BK186.out 0).trans rfl
                                  have hcz53_1 : wr.cell? ⟨gb186, 1, none⟩ = some (.slice A0_1 l0_1.length c0_1) := (blk_cell BK186.out 1).trans rfl
                                  have hcz53_2 : wr.cell? ⟨gb186, 2, none⟩ = some (.slice A0_2 l0_2.length c0_2) := (blk_cell BK186.out 2).trans rfl
                                  have hcz53_3 : wr.cell? ⟨gb186, 3, none⟩ = some (.int .i64 a0_3) := (blk_cell BK186.out 3).trans rfl
                                  have hcz53_4 : wr.cell? ⟨gb186, 4, none⟩ = some (.int .i64 a0_4) := (blk_cell BK186.out 4).trans rfl
                                  have hcz53_5 : wr.cell? ⟨gb186, 5, none⟩ = some (.int .i64 a0_5) := (blk_cell BK186.out 5).trans rfl
                                  have hcz53_6 : wr.cell? ⟨gb186, 6, none⟩ = some (.int .i64 a0_6) := (blk_cell BK186.out 6).trans rfl
                                  have hcz53_7 : wr.cell? ⟨gb186, 7, none⟩ = some (.int .i64 a0_7) := (blk_cell BK186.out 7).trans rfl
                                  have hcz53_8 : wr.cell? ⟨gb186, 8, none⟩ = some (.int .i64 a0_8) := (blk_cell BK186.out 8).trans rfl
                                  have hfz53_0 := blk_frozen BK186.out 0
                                  have hfz53_1 := blk_frozen BK186.out 1
                                  have hfz53_2 := blk_frozen BK186.out 2
                                  have hfz53_3 := blk_frozen BK186.out 3
                                  have hfz53_4 := blk_frozen BK186.out 4
                                  have hfz53_5 := blk_frozen BK186.out 5
                                  have hfz53_6 := blk_frozen BK186.out 6
                                  have hfz53_7 := blk_frozen BK186.out 7
                                  have hfz53_8 := blk_frozen BK186.out 8
                                  have p192 : 0 ≤ ((ji47) : Int) := of_decide_eq_true (by first | (with_reducible assumption) | assumption)
                                  have q192 : (ji47) < (l1_3.length : Int) := of_decide_eq_true (by first | (with_reducible assumption) | assumption)
                                  obtain ⟨ad192, e192, hx192_0⟩ := Kd.at_int HR1_3.out (ji47) p192 q192
                                  obtain rfl : ad190 = ad192 := (by injection e192)
                                  replace hx192_0 := (HB.out.cell (World.block_lt_of_cell? w _ hx192_0)).trans hx192_0
                                  replace p192 := eq_true p192
                                  replace q192 := eq_true q192
                                  have p193 : 0 ≤ (x6_3 : Int) := of_decide_eq_true (by first | (with_reducible assumption) | assumption)
                                  have q193 : x6_3 < (l1_3.length : Int) := of_decide_eq_true (by first | (with_reducible assumption) | assumption)
                                  obtain ⟨ad193, e193, hx193_0⟩ := Kd.at_int HR1_3.out x6_3 p193 q193
                                  obtain rfl : ad190 = ad193 := (by injection e193)
                                  replace hx193_0 := (HB.out.cell (World.block_lt_of_cell? w _ hx193_0)).trans hx193_0
                                  replace p193 := eq_true p193
                                  replace q193 := eq_true q193
                                  go_wp2
                                  repeat (go_quiet (fail); try go_wp2)
                                  go_ret
                                  exact ⟨by first | rfl | (simp [errW_none, errW_some] <;> rfl) | (simp only [← hji47]; first | rfl | (simp [errW_none, errW_some] <;> rfl)) | (simp [*, errW_none, errW_some] <;> rfl), by repeat (first | (with_reducible first | exact HB.out | apply below_alloc | apply pw_below_drewN | apply below_drew1 | refine below_set ?_ GE186.out | refine below_set ?_ GE187.out) | exact HB.out)⟩
                                · rw [if_neg c50] at H
                                  have c50b0 : decide ((rd l1_3 x6_3) ≤ (rd l1_3 (ji47))) = false := decide_eq_false c50
                                  clear c50
                                  have H' := Aside0.mk H
                                  clear H
                                  have hnb54 := NB187_186.out
                                  have hnc54 := NB186_187.out
                                  have hcz55_0 : wr.cell? ⟨gb187, 0, none⟩ = some (.int .i64 a1_0) := (blk_cell BK187.out 0).trans rfl
                                  have hcz55_1 : wr.cell? ⟨gb187, 1, none⟩ = some (.int .i64 a1_1) := (blk_cell BK187.out 1).trans rfl
                                  have hcz55_2 : wr.cell? ⟨gb187, 2, none⟩ = some (.slice A1_2 l1_2.length c1_2) := (blk_cell BK187.out 2).trans rfl
                                  have hcz55_3 : wr.cell? ⟨gb187, 3, none⟩ = some (.slice A1_3 l1_3.length c1_3) := (blk_cell BK187.out 3).trans rfl
                                  have hfz55_0 := blk_frozen BK187.out 0
                                  have hfz55_1 := blk_frozen BK187.out 1
                                  have hfz55_2 := blk_frozen BK187.out 2
                                  have hfz55_3 := blk_frozen BK187.out 3
                                  have p190 : 0 ≤ (x6_3 : Int) := of_decide_eq_true (by first | (with_reducible assumption) | assumption)
                                  have q190 : x6_3 < (l1_3.length : Int) := of_decide_eq_true (by first | (with_reducible assumption) | assumption)
                                  obtain ⟨ad190, e190, hx190_0⟩ := Kd.at_int HR1_3.out x6_3 p190 q190
                                  cases e190
                                  replace hx190_0 := (HB.out.cell (World.block_lt_of_cell? w _ hx190_0)).trans hx190_0
                                  replace p190 := eq_true p190
                                  replace q190 := eq_true q190
                                  have p191 : 0 ≤ (x6_3 : Int) := of_decide_eq_true (by first | (with_reducible assumption) | assumption)
                                  have q191 : x6_3 < (l1_3.length : Int) := of_decide_eq_true (by first | (with_reducible assumption) | assumption)
                                  obtain ⟨ad191, e191, hx191_0⟩ := Kd.at_int HR1_3.out x6_3 p191 q191
                                  obtain rfl : ad190 = ad191 := (by injection e191)
                                  replace hx191_0 := (HB.out.cell (World.block_lt_of_cell? w _ hx191_0)).trans hx191_0
                                  replace p191 := eq_true p191
                                  replace q191 := eq_true q191
                                  have hcz56_0 : wr.cell? ⟨gb186, 0, none⟩ = some (.slice A0_0 l0_0.length c0_0) := (blk_cell BK186.out 0).trans rfl
                                  have hcz56_1 : wr.cell? ⟨gb186, 1, none⟩ = some (.slice A0_1 l0_1.length c0_1) := (blk_cell BK186.out 1).trans rfl
                                  have hcz56_2 : wr.cell? ⟨gb186, 2, none⟩ = some (.slice A0_2 l0_2.length c0_2) := (blk_cell BK186.out 2).trans rfl
                                  have hcz56_3 : wr.cell? ⟨gb186, 3, none⟩ = some (.int .i64 a0_3) := (blk_cell BK186.out 3).trans rfl
                                  have hcz56_4 : wr.cell? ⟨gb186, 4, none⟩ = some (.int .i64 a0_4) := (blk_cell BK186.out 4).trans rfl
                                  have hcz56_5 : wr.cell? ⟨gb186, 5, none⟩ = some (.int .i64 a0_5) := (blk_cell BK186.out 5).trans rfl
                                  have hcz56_6 : wr.cell? ⟨gb186, 6, none⟩ = some (.int .i64 a0_6) := (blk_cell BK186.out 6).trans rfl
                                  have hcz56_7 : wr.cell? ⟨gb186, 7, none⟩ = some (.int .i64 a0_7) := (blk_cell BK186.out 7).trans rfl
                                  have hcz56_8 : wr.cell? ⟨gb186, 8, none⟩ = some (.int .i64 a0_8) := (blk_cell BK186.out 8).trans rfl
                                  have hfz56_0 := blk_frozen BK186.out 0
                                  have hfz56_1 := blk_frozen BK186.out 1
                                  have hfz56_2 := blk_frozen BK186.out 2
                                  have hfz56_3 := blk_frozen BK186.out 3
                                  have hfz56_4 := blk_frozen BK186.out 4
                                  have hfz56_5 := blk_frozen BK186.out 5
                                  have hfz56_6 := blk_frozen BK186.out 6
                                  have hfz56_7 := blk_frozen BK186.out 7
                                  have hfz56_8 := blk_frozen BK186.out 8
                                  have p192 : 0 ≤ ((ji47) : Int) := of_decide_eq_true (by first | (with_reducible assumption) | assumption)
                                  have q192 : (ji47) < (l1_3.length : Int) := of_decide_eq_true (by first | (with_reducible assumption) | assumption)
                                  obtain ⟨ad192, e192, hx192_0⟩ := Kd.at_int HR1_3.out (ji47) p192 q192
                                  obtain rfl : ad190 = ad192 := (by injection e192)
                                  replace hx192_0 := (HB.out.cell (World.block_lt_of_cell? w _ hx192_0)).trans hx192_0
                                  replace p192 := eq_true p192
                                  replace q192 := eq_true q192
                                  have p193 : 0 ≤ (x6_3 : Int) := of_decide_eq_true (by first | (with_reducible assumption) | assumption)
                                  have q193 : x6_3 < (l1_3.length : Int) := of_decide_eq_true (by first | (with_reducible assumption) | assumption)
                                  obtain ⟨ad193, e193, hx193_0⟩ := Kd.at_int HR1_3.out x6_3 p193 q193
                                  obtain rfl : ad190 = ad193 := (by injection e193)
                                  replace hx193_0 := (HB.out.cell (World.block_lt_of_cell? w _ hx193_0)).trans hx193_0
                                  replace p193 := eq_true p193
                                  replace q193 := eq_true q193
                                  go_wp2
                                  repeat (go_quiet (fail); try go_wp2)
                                  go_roundg k3
                                  case measure => have := HJ2.out; have := HK2.out; have := HK3.out; omega
                                  case rel => exact ⟨(wrap64 (x6_3 + 1)), (by first | rfl | (simp; done) | (simp [*]; done)), H', ⟨by have := HJ2.out; have := HK2.out; have := HK3.out; omega⟩, ⟨by (with_reducible repeat (first | refine blk_drewN ?_ _ | refine blk_drew ?_ | refine blk_alloc ?_ _)); exact BK186.out⟩, ⟨by (with_reducible repeat (first | refine blk_drewN ?_ _ | refine blk_drew ?_ | refine blk_alloc ?_ _)); exact BK187.out⟩, ⟨by repeat (first | (with_reducible first | exact HB.out | apply below_alloc | apply pw_below_drewN | apply below_drew1 | refine below_set ?_ GE186.out | refine below_set ?_ GE187.out) | exact HB.out)⟩⟩
                              · rw [if_neg c49] at H
                                exact absurd H (by simp)
                            · rw [if_neg c48] at H
                              exact absurd H (by simp)
                          · rw [if_neg c46] at H
                            have c46b0 : decide (0 < x6_3) = false := decide_eq_false c46
                            clear c46
                            have H' := Aside0.mk H
                            clear H
                            have hnb57 := NB187_186.out
                            have hnc57 := NB186_187.out
                            have hcz58_0 : wr.cell? ⟨gb187, 0, none⟩ = some (.int .i64 a1_0) := (blk_cell BK187.out 0).trans rfl
                            have hcz58_1 : wr.cell? ⟨gb187, 1, none⟩ = some (.int .i64 a1_1) := (blk_cell BK187.out 1).trans rfl
                            have hcz58_2 : wr.cell? ⟨gb187, 2, none⟩ = some (.slice A1_2 l1_2.length c1_2) := (blk_cell BK187.out 2).trans rfl
                            have hcz58_3 : wr.cell? ⟨gb187, 3, none⟩ = some (.slice A1_3 l1_3.length c1_3) := (blk_cell BK187.out 3).trans rfl
                            have hfz58_0 := blk_frozen BK187.out 0
                            have hfz58_1 := blk_frozen BK187.out 1
                            have hfz58_2 := blk_frozen BK187.out 2
                            have hfz58_3 := blk_frozen BK187.out 3
                            have p190 : 0 ≤ (x6_3 : Int) := of_decide_eq_true (by first | (with_reducible assumption) | assumption)
                            have q190 : x6_3 < (l1_3.length : Int) := of_decide_eq_true (by first | (with_reducible assumption) | assumption)
                            obtain ⟨ad190, e190, hx190_0⟩ := Kd.at_int HR1_3.out x6_3 p190 q190
                            cases e190
                            replace hx190_0 := (HB.out.cell (World.block_lt_of_cell? w _ hx190_0)).trans hx190_0
                            replace p190 := eq_true p190
                            replace q190 := eq_true q190
                            have p191 : 0 ≤ (x6_3 : Int) := of_decide_eq_true (by first | (with_reducible assumption) | assumption)
                            have q191 : x6_3 < (l1_3.length : Int) := of_decide_eq_true (by first | (with_reducible assumption) | assumption)
                            obtain ⟨ad191, e191, hx191_0⟩ := Kd.at_int HR1_3.out x6_3 p191 q191
                            obtain rfl : ad190 = ad191 := (by injection e191)
                            replace hx191_0 := (HB.out.cell (World.block_lt_of_cell? w _ hx191_0)).trans hx191_0
                            replace p191 := eq_true p191
                            replace q191 := eq_true q191
                            have hcz59_0 : wr.cell? ⟨gb186, 0, none⟩ = some (.slice A0_0 l0_0.length c0_0) := (blk_cell BK186.out 0).trans rfl
                            have hcz59_1 : wr.cell? ⟨gb186, 1, none⟩ = some (.slice A0_1 l0_1.length c0_1) := (blk_cell BK186.out 1).trans rfl
                            have hcz59_2 : wr.cell? ⟨gb186, 2, none⟩ = some (.slice A0_2 l0_2.length c0_2) := (blk_cell BK186.out 2).trans rfl
                            have hcz59_3 : wr.cell? ⟨gb186, 3, none⟩ = some (.int .i64 a0_3) := (blk_cell BK186.out 3).trans rfl
                            have hcz59_4 : wr.cell? ⟨gb186, 4, none⟩ = some (.int .i64 a0_4) := (blk_cell BK186.out 4).trans rfl
                            have hcz59_5 : wr.cell? ⟨gb186, 5, none⟩ = some (.int .i64 a0_5) := (blk_cell BK186.out 5).trans rfl
                            have hcz59_6 : wr.cell? ⟨gb186, 6, none⟩ = some (.int .i64 a0_6) := (blk_cell BK186.out 6).trans rfl
                            have hcz59_7 : wr.cell? ⟨gb186, 7, none⟩ = some (.int .i64 a0_7) := (blk_cell BK186.out 7).trans rfl
                            have hcz59_8 : wr.cell? ⟨gb186, 8, none⟩ = some (.int .i64 a0_8) := (blk_cell BK186.out 8).trans rfl
                            have hfz59_0 := blk_frozen BK186.out 0
                            have hfz59_1 := blk_frozen BK186.out 1
                            have hfz59_2 := blk_frozen BK186.out 2
                            have hfz59_3 := blk_frozen BK186.out 3
                            have hfz59_4 := blk_frozen BK186.out 4
                            have hfz59_5 := blk_frozen BK186.out 5
                            have hfz59_6 := blk_frozen BK186.out 6
                            have hfz59_7 := blk_frozen BK186.out 7
                            have hfz59_8 := blk_frozen BK186.out 8
                            go_wp2
                            repeat (go_quiet (fail); try go_wp2)
                            go_roundg k3
                            case measure => have := HJ2.out; have := HK2.out; have := HK3.out; omega
                            case rel => exact ⟨(wrap64 (x6_3 + 1)), (by first | rfl | (simp; done) | (simp [*]; done)), H', ⟨by have := HJ2.out; have := HK2.out; have := HK3.out; omega⟩, ⟨by (with_reducible repeat (first | refine blk_drewN ?_ _ | refine blk_drew ?_ | refine blk_alloc ?_ _)); exact BK186.out⟩, ⟨by (with_reducible repeat (first | refine blk_drewN ?_ _ | refine blk_drew ?_ | refine blk_alloc ?_ _)); exact BK187.out⟩, ⟨by repeat (first | (with_reducible first | exact HB.out | apply below_alloc | apply pw_below_drewN | apply below_drew1 | refine below_set ?_ GE186.out | refine below_set ?_ GE187.out) | exact HB.out)⟩⟩
                    · rw [if_neg c38] at H
                      exact absurd H (by simp)
                  · rw [if_neg c37] at H
                    have c37b0 : decide (x6_3 < (l1_3.length : Int)) = false := decide_eq_false c37
                    clear c37
                    obtain rfl := Option.some.inj H
                    have hnb60 := NB187_186.out
                    have hnc60 := NB186_187.out
                    have hcz61_0 : wr.cell? ⟨gb187, 0, none⟩ = some (.int .i64 a1_0) := (blk_cell BK187.out 0).trans rfl
                    have hcz61_1 : wr.cell? ⟨gb187, 1, none⟩ = some (.int .i64 a1_1) := (blk_cell BK187.out 1).trans rfl
                    have hcz61_2 : wr.cell? ⟨gb187, 2, none⟩ = some (.slice A1_2 l1_2.length c1_2) := (blk_cell BK187.out 2).trans rfl
                    have hcz61_3 : wr.cell? ⟨gb187, 3, none⟩ = some (.slice A1_3 l1_3.length c1_3) := (blk_cell BK187.out 3).trans rfl
                    have hfz61_0 := blk_frozen BK187.out 0
                    have hfz61_1 := blk_frozen BK187.out 1
                    have hfz61_2 := blk_frozen BK187.out 2
                    have hfz61_3 := blk_frozen BK187.out 3
                    go_wp2
                    repeat (go_quiet (fail); try go_wp2)
                    go_ret
                    exact ⟨by first | rfl | (simp [errW_none, errW_some] <;> rfl) | (simp [*, errW_none, errW_some] <;> rfl), by repeat (first | (with_reducible first | exact HB.out | apply below_alloc | apply pw_below_drewN | apply below_drew1 | refine below_set ?_ GE186.out | refine below_set ?_ GE187.out) | exact HB.out)⟩

end Go.Proofs.Ytdjmcjfdkcckoaa.F
