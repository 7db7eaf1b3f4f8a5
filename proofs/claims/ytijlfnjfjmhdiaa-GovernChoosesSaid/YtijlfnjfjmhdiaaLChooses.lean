/- How fast any job runs, by any policy, with any time left over: as the document says. Conditions: none. -/
import Derived.Test.YtijlfnjfjmhdiaaLaw16
import Derived.Deep.RegionHeld3
namespace Go.Proofs.Ytijlfnjfjmhdiaa.Law
open Go.RowKit Go.Proofs.Ytijlfnjfjmhdiaa.F Go.Proofs.Ytijlfnjfjmhdiaa.Tbl Go.Proofs.Ytijlfnjfjmhdiaa.Gov Go.Proofs.Ytijlfnjfjmhdiaa.Opn Go.Proofs.YtijlfnjfjmhdiaaW.PrintWords Go.Proofs.YtijlfnjfjmhdiaaW.PrintLast Go.Proofs.YtijlfnjfjmhdiaaW.PrintMore
attribute [local go_sem] max2_int min2_int max_two min_two max_three min_three max_four min_four

set_option maxHeartbeats 3200000 in
set_option maxRecDepth 100000 in
theorem chooses_calls {w : World} (x : Plat) (cs : List Value) (h : kPlat.K w x cs) (_ok : True) (y : Ask) (cs1 : List Value) (h1 : kAsk.K w y cs1) (ok1 : (Lit.int .i64 y.2.2.2.1).wf = true) :
    Calls Try.prog 4 #[.agg cs.toArray, .agg cs1.toArray] w fun e w' => e = .returned (.bool true) ∧ Below w.heap.size w w' := by
  obtain ⟨A0, c0, A1, c1, A2, c2, rfl, ⟨g0, r0⟩, ⟨g1, r1⟩, ⟨g2, r2⟩⟩ := plat_open h
  obtain rfl := ask_open h1
  clear h h1
  obtain ⟨l0, l1, l2, idle, crit, sw, swE, sems, hor⟩ := x
  obtain ⟨policy, static, left, slack, level⟩ := y
  dsimp only at *
  have R0 := Aside0.mk r0
  have R1 := Aside0.mk r1
  have R2 := Aside0.mk r2
  have G0 := Aside0.mk g0
  have G1 := Aside0.mk g1
  have G2 := Aside0.mk g2
  clear r0 r1 r2 g0 g1 g2
  by_cases hg : Good l0 l1 l2 idle crit sw swE sems hor left
  · have HG := Aside0.mk hg
    obtain ⟨ht, hl0, hl1⟩ := hg
    have HT := Aside0.mk ht
    have L0 := Aside0.mk hl0
    have L1 := Aside0.mk hl1
    clear ht hl0 hl1
    go_enter Try.func4, Try.ntmps4
    go_wp2_with fail
    generalize hbx0 : w.alloc (.cells #[.slice A0 l0.length c0, .slice A1 l1.length c1, .slice A2 l2.length c2, .int .i64 idle, .int .i64 crit, .int .i64 sw, .int .i64 swE, .int .i64 sems, .int .i64 hor] 38 (0, 0)) = wb0
    have hsz0 : wb0.heap.size = w.heap.size + 1 := by rw [← hbx0]; simp
    have hbw0 : Below w.heap.size w wb0 := by rw [← hbx0]; exact (Below.refl _ _).alloc (Nat.le_refl _) _
    have hbk0 : wb0.heap[w.heap.size]? = some (.cells #[.slice A0 l0.length c0, .slice A1 l1.length c1, .slice A2 l2.length c2, .int .i64 idle, .int .i64 crit, .int .i64 sw, .int .i64 swE, .int .i64 sems, .int .i64 hor] 38 (0, 0)) := by rw [← hbx0]; exact heap_alloc_new _ _
    generalize hbx1 : wb0.alloc (.cells #[.int .i64 policy, .int .i64 static, .int .i64 left, .int .i64 slack, .int .i64 level] 40 (0, 0)) = wb1
    have hsz1 : wb1.heap.size = w.heap.size + 2 := by rw [← hbx1]; simp [hsz0]
    have hbw1 : Below wb0.heap.size wb0 wb1 := by rw [← hbx1]; exact (Below.refl _ _).alloc (Nat.le_refl _) _
    have hbk1 : wb1.heap[w.heap.size + 1]? = some (.cells #[.int .i64 policy, .int .i64 static, .int .i64 left, .int .i64 slack, .int .i64 level] 40 (0, 0)) := by rw [← hsz0, ← hbx1]; exact heap_alloc_new _ _
    have BP : Aside0 (wb1.heap[w.heap.size]? = some (.cells #[.slice A0 l0.length c0, .slice A1 l1.length c1, .slice A2 l2.length c2, .int .i64 idle, .int .i64 crit, .int .i64 sw, .int .i64 swE, .int .i64 sems, .int .i64 hor] 38 (0, 0))) := ⟨(blk_below hbk0 hbw1)⟩
    have BA : Aside0 (wb1.heap[w.heap.size + 1]? = some (.cells #[.int .i64 policy, .int .i64 static, .int .i64 left, .int .i64 slack, .int .i64 level] 40 (0, 0))) := ⟨hbk1⟩
    have HB : Aside0 (Below w.heap.size w wb1) := ⟨(below_step hbw0 hbw1)⟩
    replace R0 : Aside0 (Kd.C k45 wb1 A0 l0.length l0) := ⟨Kd.C_below R0.out HB.out⟩
    replace R1 : Aside0 (Kd.C k59 wb1 A1 l1.length l1) := ⟨Kd.C_below R1.out HB.out⟩
    replace R2 : Aside0 (Kd.C k62 wb1 A2 l2.length l2) := ⟨Kd.C_below R2.out HB.out⟩
    clear hbx1 hbw1 hbk1 hbx0 hbw0 hbk0 hsz1 hsz0
    generalize wb1 = w0 at *
    refine (dormouselaw16_good.calls 1 A0 c0 l0 A1 c1 l1 A2 c2 l2 _ _ _ _ _ _ _ _ _ _ _ true _ R0.out G0.out R1.out G1.out R2.out G2.out (good_yes HG.out _ _ _ _)).mono ?_; rintro e w1 ⟨rfl, hb⟩
    replace R0 : Aside0 (Kd.C k45 w1 A0 l0.length l0) := ⟨Kd.C_below R0.out hb⟩
    replace R1 : Aside0 (Kd.C k59 w1 A1 l1.length l1) := ⟨Kd.C_below R1.out hb⟩
    replace R2 : Aside0 (Kd.C k62 w1 A2 l2.length l2) := ⟨Kd.C_below R2.out hb⟩
    replace BP : Aside0 (w1.heap[w.heap.size]? = some (.cells #[.slice A0 l0.length c0, .slice A1 l1.length c1, .slice A2 l2.length c2, .int .i64 idle, .int .i64 crit, .int .i64 sw, .int .i64 swE, .int .i64 sems, .int .i64 hor] 38 (0, 0))) := ⟨blk_below BP.out hb⟩
    replace BA : Aside0 (w1.heap[w.heap.size + 1]? = some (.cells #[.int .i64 policy, .int .i64 static, .int .i64 left, .int .i64 slack, .int .i64 level] 40 (0, 0))) := ⟨blk_below BA.out hb⟩
    replace HB : Aside0 (Below w.heap.size w w1) := ⟨below_step HB.out hb⟩
    clear hb
    have x_BP_0 : w1.cell? ⟨w.heap.size, 0, none⟩ = some (.slice A0 l0.length c0) := (blk_cell BP.out 0).trans rfl
    have x_BP_1 : w1.cell? ⟨w.heap.size, 1, none⟩ = some (.slice A1 l1.length c1) := (blk_cell BP.out 1).trans rfl
    have x_BP_2 : w1.cell? ⟨w.heap.size, 2, none⟩ = some (.slice A2 l2.length c2) := (blk_cell BP.out 2).trans rfl
    have x_BP_3 : w1.cell? ⟨w.heap.size, 3, none⟩ = some (.int .i64 idle) := (blk_cell BP.out 3).trans rfl
    have x_BP_4 : w1.cell? ⟨w.heap.size, 4, none⟩ = some (.int .i64 crit) := (blk_cell BP.out 4).trans rfl
    have x_BP_5 : w1.cell? ⟨w.heap.size, 5, none⟩ = some (.int .i64 sw) := (blk_cell BP.out 5).trans rfl
    have x_BP_6 : w1.cell? ⟨w.heap.size, 6, none⟩ = some (.int .i64 swE) := (blk_cell BP.out 6).trans rfl
    have x_BP_7 : w1.cell? ⟨w.heap.size, 7, none⟩ = some (.int .i64 sems) := (blk_cell BP.out 7).trans rfl
    have x_BP_8 : w1.cell? ⟨w.heap.size, 8, none⟩ = some (.int .i64 hor) := (blk_cell BP.out 8).trans rfl
    have x_BA_0 : w1.cell? ⟨w.heap.size + 1, 0, none⟩ = some (.int .i64 policy) := (blk_cell BA.out 0).trans rfl
    have x_BA_1 : w1.cell? ⟨w.heap.size + 1, 1, none⟩ = some (.int .i64 static) := (blk_cell BA.out 1).trans rfl
    have x_BA_2 : w1.cell? ⟨w.heap.size + 1, 2, none⟩ = some (.int .i64 left) := (blk_cell BA.out 2).trans rfl
    have x_BA_3 : w1.cell? ⟨w.heap.size + 1, 3, none⟩ = some (.int .i64 slack) := (blk_cell BA.out 3).trans rfl
    have x_BA_4 : w1.cell? ⟨w.heap.size + 1, 4, none⟩ = some (.int .i64 level) := (blk_cell BA.out 4).trans rfl
    try go_wp2_with fail
    go_region_held3 (fun w' => w'.cell? ⟨w.heap.size, 0, none⟩ = some (.slice A0 l0.length c0) ∧ w'.cell? ⟨w.heap.size, 1, none⟩ = some (.slice A1 l1.length c1) ∧ w'.cell? ⟨w.heap.size, 2, none⟩ = some (.slice A2 l2.length c2) ∧ w'.cell? ⟨w.heap.size, 3, none⟩ = some (.int .i64 idle) ∧ w'.cell? ⟨w.heap.size, 4, none⟩ = some (.int .i64 crit) ∧ w'.cell? ⟨w.heap.size, 5, none⟩ = some (.int .i64 sw) ∧ w'.cell? ⟨w.heap.size, 6, none⟩ = some (.int .i64 swE) ∧ w'.cell? ⟨w.heap.size, 7, none⟩ = some (.int .i64 sems) ∧ w'.cell? ⟨w.heap.size, 8, none⟩ = some (.int .i64 hor) ∧ w'.cell? ⟨w.heap.size + 1, 0, none⟩ = some (.int .i64 policy) ∧ w'.cell? ⟨w.heap.size + 1, 1, none⟩ = some (.int .i64 static) ∧ w'.cell? ⟨w.heap.size + 1, 2, none⟩ = some (.int .i64 left) ∧ w'.cell? ⟨w.heap.size + 1, 3, none⟩ = some (.int .i64 slack) ∧ w'.cell? ⟨w.heap.size + 1, 4, none⟩ = some (.int .i64 level)) (first | exact ⟨x_BP_0, x_BP_1, x_BP_2, x_BP_3, x_BP_4, x_BP_5, x_BP_6, x_BP_7, x_BP_8, x_BA_0, x_BA_1, x_BA_2, x_BA_3, x_BA_4⟩)
      (first
        | (go_at_call 15; (with_reducible refine (Ans.answers_calls _).mono ?_); rintro e w2 ⟨rfl, hb⟩; replace hb := below_undrew hb; replace R0 : Aside0 (Kd.C k45 w2 A0 l0.length l0) := ⟨Kd.C_below R0.out hb⟩; replace R1 : Aside0 (Kd.C k59 w2 A1 l1.length l1) := ⟨Kd.C_below R1.out hb⟩; replace R2 : Aside0 (Kd.C k62 w2 A2 l2.length l2) := ⟨Kd.C_below R2.out hb⟩; replace BP : Aside0 (w2.heap[w.heap.size]? = some (.cells #[.slice A0 l0.length c0, .slice A1 l1.length c1, .slice A2 l2.length c2, .int .i64 idle, .int .i64 crit, .int .i64 sw, .int .i64 swE, .int .i64 sems, .int .i64 hor] 38 (0, 0))) := ⟨blk_below BP.out hb⟩; replace BA : Aside0 (w2.heap[w.heap.size + 1]? = some (.cells #[.int .i64 policy, .int .i64 static, .int .i64 left, .int .i64 slack, .int .i64 level] 40 (0, 0))) := ⟨blk_below BA.out hb⟩; replace HB : Aside0 (Below w.heap.size w w2) := ⟨below_step HB.out hb⟩; clear hb x_BP_0 x_BP_1 x_BP_2 x_BP_3 x_BP_4 x_BP_5 x_BP_6 x_BP_7 x_BP_8 x_BA_0 x_BA_1 x_BA_2 x_BA_3 x_BA_4; have x_BP_0 : w2.cell? ⟨w.heap.size, 0, none⟩ = some (.slice A0 l0.length c0) := (blk_cell BP.out 0).trans rfl; have x_BP_1 : w2.cell? ⟨w.heap.size, 1, none⟩ = some (.slice A1 l1.length c1) := (blk_cell BP.out 1).trans rfl; have x_BP_2 : w2.cell? ⟨w.heap.size, 2, none⟩ = some (.slice A2 l2.length c2) := (blk_cell BP.out 2).trans rfl; have x_BP_3 : w2.cell? ⟨w.heap.size, 3, none⟩ = some (.int .i64 idle) := (blk_cell BP.out 3).trans rfl; have x_BP_4 : w2.cell? ⟨w.heap.size, 4, none⟩ = some (.int .i64 crit) := (blk_cell BP.out 4).trans rfl; have x_BP_5 : w2.cell? ⟨w.heap.size, 5, none⟩ = some (.int .i64 sw) := (blk_cell BP.out 5).trans rfl; have x_BP_6 : w2.cell? ⟨w.heap.size, 6, none⟩ = some (.int .i64 swE) := (blk_cell BP.out 6).trans rfl; have x_BP_7 : w2.cell? ⟨w.heap.size, 7, none⟩ = some (.int .i64 sems) := (blk_cell BP.out 7).trans rfl; have x_BP_8 : w2.cell? ⟨w.heap.size, 8, none⟩ = some (.int .i64 hor) := (blk_cell BP.out 8).trans rfl; have x_BA_0 : w2.cell? ⟨w.heap.size + 1, 0, none⟩ = some (.int .i64 policy) := (blk_cell BA.out 0).trans rfl; have x_BA_1 : w2.cell? ⟨w.heap.size + 1, 1, none⟩ = some (.int .i64 static) := (blk_cell BA.out 1).trans rfl; have x_BA_2 : w2.cell? ⟨w.heap.size + 1, 2, none⟩ = some (.int .i64 left) := (blk_cell BA.out 2).trans rfl; have x_BA_3 : w2.cell? ⟨w.heap.size + 1, 3, none⟩ = some (.int .i64 slack) := (blk_cell BA.out 3).trans rfl; have x_BA_4 : w2.cell? ⟨w.heap.size + 1, 4, none⟩ = some (.int .i64 level) := (blk_cell BA.out 4).trans rfl)
        | (go_at_call 16; (with_reducible refine (dormouselaw16_choose.calls 10 A0 c0 l0 A1 c1 l1 A2 c2 l2 _ _ _ _ _ _ _ _ _ _ _ _ _ R0.out G0.out R1.out G1.out R2.out G2.out (choose_some HT.out policy static L0.out L1.out)).mono ?_); rintro e w3 ⟨rfl, hb⟩; replace R0 : Aside0 (Kd.C k45 w3 A0 l0.length l0) := ⟨Kd.C_below R0.out hb⟩; replace R1 : Aside0 (Kd.C k59 w3 A1 l1.length l1) := ⟨Kd.C_below R1.out hb⟩; replace R2 : Aside0 (Kd.C k62 w3 A2 l2.length l2) := ⟨Kd.C_below R2.out hb⟩; replace BP : Aside0 (w3.heap[w.heap.size]? = some (.cells #[.slice A0 l0.length c0, .slice A1 l1.length c1, .slice A2 l2.length c2, .int .i64 idle, .int .i64 crit, .int .i64 sw, .int .i64 swE, .int .i64 sems, .int .i64 hor] 38 (0, 0))) := ⟨blk_below BP.out hb⟩; replace BA : Aside0 (w3.heap[w.heap.size + 1]? = some (.cells #[.int .i64 policy, .int .i64 static, .int .i64 left, .int .i64 slack, .int .i64 level] 40 (0, 0))) := ⟨blk_below BA.out hb⟩; replace HB : Aside0 (Below w.heap.size w w3) := ⟨below_step HB.out hb⟩; clear hb x_BP_0 x_BP_1 x_BP_2 x_BP_3 x_BP_4 x_BP_5 x_BP_6 x_BP_7 x_BP_8 x_BA_0 x_BA_1 x_BA_2 x_BA_3 x_BA_4; have x_BP_0 : w3.cell? ⟨w.heap.size, 0, none⟩ = some (.slice A0 l0.length c0) := (blk_cell BP.out 0).trans rfl; have x_BP_1 : w3.cell? ⟨w.heap.size, 1, none⟩ = some (.slice A1 l1.length c1) := (blk_cell BP.out 1).trans rfl; have x_BP_2 : w3.cell? ⟨w.heap.size, 2, none⟩ = some (.slice A2 l2.length c2) := (blk_cell BP.out 2).trans rfl; have x_BP_3 : w3.cell? ⟨w.heap.size, 3, none⟩ = some (.int .i64 idle) := (blk_cell BP.out 3).trans rfl; have x_BP_4 : w3.cell? ⟨w.heap.size, 4, none⟩ = some (.int .i64 crit) := (blk_cell BP.out 4).trans rfl; have x_BP_5 : w3.cell? ⟨w.heap.size, 5, none⟩ = some (.int .i64 sw) := (blk_cell BP.out 5).trans rfl; have x_BP_6 : w3.cell? ⟨w.heap.size, 6, none⟩ = some (.int .i64 swE) := (blk_cell BP.out 6).trans rfl; have x_BP_7 : w3.cell? ⟨w.heap.size, 7, none⟩ = some (.int .i64 sems) := (blk_cell BP.out 7).trans rfl; have x_BP_8 : w3.cell? ⟨w.heap.size, 8, none⟩ = some (.int .i64 hor) := (blk_cell BP.out 8).trans rfl; have x_BA_0 : w3.cell? ⟨w.heap.size + 1, 0, none⟩ = some (.int .i64 policy) := (blk_cell BA.out 0).trans rfl; have x_BA_1 : w3.cell? ⟨w.heap.size + 1, 1, none⟩ = some (.int .i64 static) := (blk_cell BA.out 1).trans rfl; have x_BA_2 : w3.cell? ⟨w.heap.size + 1, 2, none⟩ = some (.int .i64 left) := (blk_cell BA.out 2).trans rfl; have x_BA_3 : w3.cell? ⟨w.heap.size + 1, 3, none⟩ = some (.int .i64 slack) := (blk_cell BA.out 3).trans rfl; have x_BA_4 : w3.cell? ⟨w.heap.size + 1, 4, none⟩ = some (.int .i64 level) := (blk_cell BA.out 4).trans rfl)
        | (go_at_call 17; (with_reducible refine (dormouseref09_Fast.calls 20 A0 c0 l0 A1 c1 l1 A2 c2 l2 _ _ _ _ _ _ _ _ _ _ _ _ _ R0.out G0.out R1.out G1.out R2.out G2.out (ref_some HT.out policy static L0.out L1.out)).mono ?_); rintro e w4 ⟨rfl, hb⟩; replace R0 : Aside0 (Kd.C k45 w4 A0 l0.length l0) := ⟨Kd.C_below R0.out hb⟩; replace R1 : Aside0 (Kd.C k59 w4 A1 l1.length l1) := ⟨Kd.C_below R1.out hb⟩; replace R2 : Aside0 (Kd.C k62 w4 A2 l2.length l2) := ⟨Kd.C_below R2.out hb⟩; replace BP : Aside0 (w4.heap[w.heap.size]? = some (.cells #[.slice A0 l0.length c0, .slice A1 l1.length c1, .slice A2 l2.length c2, .int .i64 idle, .int .i64 crit, .int .i64 sw, .int .i64 swE, .int .i64 sems, .int .i64 hor] 38 (0, 0))) := ⟨blk_below BP.out hb⟩; replace BA : Aside0 (w4.heap[w.heap.size + 1]? = some (.cells #[.int .i64 policy, .int .i64 static, .int .i64 left, .int .i64 slack, .int .i64 level] 40 (0, 0))) := ⟨blk_below BA.out hb⟩; replace HB : Aside0 (Below w.heap.size w w4) := ⟨below_step HB.out hb⟩; clear hb x_BP_0 x_BP_1 x_BP_2 x_BP_3 x_BP_4 x_BP_5 x_BP_6 x_BP_7 x_BP_8 x_BA_0 x_BA_1 x_BA_2 x_BA_3 x_BA_4; have x_BP_0 : w4.cell? ⟨w.heap.size, 0, none⟩ = some (.slice A0 l0.length c0) := (blk_cell BP.out 0).trans rfl; have x_BP_1 : w4.cell? ⟨w.heap.size, 1, none⟩ = some (.slice A1 l1.length c1) := (blk_cell BP.out 1).trans rfl; have x_BP_2 : w4.cell? ⟨w.heap.size, 2, none⟩ = some (.slice A2 l2.length c2) := (blk_cell BP.out 2).trans rfl; have x_BP_3 : w4.cell? ⟨w.heap.size, 3, none⟩ = some (.int .i64 idle) := (blk_cell BP.out 3).trans rfl; have x_BP_4 : w4.cell? ⟨w.heap.size, 4, none⟩ = some (.int .i64 crit) := (blk_cell BP.out 4).trans rfl; have x_BP_5 : w4.cell? ⟨w.heap.size, 5, none⟩ = some (.int .i64 sw) := (blk_cell BP.out 5).trans rfl; have x_BP_6 : w4.cell? ⟨w.heap.size, 6, none⟩ = some (.int .i64 swE) := (blk_cell BP.out 6).trans rfl; have x_BP_7 : w4.cell? ⟨w.heap.size, 7, none⟩ = some (.int .i64 sems) := (blk_cell BP.out 7).trans rfl; have x_BP_8 : w4.cell? ⟨w.heap.size, 8, none⟩ = some (.int .i64 hor) := (blk_cell BP.out 8).trans rfl; have x_BA_0 : w4.cell? ⟨w.heap.size + 1, 0, none⟩ = some (.int .i64 policy) := (blk_cell BA.out 0).trans rfl; have x_BA_1 : w4.cell? ⟨w.heap.size + 1, 1, none⟩ = some (.int .i64 static) := (blk_cell BA.out 1).trans rfl; have x_BA_2 : w4.cell? ⟨w.heap.size + 1, 2, none⟩ = some (.int .i64 left) := (blk_cell BA.out 2).trans rfl; have x_BA_3 : w4.cell? ⟨w.heap.size + 1, 3, none⟩ = some (.int .i64 slack) := (blk_cell BA.out 3).trans rfl; have x_BA_4 : w4.cell? ⟨w.heap.size + 1, 4, none⟩ = some (.int .i64 level) := (blk_cell BA.out 4).trans rfl))
    clear x_BP_0 x_BP_1 x_BP_2 x_BP_3 x_BP_4 x_BP_5 x_BP_6 x_BP_7 x_BP_8 x_BA_0 x_BA_1 x_BA_2 x_BA_3 x_BA_4
    have x_BP_0 : w4.cell? ⟨w.heap.size, 0, none⟩ = some (.slice A0 l0.length c0) := (blk_cell BP.out 0).trans rfl
    have x_BP_1 : w4.cell? ⟨w.heap.size, 1, none⟩ = some (.slice A1 l1.length c1) := (blk_cell BP.out 1).trans rfl
    have x_BP_2 : w4.cell? ⟨w.heap.size, 2, none⟩ = some (.slice A2 l2.length c2) := (blk_cell BP.out 2).trans rfl
    have x_BP_3 : w4.cell? ⟨w.heap.size, 3, none⟩ = some (.int .i64 idle) := (blk_cell BP.out 3).trans rfl
    have x_BP_4 : w4.cell? ⟨w.heap.size, 4, none⟩ = some (.int .i64 crit) := (blk_cell BP.out 4).trans rfl
    have x_BP_5 : w4.cell? ⟨w.heap.size, 5, none⟩ = some (.int .i64 sw) := (blk_cell BP.out 5).trans rfl
    have x_BP_6 : w4.cell? ⟨w.heap.size, 6, none⟩ = some (.int .i64 swE) := (blk_cell BP.out 6).trans rfl
    have x_BP_7 : w4.cell? ⟨w.heap.size, 7, none⟩ = some (.int .i64 sems) := (blk_cell BP.out 7).trans rfl
    have x_BP_8 : w4.cell? ⟨w.heap.size, 8, none⟩ = some (.int .i64 hor) := (blk_cell BP.out 8).trans rfl
    have x_BA_0 : w4.cell? ⟨w.heap.size + 1, 0, none⟩ = some (.int .i64 policy) := (blk_cell BA.out 0).trans rfl
    have x_BA_1 : w4.cell? ⟨w.heap.size + 1, 1, none⟩ = some (.int .i64 static) := (blk_cell BA.out 1).trans rfl
    have x_BA_2 : w4.cell? ⟨w.heap.size + 1, 2, none⟩ = some (.int .i64 left) := (blk_cell BA.out 2).trans rfl
    have x_BA_3 : w4.cell? ⟨w.heap.size + 1, 3, none⟩ = some (.int .i64 slack) := (blk_cell BA.out 3).trans rfl
    have x_BA_4 : w4.cell? ⟨w.heap.size + 1, 4, none⟩ = some (.int .i64 level) := (blk_cell BA.out 4).trans rfl
    go_wp2_with fail
    try go_wp2_with fail
    clear x_BP_0 x_BP_1 x_BP_2 x_BP_3 x_BP_4 x_BP_5 x_BP_6 x_BP_7 x_BP_8 x_BA_0 x_BA_1 x_BA_2 x_BA_3 x_BA_4
    go_ret
    exact ⟨by simp, HB.out⟩
  · have HG := Aside0.mk hg
    clear hg
    go_enter Try.func4, Try.ntmps4
    go_wp2_with fail
    generalize hbx0 : w.alloc (.cells #[.slice A0 l0.length c0, .slice A1 l1.length c1, .slice A2 l2.length c2, .int .i64 idle, .int .i64 crit, .int .i64 sw, .int .i64 swE, .int .i64 sems, .int .i64 hor] 38 (0, 0)) = wb0
    have hsz0 : wb0.heap.size = w.heap.size + 1 := by rw [← hbx0]; simp
    have hbw0 : Below w.heap.size w wb0 := by rw [← hbx0]; exact (Below.refl _ _).alloc (Nat.le_refl _) _
    have hbk0 : wb0.heap[w.heap.size]? = some (.cells #[.slice A0 l0.length c0, .slice A1 l1.length c1, .slice A2 l2.length c2, .int .i64 idle, .int .i64 crit, .int .i64 sw, .int .i64 swE, .int .i64 sems, .int .i64 hor] 38 (0, 0)) := by rw [← hbx0]; exact heap_alloc_new _ _
    generalize hbx1 : wb0.alloc (.cells #[.int .i64 policy, .int .i64 static, .int .i64 left, .int .i64 slack, .int .i64 level] 40 (0, 0)) = wb1
    have hsz1 : wb1.heap.size = w.heap.size + 2 := by rw [← hbx1]; simp [hsz0]
    have hbw1 : Below wb0.heap.size wb0 wb1 := by rw [← hbx1]; exact (Below.refl _ _).alloc (Nat.le_refl _) _
    have hbk1 : wb1.heap[w.heap.size + 1]? = some (.cells #[.int .i64 policy, .int .i64 static, .int .i64 left, .int .i64 slack, .int .i64 level] 40 (0, 0)) := by rw [← hsz0, ← hbx1]; exact heap_alloc_new _ _
    have BP : Aside0 (wb1.heap[w.heap.size]? = some (.cells #[.slice A0 l0.length c0, .slice A1 l1.length c1, .slice A2 l2.length c2, .int .i64 idle, .int .i64 crit, .int .i64 sw, .int .i64 swE, .int .i64 sems, .int .i64 hor] 38 (0, 0))) := ⟨(blk_below hbk0 hbw1)⟩
    have BA : Aside0 (wb1.heap[w.heap.size + 1]? = some (.cells #[.int .i64 policy, .int .i64 static, .int .i64 left, .int .i64 slack, .int .i64 level] 40 (0, 0))) := ⟨hbk1⟩
    have HB : Aside0 (Below w.heap.size w wb1) := ⟨(below_step hbw0 hbw1)⟩
    replace R0 : Aside0 (Kd.C k45 wb1 A0 l0.length l0) := ⟨Kd.C_below R0.out HB.out⟩
    replace R1 : Aside0 (Kd.C k59 wb1 A1 l1.length l1) := ⟨Kd.C_below R1.out HB.out⟩
    replace R2 : Aside0 (Kd.C k62 wb1 A2 l2.length l2) := ⟨Kd.C_below R2.out HB.out⟩
    clear hbx1 hbw1 hbk1 hbx0 hbw0 hbk0 hsz1 hsz0
    generalize wb1 = w0 at *
    refine (dormouselaw16_good.calls 1 A0 c0 l0 A1 c1 l1 A2 c2 l2 _ _ _ _ _ _ _ _ _ _ _ false _ R0.out G0.out R1.out G1.out R2.out G2.out (good_no HG.out _ _ _ _)).mono ?_; rintro e w1 ⟨rfl, hb⟩
    replace R0 : Aside0 (Kd.C k45 w1 A0 l0.length l0) := ⟨Kd.C_below R0.out hb⟩
    replace R1 : Aside0 (Kd.C k59 w1 A1 l1.length l1) := ⟨Kd.C_below R1.out hb⟩
    replace R2 : Aside0 (Kd.C k62 w1 A2 l2.length l2) := ⟨Kd.C_below R2.out hb⟩
    replace BP : Aside0 (w1.heap[w.heap.size]? = some (.cells #[.slice A0 l0.length c0, .slice A1 l1.length c1, .slice A2 l2.length c2, .int .i64 idle, .int .i64 crit, .int .i64 sw, .int .i64 swE, .int .i64 sems, .int .i64 hor] 38 (0, 0))) := ⟨blk_below BP.out hb⟩
    replace BA : Aside0 (w1.heap[w.heap.size + 1]? = some (.cells #[.int .i64 policy, .int .i64 static, .int .i64 left, .int .i64 slack, .int .i64 level] 40 (0, 0))) := ⟨blk_below BA.out hb⟩
    replace HB : Aside0 (Below w.heap.size w w1) := ⟨below_step HB.out hb⟩
    clear hb
    have x_BP_0 : w1.cell? ⟨w.heap.size, 0, none⟩ = some (.slice A0 l0.length c0) := (blk_cell BP.out 0).trans rfl
    have x_BP_1 : w1.cell? ⟨w.heap.size, 1, none⟩ = some (.slice A1 l1.length c1) := (blk_cell BP.out 1).trans rfl
    have x_BP_2 : w1.cell? ⟨w.heap.size, 2, none⟩ = some (.slice A2 l2.length c2) := (blk_cell BP.out 2).trans rfl
    have x_BP_3 : w1.cell? ⟨w.heap.size, 3, none⟩ = some (.int .i64 idle) := (blk_cell BP.out 3).trans rfl
    have x_BP_4 : w1.cell? ⟨w.heap.size, 4, none⟩ = some (.int .i64 crit) := (blk_cell BP.out 4).trans rfl
    have x_BP_5 : w1.cell? ⟨w.heap.size, 5, none⟩ = some (.int .i64 sw) := (blk_cell BP.out 5).trans rfl
    have x_BP_6 : w1.cell? ⟨w.heap.size, 6, none⟩ = some (.int .i64 swE) := (blk_cell BP.out 6).trans rfl
    have x_BP_7 : w1.cell? ⟨w.heap.size, 7, none⟩ = some (.int .i64 sems) := (blk_cell BP.out 7).trans rfl
    have x_BP_8 : w1.cell? ⟨w.heap.size, 8, none⟩ = some (.int .i64 hor) := (blk_cell BP.out 8).trans rfl
    have x_BA_0 : w1.cell? ⟨w.heap.size + 1, 0, none⟩ = some (.int .i64 policy) := (blk_cell BA.out 0).trans rfl
    have x_BA_1 : w1.cell? ⟨w.heap.size + 1, 1, none⟩ = some (.int .i64 static) := (blk_cell BA.out 1).trans rfl
    have x_BA_2 : w1.cell? ⟨w.heap.size + 1, 2, none⟩ = some (.int .i64 left) := (blk_cell BA.out 2).trans rfl
    have x_BA_3 : w1.cell? ⟨w.heap.size + 1, 3, none⟩ = some (.int .i64 slack) := (blk_cell BA.out 3).trans rfl
    have x_BA_4 : w1.cell? ⟨w.heap.size + 1, 4, none⟩ = some (.int .i64 level) := (blk_cell BA.out 4).trans rfl
    go_wp2_with fail
    try go_wp2_with fail
    clear x_BP_0 x_BP_1 x_BP_2 x_BP_3 x_BP_4 x_BP_5 x_BP_6 x_BP_7 x_BP_8 x_BA_0 x_BA_1 x_BA_2 x_BA_3 x_BA_4
    refine (Ans.answers_calls _).mono ?_; rintro e w2 ⟨rfl, hb⟩
    replace R0 : Aside0 (Kd.C k45 w2 A0 l0.length l0) := ⟨Kd.C_below R0.out hb⟩
    replace R1 : Aside0 (Kd.C k59 w2 A1 l1.length l1) := ⟨Kd.C_below R1.out hb⟩
    replace R2 : Aside0 (Kd.C k62 w2 A2 l2.length l2) := ⟨Kd.C_below R2.out hb⟩
    replace BP : Aside0 (w2.heap[w.heap.size]? = some (.cells #[.slice A0 l0.length c0, .slice A1 l1.length c1, .slice A2 l2.length c2, .int .i64 idle, .int .i64 crit, .int .i64 sw, .int .i64 swE, .int .i64 sems, .int .i64 hor] 38 (0, 0))) := ⟨blk_below BP.out hb⟩
    replace BA : Aside0 (w2.heap[w.heap.size + 1]? = some (.cells #[.int .i64 policy, .int .i64 static, .int .i64 left, .int .i64 slack, .int .i64 level] 40 (0, 0))) := ⟨blk_below BA.out hb⟩
    replace HB : Aside0 (Below w.heap.size w w2) := ⟨below_step HB.out hb⟩
    clear hb
    have x_BP_0 : w2.cell? ⟨w.heap.size, 0, none⟩ = some (.slice A0 l0.length c0) := (blk_cell BP.out 0).trans rfl
    have x_BP_1 : w2.cell? ⟨w.heap.size, 1, none⟩ = some (.slice A1 l1.length c1) := (blk_cell BP.out 1).trans rfl
    have x_BP_2 : w2.cell? ⟨w.heap.size, 2, none⟩ = some (.slice A2 l2.length c2) := (blk_cell BP.out 2).trans rfl
    have x_BP_3 : w2.cell? ⟨w.heap.size, 3, none⟩ = some (.int .i64 idle) := (blk_cell BP.out 3).trans rfl
    have x_BP_4 : w2.cell? ⟨w.heap.size, 4, none⟩ = some (.int .i64 crit) := (blk_cell BP.out 4).trans rfl
    have x_BP_5 : w2.cell? ⟨w.heap.size, 5, none⟩ = some (.int .i64 sw) := (blk_cell BP.out 5).trans rfl
    have x_BP_6 : w2.cell? ⟨w.heap.size, 6, none⟩ = some (.int .i64 swE) := (blk_cell BP.out 6).trans rfl
    have x_BP_7 : w2.cell? ⟨w.heap.size, 7, none⟩ = some (.int .i64 sems) := (blk_cell BP.out 7).trans rfl
    have x_BP_8 : w2.cell? ⟨w.heap.size, 8, none⟩ = some (.int .i64 hor) := (blk_cell BP.out 8).trans rfl
    have x_BA_0 : w2.cell? ⟨w.heap.size + 1, 0, none⟩ = some (.int .i64 policy) := (blk_cell BA.out 0).trans rfl
    have x_BA_1 : w2.cell? ⟨w.heap.size + 1, 1, none⟩ = some (.int .i64 static) := (blk_cell BA.out 1).trans rfl
    have x_BA_2 : w2.cell? ⟨w.heap.size + 1, 2, none⟩ = some (.int .i64 left) := (blk_cell BA.out 2).trans rfl
    have x_BA_3 : w2.cell? ⟨w.heap.size + 1, 3, none⟩ = some (.int .i64 slack) := (blk_cell BA.out 3).trans rfl
    have x_BA_4 : w2.cell? ⟨w.heap.size + 1, 4, none⟩ = some (.int .i64 level) := (blk_cell BA.out 4).trans rfl
    go_wp2_with fail
    try go_wp2_with fail
    clear x_BP_0 x_BP_1 x_BP_2 x_BP_3 x_BP_4 x_BP_5 x_BP_6 x_BP_7 x_BP_8 x_BA_0 x_BA_1 x_BA_2 x_BA_3 x_BA_4
    go_ret
    exact ⟨by simp, HB.out⟩
end Go.Proofs.Ytijlfnjfjmhdiaa.Law
