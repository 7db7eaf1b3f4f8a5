/- In whatever order tasks stand, their load is the same. Conditions: none. -/
import Derived.Test.YtonlaboeodddeaaZOrd2
import Derived.StillTailTactics
import Derived.Deep.RegionHeld3
import Derived.Deep.QuietTactic
import Derived.BigQuiet
import Derived.Test.YtonlaboeodddeaaRows
import Derived.WalkKit
import Derived.ProofKit
import Derived.OpenShut
import Derived.ShutString
import Derived.ChangeOld
import Derived.Below
import Derived.SizedLaws
namespace Go.Proofs.Ytonlaboeodddeaa.Tbl
open Go.RowKit Go.Proofs.Ytonlaboeodddeaa.F Go.Proofs.YtonlaboeodddeaaW.PrintWords Go.Proofs.YtonlaboeodddeaaW.PrintLast Go.Proofs.YtonlaboeodddeaaW.PrintMore
attribute [local go_sem] max2_int min2_int max_two min_two max_three min_three max_four min_four
set_option maxHeartbeats 1600000 in
set_option maxRecDepth 100000 in
theorem table_bad (A0 : Option Addr) (c0 : Nat) (l0 : List S34) (A1 : Option Addr) (c1 : Nat) (l1 : List S55) (A2 : Option Addr) (c2 : Nat) (l2 : List S58) (i3 i4 i5 i6 i7 i8 : Int) (w : World) (hh : Aside0 (¬ Head l0.length l1.length l2.length i3 i4 i5 i6 i7 i8)) :
    Calls Try.prog 27 #[.agg #[.slice A0 l0.length c0, .slice A1 l1.length c1, .slice A2 l2.length c2, .int .i64 i3, .int .i64 i4, .int .i64 i5, .int .i64 i6, .int .i64 i7, .int .i64 i8]] w fun e w' => e = .returned (.bool (tableB l0 l1 l2 i3 i4 i5 i6 i7 i8)) ∧ Below w.heap.size w w' := by
  go_enter Try.func27, Try.ntmps27
  go_wp2
  all_goals first
    | (go_ret; exact ⟨tableB_head hh.out, (Below.refl _ _).alloc (Nat.le_refl _) _⟩)
    | (exfalso; exact hh.out (by unfold Head; omega))
set_option maxHeartbeats 8000000 in
set_option maxRecDepth 100000 in
theorem table_good (A0 : Option Addr) (c0 : Nat) (l0 : List S34) (A1 : Option Addr) (c1 : Nat) (l1 : List S55) (A2 : Option Addr) (c2 : Nat) (l2 : List S58) (i3 i4 i5 i6 i7 i8 : Int) (w : World)
    (hr0 : Kd.C k34 w A0 l0.length l0) (hr1 : Kd.C k55 w A1 l1.length l1) (hr2 : Kd.C k58 w A2 l2.length l2) (hh : Head l0.length l1.length l2.length i3 i4 i5 i6 i7 i8) :
    Calls Try.prog 27 #[.agg #[.slice A0 l0.length c0, .slice A1 l1.length c1, .slice A2 l2.length c2, .int .i64 i3, .int .i64 i4, .int .i64 i5, .int .i64 i6, .int .i64 i7, .int .i64 i8]] w fun e w' => e = .returned (.bool (tableB l0 l1 l2 i3 i4 i5 i6 i7 i8)) ∧ Below w.heap.size w w' := by
  have HR0 := Aside0.mk hr0
  have HR1 := Aside0.mk hr1
  have HR2 := Aside0.mk hr2
  have HH := Aside0.mk hh
  clear hr0 hr1 hr2
  obtain ⟨q1, q2, q3, q4, q5, q6, q7, q8, q9, q10, q11, q12, q13, q14, q15, q16⟩ := hh
  go_enter Try.func27, Try.ntmps27
  go_upto_region 1 with (fail)
  generalize hw0 : w.alloc (.cells #[.slice A0 l0.length c0, .slice A1 l1.length c1, .slice A2 l2.length c2, .int .i64 i3, .int .i64 i4, .int .i64 i5, .int .i64 i6, .int .i64 i7, .int .i64 i8] 26 (0, 0)) = w0
  have BK : Aside0 (w0.heap[w.heap.size]? = some (.cells #[.slice A0 l0.length c0, .slice A1 l1.length c1, .slice A2 l2.length c2, .int .i64 i3, .int .i64 i4, .int .i64 i5, .int .i64 i6, .int .i64 i7, .int .i64 i8] 26 (0, 0))) := ⟨by rw [← hw0]; exact heap_alloc_new w _⟩
  have HB : Aside0 (Below w.heap.size w w0) := ⟨by rw [← hw0]; exact (Below.refl _ _).alloc (Nat.le_refl _) _⟩
  have HS : Aside0 (w0.heap.size = w.heap.size + 1) := ⟨by rw [← hw0]; simp⟩
  clear hw0
  go_cut [59] (fun v59 wc => v59 = .bool false ∧ wc = w0)
  case first =>
    have x0_ : w0.cell? ⟨w.heap.size, 0, none⟩ = some (.slice A0 l0.length c0) := (blk_cell BK.out 0).trans rfl
    have x3_ : w0.cell? ⟨w.heap.size, 3, none⟩ = some (.int .i64 i3) := (blk_cell BK.out 3).trans rfl
    have x4_ : w0.cell? ⟨w.heap.size, 4, none⟩ = some (.int .i64 i4) := (blk_cell BK.out 4).trans rfl
    have x5_ : w0.cell? ⟨w.heap.size, 5, none⟩ = some (.int .i64 i5) := (blk_cell BK.out 5).trans rfl
    have x6_ : w0.cell? ⟨w.heap.size, 6, none⟩ = some (.int .i64 i6) := (blk_cell BK.out 6).trans rfl
    go_wp2
    go_meet
    case rel => exact ⟨by simp; omega, rfl⟩
  case rest =>
  obtain ⟨rfl, rfl⟩ := hcut
  go_upto_region 3 with (fail)
  go_cut [89] (fun v89 wx => v89 = .bool false ∧ wx = wc)
  case first =>
    have x1_ : wc.cell? ⟨w.heap.size, 1, none⟩ = some (.slice A1 l1.length c1) := (blk_cell BK.out 1).trans rfl
    have x2_ : wc.cell? ⟨w.heap.size, 2, none⟩ = some (.slice A2 l2.length c2) := (blk_cell BK.out 2).trans rfl
    have x7_ : wc.cell? ⟨w.heap.size, 7, none⟩ = some (.int .i64 i7) := (blk_cell BK.out 7).trans rfl
    have x8_ : wc.cell? ⟨w.heap.size, 8, none⟩ = some (.int .i64 i8) := (blk_cell BK.out 8).trans rfl
    go_wp2
    go_meet
    case rel => exact ⟨by simp; omega, rfl⟩
  case rest =>
  obtain ⟨rfl, rfl⟩ := hcut
  go_wp2
  generalize hw0 : wc = w0 at *
  clear hw0
  go_loopw [3] (fun v3 wr => ∃ i : Int, v3 = .int .i64 i ∧ 0 ≤ i ∧ i ≤ l0.length ∧ Aside0 (∀ j : Int, 0 ≤ j → j < i → LevelOk l0 i3 i4 j) ∧ Aside0 (Below w0.heap.size w0 wr)) (fun v3 _ => l0.length - (intOf v3).toNat)
  case atStart => exact ⟨0, rfl, by omega, by omega, ⟨fun j hj hj' => by omega⟩, ⟨Below.refl _ _⟩⟩
  case round =>
    obtain ⟨i, rfl, hi, hk, HL, HW⟩ := hrel
    have BK1 : Aside0 (wr.heap[w.heap.size]? = some (.cells #[.slice A0 l0.length c0, .slice A1 l1.length c1, .slice A2 l2.length c2, .int .i64 i3, .int .i64 i4, .int .i64 i5, .int .i64 i6, .int .i64 i7, .int .i64 i8] 26 (0, 0))) := ⟨by rw [HW.out.block _ (by rw [HS.out]; omega)]; exact BK.out⟩
    have HC : Aside0 (Kd.C k34 wr A0 l0.length l0) := ⟨Kd.C_below HR0.out (below_step HB.out HW.out)⟩
    have x0_ : wr.cell? ⟨w.heap.size, 0, none⟩ = some (.slice A0 l0.length c0) := (blk_cell BK1.out 0).trans rfl
    have x3_ : wr.cell? ⟨w.heap.size, 3, none⟩ = some (.int .i64 i3) := (blk_cell BK1.out 3).trans rfl
    have x4_ : wr.cell? ⟨w.heap.size, 4, none⟩ = some (.int .i64 i4) := (blk_cell BK1.out 4).trans rfl
    have hsz : w.heap.size < wr.heap.size := by have := HW.out.size; have := HS.out; omega
    by_cases hlt : i < (l0.length : Int)
    · obtain ⟨ad, rfl, x0, x1⟩ := at_T34 HC.out i hi hlt
      obtain ⟨P, hP⟩ : ∃ x, x = (rd_T34 l0 i).f0 := ⟨_, rfl⟩
      obtain ⟨E, hE⟩ : ∃ x, x = (rd_T34 l0 i).f1 := ⟨_, rfl⟩
      rw [← hP] at x0
      rw [← hE] at x1
      have HP := Aside0.mk hP
      have HE := Aside0.mk hE
      have HI := Aside0.mk hi
      have HK := Aside0.mk hlt
      have hlt0 : decide (i < (l0.length : Int)) = true := decide_eq_true hlt
      clear hP hE
      go_wp2_with fail
      generalize hwq : wr.alloc (.cells #[.int .i64 P, .int .i64 E] 34 (0, 0)) = wq
      have HQ : Aside0 (Below wr.heap.size wr wq) := ⟨by rw [← hwq]; exact (Below.refl _ _).alloc (Nat.le_refl _) _⟩
      have l0_ : wq.cell? ⟨wr.heap.size, 0, none⟩ = some (.int .i64 P) := by rw [← hwq]; exact (blk_cell (heap_alloc_new wr _) 0).trans rfl
      have l1_ : wq.cell? ⟨wr.heap.size, 1, none⟩ = some (.int .i64 E) := by rw [← hwq]; exact (blk_cell (heap_alloc_new wr _) 1).trans rfl
      clear hwq
      replace x0_ := pw_cell_below HQ.out x0_
      replace x3_ := pw_cell_below HQ.out x3_
      replace x4_ := pw_cell_below HQ.out x4_
      replace HC : Aside0 (Kd.C k34 wq (some ad) l0.length l0) := ⟨Kd.C_below HC.out HQ.out⟩
      clear x0 x1
      by_cases b0 : P < 1
      · have e0 : decide (P < 1) = true := decide_eq_true b0
        go_quiet (fail)
        go_wp2
        go_ret
        exact ⟨tableB_level HI HK (bad0 HP.out HE.out b0), badw HB.out HW.out HQ.out _⟩
      have e0 : decide (P < 1) = false := decide_eq_false b0
      by_cases b1 : 256 < P
      · have e1 : decide (256 < P) = true := decide_eq_true b1
        go_quiet (fail)
        go_wp2
        go_ret
        exact ⟨tableB_level HI HK (bad1 HP.out HE.out b1), badw HB.out HW.out HQ.out _⟩
      have e1 : decide (256 < P) = false := decide_eq_false b1
      by_cases b2 : E < 0
      · have e2 : decide (E < 0) = true := decide_eq_true b2
        go_quiet (fail)
        go_wp2
        go_ret
        exact ⟨tableB_level HI HK (bad2 HP.out HE.out b2), badw HB.out HW.out HQ.out _⟩
      have e2 : decide (E < 0) = false := decide_eq_false b2
      by_cases b3 : 65536 < E
      · have e3 : decide (65536 < E) = true := decide_eq_true b3
        go_quiet (fail)
        go_wp2
        go_ret
        exact ⟨tableB_level HI HK (bad3 HP.out HE.out b3), badw HB.out HW.out HQ.out _⟩
      have e3 : decide (65536 < E) = false := decide_eq_false b3
      by_cases hi0 : 0 < i
      · have g0 : decide (0 < i) = true := decide_eq_true hi0
        obtain ⟨ad', e', y0, y1⟩ := at_T34 HC.out (i - 1) (by omega) (by omega)
        obtain rfl : ad = ad' := Option.some.inj e'
        clear e'
        obtain ⟨P', hP'⟩ : ∃ x, x = (rd_T34 l0 (i - 1)).f0 := ⟨_, rfl⟩
        obtain ⟨E', hE'⟩ : ∃ x, x = (rd_T34 l0 (i - 1)).f1 := ⟨_, rfl⟩
        rw [show (i - 1).toNat = i.toNat - 1 from by omega] at y0 y1
        rw [← hP'] at y0
        rw [← hE'] at y1
        have HP' := Aside0.mk hP'
        have HE' := Aside0.mk hE'
        have hj1 : 0 ≤ i - 1 := by omega
        have hj3 : 1 ≤ i := by omega
        have hj4 : i ≤ (l0.length : Int) := by omega
        have hj5 : IntKind.i64.wrap (i - 1) = i - 1 := IntWalk.i64_in _ (by omega)
        have hj2 : i - 1 < (l0.length : Int) := by omega
        have hprev := HL.out (i - 1) (by omega) (by omega)
        obtain ⟨⟨z1, z2, z3, z4⟩, _, _⟩ := hprev
        rw [← hP'] at z1 z2
        rw [← hE'] at z3 z4
        clear hP' hE'
        by_cases b4 : P ≤ P'
        · have e4 : decide (P ≤ P') = true := decide_eq_true b4
          go_quiet (fail)
          go_wp2
          go_ret
          exact ⟨tableB_level HI HK (bad4 HP.out HP'.out hi0 b4), badw HB.out HW.out HQ.out _⟩
        have e4 : decide (P ≤ P') = false := decide_eq_false b4
        by_cases b5 : i ≤ i4
        · have e5 : decide (i ≤ i4) = true := decide_eq_true b5
          have m1 := prod_bd (show 0 ≤ P by omega) (show P ≤ 256 by omega) q3 q4
          have m2 := prod_bd (show 0 ≤ P' by omega) (show P' ≤ 256 by omega) q3 q4
          obtain ⟨m11, m12⟩ := m1
          obtain ⟨m21, m22⟩ := m2
          by_cases b6 : E' - P' * i3 < E - P * i3
          · have e6 : decide (E' - P' * i3 < E - P * i3) = true := decide_eq_true b6
            go_quiet (fail)
            go_wp2_with fail
            go_quiet (fail)
            go_wp2
            go_ret
            exact ⟨tableB_level HI HK (bad6 HP.out HE.out HP'.out HE'.out hi0 b5 b6), pw_below_drewN (badw HB.out HW.out HQ.out _) _⟩
          · have e6 : decide (E' - P' * i3 < E - P * i3) = false := decide_eq_false b6
            go_quiet (fail)
            go_wp2_with fail
            go_quiet (fail)
            go_wp2
            go_roundw
            case rel => exact ⟨i + 1, rfl, by omega, by omega, ⟨levels_next HL.out (ok_level HP.out HE.out (by omega) (by omega) (by omega) (by omega) (fun _ => by rw [← HP'.out, ← HP.out]; omega) (fun _ _ => by rw [← HP'.out, ← HP.out, ← HE'.out, ← HE.out]; omega))⟩, ⟨nextw HW.out HQ.out _⟩⟩
            case measure => simp [intOf]; omega
        · have e5 : decide (i ≤ i4) = false := decide_eq_false b5
          go_quiet (fail)
          go_wp2_with fail
          go_quiet (fail)
          go_wp2
          go_roundw
          case rel => exact ⟨i + 1, rfl, by omega, by omega, ⟨levels_next HL.out (ok_level HP.out HE.out (by omega) (by omega) (by omega) (by omega) (fun _ => by rw [← HP'.out, ← HP.out]; omega) (fun _ h => by omega))⟩, ⟨nextw HW.out HQ.out _⟩⟩
          case measure => simp [intOf]; omega
      · have g0 : decide (0 < i) = false := decide_eq_false hi0
        go_quiet (fail)
        go_wp2_with fail
        go_quiet (fail)
        go_wp2
        go_roundw
        case rel => exact ⟨i + 1, rfl, by omega, by omega, ⟨levels_next HL.out (ok_level HP.out HE.out (by omega) (by omega) (by omega) (by omega) (fun h => by omega) (fun h => by omega))⟩, ⟨nextw HW.out HQ.out _⟩⟩
        case measure => simp [intOf]; omega
    · have hge : i = (l0.length : Int) := by omega
      have HLL : Aside0 (∀ j : Int, 0 ≤ j → j < l0.length → LevelOk l0 i3 i4 j) := ⟨by rw [← hge]; exact HL.out⟩
      clear HL hge x4_ hi hk
      have hlt0 : decide (i < (l0.length : Int)) = false := decide_eq_false hlt
      have HB1 : Aside0 (Below w.heap.size w wr) := ⟨below_step HB.out HW.out⟩
      clear HB HW HC BK
      go_wp2
      clear hlt hlt0
      obtain ⟨w1, hw1⟩ : ∃ w1 : World, w1 = wr := ⟨_, rfl⟩
      rw [← hw1] at BK1 x3_ HB1 hsz ⊢
      clear hw1 x0_
      go_loopw [5] (fun v5 wx => ∃ i : Int, v5 = .int .i64 i ∧ 0 ≤ i ∧ i ≤ l1.length ∧ Aside0 (∀ j : Int, 0 ≤ j → j < i → SleepOk (rd_T55 l1 j) i3) ∧ Aside0 (Below w1.heap.size w1 wx)) (fun v5 _ => l1.length - (intOf v5).toNat)
      case atStart => exact ⟨0, rfl, by omega, by omega, ⟨fun j hj hj' => by omega⟩, ⟨Below.refl _ _⟩⟩
      case round =>
        obtain ⟨i, rfl, hi, hk, HL, HW⟩ := hrel
        have x1_ : wr.cell? ⟨w.heap.size, 1, none⟩ = some (.slice A1 l1.length c1) := pw_cell_below HW.out ((blk_cell BK1.out 1).trans rfl)
        have x3x : wr.cell? ⟨w.heap.size, 3, none⟩ = some (.int .i64 i3) := pw_cell_below HW.out x3_
        have HC : Aside0 (Kd.C k55 wr A1 l1.length l1) := ⟨Kd.C_below HR1.out (below_step HB1.out HW.out)⟩
        by_cases hlt : i < (l1.length : Int)
        · obtain ⟨ad, rfl, y0, y1, y2, y3, y4, y5⟩ := at_T55 HC.out i hi hlt
          have hlt0 : decide (i < (l1.length : Int)) = true := decide_eq_true hlt
          obtain ⟨s, hs⟩ : ∃ s, s = rd_T55 l1 i := ⟨_, rfl⟩
          rw [← hs] at y0 y1 y2 y3 y4 y5
          have HS1 := Aside0.mk hs
          have HI := Aside0.mk hi
          have HK := Aside0.mk hlt
          clear hs
          by_cases hok : SleepOk s i3
          · have HOK := Aside0.mk hok
            clear hok
            go_wp2_with fail
            go_still_tail 7, (by kernel_rfl)
            change wpList _ _ _ _ _ wr.drew
            have HD : Aside0 (Below wr.heap.size wr wr.drew) := ⟨(Below.refl _ _).drew⟩
            generalize wr.drew = w2 at HD ⊢
            go_wp2_with fail
            refine (dormouseref01_Sleep.calls _ _ _ _ _ _ _ _ _ (sleep_yes HOK.out)).mono ?_; rintro e w3 ⟨rfl, hb⟩
            have HB3 := Aside0.mk hb
            clear hb
            go_wp2
            go_roundw
            case rel => exact ⟨i + 1, rfl, by omega, by omega, ⟨next_one HL.out (by rw [← HS1.out]; exact HOK.out)⟩, ⟨tail_w1 HW.out HD.out HB3.out⟩⟩
            case measure => simp [intOf]; omega
          · have HOK := Aside0.mk hok
            clear hok
            go_wp2_with fail
            go_still_tail 7, (by kernel_rfl)
            change wpList _ _ _ _ _ wr.drew
            have HD : Aside0 (Below wr.heap.size wr wr.drew) := ⟨(Below.refl _ _).drew⟩
            generalize wr.drew = w2 at HD ⊢
            go_wp2_with fail
            refine (dormouseref01_Sleep.calls _ _ _ _ _ _ _ _ _ (sleep_no HOK.out)).mono ?_; rintro e w3 ⟨rfl, hb⟩
            have HB3 := Aside0.mk hb
            clear hb
            go_wp2
            go_ret
            exact ⟨tableB_sleep HS1.out HI.out HK.out HOK.out, tail_w HB1.out HW.out HD.out HB3.out⟩
        · have hge : i = (l1.length : Int) := by omega
          have HSS : Aside0 (∀ j : Int, 0 ≤ j → j < l1.length → SleepOk (rd_T55 l1 j) i3) := ⟨by rw [← hge]; exact HL.out⟩
          clear HL hge x3x hi hk x3_
          have hlt0 : decide (i < (l1.length : Int)) = false := decide_eq_false hlt
          have HB2 : Aside0 (Below w.heap.size w wr) := ⟨below_step HB1.out HW.out⟩
          have BK2 : Aside0 (wr.heap[w.heap.size]? = some (.cells #[.slice A0 l0.length c0, .slice A1 l1.length c1, .slice A2 l2.length c2, .int .i64 i3, .int .i64 i4, .int .i64 i5, .int .i64 i6, .int .i64 i7, .int .i64 i8] 26 (0, 0))) := ⟨by rw [HW.out.block _ hsz]; exact BK1.out⟩
          clear HB1 HW HC BK1
          go_wp2
          clear hlt hlt0
          obtain ⟨w2, hw2⟩ : ∃ w2 : World, w2 = wr := ⟨_, rfl⟩
          rw [← hw2] at BK2 HB2 ⊢
          clear hw2 x1_
          go_loopw [6] (fun v6 wx => ∃ i : Int, v6 = .int .i64 i ∧ 0 ≤ i ∧ i ≤ l2.length ∧ Aside0 (∀ j : Int, 0 ≤ j → j < i → DeviceOk (rd_T58 l2 j)) ∧ Aside0 (Below w2.heap.size w2 wx)) (fun v6 _ => l2.length - (intOf v6).toNat)
          case atStart => exact ⟨0, rfl, by omega, by omega, ⟨fun j hj hj' => by omega⟩, ⟨Below.refl _ _⟩⟩
          case round =>
            obtain ⟨i, rfl, hi, hk, HL, HW⟩ := hrel
            have x2_ : wr.cell? ⟨w.heap.size, 2, none⟩ = some (.slice A2 l2.length c2) := pw_cell_below HW.out ((blk_cell BK2.out 2).trans rfl)
            have HC : Aside0 (Kd.C k58 wr A2 l2.length l2) := ⟨Kd.C_below HR2.out (below_step HB2.out HW.out)⟩
            by_cases hlt : i < (l2.length : Int)
            · obtain ⟨ad, rfl, y0, y1, y2, y3, y4, y5, y6⟩ := at_T58 HC.out i hi hlt
              have hlt0 : decide (i < (l2.length : Int)) = true := decide_eq_true hlt
              obtain ⟨s, hs⟩ : ∃ s, s = rd_T58 l2 i := ⟨_, rfl⟩
              rw [← hs] at y0 y1 y2 y3 y4 y5 y6
              have HS1 := Aside0.mk hs
              have HI := Aside0.mk hi
              have HK := Aside0.mk hlt
              clear hs
              by_cases hok : DeviceOk s
              · have HOK := Aside0.mk hok
                clear hok
                go_wp2_with fail
                refine (dormouseref01_Device.calls _ _ _ _ _ _ _ _ _ (device_yes HOK.out)).mono ?_; rintro e w3 ⟨rfl, hb⟩
                have HB3 := Aside0.mk hb
                clear hb
                go_wp2
                go_roundw
                case rel => exact ⟨i + 1, rfl, by omega, by omega, ⟨next_one HL.out (by rw [← HS1.out]; exact HOK.out)⟩, ⟨below_step HW.out HB3.out⟩⟩
                case measure => simp [intOf]; omega
              · have HOK := Aside0.mk hok
                clear hok
                go_wp2_with fail
                refine (dormouseref01_Device.calls _ _ _ _ _ _ _ _ _ (device_no HOK.out)).mono ?_; rintro e w3 ⟨rfl, hb⟩
                have HB3 := Aside0.mk hb
                clear hb
                go_wp2
                go_ret
                exact ⟨tableB_device HS1.out HI.out HK.out HOK.out, below_step (below_step HB2.out HW.out) HB3.out⟩
            · have hge : i = (l2.length : Int) := by omega
              have HDD : Aside0 (∀ j : Int, 0 ≤ j → j < l2.length → DeviceOk (rd_T58 l2 j)) := ⟨by rw [← hge]; exact HL.out⟩
              clear HL hge hi hk
              have hlt0 : decide (i < (l2.length : Int)) = false := decide_eq_false hlt
              go_wp2
              go_ret
              exact ⟨tableB_yes ⟨HH.out, HLL.out, HSS.out, HDD.out⟩, below_step HB2.out HW.out⟩
theorem table_calls (A0 : Option Addr) (c0 : Nat) (l0 : List S34) (A1 : Option Addr) (c1 : Nat) (l1 : List S55) (A2 : Option Addr) (c2 : Nat) (l2 : List S58) (i3 i4 i5 i6 i7 i8 : Int) (w : World)
    (hr0 : Kd.C k34 w A0 l0.length l0) (hr1 : Kd.C k55 w A1 l1.length l1) (hr2 : Kd.C k58 w A2 l2.length l2) :
    Calls Try.prog 27 #[.agg #[.slice A0 l0.length c0, .slice A1 l1.length c1, .slice A2 l2.length c2, .int .i64 i3, .int .i64 i4, .int .i64 i5, .int .i64 i6, .int .i64 i7, .int .i64 i8]] w fun e w' => e = .returned (.bool (tableB l0 l1 l2 i3 i4 i5 i6 i7 i8)) ∧ Below w.heap.size w w' := by
  by_cases hh : Head l0.length l1.length l2.length i3 i4 i5 i6 i7 i8
  · exact table_good A0 c0 l0 A1 c1 l1 A2 c2 l2 i3 i4 i5 i6 i7 i8 w hr0 hr1 hr2 hh
  · exact table_bad A0 c0 l0 A1 c1 l1 A2 c2 l2 i3 i4 i5 i6 i7 i8 w ⟨hh⟩
end Go.Proofs.Ytonlaboeodddeaa.Tbl
namespace Go.Proofs.Ytonlaboeodddeaa.F
open Go.RowKit Go.Proofs.YtonlaboeodddeaaW.PrintWords Go.Proofs.YtonlaboeodddeaaW.PrintLast Go.Proofs.YtonlaboeodddeaaW.PrintMore
attribute [local go_sem] max2_int min2_int max_two min_two max_three min_three max_four min_four   -- for this text's walks alone
set_option linter.unusedVariables false
set_option linter.unusedSimpArgs false
noncomputable def dormouseref01_Table.f (k : Nat) (l0_0 : List (S34)) (l0_1 : List (S55)) (l0_2 : List (S58)) (a0_3 : Int) (a0_4 : Int) (a0_5 : Int) (a0_6 : Int) (a0_7 : Int) (a0_8 : Int) : Option (Bool) := some (Tbl.tableB l0_0 l0_1 l0_2 a0_3 a0_4 a0_5 a0_6 a0_7 a0_8)
theorem dormouseref01_Table.calls (k : Nat) (A0_0 : Option Addr) (c0_0 : Nat) (l0_0 : List (S34)) (A0_1 : Option Addr) (c0_1 : Nat) (l0_1 : List (S55)) (A0_2 : Option Addr) (c0_2 : Nat) (l0_2 : List (S58)) (a0_3 : Int) (a0_4 : Int) (a0_5 : Int) (a0_6 : Int) (a0_7 : Int) (a0_8 : Int) (r : Bool) (w : World) (hr0_0 : Kd.C k34 w A0_0 l0_0.length l0_0) (hc0_0 : l0_0.length ≤ c0_0) (hr0_1 : Kd.C k55 w A0_1 l0_1.length l0_1) (hc0_1 : l0_1.length ≤ c0_1) (hr0_2 : Kd.C k58 w A0_2 l0_2.length l0_2) (hc0_2 : l0_2.length ≤ c0_2) (h : dormouseref01_Table.f k l0_0 l0_1 l0_2 a0_3 a0_4 a0_5 a0_6 a0_7 a0_8 = some r) :
    Calls Try.prog 27 #[.agg #[.slice A0_0 l0_0.length c0_0, .slice A0_1 l0_1.length c0_1, .slice A0_2 l0_2.length c0_2, .int .i64 a0_3, .int .i64 a0_4, .int .i64 a0_5, .int .i64 a0_6, .int .i64 a0_7, .int .i64 a0_8]] w fun e w' => e = .returned (.bool r) ∧ Below w.heap.size w w' := by
  obtain rfl := Option.some.inj h
  exact Tbl.table_calls A0_0 c0_0 l0_0 A0_1 c0_1 l0_1 A0_2 c0_2 l0_2 a0_3 a0_4 a0_5 a0_6 a0_7 a0_8 w hr0_0 hr0_1 hr0_2
end Go.Proofs.Ytonlaboeodddeaa.F
namespace Go.Proofs.Ytonlaboeodddeaa.F
noncomputable section
open Go.RowKit Go.Proofs.YtonlaboeodddeaaW.PrintWords Go.Proofs.YtonlaboeodddeaaW.PrintLast Go.Proofs.YtonlaboeodddeaaW.PrintMore
attribute [local go_sem] max2_int min2_int max_two min_two max_three min_three max_four min_four   -- for this text's walks alone
set_option linter.unusedVariables false
set_option linter.unusedSimpArgs false
mutual
def dormouselaw10_good.j0 : Nat → List (S29) → Bool → List (S34) → List (S55) → List (S58) → Int → Int → Int → Int → Int → Int → Option (Bool)
  | 0, _, _, _, _, _, _, _, _, _, _, _ => none
  | k + 1, x1, x13, x124000, x124001, x124002, x124003, x124004, x124005, x124006, x124007, x124008 => if x13 = true then (some false) else (dormouselaw10_good.l0 k x1 0 x124000 x124001 x124002 x124003 x124004 x124005 x124006 x124007 x124008)
def dormouselaw10_good.l0 : Nat → List (S29) → Int → List (S34) → List (S55) → List (S58) → Int → Int → Int → Int → Int → Int → Option (Bool)
  | 0, _, _, _, _, _, _, _, _, _, _, _ => none
  | k + 1, x1, x5, x124000, x124001, x124002, x124003, x124004, x124005, x124006, x124007, x124008 => if x5 < (x1.length : Int) then (if 0 ≤ x5 then ((dormouseref09_Task.f k x124000 x124001 x124002 x124003 x124004 x124005 x124006 x124007 x124008 ((rd_T29 x1 x5).f0) ((rd_T29 x1 x5).f1) ((rd_T29 x1 x5).f2) ((rd_T29 x1 x5).f3)).bind fun t126 => (if t126 = true then (dormouselaw10_good.l0 k x1 (wrap64 (x5 + 1)) x124000 x124001 x124002 x124003 x124004 x124005 x124006 x124007 x124008) else (some false))) else (none)) else (some true)
end
def dormouselaw10_good.f (k : Nat) (l0_0 : List (S34)) (l0_1 : List (S55)) (l0_2 : List (S58)) (a0_3 : Int) (a0_4 : Int) (a0_5 : Int) (a0_6 : Int) (a0_7 : Int) (a0_8 : Int) (l1 : List (S29)) : Option (Bool) := (dormouseref01_Table.f k l0_0 l0_1 l0_2 a0_3 a0_4 a0_5 a0_6 a0_7 a0_8).bind fun t124 => (if t124 = true then (dormouselaw10_good.j0 k l1 (decide ((l1.length : Int) > 64)) l0_0 l0_1 l0_2 a0_3 a0_4 a0_5 a0_6 a0_7 a0_8) else (dormouselaw10_good.j0 k l1 true l0_0 l0_1 l0_2 a0_3 a0_4 a0_5 a0_6 a0_7 a0_8))
set_option maxHeartbeats 8000000 in
set_option maxRecDepth 100000 in
theorem dormouselaw10_good.calls (k : Nat) (A0_0 : Option Addr) (c0_0 : Nat) (l0_0 : List (S34)) (A0_1 : Option Addr) (c0_1 : Nat) (l0_1 : List (S55)) (A0_2 : Option Addr) (c0_2 : Nat) (l0_2 : List (S58)) (a0_3 : Int) (a0_4 : Int) (a0_5 : Int) (a0_6 : Int) (a0_7 : Int) (a0_8 : Int) (A1 : Option Addr) (c1 : Nat) (l1 : List (S29)) (r : Bool) (w : World) (hr0_0 : Kd.C k34 w A0_0 l0_0.length l0_0) (hc0_0 : l0_0.length ≤ c0_0) (hr0_1 : Kd.C k55 w A0_1 l0_1.length l0_1) (hc0_1 : l0_1.length ≤ c0_1) (hr0_2 : Kd.C k58 w A0_2 l0_2.length l0_2) (hc0_2 : l0_2.length ≤ c0_2) (hr1 : Kd.C k29 w A1 l1.length l1) (hc1 : l1.length ≤ c1) (h : dormouselaw10_good.f k l0_0 l0_1 l0_2 a0_3 a0_4 a0_5 a0_6 a0_7 a0_8 l1 = some r) :
    Calls Try.prog 11 #[.agg #[.slice A0_0 l0_0.length c0_0, .slice A0_1 l0_1.length c0_1, .slice A0_2 l0_2.length c0_2, .int .i64 a0_3, .int .i64 a0_4, .int .i64 a0_5, .int .i64 a0_6, .int .i64 a0_7, .int .i64 a0_8], .slice A1 l1.length c1] w fun e w' => e = .returned (.bool r) ∧ Below w.heap.size w w' := by
  have hu26 := Try.underlying26
  have hu29 := Try.underlying29
  have HR0_0 := Aside0.mk hr0_0
  have HC0_0 := Aside0.mk hc0_0
  clear hr0_0 hc0_0
  have HR0_1 := Aside0.mk hr0_1
  have HC0_1 := Aside0.mk hc0_1
  clear hr0_1 hc0_1
  have HR0_2 := Aside0.mk hr0_2
  have HC0_2 := Aside0.mk hc0_2
  clear hr0_2 hc0_2
  have HR1 := Aside0.mk hr1
  have HC1 := Aside0.mk hc1
  clear hr1 hc1
  have HB := Aside0.mk (Below.refl w.heap.size w)
  have H : ((dormouseref01_Table.f k l0_0 l0_1 l0_2 a0_3 a0_4 a0_5 a0_6 a0_7 a0_8).bind fun t124 => (if t124 = true then (dormouselaw10_good.j0 k l1 (decide ((l1.length : Int) > 64)) l0_0 l0_1 l0_2 a0_3 a0_4 a0_5 a0_6 a0_7 a0_8) else (dormouselaw10_good.j0 k l1 true l0_0 l0_1 l0_2 a0_3 a0_4 a0_5 a0_6 a0_7 a0_8))) = some r := h
  clear h
  have HC3 := Aside0.mk H
  clear H
  go_enter Try.func11, Try.ntmps11
  go_upto_region 1 with (first | ((with_reducible refine gate_dst (N := 2) rfl ?_); (try (refine gate_guard (by rfl) ?_; dsimp only)); refine box_event ?hg (N := 2) ?hd (cs := #[.slice A0_0 l0_0.length c0_0, .slice A0_1 l0_1.length c0_1, .slice A0_2 l0_2.length c0_2, .int .i64 a0_3, .int .i64 a0_4, .int .i64 a0_5, .int .i64 a0_6, .int .i64 a0_7, .int .i64 a0_8]) (t := 26) ?hr ?_; (case hd => rfl); (case hg => rfl); (case hr => first | (go_simp; done) | (go_simp; rfl)); intro gb123 hg w4 hbox hb; have n0_ := Aside0.mk (below_step (by repeat (first | (with_reducible first | exact HB.out | apply below_alloc | apply pw_below_drewN | apply below_drew1) | exact HB.out)) hb); have n1_ := Aside0.mk (hbox); have n2_ := Aside0.mk ((by rw [hg]; exact (below_size (by repeat (first | (with_reducible first | exact HB.out | apply below_alloc | apply pw_below_drewN | apply below_drew1) | exact HB.out))) : w.heap.size ≤ gb123)); have n3_ := Aside0.mk ((by rw [hg]; exact (below_size (by repeat (first | (with_reducible first | exact HB.out | apply below_alloc | apply pw_below_drewN | apply below_drew1) | exact HB.out))) : w.heap.size ≤ gb123)); clear HB; have HB := n0_; have BK123 := n1_; have GW123 := n2_; have GE123 := n3_; clear n0_ n1_ n2_ n3_; clear hb hbox hg))
  (try simp only [Act.put, List.setIfInBounds_toArray, List.set_cons_zero, List.set_cons_succ])
  go_cut [13] (fun v13 wc => ∃ (kq : Nat) (x13_2 : Bool), v13 = .bool x13_2 ∧ Aside0 (dormouselaw10_good.j0 kq l1 x13_2 l0_0 l0_1 l0_2 a0_3 a0_4 a0_5 a0_6 a0_7 a0_8 = some r) ∧ Aside0 (kq ≤ k) ∧ Aside0 (wc.heap[gb123]? = some (.cells #[(.slice A0_0 l0_0.length c0_0), (.slice A0_1 l0_1.length c0_1), (.slice A0_2 l0_2.length c0_2), .int .i64 a0_3, .int .i64 a0_4, .int .i64 a0_5, .int .i64 a0_6, .int .i64 a0_7, .int .i64 a0_8] 26 (0, 0))) ∧ Aside0 (Below w.heap.size w wc))
  case first =>
    have H := HC3.out
    clear HC3
    replace H := Option.bind_eq_some_iff.mp H
    obtain ⟨t124, A50, H⟩ := H
    replace H : (if t124 = true then (dormouselaw10_good.j0 k l1 (decide ((l1.length : Int) > 64)) l0_0 l0_1 l0_2 a0_3 a0_4 a0_5 a0_6 a0_7 a0_8) else (dormouselaw10_good.j0 k l1 true l0_0 l0_1 l0_2 a0_3 a0_4 a0_5 a0_6 a0_7 a0_8)) = some r := H
    have A5 := Aside0.mk A50
    clear A50
    by_cases c6 : t124 = true
    · subst c6
      have H1 : (dormouselaw10_good.j0 k l1 (decide ((l1.length : Int) > 64)) l0_0 l0_1 l0_2 a0_3 a0_4 a0_5 a0_6 a0_7 a0_8) = some r := by rw [if_pos rfl] at H; exact H
      clear H
      have H := H1
      clear H1
      have H' := Aside0.mk H
      clear H
      have hcz7_0 : w4.cell? ⟨gb123, 0, none⟩ = some (.slice A0_0 l0_0.length c0_0) := (blk_cell BK123.out 0).trans rfl
      have hcz7_1 : w4.cell? ⟨gb123, 1, none⟩ = some (.slice A0_1 l0_1.length c0_1) := (blk_cell BK123.out 1).trans rfl
      have hcz7_2 : w4.cell? ⟨gb123, 2, none⟩ = some (.slice A0_2 l0_2.length c0_2) := (blk_cell BK123.out 2).trans rfl
      have hcz7_3 : w4.cell? ⟨gb123, 3, none⟩ = some (.int .i64 a0_3) := (blk_cell BK123.out 3).trans rfl
      have hcz7_4 : w4.cell? ⟨gb123, 4, none⟩ = some (.int .i64 a0_4) := (blk_cell BK123.out 4).trans rfl
      have hcz7_5 : w4.cell? ⟨gb123, 5, none⟩ = some (.int .i64 a0_5) := (blk_cell BK123.out 5).trans rfl
      have hcz7_6 : w4.cell? ⟨gb123, 6, none⟩ = some (.int .i64 a0_6) := (blk_cell BK123.out 6).trans rfl
      have hcz7_7 : w4.cell? ⟨gb123, 7, none⟩ = some (.int .i64 a0_7) := (blk_cell BK123.out 7).trans rfl
      have hcz7_8 : w4.cell? ⟨gb123, 8, none⟩ = some (.int .i64 a0_8) := (blk_cell BK123.out 8).trans rfl
      have hfz7_0 := blk_frozen BK123.out 0
      have hfz7_1 := blk_frozen BK123.out 1
      have hfz7_2 := blk_frozen BK123.out 2
      have hfz7_3 := blk_frozen BK123.out 3
      have hfz7_4 := blk_frozen BK123.out 4
      have hfz7_5 := blk_frozen BK123.out 5
      have hfz7_6 := blk_frozen BK123.out 6
      have hfz7_7 := blk_frozen BK123.out 7
      have hfz7_8 := blk_frozen BK123.out 8
      go_wp2_with (first | ((with_reducible refine gate_callee (f := 27) rfl ?_); refine goesL_ (some 7) rfl rfl Try.func27 (by kernel_rfl) rfl #[.agg #[.slice A0_0 l0_0.length c0_0, .slice A0_1 l0_1.length c0_1, .slice A0_2 l0_2.length c0_2, .int .i64 a0_3, .int .i64 a0_4, .int .i64 a0_5, .int .i64 a0_6, .int .i64 a0_7, .int .i64 a0_8]] rfl (by (try simp only [List.map_toArray, List.map_cons, List.map_nil]); first | done | rfl | (simp only [List.length_drop, List.length_take]; rfl)) ?_; (with_reducible refine (dormouseref01_Table.calls k _ _ l0_0 _ _ l0_1 _ _ l0_2 a0_3 a0_4 a0_5 a0_6 a0_7 a0_8 true _ ?side1 ?side2 ?side3 ?side4 ?side5 ?side6 A5.out).mono ?_); (case side1 => repeat (first | exact (Kd.C_below HR0_0.out HB.out) | (with_reducible refine Kd.C_alloc ?_ _) | (with_reducible refine Kd.C_drewN ?_ _) | (with_reducible refine Kd.C_drew ?_))); (case side2 => exact HC0_0.out); (case side3 => repeat (first | exact (Kd.C_below HR0_1.out HB.out) | (with_reducible refine Kd.C_alloc ?_ _) | (with_reducible refine Kd.C_drewN ?_ _) | (with_reducible refine Kd.C_drew ?_))); (case side4 => exact HC0_1.out); (case side5 => repeat (first | exact (Kd.C_below HR0_2.out HB.out) | (with_reducible refine Kd.C_alloc ?_ _) | (with_reducible refine Kd.C_drewN ?_ _) | (with_reducible refine Kd.C_drew ?_))); (case side6 => exact HC0_2.out); rintro e w8 ⟨rfl, hb⟩; refine ⟨_, rfl, ?_⟩; have n0_ := Aside0.mk (blk_below (g := gb123) (o := .cells #[.slice A0_0 l0_0.length c0_0, .slice A0_1 l0_1.length c0_1, .slice A0_2 l0_2.length c0_2, .int .i64 a0_3, .int .i64 a0_4, .int .i64 a0_5, .int .i64 a0_6, .int .i64 a0_7, .int .i64 a0_8] 26 (0, 0)) (by (with_reducible repeat (first | refine blk_drewN ?_ _ | refine blk_drew ?_ | refine blk_alloc ?_ _)); exact BK123.out) hb); have n1_ := Aside0.mk (below_step (by repeat (first | (with_reducible first | exact HB.out | apply below_alloc | apply pw_below_drewN | apply below_drew1 | refine below_set ?_ GE123.out) | exact HB.out)) hb); clear BK123; clear HB; have BK123 := n0_; have HB := n1_; clear n0_ n1_; (try clear hb); (try clear hb2); (try clear hk); (try clear hi)))
      go_meet
      case rel => exact ⟨_, (decide ((l1.length : Int) > 64)), (by first | rfl | (simp; done) | (simp [*]; done)), H', ⟨by first | omega | exact Nat.le_refl _⟩, ⟨by (with_reducible repeat (first | refine blk_drewN ?_ _ | refine blk_drew ?_ | refine blk_alloc ?_ _)); exact BK123.out⟩, ⟨by repeat (first | (with_reducible first | exact HB.out | apply below_alloc | apply pw_below_drewN | apply below_drew1 | refine below_set ?_ GE123.out) | exact HB.out)⟩⟩
    · replace c6 := Bool.eq_false_iff.mpr c6
      subst c6
      have H1 : (dormouselaw10_good.j0 k l1 true l0_0 l0_1 l0_2 a0_3 a0_4 a0_5 a0_6 a0_7 a0_8) = some r := by rw [if_neg (show ¬ (false = true) by decide)] at H; exact H
      clear H
      have H := H1
      clear H1
      have H' := Aside0.mk H
      clear H
      have hcz9_0 : w4.cell? ⟨gb123, 0, none⟩ = some (.slice A0_0 l0_0.length c0_0) := (blk_cell BK123.out 0).trans rfl
      have hcz9_1 : w4.cell? ⟨gb123, 1, none⟩ = some (.slice A0_1 l0_1.length c0_1) := (blk_cell BK123.out 1).trans rfl
      have hcz9_2 : w4.cell? ⟨gb123, 2, none⟩ = some (.slice A0_2 l0_2.length c0_2) := (blk_cell BK123.out 2).trans rfl
      have hcz9_3 : w4.cell? ⟨gb123, 3, none⟩ = some (.int .i64 a0_3) := (blk_cell BK123.out 3).trans rfl
      have hcz9_4 : w4.cell? ⟨gb123, 4, none⟩ = some (.int .i64 a0_4) := (blk_cell BK123.out 4).trans rfl
      have hcz9_5 : w4.cell? ⟨gb123, 5, none⟩ = some (.int .i64 a0_5) := (blk_cell BK123.out 5).trans rfl
      have hcz9_6 : w4.cell? ⟨gb123, 6, none⟩ = some (.int .i64 a0_6) := (blk_cell BK123.out 6).trans rfl
      have hcz9_7 : w4.cell? ⟨gb123, 7, none⟩ = some (.int .i64 a0_7) := (blk_cell BK123.out 7).trans rfl
      have hcz9_8 : w4.cell? ⟨gb123, 8, none⟩ = some (.int .i64 a0_8) := (blk_cell BK123.out 8).trans rfl
      have hfz9_0 := blk_frozen BK123.out 0
      have hfz9_1 := blk_frozen BK123.out 1
      have hfz9_2 := blk_frozen BK123.out 2
      have hfz9_3 := blk_frozen BK123.out 3
      have hfz9_4 := blk_frozen BK123.out 4
      have hfz9_5 := blk_frozen BK123.out 5
      have hfz9_6 := blk_frozen BK123.out 6
      have hfz9_7 := blk_frozen BK123.out 7
      have hfz9_8 := blk_frozen BK123.out 8
      go_wp2_with (first | ((with_reducible refine gate_callee (f := 27) rfl ?_); refine goesL_ (some 7) rfl rfl Try.func27 (by kernel_rfl) rfl #[.agg #[.slice A0_0 l0_0.length c0_0, .slice A0_1 l0_1.length c0_1, .slice A0_2 l0_2.length c0_2, .int .i64 a0_3, .int .i64 a0_4, .int .i64 a0_5, .int .i64 a0_6, .int .i64 a0_7, .int .i64 a0_8]] rfl (by (try simp only [List.map_toArray, List.map_cons, List.map_nil]); first | done | rfl | (simp only [List.length_drop, List.length_take]; rfl)) ?_; (with_reducible refine (dormouseref01_Table.calls k _ _ l0_0 _ _ l0_1 _ _ l0_2 a0_3 a0_4 a0_5 a0_6 a0_7 a0_8 false _ ?side1 ?side2 ?side3 ?side4 ?side5 ?side6 A5.out).mono ?_); (case side1 => repeat (first | exact (Kd.C_below HR0_0.out HB.out) | (with_reducible refine Kd.C_alloc ?_ _) | (with_reducible refine Kd.C_drewN ?_ _) | (with_reducible refine Kd.C_drew ?_))); (case side2 => exact HC0_0.out); (case side3 => repeat (first | exact (Kd.C_below HR0_1.out HB.out) | (with_reducible refine Kd.C_alloc ?_ _) | (with_reducible refine Kd.C_drewN ?_ _) | (with_reducible refine Kd.C_drew ?_))); (case side4 => exact HC0_1.out); (case side5 => repeat (first | exact (Kd.C_below HR0_2.out HB.out) | (with_reducible refine Kd.C_alloc ?_ _) | (with_reducible refine Kd.C_drewN ?_ _) | (with_reducible refine Kd.C_drew ?_))); (case side6 => exact HC0_2.out); rintro e w10 ⟨rfl, hb⟩; refine ⟨_, rfl, ?_⟩; have n0_ := Aside0.mk (blk_below (g := gb123) (o := .cells #[.slice A0_0 l0_0.length c0_0, .slice A0_1 l0_1.length c0_1, .slice A0_2 l0_2.length c0_2, .int .i64 a0_3, .int .i64 a0_4, .int .i64 a0_5, .int .i64 a0_6, .int .i64 a0_7, .int .i64 a0_8] 26 (0, 0)) (by (with_reducible repeat (first | refine blk_drewN ?_ _ | refine blk_drew ?_ | refine blk_alloc ?_ _)); exact BK123.out) hb); have n1_ := Aside0.mk (below_step (by repeat (first | (with_reducible first | exact HB.out | apply below_alloc | apply pw_below_drewN | apply below_drew1 | refine below_set ?_ GE123.out) | exact HB.out)) hb); clear BK123; clear HB; have BK123 := n0_; have HB := n1_; clear n0_ n1_; (try clear hb); (try clear hb2); (try clear hk); (try clear hi)))
      go_meet
      case rel => exact ⟨_, (true), (by first | rfl | (simp; done) | (simp [*]; done)), H', ⟨by first | omega | exact Nat.le_refl _⟩, ⟨by (with_reducible repeat (first | refine blk_drewN ?_ _ | refine blk_drew ?_ | refine blk_alloc ?_ _)); exact BK123.out⟩, ⟨by repeat (first | (with_reducible first | exact HB.out | apply below_alloc | apply pw_below_drewN | apply below_drew1 | refine below_set ?_ GE123.out) | exact HB.out)⟩⟩
  case rest =>
    clear HC3
    try clear c1
    try clear c2
    try clear p2
    try clear c6
    try clear hcz7_0
    try clear hcz7_1
    try clear hcz7_2
    try clear hcz7_3
    try clear hcz7_4
    try clear hcz7_5
    try clear hcz7_6
    try clear hcz7_7
    try clear hcz7_8
    try clear hcz9_0
    try clear hcz9_1
    try clear hcz9_2
    try clear hcz9_3
    try clear hcz9_4
    try clear hcz9_5
    try clear hcz9_6
    try clear hcz9_7
    try clear hcz9_8
    try clear hfz7_0
    try clear hfz7_1
    try clear hfz7_2
    try clear hfz7_3
    try clear hfz7_4
    try clear hfz7_5
    try clear hfz7_6
    try clear hfz7_7
    try clear hfz7_8
    try clear hfz9_0
    try clear hfz9_1
    try clear hfz9_2
    try clear hfz9_3
    try clear hfz9_4
    try clear hfz9_5
    try clear hfz9_6
    try clear hfz9_7
    try clear hfz9_8
    obtain ⟨kq, x13_2, rfl, HA, HJ2, BK123, HB⟩ := hcut
    cases kq with
    | zero => exact absurd HA.out (by simp [dormouselaw10_good.j0])
    | succ kj2 =>
      have H := HA.out
      clear HA
      simp only [dormouselaw10_good.j0] at H
      by_cases c11 : x13_2 = true
      · subst c11
        have H1 : (some false) = some r := by rw [if_pos rfl] at H; exact H
        clear H
        have H := H1
        clear H1
        obtain rfl := Option.some.inj H
        go_wp2
        go_ret
        exact ⟨by first | rfl | (simp [errW_none, errW_some] <;> rfl) | (simp [*, errW_none, errW_some] <;> rfl), by repeat (first | (with_reducible first | exact HB.out | apply below_alloc | apply pw_below_drewN | apply below_drew1 | refine below_set ?_ GE123.out) | exact HB.out)⟩
      · replace c11 := Bool.eq_false_iff.mpr c11
        subst c11
        have H1 : (dormouselaw10_good.l0 kj2 l1 0 l0_0 l0_1 l0_2 a0_3 a0_4 a0_5 a0_6 a0_7 a0_8) = some r := by rw [if_neg (show ¬ (false = true) by decide)] at H; exact H
        clear H
        have H := H1
        clear H1
        have H' := Aside0.mk H
        clear H
        go_wp2
        go_loopg [5] kj2 (fun kq v5 w' => ∃ (x5_2 : Int), v5 = .int .i64 x5_2 ∧ Aside0 (dormouselaw10_good.l0 kq l1 x5_2 l0_0 l0_1 l0_2 a0_3 a0_4 a0_5 a0_6 a0_7 a0_8 = some r) ∧ Aside0 (kq ≤ kj2) ∧ Aside0 (w'.heap[gb123]? = some (.cells #[(.slice A0_0 l0_0.length c0_0), (.slice A0_1 l0_1.length c0_1), (.slice A0_2 l0_2.length c0_2), .int .i64 a0_3, .int .i64 a0_4, .int .i64 a0_5, .int .i64 a0_6, .int .i64 a0_7, .int .i64 a0_8] 26 (0, 0))) ∧ Aside0 (Below w.heap.size w w'))
        case atStart => exact ⟨(0), (by first | rfl | (simp; done) | (simp [*]; done)), H', ⟨Nat.le_refl _⟩, ⟨by (with_reducible repeat (first | refine blk_drewN ?_ _ | refine blk_drew ?_ | refine blk_alloc ?_ _)); exact BK123.out⟩, ⟨by repeat (first | (with_reducible first | exact HB.out | apply below_alloc | apply pw_below_drewN | apply below_drew1 | refine below_set ?_ GE123.out) | exact HB.out)⟩⟩
        case round =>
          clear H'
          try clear c1
          try clear c2
          try clear p2
          try clear c6
          try clear c11
          try clear hcz7_0
          try clear hcz7_1
          try clear hcz7_2
          try clear hcz7_3
          try clear hcz7_4
          try clear hcz7_5
          try clear hcz7_6
          try clear hcz7_7
          try clear hcz7_8
          try clear hcz9_0
          try clear hcz9_1
          try clear hcz9_2
          try clear hcz9_3
          try clear hcz9_4
          try clear hcz9_5
          try clear hcz9_6
          try clear hcz9_7
          try clear hcz9_8
          try clear hfz7_0
          try clear hfz7_1
          try clear hfz7_2
          try clear hfz7_3
          try clear hfz7_4
          try clear hfz7_5
          try clear hfz7_6
          try clear hfz7_7
          try clear hfz7_8
          try clear hfz9_0
          try clear hfz9_1
          try clear hfz9_2
          try clear hfz9_3
          try clear hfz9_4
          try clear hfz9_5
          try clear hfz9_6
          try clear hfz9_7
          try clear hfz9_8
          try clear p2
          obtain ⟨x5_2, rfl, HA, HK2, BK123, HB⟩ := hrel
          cases gk with
          | zero => exact absurd HA.out (by simp [dormouselaw10_good.l0])
          | succ k2 =>
            have H := HA.out
            clear HA
            simp only [dormouselaw10_good.l0] at H
            by_cases c12 : x5_2 < (l1.length : Int)
            · rw [if_pos c12] at H
              have c12b0 : decide (x5_2 < (l1.length : Int)) = true := decide_eq_true c12
              clear c12
              by_cases c13 : 0 ≤ x5_2
              · rw [if_pos c13] at H
                have c13b0 : decide (0 ≤ x5_2) = true := decide_eq_true c13
                clear c13
                replace H := Option.bind_eq_some_iff.mp H
                obtain ⟨t126, A140, H⟩ := H
                replace H : (if t126 = true then (dormouselaw10_good.l0 k2 l1 (wrap64 (x5_2 + 1)) l0_0 l0_1 l0_2 a0_3 a0_4 a0_5 a0_6 a0_7 a0_8) else (some false)) = some r := H
                have A14 := Aside0.mk A140
                clear A140
                by_cases c15 : t126 = true
                · subst c15
                  have H1 : (dormouselaw10_good.l0 k2 l1 (wrap64 (x5_2 + 1)) l0_0 l0_1 l0_2 a0_3 a0_4 a0_5 a0_6 a0_7 a0_8) = some r := by rw [if_pos rfl] at H; exact H
                  clear H
                  have H := H1
                  clear H1
                  have H' := Aside0.mk H
                  clear H
                  try go_wp2
                  have n0_ := Aside0.mk (blk_drew BK123.out)
                  have n1_ := Aside0.mk (below_drew1 HB.out)
                  clear BK123
                  clear HB
                  have BK123 := n0_
                  have HB := n1_
                  clear n0_ n1_
                  have p125 : 0 ≤ (x5_2 : Int) := of_decide_eq_true (by first | (with_reducible assumption) | assumption)
                  have q125 : x5_2 < (l1.length : Int) := of_decide_eq_true (by first | (with_reducible assumption) | assumption)
                  obtain ⟨ad125, A125_2, c125_2, A125_3, c125_3, e125, hx125_0, hx125_1, hx125_2, hx125_3, hl125_2, hi125_2, hl125_3, hi125_3⟩ := at_T29 HR1.out x5_2 p125 q125
                  have hw125_3 := hx125_3
                  have hw125_2 := hx125_2
                  have hw125_1 := hx125_1
                  have hw125_0 := hx125_0
                  cases e125
                  replace hx125_0 := (HB.out.cell (World.block_lt_of_cell? w _ hx125_0)).trans hx125_0
                  replace hx125_1 := (HB.out.cell (World.block_lt_of_cell? w _ hx125_1)).trans hx125_1
                  replace hx125_2 := (HB.out.cell (World.block_lt_of_cell? w _ hx125_2)).trans hx125_2
                  replace hx125_3 := (HB.out.cell (World.block_lt_of_cell? w _ hx125_3)).trans hx125_3
                  have HR125_2 := Aside0.mk hi125_2
                  have HC125_2 := Aside0.mk hl125_2
                  clear hi125_2 hl125_2
                  have HR125_3 := Aside0.mk hi125_3
                  have HC125_3 := Aside0.mk hl125_3
                  clear hi125_3 hl125_3
                  replace p125 := eq_true p125
                  replace q125 := eq_true q125
                  refine start_ (n := 7) (S := fun w' => w'.cell? ⟨gb123, 0, none⟩ = some (.slice A0_0 l0_0.length c0_0) ∧ w'.cell? ⟨gb123, 1, none⟩ = some (.slice A0_1 l0_1.length c0_1) ∧ w'.cell? ⟨gb123, 2, none⟩ = some (.slice A0_2 l0_2.length c0_2) ∧ w'.cell? ⟨gb123, 3, none⟩ = some (.int .i64 a0_3) ∧ w'.cell? ⟨gb123, 4, none⟩ = some (.int .i64 a0_4) ∧ w'.cell? ⟨gb123, 5, none⟩ = some (.int .i64 a0_5) ∧ w'.cell? ⟨gb123, 6, none⟩ = some (.int .i64 a0_6) ∧ w'.cell? ⟨gb123, 7, none⟩ = some (.int .i64 a0_7) ∧ w'.cell? ⟨gb123, 8, none⟩ = some (.int .i64 a0_8) ∧ w'.cell? (ad125.add ((x5_2).toNat * 4)) = some (.int .i64 ((rd_T29 l1 x5_2).f0)) ∧ w'.cell? ⟨(ad125.add ((x5_2).toNat * 4)).block, (ad125.add ((x5_2).toNat * 4)).off + 1, none⟩ = some (.int .i64 ((rd_T29 l1 x5_2).f1)) ∧ w'.cell? ⟨(ad125.add ((x5_2).toNat * 4)).block, (ad125.add ((x5_2).toNat * 4)).off + 2, none⟩ = some (.slice A125_2 ((rd_T29 l1 x5_2).f2).length c125_2) ∧ w'.cell? ⟨(ad125.add ((x5_2).toNat * 4)).block, (ad125.add ((x5_2).toNat * 4)).off + 3, none⟩ = some (.slice A125_3 ((rd_T29 l1 x5_2).f3).length c125_3)) (ds := []) #[false, false, false, false, false, false, false] (by kernel_rfl) rfl rfl ⟨(blk_cell BK123.out 0).trans rfl, (blk_cell BK123.out 1).trans rfl, (blk_cell BK123.out 2).trans rfl, (blk_cell BK123.out 3).trans rfl, (blk_cell BK123.out 4).trans rfl, (blk_cell BK123.out 5).trans rfl, (blk_cell BK123.out 6).trans rfl, (blk_cell BK123.out 7).trans rfl, (blk_cell BK123.out 8).trans rfl, ((HB.out.cell (World.block_lt_of_cell? w _ hw125_0)).trans hw125_0), ((HB.out.cell (World.block_lt_of_cell? w _ hw125_1)).trans hw125_1), ((HB.out.cell (World.block_lt_of_cell? w _ hw125_2)).trans hw125_2), ((HB.out.cell (World.block_lt_of_cell? w _ hw125_3)).trans hw125_3)⟩ (fun hHeld => ?_)
                  generalize wr.drew = w16 at BK123 HB HR125_2 HR125_3 hx125_0 hx125_1 hx125_2 hx125_3 hHeld ⊢
                  refine pure_ (i := 1) (N := some 21) (v := ?_) (a' := ?_) #[false, true, false, false, false, false, false] rfl rfl (by kernel_rfl) (fun _ _ _ h => h) (Or.inl ⟨by rfl, ?_⟩) ?_ ?_
                  rotate_left
                  · intro w'
                    go_simp
                    with_reducible rfl
                  rotate_left
                  · simp only [Act.put, List.setIfInBounds_toArray, List.set_cons_zero, List.set_cons_succ, i64_w, i32_w]
                    rfl
                  refine pure_ (i := 2) (N := some 22) (v := ?_) (a' := ?_) #[false, true, true, false, false, false, false] rfl rfl (by kernel_rfl) (fun _ _ _ h => h) (Or.inl ⟨by rfl, ?_⟩) ?_ ?_
                  rotate_left
                  · intro w'
                    go_simp
                    with_reducible rfl
                  rotate_left
                  · simp only [Act.put, List.setIfInBounds_toArray, List.set_cons_zero, List.set_cons_succ, i64_w, i32_w]
                    rfl
                  refine pure_ (i := 3) (N := some 23) (v := ?_) (a' := ?_) #[false, true, true, true, false, false, false] rfl rfl (by kernel_rfl) (fun _ _ _ h => h) (Or.inl ⟨by rfl, ?_⟩) ?_ ?_
                  rotate_left
                  · intro w'
                    go_simp
                    with_reducible rfl
                  rotate_left
                  · simp only [Act.put, List.setIfInBounds_toArray, List.set_cons_zero, List.set_cons_succ, i64_w, i32_w]
                    rfl
                  refine take_ (i := 0) (N := some 20) (v := ?_) (a' := ?_) #[true, true, true, true, false, false, false] rfl rfl (by kernel_rfl) (fun _ _ _ h => h) (Or.inl ⟨by rfl, ?_⟩) hHeld ?_ ?_
                  rotate_left
                  · rintro w' ⟨s0, s1, s2, s3, s4, s5, s6, s7, s8, s9, s10, s11, s12⟩
                    go_simp
                    with_reducible rfl
                  rotate_left
                  · simp only [Act.put, List.setIfInBounds_toArray, List.set_cons_zero, List.set_cons_succ, i64_w, i32_w]
                    rfl
                  refine take_ (i := 4) (N := some 24) (v := ?_) (a' := ?_) #[true, true, true, true, true, false, false] rfl rfl (by kernel_rfl) (fun _ _ _ h => h) (Or.inl ⟨by rfl, ?_⟩) hHeld ?_ ?_
                  rotate_left
                  · rintro w' ⟨s0, s1, s2, s3, s4, s5, s6, s7, s8, s9, s10, s11, s12⟩
                    go_simp
                    with_reducible rfl
                  rotate_left
                  · simp only [Act.put, List.setIfInBounds_toArray, List.set_cons_zero, List.set_cons_succ, i64_w, i32_w]
                    rfl
                  refine one_ (i := 5) (N := some 25) #[true, true, true, true, true, true, false] rfl rfl (by kernel_rfl) (by decide) (fun K hK => ?_)
                  refine goes_ Try.func28 (by kernel_rfl) rfl #[.agg #[.slice A0_0 l0_0.length c0_0, .slice A0_1 l0_1.length c0_1, .slice A0_2 l0_2.length c0_2, .int .i64 a0_3, .int .i64 a0_4, .int .i64 a0_5, .int .i64 a0_6, .int .i64 a0_7, .int .i64 a0_8], .agg #[.int .i64 ((rd_T29 l1 x5_2).f0), .int .i64 ((rd_T29 l1 x5_2).f1), .slice A125_2 ((rd_T29 l1 x5_2).f2).length c125_2, .slice A125_3 ((rd_T29 l1 x5_2).f3).length c125_3]] (by rfl) rfl rfl (by (try simp only [List.map_toArray, List.map_cons, List.map_nil]); first | done | rfl | (simp only [List.length_drop, List.length_take]; rfl)) ?_
                  with_reducible refine (dormouseref09_Task.calls k2 _ _ l0_0 _ _ l0_1 _ _ l0_2 a0_3 a0_4 a0_5 a0_6 a0_7 a0_8 ((rd_T29 l1 x5_2).f0) ((rd_T29 l1 x5_2).f1) _ _ ((rd_T29 l1 x5_2).f2) _ _ ((rd_T29 l1 x5_2).f3) true _ ?side1 ?side2 ?side3 ?side4 ?side5 ?side6 ?side7 ?side8 ?side9 ?side10 A14.out).mono ?_
                  (case side1 => repeat (first | exact (Kd.C_below HR0_0.out HB.out) | (with_reducible refine Kd.C_alloc ?_ _) | (with_reducible refine Kd.C_drewN ?_ _) | (with_reducible refine Kd.C_drew ?_)))
                  (case side2 => exact HC0_0.out)
                  (case side3 => repeat (first | exact (Kd.C_below HR0_1.out HB.out) | (with_reducible refine Kd.C_alloc ?_ _) | (with_reducible refine Kd.C_drewN ?_ _) | (with_reducible refine Kd.C_drew ?_)))
                  (case side4 => exact HC0_1.out)
                  (case side5 => repeat (first | exact (Kd.C_below HR0_2.out HB.out) | (with_reducible refine Kd.C_alloc ?_ _) | (with_reducible refine Kd.C_drewN ?_ _) | (with_reducible refine Kd.C_drew ?_)))
                  (case side6 => exact HC0_2.out)
                  (case side7 => repeat (first | exact (Kd.C_below HR125_2.out HB.out) | (with_reducible refine Kd.C_alloc ?_ _) | (with_reducible refine Kd.C_drewN ?_ _) | (with_reducible refine Kd.C_drew ?_)))
                  (case side8 => exact HC125_2.out)
                  (case side9 => repeat (first | exact (Kd.C_below HR125_3.out HB.out) | (with_reducible refine Kd.C_alloc ?_ _) | (with_reducible refine Kd.C_drewN ?_ _) | (with_reducible refine Kd.C_drew ?_)))
                  (case side10 => exact HC125_3.out)
                  rintro e w17 ⟨rfl, hb⟩
                  refine ⟨_, rfl, ?_⟩
                  have n0_ := Aside0.mk (blk_below (g := gb123) (o := .cells #[.slice A0_0 l0_0.length c0_0, .slice A0_1 l0_1.length c0_1, .slice A0_2 l0_2.length c0_2, .int .i64 a0_3, .int .i64 a0_4, .int .i64 a0_5, .int .i64 a0_6, .int .i64 a0_7, .int .i64 a0_8] 26 (0, 0)) (by (with_reducible repeat (first | refine blk_drewN ?_ _ | refine blk_drew ?_ | refine blk_alloc ?_ _)); exact BK123.out) hb)
                  have n1_ := Aside0.mk (below_step (by repeat (first | (with_reducible first | exact HB.out | apply below_alloc | apply pw_below_drewN | apply below_drew1 | refine below_set ?_ GE123.out) | exact HB.out)) hb)
                  clear BK123
                  clear HB
                  have BK123 := n0_
                  have HB := n1_
                  clear n0_ n1_
                  (try clear hb)
                  (try clear hb2)
                  (try clear hk)
                  (try clear hi)
                  refine hK.out _ _ ⟨(blk_cell BK123.out 0).trans rfl, (blk_cell BK123.out 1).trans rfl, (blk_cell BK123.out 2).trans rfl, (blk_cell BK123.out 3).trans rfl, (blk_cell BK123.out 4).trans rfl, (blk_cell BK123.out 5).trans rfl, (blk_cell BK123.out 6).trans rfl, (blk_cell BK123.out 7).trans rfl, (blk_cell BK123.out 8).trans rfl, ((HB.out.cell (World.block_lt_of_cell? w _ hw125_0)).trans hw125_0), ((HB.out.cell (World.block_lt_of_cell? w _ hw125_1)).trans hw125_1), ((HB.out.cell (World.block_lt_of_cell? w _ hw125_2)).trans hw125_2), ((HB.out.cell (World.block_lt_of_cell? w _ hw125_3)).trans hw125_3)⟩ (fun hHeld => ?_)
                  clear hK K
                  refine norm_ (a' := ?_) ?_ ?_
                  rotate_left
                  · show Act.put _ (some 25) _ = _
                    simp only [Act.put, List.setIfInBounds_toArray, List.set_cons_zero, List.set_cons_succ, i64_w, i32_w]
                    rfl
                  refine pure_ (i := 6) (N := some 26) (v := ?_) (a' := ?_) #[true, true, true, true, true, true, true] rfl rfl (by kernel_rfl) (fun _ _ _ h => h) (Or.inl ⟨by rfl, ?_⟩) ?_ ?_
                  rotate_left
                  · intro w'
                    go_simp
                    with_reducible rfl
                  rotate_left
                  · simp only [Act.put, List.setIfInBounds_toArray, List.set_cons_zero, List.set_cons_succ, i64_w, i32_w]
                    rfl
                  refine done_ (by kernel_rfl) ?_
                  try go_wp2
                  go_roundg k2
                  case measure => have := HJ2.out; have := HK2.out; omega
                  case rel => exact ⟨(wrap64 (x5_2 + 1)), (by first | rfl | (simp; done) | (simp [*]; done)), H', ⟨by have := HJ2.out; have := HK2.out; omega⟩, ⟨by (with_reducible repeat (first | refine blk_drewN ?_ _ | refine blk_drew ?_ | refine blk_alloc ?_ _)); exact BK123.out⟩, ⟨by repeat (first | (with_reducible first | exact HB.out | apply below_alloc | apply pw_below_drewN | apply below_drew1 | refine below_set ?_ GE123.out) | exact HB.out)⟩⟩
                · replace c15 := Bool.eq_false_iff.mpr c15
                  subst c15
                  have H1 : (some false) = some r := by rw [if_neg (show ¬ (false = true) by decide)] at H; exact H
                  clear H
                  have H := H1
                  clear H1
                  obtain rfl := Option.some.inj H
                  try go_wp2
                  have n0_ := Aside0.mk (blk_drew BK123.out)
                  have n1_ := Aside0.mk (below_drew1 HB.out)
                  clear BK123
                  clear HB
                  have BK123 := n0_
                  have HB := n1_
                  clear n0_ n1_
                  have p125 : 0 ≤ (x5_2 : Int) := of_decide_eq_true (by first | (with_reducible assumption) | assumption)
                  have q125 : x5_2 < (l1.length : Int) := of_decide_eq_true (by first | (with_reducible assumption) | assumption)
                  obtain ⟨ad125, A125_2, c125_2, A125_3, c125_3, e125, hx125_0, hx125_1, hx125_2, hx125_3, hl125_2, hi125_2, hl125_3, hi125_3⟩ := at_T29 HR1.out x5_2 p125 q125
                  have hw125_3 := hx125_3
                  have hw125_2 := hx125_2
                  have hw125_1 := hx125_1
                  have hw125_0 := hx125_0
                  cases e125
                  replace hx125_0 := (HB.out.cell (World.block_lt_of_cell? w _ hx125_0)).trans hx125_0
                  replace hx125_1 := (HB.out.cell (World.block_lt_of_cell? w _ hx125_1)).trans hx125_1
                  replace hx125_2 := (HB.out.cell (World.block_lt_of_cell? w _ hx125_2)).trans hx125_2
                  replace hx125_3 := (HB.out.cell (World.block_lt_of_cell? w _ hx125_3)).trans hx125_3
                  have HR125_2 := Aside0.mk hi125_2
                  have HC125_2 := Aside0.mk hl125_2
                  clear hi125_2 hl125_2
                  have HR125_3 := Aside0.mk hi125_3
                  have HC125_3 := Aside0.mk hl125_3
                  clear hi125_3 hl125_3
                  replace p125 := eq_true p125
                  replace q125 := eq_true q125
                  refine start_ (n := 7) (S := fun w' => w'.cell? ⟨gb123, 0, none⟩ = some (.slice A0_0 l0_0.length c0_0) ∧ w'.cell? ⟨gb123, 1, none⟩ = some (.slice A0_1 l0_1.length c0_1) ∧ w'.cell? ⟨gb123, 2, none⟩ = some (.slice A0_2 l0_2.length c0_2) ∧ w'.cell? ⟨gb123, 3, none⟩ = some (.int .i64 a0_3) ∧ w'.cell? ⟨gb123, 4, none⟩ = some (.int .i64 a0_4) ∧ w'.cell? ⟨gb123, 5, none⟩ = some (.int .i64 a0_5) ∧ w'.cell? ⟨gb123, 6, none⟩ = some (.int .i64 a0_6) ∧ w'.cell? ⟨gb123, 7, none⟩ = some (.int .i64 a0_7) ∧ w'.cell? ⟨gb123, 8, none⟩ = some (.int .i64 a0_8) ∧ w'.cell? (ad125.add ((x5_2).toNat * 4)) = some (.int .i64 ((rd_T29 l1 x5_2).f0)) ∧ w'.cell? ⟨(ad125.add ((x5_2).toNat * 4)).block, (ad125.add ((x5_2).toNat * 4)).off + 1, none⟩ = some (.int .i64 ((rd_T29 l1 x5_2).f1)) ∧ w'.cell? ⟨(ad125.add ((x5_2).toNat * 4)).block, (ad125.add ((x5_2).toNat * 4)).off + 2, none⟩ = some (.slice A125_2 ((rd_T29 l1 x5_2).f2).length c125_2) ∧ w'.cell? ⟨(ad125.add ((x5_2).toNat * 4)).block, (ad125.add ((x5_2).toNat * 4)).off + 3, none⟩ = some (.slice A125_3 ((rd_T29 l1 x5_2).f3).length c125_3)) (ds := []) #[false, false, false, false, false, false, false] (by kernel_rfl) rfl rfl ⟨(blk_cell BK123.out 0).trans rfl, (blk_cell BK123.out 1).trans rfl, (blk_cell BK123.out 2).trans rfl, (blk_cell BK123.out 3).trans rfl, (blk_cell BK123.out 4).trans rfl, (blk_cell BK123.out 5).trans rfl, (blk_cell BK123.out 6).trans rfl, (blk_cell BK123.out 7).trans rfl, (blk_cell BK123.out 8).trans rfl, ((HB.out.cell (World.block_lt_of_cell? w _ hw125_0)).trans hw125_0), ((HB.out.cell (World.block_lt_of_cell? w _ hw125_1)).trans hw125_1), ((HB.out.cell (World.block_lt_of_cell? w _ hw125_2)).trans hw125_2), ((HB.out.cell (World.block_lt_of_cell? w _ hw125_3)).trans hw125_3)⟩ (fun hHeld => ?_)
                  generalize wr.drew = w18 at BK123 HB HR125_2 HR125_3 hx125_0 hx125_1 hx125_2 hx125_3 hHeld ⊢
                  refine pure_ (i := 1) (N := some 21) (v := ?_) (a' := ?_) #[false, true, false, false, false, false, false] rfl rfl (by kernel_rfl) (fun _ _ _ h => h) (Or.inl ⟨by rfl, ?_⟩) ?_ ?_
                  rotate_left
                  · intro w'
                    go_simp
                    with_reducible rfl
                  rotate_left
                  · simp only [Act.put, List.setIfInBounds_toArray, List.set_cons_zero, List.set_cons_succ, i64_w, i32_w]
                    rfl
                  refine pure_ (i := 2) (N := some 22) (v := ?_) (a' := ?_) #[false, true, true, false, false, false, false] rfl rfl (by kernel_rfl) (fun _ _ _ h => h) (Or.inl ⟨by rfl, ?_⟩) ?_ ?_
                  rotate_left
                  · intro w'
                    go_simp
                    with_reducible rfl
                  rotate_left
                  · simp only [Act.put, List.setIfInBounds_toArray, List.set_cons_zero, List.set_cons_succ, i64_w, i32_w]
                    rfl
                  refine pure_ (i := 3) (N := some 23) (v := ?_) (a' := ?_) #[false, true, true, true, false, false, false] rfl rfl (by kernel_rfl) (fun _ _ _ h => h) (Or.inl ⟨by rfl, ?_⟩) ?_ ?_
                  rotate_left
                  · intro w'
                    go_simp
                    with_reducible rfl
                  rotate_left
                  · simp only [Act.put, List.setIfInBounds_toArray, List.set_cons_zero, List.set_cons_succ, i64_w, i32_w]
                    rfl
                  refine take_ (i := 0) (N := some 20) (v := ?_) (a' := ?_) #[true, true, true, true, false, false, false] rfl rfl (by kernel_rfl) (fun _ _ _ h => h) (Or.inl ⟨by rfl, ?_⟩) hHeld ?_ ?_
                  rotate_left
                  · rintro w' ⟨s0, s1, s2, s3, s4, s5, s6, s7, s8, s9, s10, s11, s12⟩
                    go_simp
                    with_reducible rfl
                  rotate_left
                  · simp only [Act.put, List.setIfInBounds_toArray, List.set_cons_zero, List.set_cons_succ, i64_w, i32_w]
                    rfl
                  refine take_ (i := 4) (N := some 24) (v := ?_) (a' := ?_) #[true, true, true, true, true, false, false] rfl rfl (by kernel_rfl) (fun _ _ _ h => h) (Or.inl ⟨by rfl, ?_⟩) hHeld ?_ ?_
                  rotate_left
                  · rintro w' ⟨s0, s1, s2, s3, s4, s5, s6, s7, s8, s9, s10, s11, s12⟩
                    go_simp
                    with_reducible rfl
                  rotate_left
                  · simp only [Act.put, List.setIfInBounds_toArray, List.set_cons_zero, List.set_cons_succ, i64_w, i32_w]
                    rfl
                  refine one_ (i := 5) (N := some 25) #[true, true, true, true, true, true, false] rfl rfl (by kernel_rfl) (by decide) (fun K hK => ?_)
                  refine goes_ Try.func28 (by kernel_rfl) rfl #[.agg #[.slice A0_0 l0_0.length c0_0, .slice A0_1 l0_1.length c0_1, .slice A0_2 l0_2.length c0_2, .int .i64 a0_3, .int .i64 a0_4, .int .i64 a0_5, .int .i64 a0_6, .int .i64 a0_7, .int .i64 a0_8], .agg #[.int .i64 ((rd_T29 l1 x5_2).f0), .int .i64 ((rd_T29 l1 x5_2).f1), .slice A125_2 ((rd_T29 l1 x5_2).f2).length c125_2, .slice A125_3 ((rd_T29 l1 x5_2).f3).length c125_3]] (by rfl) rfl rfl (by (try simp only [List.map_toArray, List.map_cons, List.map_nil]); first | done | rfl | (simp only [List.length_drop, List.length_take]; rfl)) ?_
                  with_reducible refine (dormouseref09_Task.calls k2 _ _ l0_0 _ _ l0_1 _ _ l0_2 a0_3 a0_4 a0_5 a0_6 a0_7 a0_8 ((rd_T29 l1 x5_2).f0) ((rd_T29 l1 x5_2).f1) _ _ ((rd_T29 l1 x5_2).f2) _ _ ((rd_T29 l1 x5_2).f3) false _ ?side1 ?side2 ?side3 ?side4 ?side5 ?side6 ?side7 ?side8 ?side9 ?side10 A14.out).mono ?_
                  (case side1 => repeat (first | exact (Kd.C_below HR0_0.out HB.out) | (with_reducible refine Kd.C_alloc ?_ _) | (with_reducible refine Kd.C_drewN ?_ _) | (with_reducible refine Kd.C_drew ?_)))
                  (case side2 => exact HC0_0.out)
                  (case side3 => repeat (first | exact (Kd.C_below HR0_1.out HB.out) | (with_reducible refine Kd.C_alloc ?_ _) | (with_reducible refine Kd.C_drewN ?_ _) | (with_reducible refine Kd.C_drew ?_)))
                  (case side4 => exact HC0_1.out)
                  (case side5 => repeat (first | exact (Kd.C_below HR0_2.out HB.out) | (with_reducible refine Kd.C_alloc ?_ _) | (with_reducible refine Kd.C_drewN ?_ _) | (with_reducible refine Kd.C_drew ?_)))
                  (case side6 => exact HC0_2.out)
                  (case side7 => repeat (first | exact (Kd.C_below HR125_2.out HB.out) | (with_reducible refine Kd.C_alloc ?_ _) | (with_reducible refine Kd.C_drewN ?_ _) | (with_reducible refine Kd.C_drew ?_)))
                  (case side8 => exact HC125_2.out)
                  (case side9 => repeat (first | exact (Kd.C_below HR125_3.out HB.out) | (with_reducible refine Kd.C_alloc ?_ _) | (with_reducible refine Kd.C_drewN ?_ _) | (with_reducible refine Kd.C_drew ?_)))
                  (case side10 => exact HC125_3.out)
                  rintro e w19 ⟨rfl, hb⟩
                  refine ⟨_, rfl, ?_⟩
                  have n0_ := Aside0.mk (blk_below (g := gb123) (o := .cells #[.slice A0_0 l0_0.length c0_0, .slice A0_1 l0_1.length c0_1, .slice A0_2 l0_2.length c0_2, .int .i64 a0_3, .int .i64 a0_4, .int .i64 a0_5, .int .i64 a0_6, .int .i64 a0_7, .int .i64 a0_8] 26 (0, 0)) (by (with_reducible repeat (first | refine blk_drewN ?_ _ | refine blk_drew ?_ | refine blk_alloc ?_ _)); exact BK123.out) hb)
                  have n1_ := Aside0.mk (below_step (by repeat (first | (with_reducible first | exact HB.out | apply below_alloc | apply pw_below_drewN | apply below_drew1 | refine below_set ?_ GE123.out) | exact HB.out)) hb)
                  clear BK123
                  clear HB
                  have BK123 := n0_
                  have HB := n1_
                  clear n0_ n1_
                  (try clear hb)
                  (try clear hb2)
                  (try clear hk)
                  (try clear hi)
                  refine hK.out _ _ ⟨(blk_cell BK123.out 0).trans rfl, (blk_cell BK123.out 1).trans rfl, (blk_cell BK123.out 2).trans rfl, (blk_cell BK123.out 3).trans rfl, (blk_cell BK123.out 4).trans rfl, (blk_cell BK123.out 5).trans rfl, (blk_cell BK123.out 6).trans rfl, (blk_cell BK123.out 7).trans rfl, (blk_cell BK123.out 8).trans rfl, ((HB.out.cell (World.block_lt_of_cell? w _ hw125_0)).trans hw125_0), ((HB.out.cell (World.block_lt_of_cell? w _ hw125_1)).trans hw125_1), ((HB.out.cell (World.block_lt_of_cell? w _ hw125_2)).trans hw125_2), ((HB.out.cell (World.block_lt_of_cell? w _ hw125_3)).trans hw125_3)⟩ (fun hHeld => ?_)
                  clear hK K
                  refine norm_ (a' := ?_) ?_ ?_
                  rotate_left
                  · show Act.put _ (some 25) _ = _
                    simp only [Act.put, List.setIfInBounds_toArray, List.set_cons_zero, List.set_cons_succ, i64_w, i32_w]
                    rfl
                  refine pure_ (i := 6) (N := some 26) (v := ?_) (a' := ?_) #[true, true, true, true, true, true, true] rfl rfl (by kernel_rfl) (fun _ _ _ h => h) (Or.inl ⟨by rfl, ?_⟩) ?_ ?_
                  rotate_left
                  · intro w'
                    go_simp
                    with_reducible rfl
                  rotate_left
                  · simp only [Act.put, List.setIfInBounds_toArray, List.set_cons_zero, List.set_cons_succ, i64_w, i32_w]
                    rfl
                  refine done_ (by kernel_rfl) ?_
                  try go_wp2
                  go_ret
                  exact ⟨by first | rfl | (simp [errW_none, errW_some] <;> rfl) | (simp [*, errW_none, errW_some] <;> rfl), by repeat (first | (with_reducible first | exact HB.out | apply below_alloc | apply pw_below_drewN | apply below_drew1 | refine below_set ?_ GE123.out) | exact HB.out)⟩
              · rw [if_neg c13] at H
                exact absurd H (by simp)
            · rw [if_neg c12] at H
              have c12b0 : decide (x5_2 < (l1.length : Int)) = false := decide_eq_false c12
              clear c12
              obtain rfl := Option.some.inj H
              go_wp2
              go_ret
              exact ⟨by first | rfl | (simp [errW_none, errW_some] <;> rfl) | (simp [*, errW_none, errW_some] <;> rfl), by repeat (first | (with_reducible first | exact HB.out | apply below_alloc | apply pw_below_drewN | apply below_drew1 | refine below_set ?_ GE123.out) | exact HB.out)⟩
end
end Go.Proofs.Ytonlaboeodddeaa.F
namespace Go.Proofs.Ytonlaboeodddeaa.Adm
open Go.RowKit Go.Proofs.Ytonlaboeodddeaa.F Go.Proofs.Ytonlaboeodddeaa.Tbl Go.Proofs.YtonlaboeodddeaaW.PrintWords Go.Proofs.YtonlaboeodddeaaW.PrintLast
section
variable {l0 : List S34} {l1 : List S55} {l2 : List S58} {idle crit sw swE sems hor : Int}
open Classical in
noncomputable def goodB (l0 : List S34) (l1 : List S55) (l2 : List S58) (idle crit sw swE sems hor : Int) (l : List S29) : Bool := decide (Mach l0 l1 l2 idle crit sw swE sems hor l)
theorem goodB_no {l : List S29} (h : ¬ Mach l0 l1 l2 idle crit sw swE sems hor l) : goodB l0 l1 l2 idle crit sw swE sems hor l = false := by simp [goodB, h]
theorem goodB_yes {l : List S29} (h : Mach l0 l1 l2 idle crit sw swE sems hor l) : goodB l0 l1 l2 idle crit sw swE sems hor l = true := by simp [goodB, h]
theorem good_loop (T : TableOk l0 l1 l2 idle crit sw swE sems hor) (l : List S29) (hn : l.length ≤ 64) : ∀ (d i k : Nat), i + d = l.length → 1200 + d < k → (∀ j : Nat, j < i → TaskOk l2.length sems hor (rd_T29 l j)) →
    dormouselaw10_good.l0 k l i l0 l1 l2 idle crit sw swE sems hor = some (goodB l0 l1 l2 idle crit sw swE sems hor l)
  | 0, i, k, h, hk, h1 => by
    obtain ⟨k, rfl⟩ : ∃ q, k = q + 1 := ⟨k - 1, by omega⟩
    simp only [dormouselaw10_good.l0]
    rw [if_neg (by omega), goodB_yes ⟨T, hn, fun t ht => ?_⟩]
    obtain ⟨j, hj, rfl⟩ := List.getElem_of_mem ht
    have := h1 j (by omega)
    unfold rd_T29 at this
    rw [Int.toNat_natCast, List.getD_eq_getElem?_getD, List.getElem?_eq_getElem hj] at this
    exact this
  | d + 1, i, k, h, hk, h1 => by
    obtain ⟨k, rfl⟩ : ∃ q, k = q + 1 := ⟨k - 1, by omega⟩
    have hd := head_of T
    have hnd : l2.length ≤ 1000 := by have := T.head; unfold Head at this; omega
    simp only [dormouselaw10_good.l0]
    rw [if_pos (by omega), if_pos (by omega), task_some _ hnd (by omega) (by omega), Option.bind_some]
    by_cases c : TaskOk l2.length sems hor (rd_T29 l i)
    · rw [if_pos (taskB_yes c), w64 (n := (i : Int) + 1) (by omega) (by omega)]
      have := good_loop T l hn d (i + 1) k (by omega) (by omega) (fun j hj => by
        rcases Nat.lt_or_ge j i with h | h
        · exact h1 j h
        · obtain rfl : j = i := by omega
          exact c)
      rw [show ((i + 1 : Nat) : Int) = (i : Int) + 1 from by omega] at this
      exact this
    · rw [taskB_no c, if_neg (by simp), goodB_no (fun x => c (x.task _ (rd_mem l (by omega))))]
theorem good_some (l : List S29) {k : Nat} (hk : 1400 < k) : dormouselaw10_good.f k l0 l1 l2 idle crit sw swE sems hor l = some (goodB l0 l1 l2 idle crit sw swE sems hor l) := by
  obtain ⟨k, rfl⟩ : ∃ q, k = q + 1 := ⟨k - 1, by omega⟩
  unfold dormouselaw10_good.f dormouseref01_Table.f
  rw [Option.bind_some]
  by_cases T : TableOk l0 l1 l2 idle crit sw swE sems hor
  · rw [if_pos (by simp [tableB, T])]
    simp only [dormouselaw10_good.j0]
    by_cases c : (l.length : Int) > 64
    · rw [if_pos (decide_eq_true c), goodB_no (fun x => by have := x.few; omega)]
    · rw [if_neg (by simpa using c)]
      have := good_loop T l (by omega) l.length 0 k (by omega) (by omega) (fun j hj => by omega)
      rw [show ((0 : Nat) : Int) = 0 from rfl] at this
      exact this
  · rw [if_neg (by simp [tableB, T])]
    simp only [dormouselaw10_good.j0]
    rw [if_pos (by trivial), goodB_no (fun x => T x.table)]
end
end Go.Proofs.Ytonlaboeodddeaa.Adm
namespace Go.Proofs.Ytonlaboeodddeaa.Opn
open Go.RowKit Go.Proofs.Ytonlaboeodddeaa.F Go.Proofs.YtonlaboeodddeaaW.PrintWords Go.Proofs.YtonlaboeodddeaaW.PrintLast Go.Proofs.YtonlaboeodddeaaW.PrintMore
instance : Inhabited S29 := ⟨z29⟩
theorem oTask : Opens Try.prog 29 k29 (fun _ => True) :=
  opens_imp (opens_iso (f := fun x : S29 => (x.f0, x.f1, x.f2, x.f3)) (fun x => ⟨x.1, x.2.1, x.2.2.1, x.2.2.2⟩) (fun _ => rfl) (opens_struct Try.underlying29 (by kernel_rfl)
    (opensF_cons rfl (by kernel_rfl) oAny (opensF_cons rfl (by kernel_rfl) oAny (opensF_cons rfl (by kernel_rfl) (opens_slice Try.underlying27 (by kernel_rfl) oAny) (opensF_one rfl (by kernel_rfl) (opens_slice Try.underlying27 (by kernel_rfl) oAny))))))) (fun _ _ => trivial)
theorem oTasks : Opens Try.prog 31 (Kd.slice 29 k29) (fun _ => True) := opens_imp (opens_slice Try.underlying31 (by kernel_rfl) oTask) (fun _ _ => trivial)
end Go.Proofs.Ytonlaboeodddeaa.Opn
namespace Go.Proofs.Ytonlaboeodddeaa.Law
open Go.RowKit Go.Proofs.Ytonlaboeodddeaa.F Go.Proofs.Ytonlaboeodddeaa.Tbl Go.Proofs.Ytonlaboeodddeaa.Adm Go.Proofs.Ytonlaboeodddeaa.Hw Go.Proofs.Ytonlaboeodddeaa.Opn Go.Proofs.YtonlaboeodddeaaW.PrintWords Go.Proofs.YtonlaboeodddeaaW.PrintLast Go.Proofs.YtonlaboeodddeaaW.PrintMore
set_option linter.unusedVariables false
attribute [local go_sem] max2_int min2_int max_two min_two max_three min_three max_four min_four
theorem admit_Load_at {n_ : Nat} (k : Nat) (A0_0 : Option Addr) (c0_0 : Nat) (l0_0 : List (S34)) (A0_1 : Option Addr) (c0_1 : Nat) (l0_1 : List (S55)) (A0_2 : Option Addr) (c0_2 : Nat) (l0_2 : List (S58)) (a0_3 : Int) (a0_4 : Int) (a0_5 : Int) (a0_6 : Int) (a0_7 : Int) (a0_8 : Int) (A1 : Option Addr) (c1 : Nat) (l1 : List (S29)) (a2 : Int) (r : Int) (w : World) (hr0_0 : Kd.C k34 w A0_0 l0_0.length l0_0) (hc0_0 : l0_0.length ≤ c0_0) (hr0_1 : Kd.C k55 w A0_1 l0_1.length l0_1) (hc0_1 : l0_1.length ≤ c0_1) (hr0_2 : Kd.C k58 w A0_2 l0_2.length l0_2) (hc0_2 : l0_2.length ≤ c0_2) (hr1 : Kd.C k29 w A1 l1.length l1) (hc1 : l1.length ≤ c1) (h : admit_Load.f k l0_0 l0_1 l0_2 a0_3 a0_4 a0_5 a0_6 a0_7 a0_8 l1 a2 = some r) (hn_ : l1.length = n_) :
    Calls Try.prog 21 #[.agg #[.slice A0_0 l0_0.length c0_0, .slice A0_1 l0_1.length c0_1, .slice A0_2 l0_2.length c0_2, .int .i64 a0_3, .int .i64 a0_4, .int .i64 a0_5, .int .i64 a0_6, .int .i64 a0_7, .int .i64 a0_8], .slice A1 n_ c1, .int .i64 a2] w fun e w' => e = .returned (.int .i64 r) ∧ Below w.heap.size w w' := by
  subst hn_
  exact admit_Load.calls k A0_0 c0_0 l0_0 A0_1 c0_1 l0_1 A0_2 c0_2 l0_2 a0_3 a0_4 a0_5 a0_6 a0_7 a0_8 A1 c1 l1 a2 r w hr0_0 hc0_0 hr0_1 hc0_1 hr0_2 hc0_2 hr1 hc1 h
theorem admit_Reserve_at {n_ : Nat} (k : Nat) (A0_0 : Option Addr) (c0_0 : Nat) (l0_0 : List (S34)) (A0_1 : Option Addr) (c0_1 : Nat) (l0_1 : List (S55)) (A0_2 : Option Addr) (c0_2 : Nat) (l0_2 : List (S58)) (a0_3 : Int) (a0_4 : Int) (a0_5 : Int) (a0_6 : Int) (a0_7 : Int) (a0_8 : Int) (A1 : Option Addr) (c1 : Nat) (l1 : List (S29)) (r : Int) (w : World) (hr0_0 : Kd.C k34 w A0_0 l0_0.length l0_0) (hc0_0 : l0_0.length ≤ c0_0) (hr0_1 : Kd.C k55 w A0_1 l0_1.length l0_1) (hc0_1 : l0_1.length ≤ c0_1) (hr0_2 : Kd.C k58 w A0_2 l0_2.length l0_2) (hc0_2 : l0_2.length ≤ c0_2) (hr1 : Kd.C k29 w A1 l1.length l1) (hc1 : l1.length ≤ c1) (h : admit_Reserve.f k l0_0 l0_1 l0_2 a0_3 a0_4 a0_5 a0_6 a0_7 a0_8 l1 = some r) (hn_ : l1.length = n_) :
    Calls Try.prog 18 #[.agg #[.slice A0_0 l0_0.length c0_0, .slice A0_1 l0_1.length c0_1, .slice A0_2 l0_2.length c0_2, .int .i64 a0_3, .int .i64 a0_4, .int .i64 a0_5, .int .i64 a0_6, .int .i64 a0_7, .int .i64 a0_8], .slice A1 n_ c1] w fun e w' => e = .returned (.int .i64 r) ∧ Below w.heap.size w w' := by
  subst hn_
  exact admit_Reserve.calls k A0_0 c0_0 l0_0 A0_1 c0_1 l0_1 A0_2 c0_2 l0_2 a0_3 a0_4 a0_5 a0_6 a0_7 a0_8 A1 c1 l1 r w hr0_0 hc0_0 hr0_1 hc0_1 hr0_2 hc0_2 hr1 hc1 h
theorem admit_Slowest_at {n_ : Nat} (k : Nat) (A0_0 : Option Addr) (c0_0 : Nat) (l0_0 : List (S34)) (A0_1 : Option Addr) (c0_1 : Nat) (l0_1 : List (S55)) (A0_2 : Option Addr) (c0_2 : Nat) (l0_2 : List (S58)) (a0_3 : Int) (a0_4 : Int) (a0_5 : Int) (a0_6 : Int) (a0_7 : Int) (a0_8 : Int) (A1 : Option Addr) (c1 : Nat) (l1 : List (S29)) (r : Int) (w : World) (hr0_0 : Kd.C k34 w A0_0 l0_0.length l0_0) (hc0_0 : l0_0.length ≤ c0_0) (hr0_1 : Kd.C k55 w A0_1 l0_1.length l0_1) (hc0_1 : l0_1.length ≤ c0_1) (hr0_2 : Kd.C k58 w A0_2 l0_2.length l0_2) (hc0_2 : l0_2.length ≤ c0_2) (hr1 : Kd.C k29 w A1 l1.length l1) (hc1 : l1.length ≤ c1) (h : admit_Slowest.f k l0_0 l0_1 l0_2 a0_3 a0_4 a0_5 a0_6 a0_7 a0_8 l1 = some r) (hn_ : l1.length = n_) :
    Calls Try.prog 23 #[.agg #[.slice A0_0 l0_0.length c0_0, .slice A0_1 l0_1.length c0_1, .slice A0_2 l0_2.length c0_2, .int .i64 a0_3, .int .i64 a0_4, .int .i64 a0_5, .int .i64 a0_6, .int .i64 a0_7, .int .i64 a0_8], .slice A1 n_ c1] w fun e w' => e = .returned (.int .i64 r) ∧ Below w.heap.size w w' := by
  subst hn_
  exact admit_Slowest.calls k A0_0 c0_0 l0_0 A0_1 c0_1 l0_1 A0_2 c0_2 l0_2 a0_3 a0_4 a0_5 a0_6 a0_7 a0_8 A1 c1 l1 r w hr0_0 hc0_0 hr0_1 hc0_1 hr0_2 hc0_2 hr1 hc1 h
set_option maxHeartbeats 3200000 in
set_option maxRecDepth 100000 in
theorem order_walk {w : World} (x : Plat) (cs : List Value) (h : kPlat.K w x cs) (_ok : True) (l : List S29) (v : Value) (h1 : (Kd.slice 29 k29).K w l [v]) (_ok1 : True) (a : Int) (ha : (Lit.int .u8 a).wf = true) (b : Int) (hb8 : (Lit.int .u8 b).wf = true) (level : Int) (hlv : (Lit.int .i64 level).wf = true) :
    Calls Try.prog 8 #[.agg cs.toArray, v, .int .u8 a, .int .u8 b, .int .i64 level] w fun e w' => e = .returned (.bool true) ∧ Below w.heap.size w w' := by
  obtain ⟨A0, c0, A1, c1, A2, c2, rfl, ⟨g0, r0⟩, ⟨g1, r1⟩, ⟨g2, r2⟩⟩ := plat_open h
  obtain ⟨A3, c3, e3, g3, r3⟩ := h1
  obtain rfl := (List.cons.inj e3).1
  clear h e3
  obtain ⟨l0, l1, l2, idle, crit, sw, swE, sems, hor⟩ := x
  dsimp only at *
  have P := PM.start (idle := idle) (crit := crit) (sw := sw) (swE := swE) (sems := sems) (hor := hor) g0 r0 g1 r1 g2 r2
  clear r0 r1 r2 g0 g1 g2
  go_enter Try.func8, Try.ntmps8
  go_upto_region 1 with (fail)
  generalize w.alloc (.cells #[.slice A0 l0.length c0, .slice A1 l1.length c1, .slice A2 l2.length c2, .int .i64 idle, .int .i64 crit, .int .i64 sw, .int .i64 swE, .int .i64 sems, .int .i64 hor] 26 (0, 0)) = w0 at P ⊢
  have ha2 : 0 ≤ a ∧ a ≤ 255 := by simp [Lit.wf, IntKind.min, IntKind.max, IntKind.signed, IntKind.bits] at ha; omega
  have hb2 : 0 ≤ b ∧ b ≤ 255 := by simp [Lit.wf, IntKind.min, IntKind.max, IntKind.signed, IntKind.bits] at hb8; omega
  clear ha hb8 hlv
  have GT := Aside0.mk (good_some (l0 := l0) (l1 := l1) (l2 := l2) (idle := idle) (crit := crit) (sw := sw) (swE := swE) (sems := sems) (hor := hor) l (show 1400 < 1401 by decide))
  obtain ⟨x0, x1, x2, x3, x4, x5, x6, x7, x8⟩ := P.xp
  go_wp2_with fail
  clear x0 x1 x2 x3 x4 x5 x6 x7 x8
  by_cases hg : Mach l0 l1 l2 idle crit sw swE sems hor l
  · rw [goodB_yes hg] at GT
    refine (dormouselaw10_good.calls 1401 A0 c0 l0 A1 c1 l1 A2 c2 l2 idle crit sw swE sems hor A3 c3 l true _ P.R0 P.g0 P.R1 P.g1 P.R2 P.g2 (Kd.C_below r3 P.hb) g3 GT.out).mono ?_; rintro e w1 ⟨rfl, hb⟩
    replace P := P.step hb
    clear hb
    have HG := Aside0.mk hg
    have few := hg.few
    clear hg GT
    by_cases z : l.length = 0
    · have z1 : ((l.length : Int) == 0) = true := by rw [beq_iff_eq]; omega
      have Z := Aside0.mk z
      clear z
      obtain ⟨x0, x1, x2, x3, x4, x5, x6, x7, x8⟩ := P.xp
      go_wp2_with fail
      clear x0 x1 x2 x3 x4 x5 x6 x7 x8
      refine (dormouselaw10_answers.calls true _ rfl).mono ?_; rintro e w3 ⟨rfl, hb⟩
      replace P := P.step hb
      clear hb
      go_wp2_with fail
      go_ret
      exact ⟨rfl, P.hb⟩
    · have z1 : ((l.length : Int) == 0) = false := by rw [beq_eq_false_iff_ne]; omega
      have z2 : 1 ≤ (l.length : Int) := by omega
      have few2 : l.length * 64 ≤ 140737488355328 := by omega
      have n0 : 0 < l.length := by omega
      have Z := Aside0.mk z
      clear z
      obtain ⟨x0, x1, x2, x3, x4, x5, x6, x7, x8⟩ := P.xp
      go_upto_region 4 with ((at_builtin; (refine app_rows (wr := w) (w0 := w1) (d := k29) rfl (.tmp 24) (.tmp 25) 31 29 _ 64 rfl Try.underlying31 info29 rfl (by decide) (by decide) (.slice (some ⟨w1.heap.size, 0, none⟩) 0 0) rfl ?own ((Below.refl _ _).alloc (Nat.le_refl _) _) rfl P.hb r3 n0 few2 ?_; (case own => exact ⟨rfl, .inr ⟨_, 0, #[], rfl, Nat.le_refl _, heap_alloc_new _ _, Nat.le_refl _, by simp [maxLen], rfl, rfl⟩⟩); intro g c' w2 hrows hcap hge hbel)))
      clear x0 x1 x2 x3 x4 x5 x6 x7 x8
      have hm1 : 0 ≤ a % (l.length : Int) := Int.emod_nonneg _ (by omega)
      have hm2 : a % (l.length : Int) < l.length := Int.emod_lt_of_pos _ (by omega)
      have hm3 : 0 ≤ b % (l.length : Int) := Int.emod_nonneg _ (by omega)
      have hm4 : b % (l.length : Int) < l.length := Int.emod_lt_of_pos _ (by omega)
      go_quiet (fail)
      go_wp2_with fail
      clear hm1 hm2 hm3 hm4
      have hz := blk_lt P.bp
      replace P := (P.step hbel).step (pw_below_drewN (Below.refl w2.heap.size w2) nq)
      have HR := Aside0.mk (hrows.below (pw_below_drewN (Below.refl w2.heap.size w2) nq))
      have hgl : w.heap.size < g := Nat.lt_of_lt_of_le hz hge
      clear hrows hbel hz hge
      generalize w2.drewN nq = w3 at P HR ⊢
      obtain ⟨s, hs2⟩ : ∃ s : Nat, a % (l.length : Int) = s := ⟨_, (Int.toNat_of_nonneg (Int.emod_nonneg _ (by omega))).symm⟩
      have hsl : s < l.length := by have := Int.emod_lt_of_pos a (show (0 : Int) < l.length by omega); omega
      obtain ⟨t, ht2⟩ : ∃ t : Nat, b % (l.length : Int) = t := ⟨_, (Int.toNat_of_nonneg (Int.emod_nonneg _ (by omega))).symm⟩
      have htl : t < l.length := by have := Int.emod_lt_of_pos b (show (0 : Int) < l.length by omega); omega
      rw [hs2, ht2]
      clear hs2 ht2
      have hsi : (s : Int) < (l.length : Int) := by omega
      have hti : (t : Int) < (l.length : Int) := by omega
      obtain ⟨v0, v1, v2, v3, kv, cv0, cv1, cv2, cv3⟩ := (HR.out.below ((Below.refl w3.heap.size w3).drew)).get4 rfl s hsl
      obtain ⟨u0, u1, u2, u3, ku, cu0, cu1, cu2, cu3⟩ := (HR.out.below ((Below.refl w3.heap.size w3).drew)).get4 rfl t htl
      have KV := Aside0.mk kv
      have KU := Aside0.mk ku
      obtain ⟨B2, d2, B3, d3, ev, j1, j2, j3, j4⟩ := k29_open kv
      clear j1 j2 j3 j4
      obtain ⟨B4, d4, B5, d5, eu, j1, j2, j3, j4⟩ := k29_open ku
      clear j1 j2 j3 j4
      obtain ⟨vs, hvs⟩ : ∃ x, l[s] = x := ⟨_, rfl⟩
      obtain ⟨vt, hvt⟩ : ∃ x, l[t] = x := ⟨_, rfl⟩
      have HVS := Aside0.mk hvs
      have HVT := Aside0.mk hvt
      rw [hvs] at ev KV
      rw [hvt] at eu KU
      clear hvs hvt kv ku
      injection ev with ev0 ev; injection ev with ev1 ev; injection ev with ev2 ev; injection ev with ev3 ev
      injection eu with eu0 eu; injection eu with eu1 eu; injection eu with eu2 eu; injection eu with eu3 eu
      subst ev0 ev1 ev2 ev3 eu0 eu1 eu2 eu3
      clear ev eu
      refine start_ (n := 16) (S := fun w' => w'.cell? ⟨g, s * 4, none⟩ = some (.int .i64 vs.f0) ∧ w'.cell? ⟨g, s * 4 + 1, none⟩ = some (.int .i64 vs.f1) ∧ w'.cell? ⟨g, s * 4 + 2, none⟩ = some (.slice B2 vs.f2.length d2) ∧ w'.cell? ⟨g, s * 4 + 3, none⟩ = some (.slice B3 vs.f3.length d3) ∧ w'.cell? ⟨g, t * 4, none⟩ = some (.int .i64 vt.f0) ∧ w'.cell? ⟨g, t * 4 + 1, none⟩ = some (.int .i64 vt.f1) ∧ w'.cell? ⟨g, t * 4 + 2, none⟩ = some (.slice B4 vt.f2.length d4) ∧ w'.cell? ⟨g, t * 4 + 3, none⟩ = some (.slice B5 vt.f3.length d5)) (ds := [13, 15]) #[false, false, false, false, false, false, false, false, false, false, false, false, false, false, false, false] (by kernel_rfl) rfl rfl ⟨cv0, cv1, cv2, cv3, cu0, cu1, cu2, cu3⟩ (fun hHeld => ?_)
      clear cv0 cv1 cv2 cv3 cu0 cu1 cu2 cu3
      refine pure_ (i := 0) (N := some 37) (v := ?_) (a' := ?_) #[true, false, false, false, false, false, false, false, false, false, false, false, false, false, false, false] rfl rfl (by kernel_rfl) (fun _ _ _ h => h) (Or.inl ⟨by rfl, ?_⟩) ?_ ?_
      rotate_left
      · intro w'
        go_simp
        with_reducible rfl
      rotate_left
      · simp only [Act.put, List.setIfInBounds_toArray, List.set_cons_zero, List.set_cons_succ]
        rfl
      refine pure_ (i := 1) (N := some 38) (v := ?_) (a' := ?_) #[true, true, false, false, false, false, false, false, false, false, false, false, false, false, false, false] rfl rfl (by kernel_rfl) (fun _ _ _ h => h) (Or.inl ⟨by rfl, ?_⟩) ?_ ?_
      rotate_left
      · intro w'
        go_simp
        with_reducible rfl
      rotate_left
      · simp only [Act.put, List.setIfInBounds_toArray, List.set_cons_zero, List.set_cons_succ]
        rfl
      refine pure_ (i := 2) (N := some 39) (v := ?_) (a' := ?_) #[true, true, true, false, false, false, false, false, false, false, false, false, false, false, false, false] rfl rfl (by kernel_rfl) (fun _ _ _ h => h) (Or.inl ⟨by rfl, ?_⟩) ?_ ?_
      rotate_left
      · intro w'
        go_simp
        with_reducible rfl
      rotate_left
      · simp only [Act.put, List.setIfInBounds_toArray, List.set_cons_zero, List.set_cons_succ]
        rfl
      refine pure_ (i := 3) (N := some 40) (v := ?_) (a' := ?_) #[true, true, true, true, false, false, false, false, false, false, false, false, false, false, false, false] rfl rfl (by kernel_rfl) (fun _ _ _ h => h) (Or.inl ⟨by rfl, ?_⟩) ?_ ?_
      rotate_left
      · intro w'
        go_simp
        with_reducible rfl
      rotate_left
      · simp only [Act.put, List.setIfInBounds_toArray, List.set_cons_zero, List.set_cons_succ]
        rfl
      refine pure_ (i := 4) (N := some 41) (v := ?_) (a' := ?_) #[true, true, true, true, true, false, false, false, false, false, false, false, false, false, false, false] rfl rfl (by kernel_rfl) (fun _ _ _ h => h) (Or.inl ⟨by rfl, ?_⟩) ?_ ?_
      rotate_left
      · intro w'
        go_simp
        with_reducible rfl
      rotate_left
      · simp only [Act.put, List.setIfInBounds_toArray, List.set_cons_zero, List.set_cons_succ]
        rfl
      refine pure_ (i := 5) (N := some 42) (v := ?_) (a' := ?_) #[true, true, true, true, true, true, false, false, false, false, false, false, false, false, false, false] rfl rfl (by kernel_rfl) (fun _ _ _ h => h) (Or.inl ⟨by rfl, ?_⟩) ?_ ?_
      rotate_left
      · intro w'
        go_simp
        with_reducible rfl
      rotate_left
      · simp only [Act.put, List.setIfInBounds_toArray, List.set_cons_zero, List.set_cons_succ]
        rfl
      refine pure_ (i := 6) (N := some 43) (v := ?_) (a' := ?_) #[true, true, true, true, true, true, true, false, false, false, false, false, false, false, false, false] rfl rfl (by kernel_rfl) (fun _ _ _ h => h) (Or.inl ⟨by rfl, ?_⟩) ?_ ?_
      rotate_left
      · intro w'
        go_simp
        with_reducible rfl
      rotate_left
      · simp only [Act.put, List.setIfInBounds_toArray, List.set_cons_zero, List.set_cons_succ]
        rfl
      refine take_ (i := 7) (N := some 44) (v := ?_) (a' := ?_) #[true, true, true, true, true, true, true, true, false, false, false, false, false, false, false, false] rfl rfl (by kernel_rfl) (fun _ _ _ h => h) (Or.inl ⟨by rfl, ?_⟩) hHeld ?_ ?_
      rotate_left
      · rintro w' ⟨s0, s1, s2, s3, s4, s5, s6, s7⟩
        go_simp
        with_reducible rfl
      rotate_left
      · simp only [Act.put, List.setIfInBounds_toArray, List.set_cons_zero, List.set_cons_succ]
        rfl
      refine pure_ (i := 8) (N := some 45) (v := ?_) (a' := ?_) #[true, true, true, true, true, true, true, true, true, false, false, false, false, false, false, false] rfl rfl (by kernel_rfl) (fun _ _ _ h => h) (Or.inl ⟨by rfl, ?_⟩) ?_ ?_
      rotate_left
      · intro w'
        go_simp
        with_reducible rfl
      rotate_left
      · simp only [Act.put, List.setIfInBounds_toArray, List.set_cons_zero, List.set_cons_succ]
        rfl
      refine pure_ (i := 9) (N := some 46) (v := ?_) (a' := ?_) #[true, true, true, true, true, true, true, true, true, true, false, false, false, false, false, false] rfl rfl (by kernel_rfl) (fun _ _ _ h => h) (Or.inl ⟨by rfl, ?_⟩) ?_ ?_
      rotate_left
      · intro w'
        go_simp
        with_reducible rfl
      rotate_left
      · simp only [Act.put, List.setIfInBounds_toArray, List.set_cons_zero, List.set_cons_succ]
        rfl
      refine pure_ (i := 10) (N := some 47) (v := ?_) (a' := ?_) #[true, true, true, true, true, true, true, true, true, true, true, false, false, false, false, false] rfl rfl (by kernel_rfl) (fun _ _ _ h => h) (Or.inl ⟨by rfl, ?_⟩) ?_ ?_
      rotate_left
      · intro w'
        go_simp
        with_reducible rfl
      rotate_left
      · simp only [Act.put, List.setIfInBounds_toArray, List.set_cons_zero, List.set_cons_succ]
        rfl
      refine take_ (i := 11) (N := some 48) (v := ?_) (a' := ?_) #[true, true, true, true, true, true, true, true, true, true, true, true, false, false, false, false] rfl rfl (by kernel_rfl) (fun _ _ _ h => h) (Or.inl ⟨by rfl, ?_⟩) hHeld ?_ ?_
      rotate_left
      · rintro w' ⟨s0, s1, s2, s3, s4, s5, s6, s7⟩
        go_simp
        with_reducible rfl
      rotate_left
      · simp only [Act.put, List.setIfInBounds_toArray, List.set_cons_zero, List.set_cons_succ]
        rfl
      refine pure_ (i := 12) (N := some 49) (v := ?_) (a' := ?_) #[true, true, true, true, true, true, true, true, true, true, true, true, true, false, false, false] rfl rfl (by kernel_rfl) (fun _ _ _ h => h) (Or.inl ⟨by rfl, ?_⟩) ?_ ?_
      rotate_left
      · intro w'
        go_simp
        with_reducible rfl
      rotate_left
      · simp only [Act.put, List.setIfInBounds_toArray, List.set_cons_zero, List.set_cons_succ]
        rfl
      replace HR := Aside0.mk (HR.out.below ((Below.refl w3.heap.size w3).drew))
      replace P := P.drew
      generalize w3.drew = w4 at P HR hHeld ⊢
      obtain ⟨q0, q1, q2, q3, q4, q5, q6, q7⟩ := hHeld
      have f0 := HR.out.frozen (s * 4)
      have f1 := HR.out.frozen (s * 4 + 1)
      have f2 := HR.out.frozen (s * 4 + 2)
      have f3 := HR.out.frozen (s * 4 + 3)
      refine last_ (i := 13) (N := none) #[true, true, true, true, true, true, true, true, true, true, true, true, true, true, false, false] rfl rfl (by kernel_rfl) (by simp) (fun K hK => ?_)
      go_simp
      clear q0 q1 q2 q3 q4 q5 q6 q7 f0 f1 f2 f3
      replace HR := Aside0.mk (HR.out.set4 (d := k29) rfl s vt hsl (.int .i64 vt.f0) (.int .i64 vt.f1) (.slice B4 vt.f2.length d4) (.slice B5 vt.f3.length d5) KU.out)
      replace P := (((P.set hgl (s * 4) (.int .i64 vt.f0)).set hgl (s * 4 + 1) (.int .i64 vt.f1)).set hgl (s * 4 + 2) (.slice B4 vt.f2.length d4)).set hgl (s * 4 + 3) (.slice B5 vt.f3.length d5)
      refine hK.out _ ((((w4.setCell ⟨g, s * 4, none⟩ (.int .i64 vt.f0)).setCell ⟨g, s * 4 + 1, none⟩ (.int .i64 vt.f1)).setCell ⟨g, s * 4 + 2, none⟩ (.slice B4 vt.f2.length d4)).setCell ⟨g, s * 4 + 3, none⟩ (.slice B5 vt.f3.length d5)) ?_
      clear hK K
      generalize (((w4.setCell ⟨g, s * 4, none⟩ (.int .i64 vt.f0)).setCell ⟨g, s * 4 + 1, none⟩ (.int .i64 vt.f1)).setCell ⟨g, s * 4 + 2, none⟩ (.slice B4 vt.f2.length d4)).setCell ⟨g, s * 4 + 3, none⟩ (.slice B5 vt.f3.length d5) = w5 at P HR ⊢
      refine pure_ (i := 14) (N := some 50) (v := ?_) (a' := ?_) #[true, true, true, true, true, true, true, true, true, true, true, true, true, true, true, false] rfl rfl (by kernel_rfl) (fun _ _ _ h => h) (Or.inl ⟨by rfl, ?_⟩) ?_ ?_
      rotate_left
      · intro w'
        go_simp
        with_reducible rfl
      rotate_left
      · simp only [Act.put, List.setIfInBounds_toArray, List.set_cons_zero, List.set_cons_succ]
        rfl
      have f0 := HR.out.frozen (t * 4)
      have f1 := HR.out.frozen (t * 4 + 1)
      have f2 := HR.out.frozen (t * 4 + 2)
      have f3 := HR.out.frozen (t * 4 + 3)
      have htl2 : t < (l.set s vt).length := by rw [List.length_set]; exact htl
      obtain ⟨o0, q0⟩ := HR.out.cell (t * 4) (by show _ < _ * 4; omega)
      obtain ⟨o1, q1⟩ := HR.out.cell (t * 4 + 1) (by show _ < _ * 4; omega)
      obtain ⟨o2, q2⟩ := HR.out.cell (t * 4 + 2) (by show _ < _ * 4; omega)
      obtain ⟨o3, q3⟩ := HR.out.cell (t * 4 + 3) (by show _ < _ * 4; omega)
      have q4 := True.intro
      have q5 := True.intro
      have q6 := True.intro
      have q7 := True.intro
      refine last_ (i := 15) (N := none) #[true, true, true, true, true, true, true, true, true, true, true, true, true, true, true, true] rfl rfl (by kernel_rfl) (by simp) (fun K hK => ?_)
      go_simp
      clear q0 q1 q2 q3 q4 q5 q6 q7 f0 f1 f2 f3
      replace HR := Aside0.mk (HR.out.set4 (d := k29) rfl t vs htl2 (.int .i64 vs.f0) (.int .i64 vs.f1) (.slice B2 vs.f2.length d2) (.slice B3 vs.f3.length d3) KV.out)
      replace P := (((P.set hgl (t * 4) (.int .i64 vs.f0)).set hgl (t * 4 + 1) (.int .i64 vs.f1)).set hgl (t * 4 + 2) (.slice B2 vs.f2.length d2)).set hgl (t * 4 + 3) (.slice B3 vs.f3.length d3)
      refine hK.out _ ((((w5.setCell ⟨g, t * 4, none⟩ (.int .i64 vs.f0)).setCell ⟨g, t * 4 + 1, none⟩ (.int .i64 vs.f1)).setCell ⟨g, t * 4 + 2, none⟩ (.slice B2 vs.f2.length d2)).setCell ⟨g, t * 4 + 3, none⟩ (.slice B3 vs.f3.length d3)) ?_
      clear hK K
      generalize (((w5.setCell ⟨g, t * 4, none⟩ (.int .i64 vs.f0)).setCell ⟨g, t * 4 + 1, none⟩ (.int .i64 vs.f1)).setCell ⟨g, t * 4 + 2, none⟩ (.slice B2 vs.f2.length d2)).setCell ⟨g, t * 4 + 3, none⟩ (.slice B3 vs.f3.length d3) = w6 at P HR ⊢
      refine done_ (by kernel_rfl) ?_
      go_wp2_with fail
      have PM_ : Aside0 (((l.set s vt).set t vs).Perm l) := ⟨by rw [← HVS.out, ← HVT.out]; exact List.set_set_perm hsl htl⟩
      have QN : Aside0 (((l.set s vt).set t vs).length = l.length) := ⟨PM_.out.length_eq⟩
      have HM : Aside0 (Mach l0 l1 l2 idle crit sw swE sems hor ((l.set s vt).set t vs)) := ⟨mach_sub HG.out (fun x hx => PM_.out.subset hx) (by rw [QN.out]; exact few)⟩
      have E1 : Aside0 (admit_Load.f 2000 l0 l1 l2 idle crit sw swE sems hor ((l.set s vt).set t vs) level = some (Adm.load l0 crit sw l level)) := ⟨by rw [load_some HM.out level (by omega), load_perm HG.out PM_.out]⟩
      have E2 : Aside0 (admit_Load.f 2000 l0 l1 l2 idle crit sw swE sems hor l level = some (Adm.load l0 crit sw l level)) := ⟨load_some HG.out level (by omega)⟩
      have E3 : Aside0 (admit_Reserve.f 2000 l0 l1 l2 idle crit sw swE sems hor ((l.set s vt).set t vs) = some (Adm.reserve l0 crit sw l)) := ⟨by rw [reserve_some HM.out (by omega), reserve_perm HG.out PM_.out]⟩
      have E4 : Aside0 (admit_Reserve.f 2000 l0 l1 l2 idle crit sw swE sems hor l = some (Adm.reserve l0 crit sw l)) := ⟨reserve_some HG.out (by omega)⟩
      have E5 : Aside0 (admit_Slowest.f 2000 l0 l1 l2 idle crit sw swE sems hor ((l.set s vt).set t vs) = some (Adm.slowest l0 crit sw l)) := ⟨by rw [slowest_some HM.out (by omega), slowest_perm HG.out PM_.out]⟩
      have E6 : Aside0 (admit_Slowest.f 2000 l0 l1 l2 idle crit sw swE sems hor l = some (Adm.slowest l0 crit sw l)) := ⟨slowest_some HG.out (by omega)⟩
      have CC : Aside0 (((l.set s vt).set t vs).length ≤ c') := ⟨by rw [QN.out]; exact hcap⟩
      have LL : Aside0 (((l.set s vt).set t vs).length ≤ 9223372036854775807) := ⟨by rw [QN.out]; omega⟩
      clear PM_ HM HVS HVT KV KU htl2
      generalize (l.set s vt).set t vs = l9 at HR QN E1 E3 E5 CC LL
      generalize Adm.load l0 crit sw l level = e1 at E1 E2
      generalize Adm.reserve l0 crit sw l = e2 at E3 E4
      generalize Adm.slowest l0 crit sw l = e3 at E5 E6
      clear hsl htl hsi hti hcap few few2 n0 z1 z2 ha2 hb2 Z
      obtain ⟨x0, x1, x2, x3, x4, x5, x6, x7, x8⟩ := P.xp
      go_region_held3 (fun w' => w'.cell? ⟨w.heap.size, 0, none⟩ = some (.slice A0 l0.length c0) ∧ w'.cell? ⟨w.heap.size, 1, none⟩ = some (.slice A1 l1.length c1) ∧ w'.cell? ⟨w.heap.size, 2, none⟩ = some (.slice A2 l2.length c2) ∧ w'.cell? ⟨w.heap.size, 3, none⟩ = some (.int .i64 idle) ∧ w'.cell? ⟨w.heap.size, 4, none⟩ = some (.int .i64 crit) ∧ w'.cell? ⟨w.heap.size, 5, none⟩ = some (.int .i64 sw) ∧ w'.cell? ⟨w.heap.size, 6, none⟩ = some (.int .i64 swE) ∧ w'.cell? ⟨w.heap.size, 7, none⟩ = some (.int .i64 sems) ∧ w'.cell? ⟨w.heap.size, 8, none⟩ = some (.int .i64 hor)) (first | exact ⟨x0, x1, x2, x3, x4, x5, x6, x7, x8⟩)
        (first
          | (go_at_call 12; (with_reducible refine (dormouselaw10_answers.calls true _ rfl).mono ?_); rintro e w20 ⟨rfl, hb⟩; replace hb := below_undrew hb; replace P := P.step hb; replace HR := Aside0.mk (HR.out.below hb); clear hb x0 x1 x2 x3 x4 x5 x6 x7 x8; obtain ⟨x0, x1, x2, x3, x4, x5, x6, x7, x8⟩ := P.xp)
          | (go_at_call 21; (with_reducible refine (admit_Load_at 2000 A0 c0 l0 A1 c1 l1 A2 c2 l2 idle crit sw swE sems hor (some ⟨g, 0, none⟩) c' l9 level _ _ P.R0 P.g0 P.R1 P.g1 P.R2 P.g2 (HR.out.C P.hb LL.out) CC.out E1.out QN.out).mono ?_); rintro e w21 ⟨rfl, hb⟩; replace P := P.step hb; replace HR := Aside0.mk (HR.out.below hb); clear hb x0 x1 x2 x3 x4 x5 x6 x7 x8; obtain ⟨x0, x1, x2, x3, x4, x5, x6, x7, x8⟩ := P.xp)
          | (go_at_call 21; (with_reducible refine (admit_Load.calls 2000 A0 c0 l0 A1 c1 l1 A2 c2 l2 idle crit sw swE sems hor A3 c3 l level _ _ P.R0 P.g0 P.R1 P.g1 P.R2 P.g2 (Kd.C_below r3 P.hb) g3 E2.out).mono ?_); rintro e w22 ⟨rfl, hb⟩; replace P := P.step hb; replace HR := Aside0.mk (HR.out.below hb); clear hb x0 x1 x2 x3 x4 x5 x6 x7 x8; obtain ⟨x0, x1, x2, x3, x4, x5, x6, x7, x8⟩ := P.xp)
          | (go_at_call 18; (with_reducible refine (admit_Reserve_at 2000 A0 c0 l0 A1 c1 l1 A2 c2 l2 idle crit sw swE sems hor (some ⟨g, 0, none⟩) c' l9 _ _ P.R0 P.g0 P.R1 P.g1 P.R2 P.g2 (HR.out.C P.hb LL.out) CC.out E3.out QN.out).mono ?_); rintro e w23 ⟨rfl, hb⟩; replace P := P.step hb; replace HR := Aside0.mk (HR.out.below hb); clear hb x0 x1 x2 x3 x4 x5 x6 x7 x8; obtain ⟨x0, x1, x2, x3, x4, x5, x6, x7, x8⟩ := P.xp)
          | (go_at_call 18; (with_reducible refine (admit_Reserve.calls 2000 A0 c0 l0 A1 c1 l1 A2 c2 l2 idle crit sw swE sems hor A3 c3 l _ _ P.R0 P.g0 P.R1 P.g1 P.R2 P.g2 (Kd.C_below r3 P.hb) g3 E4.out).mono ?_); rintro e w24 ⟨rfl, hb⟩; replace P := P.step hb; replace HR := Aside0.mk (HR.out.below hb); clear hb x0 x1 x2 x3 x4 x5 x6 x7 x8; obtain ⟨x0, x1, x2, x3, x4, x5, x6, x7, x8⟩ := P.xp)
          | (go_at_call 23; (with_reducible refine (admit_Slowest_at 2000 A0 c0 l0 A1 c1 l1 A2 c2 l2 idle crit sw swE sems hor (some ⟨g, 0, none⟩) c' l9 _ _ P.R0 P.g0 P.R1 P.g1 P.R2 P.g2 (HR.out.C P.hb LL.out) CC.out E5.out QN.out).mono ?_); rintro e w25 ⟨rfl, hb⟩; replace P := P.step hb; replace HR := Aside0.mk (HR.out.below hb); clear hb x0 x1 x2 x3 x4 x5 x6 x7 x8; obtain ⟨x0, x1, x2, x3, x4, x5, x6, x7, x8⟩ := P.xp)
          | (go_at_call 23; (with_reducible refine (admit_Slowest.calls 2000 A0 c0 l0 A1 c1 l1 A2 c2 l2 idle crit sw swE sems hor A3 c3 l _ _ P.R0 P.g0 P.R1 P.g1 P.R2 P.g2 (Kd.C_below r3 P.hb) g3 E6.out).mono ?_); rintro e w26 ⟨rfl, hb⟩; replace P := P.step hb; replace HR := Aside0.mk (HR.out.below hb); clear hb x0 x1 x2 x3 x4 x5 x6 x7 x8; obtain ⟨x0, x1, x2, x3, x4, x5, x6, x7, x8⟩ := P.xp))
      clear x0 x1 x2 x3 x4 x5 x6 x7 x8
      go_wp2_with fail
      go_ret
      exact ⟨by simp, P.hb⟩
  · rw [goodB_no hg] at GT
    refine (dormouselaw10_good.calls 1401 A0 c0 l0 A1 c1 l1 A2 c2 l2 idle crit sw swE sems hor A3 c3 l false _ P.R0 P.g0 P.R1 P.g1 P.R2 P.g2 (Kd.C_below r3 P.hb) g3 GT.out).mono ?_; rintro e w1 ⟨rfl, hb⟩
    replace P := P.step hb
    clear hb
    clear hg GT
    go_wp2_with fail
    refine (dormouselaw10_answers.calls true _ rfl).mono ?_; rintro e w3 ⟨rfl, hb⟩
    replace P := P.step hb
    clear hb
    go_wp2_with fail
    go_ret
    exact ⟨rfl, P.hb⟩
end Go.Proofs.Ytonlaboeodddeaa.Law
namespace Go.Proofs.Ytonlaboeodddeaa.admitOrder
open Go.ChangeShapes Go.WideShapes Go.ChangeAt Go.RowKit Go.Proofs.Ytonlaboeodddeaa.Opn
set_option linter.unusedVariables false
theorem own : ownKnob Try.prog.godebug = none := by kernel_rfl
theorem laidOut : laidOutB Try.prog = true := by kernel_rfl
set_option maxRecDepth 100000 in
theorem lifted (os : Os) (started : os.Started) (H : Type) (enc : TypeId × Value → H) :
    ReturnsInHanded {} Try.checked os 8 .any (Rows.admitOrderSpec.pre6 enc Try.prog Try.f8 Rows.admitOrderRow.domain false) (Rows.admitOrderSpec.post enc Try.prog Try.f8 false true false false) := by
  refine returnsInHanded_of_change_sized (C := Try.checked) own started (by kernel_rfl) Try.func8
    (ChangeSpec.witness6 (enc := enc) (C := Try.checked) false ⟨#[], #[.agg #[.slice none 0 0, .slice none 0 0, .slice none 0 0, .int .i64 0, .int .i64 0, .int .i64 0, .int .i64 0, .int .i64 0, .int .i64 0], .slice none 0 0, .int .u8 0, .int .u8 0, .int .i64 0], []⟩ 8 (by kernel_rfl) (by kernel_rfl) (by kernel_rfl) (by kernel_rfl)) ?_
  intro W base args ds gs before hval0 hW hcnd hsz0 _
  have hval : ∀ (j : Nat) t v, Try.f8.params[j]? = some t → args[j]? = some v → Value.okWide Try.prog W .any base t v := hval0
  have hW' := hW
  obtain ⟨p, q, hA0, hV, rfl, hfz, hnd⟩ := hW
  have hA : DataW.TrodAll enc Try.prog W 0 (fun _ => true) true Try.f8.params.toList args.toList ds p := hA0
  rw [Try.params8] at hA hval
  obtain ⟨v0, vs0, d0, ds0, p0, q0, hargs, rfl, rfl, h0, r0⟩ := trodAll_cons hA
  obtain ⟨v1, vs1, d1, ds1, p1, q1, rfl, rfl, rfl, h1, r1⟩ := trodAll_cons r0
  obtain ⟨v2, vs2, d2, ds2, p2, q2, rfl, rfl, rfl, h2, r2⟩ := trodAll_cons r1
  obtain ⟨v3, vs3, d3, ds3, p3, q3, rfl, rfl, rfl, h3, r3⟩ := trodAll_cons r2
  obtain ⟨v4, vs4, d4, ds4, p4, q4, rfl, rfl, rfl, h4, r4⟩ := trodAll_cons r3
  obtain ⟨rfl, rfl, rfl⟩ := trodAll_nil r4
  obtain rfl : args = #[v0, v1, v2, v3, v4] := by cases args; simp_all
  obtain ⟨rfl, rfl⟩ := trodVars_none hV
  have k0 := h0
  have lt0 : ∀ x ∈ p0, x.block < W.heap.size := by obtain ⟨m, hm⟩ := k0; exact DataW.trod_lt m _ _ _ hm
  obtain ⟨x0, g0, ok0⟩ := Opens.get oPlat h0
  obtain ⟨cs0, rfl, e0⟩ := agg_of Try.underlying26 (hval 0 26 v0 rfl rfl)
  rw [e0] at g0
  have k1 := h1
  have lt1 : ∀ x ∈ p1, x.block < W.heap.size := by obtain ⟨m, hm⟩ := k1; exact DataW.trod_lt m _ _ _ hm
  obtain ⟨x1, g1, ok1⟩ := Opens.get oTasks h1
  rw [slice_of Try.underlying31 (hval 1 31 v1 rfl rfl)] at g1
  obtain ⟨a2, rfl, rfl, rfl, w2⟩ := open_int Try.underlying5 (hval 2 5 v2 rfl rfl) h2
  obtain ⟨a3, rfl, rfl, rfl, w3⟩ := open_int Try.underlying5 (hval 3 5 v3 rfl rfl) h3
  obtain ⟨a4, rfl, rfl, rfl, w4⟩ := open_int Try.underlying3 (hval 4 3 v4 rfl rfl) h4
  clear hA0 hval0 hsz0
  refine (Law.order_walk (w := W) x0 cs0 g0 ok0 x1 v1 g1 ok1 a2 w2 a3 w3 a4 w4).mono fun e W' ⟨he, bel⟩ => ?_
  subst he
  exact ⟨_, rfl, _, _, _, [], _, [], hW', trodAll_mk1 (shut_bool Try.underlying4 _), (trodAll_cons_mk (Below.trod laidOut (by kernel_rfl) (of_decide_eq_true (by kernel_rfl)) k0 bel lt0) (trodAll_cons_mk (Below.trod laidOut (by kernel_rfl) (of_decide_eq_true (by kernel_rfl)) k1 bel lt1) (trodAll_cons_mk (shut_int Try.underlying5 w2) (trodAll_cons_mk (shut_int Try.underlying5 w3) (trodAll_cons_mk (shut_int Try.underlying3 w4) trodAll_mk0))))), rfl, bel.frame _, fun h => by cases h⟩
theorem over : Rows.admitOrderRow.holds Try.pinned (OpenSpec.ofChange Rows.admitOrderSpec) :=
  OpenClaim.holds_of_wide 8 Try.f8 rfl rfl rfl rfl rfl rfl rfl ⟨rfl, rfl, rfl, rfl, rfl⟩ rfl rfl rfl rfl rfl (by kernel_rfl) Try.func8 (by kernel_rfl)
    (of_decide_eq_true (by kernel_rfl)) (by unfold Func.isWrapper; first | (rw [if_pos (by decide +kernel)]; kernel_rfl) | (rw [if_neg (by decide +kernel)]; exact ⟨rfl, rfl⟩))
    (fun os started H enc _ => lifted os started H enc)
theorem proved : Rows.AdmitOrderSaid := over
end Go.Proofs.Ytonlaboeodddeaa.admitOrder
namespace Go.Proofs.Ytonlaboeodddeaa
/-- The row, under a short name, for the claim. -/
theorem admitOrder_holds : Rows.AdmitOrderSaid := admitOrder.proved
end Go.Proofs.Ytonlaboeodddeaa
