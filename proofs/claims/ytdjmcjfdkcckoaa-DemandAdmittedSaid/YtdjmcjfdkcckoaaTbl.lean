/- Which machines the reference takes for right: its Table, walked. -/
import Derived.Test.YtdjmcjfdkcckoaaTblS
import Derived.StillTailTactics
namespace Go.Proofs.Ytdjmcjfdkcckoaa.Tbl
open Go.RowKit Go.Proofs.Ytdjmcjfdkcckoaa.F Go.Proofs.YtdjmcjfdkcckoaaW.PrintWords Go.Proofs.YtdjmcjfdkcckoaaW.PrintLast Go.Proofs.YtdjmcjfdkcckoaaW.PrintMore
attribute [local go_sem] max2_int min2_int max_two min_two max_three min_three max_four min_four

set_option maxHeartbeats 1600000 in
set_option maxRecDepth 100000 in
theorem table_bad (A0 : Option Addr) (c0 : Nat) (l0 : List S63) (A1 : Option Addr) (c1 : Nat) (l1 : List S66) (A2 : Option Addr) (c2 : Nat) (l2 : List S69) (i3 i4 i5 i6 i7 i8 : Int) (w : World) (hh : Aside0 (¬ Head l0.length l1.length l2.length i3 i4 i5 i6 i7 i8)) :
    Calls Try.prog 23 #[.agg #[.slice A0 l0.length c0, .slice A1 l1.length c1, .slice A2 l2.length c2, .int .i64 i3, .int .i64 i4, .int .i64 i5, .int .i64 i6, .int .i64 i7, .int .i64 i8]] w fun e w' => e = .returned (.bool (tableB l0 l1 l2 i3 i4 i5 i6 i7 i8)) ∧ Below w.heap.size w w' := by
  go_enter Try.func23, Try.ntmps23
  go_wp2
  all_goals first
    | (go_ret; exact ⟨tableB_head hh.out, (Below.refl _ _).alloc (Nat.le_refl _) _⟩)
    | (exfalso; exact hh.out (by unfold Head; omega))

set_option maxHeartbeats 8000000 in
set_option maxRecDepth 100000 in
theorem table_good (A0 : Option Addr) (c0 : Nat) (l0 : List S63) (A1 : Option Addr) (c1 : Nat) (l1 : List S66) (A2 : Option Addr) (c2 : Nat) (l2 : List S69) (i3 i4 i5 i6 i7 i8 : Int) (w : World)
    (hr0 : Kd.C k63 w A0 l0.length l0) (hr1 : Kd.C k66 w A1 l1.length l1) (hr2 : Kd.C k69 w A2 l2.length l2) (hh : Head l0.length l1.length l2.length i3 i4 i5 i6 i7 i8) :
    Calls Try.prog 23 #[.agg #[.slice A0 l0.length c0, .slice A1 l1.length c1, .slice A2 l2.length c2, .int .i64 i3, .int .i64 i4, .int .i64 i5, .int .i64 i6, .int .i64 i7, .int .i64 i8]] w fun e w' => e = .returned (.bool (tableB l0 l1 l2 i3 i4 i5 i6 i7 i8)) ∧ Below w.heap.size w w' := by
  have HR0 := Aside0.mk hr0
  have HR1 := Aside0.mk hr1
  have HR2 := Aside0.mk hr2
  have HH := Aside0.mk hh
  clear hr0 hr1 hr2
  obtain ⟨q1, q2, q3, q4, q5, q6, q7, q8, q9, q10, q11, q12, q13, q14, q15, q16⟩ := hh
  go_enter Try.func23, Try.ntmps23
  go_upto_region 1 with (fail)
  generalize hw0 : w.alloc (.cells #[.slice A0 l0.length c0, .slice A1 l1.length c1, .slice A2 l2.length c2, .int .i64 i3, .int .i64 i4, .int .i64 i5, .int .i64 i6, .int .i64 i7, .int .i64 i8] 43 (0, 0)) = w0
  have BK : Aside0 (w0.heap[w.heap.size]? = some (.cells #[.slice A0 l0.length c0, .slice A1 l1.length c1, .slice A2 l2.length c2, .int .i64 i3, .int .i64 i4, .int .i64 i5, .int .i64 i6, .int .i64 i7, .int .i64 i8] 43 (0, 0))) := ⟨by rw [← hw0]; exact heap_alloc_new w _⟩
  have HB : Aside0 (Below w.heap.size w w0) := ⟨by rw [← hw0]; exact (Below.refl _ _).alloc (Nat.le_refl _) _⟩
  have HS : Aside0 (w0.heap.size = w.heap.size + 1) := ⟨by rw [← hw0]; simp⟩
  clear hw0
  go_cut [59] (fun v59 wc => v59 = .bool false ∧ wc = w0)
  case first =>
    have x0_ : w0.cell? ⟨w.heap.size, 0, none⟩ = some (.slice A0 l0.length c0) := (blk_cell BK.out 0).trans rfl
    have x3_ : w0.cell? ⟨w.heap.size, 3, none⟩ = some (.int .i64 i3) := (blk_cell BK.out 3).trans rfl
    have x4_ : w0.cell? ⟨w.heap.size, 4, none⟩ = some (.int .i64 i4) := (blk_cell BK.out 4).trans rfl
    have x5_ : w0.cell? ⟨w.heap.size, 5, none⟩ = some (.int .i64 i5) := (blk_cell BK.out 5).trans rfl
    have x6_ : w0.cell? ⟨w.heap.size, 6, none⟩ = some (.int .i64 i6) := (blk_cell BK.out 6).trans rfl
    go_wp2
    go_meet
    case rel => exact ⟨by simp; omega, rfl⟩
  case rest =>
  obtain ⟨rfl, rfl⟩ := hcut
  go_upto_region 3 with (fail)
  go_cut [89] (fun v89 wx => v89 = .bool false ∧ wx = wc)
  case first =>
    have x1_ : wc.cell? ⟨w.heap.size, 1, none⟩ = some (.slice A1 l1.length c1) := (blk_cell BK.out 1).trans rfl
    have x2_ : wc.cell? ⟨w.heap.size, 2, none⟩ = some (.slice A2 l2.length c2) := (blk_cell BK.out 2).trans rfl
    have x7_ : wc.cell? ⟨w.heap.size, 7, none⟩ = some (.int .i64 i7) := (blk_cell BK.out 7).trans rfl
    have x8_ : wc.cell? ⟨w.heap.size, 8, none⟩ = some (.int .i64 i8) := (blk_cell BK.out 8).trans rfl
    go_wp2
    go_meet
    case rel => exact ⟨by simp; omega, rfl⟩
  case rest =>
  obtain ⟨rfl, rfl⟩ := hcut
  go_wp2
  generalize hw0 : wc = w0 at *
  clear hw0
  go_loopw [3] (fun v3 wr => ∃ i : Int, v3 = .int .i64 i ∧ 0 ≤ i ∧ i ≤ l0.length ∧ Aside0 (∀ j : Int, 0 ≤ j → j < i → LevelOk l0 i3 i4 j) ∧ Aside0 (Below w0.heap.size w0 wr)) (fun v3 _ => l0.length - (intOf v3).toNat)
  case atStart => exact ⟨0, rfl, by omega, by omega, ⟨fun j hj hj' => by omega⟩, ⟨Below.refl _ _⟩⟩
  case round =>
    obtain ⟨i, rfl, hi, hk, HL, HW⟩ := hrel
    have BK1 : Aside0 (wr.heap[w.heap.size]? = some (.cells #[.slice A0 l0.length c0, .slice A1 l1.length c1, .slice A2 l2.length c2, .int .i64 i3, .int .i64 i4, .int .i64 i5, .int .i64 i6, .int .i64 i7, .int .i64 i8] 43 (0, 0))) := ⟨by rw [HW.out.block _ (by rw [HS.out]; omega)]; exact BK.out⟩
    have HC : Aside0 (Kd.C k63 wr A0 l0.length l0) := ⟨Kd.C_below HR0.out (below_step HB.out HW.out)⟩
    have x0_ : wr.cell? ⟨w.heap.size, 0, none⟩ = some (.slice A0 l0.length c0) := (blk_cell BK1.out 0).trans rfl
    have x3_ : wr.cell? ⟨w.heap.size, 3, none⟩ = some (.int .i64 i3) := (blk_cell BK1.out 3).trans rfl
    have x4_ : wr.cell? ⟨w.heap.size, 4, none⟩ = some (.int .i64 i4) := (blk_cell BK1.out 4).trans rfl
    have hsz : w.heap.size < wr.heap.size := by have := HW.out.size; have := HS.out; omega
    by_cases hlt : i < (l0.length : Int)
    · obtain ⟨ad, rfl, x0, x1⟩ := at_T63 HC.out i hi hlt
      obtain ⟨P, hP⟩ : ∃ x, x = (rd_T63 l0 i).f0 := ⟨_, rfl⟩
      obtain ⟨E, hE⟩ : ∃ x, x = (rd_T63 l0 i).f1 := ⟨_, rfl⟩
      rw [← hP] at x0
      rw [← hE] at x1
      have HP := Aside0.mk hP
      have HE := Aside0.mk hE
      have HI := Aside0.mk hi
      have HK := Aside0.mk hlt
      have hlt0 : decide (i < (l0.length : Int)) = true := decide_eq_true hlt
      clear hP hE
      go_wp2_with fail
      generalize hwq : wr.alloc (.cells #[.int .i64 P, .int .i64 E] 63 (0, 0)) = wq
      have HQ : Aside0 (Below wr.heap.size wr wq) := ⟨by rw [← hwq]; exact (Below.refl _ _).alloc (Nat.le_refl _) _⟩
      have l0_ : wq.cell? ⟨wr.heap.size, 0, none⟩ = some (.int .i64 P) := by rw [← hwq]; exact (blk_cell (heap_alloc_new wr _) 0).trans rfl
      have l1_ : wq.cell? ⟨wr.heap.size, 1, none⟩ = some (.int .i64 E) := by rw [← hwq]; exact (blk_cell (heap_alloc_new wr _) 1).trans rfl
      clear hwq
      replace x0_ := pw_cell_below HQ.out x0_
      replace x3_ := pw_cell_below HQ.out x3_
      replace x4_ := pw_cell_below HQ.out x4_
      replace HC : Aside0 (Kd.C k63 wq (some ad) l0.length l0) := ⟨Kd.C_below HC.out HQ.out⟩
      clear x0 x1
      by_cases b0 : P < 1
      · have e0 : decide (P < 1) = true := decide_eq_true b0
        go_quiet (fail)
        go_wp2
        go_ret
        exact ⟨tableB_level HI HK (bad0 HP.out HE.out b0), badw HB.out HW.out HQ.out _⟩
      have e0 : decide (P < 1) = false := decide_eq_false b0
      by_cases b1 : 256 < P
      · have e1 : decide (256 < P) = true := decide_eq_true b1
        go_quiet (fail)
        go_wp2
        go_ret
        exact ⟨tableB_level HI HK (bad1 HP.out HE.out b1), badw HB.out HW.out HQ.out _⟩
      have e1 : decide (256 < P) = false := decide_eq_false b1
      by_cases b2 : E < 0
      · have e2 : decide (E < 0) = true := decide_eq_true b2
        go_quiet (fail)
        go_wp2
        go_ret
        exact ⟨tableB_level HI HK (bad2 HP.out HE.out b2), badw HB.out HW.out HQ.out _⟩
      have e2 : decide (E < 0) = false := decide_eq_false b2
      by_cases b3 : 65536 < E
      · have e3 : decide (65536 < E) = true := decide_eq_true b3
        go_quiet (fail)
        go_wp2
        go_ret
        exact ⟨tableB_level HI HK (bad3 HP.out HE.out b3), badw HB.out HW.out HQ.out _⟩
      have e3 : decide (65536 < E) = false := decide_eq_false b3
      by_cases hi0 : 0 < i
      · have g0 : decide (0 < i) = true := decide_eq_true hi0
        obtain ⟨ad', e', y0, y1⟩ := at_T63 HC.out (i - 1) (by omega) (by omega)
        obtain rfl : ad = ad' := Option.some.inj e'
        clear e'
        obtain ⟨P', hP'⟩ : ∃ x, x = (rd_T63 l0 (i - 1)).f0 := ⟨_, rfl⟩
        obtain ⟨E', hE'⟩ : ∃ x, x = (rd_T63 l0 (i - 1)).f1 := ⟨_, rfl⟩
        rw [show (i - 1).toNat = i.toNat - 1 from by omega] at y0 y1
        rw [← hP'] at y0
        rw [← hE'] at y1
        have HP' := Aside0.mk hP'
        have HE' := Aside0.mk hE'
        have hj1 : 0 ≤ i - 1 := by omega
        have hj3 : 1 ≤ i := by omega
        have hj4 : i ≤ (l0.length : Int) := by omega
        have hj5 : IntKind.i64.wrap (i - 1) = i - 1 := IntWalk.i64_in _ (by omega)
        have hj2 : i - 1 < (l0.length : Int) := by omega
        have hprev := HL.out (i - 1) (by omega) (by omega)
        obtain ⟨⟨z1, z2, z3, z4⟩, _, _⟩ := hprev
        rw [← hP'] at z1 z2
        rw [← hE'] at z3 z4
        clear hP' hE'
        by_cases b4 : P ≤ P'
        · have e4 : decide (P ≤ P') = true := decide_eq_true b4
          go_quiet (fail)
          go_wp2
          go_ret
          exact ⟨tableB_level HI HK (bad4 HP.out HP'.out hi0 b4), badw HB.out HW.out HQ.out _⟩
        have e4 : decide (P ≤ P') = false := decide_eq_false b4
        by_cases b5 : i ≤ i4
        · have e5 : decide (i ≤ i4) = true := decide_eq_true b5
          have m1 := prod_bd (show 0 ≤ P by omega) (show P ≤ 256 by omega) q3 q4
          have m2 := prod_bd (show 0 ≤ P' by omega) (show P' ≤ 256 by omega) q3 q4
          obtain ⟨m11, m12⟩ := m1
          obtain ⟨m21, m22⟩ := m2
          by_cases b6 : E' - P' * i3 < E - P * i3
          · have e6 : decide (E' - P' * i3 < E - P * i3) = true := decide_eq_true b6
            go_quiet (fail)
            go_wp2_with fail
            go_quiet (fail)
            go_wp2
            go_ret
            exact ⟨tableB_level HI HK (bad6 HP.out HE.out HP'.out HE'.out hi0 b5 b6), pw_below_drewN (badw HB.out HW.out HQ.out _) _⟩
          · have e6 : decide (E' - P' * i3 < E - P * i3) = false := decide_eq_false b6
            go_quiet (fail)
            go_wp2_with fail
            go_quiet (fail)
            go_wp2
            go_roundw
            case rel => exact ⟨i + 1, rfl, by omega, by omega, ⟨levels_next HL.out (ok_level HP.out HE.out (by omega) (by omega) (by omega) (by omega) (fun _ => by rw [← HP'.out, ← HP.out]; omega) (fun _ _ => by rw [← HP'.out, ← HP.out, ← HE'.out, ← HE.out]; omega))⟩, ⟨nextw HW.out HQ.out _⟩⟩
            case measure => simp [intOf]; omega
        · have e5 : decide (i ≤ i4) = false := decide_eq_false b5
          go_quiet (fail)
          go_wp2_with fail
          go_quiet (fail)
          go_wp2
          go_roundw
          case rel => exact ⟨i + 1, rfl, by omega, by omega, ⟨levels_next HL.out (ok_level HP.out HE.out (by omega) (by omega) (by omega) (by omega) (fun _ => by rw [← HP'.out, ← HP.out]; omega) (fun _ h => by omega))⟩, ⟨nextw HW.out HQ.out _⟩⟩
          case measure => simp [intOf]; omega
      · have g0 : decide (0 < i) = false := decide_eq_false hi0
        go_quiet (fail)
        go_wp2_with fail
        go_quiet (fail)
        go_wp2
        go_roundw
        case rel => exact ⟨i + 1, rfl, by omega, by omega, ⟨levels_next HL.out (ok_level HP.out HE.out (by omega) (by omega) (by omega) (by omega) (fun h => by omega) (fun h => by omega))⟩, ⟨nextw HW.out HQ.out _⟩⟩
        case measure => simp [intOf]; omega
    · have hge : i = (l0.length : Int) := by omega
      have HLL : Aside0 (∀ j : Int, 0 ≤ j → j < l0.length → LevelOk l0 i3 i4 j) := ⟨by rw [← hge]; exact HL.out⟩
      clear HL hge x4_ hi hk
      have hlt0 : decide (i < (l0.length : Int)) = false := decide_eq_false hlt
      have HB1 : Aside0 (Below w.heap.size w wr) := ⟨below_step HB.out HW.out⟩
      clear HB HW HC BK
      go_wp2
      clear hlt hlt0
      obtain ⟨w1, hw1⟩ : ∃ w1 : World, w1 = wr := ⟨_, rfl⟩
      rw [← hw1] at BK1 x3_ HB1 hsz ⊢
      clear hw1 x0_
      go_loopw [5] (fun v5 wx => ∃ i : Int, v5 = .int .i64 i ∧ 0 ≤ i ∧ i ≤ l1.length ∧ Aside0 (∀ j : Int, 0 ≤ j → j < i → SleepOk (rd_T66 l1 j) i3) ∧ Aside0 (Below w1.heap.size w1 wx)) (fun v5 _ => l1.length - (intOf v5).toNat)
      case atStart => exact ⟨0, rfl, by omega, by omega, ⟨fun j hj hj' => by omega⟩, ⟨Below.refl _ _⟩⟩
      case round =>
        obtain ⟨i, rfl, hi, hk, HL, HW⟩ := hrel
        have x1_ : wr.cell? ⟨w.heap.size, 1, none⟩ = some (.slice A1 l1.length c1) := pw_cell_below HW.out ((blk_cell BK1.out 1).trans rfl)
        have x3x : wr.cell? ⟨w.heap.size, 3, none⟩ = some (.int .i64 i3) := pw_cell_below HW.out x3_
        have HC : Aside0 (Kd.C k66 wr A1 l1.length l1) := ⟨Kd.C_below HR1.out (below_step HB1.out HW.out)⟩
        by_cases hlt : i < (l1.length : Int)
        · obtain ⟨ad, rfl, y0, y1, y2, y3, y4, y5⟩ := at_T66 HC.out i hi hlt
          have hlt0 : decide (i < (l1.length : Int)) = true := decide_eq_true hlt
          obtain ⟨s, hs⟩ : ∃ s, s = rd_T66 l1 i := ⟨_, rfl⟩
          rw [← hs] at y0 y1 y2 y3 y4 y5
          have HS1 := Aside0.mk hs
          have HI := Aside0.mk hi
          have HK := Aside0.mk hlt
          clear hs
          by_cases hok : SleepOk s i3
          · have HOK := Aside0.mk hok
            clear hok
            go_wp2_with fail
            go_still_tail 7, (by kernel_rfl)
            change wpList _ _ _ _ _ wr.drew
            have HD : Aside0 (Below wr.heap.size wr wr.drew) := ⟨(Below.refl _ _).drew⟩
            generalize wr.drew = w2 at HD ⊢
            go_wp2_with fail
            refine (dormouseref01_Sleep.calls _ _ _ _ _ _ _ _ _ (sleep_yes HOK.out)).mono ?_; rintro e w3 ⟨rfl, hb⟩
            have HB3 := Aside0.mk hb
            clear hb
            go_wp2
            go_roundw
            case rel => exact ⟨i + 1, rfl, by omega, by omega, ⟨next_one HL.out (by rw [← HS1.out]; exact HOK.out)⟩, ⟨tail_w1 HW.out HD.out HB3.out⟩⟩
            case measure => simp [intOf]; omega
          · have HOK := Aside0.mk hok
            clear hok
            go_wp2_with fail
            go_still_tail 7, (by kernel_rfl)
            change wpList _ _ _ _ _ wr.drew
            have HD : Aside0 (Below wr.heap.size wr wr.drew) := ⟨(Below.refl _ _).drew⟩
            generalize wr.drew = w2 at HD ⊢
            go_wp2_with fail
            refine (dormouseref01_Sleep.calls _ _ _ _ _ _ _ _ _ (sleep_no HOK.out)).mono ?_; rintro e w3 ⟨rfl, hb⟩
            have HB3 := Aside0.mk hb
            clear hb
            go_wp2
            go_ret
            exact ⟨tableB_sleep HS1.out HI.out HK.out HOK.out, tail_w HB1.out HW.out HD.out HB3.out⟩
        · have hge : i = (l1.length : Int) := by omega
          have HSS : Aside0 (∀ j : Int, 0 ≤ j → j < l1.length → SleepOk (rd_T66 l1 j) i3) := ⟨by rw [← hge]; exact HL.out⟩
          clear HL hge x3x hi hk x3_
          have hlt0 : decide (i < (l1.length : Int)) = false := decide_eq_false hlt
          have HB2 : Aside0 (Below w.heap.size w wr) := ⟨below_step HB1.out HW.out⟩
          have BK2 : Aside0 (wr.heap[w.heap.size]? = some (.cells #[.slice A0 l0.length c0, .slice A1 l1.length c1, .slice A2 l2.length c2, .int .i64 i3, .int .i64 i4, .int .i64 i5, .int .i64 i6, .int .i64 i7, .int .i64 i8] 43 (0, 0))) := ⟨by rw [HW.out.block _ hsz]; exact BK1.out⟩
          clear HB1 HW HC BK1
          go_wp2
          clear hlt hlt0
          obtain ⟨w2, hw2⟩ : ∃ w2 : World, w2 = wr := ⟨_, rfl⟩
          rw [← hw2] at BK2 HB2 ⊢
          clear hw2 x1_
          go_loopw [6] (fun v6 wx => ∃ i : Int, v6 = .int .i64 i ∧ 0 ≤ i ∧ i ≤ l2.length ∧ Aside0 (∀ j : Int, 0 ≤ j → j < i → DeviceOk (rd_T69 l2 j)) ∧ Aside0 (Below w2.heap.size w2 wx)) (fun v6 _ => l2.length - (intOf v6).toNat)
          case atStart => exact ⟨0, rfl, by omega, by omega, ⟨fun j hj hj' => by omega⟩, ⟨Below.refl _ _⟩⟩
          case round =>
            obtain ⟨i, rfl, hi, hk, HL, HW⟩ := hrel
            have x2_ : wr.cell? ⟨w.heap.size, 2, none⟩ = some (.slice A2 l2.length c2) := pw_cell_below HW.out ((blk_cell BK2.out 2).trans rfl)
            have HC : Aside0 (Kd.C k69 wr A2 l2.length l2) := ⟨Kd.C_below HR2.out (below_step HB2.out HW.out)⟩
            by_cases hlt : i < (l2.length : Int)
            · obtain ⟨ad, rfl, y0, y1, y2, y3, y4, y5, y6⟩ := at_T69 HC.out i hi hlt
              have hlt0 : decide (i < (l2.length : Int)) = true := decide_eq_true hlt
              obtain ⟨s, hs⟩ : ∃ s, s = rd_T69 l2 i := ⟨_, rfl⟩
              rw [← hs] at y0 y1 y2 y3 y4 y5 y6
              have HS1 := Aside0.mk hs
              have HI := Aside0.mk hi
              have HK := Aside0.mk hlt
              clear hs
              by_cases hok : DeviceOk s
              · have HOK := Aside0.mk hok
                clear hok
                go_wp2_with fail
                refine (dormouseref01_Device.calls _ _ _ _ _ _ _ _ _ (device_yes HOK.out)).mono ?_; rintro e w3 ⟨rfl, hb⟩
                have HB3 := Aside0.mk hb
                clear hb
                go_wp2
                go_roundw
                case rel => exact ⟨i + 1, rfl, by omega, by omega, ⟨next_one HL.out (by rw [← HS1.out]; exact HOK.out)⟩, ⟨below_step HW.out HB3.out⟩⟩
                case measure => simp [intOf]; omega
              · have HOK := Aside0.mk hok
                clear hok
                go_wp2_with fail
                refine (dormouseref01_Device.calls _ _ _ _ _ _ _ _ _ (device_no HOK.out)).mono ?_; rintro e w3 ⟨rfl, hb⟩
                have HB3 := Aside0.mk hb
                clear hb
                go_wp2
                go_ret
                exact ⟨tableB_device HS1.out HI.out HK.out HOK.out, below_step (below_step HB2.out HW.out) HB3.out⟩
            · have hge : i = (l2.length : Int) := by omega
              have HDD : Aside0 (∀ j : Int, 0 ≤ j → j < l2.length → DeviceOk (rd_T69 l2 j)) := ⟨by rw [← hge]; exact HL.out⟩
              clear HL hge hi hk
              have hlt0 : decide (i < (l2.length : Int)) = false := decide_eq_false hlt
              go_wp2
              go_ret
              exact ⟨tableB_yes ⟨HH.out, HLL.out, HSS.out, HDD.out⟩, below_step HB2.out HW.out⟩

theorem table_calls (A0 : Option Addr) (c0 : Nat) (l0 : List S63) (A1 : Option Addr) (c1 : Nat) (l1 : List S66) (A2 : Option Addr) (c2 : Nat) (l2 : List S69) (i3 i4 i5 i6 i7 i8 : Int) (w : World)
    (hr0 : Kd.C k63 w A0 l0.length l0) (hr1 : Kd.C k66 w A1 l1.length l1) (hr2 : Kd.C k69 w A2 l2.length l2) :
    Calls Try.prog 23 #[.agg #[.slice A0 l0.length c0, .slice A1 l1.length c1, .slice A2 l2.length c2, .int .i64 i3, .int .i64 i4, .int .i64 i5, .int .i64 i6, .int .i64 i7, .int .i64 i8]] w fun e w' => e = .returned (.bool (tableB l0 l1 l2 i3 i4 i5 i6 i7 i8)) ∧ Below w.heap.size w w' := by
  by_cases hh : Head l0.length l1.length l2.length i3 i4 i5 i6 i7 i8
  · exact table_good A0 c0 l0 A1 c1 l1 A2 c2 l2 i3 i4 i5 i6 i7 i8 w hr0 hr1 hr2 hh
  · exact table_bad A0 c0 l0 A1 c1 l1 A2 c2 l2 i3 i4 i5 i6 i7 i8 w ⟨hh⟩
end Go.Proofs.Ytdjmcjfdkcckoaa.Tbl
