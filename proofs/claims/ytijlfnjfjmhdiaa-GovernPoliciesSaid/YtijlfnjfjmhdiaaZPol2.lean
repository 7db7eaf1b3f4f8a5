/- Without a policy it is the fastest level; as the static or the saving one says it is no slower than the level that would do, and no slower than when it is as slow as can be. Conditions: none. -/
import Derived.Test.YtijlfnjfjmhdiaaZPol1
import Derived.StillTailTactics
import Derived.Deep.RegionHeld3
import Derived.Test.YtijlfnjfjmhdiaaRows
import Derived.WalkKit
import Derived.ProofKit
import Derived.OpenShut
import Derived.ShutString
import Derived.ChangeOld
import Derived.Below
import Derived.SizedLaws
namespace Go.Proofs.Ytijlfnjfjmhdiaa.Tbl
open Go.RowKit Go.Proofs.Ytijlfnjfjmhdiaa.F Go.Proofs.YtijlfnjfjmhdiaaW.PrintWords Go.Proofs.YtijlfnjfjmhdiaaW.PrintLast Go.Proofs.YtijlfnjfjmhdiaaW.PrintMore
attribute [local go_sem] max2_int min2_int max_two min_two max_three min_three max_four min_four
set_option maxHeartbeats 1600000 in
set_option maxRecDepth 100000 in
theorem table_bad (A0 : Option Addr) (c0 : Nat) (l0 : List S45) (A1 : Option Addr) (c1 : Nat) (l1 : List S59) (A2 : Option Addr) (c2 : Nat) (l2 : List S62) (i3 i4 i5 i6 i7 i8 : Int) (w : World) (hh : Aside0 (¬ Head l0.length l1.length l2.length i3 i4 i5 i6 i7 i8)) :
    Calls Try.prog 20 #[.agg #[.slice A0 l0.length c0, .slice A1 l1.length c1, .slice A2 l2.length c2, .int .i64 i3, .int .i64 i4, .int .i64 i5, .int .i64 i6, .int .i64 i7, .int .i64 i8]] w fun e w' => e = .returned (.bool (tableB l0 l1 l2 i3 i4 i5 i6 i7 i8)) ∧ Below w.heap.size w w' := by
  go_enter Try.func20, Try.ntmps20
  go_wp2
  all_goals first
    | (go_ret; exact ⟨tableB_head hh.out, (Below.refl _ _).alloc (Nat.le_refl _) _⟩)
    | (exfalso; exact hh.out (by unfold Head; omega))
set_option maxHeartbeats 8000000 in
set_option maxRecDepth 100000 in
theorem table_good (A0 : Option Addr) (c0 : Nat) (l0 : List S45) (A1 : Option Addr) (c1 : Nat) (l1 : List S59) (A2 : Option Addr) (c2 : Nat) (l2 : List S62) (i3 i4 i5 i6 i7 i8 : Int) (w : World)
    (hr0 : Kd.C k45 w A0 l0.length l0) (hr1 : Kd.C k59 w A1 l1.length l1) (hr2 : Kd.C k62 w A2 l2.length l2) (hh : Head l0.length l1.length l2.length i3 i4 i5 i6 i7 i8) :
    Calls Try.prog 20 #[.agg #[.slice A0 l0.length c0, .slice A1 l1.length c1, .slice A2 l2.length c2, .int .i64 i3, .int .i64 i4, .int .i64 i5, .int .i64 i6, .int .i64 i7, .int .i64 i8]] w fun e w' => e = .returned (.bool (tableB l0 l1 l2 i3 i4 i5 i6 i7 i8)) ∧ Below w.heap.size w w' := by
  have HR0 := Aside0.mk hr0
  have HR1 := Aside0.mk hr1
  have HR2 := Aside0.mk hr2
  have HH := Aside0.mk hh
  clear hr0 hr1 hr2
  obtain ⟨q1, q2, q3, q4, q5, q6, q7, q8, q9, q10, q11, q12, q13, q14, q15, q16⟩ := hh
  go_enter Try.func20, Try.ntmps20
  go_upto_region 1 with (fail)
  generalize hw0 : w.alloc (.cells #[.slice A0 l0.length c0, .slice A1 l1.length c1, .slice A2 l2.length c2, .int .i64 i3, .int .i64 i4, .int .i64 i5, .int .i64 i6, .int .i64 i7, .int .i64 i8] 38 (0, 0)) = w0
  have BK : Aside0 (w0.heap[w.heap.size]? = some (.cells #[.slice A0 l0.length c0, .slice A1 l1.length c1, .slice A2 l2.length c2, .int .i64 i3, .int .i64 i4, .int .i64 i5, .int .i64 i6, .int .i64 i7, .int .i64 i8] 38 (0, 0))) := ⟨by rw [← hw0]; exact heap_alloc_new w _⟩
  have HB : Aside0 (Below w.heap.size w w0) := ⟨by rw [← hw0]; exact (Below.refl _ _).alloc (Nat.le_refl _) _⟩
  have HS : Aside0 (w0.heap.size = w.heap.size + 1) := ⟨by rw [← hw0]; simp⟩
  clear hw0
  go_cut [59] (fun v59 wc => v59 = .bool false ∧ wc = w0)
  case first =>
    have x0_ : w0.cell? ⟨w.heap.size, 0, none⟩ = some (.slice A0 l0.length c0) := (blk_cell BK.out 0).trans rfl
    have x3_ : w0.cell? ⟨w.heap.size, 3, none⟩ = some (.int .i64 i3) := (blk_cell BK.out 3).trans rfl
    have x4_ : w0.cell? ⟨w.heap.size, 4, none⟩ = some (.int .i64 i4) := (blk_cell BK.out 4).trans rfl
    have x5_ : w0.cell? ⟨w.heap.size, 5, none⟩ = some (.int .i64 i5) := (blk_cell BK.out 5).trans rfl
    have x6_ : w0.cell? ⟨w.heap.size, 6, none⟩ = some (.int .i64 i6) := (blk_cell BK.out 6).trans rfl
    go_wp2
    go_meet
    case rel => exact ⟨by simp; omega, rfl⟩
  case rest =>
  obtain ⟨rfl, rfl⟩ := hcut
  go_upto_region 3 with (fail)
  go_cut [89] (fun v89 wx => v89 = .bool false ∧ wx = wc)
  case first =>
    have x1_ : wc.cell? ⟨w.heap.size, 1, none⟩ = some (.slice A1 l1.length c1) := (blk_cell BK.out 1).trans rfl
    have x2_ : wc.cell? ⟨w.heap.size, 2, none⟩ = some (.slice A2 l2.length c2) := (blk_cell BK.out 2).trans rfl
    have x7_ : wc.cell? ⟨w.heap.size, 7, none⟩ = some (.int .i64 i7) := (blk_cell BK.out 7).trans rfl
    have x8_ : wc.cell? ⟨w.heap.size, 8, none⟩ = some (.int .i64 i8) := (blk_cell BK.out 8).trans rfl
    go_wp2
    go_meet
    case rel => exact ⟨by simp; omega, rfl⟩
  case rest =>
  obtain ⟨rfl, rfl⟩ := hcut
  go_wp2
  generalize hw0 : wc = w0 at *
  clear hw0
  go_loopw [3] (fun v3 wr => ∃ i : Int, v3 = .int .i64 i ∧ 0 ≤ i ∧ i ≤ l0.length ∧ Aside0 (∀ j : Int, 0 ≤ j → j < i → LevelOk l0 i3 i4 j) ∧ Aside0 (Below w0.heap.size w0 wr)) (fun v3 _ => l0.length - (intOf v3).toNat)
  case atStart => exact ⟨0, rfl, by omega, by omega, ⟨fun j hj hj' => by omega⟩, ⟨Below.refl _ _⟩⟩
  case round =>
    obtain ⟨i, rfl, hi, hk, HL, HW⟩ := hrel
    have BK1 : Aside0 (wr.heap[w.heap.size]? = some (.cells #[.slice A0 l0.length c0, .slice A1 l1.length c1, .slice A2 l2.length c2, .int .i64 i3, .int .i64 i4, .int .i64 i5, .int .i64 i6, .int .i64 i7, .int .i64 i8] 38 (0, 0))) := ⟨by rw [HW.out.block _ (by rw [HS.out]; omega)]; exact BK.out⟩
    have HC : Aside0 (Kd.C k45 wr A0 l0.length l0) := ⟨Kd.C_below HR0.out (below_step HB.out HW.out)⟩
    have x0_ : wr.cell? ⟨w.heap.size, 0, none⟩ = some (.slice A0 l0.length c0) := (blk_cell BK1.out 0).trans rfl
    have x3_ : wr.cell? ⟨w.heap.size, 3, none⟩ = some (.int .i64 i3) := (blk_cell BK1.out 3).trans rfl
    have x4_ : wr.cell? ⟨w.heap.size, 4, none⟩ = some (.int .i64 i4) := (blk_cell BK1.out 4).trans rfl
    have hsz : w.heap.size < wr.heap.size := by have := HW.out.size; have := HS.out; omega
    by_cases hlt : i < (l0.length : Int)
    · obtain ⟨ad, rfl, x0, x1⟩ := at_T45 HC.out i hi hlt
      obtain ⟨P, hP⟩ : ∃ x, x = (rd_T45 l0 i).f0 := ⟨_, rfl⟩
      obtain ⟨E, hE⟩ : ∃ x, x = (rd_T45 l0 i).f1 := ⟨_, rfl⟩
      rw [← hP] at x0
      rw [← hE] at x1
      have HP := Aside0.mk hP
      have HE := Aside0.mk hE
      have HI := Aside0.mk hi
      have HK := Aside0.mk hlt
      have hlt0 : decide (i < (l0.length : Int)) = true := decide_eq_true hlt
      clear hP hE
      go_wp2_with fail
      generalize hwq : wr.alloc (.cells #[.int .i64 P, .int .i64 E] 45 (0, 0)) = wq
      have HQ : Aside0 (Below wr.heap.size wr wq) := ⟨by rw [← hwq]; exact (Below.refl _ _).alloc (Nat.le_refl _) _⟩
      have l0_ : wq.cell? ⟨wr.heap.size, 0, none⟩ = some (.int .i64 P) := by rw [← hwq]; exact (blk_cell (heap_alloc_new wr _) 0).trans rfl
      have l1_ : wq.cell? ⟨wr.heap.size, 1, none⟩ = some (.int .i64 E) := by rw [← hwq]; exact (blk_cell (heap_alloc_new wr _) 1).trans rfl
      clear hwq
      replace x0_ := pw_cell_below HQ.out x0_
      replace x3_ := pw_cell_below HQ.out x3_
      replace x4_ := pw_cell_below HQ.out x4_
      replace HC : Aside0 (Kd.C k45 wq (some ad) l0.length l0) := ⟨Kd.C_below HC.out HQ.out⟩
      clear x0 x1
      by_cases b0 : P < 1
      · have e0 : decide (P < 1) = true := decide_eq_true b0
        go_quiet (fail)
        go_wp2
        go_ret
        exact ⟨tableB_level HI HK (bad0 HP.out HE.out b0), badw HB.out HW.out HQ.out _⟩
      have e0 : decide (P < 1) = false := decide_eq_false b0
      by_cases b1 : 256 < P
      · have e1 : decide (256 < P) = true := decide_eq_true b1
        go_quiet (fail)
        go_wp2
        go_ret
        exact ⟨tableB_level HI HK (bad1 HP.out HE.out b1), badw HB.out HW.out HQ.out _⟩
      have e1 : decide (256 < P) = false := decide_eq_false b1
      by_cases b2 : E < 0
      · have e2 : decide (E < 0) = true := decide_eq_true b2
        go_quiet (fail)
        go_wp2
        go_ret
        exact ⟨tableB_level HI HK (bad2 HP.out HE.out b2), badw HB.out HW.out HQ.out _⟩
      have e2 : decide (E < 0) = false := decide_eq_false b2
      by_cases b3 : 65536 < E
      · have e3 : decide (65536 < E) = true := decide_eq_true b3
        go_quiet (fail)
        go_wp2
        go_ret
        exact ⟨tableB_level HI HK (bad3 HP.out HE.out b3), badw HB.out HW.out HQ.out _⟩
      have e3 : decide (65536 < E) = false := decide_eq_false b3
      by_cases hi0 : 0 < i
      · have g0 : decide (0 < i) = true := decide_eq_true hi0
        obtain ⟨ad', e', y0, y1⟩ := at_T45 HC.out (i - 1) (by omega) (by omega)
        obtain rfl : ad = ad' := Option.some.inj e'
        clear e'
        obtain ⟨P', hP'⟩ : ∃ x, x = (rd_T45 l0 (i - 1)).f0 := ⟨_, rfl⟩
        obtain ⟨E', hE'⟩ : ∃ x, x = (rd_T45 l0 (i - 1)).f1 := ⟨_, rfl⟩
        rw [show (i - 1).toNat = i.toNat - 1 from by omega] at y0 y1
        rw [← hP'] at y0
        rw [← hE'] at y1
        have HP' := Aside0.mk hP'
        have HE' := Aside0.mk hE'
        have hj1 : 0 ≤ i - 1 := by omega
        have hj3 : 1 ≤ i := by omega
        have hj4 : i ≤ (l0.length : Int) := by omega
        have hj5 : IntKind.i64.wrap (i - 1) = i - 1 := IntWalk.i64_in _ (by omega)
        have hj2 : i - 1 < (l0.length : Int) := by omega
        have hprev := HL.out (i - 1) (by omega) (by omega)
        obtain ⟨⟨z1, z2, z3, z4⟩, _, _⟩ := hprev
        rw [← hP'] at z1 z2
        rw [← hE'] at z3 z4
        clear hP' hE'
        by_cases b4 : P ≤ P'
        · have e4 : decide (P ≤ P') = true := decide_eq_true b4
          go_quiet (fail)
          go_wp2
          go_ret
          exact ⟨tableB_level HI HK (bad4 HP.out HP'.out hi0 b4), badw HB.out HW.out HQ.out _⟩
        have e4 : decide (P ≤ P') = false := decide_eq_false b4
        by_cases b5 : i ≤ i4
        · have e5 : decide (i ≤ i4) = true := decide_eq_true b5
          have m1 := prod_bd (show 0 ≤ P by omega) (show P ≤ 256 by omega) q3 q4
          have m2 := prod_bd (show 0 ≤ P' by omega) (show P' ≤ 256 by omega) q3 q4
          obtain ⟨m11, m12⟩ := m1
          obtain ⟨m21, m22⟩ := m2
          by_cases b6 : E' - P' * i3 < E - P * i3
          · have e6 : decide (E' - P' * i3 < E - P * i3) = true := decide_eq_true b6
            go_quiet (fail)
            go_wp2_with fail
            go_quiet (fail)
            go_wp2
            go_ret
            exact ⟨tableB_level HI HK (bad6 HP.out HE.out HP'.out HE'.out hi0 b5 b6), pw_below_drewN (badw HB.out HW.out HQ.out _) _⟩
          · have e6 : decide (E' - P' * i3 < E - P * i3) = false := decide_eq_false b6
            go_quiet (fail)
            go_wp2_with fail
            go_quiet (fail)
            go_wp2
            go_roundw
            case rel => exact ⟨i + 1, rfl, by omega, by omega, ⟨levels_next HL.out (ok_level HP.out HE.out (by omega) (by omega) (by omega) (by omega) (fun _ => by rw [← HP'.out, ← HP.out]; omega) (fun _ _ => by rw [← HP'.out, ← HP.out, ← HE'.out, ← HE.out]; omega))⟩, ⟨nextw HW.out HQ.out _⟩⟩
            case measure => simp [intOf]; omega
        · have e5 : decide (i ≤ i4) = false := decide_eq_false b5
          go_quiet (fail)
          go_wp2_with fail
          go_quiet (fail)
          go_wp2
          go_roundw
          case rel => exact ⟨i + 1, rfl, by omega, by omega, ⟨levels_next HL.out (ok_level HP.out HE.out (by omega) (by omega) (by omega) (by omega) (fun _ => by rw [← HP'.out, ← HP.out]; omega) (fun _ h => by omega))⟩, ⟨nextw HW.out HQ.out _⟩⟩
          case measure => simp [intOf]; omega
      · have g0 : decide (0 < i) = false := decide_eq_false hi0
        go_quiet (fail)
        go_wp2_with fail
        go_quiet (fail)
        go_wp2
        go_roundw
        case rel => exact ⟨i + 1, rfl, by omega, by omega, ⟨levels_next HL.out (ok_level HP.out HE.out (by omega) (by omega) (by omega) (by omega) (fun h => by omega) (fun h => by omega))⟩, ⟨nextw HW.out HQ.out _⟩⟩
        case measure => simp [intOf]; omega
    · have hge : i = (l0.length : Int) := by omega
      have HLL : Aside0 (∀ j : Int, 0 ≤ j → j < l0.length → LevelOk l0 i3 i4 j) := ⟨by rw [← hge]; exact HL.out⟩
      clear HL hge x4_ hi hk
      have hlt0 : decide (i < (l0.length : Int)) = false := decide_eq_false hlt
      have HB1 : Aside0 (Below w.heap.size w wr) := ⟨below_step HB.out HW.out⟩
      clear HB HW HC BK
      go_wp2
      clear hlt hlt0
      obtain ⟨w1, hw1⟩ : ∃ w1 : World, w1 = wr := ⟨_, rfl⟩
      rw [← hw1] at BK1 x3_ HB1 hsz ⊢
      clear hw1 x0_
      go_loopw [5] (fun v5 wx => ∃ i : Int, v5 = .int .i64 i ∧ 0 ≤ i ∧ i ≤ l1.length ∧ Aside0 (∀ j : Int, 0 ≤ j → j < i → SleepOk (rd_T59 l1 j) i3) ∧ Aside0 (Below w1.heap.size w1 wx)) (fun v5 _ => l1.length - (intOf v5).toNat)
      case atStart => exact ⟨0, rfl, by omega, by omega, ⟨fun j hj hj' => by omega⟩, ⟨Below.refl _ _⟩⟩
      case round =>
        obtain ⟨i, rfl, hi, hk, HL, HW⟩ := hrel
        have x1_ : wr.cell? ⟨w.heap.size, 1, none⟩ = some (.slice A1 l1.length c1) := pw_cell_below HW.out ((blk_cell BK1.out 1).trans rfl)
        have x3x : wr.cell? ⟨w.heap.size, 3, none⟩ = some (.int .i64 i3) := pw_cell_below HW.out x3_
        have HC : Aside0 (Kd.C k59 wr A1 l1.length l1) := ⟨Kd.C_below HR1.out (below_step HB1.out HW.out)⟩
        by_cases hlt : i < (l1.length : Int)
        · obtain ⟨ad, rfl, y0, y1, y2, y3, y4, y5⟩ := at_T59 HC.out i hi hlt
          have hlt0 : decide (i < (l1.length : Int)) = true := decide_eq_true hlt
          obtain ⟨s, hs⟩ : ∃ s, s = rd_T59 l1 i := ⟨_, rfl⟩
          rw [← hs] at y0 y1 y2 y3 y4 y5
          have HS1 := Aside0.mk hs
          have HI := Aside0.mk hi
          have HK := Aside0.mk hlt
          clear hs
          by_cases hok : SleepOk s i3
          · have HOK := Aside0.mk hok
            clear hok
            go_wp2_with fail
            go_still_tail 7, (by kernel_rfl)
            change wpList _ _ _ _ _ wr.drew
            have HD : Aside0 (Below wr.heap.size wr wr.drew) := ⟨(Below.refl _ _).drew⟩
            generalize wr.drew = w2 at HD ⊢
            go_wp2_with fail
            refine (dormouseref01_Sleep.calls _ _ _ _ _ _ _ _ _ (sleep_yes HOK.out)).mono ?_; rintro e w3 ⟨rfl, hb⟩
            have HB3 := Aside0.mk hb
            clear hb
            go_wp2
            go_roundw
            case rel => exact ⟨i + 1, rfl, by omega, by omega, ⟨next_one HL.out (by rw [← HS1.out]; exact HOK.out)⟩, ⟨tail_w1 HW.out HD.out HB3.out⟩⟩
            case measure => simp [intOf]; omega
          · have HOK := Aside0.mk hok
            clear hok
            go_wp2_with fail
            go_still_tail 7, (by kernel_rfl)
            change wpList _ _ _ _ _ wr.drew
            have HD : Aside0 (Below wr.heap.size wr wr.drew) := ⟨(Below.refl _ _).drew⟩
            generalize wr.drew = w2 at HD ⊢
            go_wp2_with fail
            refine (dormouseref01_Sleep.calls _ _ _ _ _ _ _ _ _ (sleep_no HOK.out)).mono ?_; rintro e w3 ⟨rfl, hb⟩
            have HB3 := Aside0.mk hb
            clear hb
            go_wp2
            go_ret
            exact ⟨tableB_sleep HS1.out HI.out HK.out HOK.out, tail_w HB1.out HW.out HD.out HB3.out⟩
        · have hge : i = (l1.length : Int) := by omega
          have HSS : Aside0 (∀ j : Int, 0 ≤ j → j < l1.length → SleepOk (rd_T59 l1 j) i3) := ⟨by rw [← hge]; exact HL.out⟩
          clear HL hge x3x hi hk x3_
          have hlt0 : decide (i < (l1.length : Int)) = false := decide_eq_false hlt
          have HB2 : Aside0 (Below w.heap.size w wr) := ⟨below_step HB1.out HW.out⟩
          have BK2 : Aside0 (wr.heap[w.heap.size]? = some (.cells #[.slice A0 l0.length c0, .slice A1 l1.length c1, .slice A2 l2.length c2, .int .i64 i3, .int .i64 i4, .int .i64 i5, .int .i64 i6, .int .i64 i7, .int .i64 i8] 38 (0, 0))) := ⟨by rw [HW.out.block _ hsz]; exact BK1.out⟩
          clear HB1 HW HC BK1
          go_wp2
          clear hlt hlt0
          obtain ⟨w2, hw2⟩ : ∃ w2 : World, w2 = wr := ⟨_, rfl⟩
          rw [← hw2] at BK2 HB2 ⊢
          clear hw2 x1_
          go_loopw [6] (fun v6 wx => ∃ i : Int, v6 = .int .i64 i ∧ 0 ≤ i ∧ i ≤ l2.length ∧ Aside0 (∀ j : Int, 0 ≤ j → j < i → DeviceOk (rd_T62 l2 j)) ∧ Aside0 (Below w2.heap.size w2 wx)) (fun v6 _ => l2.length - (intOf v6).toNat)
          case atStart => exact ⟨0, rfl, by omega, by omega, ⟨fun j hj hj' => by omega⟩, ⟨Below.refl _ _⟩⟩
          case round =>
            obtain ⟨i, rfl, hi, hk, HL, HW⟩ := hrel
            have x2_ : wr.cell? ⟨w.heap.size, 2, none⟩ = some (.slice A2 l2.length c2) := pw_cell_below HW.out ((blk_cell BK2.out 2).trans rfl)
            have HC : Aside0 (Kd.C k62 wr A2 l2.length l2) := ⟨Kd.C_below HR2.out (below_step HB2.out HW.out)⟩
            by_cases hlt : i < (l2.length : Int)
            · obtain ⟨ad, rfl, y0, y1, y2, y3, y4, y5, y6⟩ := at_T62 HC.out i hi hlt
              have hlt0 : decide (i < (l2.length : Int)) = true := decide_eq_true hlt
              obtain ⟨s, hs⟩ : ∃ s, s = rd_T62 l2 i := ⟨_, rfl⟩
              rw [← hs] at y0 y1 y2 y3 y4 y5 y6
              have HS1 := Aside0.mk hs
              have HI := Aside0.mk hi
              have HK := Aside0.mk hlt
              clear hs
              by_cases hok : DeviceOk s
              · have HOK := Aside0.mk hok
                clear hok
                go_wp2_with fail
                refine (dormouseref01_Device.calls _ _ _ _ _ _ _ _ _ (device_yes HOK.out)).mono ?_; rintro e w3 ⟨rfl, hb⟩
                have HB3 := Aside0.mk hb
                clear hb
                go_wp2
                go_roundw
                case rel => exact ⟨i + 1, rfl, by omega, by omega, ⟨next_one HL.out (by rw [← HS1.out]; exact HOK.out)⟩, ⟨below_step HW.out HB3.out⟩⟩
                case measure => simp [intOf]; omega
              · have HOK := Aside0.mk hok
                clear hok
                go_wp2_with fail
                refine (dormouseref01_Device.calls _ _ _ _ _ _ _ _ _ (device_no HOK.out)).mono ?_; rintro e w3 ⟨rfl, hb⟩
                have HB3 := Aside0.mk hb
                clear hb
                go_wp2
                go_ret
                exact ⟨tableB_device HS1.out HI.out HK.out HOK.out, below_step (below_step HB2.out HW.out) HB3.out⟩
            · have hge : i = (l2.length : Int) := by omega
              have HDD : Aside0 (∀ j : Int, 0 ≤ j → j < l2.length → DeviceOk (rd_T62 l2 j)) := ⟨by rw [← hge]; exact HL.out⟩
              clear HL hge hi hk
              have hlt0 : decide (i < (l2.length : Int)) = false := decide_eq_false hlt
              go_wp2
              go_ret
              exact ⟨tableB_yes ⟨HH.out, HLL.out, HSS.out, HDD.out⟩, below_step HB2.out HW.out⟩
theorem table_calls (A0 : Option Addr) (c0 : Nat) (l0 : List S45) (A1 : Option Addr) (c1 : Nat) (l1 : List S59) (A2 : Option Addr) (c2 : Nat) (l2 : List S62) (i3 i4 i5 i6 i7 i8 : Int) (w : World)
    (hr0 : Kd.C k45 w A0 l0.length l0) (hr1 : Kd.C k59 w A1 l1.length l1) (hr2 : Kd.C k62 w A2 l2.length l2) :
    Calls Try.prog 20 #[.agg #[.slice A0 l0.length c0, .slice A1 l1.length c1, .slice A2 l2.length c2, .int .i64 i3, .int .i64 i4, .int .i64 i5, .int .i64 i6, .int .i64 i7, .int .i64 i8]] w fun e w' => e = .returned (.bool (tableB l0 l1 l2 i3 i4 i5 i6 i7 i8)) ∧ Below w.heap.size w w' := by
  by_cases hh : Head l0.length l1.length l2.length i3 i4 i5 i6 i7 i8
  · exact table_good A0 c0 l0 A1 c1 l1 A2 c2 l2 i3 i4 i5 i6 i7 i8 w hr0 hr1 hr2 hh
  · exact table_bad A0 c0 l0 A1 c1 l1 A2 c2 l2 i3 i4 i5 i6 i7 i8 w ⟨hh⟩
end Go.Proofs.Ytijlfnjfjmhdiaa.Tbl
namespace Go.Proofs.Ytijlfnjfjmhdiaa.F
open Go.RowKit Go.Proofs.YtijlfnjfjmhdiaaW.PrintWords Go.Proofs.YtijlfnjfjmhdiaaW.PrintLast Go.Proofs.YtijlfnjfjmhdiaaW.PrintMore
attribute [local go_sem] max2_int min2_int max_two min_two max_three min_three max_four min_four   -- for this text's walks alone
set_option linter.unusedVariables false
set_option linter.unusedSimpArgs false
noncomputable def dormouseref01_Table.f (k : Nat) (l0_0 : List (S45)) (l0_1 : List (S59)) (l0_2 : List (S62)) (a0_3 : Int) (a0_4 : Int) (a0_5 : Int) (a0_6 : Int) (a0_7 : Int) (a0_8 : Int) : Option (Bool) := some (Tbl.tableB l0_0 l0_1 l0_2 a0_3 a0_4 a0_5 a0_6 a0_7 a0_8)
theorem dormouseref01_Table.calls (k : Nat) (A0_0 : Option Addr) (c0_0 : Nat) (l0_0 : List (S45)) (A0_1 : Option Addr) (c0_1 : Nat) (l0_1 : List (S59)) (A0_2 : Option Addr) (c0_2 : Nat) (l0_2 : List (S62)) (a0_3 : Int) (a0_4 : Int) (a0_5 : Int) (a0_6 : Int) (a0_7 : Int) (a0_8 : Int) (r : Bool) (w : World) (hr0_0 : Kd.C k45 w A0_0 l0_0.length l0_0) (hc0_0 : l0_0.length ≤ c0_0) (hr0_1 : Kd.C k59 w A0_1 l0_1.length l0_1) (hc0_1 : l0_1.length ≤ c0_1) (hr0_2 : Kd.C k62 w A0_2 l0_2.length l0_2) (hc0_2 : l0_2.length ≤ c0_2) (h : dormouseref01_Table.f k l0_0 l0_1 l0_2 a0_3 a0_4 a0_5 a0_6 a0_7 a0_8 = some r) :
    Calls Try.prog 20 #[.agg #[.slice A0_0 l0_0.length c0_0, .slice A0_1 l0_1.length c0_1, .slice A0_2 l0_2.length c0_2, .int .i64 a0_3, .int .i64 a0_4, .int .i64 a0_5, .int .i64 a0_6, .int .i64 a0_7, .int .i64 a0_8]] w fun e w' => e = .returned (.bool r) ∧ Below w.heap.size w w' := by
  obtain rfl := Option.some.inj h
  exact Tbl.table_calls A0_0 c0_0 l0_0 A0_1 c0_1 l0_1 A0_2 c0_2 l0_2 a0_3 a0_4 a0_5 a0_6 a0_7 a0_8 w hr0_0 hr0_1 hr0_2
end Go.Proofs.Ytijlfnjfjmhdiaa.F
namespace Go.Proofs.Ytijlfnjfjmhdiaa.F
noncomputable section
open Go.RowKit Go.Proofs.YtijlfnjfjmhdiaaW.PrintWords Go.Proofs.YtijlfnjfjmhdiaaW.PrintLast Go.Proofs.YtijlfnjfjmhdiaaW.PrintMore
attribute [local go_sem] max2_int min2_int max_two min_two max_three min_three max_four min_four   -- for this text's walks alone
set_option linter.unusedVariables false
set_option linter.unusedSimpArgs false
def dormouselaw16_good.f (k : Nat) (l0_0 : List (S45)) (l0_1 : List (S59)) (l0_2 : List (S62)) (a0_3 : Int) (a0_4 : Int) (a0_5 : Int) (a0_6 : Int) (a0_7 : Int) (a0_8 : Int) (a1_0 : Int) (a1_1 : Int) (a1_2 : Int) (a1_3 : Int) (a1_4 : Int) : Option (Bool) := (dormouseref01_Table.f k l0_0 l0_1 l0_2 a0_3 a0_4 a0_5 a0_6 a0_7 a0_8).bind fun t138 => (if t138 = true then (if a1_2 ≥ 0 then (some (decide (a1_2 ≤ 8192))) else (some false)) else (some false))
set_option maxHeartbeats 8000000 in
set_option maxRecDepth 100000 in
theorem dormouselaw16_good.calls (k : Nat) (A0_0 : Option Addr) (c0_0 : Nat) (l0_0 : List (S45)) (A0_1 : Option Addr) (c0_1 : Nat) (l0_1 : List (S59)) (A0_2 : Option Addr) (c0_2 : Nat) (l0_2 : List (S62)) (a0_3 : Int) (a0_4 : Int) (a0_5 : Int) (a0_6 : Int) (a0_7 : Int) (a0_8 : Int) (a1_0 : Int) (a1_1 : Int) (a1_2 : Int) (a1_3 : Int) (a1_4 : Int) (r : Bool) (w : World) (hr0_0 : Kd.C k45 w A0_0 l0_0.length l0_0) (hc0_0 : l0_0.length ≤ c0_0) (hr0_1 : Kd.C k59 w A0_1 l0_1.length l0_1) (hc0_1 : l0_1.length ≤ c0_1) (hr0_2 : Kd.C k62 w A0_2 l0_2.length l0_2) (hc0_2 : l0_2.length ≤ c0_2) (h : dormouselaw16_good.f k l0_0 l0_1 l0_2 a0_3 a0_4 a0_5 a0_6 a0_7 a0_8 a1_0 a1_1 a1_2 a1_3 a1_4 = some r) :
    Calls Try.prog 14 #[.agg #[.slice A0_0 l0_0.length c0_0, .slice A0_1 l0_1.length c0_1, .slice A0_2 l0_2.length c0_2, .int .i64 a0_3, .int .i64 a0_4, .int .i64 a0_5, .int .i64 a0_6, .int .i64 a0_7, .int .i64 a0_8], .agg #[.int .i64 a1_0, .int .i64 a1_1, .int .i64 a1_2, .int .i64 a1_3, .int .i64 a1_4]] w fun e w' => e = .returned (.bool r) ∧ Below w.heap.size w w' := by
  have hu38 := Try.underlying38
  have hu40 := Try.underlying40
  have HR0_0 := Aside0.mk hr0_0
  have HC0_0 := Aside0.mk hc0_0
  clear hr0_0 hc0_0
  have HR0_1 := Aside0.mk hr0_1
  have HC0_1 := Aside0.mk hc0_1
  clear hr0_1 hc0_1
  have HR0_2 := Aside0.mk hr0_2
  have HC0_2 := Aside0.mk hc0_2
  clear hr0_2 hc0_2
  have HB := Aside0.mk (Below.refl w.heap.size w)
  have H : ((dormouseref01_Table.f k l0_0 l0_1 l0_2 a0_3 a0_4 a0_5 a0_6 a0_7 a0_8).bind fun t138 => (if t138 = true then (if a1_2 ≥ 0 then (some (decide (a1_2 ≤ 8192))) else (some false)) else (some false))) = some r := h
  clear h
  replace H := Option.bind_eq_some_iff.mp H
  obtain ⟨t138, A30, H⟩ := H
  replace H : (if t138 = true then (if a1_2 ≥ 0 then (some (decide (a1_2 ≤ 8192))) else (some false)) else (some false)) = some r := H
  have A3 := Aside0.mk A30
  clear A30
  by_cases c4 : t138 = true
  · subst c4
    have H1 : (if a1_2 ≥ 0 then (some (decide (a1_2 ≤ 8192))) else (some false)) = some r := by rw [if_pos rfl] at H; exact H
    clear H
    have H := H1
    clear H1
    by_cases c5 : a1_2 ≥ 0
    · rw [if_pos c5] at H
      have c5b0 : decide (0 ≤ a1_2) = true := decide_eq_true c5
      clear c5
      obtain rfl := Option.some.inj H
      go_enter Try.func14, Try.ntmps14
      go_wp2_with (first | ((with_reducible refine gate_dst (N := 2) rfl ?_); refine box_event ?hg (N := 2) ?hd (cs := #[.slice A0_0 l0_0.length c0_0, .slice A0_1 l0_1.length c0_1, .slice A0_2 l0_2.length c0_2, .int .i64 a0_3, .int .i64 a0_4, .int .i64 a0_5, .int .i64 a0_6, .int .i64 a0_7, .int .i64 a0_8]) (t := 38) ?hr ?_; (case hd => rfl); (case hg => rfl); (case hr => first | (go_simp; done) | (go_simp; rfl)); intro gb136 hg w6 hbox hb; have n0_ := Aside0.mk (below_step (by repeat (first | (with_reducible first | exact HB.out | apply below_alloc | apply pw_below_drewN | apply below_drew1) | exact HB.out)) hb); have n1_ := Aside0.mk (hbox); have n2_ := Aside0.mk ((by rw [hg]; exact (below_size (by repeat (first | (with_reducible first | exact HB.out | apply below_alloc | apply pw_below_drewN | apply below_drew1) | exact HB.out))) : w.heap.size ≤ gb136)); have n3_ := Aside0.mk ((by rw [hg]; exact (below_size (by repeat (first | (with_reducible first | exact HB.out | apply below_alloc | apply pw_below_drewN | apply below_drew1) | exact HB.out))) : w.heap.size ≤ gb136)); clear HB; have HB := n0_; have BK136 := n1_; have GW136 := n2_; have GE136 := n3_; clear n0_ n1_ n2_ n3_; clear hb hbox hg) | ((with_reducible refine gate_dst (N := 3) rfl ?_); refine box_event ?hg (N := 3) ?hd (cs := #[.int .i64 a1_0, .int .i64 a1_1, .int .i64 a1_2, .int .i64 a1_3, .int .i64 a1_4]) (t := 40) ?hr ?_; (case hd => rfl); (case hg => rfl); (case hr => first | (go_simp; done) | (go_simp; rfl)); intro gb137 hg w7 hbox hb; have n0_ := Aside0.mk (blk_below (g := gb136) (o := .cells #[.slice A0_0 l0_0.length c0_0, .slice A0_1 l0_1.length c0_1, .slice A0_2 l0_2.length c0_2, .int .i64 a0_3, .int .i64 a0_4, .int .i64 a0_5, .int .i64 a0_6, .int .i64 a0_7, .int .i64 a0_8] 38 (0, 0)) (by (with_reducible repeat (first | refine blk_drewN ?_ _ | refine blk_drew ?_ | refine blk_alloc ?_ _)); exact BK136.out) hb); have n1_ := Aside0.mk (below_step (by repeat (first | (with_reducible first | exact HB.out | apply below_alloc | apply pw_below_drewN | apply below_drew1 | refine below_set ?_ GE136.out) | exact HB.out)) hb); have n2_ := Aside0.mk (hbox); have n3_ := Aside0.mk ((by rw [hg]; exact (below_size (by repeat (first | (with_reducible first | exact HB.out | apply below_alloc | apply pw_below_drewN | apply below_drew1 | refine below_set ?_ GE136.out) | exact HB.out))) : w.heap.size ≤ gb137)); have n4_ := Aside0.mk ((by rw [hg]; exact (below_size (by repeat (first | (with_reducible first | exact HB.out | apply below_alloc | apply pw_below_drewN | apply below_drew1 | refine below_set ?_ GE136.out) | exact HB.out))) : w.heap.size ≤ gb137)); have n5_ := Aside0.mk ((by rw [hg]; exact Nat.ne_of_lt (blk_lt (g := gb136) (o := .cells #[.slice A0_0 l0_0.length c0_0, .slice A0_1 l0_1.length c0_1, .slice A0_2 l0_2.length c0_2, .int .i64 a0_3, .int .i64 a0_4, .int .i64 a0_5, .int .i64 a0_6, .int .i64 a0_7, .int .i64 a0_8] 38 (0, 0)) (by (with_reducible repeat (first | refine blk_drewN ?_ _ | refine blk_drew ?_ | refine blk_alloc ?_ _)); exact BK136.out)) : gb136 ≠ gb137)); have n6_ := Aside0.mk ((by rw [hg]; exact Nat.ne_of_gt (blk_lt (g := gb136) (o := .cells #[.slice A0_0 l0_0.length c0_0, .slice A0_1 l0_1.length c0_1, .slice A0_2 l0_2.length c0_2, .int .i64 a0_3, .int .i64 a0_4, .int .i64 a0_5, .int .i64 a0_6, .int .i64 a0_7, .int .i64 a0_8] 38 (0, 0)) (by (with_reducible repeat (first | refine blk_drewN ?_ _ | refine blk_drew ?_ | refine blk_alloc ?_ _)); exact BK136.out)) : gb137 ≠ gb136)); clear BK136; clear HB; have BK136 := n0_; have HB := n1_; have BK137 := n2_; have GW137 := n3_; have GE137 := n4_; have NB136_137 := n5_; have NB137_136 := n6_; clear n0_ n1_ n2_ n3_ n4_ n5_ n6_; clear hb hbox hg; have hnb8 := NB136_137.out; have hnc8 := NB137_136.out; have hcz9_0 : w7.cell? ⟨gb136, 0, none⟩ = some (.slice A0_0 l0_0.length c0_0) := (blk_cell BK136.out 0).trans rfl; have hcz9_1 : w7.cell? ⟨gb136, 1, none⟩ = some (.slice A0_1 l0_1.length c0_1) := (blk_cell BK136.out 1).trans rfl; have hcz9_2 : w7.cell? ⟨gb136, 2, none⟩ = some (.slice A0_2 l0_2.length c0_2) := (blk_cell BK136.out 2).trans rfl; have hcz9_3 : w7.cell? ⟨gb136, 3, none⟩ = some (.int .i64 a0_3) := (blk_cell BK136.out 3).trans rfl; have hcz9_4 : w7.cell? ⟨gb136, 4, none⟩ = some (.int .i64 a0_4) := (blk_cell BK136.out 4).trans rfl; have hcz9_5 : w7.cell? ⟨gb136, 5, none⟩ = some (.int .i64 a0_5) := (blk_cell BK136.out 5).trans rfl; have hcz9_6 : w7.cell? ⟨gb136, 6, none⟩ = some (.int .i64 a0_6) := (blk_cell BK136.out 6).trans rfl; have hcz9_7 : w7.cell? ⟨gb136, 7, none⟩ = some (.int .i64 a0_7) := (blk_cell BK136.out 7).trans rfl; have hcz9_8 : w7.cell? ⟨gb136, 8, none⟩ = some (.int .i64 a0_8) := (blk_cell BK136.out 8).trans rfl; have hfz9_0 := blk_frozen BK136.out 0; have hfz9_1 := blk_frozen BK136.out 1; have hfz9_2 := blk_frozen BK136.out 2; have hfz9_3 := blk_frozen BK136.out 3; have hfz9_4 := blk_frozen BK136.out 4; have hfz9_5 := blk_frozen BK136.out 5; have hfz9_6 := blk_frozen BK136.out 6; have hfz9_7 := blk_frozen BK136.out 7; have hfz9_8 := blk_frozen BK136.out 8) | ((with_reducible refine gate_callee (f := 20) rfl ?_); refine goesL_ (some 6) rfl rfl Try.func20 (by kernel_rfl) rfl #[.agg #[.slice A0_0 l0_0.length c0_0, .slice A0_1 l0_1.length c0_1, .slice A0_2 l0_2.length c0_2, .int .i64 a0_3, .int .i64 a0_4, .int .i64 a0_5, .int .i64 a0_6, .int .i64 a0_7, .int .i64 a0_8]] rfl (by (try simp only [List.map_toArray, List.map_cons, List.map_nil]); first | done | rfl | (simp only [List.length_drop, List.length_take]; rfl)) ?_; (with_reducible refine (dormouseref01_Table.calls k _ _ l0_0 _ _ l0_1 _ _ l0_2 a0_3 a0_4 a0_5 a0_6 a0_7 a0_8 true _ ?side1 ?side2 ?side3 ?side4 ?side5 ?side6 A3.out).mono ?_); (case side1 => repeat (first | exact (Kd.C_below HR0_0.out HB.out) | (with_reducible refine Kd.C_alloc ?_ _) | (with_reducible refine Kd.C_drewN ?_ _) | (with_reducible refine Kd.C_drew ?_))); (case side2 => exact HC0_0.out); (case side3 => repeat (first | exact (Kd.C_below HR0_1.out HB.out) | (with_reducible refine Kd.C_alloc ?_ _) | (with_reducible refine Kd.C_drewN ?_ _) | (with_reducible refine Kd.C_drew ?_))); (case side4 => exact HC0_1.out); (case side5 => repeat (first | exact (Kd.C_below HR0_2.out HB.out) | (with_reducible refine Kd.C_alloc ?_ _) | (with_reducible refine Kd.C_drewN ?_ _) | (with_reducible refine Kd.C_drew ?_))); (case side6 => exact HC0_2.out); rintro e w10 ⟨rfl, hb⟩; refine ⟨_, rfl, ?_⟩; have n0_ := Aside0.mk (blk_below (g := gb136) (o := .cells #[.slice A0_0 l0_0.length c0_0, .slice A0_1 l0_1.length c0_1, .slice A0_2 l0_2.length c0_2, .int .i64 a0_3, .int .i64 a0_4, .int .i64 a0_5, .int .i64 a0_6, .int .i64 a0_7, .int .i64 a0_8] 38 (0, 0)) (by (with_reducible repeat (first | refine blk_drewN ?_ _ | refine blk_drew ?_ | refine blk_alloc ?_ _)); exact BK136.out) hb); have n1_ := Aside0.mk (blk_below (g := gb137) (o := .cells #[.int .i64 a1_0, .int .i64 a1_1, .int .i64 a1_2, .int .i64 a1_3, .int .i64 a1_4] 40 (0, 0)) (by (with_reducible repeat (first | refine blk_drewN ?_ _ | refine blk_drew ?_ | refine blk_alloc ?_ _)); exact BK137.out) hb); have n2_ := Aside0.mk (below_step (by repeat (first | (with_reducible first | exact HB.out | apply below_alloc | apply pw_below_drewN | apply below_drew1 | refine below_set ?_ GE136.out | refine below_set ?_ GE137.out) | exact HB.out)) hb); clear BK136; clear BK137; clear HB; have BK136 := n0_; have BK137 := n1_; have HB := n2_; clear n0_ n1_ n2_; (try clear hb); (try clear hb2); (try clear hk); (try clear hi); have hcz11_0 : w10.cell? ⟨gb137, 0, none⟩ = some (.int .i64 a1_0) := (blk_cell BK137.out 0).trans rfl; have hcz11_1 : w10.cell? ⟨gb137, 1, none⟩ = some (.int .i64 a1_1) := (blk_cell BK137.out 1).trans rfl; have hcz11_2 : w10.cell? ⟨gb137, 2, none⟩ = some (.int .i64 a1_2) := (blk_cell BK137.out 2).trans rfl; have hcz11_3 : w10.cell? ⟨gb137, 3, none⟩ = some (.int .i64 a1_3) := (blk_cell BK137.out 3).trans rfl; have hcz11_4 : w10.cell? ⟨gb137, 4, none⟩ = some (.int .i64 a1_4) := (blk_cell BK137.out 4).trans rfl; have hfz11_0 := blk_frozen BK137.out 0; have hfz11_1 := blk_frozen BK137.out 1; have hfz11_2 := blk_frozen BK137.out 2; have hfz11_3 := blk_frozen BK137.out 3; have hfz11_4 := blk_frozen BK137.out 4))
      go_ret
      exact ⟨by first | rfl | (simp [errW_none, errW_some] <;> rfl) | (simp [*, errW_none, errW_some] <;> rfl), by repeat (first | (with_reducible first | exact HB.out | apply below_alloc | apply pw_below_drewN | apply below_drew1 | refine below_set ?_ GE136.out | refine below_set ?_ GE137.out) | exact HB.out)⟩
    · rw [if_neg c5] at H
      have c5b0 : decide (0 ≤ a1_2) = false := decide_eq_false c5
      clear c5
      obtain rfl := Option.some.inj H
      go_enter Try.func14, Try.ntmps14
      go_wp2_with (first | ((with_reducible refine gate_dst (N := 2) rfl ?_); refine box_event ?hg (N := 2) ?hd (cs := #[.slice A0_0 l0_0.length c0_0, .slice A0_1 l0_1.length c0_1, .slice A0_2 l0_2.length c0_2, .int .i64 a0_3, .int .i64 a0_4, .int .i64 a0_5, .int .i64 a0_6, .int .i64 a0_7, .int .i64 a0_8]) (t := 38) ?hr ?_; (case hd => rfl); (case hg => rfl); (case hr => first | (go_simp; done) | (go_simp; rfl)); intro gb136 hg w12 hbox hb; have n0_ := Aside0.mk (below_step (by repeat (first | (with_reducible first | exact HB.out | apply below_alloc | apply pw_below_drewN | apply below_drew1) | exact HB.out)) hb); have n1_ := Aside0.mk (hbox); have n2_ := Aside0.mk ((by rw [hg]; exact (below_size (by repeat (first | (with_reducible first | exact HB.out | apply below_alloc | apply pw_below_drewN | apply below_drew1) | exact HB.out))) : w.heap.size ≤ gb136)); have n3_ := Aside0.mk ((by rw [hg]; exact (below_size (by repeat (first | (with_reducible first | exact HB.out | apply below_alloc | apply pw_below_drewN | apply below_drew1) | exact HB.out))) : w.heap.size ≤ gb136)); clear HB; have HB := n0_; have BK136 := n1_; have GW136 := n2_; have GE136 := n3_; clear n0_ n1_ n2_ n3_; clear hb hbox hg) | ((with_reducible refine gate_dst (N := 3) rfl ?_); refine box_event ?hg (N := 3) ?hd (cs := #[.int .i64 a1_0, .int .i64 a1_1, .int .i64 a1_2, .int .i64 a1_3, .int .i64 a1_4]) (t := 40) ?hr ?_; (case hd => rfl); (case hg => rfl); (case hr => first | (go_simp; done) | (go_simp; rfl)); intro gb137 hg w13 hbox hb; have n0_ := Aside0.mk (blk_below (g := gb136) (o := .cells #[.slice A0_0 l0_0.length c0_0, .slice A0_1 l0_1.length c0_1, .slice A0_2 l0_2.length c0_2, .int .i64 a0_3, .int .i64 a0_4, .int .i64 a0_5, .int .i64 a0_6, .int .i64 a0_7, .int .i64 a0_8] 38 (0, 0)) (by (with_reducible repeat (first | refine blk_drewN ?_ _ | refine blk_drew ?_ | refine blk_alloc ?_ _)); exact BK136.out) hb); have n1_ := Aside0.mk (below_step (by repeat (first | (with_reducible first | exact HB.out | apply below_alloc | apply pw_below_drewN | apply below_drew1 | refine below_set ?_ GE136.out) | exact HB.out)) hb); have n2_ := Aside0.mk (hbox); have n3_ := Aside0.mk ((by rw [hg]; exact (below_size (by repeat (first | (with_reducible first | exact HB.out | apply below_alloc | apply pw_below_drewN | apply below_drew1 | refine below_set ?_ GE136.out) | exact HB.out))) : w.heap.size ≤ gb137)); have n4_ := Aside0.mk ((by rw [hg]; exact (below_size (by repeat (first | (with_reducible first | exact HB.out | apply below_alloc | apply pw_below_drewN | apply below_drew1 | refine below_set ?_ GE136.out) | exact HB.out))) : w.heap.size ≤ gb137)); have n5_ := Aside0.mk ((by rw [hg]; exact Nat.ne_of_lt (blk_lt (g := gb136) (o := .cells #[.slice A0_0 l0_0.length c0_0, .slice A0_1 l0_1.length c0_1, .slice A0_2 l0_2.length c0_2, .int .i64 a0_3, .int .i64 a0_4, .int .i64 a0_5, .int .i64 a0_6, .int .i64 a0_7, .int .i64 a0_8] 38 (0, 0)) (by (with_reducible repeat (first | refine blk_drewN ?_ _ | refine blk_drew ?_ | refine blk_alloc ?_ _)); exact BK136.out)) : gb136 ≠ gb137)); have n6_ := Aside0.mk ((by rw [hg]; exact Nat.ne_of_gt (blk_lt (g := gb136) (o := .cells #[.slice A0_0 l0_0.length c0_0, .slice A0_1 l0_1.length c0_1, .slice A0_2 l0_2.length c0_2, .int .i64 a0_3, .int .i64 a0_4, .int .i64 a0_5, .int .i64 a0_6, .int .i64 a0_7, .int .i64 a0_8] 38 (0, 0)) (by (with_reducible repeat (first | refine blk_drewN ?_ _ | refine blk_drew ?_ | refine blk_alloc ?_ _)); exact BK136.out)) : gb137 ≠ gb136)); clear BK136; clear HB; have BK136 := n0_; have HB := n1_; have BK137 := n2_; have GW137 := n3_; have GE137 := n4_; have NB136_137 := n5_; have NB137_136 := n6_; clear n0_ n1_ n2_ n3_ n4_ n5_ n6_; clear hb hbox hg; have hnb14 := NB136_137.out; have hnc14 := NB137_136.out; have hcz15_0 : w13.cell? ⟨gb136, 0, none⟩ = some (.slice A0_0 l0_0.length c0_0) := (blk_cell BK136.out 0).trans rfl; have hcz15_1 : w13.cell? ⟨gb136, 1, none⟩ = some (.slice A0_1 l0_1.length c0_1) := (blk_cell BK136.out 1).trans rfl; have hcz15_2 : w13.cell? ⟨gb136, 2, none⟩ = some (.slice A0_2 l0_2.length c0_2) := (blk_cell BK136.out 2).trans rfl; have hcz15_3 : w13.cell? ⟨gb136, 3, none⟩ = some (.int .i64 a0_3) := (blk_cell BK136.out 3).trans rfl; have hcz15_4 : w13.cell? ⟨gb136, 4, none⟩ = some (.int .i64 a0_4) := (blk_cell BK136.out 4).trans rfl; have hcz15_5 : w13.cell? ⟨gb136, 5, none⟩ = some (.int .i64 a0_5) := (blk_cell BK136.out 5).trans rfl; have hcz15_6 : w13.cell? ⟨gb136, 6, none⟩ = some (.int .i64 a0_6) := (blk_cell BK136.out 6).trans rfl; have hcz15_7 : w13.cell? ⟨gb136, 7, none⟩ = some (.int .i64 a0_7) := (blk_cell BK136.out 7).trans rfl; have hcz15_8 : w13.cell? ⟨gb136, 8, none⟩ = some (.int .i64 a0_8) := (blk_cell BK136.out 8).trans rfl; have hfz15_0 := blk_frozen BK136.out 0; have hfz15_1 := blk_frozen BK136.out 1; have hfz15_2 := blk_frozen BK136.out 2; have hfz15_3 := blk_frozen BK136.out 3; have hfz15_4 := blk_frozen BK136.out 4; have hfz15_5 := blk_frozen BK136.out 5; have hfz15_6 := blk_frozen BK136.out 6; have hfz15_7 := blk_frozen BK136.out 7; have hfz15_8 := blk_frozen BK136.out 8) | ((with_reducible refine gate_callee (f := 20) rfl ?_); refine goesL_ (some 6) rfl rfl Try.func20 (by kernel_rfl) rfl #[.agg #[.slice A0_0 l0_0.length c0_0, .slice A0_1 l0_1.length c0_1, .slice A0_2 l0_2.length c0_2, .int .i64 a0_3, .int .i64 a0_4, .int .i64 a0_5, .int .i64 a0_6, .int .i64 a0_7, .int .i64 a0_8]] rfl (by (try simp only [List.map_toArray, List.map_cons, List.map_nil]); first | done | rfl | (simp only [List.length_drop, List.length_take]; rfl)) ?_; (with_reducible refine (dormouseref01_Table.calls k _ _ l0_0 _ _ l0_1 _ _ l0_2 a0_3 a0_4 a0_5 a0_6 a0_7 a0_8 true _ ?side1 ?side2 ?side3 ?side4 ?side5 ?side6 A3.out).mono ?_); (case side1 => repeat (first | exact (Kd.C_below HR0_0.out HB.out) | (with_reducible refine Kd.C_alloc ?_ _) | (with_reducible refine Kd.C_drewN ?_ _) | (with_reducible refine Kd.C_drew ?_))); (case side2 => exact HC0_0.out); (case side3 => repeat (first | exact (Kd.C_below HR0_1.out HB.out) | (with_reducible refine Kd.C_alloc ?_ _) | (with_reducible refine Kd.C_drewN ?_ _) | (with_reducible refine Kd.C_drew ?_))); (case side4 => exact HC0_1.out); (case side5 => repeat (first | exact (Kd.C_below HR0_2.out HB.out) | (with_reducible refine Kd.C_alloc ?_ _) | (with_reducible refine Kd.C_drewN ?_ _) | (with_reducible refine Kd.C_drew ?_))); (case side6 => exact HC0_2.out); rintro e w16 ⟨rfl, hb⟩; refine ⟨_, rfl, ?_⟩; have n0_ := Aside0.mk (blk_below (g := gb136) (o := .cells #[.slice A0_0 l0_0.length c0_0, .slice A0_1 l0_1.length c0_1, .slice A0_2 l0_2.length c0_2, .int .i64 a0_3, .int .i64 a0_4, .int .i64 a0_5, .int .i64 a0_6, .int .i64 a0_7, .int .i64 a0_8] 38 (0, 0)) (by (with_reducible repeat (first | refine blk_drewN ?_ _ | refine blk_drew ?_ | refine blk_alloc ?_ _)); exact BK136.out) hb); have n1_ := Aside0.mk (blk_below (g := gb137) (o := .cells #[.int .i64 a1_0, .int .i64 a1_1, .int .i64 a1_2, .int .i64 a1_3, .int .i64 a1_4] 40 (0, 0)) (by (with_reducible repeat (first | refine blk_drewN ?_ _ | refine blk_drew ?_ | refine blk_alloc ?_ _)); exact BK137.out) hb); have n2_ := Aside0.mk (below_step (by repeat (first | (with_reducible first | exact HB.out | apply below_alloc | apply pw_below_drewN | apply below_drew1 | refine below_set ?_ GE136.out | refine below_set ?_ GE137.out) | exact HB.out)) hb); clear BK136; clear BK137; clear HB; have BK136 := n0_; have BK137 := n1_; have HB := n2_; clear n0_ n1_ n2_; (try clear hb); (try clear hb2); (try clear hk); (try clear hi); have hcz17_0 : w16.cell? ⟨gb137, 0, none⟩ = some (.int .i64 a1_0) := (blk_cell BK137.out 0).trans rfl; have hcz17_1 : w16.cell? ⟨gb137, 1, none⟩ = some (.int .i64 a1_1) := (blk_cell BK137.out 1).trans rfl; have hcz17_2 : w16.cell? ⟨gb137, 2, none⟩ = some (.int .i64 a1_2) := (blk_cell BK137.out 2).trans rfl; have hcz17_3 : w16.cell? ⟨gb137, 3, none⟩ = some (.int .i64 a1_3) := (blk_cell BK137.out 3).trans rfl; have hcz17_4 : w16.cell? ⟨gb137, 4, none⟩ = some (.int .i64 a1_4) := (blk_cell BK137.out 4).trans rfl; have hfz17_0 := blk_frozen BK137.out 0; have hfz17_1 := blk_frozen BK137.out 1; have hfz17_2 := blk_frozen BK137.out 2; have hfz17_3 := blk_frozen BK137.out 3; have hfz17_4 := blk_frozen BK137.out 4))
      go_ret
      exact ⟨by first | rfl | (simp [errW_none, errW_some] <;> rfl) | (simp [*, errW_none, errW_some] <;> rfl), by repeat (first | (with_reducible first | exact HB.out | apply below_alloc | apply pw_below_drewN | apply below_drew1 | refine below_set ?_ GE136.out | refine below_set ?_ GE137.out) | exact HB.out)⟩
  · replace c4 := Bool.eq_false_iff.mpr c4
    subst c4
    have H1 : (some false) = some r := by rw [if_neg (show ¬ (false = true) by decide)] at H; exact H
    clear H
    have H := H1
    clear H1
    obtain rfl := Option.some.inj H
    go_enter Try.func14, Try.ntmps14
    go_wp2_with (first | ((with_reducible refine gate_dst (N := 2) rfl ?_); refine box_event ?hg (N := 2) ?hd (cs := #[.slice A0_0 l0_0.length c0_0, .slice A0_1 l0_1.length c0_1, .slice A0_2 l0_2.length c0_2, .int .i64 a0_3, .int .i64 a0_4, .int .i64 a0_5, .int .i64 a0_6, .int .i64 a0_7, .int .i64 a0_8]) (t := 38) ?hr ?_; (case hd => rfl); (case hg => rfl); (case hr => first | (go_simp; done) | (go_simp; rfl)); intro gb136 hg w18 hbox hb; have n0_ := Aside0.mk (below_step (by repeat (first | (with_reducible first | exact HB.out | apply below_alloc | apply pw_below_drewN | apply below_drew1) | exact HB.out)) hb); have n1_ := Aside0.mk (hbox); have n2_ := Aside0.mk ((by rw [hg]; exact (below_size (by repeat (first | (with_reducible first | exact HB.out | apply below_alloc | apply pw_below_drewN | apply below_drew1) | exact HB.out))) : w.heap.size ≤ gb136)); have n3_ := Aside0.mk ((by rw [hg]; exact (below_size (by repeat (first | (with_reducible first | exact HB.out | apply below_alloc | apply pw_below_drewN | apply below_drew1) | exact HB.out))) : w.heap.size ≤ gb136)); clear HB; have HB := n0_; have BK136 := n1_; have GW136 := n2_; have GE136 := n3_; clear n0_ n1_ n2_ n3_; clear hb hbox hg) | ((with_reducible refine gate_dst (N := 3) rfl ?_); refine box_event ?hg (N := 3) ?hd (cs := #[.int .i64 a1_0, .int .i64 a1_1, .int .i64 a1_2, .int .i64 a1_3, .int .i64 a1_4]) (t := 40) ?hr ?_; (case hd => rfl); (case hg => rfl); (case hr => first | (go_simp; done) | (go_simp; rfl)); intro gb137 hg w19 hbox hb; have n0_ := Aside0.mk (blk_below (g := gb136) (o := .cells #[.slice A0_0 l0_0.length c0_0, .slice A0_1 l0_1.length c0_1, .slice A0_2 l0_2.length c0_2, .int .i64 a0_3, .int .i64 a0_4, .int .i64 a0_5, .int .i64 a0_6, .int .i64 a0_7, .int .i64 a0_8] 38 (0, 0)) (by (with_reducible repeat (first | refine blk_drewN ?_ _ | refine blk_drew ?_ | refine blk_alloc ?_ _)); exact BK136.out) hb); have n1_ := Aside0.mk (below_step (by repeat (first | (with_reducible first | exact HB.out | apply below_alloc | apply pw_below_drewN | apply below_drew1 | refine below_set ?_ GE136.out) | exact HB.out)) hb); have n2_ := Aside0.mk (hbox); have n3_ := Aside0.mk ((by rw [hg]; exact (below_size (by repeat (first | (with_reducible first | exact HB.out | apply below_alloc | apply pw_below_drewN | apply below_drew1 | refine below_set ?_ GE136.out) | exact HB.out))) : w.heap.size ≤ gb137)); have n4_ := Aside0.mk ((by rw [hg]; exact (below_size (by repeat (first | (with_reducible first | exact HB.out | apply below_alloc | apply pw_below_drewN | apply below_drew1 | refine below_set ?_ GE136.out) | exact HB.out))) : w.heap.size ≤ gb137)); have n5_ := Aside0.mk ((by rw [hg]; exact Nat.ne_of_lt (blk_lt (g := gb136) (o := .cells #[.slice A0_0 l0_0.length c0_0, .slice A0_1 l0_1.length c0_1, .slice A0_2 l0_2.length c0_2, .int .i64 a0_3, .int .i64 a0_4, .int .i64 a0_5, .int .i64 a0_6, .int .i64 a0_7, .int .i64 a0_8] 38 (0, 0)) (by (with_reducible repeat (first | refine blk_drewN ?_ _ | refine blk_drew ?_ | refine blk_alloc ?_ _)); exact BK136.out)) : gb136 ≠ gb137)); have n6_ := Aside0.mk ((by rw [hg]; exact Nat.ne_of_gt (blk_lt (g := gb136) (o := .cells #[.slice A0_0 l0_0.length c0_0, .slice A0_1 l0_1.length c0_1, .slice A0_2 l0_2.length c0_2, .int .i64 a0_3, .int .i64 a0_4, .int .i64 a0_5, .int .i64 a0_6, .int .i64 a0_7, .int .i64 a0_8] 38 (0, 0)) (by (with_reducible repeat (first | refine blk_drewN ?_ _ | refine blk_drew ?_ | refine blk_alloc ?_ _)); exact BK136.out)) : gb137 ≠ gb136)); clear BK136; clear HB; have BK136 := n0_; have HB := n1_; have BK137 := n2_; have GW137 := n3_; have GE137 := n4_; have NB136_137 := n5_; have NB137_136 := n6_; clear n0_ n1_ n2_ n3_ n4_ n5_ n6_; clear hb hbox hg; have hnb20 := NB136_137.out; have hnc20 := NB137_136.out; have hcz21_0 : w19.cell? ⟨gb136, 0, none⟩ = some (.slice A0_0 l0_0.length c0_0) := (blk_cell BK136.out 0).trans rfl; have hcz21_1 : w19.cell? ⟨gb136, 1, none⟩ = some (.slice A0_1 l0_1.length c0_1) := (blk_cell BK136.out 1).trans rfl; have hcz21_2 : w19.cell? ⟨gb136, 2, none⟩ = some (.slice A0_2 l0_2.length c0_2) := (blk_cell BK136.out 2).trans rfl; have hcz21_3 : w19.cell? ⟨gb136, 3, none⟩ = some (.int .i64 a0_3) := (blk_cell BK136.out 3).trans rfl; have hcz21_4 : w19.cell? ⟨gb136, 4, none⟩ = some (.int .i64 a0_4) := (blk_cell BK136.out 4).trans rfl; have hcz21_5 : w19.cell? ⟨gb136, 5, none⟩ = some (.int .i64 a0_5) := (blk_cell BK136.out 5).trans rfl; have hcz21_6 : w19.cell? ⟨gb136, 6, none⟩ = some (.int .i64 a0_6) := (blk_cell BK136.out 6).trans rfl; have hcz21_7 : w19.cell? ⟨gb136, 7, none⟩ = some (.int .i64 a0_7) := (blk_cell BK136.out 7).trans rfl; have hcz21_8 : w19.cell? ⟨gb136, 8, none⟩ = some (.int .i64 a0_8) := (blk_cell BK136.out 8).trans rfl; have hfz21_0 := blk_frozen BK136.out 0; have hfz21_1 := blk_frozen BK136.out 1; have hfz21_2 := blk_frozen BK136.out 2; have hfz21_3 := blk_frozen BK136.out 3; have hfz21_4 := blk_frozen BK136.out 4; have hfz21_5 := blk_frozen BK136.out 5; have hfz21_6 := blk_frozen BK136.out 6; have hfz21_7 := blk_frozen BK136.out 7; have hfz21_8 := blk_frozen BK136.out 8) | ((with_reducible refine gate_callee (f := 20) rfl ?_); refine goesL_ (some 6) rfl rfl Try.func20 (by kernel_rfl) rfl #[.agg #[.slice A0_0 l0_0.length c0_0, .slice A0_1 l0_1.length c0_1, .slice A0_2 l0_2.length c0_2, .int .i64 a0_3, .int .i64 a0_4, .int .i64 a0_5, .int .i64 a0_6, .int .i64 a0_7, .int .i64 a0_8]] rfl (by (try simp only [List.map_toArray, List.map_cons, List.map_nil]); first | done | rfl | (simp only [List.length_drop, List.length_take]; rfl)) ?_; (with_reducible refine (dormouseref01_Table.calls k _ _ l0_0 _ _ l0_1 _ _ l0_2 a0_3 a0_4 a0_5 a0_6 a0_7 a0_8 false _ ?side1 ?side2 ?side3 ?side4 ?side5 ?side6 A3.out).mono ?_); (case side1 => repeat (first | exact (Kd.C_below HR0_0.out HB.out) | (with_reducible refine Kd.C_alloc ?_ _) | (with_reducible refine Kd.C_drewN ?_ _) | (with_reducible refine Kd.C_drew ?_))); (case side2 => exact HC0_0.out); (case side3 => repeat (first | exact (Kd.C_below HR0_1.out HB.out) | (with_reducible refine Kd.C_alloc ?_ _) | (with_reducible refine Kd.C_drewN ?_ _) | (with_reducible refine Kd.C_drew ?_))); (case side4 => exact HC0_1.out); (case side5 => repeat (first | exact (Kd.C_below HR0_2.out HB.out) | (with_reducible refine Kd.C_alloc ?_ _) | (with_reducible refine Kd.C_drewN ?_ _) | (with_reducible refine Kd.C_drew ?_))); (case side6 => exact HC0_2.out); rintro e w22 ⟨rfl, hb⟩; refine ⟨_, rfl, ?_⟩; have n0_ := Aside0.mk (blk_below (g := gb136) (o := .cells #[.slice A0_0 l0_0.length c0_0, .slice A0_1 l0_1.length c0_1, .slice A0_2 l0_2.length c0_2, .int .i64 a0_3, .int .i64 a0_4, .int .i64 a0_5, .int .i64 a0_6, .int .i64 a0_7, .int .i64 a0_8] 38 (0, 0)) (by (with_reducible repeat (first | refine blk_drewN ?_ _ | refine blk_drew ?_ | refine blk_alloc ?_ _)); exact BK136.out) hb); have n1_ := Aside0.mk (blk_below (g := gb137) (o := .cells #[.int .i64 a1_0, .int .i64 a1_1, .int .i64 a1_2, .int .i64 a1_3, .int .i64 a1_4] 40 (0, 0)) (by (with_reducible repeat (first | refine blk_drewN ?_ _ | refine blk_drew ?_ | refine blk_alloc ?_ _)); exact BK137.out) hb); have n2_ := Aside0.mk (below_step (by repeat (first | (with_reducible first | exact HB.out | apply below_alloc | apply pw_below_drewN | apply below_drew1 | refine below_set ?_ GE136.out | refine below_set ?_ GE137.out) | exact HB.out)) hb); clear BK136; clear BK137; clear HB; have BK136 := n0_; have BK137 := n1_; have HB := n2_; clear n0_ n1_ n2_; (try clear hb); (try clear hb2); (try clear hk); (try clear hi)))
    go_ret
    exact ⟨by first | rfl | (simp [errW_none, errW_some] <;> rfl) | (simp [*, errW_none, errW_some] <;> rfl), by repeat (first | (with_reducible first | exact HB.out | apply below_alloc | apply pw_below_drewN | apply below_drew1 | refine below_set ?_ GE136.out | refine below_set ?_ GE137.out) | exact HB.out)⟩
end
end Go.Proofs.Ytijlfnjfjmhdiaa.F
namespace Go.Proofs.Ytijlfnjfjmhdiaa.Ans
open Go.RowKit Go.Proofs.Ytijlfnjfjmhdiaa.F Go.Proofs.Ytijlfnjfjmhdiaa.Tbl Go.Proofs.YtijlfnjfjmhdiaaW.PrintWords Go.Proofs.YtijlfnjfjmhdiaaW.PrintLast Go.Proofs.YtijlfnjfjmhdiaaW.PrintMore
attribute [local go_sem] max2_int min2_int max_two min_two max_three min_three max_four min_four
theorem C_block {α : Type} {d : Kd α} {w : World} {g : Nat} {cells : Array Value} {e : TypeId} (h : w.heap[g]? = some (.cells cells e (0, 0))) (xs : List α) (hn : xs.length ≤ 1000)
    (hx : ∀ (j : Nat) (p : α), xs[j]? = some p → ∃ c, c.length = d.sz ∧ d.K w p c ∧ ∀ (i : Nat) (u : Value), c[i]? = some u → cells[j * d.sz + i]? = some u) : Kd.C d w (some ⟨g, 0, none⟩) xs.length xs := by
  refine ⟨rfl, by omega, fun _ => ⟨_, rfl, fun j p hj => ?_⟩⟩
  obtain ⟨c, h0, h1, h2⟩ := hx j p hj
  refine ⟨c, h0, h1, fun i u hu => ?_⟩
  have := blk_cell h (j * d.sz + i)
  rw [h2 i u hu] at this
  have e : ∀ n : Nat, (⟨g, 0, none⟩ : Addr).add n = ⟨g, n, none⟩ := fun n => by unfold Addr.add; split <;> simp_all
  rw [e]; exact this
def Box (w : World) (b g : Nat) : Prop := w.cell? ⟨b, 0, none⟩ = some (.slice (some ⟨g, 0, none⟩) 2 2) ∧ w.cell? ⟨b, 1, none⟩ = some (.slice none 0 0) ∧ w.cell? ⟨b, 2, none⟩ = some (.slice none 0 0) ∧ w.cell? ⟨b, 3, none⟩ = some (.int .i64 0) ∧ w.cell? ⟨b, 4, none⟩ = some (.int .i64 1) ∧ w.cell? ⟨b, 5, none⟩ = some (.int .i64 0) ∧ w.cell? ⟨b, 6, none⟩ = some (.int .i64 0) ∧ w.cell? ⟨b, 7, none⟩ = some (.int .i64 0) ∧ w.cell? ⟨b, 8, none⟩ = some (.int .i64 50)
theorem box_below {w w' : World} {b g : Nat} (h : Box w b g) (hb : Below w.heap.size w w') : Box w' b g :=
  ⟨pw_cell_below hb h.1, pw_cell_below hb h.2.1, pw_cell_below hb h.2.2.1, pw_cell_below hb h.2.2.2.1, pw_cell_below hb h.2.2.2.2.1, pw_cell_below hb h.2.2.2.2.2.1, pw_cell_below hb h.2.2.2.2.2.2.1, pw_cell_below hb h.2.2.2.2.2.2.2.1, pw_cell_below hb h.2.2.2.2.2.2.2.2⟩
def two : List S45 := [⟨1, 0⟩, ⟨2, 0⟩]
theorem choice0 : govern_Choose.f 12 two [] [] 0 1 0 0 0 50 2 0 3 12884901888 0 = some 1 := by decide +kernel
theorem choice1 : govern_Choose.f 12 two [] [] 0 1 0 0 0 50 2 0 3 12884901887 0 = some 0 := by decide +kernel
theorem choice2 : govern_Choose.f 12 two [] [] 0 1 0 0 0 50 1 1 3 1099511627776 1 = some 1 := by decide +kernel
theorem choice3 : govern_Choose.f 12 two [] [] 0 1 0 0 0 50 0 1 3 1099511627776 1 = some 0 := by decide +kernel
set_option maxHeartbeats 1600000 in
set_option maxRecDepth 100000 in
theorem answers_calls (w : World) : Calls Try.prog 15 #[] w fun e w' => e = .returned (.bool true) ∧ Below w.heap.size w w' := by
  go_enter Try.func15, Try.ntmps15
  go_wp2_with fail
  generalize hw1 : (w.alloc (.cells #[.int .i64 1, .int .i64 0, .int .i64 2, .int .i64 0] 45 (0, 0))) = wa
  have hs : wa.heap.size = w.heap.size + 1 := by rw [← hw1]; simp
  have hc0 : Kd.C k45 wa (some ⟨w.heap.size, 0, none⟩) two.length two := by
    refine C_block (by rw [← hw1]; exact heap_alloc_new w _) two (by decide) ?_
    intro j p hj
    match j, hj with
    | 0, hj => obtain rfl := Option.some.inj hj; exact ⟨[.int .i64 1, .int .i64 0], rfl, k45_mk _ _, fun i u hu => by match i, hu with | 0, hu => exact hu | 1, hu => exact hu⟩
    | 1, hj => obtain rfl := Option.some.inj hj; exact ⟨[.int .i64 2, .int .i64 0], rfl, k45_mk _ _, fun i u hu => by match i, hu with | 0, hu => exact hu | 1, hu => exact hu⟩
  have hb0 : Below w.heap.size w wa := by rw [← hw1]; exact (Below.refl _ _).alloc (Nat.le_refl _) _
  clear hw1
  generalize hw2 : wa.alloc (.cells #[.slice (some ⟨w.heap.size, 0, none⟩) 2 2, .slice none 0 0, .slice none 0 0, .int .i64 0, .int .i64 1, .int .i64 0, .int .i64 0, .int .i64 0, .int .i64 50] 38 (0, 0)) = w0
  have hbx : Below wa.heap.size wa w0 := by rw [← hw2]; exact (Below.refl _ _).alloc (Nat.le_refl _) _
  have bx0 : Box w0 (w.heap.size + 1) w.heap.size := by
    rw [← hs, ← hw2]
    have hh := heap_alloc_new wa (.cells #[.slice (some ⟨w.heap.size, 0, none⟩) 2 2, .slice none 0 0, .slice none 0 0, .int .i64 0, .int .i64 1, .int .i64 0, .int .i64 0, .int .i64 0, .int .i64 50] 38 (0, 0))
    exact ⟨(blk_cell hh 0).trans rfl, (blk_cell hh 1).trans rfl, (blk_cell hh 2).trans rfl, (blk_cell hh 3).trans rfl, (blk_cell hh 4).trans rfl, (blk_cell hh 5).trans rfl, (blk_cell hh 6).trans rfl, (blk_cell hh 7).trans rfl, (blk_cell hh 8).trans rfl⟩
  have hc1 : Kd.C k45 w0 (some ⟨w.heap.size, 0, none⟩) two.length two := Kd.C_below hc0 hbx
  have hB0 : Below w.heap.size w w0 := below_step hb0 hbx
  have hz59 : ∀ W : World, Kd.C k59 W none ([] : List S59).length [] := fun W => ⟨rfl, by simp, fun h => absurd h (Nat.lt_irrefl _)⟩
  have hz62 : ∀ W : World, Kd.C k62 W none ([] : List S62).length [] := fun W => ⟨rfl, by simp, fun h => absurd h (Nat.lt_irrefl _)⟩
  have HC := Aside0.mk hc1
  have HB := Aside0.mk hB0
  have HX := Aside0.mk bx0
  have Z1 := Aside0.mk hz59
  have Z2 := Aside0.mk hz62
  clear hw2 hbx bx0 hc1 hB0 hc0 hb0 hs hz59 hz62
  refine (govern_Choose.calls 12 (some ⟨w.heap.size, 0, none⟩) 2 two none 0 [] none 0 [] 0 1 0 0 0 50 2 0 3 12884901888 0 1 _ HC.out (by decide) (Z1.out _) (by decide) (Z2.out _) (by decide) choice0).mono ?_; rintro e w1 ⟨rfl, hb⟩
  replace HC : Aside0 (Kd.C k45 w1 (some ⟨w.heap.size, 0, none⟩) two.length two) := ⟨Kd.C_below HC.out hb⟩
  replace HX : Aside0 (Box w1 (w.heap.size + 1) w.heap.size) := ⟨box_below HX.out hb⟩
  replace HB : Aside0 (Below w.heap.size w w1) := ⟨below_step HB.out hb⟩
  clear hb
  obtain ⟨x0, x1, x2, x3, x4, x5, x6, x7, x8⟩ := HX.out
  go_wp2_with fail
  clear x0 x1 x2 x3 x4 x5 x6 x7 x8
  refine (govern_Choose.calls 12 (some ⟨w.heap.size, 0, none⟩) 2 two none 0 [] none 0 [] 0 1 0 0 0 50 2 0 3 12884901887 0 0 _ HC.out (by decide) (Z1.out _) (by decide) (Z2.out _) (by decide) choice1).mono ?_; rintro e w2 ⟨rfl, hb⟩
  replace HC : Aside0 (Kd.C k45 w2 (some ⟨w.heap.size, 0, none⟩) two.length two) := ⟨Kd.C_below HC.out hb⟩
  replace HX : Aside0 (Box w2 (w.heap.size + 1) w.heap.size) := ⟨box_below HX.out hb⟩
  replace HB : Aside0 (Below w.heap.size w w2) := ⟨below_step HB.out hb⟩
  clear hb
  obtain ⟨x0, x1, x2, x3, x4, x5, x6, x7, x8⟩ := HX.out
  go_wp2_with fail
  clear x0 x1 x2 x3 x4 x5 x6 x7 x8
  refine (govern_Choose.calls 12 (some ⟨w.heap.size, 0, none⟩) 2 two none 0 [] none 0 [] 0 1 0 0 0 50 1 1 3 1099511627776 1 1 _ HC.out (by decide) (Z1.out _) (by decide) (Z2.out _) (by decide) choice2).mono ?_; rintro e w3 ⟨rfl, hb⟩
  replace HC : Aside0 (Kd.C k45 w3 (some ⟨w.heap.size, 0, none⟩) two.length two) := ⟨Kd.C_below HC.out hb⟩
  replace HX : Aside0 (Box w3 (w.heap.size + 1) w.heap.size) := ⟨box_below HX.out hb⟩
  replace HB : Aside0 (Below w.heap.size w w3) := ⟨below_step HB.out hb⟩
  clear hb
  obtain ⟨x0, x1, x2, x3, x4, x5, x6, x7, x8⟩ := HX.out
  go_wp2_with fail
  clear x0 x1 x2 x3 x4 x5 x6 x7 x8
  refine (govern_Choose.calls 12 (some ⟨w.heap.size, 0, none⟩) 2 two none 0 [] none 0 [] 0 1 0 0 0 50 0 1 3 1099511627776 1 0 _ HC.out (by decide) (Z1.out _) (by decide) (Z2.out _) (by decide) choice3).mono ?_; rintro e w4 ⟨rfl, hb⟩
  replace HC : Aside0 (Kd.C k45 w4 (some ⟨w.heap.size, 0, none⟩) two.length two) := ⟨Kd.C_below HC.out hb⟩
  replace HX : Aside0 (Box w4 (w.heap.size + 1) w.heap.size) := ⟨box_below HX.out hb⟩
  replace HB : Aside0 (Below w.heap.size w w4) := ⟨below_step HB.out hb⟩
  clear hb
  go_wp2_with fail
  go_ret
  exact ⟨by simp, HB.out⟩
end Go.Proofs.Ytijlfnjfjmhdiaa.Ans
namespace Go.Proofs.Ytijlfnjfjmhdiaa.Law
open Go.RowKit Go.Proofs.Ytijlfnjfjmhdiaa.F Go.Proofs.Ytijlfnjfjmhdiaa.Tbl Go.Proofs.Ytijlfnjfjmhdiaa.Gov Go.Proofs.Ytijlfnjfjmhdiaa.Opn Go.Proofs.YtijlfnjfjmhdiaaW.PrintWords Go.Proofs.YtijlfnjfjmhdiaaW.PrintLast Go.Proofs.YtijlfnjfjmhdiaaW.PrintMore
attribute [local go_sem] max2_int min2_int max_two min_two max_three min_three max_four min_four
abbrev Ask := Int × Int × Int × Int × Int
def kAsk : Kd Ask := Kd.pair (Kd.int .i64) (Kd.pair (Kd.int .i64) (Kd.pair (Kd.int .i64) (Kd.pair (Kd.int .i64) (Kd.int .i64))))
theorem oAsk : Opens Try.prog 40 kAsk (fun x => (Lit.int .i64 x.2.2.2.1).wf = true) :=
  opens_imp (opens_struct (d := kAsk) Try.underlying40 (by kernel_rfl) (opensF_cons rfl (by kernel_rfl) oAny (opensF_cons rfl (by kernel_rfl) oAny (opensF_cons rfl (by kernel_rfl) oAny (opensF_cons rfl (by kernel_rfl) oInt (opensF_one rfl (by kernel_rfl) oAny))))))
    (fun _ h => h.2.2.2.1)
theorem ask_open {w : World} {x : Ask} {cs : List Value} (h : kAsk.K w x cs) : cs = [.int .i64 x.1, .int .i64 x.2.1, .int .i64 x.2.2.1, .int .i64 x.2.2.2.1, .int .i64 x.2.2.2.2] := by
  obtain ⟨_, _, rfl, e0, _, _, rfl, e1, _, _, rfl, e2, _, _, rfl, e3, e4⟩ := h
  cases e0; cases e1; cases e2; cases e3; cases e4
  rfl
theorem below_of_drawn {w w2 : World} (h : Drawn0 w w2) : Below w.heap.size w w2 := by obtain ⟨n, rfl⟩ := h.out; exact pw_below_drewN (Below.refl _ _) n
def Good (l0 : List S45) (l1 : List S59) (l2 : List S62) (idle crit sw swE sems hor left : Int) : Prop := TableOk l0 l1 l2 idle crit sw swE sems hor ∧ 0 ≤ left ∧ left ≤ 8192
section
variable {w : World} {l0 : List S45} {l1 : List S59} {l2 : List S62} {idle crit sw swE sems hor left : Int}
theorem good_yes (h : Good l0 l1 l2 idle crit sw swE sems hor left) (a b c d : Int) : dormouselaw16_good.f 1 l0 l1 l2 idle crit sw swE sems hor a b left c d = some true := by
  unfold dormouselaw16_good.f dormouseref01_Table.f
  rw [Option.bind_some, show tableB _ _ _ _ _ _ _ _ _ = true from by simp [tableB, h.1], if_pos rfl, if_pos h.2.1, decide_eq_true h.2.2]
theorem good_no (h : ¬ Good l0 l1 l2 idle crit sw swE sems hor left) (a b c d : Int) : dormouselaw16_good.f 1 l0 l1 l2 idle crit sw swE sems hor a b left c d = some false := by
  unfold dormouselaw16_good.f dormouseref01_Table.f
  rw [Option.bind_some]
  by_cases ht : TableOk l0 l1 l2 idle crit sw swE sems hor
  · rw [show tableB _ _ _ _ _ _ _ _ _ = true from by simp [tableB, ht], if_pos rfl]
    by_cases h0 : 0 ≤ left
    · rw [if_pos h0, decide_eq_false (fun h1 => h ⟨ht, h0, h1⟩)]
    · rw [if_neg h0]
  · rw [show tableB _ _ _ _ _ _ _ _ _ = false from by simp [tableB, ht], if_neg (by decide)]
end
end Go.Proofs.Ytijlfnjfjmhdiaa.Law
namespace Go.Proofs.Ytijlfnjfjmhdiaa.Law
open Go.RowKit Go.Proofs.Ytijlfnjfjmhdiaa.F Go.Proofs.Ytijlfnjfjmhdiaa.Tbl Go.Proofs.Ytijlfnjfjmhdiaa.Gov Go.Proofs.Ytijlfnjfjmhdiaa.Opn Go.Proofs.YtijlfnjfjmhdiaaW.PrintWords Go.Proofs.YtijlfnjfjmhdiaaW.PrintLast Go.Proofs.YtijlfnjfjmhdiaaW.PrintMore
section
variable (w W : World) (A0 : Option Addr) (c0 : Nat) (l0 : List S45) (A1 : Option Addr) (c1 : Nat) (l1 : List S59) (A2 : Option Addr) (c2 : Nat) (l2 : List S62) (idle crit sw swE sems hor : Int)
/-- the machine's box -/
abbrev pbox : Array Value := #[.slice A0 l0.length c0, .slice A1 l1.length c1, .slice A2 l2.length c2, .int .i64 idle, .int .i64 crit, .int .i64 sw, .int .i64 swE, .int .i64 sems, .int .i64 hor]
abbrev abox (policy static left slack level : Int) : Array Value := #[.int .i64 policy, .int .i64 static, .int .i64 left, .int .i64 slack, .int .i64 level]
structure PM : Prop where
  g0 : l0.length ≤ c0
  g1 : l1.length ≤ c1
  g2 : l2.length ≤ c2
  r0 : Kd.C k45 w A0 l0.length l0
  r1 : Kd.C k59 w A1 l1.length l1
  r2 : Kd.C k62 w A2 l2.length l2
  bp : W.heap[w.heap.size]? = some (.cells (pbox A0 c0 l0 A1 c1 l1 A2 c2 l2 idle crit sw swE sems hor) 38 (0, 0))
  hb : Below w.heap.size w W
end
section
variable {w W W' : World} {A0 : Option Addr} {c0 : Nat} {l0 : List S45} {A1 : Option Addr} {c1 : Nat} {l1 : List S59} {A2 : Option Addr} {c2 : Nat} {l2 : List S62} {idle crit sw swE sems hor : Int}
theorem PM.step (h : PM w W A0 c0 l0 A1 c1 l1 A2 c2 l2 idle crit sw swE sems hor) (hb : Below W.heap.size W W') : PM w W' A0 c0 l0 A1 c1 l1 A2 c2 l2 idle crit sw swE sems hor :=
  ⟨h.g0, h.g1, h.g2, h.r0, h.r1, h.r2, blk_below h.bp hb, below_step h.hb hb⟩
theorem PM.start (g0 : l0.length ≤ c0) (r0 : Kd.C k45 w A0 l0.length l0) (g1 : l1.length ≤ c1) (r1 : Kd.C k59 w A1 l1.length l1) (g2 : l2.length ≤ c2) (r2 : Kd.C k62 w A2 l2.length l2) :
    PM w (w.alloc (.cells (pbox A0 c0 l0 A1 c1 l1 A2 c2 l2 idle crit sw swE sems hor) 38 (0, 0))) A0 c0 l0 A1 c1 l1 A2 c2 l2 idle crit sw swE sems hor := by
  have hb := (Below.refl w.heap.size w).alloc (Nat.le_refl _) (.cells (pbox A0 c0 l0 A1 c1 l1 A2 c2 l2 idle crit sw swE sems hor) 38 (0, 0))
  exact ⟨g0, g1, g2, r0, r1, r2, heap_alloc_new _ _, hb⟩
theorem PM.set (h : PM w W A0 c0 l0 A1 c1 l1 A2 c2 l2 idle crit sw swE sems hor) {g : Nat} (hg : w.heap.size < g) (j : Nat) (u : Value) : PM w (W.setCell ⟨g, j, none⟩ u) A0 c0 l0 A1 c1 l1 A2 c2 l2 idle crit sw swE sems hor := by
  exact ⟨h.g0, h.g1, h.g2, h.r0, h.r1, h.r2, blk_far h.bp (by show w.heap.size ≠ g; omega) u, below_set h.hb (Nat.le_of_lt hg)⟩
theorem PM.R0 (h : PM w W A0 c0 l0 A1 c1 l1 A2 c2 l2 idle crit sw swE sems hor) : Kd.C k45 W A0 l0.length l0 := Kd.C_below h.r0 h.hb
theorem PM.R1 (h : PM w W A0 c0 l0 A1 c1 l1 A2 c2 l2 idle crit sw swE sems hor) : Kd.C k59 W A1 l1.length l1 := Kd.C_below h.r1 h.hb
theorem PM.R2 (h : PM w W A0 c0 l0 A1 c1 l1 A2 c2 l2 idle crit sw swE sems hor) : Kd.C k62 W A2 l2.length l2 := Kd.C_below h.r2 h.hb
theorem PM.xp (h : PM w W A0 c0 l0 A1 c1 l1 A2 c2 l2 idle crit sw swE sems hor) :
    W.cell? ⟨w.heap.size, 0, none⟩ = some (.slice A0 l0.length c0) ∧ W.cell? ⟨w.heap.size, 1, none⟩ = some (.slice A1 l1.length c1) ∧ W.cell? ⟨w.heap.size, 2, none⟩ = some (.slice A2 l2.length c2) ∧ W.cell? ⟨w.heap.size, 3, none⟩ = some (.int .i64 idle) ∧ W.cell? ⟨w.heap.size, 4, none⟩ = some (.int .i64 crit) ∧ W.cell? ⟨w.heap.size, 5, none⟩ = some (.int .i64 sw) ∧ W.cell? ⟨w.heap.size, 6, none⟩ = some (.int .i64 swE) ∧ W.cell? ⟨w.heap.size, 7, none⟩ = some (.int .i64 sems) ∧ W.cell? ⟨w.heap.size, 8, none⟩ = some (.int .i64 hor) :=
  ⟨(blk_cell h.bp 0).trans rfl, (blk_cell h.bp 1).trans rfl, (blk_cell h.bp 2).trans rfl, (blk_cell h.bp 3).trans rfl, (blk_cell h.bp 4).trans rfl, (blk_cell h.bp 5).trans rfl, (blk_cell h.bp 6).trans rfl, (blk_cell h.bp 7).trans rfl, (blk_cell h.bp 8).trans rfl⟩
/-- a block that holds a question -/
theorem abox_cells {g : Nat} {policy static left slack level : Int} (h : W.heap[g]? = some (.cells (abox policy static left slack level) 40 (0, 0))) :
    W.cell? ⟨g, 0, none⟩ = some (.int .i64 policy) ∧ W.cell? ⟨g, 1, none⟩ = some (.int .i64 static) ∧ W.cell? ⟨g, 2, none⟩ = some (.int .i64 left) ∧ W.cell? ⟨g, 3, none⟩ = some (.int .i64 slack) ∧ W.cell? ⟨g, 4, none⟩ = some (.int .i64 level) :=
  ⟨(blk_cell h 0).trans rfl, (blk_cell h 1).trans rfl, (blk_cell h 2).trans rfl, (blk_cell h 3).trans rfl, (blk_cell h 4).trans rfl⟩
end
end Go.Proofs.Ytijlfnjfjmhdiaa.Law
namespace Go.Proofs.Ytijlfnjfjmhdiaa.Law
open Go.RowKit Go.Proofs.Ytijlfnjfjmhdiaa.F Go.Proofs.Ytijlfnjfjmhdiaa.Tbl Go.Proofs.Ytijlfnjfjmhdiaa.Gov Go.Proofs.Ytijlfnjfjmhdiaa.Opn Go.Proofs.YtijlfnjfjmhdiaaW.PrintWords Go.Proofs.YtijlfnjfjmhdiaaW.PrintLast Go.Proofs.YtijlfnjfjmhdiaaW.PrintMore
attribute [local go_sem] max2_int min2_int max_two min_two max_three min_three max_four min_four
/-- cells of a question's block -/
def AC (b : Nat) (policy static left slack level : Int) (W : World) : Prop := W.cell? ⟨b, 0, none⟩ = some (.int .i64 policy) ∧ W.cell? ⟨b, 1, none⟩ = some (.int .i64 static) ∧ W.cell? ⟨b, 2, none⟩ = some (.int .i64 left) ∧ W.cell? ⟨b, 3, none⟩ = some (.int .i64 slack) ∧ W.cell? ⟨b, 4, none⟩ = some (.int .i64 level)
abbrev zbox : Obj := .cells (abox 0 0 0 0 0) 40 (0, 0)
def Four (b : Nat) (policy static left slack level : Int) (wd : World) (s : Nat × Nat × Nat × Nat) (W : World) : Prop :=
  AC b policy static left slack level W ∧ Below wd.heap.size wd W ∧ wd.heap.size ≤ s.1 ∧ wd.heap.size ≤ s.2.1 ∧ wd.heap.size ≤ s.2.2.1 ∧ wd.heap.size ≤ s.2.2.2 ∧
  W.heap[s.1]? = some zbox ∧ W.heap[s.2.1]? = some zbox ∧ W.heap[s.2.2.1]? = some zbox ∧ W.heap[s.2.2.2]? = some zbox ∧ s.1 ≠ s.2.1 ∧ s.1 ≠ s.2.2.1 ∧ s.1 ≠ s.2.2.2 ∧ s.2.1 ≠ s.2.2.1 ∧ s.2.1 ≠ s.2.2.2 ∧ s.2.2.1 ≠ s.2.2.2
theorem AC.alloc {b : Nat} {policy static left slack level : Int} {W : World} (h : AC b policy static left slack level W) (hb : b < W.heap.size) (o : Obj) : AC b policy static left slack level (W.alloc o) := by
  obtain ⟨h0, h1, h2, h3, h4⟩ := h
  have e : ∀ k, (W.alloc o).cell? ⟨b, k, none⟩ = W.cell? ⟨b, k, none⟩ := fun k => World.cell?_alloc_lt W o _ hb
  exact ⟨(e 0).trans h0, (e 1).trans h1, (e 2).trans h2, (e 3).trans h3, (e 4).trans h4⟩
theorem four_blocks (wd : World) : ∀ k, k < 4 → ((((wd.alloc zbox).alloc zbox).alloc zbox).alloc zbox).heap[wd.heap.size + k]? = some zbox := by
  intro k hk
  obtain rfl | rfl | rfl | rfl : k = 0 ∨ k = 1 ∨ k = 2 ∨ k = 3 := by omega
  · exact blk_alloc (blk_alloc (blk_alloc (blk_new wd zbox) _) _) _
  · have h := blk_new (wd.alloc zbox) zbox
    rw [show (wd.alloc zbox).heap.size = wd.heap.size + 1 from by simp] at h
    exact blk_alloc (blk_alloc h _) _
  · have h := blk_new ((wd.alloc zbox).alloc zbox) zbox
    rw [show ((wd.alloc zbox).alloc zbox).heap.size = wd.heap.size + 2 from by simp] at h
    exact blk_alloc h _
  · have h := blk_new (((wd.alloc zbox).alloc zbox).alloc zbox) zbox
    rw [show (((wd.alloc zbox).alloc zbox).alloc zbox).heap.size = wd.heap.size + 3 from by simp] at h
    exact h
theorem Four.mk_ {b : Nat} {policy static left slack level : Int} {wd : World} (h : AC b policy static left slack level wd) (hb : b < wd.heap.size) (i j k m : Nat) (hi : i < 4) (hj : j < 4) (hk : k < 4) (hm : m < 4) (h1 : i ≠ j) (h2 : i ≠ k) (h3 : i ≠ m) (h4 : j ≠ k) (h5 : j ≠ m) (h6 : k ≠ m) :
    Four b policy static left slack level wd (wd.heap.size + i, wd.heap.size + j, wd.heap.size + k, wd.heap.size + m) ((((wd.alloc zbox).alloc zbox).alloc zbox).alloc zbox) := by
  have z : ∀ (W : World) o, (W.alloc o).heap.size = W.heap.size + 1 := fun W o => by simp
  refine ⟨(((h.alloc hb _).alloc (by rw [z]; omega) _).alloc (by rw [z, z]; omega) _).alloc (by rw [z, z, z]; omega) _, ?_, by simp, by simp, by simp, by simp, four_blocks wd i hi, four_blocks wd j hj, four_blocks wd k hk, four_blocks wd m hm, by simp; omega, by simp; omega, by simp; omega, by simp; omega, by simp; omega, by simp; omega⟩
  exact ((((Below.refl _ _).alloc (Nat.le_refl _) _).alloc (by rw [z]; omega) _).alloc (by rw [z, z]; omega) _).alloc (by rw [z, z, z]; omega) _
def setQ (W : World) (g : Nat) (p s l k v : Int) : World := ((((W.setCell ⟨g, 0, none⟩ (.int .i64 p)).setCell ⟨g, 1, none⟩ (.int .i64 s)).setCell ⟨g, 2, none⟩ (.int .i64 l)).setCell ⟨g, 3, none⟩ (.int .i64 k)).setCell ⟨g, 4, none⟩ (.int .i64 v)
theorem setQ_own {W : World} {g : Nat} (h : W.heap[g]? = some zbox) (p s l k v : Int) : (setQ W g p s l k v).heap[g]? = some (.cells (abox p s l k v) 40 (0, 0)) :=
  blk_put (blk_put (blk_put (blk_put (blk_put h 0 _ rfl) 1 _ rfl) 2 _ rfl) 3 _ rfl) 4 _ rfl
theorem setQ_far {W : World} {g b : Nat} {t : TypeId} {cs : Array Value} (h : W.heap[b]? = some (.cells cs t (0, 0))) (hb : b ≠ g) (p s l k v : Int) : (setQ W g p s l k v).heap[b]? = some (.cells cs t (0, 0)) :=
  blk_far (p := ⟨g, 4, none⟩) (blk_far (p := ⟨g, 3, none⟩) (blk_far (p := ⟨g, 2, none⟩) (blk_far (p := ⟨g, 1, none⟩) (blk_far (p := ⟨g, 0, none⟩) h hb _) hb _) hb _) hb _) hb _
theorem PM.setQ_ {w W : World} {A0 : Option Addr} {c0 : Nat} {l0 : List S45} {A1 : Option Addr} {c1 : Nat} {l1 : List S59} {A2 : Option Addr} {c2 : Nat} {l2 : List S62} {idle crit sw swE sems hor : Int} (h : PM w W A0 c0 l0 A1 c1 l1 A2 c2 l2 idle crit sw swE sems hor) {g : Nat} (hg : w.heap.size < g) (p s l k v : Int) :
    PM w (setQ W g p s l k v) A0 c0 l0 A1 c1 l1 A2 c2 l2 idle crit sw swE sems hor := ((((h.set hg 0 _).set hg 1 _).set hg 2 _).set hg 3 _).set hg 4 _
theorem AC.of {b : Nat} {policy static left slack level : Int} {W : World} (h : W.heap[b]? = some (.cells (abox policy static left slack level) 40 (0, 0))) : AC b policy static left slack level W := abox_cells h
theorem pol_facts {l0 : List S45} {l1 : List S59} {l2 : List S62} {idle crit sw swE sems hor : Int} (ht : TableOk l0 l1 l2 idle crit sw swE sems hor) (static left slack level : Int) :
    0 ≤ fast l0 crit sw 1 static left slack level ∧ fast l0 crit sw 1 static left slack level ≤ mx static 0 ∧ fast l0 crit sw 1 static left slack level ≤ fast l0 crit sw 2 static left slack level ∧ fast l0 crit sw 3 static left slack level = fast l0 crit sw 1 static left slack level ∧ fast l0 crit sw 0 static left slack level = 0 := by
  have hh := ht.head
  unfold Head at hh
  have e1 : limit crit 1 static = mn (mx static 0) crit := by unfold limit; rw [if_pos (.inl rfl)]
  have e2 : limit crit 2 static = crit := by unfold limit; rw [if_neg (by omega), if_pos rfl]
  have e3 : limit crit 3 static = mn (mx static 0) crit := by unfold limit; rw [if_pos (.inr rfl)]
  have e0 : limit crit 0 static = 0 := by unfold limit; rw [if_neg (by omega), if_neg (by omega)]
  have hm : 0 ≤ mn (mx static 0) crit ∧ mn (mx static 0) crit ≤ mx static 0 ∧ mn (mx static 0) crit ≤ crit := by unfold mn mx; (repeat' split) <;> omega
  unfold fast
  rw [e1, e2, e3, e0]
  have b := pick_bd (fits l0 sw left slack level) (mn (mx static 0) crit).toNat
  refine ⟨b.1, by omega, pick_mono (by omega) (fun m _ _ h => h), rfl, rfl⟩
set_option maxHeartbeats 3200000 in
set_option maxRecDepth 100000 in
theorem policies_calls {w : World} (x : Plat) (cs : List Value) (h : kPlat.K w x cs) (_ok : True) (y : Ask) (cs1 : List Value) (h1 : kAsk.K w y cs1) (_ok1 : (Lit.int .i64 y.2.2.2.1).wf = true) :
    Calls Try.prog 8 #[.agg cs.toArray, .agg cs1.toArray] w fun e w' => e = .returned (.bool true) ∧ Below w.heap.size w w' := by
  obtain ⟨A0, c0, A1, c1, A2, c2, rfl, ⟨g0, r0⟩, ⟨g1, r1⟩, ⟨g2, r2⟩⟩ := plat_open h
  obtain rfl := ask_open h1
  clear h h1
  obtain ⟨l0, l1, l2, idle, crit, sw, swE, sems, hor⟩ := x
  obtain ⟨policy, static, left, slack, level⟩ := y
  dsimp only at *
  have P0 := PM.start (idle := idle) (crit := crit) (sw := sw) (swE := swE) (sems := sems) (hor := hor) g0 r0 g1 r1 g2 r2
  clear r0 r1 r2 g0 g1 g2 _ok1
  by_cases hg : Good l0 l1 l2 idle crit sw swE sems hor left
  · have HG := Aside0.mk hg
    obtain ⟨ht, hl0, hl1⟩ := hg
    have HT := Aside0.mk ht
    have L2 := Aside0.mk hl0
    have L3 := Aside0.mk hl1
    clear ht hl0 hl1
    go_enter Try.func8, Try.ntmps8
    go_wp2_with fail
    generalize hbx : w.alloc (.cells #[.slice A0 l0.length c0, .slice A1 l1.length c1, .slice A2 l2.length c2, .int .i64 idle, .int .i64 crit, .int .i64 sw, .int .i64 swE, .int .i64 sems, .int .i64 hor] 38 (0, 0)) = wb at P0 ⊢
    have hsz : wb.heap.size = w.heap.size + 1 := by rw [← hbx]; simp
    have P := P0.step ((Below.refl wb.heap.size wb).alloc (Nat.le_refl _) (.cells (abox policy static left slack level) 40 (0, 0)))
    have B : (wb.alloc (.cells (abox policy static left slack level) 40 (0, 0))).heap[w.heap.size + 1]? = some (.cells (abox policy static left slack level) 40 (0, 0)) := by rw [← hsz]; exact heap_alloc_new _ _
    have hz : (wb.alloc (.cells (abox policy static left slack level) 40 (0, 0))).heap.size = w.heap.size + 2 := by simp [hsz]
    generalize wb.alloc (.cells #[.int .i64 policy, .int .i64 static, .int .i64 left, .int .i64 slack, .int .i64 level] 40 (0, 0)) = w0 at P B hz ⊢
    clear P0 hsz hbx
    have Z := Aside0.mk (Nat.le_of_eq hz.symm)
    replace B := Aside0.mk B
    clear hz wb
    refine (dormouselaw16_good.calls 1 A0 c0 l0 A1 c1 l1 A2 c2 l2 _ _ _ _ _ _ _ _ _ _ _ true _ P.R0 P.g0 P.R1 P.g1 P.R2 P.g2 (good_yes HG.out _ _ _ _)).mono ?_; rintro e w1 ⟨rfl, hb⟩
    replace P := P.step hb
    replace B := Aside0.mk (blk_below B.out hb)
    replace Z := Aside0.mk (Nat.le_trans Z.out hb.size)
    clear hb
    have hz : w.heap.size + 1 < w1.heap.size := Z.out
    have hAC : AC (w.heap.size + 1) policy static left slack level w1 := abox_cells B.out
    have hz : w.heap.size + 1 < w1.heap.size := Z.out
    have hAC : AC (w.heap.size + 1) policy static left slack level w1 := abox_cells B.out
    have hz : w.heap.size + 1 < w1.heap.size := Z.out
    have hAC : AC (w.heap.size + 1) policy static left slack level w1 := abox_cells B.out
    have hz : w.heap.size + 1 < w1.heap.size := Z.out
    have hAC : AC (w.heap.size + 1) policy static left slack level w1 := abox_cells B.out
    have hz : w.heap.size + 1 < w1.heap.size := Z.out
    have hAC : AC (w.heap.size + 1) policy static left slack level w1 := abox_cells B.out
    have hz : w.heap.size + 1 < w1.heap.size := Z.out
    have hAC : AC (w.heap.size + 1) policy static left slack level w1 := abox_cells B.out
    have hz : w.heap.size + 1 < w1.heap.size := Z.out
    have hAC : AC (w.heap.size + 1) policy static left slack level w1 := abox_cells B.out
    obtain ⟨y0, y1, y2, y3, y4⟩ := abox_cells B.out
    go_wp2_with fail
    try go_wp2_with fail
    refine start_ (n := 12) (S := AC (w.heap.size + 1) policy static left slack level) (ds := []) #[false, false, false, false, false, false, false, false, false, false, false, false] (by kernel_rfl) rfl rfl ⟨y0, y1, y2, y3, y4⟩ (fun hHeld => ?_)
    clear y0 y1 y2 y3 y4
    replace P := P.step ((Below.refl w1.heap.size w1).drew)
    replace B := Aside0.mk (blk_below B.out ((Below.refl w1.heap.size w1).drew))
    have hz2 : w.heap.size + 1 < w1.drew.heap.size := hz
    clear hz Z hAC
    generalize w1.drew = wd at P B hz2 hHeld ⊢
    refine take_ (i := 0) (N := some 15) (v := ?_) (a' := ?_) #[true, false, false, false, false, false, false, false, false, false, false, false] rfl rfl (by kernel_rfl) (fun _ _ _ h => h) (Or.inl ⟨by rfl, ?_⟩) hHeld ?_ ?_
    rotate_left
    · rintro w' ⟨s0, s1, s2, s3, s4⟩
      go_simp
      with_reducible rfl
    rotate_left
    · simp only [Act.put, List.setIfInBounds_toArray, List.set_cons_zero, List.set_cons_succ]
      rfl
    refine take_ (i := 1) (N := some 16) (v := ?_) (a' := ?_) #[true, true, false, false, false, false, false, false, false, false, false, false] rfl rfl (by kernel_rfl) (fun _ _ _ h => h) (Or.inl ⟨by rfl, ?_⟩) hHeld ?_ ?_
    rotate_left
    · rintro w' ⟨s0, s1, s2, s3, s4⟩
      go_simp
      with_reducible rfl
    rotate_left
    · simp only [Act.put, List.setIfInBounds_toArray, List.set_cons_zero, List.set_cons_succ]
      rfl
    refine take_ (i := 2) (N := some 17) (v := ?_) (a' := ?_) #[true, true, true, false, false, false, false, false, false, false, false, false] rfl rfl (by kernel_rfl) (fun _ _ _ h => h) (Or.inl ⟨by rfl, ?_⟩) hHeld ?_ ?_
    rotate_left
    · rintro w' ⟨s0, s1, s2, s3, s4⟩
      go_simp
      with_reducible rfl
    rotate_left
    · simp only [Act.put, List.setIfInBounds_toArray, List.set_cons_zero, List.set_cons_succ]
      rfl
    refine take_ (i := 3) (N := some 18) (v := ?_) (a' := ?_) #[true, true, true, true, false, false, false, false, false, false, false, false] rfl rfl (by kernel_rfl) (fun _ _ _ h => h) (Or.inl ⟨by rfl, ?_⟩) hHeld ?_ ?_
    rotate_left
    · rintro w' ⟨s0, s1, s2, s3, s4⟩
      go_simp
      with_reducible rfl
    rotate_left
    · simp only [Act.put, List.setIfInBounds_toArray, List.set_cons_zero, List.set_cons_succ]
      rfl
    refine join_ (σ := Nat × Nat × Nat × Nat) 4 #[true, true, true, true, true, true, true, true, false, false, false, false] (fun s => [(5, .pointer (some ⟨s.1, 0, none⟩)), (6, .pointer (some ⟨s.2.1, 0, none⟩)), (7, .pointer (some ⟨s.2.2.1, 0, none⟩)), (8, .pointer (some ⟨s.2.2.2, 0, none⟩))]) (Four (w.heap.size + 1) policy static left slack level wd) ?_ ?_
    rotate_left
    · intro H
      have s1 := hHeld.alloc hz2 zbox
      have z1 : w.heap.size + 1 < (wd.alloc zbox).heap.size := by simp; omega
      have s2 := s1.alloc z1 zbox
      have z2 : w.heap.size + 1 < ((wd.alloc zbox).alloc zbox).heap.size := by simp; omega
      have s3 := s2.alloc z2 zbox
      have z3 : w.heap.size + 1 < (((wd.alloc zbox).alloc zbox).alloc zbox).heap.size := by simp; omega
      have s4 := s3.alloc z3 zbox
      have S1 := Aside0.mk s1
      have S2 := Aside0.mk s2
      have S3 := Aside0.mk s3
      have S4 := Aside0.mk s4
      have HH := Aside0.mk hHeld
      have HZ := Aside0.mk hz2
      clear s1 s2 s3 s4 z1 z2 z3 hHeld hz2
      replace H := Aside0.mk H
      refine wpAnyLast_ready (rs := [4, 5, 6, 7]) (by kernel_rfl) (by simp) (AllReadyL.cons rfl (by simp) (fun K hK => ?_) (AllReadyL.cons rfl (by simp) (fun K hK => ?_) (AllReadyL.cons rfl (by simp) (fun K hK => ?_) (AllReadyL.cons rfl (by simp) (fun K hK => ?_) AllReadyL.nil))))
      · go_simp
        refine hK.out _ _ S1.out (fun _ => ?_)
        clear hK K
        refine wpAnyLast_ready (rs := [5, 6, 7]) (by kernel_rfl) (by simp) (AllReadyL.cons rfl (by simp) (fun K hK => ?_) (AllReadyL.cons rfl (by simp) (fun K hK => ?_) (AllReadyL.cons rfl (by simp) (fun K hK => ?_) AllReadyL.nil)))
        · go_simp
          refine hK.out _ _ S2.out (fun _ => ?_)
          clear hK K
          refine wpAnyLast_ready (rs := [6, 7]) (by kernel_rfl) (by simp) (AllReadyL.cons rfl (by simp) (fun K hK => ?_) (AllReadyL.cons rfl (by simp) (fun K hK => ?_) AllReadyL.nil))
          · go_simp
            refine hK.out _ _ S3.out (fun _ => ?_)
            clear hK K
            refine wpAnyLast_ready (rs := [7]) (by kernel_rfl) (by simp) (AllReadyL.cons rfl (by simp) (fun K hK => ?_) AllReadyL.nil)
            · go_simp
              refine hK.out _ _ S4.out (fun _ => ?_)
              clear hK K
              have h := H.out (_, _, _, _) _ (Four.mk_ HH.out HZ.out 0 1 2 3 (by decide) (by decide) (by decide) (by decide) (by decide) (by decide) (by decide) (by decide) (by decide) (by decide))
              simp only [putAll, Act.put, List.setIfInBounds_toArray, List.set_cons_zero, List.set_cons_succ, Nat.add_zero] at h ⊢
              exact h
          · go_simp
            refine hK.out _ _ S3.out (fun _ => ?_)
            clear hK K
            refine wpAnyLast_ready (rs := [6]) (by kernel_rfl) (by simp) (AllReadyL.cons rfl (by simp) (fun K hK => ?_) AllReadyL.nil)
            · go_simp
              refine hK.out _ _ S4.out (fun _ => ?_)
              clear hK K
              have h := H.out (_, _, _, _) _ (Four.mk_ HH.out HZ.out 0 1 3 2 (by decide) (by decide) (by decide) (by decide) (by decide) (by decide) (by decide) (by decide) (by decide) (by decide))
              simp only [putAll, Act.put, List.setIfInBounds_toArray, List.set_cons_zero, List.set_cons_succ, Nat.add_zero] at h ⊢
              exact h
        · go_simp
          refine hK.out _ _ S2.out (fun _ => ?_)
          clear hK K
          refine wpAnyLast_ready (rs := [5, 7]) (by kernel_rfl) (by simp) (AllReadyL.cons rfl (by simp) (fun K hK => ?_) (AllReadyL.cons rfl (by simp) (fun K hK => ?_) AllReadyL.nil))
          · go_simp
            refine hK.out _ _ S3.out (fun _ => ?_)
            clear hK K
            refine wpAnyLast_ready (rs := [7]) (by kernel_rfl) (by simp) (AllReadyL.cons rfl (by simp) (fun K hK => ?_) AllReadyL.nil)
            · go_simp
              refine hK.out _ _ S4.out (fun _ => ?_)
              clear hK K
              have h := H.out (_, _, _, _) _ (Four.mk_ HH.out HZ.out 0 2 1 3 (by decide) (by decide) (by decide) (by decide) (by decide) (by decide) (by decide) (by decide) (by decide) (by decide))
              simp only [putAll, Act.put, List.setIfInBounds_toArray, List.set_cons_zero, List.set_cons_succ, Nat.add_zero] at h ⊢
              exact h
          · go_simp
            refine hK.out _ _ S3.out (fun _ => ?_)
            clear hK K
            refine wpAnyLast_ready (rs := [5]) (by kernel_rfl) (by simp) (AllReadyL.cons rfl (by simp) (fun K hK => ?_) AllReadyL.nil)
            · go_simp
              refine hK.out _ _ S4.out (fun _ => ?_)
              clear hK K
              have h := H.out (_, _, _, _) _ (Four.mk_ HH.out HZ.out 0 3 1 2 (by decide) (by decide) (by decide) (by decide) (by decide) (by decide) (by decide) (by decide) (by decide) (by decide))
              simp only [putAll, Act.put, List.setIfInBounds_toArray, List.set_cons_zero, List.set_cons_succ, Nat.add_zero] at h ⊢
              exact h
        · go_simp
          refine hK.out _ _ S2.out (fun _ => ?_)
          clear hK K
          refine wpAnyLast_ready (rs := [5, 6]) (by kernel_rfl) (by simp) (AllReadyL.cons rfl (by simp) (fun K hK => ?_) (AllReadyL.cons rfl (by simp) (fun K hK => ?_) AllReadyL.nil))
          · go_simp
            refine hK.out _ _ S3.out (fun _ => ?_)
            clear hK K
            refine wpAnyLast_ready (rs := [6]) (by kernel_rfl) (by simp) (AllReadyL.cons rfl (by simp) (fun K hK => ?_) AllReadyL.nil)
            · go_simp
              refine hK.out _ _ S4.out (fun _ => ?_)
              clear hK K
              have h := H.out (_, _, _, _) _ (Four.mk_ HH.out HZ.out 0 2 3 1 (by decide) (by decide) (by decide) (by decide) (by decide) (by decide) (by decide) (by decide) (by decide) (by decide))
              simp only [putAll, Act.put, List.setIfInBounds_toArray, List.set_cons_zero, List.set_cons_succ, Nat.add_zero] at h ⊢
              exact h
          · go_simp
            refine hK.out _ _ S3.out (fun _ => ?_)
            clear hK K
            refine wpAnyLast_ready (rs := [5]) (by kernel_rfl) (by simp) (AllReadyL.cons rfl (by simp) (fun K hK => ?_) AllReadyL.nil)
            · go_simp
              refine hK.out _ _ S4.out (fun _ => ?_)
              clear hK K
              have h := H.out (_, _, _, _) _ (Four.mk_ HH.out HZ.out 0 3 2 1 (by decide) (by decide) (by decide) (by decide) (by decide) (by decide) (by decide) (by decide) (by decide) (by decide))
              simp only [putAll, Act.put, List.setIfInBounds_toArray, List.set_cons_zero, List.set_cons_succ, Nat.add_zero] at h ⊢
              exact h
      · go_simp
        refine hK.out _ _ S1.out (fun _ => ?_)
        clear hK K
        refine wpAnyLast_ready (rs := [4, 6, 7]) (by kernel_rfl) (by simp) (AllReadyL.cons rfl (by simp) (fun K hK => ?_) (AllReadyL.cons rfl (by simp) (fun K hK => ?_) (AllReadyL.cons rfl (by simp) (fun K hK => ?_) AllReadyL.nil)))
        · go_simp
          refine hK.out _ _ S2.out (fun _ => ?_)
          clear hK K
          refine wpAnyLast_ready (rs := [6, 7]) (by kernel_rfl) (by simp) (AllReadyL.cons rfl (by simp) (fun K hK => ?_) (AllReadyL.cons rfl (by simp) (fun K hK => ?_) AllReadyL.nil))
          · go_simp
            refine hK.out _ _ S3.out (fun _ => ?_)
            clear hK K
            refine wpAnyLast_ready (rs := [7]) (by kernel_rfl) (by simp) (AllReadyL.cons rfl (by simp) (fun K hK => ?_) AllReadyL.nil)
            · go_simp
              refine hK.out _ _ S4.out (fun _ => ?_)
              clear hK K
              have h := H.out (_, _, _, _) _ (Four.mk_ HH.out HZ.out 1 0 2 3 (by decide) (by decide) (by decide) (by decide) (by decide) (by decide) (by decide) (by decide) (by decide) (by decide))
              simp only [putAll, Act.put, List.setIfInBounds_toArray, List.set_cons_zero, List.set_cons_succ, Nat.add_zero] at h ⊢
              exact h
          · go_simp
            refine hK.out _ _ S3.out (fun _ => ?_)
            clear hK K
            refine wpAnyLast_ready (rs := [6]) (by kernel_rfl) (by simp) (AllReadyL.cons rfl (by simp) (fun K hK => ?_) AllReadyL.nil)
            · go_simp
              refine hK.out _ _ S4.out (fun _ => ?_)
              clear hK K
              have h := H.out (_, _, _, _) _ (Four.mk_ HH.out HZ.out 1 0 3 2 (by decide) (by decide) (by decide) (by decide) (by decide) (by decide) (by decide) (by decide) (by decide) (by decide))
              simp only [putAll, Act.put, List.setIfInBounds_toArray, List.set_cons_zero, List.set_cons_succ, Nat.add_zero] at h ⊢
              exact h
        · go_simp
          refine hK.out _ _ S2.out (fun _ => ?_)
          clear hK K
          refine wpAnyLast_ready (rs := [4, 7]) (by kernel_rfl) (by simp) (AllReadyL.cons rfl (by simp) (fun K hK => ?_) (AllReadyL.cons rfl (by simp) (fun K hK => ?_) AllReadyL.nil))
          · go_simp
            refine hK.out _ _ S3.out (fun _ => ?_)
            clear hK K
            refine wpAnyLast_ready (rs := [7]) (by kernel_rfl) (by simp) (AllReadyL.cons rfl (by simp) (fun K hK => ?_) AllReadyL.nil)
            · go_simp
              refine hK.out _ _ S4.out (fun _ => ?_)
              clear hK K
              have h := H.out (_, _, _, _) _ (Four.mk_ HH.out HZ.out 2 0 1 3 (by decide) (by decide) (by decide) (by decide) (by decide) (by decide) (by decide) (by decide) (by decide) (by decide))
              simp only [putAll, Act.put, List.setIfInBounds_toArray, List.set_cons_zero, List.set_cons_succ, Nat.add_zero] at h ⊢
              exact h
          · go_simp
            refine hK.out _ _ S3.out (fun _ => ?_)
            clear hK K
            refine wpAnyLast_ready (rs := [4]) (by kernel_rfl) (by simp) (AllReadyL.cons rfl (by simp) (fun K hK => ?_) AllReadyL.nil)
            · go_simp
              refine hK.out _ _ S4.out (fun _ => ?_)
              clear hK K
              have h := H.out (_, _, _, _) _ (Four.mk_ HH.out HZ.out 3 0 1 2 (by decide) (by decide) (by decide) (by decide) (by decide) (by decide) (by decide) (by decide) (by decide) (by decide))
              simp only [putAll, Act.put, List.setIfInBounds_toArray, List.set_cons_zero, List.set_cons_succ, Nat.add_zero] at h ⊢
              exact h
        · go_simp
          refine hK.out _ _ S2.out (fun _ => ?_)
          clear hK K
          refine wpAnyLast_ready (rs := [4, 6]) (by kernel_rfl) (by simp) (AllReadyL.cons rfl (by simp) (fun K hK => ?_) (AllReadyL.cons rfl (by simp) (fun K hK => ?_) AllReadyL.nil))
          · go_simp
            refine hK.out _ _ S3.out (fun _ => ?_)
            clear hK K
            refine wpAnyLast_ready (rs := [6]) (by kernel_rfl) (by simp) (AllReadyL.cons rfl (by simp) (fun K hK => ?_) AllReadyL.nil)
            · go_simp
              refine hK.out _ _ S4.out (fun _ => ?_)
              clear hK K
              have h := H.out (_, _, _, _) _ (Four.mk_ HH.out HZ.out 2 0 3 1 (by decide) (by decide) (by decide) (by decide) (by decide) (by decide) (by decide) (by decide) (by decide) (by decide))
              simp only [putAll, Act.put, List.setIfInBounds_toArray, List.set_cons_zero, List.set_cons_succ, Nat.add_zero] at h ⊢
              exact h
          · go_simp
            refine hK.out _ _ S3.out (fun _ => ?_)
            clear hK K
            refine wpAnyLast_ready (rs := [4]) (by kernel_rfl) (by simp) (AllReadyL.cons rfl (by simp) (fun K hK => ?_) AllReadyL.nil)
            · go_simp
              refine hK.out _ _ S4.out (fun _ => ?_)
              clear hK K
              have h := H.out (_, _, _, _) _ (Four.mk_ HH.out HZ.out 3 0 2 1 (by decide) (by decide) (by decide) (by decide) (by decide) (by decide) (by decide) (by decide) (by decide) (by decide))
              simp only [putAll, Act.put, List.setIfInBounds_toArray, List.set_cons_zero, List.set_cons_succ, Nat.add_zero] at h ⊢
              exact h
      · go_simp
        refine hK.out _ _ S1.out (fun _ => ?_)
        clear hK K
        refine wpAnyLast_ready (rs := [4, 5, 7]) (by kernel_rfl) (by simp) (AllReadyL.cons rfl (by simp) (fun K hK => ?_) (AllReadyL.cons rfl (by simp) (fun K hK => ?_) (AllReadyL.cons rfl (by simp) (fun K hK => ?_) AllReadyL.nil)))
        · go_simp
          refine hK.out _ _ S2.out (fun _ => ?_)
          clear hK K
          refine wpAnyLast_ready (rs := [5, 7]) (by kernel_rfl) (by simp) (AllReadyL.cons rfl (by simp) (fun K hK => ?_) (AllReadyL.cons rfl (by simp) (fun K hK => ?_) AllReadyL.nil))
          · go_simp
            refine hK.out _ _ S3.out (fun _ => ?_)
            clear hK K
            refine wpAnyLast_ready (rs := [7]) (by kernel_rfl) (by simp) (AllReadyL.cons rfl (by simp) (fun K hK => ?_) AllReadyL.nil)
            · go_simp
              refine hK.out _ _ S4.out (fun _ => ?_)
              clear hK K
              have h := H.out (_, _, _, _) _ (Four.mk_ HH.out HZ.out 1 2 0 3 (by decide) (by decide) (by decide) (by decide) (by decide) (by decide) (by decide) (by decide) (by decide) (by decide))
              simp only [putAll, Act.put, List.setIfInBounds_toArray, List.set_cons_zero, List.set_cons_succ, Nat.add_zero] at h ⊢
              exact h
          · go_simp
            refine hK.out _ _ S3.out (fun _ => ?_)
            clear hK K
            refine wpAnyLast_ready (rs := [5]) (by kernel_rfl) (by simp) (AllReadyL.cons rfl (by simp) (fun K hK => ?_) AllReadyL.nil)
            · go_simp
              refine hK.out _ _ S4.out (fun _ => ?_)
              clear hK K
              have h := H.out (_, _, _, _) _ (Four.mk_ HH.out HZ.out 1 3 0 2 (by decide) (by decide) (by decide) (by decide) (by decide) (by decide) (by decide) (by decide) (by decide) (by decide))
              simp only [putAll, Act.put, List.setIfInBounds_toArray, List.set_cons_zero, List.set_cons_succ, Nat.add_zero] at h ⊢
              exact h
        · go_simp
          refine hK.out _ _ S2.out (fun _ => ?_)
          clear hK K
          refine wpAnyLast_ready (rs := [4, 7]) (by kernel_rfl) (by simp) (AllReadyL.cons rfl (by simp) (fun K hK => ?_) (AllReadyL.cons rfl (by simp) (fun K hK => ?_) AllReadyL.nil))
          · go_simp
            refine hK.out _ _ S3.out (fun _ => ?_)
            clear hK K
            refine wpAnyLast_ready (rs := [7]) (by kernel_rfl) (by simp) (AllReadyL.cons rfl (by simp) (fun K hK => ?_) AllReadyL.nil)
            · go_simp
              refine hK.out _ _ S4.out (fun _ => ?_)
              clear hK K
              have h := H.out (_, _, _, _) _ (Four.mk_ HH.out HZ.out 2 1 0 3 (by decide) (by decide) (by decide) (by decide) (by decide) (by decide) (by decide) (by decide) (by decide) (by decide))
              simp only [putAll, Act.put, List.setIfInBounds_toArray, List.set_cons_zero, List.set_cons_succ, Nat.add_zero] at h ⊢
              exact h
          · go_simp
            refine hK.out _ _ S3.out (fun _ => ?_)
            clear hK K
            refine wpAnyLast_ready (rs := [4]) (by kernel_rfl) (by simp) (AllReadyL.cons rfl (by simp) (fun K hK => ?_) AllReadyL.nil)
            · go_simp
              refine hK.out _ _ S4.out (fun _ => ?_)
              clear hK K
              have h := H.out (_, _, _, _) _ (Four.mk_ HH.out HZ.out 3 1 0 2 (by decide) (by decide) (by decide) (by decide) (by decide) (by decide) (by decide) (by decide) (by decide) (by decide))
              simp only [putAll, Act.put, List.setIfInBounds_toArray, List.set_cons_zero, List.set_cons_succ, Nat.add_zero] at h ⊢
              exact h
        · go_simp
          refine hK.out _ _ S2.out (fun _ => ?_)
          clear hK K
          refine wpAnyLast_ready (rs := [4, 5]) (by kernel_rfl) (by simp) (AllReadyL.cons rfl (by simp) (fun K hK => ?_) (AllReadyL.cons rfl (by simp) (fun K hK => ?_) AllReadyL.nil))
          · go_simp
            refine hK.out _ _ S3.out (fun _ => ?_)
            clear hK K
            refine wpAnyLast_ready (rs := [5]) (by kernel_rfl) (by simp) (AllReadyL.cons rfl (by simp) (fun K hK => ?_) AllReadyL.nil)
            · go_simp
              refine hK.out _ _ S4.out (fun _ => ?_)
              clear hK K
              have h := H.out (_, _, _, _) _ (Four.mk_ HH.out HZ.out 2 3 0 1 (by decide) (by decide) (by decide) (by decide) (by decide) (by decide) (by decide) (by decide) (by decide) (by decide))
              simp only [putAll, Act.put, List.setIfInBounds_toArray, List.set_cons_zero, List.set_cons_succ, Nat.add_zero] at h ⊢
              exact h
          · go_simp
            refine hK.out _ _ S3.out (fun _ => ?_)
            clear hK K
            refine wpAnyLast_ready (rs := [4]) (by kernel_rfl) (by simp) (AllReadyL.cons rfl (by simp) (fun K hK => ?_) AllReadyL.nil)
            · go_simp
              refine hK.out _ _ S4.out (fun _ => ?_)
              clear hK K
              have h := H.out (_, _, _, _) _ (Four.mk_ HH.out HZ.out 3 2 0 1 (by decide) (by decide) (by decide) (by decide) (by decide) (by decide) (by decide) (by decide) (by decide) (by decide))
              simp only [putAll, Act.put, List.setIfInBounds_toArray, List.set_cons_zero, List.set_cons_succ, Nat.add_zero] at h ⊢
              exact h
      · go_simp
        refine hK.out _ _ S1.out (fun _ => ?_)
        clear hK K
        refine wpAnyLast_ready (rs := [4, 5, 6]) (by kernel_rfl) (by simp) (AllReadyL.cons rfl (by simp) (fun K hK => ?_) (AllReadyL.cons rfl (by simp) (fun K hK => ?_) (AllReadyL.cons rfl (by simp) (fun K hK => ?_) AllReadyL.nil)))
        · go_simp
          refine hK.out _ _ S2.out (fun _ => ?_)
          clear hK K
          refine wpAnyLast_ready (rs := [5, 6]) (by kernel_rfl) (by simp) (AllReadyL.cons rfl (by simp) (fun K hK => ?_) (AllReadyL.cons rfl (by simp) (fun K hK => ?_) AllReadyL.nil))
          · go_simp
            refine hK.out _ _ S3.out (fun _ => ?_)
            clear hK K
            refine wpAnyLast_ready (rs := [6]) (by kernel_rfl) (by simp) (AllReadyL.cons rfl (by simp) (fun K hK => ?_) AllReadyL.nil)
            · go_simp
              refine hK.out _ _ S4.out (fun _ => ?_)
              clear hK K
              have h := H.out (_, _, _, _) _ (Four.mk_ HH.out HZ.out 1 2 3 0 (by decide) (by decide) (by decide) (by decide) (by decide) (by decide) (by decide) (by decide) (by decide) (by decide))
              simp only [putAll, Act.put, List.setIfInBounds_toArray, List.set_cons_zero, List.set_cons_succ, Nat.add_zero] at h ⊢
              exact h
          · go_simp
            refine hK.out _ _ S3.out (fun _ => ?_)
            clear hK K
            refine wpAnyLast_ready (rs := [5]) (by kernel_rfl) (by simp) (AllReadyL.cons rfl (by simp) (fun K hK => ?_) AllReadyL.nil)
            · go_simp
              refine hK.out _ _ S4.out (fun _ => ?_)
              clear hK K
              have h := H.out (_, _, _, _) _ (Four.mk_ HH.out HZ.out 1 3 2 0 (by decide) (by decide) (by decide) (by decide) (by decide) (by decide) (by decide) (by decide) (by decide) (by decide))
              simp only [putAll, Act.put, List.setIfInBounds_toArray, List.set_cons_zero, List.set_cons_succ, Nat.add_zero] at h ⊢
              exact h
        · go_simp
          refine hK.out _ _ S2.out (fun _ => ?_)
          clear hK K
          refine wpAnyLast_ready (rs := [4, 6]) (by kernel_rfl) (by simp) (AllReadyL.cons rfl (by simp) (fun K hK => ?_) (AllReadyL.cons rfl (by simp) (fun K hK => ?_) AllReadyL.nil))
          · go_simp
            refine hK.out _ _ S3.out (fun _ => ?_)
            clear hK K
            refine wpAnyLast_ready (rs := [6]) (by kernel_rfl) (by simp) (AllReadyL.cons rfl (by simp) (fun K hK => ?_) AllReadyL.nil)
            · go_simp
              refine hK.out _ _ S4.out (fun _ => ?_)
              clear hK K
              have h := H.out (_, _, _, _) _ (Four.mk_ HH.out HZ.out 2 1 3 0 (by decide) (by decide) (by decide) (by decide) (by decide) (by decide) (by decide) (by decide) (by decide) (by decide))
              simp only [putAll, Act.put, List.setIfInBounds_toArray, List.set_cons_zero, List.set_cons_succ, Nat.add_zero] at h ⊢
              exact h
          · go_simp
            refine hK.out _ _ S3.out (fun _ => ?_)
            clear hK K
            refine wpAnyLast_ready (rs := [4]) (by kernel_rfl) (by simp) (AllReadyL.cons rfl (by simp) (fun K hK => ?_) AllReadyL.nil)
            · go_simp
              refine hK.out _ _ S4.out (fun _ => ?_)
              clear hK K
              have h := H.out (_, _, _, _) _ (Four.mk_ HH.out HZ.out 3 1 2 0 (by decide) (by decide) (by decide) (by decide) (by decide) (by decide) (by decide) (by decide) (by decide) (by decide))
              simp only [putAll, Act.put, List.setIfInBounds_toArray, List.set_cons_zero, List.set_cons_succ, Nat.add_zero] at h ⊢
              exact h
        · go_simp
          refine hK.out _ _ S2.out (fun _ => ?_)
          clear hK K
          refine wpAnyLast_ready (rs := [4, 5]) (by kernel_rfl) (by simp) (AllReadyL.cons rfl (by simp) (fun K hK => ?_) (AllReadyL.cons rfl (by simp) (fun K hK => ?_) AllReadyL.nil))
          · go_simp
            refine hK.out _ _ S3.out (fun _ => ?_)
            clear hK K
            refine wpAnyLast_ready (rs := [5]) (by kernel_rfl) (by simp) (AllReadyL.cons rfl (by simp) (fun K hK => ?_) AllReadyL.nil)
            · go_simp
              refine hK.out _ _ S4.out (fun _ => ?_)
              clear hK K
              have h := H.out (_, _, _, _) _ (Four.mk_ HH.out HZ.out 2 3 1 0 (by decide) (by decide) (by decide) (by decide) (by decide) (by decide) (by decide) (by decide) (by decide) (by decide))
              simp only [putAll, Act.put, List.setIfInBounds_toArray, List.set_cons_zero, List.set_cons_succ, Nat.add_zero] at h ⊢
              exact h
          · go_simp
            refine hK.out _ _ S3.out (fun _ => ?_)
            clear hK K
            refine wpAnyLast_ready (rs := [4]) (by kernel_rfl) (by simp) (AllReadyL.cons rfl (by simp) (fun K hK => ?_) AllReadyL.nil)
            · go_simp
              refine hK.out _ _ S4.out (fun _ => ?_)
              clear hK K
              have h := H.out (_, _, _, _) _ (Four.mk_ HH.out HZ.out 3 2 1 0 (by decide) (by decide) (by decide) (by decide) (by decide) (by decide) (by decide) (by decide) (by decide) (by decide))
              simp only [putAll, Act.put, List.setIfInBounds_toArray, List.set_cons_zero, List.set_cons_succ, Nat.add_zero] at h ⊢
              exact h
    rintro ⟨g5, g6, g7, g8⟩ W F
    obtain ⟨hA, hb, n5, n6, n7, n8, b5, b6, b7, b8, e1, e2, e3, e4, e5, e6⟩ := F
    dsimp only at n5 n6 n7 n8 b5 b6 b7 b8 e1 e2 e3 e4 e5 e6
    replace P := P.step hb
    replace B := Aside0.mk (blk_below B.out hb)
    have m5 : w.heap.size + 1 < g5 := by omega
    have m6 : w.heap.size + 1 < g6 := by omega
    have m7 : w.heap.size + 1 < g7 := by omega
    have m8 : w.heap.size + 1 < g8 := by omega
    clear hb n5 n6 n7 n8 hHeld hz2 hA
    refine norm_ (a' := ?_) ?_ ?_
    rotate_left
    · simp only [putAll, Act.put, List.setIfInBounds_toArray, List.set_cons_zero, List.set_cons_succ]
      rfl
    obtain ⟨z0, z1, z2, z3, z4⟩ := abox_cells b5
    have f0 := blk_frozen b5 0
    have f1 := blk_frozen b5 1
    have f2 := blk_frozen b5 2
    have f3 := blk_frozen b5 3
    have f4 := blk_frozen b5 4
    refine one_ (i := 8) (N := none) #[true, true, true, true, true, true, true, true, true, false, false, false] rfl rfl (by kernel_rfl) (by simp) (fun K hK => ?_)
    go_simp
    clear z0 z1 z2 z3 z4 f0 f1 f2 f3 f4
    replace P := P.setQ_ (Nat.lt_of_succ_lt m5) policy static left slack level
    replace B := Aside0.mk (setQ_far (g := g5) B.out (Nat.ne_of_lt m5) policy static left slack level)
    replace b5 := setQ_own b5 policy static left slack level
    replace b6 := setQ_far (g := g5) b6 e1.symm policy static left slack level
    replace b7 := setQ_far (g := g5) b7 e2.symm policy static left slack level
    replace b8 := setQ_far (g := g5) b8 e3.symm policy static left slack level
    refine hK.out _ (setQ W g5 policy static left slack level) (AC.of B.out) (fun _ => ?_)
    clear hK K
    generalize setQ W g5 policy static left slack level = W at P B b5 b6 b7 b8 ⊢
    obtain ⟨z0, z1, z2, z3, z4⟩ := abox_cells b6
    have f0 := blk_frozen b6 0
    have f1 := blk_frozen b6 1
    have f2 := blk_frozen b6 2
    have f3 := blk_frozen b6 3
    have f4 := blk_frozen b6 4
    refine one_ (i := 9) (N := none) #[true, true, true, true, true, true, true, true, true, true, false, false] rfl rfl (by kernel_rfl) (by simp) (fun K hK => ?_)
    go_simp
    clear z0 z1 z2 z3 z4 f0 f1 f2 f3 f4
    replace P := P.setQ_ (Nat.lt_of_succ_lt m6) policy static left slack level
    replace B := Aside0.mk (setQ_far (g := g6) B.out (Nat.ne_of_lt m6) policy static left slack level)
    replace b5 := setQ_far (g := g6) b5 e1 policy static left slack level
    replace b6 := setQ_own b6 policy static left slack level
    replace b7 := setQ_far (g := g6) b7 e4.symm policy static left slack level
    replace b8 := setQ_far (g := g6) b8 e5.symm policy static left slack level
    refine hK.out _ (setQ W g6 policy static left slack level) (AC.of B.out) (fun _ => ?_)
    clear hK K
    generalize setQ W g6 policy static left slack level = W at P B b5 b6 b7 b8 ⊢
    obtain ⟨z0, z1, z2, z3, z4⟩ := abox_cells b7
    have f0 := blk_frozen b7 0
    have f1 := blk_frozen b7 1
    have f2 := blk_frozen b7 2
    have f3 := blk_frozen b7 3
    have f4 := blk_frozen b7 4
    refine one_ (i := 10) (N := none) #[true, true, true, true, true, true, true, true, true, true, true, false] rfl rfl (by kernel_rfl) (by simp) (fun K hK => ?_)
    go_simp
    clear z0 z1 z2 z3 z4 f0 f1 f2 f3 f4
    replace P := P.setQ_ (Nat.lt_of_succ_lt m7) policy static left slack level
    replace B := Aside0.mk (setQ_far (g := g7) B.out (Nat.ne_of_lt m7) policy static left slack level)
    replace b5 := setQ_far (g := g7) b5 e2 policy static left slack level
    replace b6 := setQ_far (g := g7) b6 e4 policy static left slack level
    replace b7 := setQ_own b7 policy static left slack level
    replace b8 := setQ_far (g := g7) b8 e6.symm policy static left slack level
    refine hK.out _ (setQ W g7 policy static left slack level) (AC.of B.out) (fun _ => ?_)
    clear hK K
    generalize setQ W g7 policy static left slack level = W at P B b5 b6 b7 b8 ⊢
    obtain ⟨z0, z1, z2, z3, z4⟩ := abox_cells b8
    have f0 := blk_frozen b8 0
    have f1 := blk_frozen b8 1
    have f2 := blk_frozen b8 2
    have f3 := blk_frozen b8 3
    have f4 := blk_frozen b8 4
    refine one_ (i := 11) (N := none) #[true, true, true, true, true, true, true, true, true, true, true, true] rfl rfl (by kernel_rfl) (by simp) (fun K hK => ?_)
    go_simp
    clear z0 z1 z2 z3 z4 f0 f1 f2 f3 f4
    replace P := P.setQ_ (Nat.lt_of_succ_lt m8) policy static left slack level
    replace B := Aside0.mk (setQ_far (g := g8) B.out (Nat.ne_of_lt m8) policy static left slack level)
    replace b5 := setQ_far (g := g8) b5 e3 policy static left slack level
    replace b6 := setQ_far (g := g8) b6 e5 policy static left slack level
    replace b7 := setQ_far (g := g8) b7 e6 policy static left slack level
    replace b8 := setQ_own b8 policy static left slack level
    refine hK.out _ (setQ W g8 policy static left slack level) (AC.of B.out) (fun _ => ?_)
    clear hK K
    generalize setQ W g8 policy static left slack level = W at P B b5 b6 b7 b8 ⊢
    refine done_ (by kernel_rfl) ?_
    obtain ⟨z0, z1, z2, z3, z4⟩ := abox_cells b5
    obtain ⟨u0, u1, u2, u3, u4⟩ := abox_cells b6
    obtain ⟨v0, v1, v2, v3, v4⟩ := abox_cells b7
    obtain ⟨x0, x1, x2, x3, x4⟩ := abox_cells b8
    have f0 := blk_frozen b5 0
    have f1 := blk_frozen b6 0
    have f2 := blk_frozen b7 0
    have f3 := blk_frozen b8 0
    go_upto_region 5 with (fail)
    clear z0 z1 z2 z3 z4 u0 u1 u2 u3 u4 v0 v1 v2 v3 v4 x0 x1 x2 x3 x4 f0 f1 f2 f3
    replace P := P.set (g := g5) (Nat.lt_of_succ_lt m5) 0 (.int .i64 0)
    replace B := Aside0.mk (blk_far B.out (p := ⟨g5, 0, none⟩) (Nat.ne_of_lt m5) (.int .i64 0))
    replace b5 := blk_put (cs' := abox 0 static left slack level) b5 0 (.int .i64 0) rfl
    replace b6 := blk_far b6 (p := ⟨g5, 0, none⟩) e1.symm (.int .i64 0)
    replace b7 := blk_far b7 (p := ⟨g5, 0, none⟩) e2.symm (.int .i64 0)
    replace b8 := blk_far b8 (p := ⟨g5, 0, none⟩) e3.symm (.int .i64 0)
    replace P := P.set (g := g6) (Nat.lt_of_succ_lt m6) 0 (.int .i64 1)
    replace B := Aside0.mk (blk_far B.out (p := ⟨g6, 0, none⟩) (Nat.ne_of_lt m6) (.int .i64 1))
    replace b5 := blk_far b5 (p := ⟨g6, 0, none⟩) e1 (.int .i64 1)
    replace b6 := blk_put (cs' := abox 1 static left slack level) b6 0 (.int .i64 1) rfl
    replace b7 := blk_far b7 (p := ⟨g6, 0, none⟩) e4.symm (.int .i64 1)
    replace b8 := blk_far b8 (p := ⟨g6, 0, none⟩) e5.symm (.int .i64 1)
    replace P := P.set (g := g7) (Nat.lt_of_succ_lt m7) 0 (.int .i64 2)
    replace B := Aside0.mk (blk_far B.out (p := ⟨g7, 0, none⟩) (Nat.ne_of_lt m7) (.int .i64 2))
    replace b5 := blk_far b5 (p := ⟨g7, 0, none⟩) e2 (.int .i64 2)
    replace b6 := blk_far b6 (p := ⟨g7, 0, none⟩) e4 (.int .i64 2)
    replace b7 := blk_put (cs' := abox 2 static left slack level) b7 0 (.int .i64 2) rfl
    replace b8 := blk_far b8 (p := ⟨g7, 0, none⟩) e6.symm (.int .i64 2)
    replace P := P.set (g := g8) (Nat.lt_of_succ_lt m8) 0 (.int .i64 3)
    replace B := Aside0.mk (blk_far B.out (p := ⟨g8, 0, none⟩) (Nat.ne_of_lt m8) (.int .i64 3))
    replace b5 := blk_far b5 (p := ⟨g8, 0, none⟩) e3 (.int .i64 3)
    replace b6 := blk_far b6 (p := ⟨g8, 0, none⟩) e5 (.int .i64 3)
    replace b7 := blk_far b7 (p := ⟨g8, 0, none⟩) e6 (.int .i64 3)
    replace b8 := blk_put (cs' := abox 3 static left slack level) b8 0 (.int .i64 3) rfl
    have B5 := Aside0.mk b5
    have B6 := Aside0.mk b6
    have B7 := Aside0.mk b7
    have B8 := Aside0.mk b8
    clear b5 b6 b7 b8 e1 e2 e3 e4 e5 e6 m5 m6 m7 m8
    generalize (((W.setCell ⟨g5, 0, none⟩ (.int .i64 0)).setCell ⟨g6, 0, none⟩ (.int .i64 1)).setCell ⟨g7, 0, none⟩ (.int .i64 2)).setCell ⟨g8, 0, none⟩ (.int .i64 3) = W at P B B5 B6 B7 B8 ⊢
    have fb : 0 ≤ fast l0 crit sw 1 static left slack level ∧ fast l0 crit sw 1 static left slack level ≤ mx static 0 ∧ fast l0 crit sw 1 static left slack level ≤ fast l0 crit sw 2 static left slack level ∧ fast l0 crit sw 3 static left slack level = fast l0 crit sw 1 static left slack level ∧ fast l0 crit sw 0 static left slack level = 0 := pol_facts HT.out static left slack level
    have FB := Aside0.mk fb
    clear fb
    have C1 : Aside0 (dormouselaw16_choose.f 10 l0 l1 l2 idle crit sw swE sems hor 1 static left slack level = some (fast l0 crit sw 1 static left slack level)) := ⟨choose_some HT.out 1 static L2.out L3.out⟩
    have C2 : Aside0 (dormouselaw16_choose.f 10 l0 l1 l2 idle crit sw swE sems hor 2 static left slack level = some (fast l0 crit sw 2 static left slack level)) := ⟨choose_some HT.out 2 static L2.out L3.out⟩
    have C3 : Aside0 (dormouselaw16_choose.f 10 l0 l1 l2 idle crit sw swE sems hor 3 static left slack level = some (fast l0 crit sw 1 static left slack level)) := ⟨by rw [choose_some HT.out 3 static L2.out L3.out, FB.out.2.2.2.1]⟩
    have C0 : Aside0 (dormouselaw16_choose.f 10 l0 l1 l2 idle crit sw swE sems hor 0 static left slack level = some 0) := ⟨by rw [choose_some HT.out 0 static L2.out L3.out, FB.out.2.2.2.2]⟩
    have M0 : Aside0 (0 ≤ fast l0 crit sw 1 static left slack level ∧ fast l0 crit sw 1 static left slack level ≤ mx static 0 ∧ fast l0 crit sw 1 static left slack level ≤ fast l0 crit sw 2 static left slack level) := ⟨FB.out.1, FB.out.2.1, FB.out.2.2.1⟩
    clear FB
    generalize fast l0 crit sw 1 static left slack level = n at C1 C3 M0
    generalize fast l0 crit sw 2 static left slack level = nl at C2 M0
    obtain ⟨x0, x1, x2, x3, x4, x5, x6, x7, x8⟩ := P.xp
    obtain ⟨y0, y1, y2, y3, y4⟩ := abox_cells B6.out
    go_wp2_with fail
    try go_wp2_with fail
    clear x0 x1 x2 x3 x4 x5 x6 x7 x8 y0 y1 y2 y3 y4
    refine (dormouselaw16_choose.calls 10 A0 c0 l0 A1 c1 l1 A2 c2 l2 idle crit sw swE sems hor 1 static left slack level _ _ P.R0 P.g0 P.R1 P.g1 P.R2 P.g2 C1.out).mono ?_
    rintro e w2 ⟨rfl, hb⟩
    replace P := P.step hb
    replace B := Aside0.mk (blk_below B.out hb)
    replace B5 := Aside0.mk (blk_below B5.out hb)
    replace B6 := Aside0.mk (blk_below B6.out hb)
    replace B7 := Aside0.mk (blk_below B7.out hb)
    replace B8 := Aside0.mk (blk_below B8.out hb)
    clear hb
    go_wp2_with fail
    try go_wp2_with fail
    refine (Ans.answers_calls _).mono ?_
    rintro e w3 ⟨rfl, hb⟩
    replace P := P.step hb
    replace B := Aside0.mk (blk_below B.out hb)
    replace B5 := Aside0.mk (blk_below B5.out hb)
    replace B6 := Aside0.mk (blk_below B6.out hb)
    replace B7 := Aside0.mk (blk_below B7.out hb)
    replace B8 := Aside0.mk (blk_below B8.out hb)
    clear hb
    obtain ⟨x0, x1, x2, x3, x4, x5, x6, x7, x8⟩ := P.xp
    obtain ⟨y0, y1, y2, y3, y4⟩ := abox_cells B5.out
    go_wp2_with fail
    try go_wp2_with fail
    clear x0 x1 x2 x3 x4 x5 x6 x7 x8 y0 y1 y2 y3 y4
    refine (dormouselaw16_choose.calls 10 A0 c0 l0 A1 c1 l1 A2 c2 l2 idle crit sw swE sems hor 0 static left slack level _ _ P.R0 P.g0 P.R1 P.g1 P.R2 P.g2 C0.out).mono ?_
    rintro e w4 ⟨rfl, hb⟩
    replace P := P.step hb
    replace B := Aside0.mk (blk_below B.out hb)
    replace B5 := Aside0.mk (blk_below B5.out hb)
    replace B6 := Aside0.mk (blk_below B6.out hb)
    replace B7 := Aside0.mk (blk_below B7.out hb)
    replace B8 := Aside0.mk (blk_below B8.out hb)
    clear hb
    obtain ⟨x0, x1, x2, x3, x4, x5, x6, x7, x8⟩ := P.xp
    obtain ⟨y0, y1, y2, y3, y4⟩ := abox_cells B8.out
    go_wp2_with fail
    try go_wp2_with fail
    clear x0 x1 x2 x3 x4 x5 x6 x7 x8 y0 y1 y2 y3 y4
    refine (dormouselaw16_choose.calls 10 A0 c0 l0 A1 c1 l1 A2 c2 l2 idle crit sw swE sems hor 3 static left slack level _ _ P.R0 P.g0 P.R1 P.g1 P.R2 P.g2 C3.out).mono ?_
    rintro e w5 ⟨rfl, hb⟩
    replace P := P.step hb
    replace B := Aside0.mk (blk_below B.out hb)
    replace B5 := Aside0.mk (blk_below B5.out hb)
    replace B6 := Aside0.mk (blk_below B6.out hb)
    replace B7 := Aside0.mk (blk_below B7.out hb)
    replace B8 := Aside0.mk (blk_below B8.out hb)
    clear hb
    obtain ⟨x0, x1, x2, x3, x4, x5, x6, x7, x8⟩ := P.xp
    obtain ⟨y0, y1, y2, y3, y4⟩ := abox_cells B.out
    go_wp2_with fail
    try go_wp2_with fail
    clear x0 x1 x2 x3 x4 x5 x6 x7 x8 y0 y1 y2 y3 y4
    refine (dormouseref01_Max.calls _ _ _ _ (max_some _ _)).mono ?_
    rintro e w6 ⟨rfl, hb⟩
    replace hb := below_of_drawn hb
    replace P := P.step hb
    replace B := Aside0.mk (blk_below B.out hb)
    replace B5 := Aside0.mk (blk_below B5.out hb)
    replace B6 := Aside0.mk (blk_below B6.out hb)
    replace B7 := Aside0.mk (blk_below B7.out hb)
    replace B8 := Aside0.mk (blk_below B8.out hb)
    clear hb
    obtain ⟨x0, x1, x2, x3, x4, x5, x6, x7, x8⟩ := P.xp
    obtain ⟨y0, y1, y2, y3, y4⟩ := abox_cells B7.out
    have q1 : decide (n ≤ mx static 0) = true := decide_eq_true M0.out.2.1
    go_wp2_with fail
    try go_wp2_with fail
    clear q1
    clear x0 x1 x2 x3 x4 x5 x6 x7 x8 y0 y1 y2 y3 y4
    refine (dormouselaw16_choose.calls 10 A0 c0 l0 A1 c1 l1 A2 c2 l2 idle crit sw swE sems hor 2 static left slack level _ _ P.R0 P.g0 P.R1 P.g1 P.R2 P.g2 C2.out).mono ?_
    rintro e w7 ⟨rfl, hb⟩
    replace P := P.step hb
    replace B := Aside0.mk (blk_below B.out hb)
    replace B5 := Aside0.mk (blk_below B5.out hb)
    replace B6 := Aside0.mk (blk_below B6.out hb)
    replace B7 := Aside0.mk (blk_below B7.out hb)
    replace B8 := Aside0.mk (blk_below B8.out hb)
    clear hb
    go_wp2_with fail
    go_ret
    exact ⟨congrArg (fun b => Ending.returned (.bool b)) (decide_eq_true M0.out.2.2), P.hb⟩
  · have HG := Aside0.mk hg
    clear hg
    go_enter Try.func8, Try.ntmps8
    go_wp2_with fail
    generalize hbx : w.alloc (.cells #[.slice A0 l0.length c0, .slice A1 l1.length c1, .slice A2 l2.length c2, .int .i64 idle, .int .i64 crit, .int .i64 sw, .int .i64 swE, .int .i64 sems, .int .i64 hor] 38 (0, 0)) = wb at P0 ⊢
    have hsz : wb.heap.size = w.heap.size + 1 := by rw [← hbx]; simp
    have P := P0.step ((Below.refl wb.heap.size wb).alloc (Nat.le_refl _) (.cells (abox policy static left slack level) 40 (0, 0)))
    have B : (wb.alloc (.cells (abox policy static left slack level) 40 (0, 0))).heap[w.heap.size + 1]? = some (.cells (abox policy static left slack level) 40 (0, 0)) := by rw [← hsz]; exact heap_alloc_new _ _
    have hz : (wb.alloc (.cells (abox policy static left slack level) 40 (0, 0))).heap.size = w.heap.size + 2 := by simp [hsz]
    generalize wb.alloc (.cells #[.int .i64 policy, .int .i64 static, .int .i64 left, .int .i64 slack, .int .i64 level] 40 (0, 0)) = w0 at P B hz ⊢
    clear P0 hsz hbx
    have Z := Aside0.mk (Nat.le_of_eq hz.symm)
    replace B := Aside0.mk B
    clear hz wb
    refine (dormouselaw16_good.calls 1 A0 c0 l0 A1 c1 l1 A2 c2 l2 _ _ _ _ _ _ _ _ _ _ _ false _ P.R0 P.g0 P.R1 P.g1 P.R2 P.g2 (good_no HG.out _ _ _ _)).mono ?_; rintro e w1 ⟨rfl, hb⟩
    replace P := P.step hb
    clear hb
    go_wp2_with fail
    try go_wp2_with fail
    refine (Ans.answers_calls _).mono ?_; rintro e w2 ⟨rfl, hb⟩
    replace P := P.step hb
    clear hb
    go_wp2_with fail
    go_ret
    exact ⟨rfl, P.hb⟩
end Go.Proofs.Ytijlfnjfjmhdiaa.Law
namespace Go.Proofs.Ytijlfnjfjmhdiaa.governPolicies
open Go.ChangeShapes Go.WideShapes Go.ChangeAt Go.RowKit Go.Proofs.Ytijlfnjfjmhdiaa.Opn
set_option linter.unusedVariables false
theorem own : ownKnob Try.prog.godebug = none := by kernel_rfl
theorem laidOut : laidOutB Try.prog = true := by kernel_rfl
set_option maxRecDepth 100000 in
theorem lifted (os : Os) (started : os.Started) (H : Type) (enc : TypeId × Value → H) :
    ReturnsInHanded {} Try.checked os 8 .any (Rows.governPoliciesSpec.pre6 enc Try.prog Try.f8 Rows.governPoliciesRow.domain false) (Rows.governPoliciesSpec.post enc Try.prog Try.f8 false true false false) := by
  refine returnsInHanded_of_change_sized (C := Try.checked) own started (by kernel_rfl) Try.func8
    (ChangeSpec.witness6 (enc := enc) (C := Try.checked) false ⟨#[], #[.agg #[.slice none 0 0, .slice none 0 0, .slice none 0 0, .int .i64 0, .int .i64 0, .int .i64 0, .int .i64 0, .int .i64 0, .int .i64 0], .agg #[.int .i64 0, .int .i64 0, .int .i64 0, .int .i64 0, .int .i64 0]], []⟩ 8 (by kernel_rfl) (by kernel_rfl) (by kernel_rfl) (by kernel_rfl)) ?_
  intro W base args ds gs before hval0 hW hcnd hsz0 _
  have hval : ∀ (j : Nat) t v, Try.f8.params[j]? = some t → args[j]? = some v → Value.okWide Try.prog W .any base t v := hval0
  have hW' := hW
  obtain ⟨p, q, hA0, hV, rfl, hfz, hnd⟩ := hW
  have hA : DataW.TrodAll enc Try.prog W 0 (fun _ => true) true Try.f8.params.toList args.toList ds p := hA0
  rw [Try.params8] at hA hval
  obtain ⟨v0, vs0, d0, ds0, p0, q0, hargs, rfl, rfl, h0, r0⟩ := trodAll_cons hA
  obtain ⟨v1, vs1, d1, ds1, p1, q1, rfl, rfl, rfl, h1, r1⟩ := trodAll_cons r0
  obtain ⟨rfl, rfl, rfl⟩ := trodAll_nil r1
  obtain rfl : args = #[v0, v1] := by cases args; simp_all
  obtain ⟨rfl, rfl⟩ := trodVars_none hV
  have k0 := h0
  have lt0 : ∀ x ∈ p0, x.block < W.heap.size := by obtain ⟨m, hm⟩ := k0; exact DataW.trod_lt m _ _ _ hm
  obtain ⟨x0, g0, ok0⟩ := Opens.get oPlat h0
  obtain ⟨cs0, rfl, e0⟩ := agg_of Try.underlying38 (hval 0 38 v0 rfl rfl)
  rw [e0] at g0
  have k1 := h1
  have lt1 : ∀ x ∈ p1, x.block < W.heap.size := by obtain ⟨m, hm⟩ := k1; exact DataW.trod_lt m _ _ _ hm
  obtain ⟨x1, g1, ok1⟩ := Opens.get Law.oAsk h1
  obtain ⟨cs1, rfl, e1⟩ := agg_of Try.underlying40 (hval 1 40 v1 rfl rfl)
  rw [e1] at g1
  clear hA0 hval0 hsz0
  refine (Law.policies_calls (w := W) x0 cs0 g0 ok0 x1 cs1 g1 ok1).mono fun e W' ⟨he, bel⟩ => ?_
  subst he
  exact ⟨_, rfl, _, _, _, [], _, [], hW', trodAll_mk1 (shut_bool Try.underlying4 _), (trodAll_cons_mk (Below.trod laidOut (by kernel_rfl) (of_decide_eq_true (by kernel_rfl)) k0 bel lt0) (trodAll_cons_mk (Below.trod laidOut (by kernel_rfl) (of_decide_eq_true (by kernel_rfl)) k1 bel lt1) trodAll_mk0)), rfl, bel.frame _, fun h => by cases h⟩
theorem over : Rows.governPoliciesRow.holds Try.pinned (OpenSpec.ofChange Rows.governPoliciesSpec) :=
  OpenClaim.holds_of_wide 8 Try.f8 rfl rfl rfl rfl rfl rfl rfl ⟨rfl, rfl, rfl, rfl, rfl⟩ rfl rfl rfl rfl rfl (by kernel_rfl) Try.func8 (by kernel_rfl)
    (of_decide_eq_true (by kernel_rfl)) (by unfold Func.isWrapper; first | (rw [if_pos (by decide +kernel)]; kernel_rfl) | (rw [if_neg (by decide +kernel)]; exact ⟨rfl, rfl⟩))
    (fun os started H enc _ => lifted os started H enc)
theorem proved : Rows.GovernPoliciesSaid := over
end Go.Proofs.Ytijlfnjfjmhdiaa.governPolicies
namespace Go.Proofs.Ytijlfnjfjmhdiaa
/-- The row, under a short name, for the claim. -/
theorem governPolicies_holds : Rows.GovernPoliciesSaid := governPolicies.proved
end Go.Proofs.Ytijlfnjfjmhdiaa
