/- Part 3 of the law's texts: what its row hangs on. -/
import Derived.Test.YtchlbnlhjllcbaaZRel2
import Derived.Deep.QuietTactic
import Derived.BigQuiet
import Derived.Outline
namespace Go.Proofs.Ytchlbnlhjllcbaa.Sla
open Go.RowKit Go.Proofs.Ytchlbnlhjllcbaa.F Go.Proofs.Ytchlbnlhjllcbaa.Tbl Go.Proofs.Ytchlbnlhjllcbaa.Adm Go.Proofs.Ytchlbnlhjllcbaa.Opn Go.Proofs.YtchlbnlhjllcbaaW.PrintWords Go.Proofs.YtchlbnlhjllcbaaW.PrintLast Go.Proofs.YtchlbnlhjllcbaaW.PrintMore
set_option linter.unusedVariables false
attribute [local go_sem] max2_int min2_int max_two min_two max_three min_three max_four min_four
def JobOk (ts : List S36) (j : S38) : Prop := 0 ≤ j.f0 ∧ j.f0 < ts.length ∧ (rd_T36 ts j.f0).f0 ≠ 0 ∧ (0 ≤ j.f2 ∧ j.f2 ≤ 2097152) ∧ (0 ≤ j.f1 ∧ j.f1 ≤ 2097152) ∧ 0 ≤ j.f3 ∧ j.f3 ≤ 4096
structure GoodJ (l0 : List S58) (l1 : List S68) (l2 : List S71) (idle crit sw swE sems hor : Int) (ts : List S36) (nx : List Int) (js : List S38) (now a : Int) : Prop where
  base : GoodV l0 l1 l2 idle crit sw swE sems hor ts nx now a
  job : ∀ i : Nat, i < js.length → JobOk ts (rd_T38 js i)
  one : ∀ i k : Nat, i < js.length → k < i → (rd_T38 js k).f0 ≠ (rd_T38 js i).f0
open Classical in
noncomputable def goodJ (l0 : List S58) (l1 : List S68) (l2 : List S71) (idle crit sw swE sems hor : Int) (ts : List S36) (nx : List Int) (js : List S38) (now a : Int) : Bool := decide (GoodJ l0 l1 l2 idle crit sw swE sems hor ts nx js now a)
theorem goodJ_yes {l0 : List S58} {l1 : List S68} {l2 : List S71} {idle crit sw swE sems hor : Int} {ts : List S36} {nx : List Int} {js : List S38} {now a : Int} (h : GoodJ l0 l1 l2 idle crit sw swE sems hor ts nx js now a) : goodJ l0 l1 l2 idle crit sw swE sems hor ts nx js now a = true := by simp [goodJ, h]
theorem goodJ_no {l0 : List S58} {l1 : List S68} {l2 : List S71} {idle crit sw swE sems hor : Int} {ts : List S36} {nx : List Int} {js : List S38} {now a : Int} (h : ¬ GoodJ l0 l1 l2 idle crit sw swE sems hor ts nx js now a) : goodJ l0 l1 l2 idle crit sw swE sems hor ts nx js now a = false := by simp [goodJ, h]
theorem goodJ_of {l0 : List S58} {l1 : List S68} {l2 : List S71} {idle crit sw swE sems hor : Int} {ts : List S36} {nx : List Int} {js : List S38} {now a : Int} (h : goodJ l0 l1 l2 idle crit sw swE sems hor ts nx js now a = true) : GoodJ l0 l1 l2 idle crit sw swE sems hor ts nx js now a := Classical.byContradiction (fun hn => by rw [goodJ_no hn] at h; cases h)
theorem upto_succ {P : Nat → Prop} {i : Int} (h0 : 0 ≤ i) (h : ∀ j : Nat, (j : Int) < i → P j) (hi : P i.toNat) : ∀ j : Nat, (j : Int) < i + 1 → P j := fun j hj => by
  rcases Int.lt_or_le (j : Int) i with hh | hh
  · exact h j hh
  · obtain rfl : i.toNat = j := by omega
    exact hi
theorem mom_f {n : Int} {b : Bool} (h : decide (0 ≤ n ∧ n ≤ 2097152) = b) : dormouseref09_moment.f n = some b := by rw [moment_some, h]
set_option maxHeartbeats 6400000 in
set_option maxRecDepth 100000 in
theorem good_walk {w : World} (A0 : Option Addr) (c0 : Nat) (l0 : List S58) (A1 : Option Addr) (c1 : Nat) (l1 : List S68) (A2 : Option Addr) (c2 : Nat) (l2 : List S71) (idle crit sw swE sems hor : Int) (A3 : Option Addr) (c3 : Nat) (ts : List S36) (A4 : Option Addr) (c4 : Nat) (nx : List Int) (A5 : Option Addr) (c5 : Nat) (js : List S38) (now at_ : Int)
    (g0 : l0.length ≤ c0) (r0 : Kd.C k58 w A0 l0.length l0) (g1 : l1.length ≤ c1) (r1 : Kd.C k68 w A1 l1.length l1) (g2 : l2.length ≤ c2) (r2 : Kd.C k71 w A2 l2.length l2) (g3 : ts.length ≤ c3) (r3 : Kd.C k36 w A3 ts.length ts) (g4 : nx.length ≤ c4) (r4 : Kd.C (Kd.int .i64) w A4 nx.length nx) (g5 : js.length ≤ c5) (r5 : Kd.C k38 w A5 js.length js) :
    Calls Try.prog 9 #[.agg #[.slice A0 l0.length c0, .slice A1 l1.length c1, .slice A2 l2.length c2, .int .i64 idle, .int .i64 crit, .int .i64 sw, .int .i64 swE, .int .i64 sems, .int .i64 hor, .slice A3 ts.length c3, .slice A4 nx.length c4, .slice A5 js.length c5, .slice none 0 0, .int .i64 now, .int .i64 at_]] w fun e w' => e = .returned (.bool (goodJ l0 l1 l2 idle crit sw swE sems hor ts nx js now at_)) ∧ Below w.heap.size w w' := by
  have V := VM.start (idle := idle) (crit := crit) (sw := sw) (swE := swE) (sems := sems) (hor := hor) (jv := .slice A5 js.length c5) (hv := .slice none 0 0) (now := now) (at_ := at_) g0 r0 g1 r1 g2 r2 g3 r3 g4 r4
  have RJ := Aside0.mk r5
  have LJ : Aside0 (js.length ≤ 9223372036854775807) := ⟨r5.2.1⟩
  clear r0 r1 r2 r3 r4 r5 g0 g1 g2 g3 g4
  go_enter Try.func9, Try.ntmps9
  go_upto_region 1 with (fail)
  generalize w.alloc (.cells #[.slice A0 l0.length c0, .slice A1 l1.length c1, .slice A2 l2.length c2, .int .i64 idle, .int .i64 crit, .int .i64 sw, .int .i64 swE, .int .i64 sems, .int .i64 hor, .slice A3 ts.length c3, .slice A4 nx.length c4, .slice A5 js.length c5, .slice none 0 0, .int .i64 now, .int .i64 at_] 32 (0, 0)) = w0 at V ⊢
  obtain ⟨x0, x1, x2, x3, x4, x5, x6, x7, x8, x9, x10, x11, x12, x13, x14⟩ := V.x
  go_wp2_with fail
  clear x0 x1 x2 x3 x4 x5 x6 x7 x8 x9 x10 x11 x12 x13 x14
  by_cases ht : TableOk l0 l1 l2 idle crit sw swE sems hor
  case neg =>
    have HTB : Aside0 (dormouseref01_Table.f 0 l0 l1 l2 idle crit sw swE sems hor = some false) := ⟨(show _ = some false from by unfold dormouseref01_Table.f; rw [show tableB l0 l1 l2 idle crit sw swE sems hor = false from by simp [tableB, ht]])⟩
    refine (dormouseref01_Table.calls 0 A0 c0 l0 A1 c1 l1 A2 c2 l2 idle crit sw swE sems hor false _ V.R0 V.g0 V.R1 V.g1 V.R2 V.g2 HTB.out).mono ?_; rintro e w1 ⟨rfl, hb⟩
    replace V := V.step hb
    clear hb
    have ng : Aside0 (goodJ l0 l1 l2 idle crit sw swE sems hor ts nx js now at_ = false) := ⟨goodJ_no (fun g => ht g.base.table)⟩
    obtain ⟨x0, x1, x2, x3, x4, x5, x6, x7, x8, x9, x10, x11, x12, x13, x14⟩ := V.x
    go_wp2_with fail
    go_ret
    exact ⟨by rw [ng.out]; rfl, V.hb⟩
  case pos =>
    have HTB : Aside0 (dormouseref01_Table.f 0 l0 l1 l2 idle crit sw swE sems hor = some true) := ⟨(show _ = some true from by unfold dormouseref01_Table.f; rw [show tableB l0 l1 l2 idle crit sw swE sems hor = true from by simp [tableB, ht]])⟩
    refine (dormouseref01_Table.calls 0 A0 c0 l0 A1 c1 l1 A2 c2 l2 idle crit sw swE sems hor true _ V.R0 V.g0 V.R1 V.g1 V.R2 V.g2 HTB.out).mono ?_; rintro e w1 ⟨rfl, hb⟩
    replace V := V.step hb
    clear hb
    have HT := Aside0.mk ht
    clear ht HTB
    by_cases few : ts.length ≤ 64
    case neg =>
      have d1 : decide ((64 : Int) < (ts.length : Int)) = true := decide_eq_true (by omega)
      have ng : Aside0 (goodJ l0 l1 l2 idle crit sw swE sems hor ts nx js now at_ = false) := ⟨goodJ_no (fun g => few g.base.few)⟩
      obtain ⟨x0, x1, x2, x3, x4, x5, x6, x7, x8, x9, x10, x11, x12, x13, x14⟩ := V.x
      go_wp2_with fail
      go_ret
      exact ⟨by rw [ng.out]; rfl, V.hb⟩
    case pos =>
      have d1 : decide ((64 : Int) < (ts.length : Int)) = false := decide_eq_false (by omega)
      by_cases hl : nx.length = ts.length
      case neg =>
        have d2 : ((nx.length : Int) != (ts.length : Int)) = true := by rw [bne_iff_ne]; omega
        have HL := Aside0.mk hl
        clear hl
        have ng : Aside0 (goodJ l0 l1 l2 idle crit sw swE sems hor ts nx js now at_ = false) := ⟨goodJ_no (fun g => HL.out g.base.len)⟩
        obtain ⟨x0, x1, x2, x3, x4, x5, x6, x7, x8, x9, x10, x11, x12, x13, x14⟩ := V.x
        go_wp2_with fail
        go_ret
        exact ⟨by rw [ng.out]; rfl, V.hb⟩
      case pos =>
        have d2 : ((nx.length : Int) != (ts.length : Int)) = false := by rw [bne_eq_false_iff_eq]; omega
        have HL := Aside0.mk hl
        clear hl
        obtain ⟨x0, x1, x2, x3, x4, x5, x6, x7, x8, x9, x10, x11, x12, x13, x14⟩ := V.x
        go_wp2_with fail
        try go_wp2_with fail
        clear x0 x1 x2 x3 x4 x5 x6 x7 x8 x9 x10 x11 x12 x13 x14
        by_cases hn0 : 0 ≤ now ∧ now ≤ 2097152
        case neg =>
          have M := Aside0.mk (mom_f (n := now) (b := false) (decide_eq_false hn0))
          have HN := Aside0.mk hn0
          clear hn0
          refine (dormouseref09_moment.calls now false _ M.out).mono ?_; rintro e w2 ⟨rfl, hb⟩
          replace hb := below_of_drawn hb
          replace V := V.step hb
          clear hb
          have ng : Aside0 (goodJ l0 l1 l2 idle crit sw swE sems hor ts nx js now at_ = false) := ⟨goodJ_no (fun g => HN.out g.base.now)⟩
          obtain ⟨x0, x1, x2, x3, x4, x5, x6, x7, x8, x9, x10, x11, x12, x13, x14⟩ := V.x
          go_wp2_with fail
          go_ret
          exact ⟨by rw [ng.out]; rfl, V.hb⟩
        case pos =>
          have M := Aside0.mk (mom_f (n := now) (b := true) (decide_eq_true hn0))
          refine (dormouseref09_moment.calls now true _ M.out).mono ?_; rintro e w2 ⟨rfl, hb⟩
          replace hb := below_of_drawn hb
          replace V := V.step hb
          clear hb
          clear M
          obtain ⟨x0, x1, x2, x3, x4, x5, x6, x7, x8, x9, x10, x11, x12, x13, x14⟩ := V.x
          go_wp2_with fail
          try go_wp2_with fail
          clear x0 x1 x2 x3 x4 x5 x6 x7 x8 x9 x10 x11 x12 x13 x14
          by_cases hn1 : 0 ≤ at_ ∧ at_ ≤ 2097152
          case neg =>
            have M := Aside0.mk (mom_f (n := at_) (b := false) (decide_eq_false hn1))
            have HN := Aside0.mk hn1
            clear hn1
            refine (dormouseref09_moment.calls at_ false _ M.out).mono ?_; rintro e w3 ⟨rfl, hb⟩
            replace hb := below_of_drawn hb
            replace V := V.step hb
            clear hb
            have ng : Aside0 (goodJ l0 l1 l2 idle crit sw swE sems hor ts nx js now at_ = false) := ⟨goodJ_no (fun g => HN.out g.base.at_)⟩
            obtain ⟨x0, x1, x2, x3, x4, x5, x6, x7, x8, x9, x10, x11, x12, x13, x14⟩ := V.x
            go_wp2_with fail
            go_ret
            exact ⟨by rw [ng.out]; rfl, V.hb⟩
          case pos =>
            have M := Aside0.mk (mom_f (n := at_) (b := true) (decide_eq_true hn1))
            refine (dormouseref09_moment.calls at_ true _ M.out).mono ?_; rintro e w3 ⟨rfl, hb⟩
            replace hb := below_of_drawn hb
            replace V := V.step hb
            clear hb
            clear M
            obtain ⟨x0, x1, x2, x3, x4, x5, x6, x7, x8, x9, x10, x11, x12, x13, x14⟩ := V.x
            go_wp2_with fail
            try go_wp2_with fail
            clear x0 x1 x2 x3 x4 x5 x6 x7 x8 x9 x10 x11 x12 x13 x14
            clear d1 d2
            go_loopw [3] (fun v3 wr => ∃ i : Int, v3 = .int .i64 i ∧ 0 ≤ i ∧ i ≤ ts.length ∧ Aside0 (∀ j : Nat, (j : Int) < i → (NoneT (rd_T36 ts j) ∨ TaskOk l2.length sems hor (rd_T36 ts j)) ∧ (0 ≤ rd nx j ∧ rd nx j ≤ 2097152)) ∧ VM w wr A0 c0 l0 A1 c1 l1 A2 c2 l2 A3 c3 ts A4 c4 nx idle crit sw swE sems hor (.slice A5 js.length c5) (.slice none 0 0) now at_) (fun v3 _ => ts.length - (intOf v3).toNat)
            case atStart => exact ⟨0, by first | rfl | simp, by omega, by omega, ⟨fun j h => by omega⟩, V⟩
            case round =>
              clear V
              obtain ⟨i, rfl, hi0, hi1, HJ, V⟩ := hrel
              by_cases hlt : i < (ts.length : Int)
              case pos =>
                have dl : decide (i < (ts.length : Int)) = true := decide_eq_true hlt
                obtain ⟨ad, B2, d2, B3, d3, ea, y0, y1, y2, y3, hl2, hi2, hl3, hi3⟩ := at_T36 V.R3 i hi0 hlt
                cases ea
                have HR5 := Aside0.mk hi2
                have HR6 := Aside0.mk hi3
                have HC5 := Aside0.mk hl2
                have HC6 := Aside0.mk hl3
                clear hi2 hi3 hl2 hl3
                obtain ⟨t, ht_⟩ : ∃ t, rd_T36 ts i = t := ⟨_, rfl⟩
                have TT := Aside0.mk ht_
                rw [ht_] at y0 y1 y2 y3 HR5 HR6 HC5 HC6
                clear ht_
                have p_ := eq_true hi0
                have q_ := eq_true hlt
                obtain ⟨x0, x1, x2, x3, x4, x5, x6, x7, x8, x9, x10, x11, x12, x13, x14⟩ := V.x
                have hz := blk_lt V.bv
                go_upto_region 7 with (fail)
                clear x0 x1 x2 x3 x4 x5 x6 x7 x8 x9 x10 x11 x12 x13 x14
                clear y0 y1 y2 y3
                have BT := Aside0.mk (heap_alloc_new wr (.cells #[.int .i64 t.f0, .int .i64 t.f1, .slice B2 t.f2.length d2, .slice B3 t.f3.length d3] 36 (0, 0)))
                have hbt : Below wr.heap.size wr (wr.alloc (.cells #[.int .i64 t.f0, .int .i64 t.f1, .slice B2 t.f2.length d2, .slice B3 t.f3.length d3] 36 (0, 0))) := (Below.refl _ _).alloc (Nat.le_refl _) _
                replace V := V.step hbt
                have GB : Aside0 (w.heap.size < wr.heap.size) := ⟨hz⟩
                replace HR5 := Aside0.mk (Kd.C_below HR5.out hbt)
                replace HR6 := Aside0.mk (Kd.C_below HR6.out hbt)
                clear hbt hz
                generalize wr.alloc (.cells #[.int .i64 t.f0, .int .i64 t.f1, .slice B2 t.f2.length d2, .slice B3 t.f3.length d3] 36 (0, 0)) = wq at V BT HR5 HR6 ⊢
                generalize wr.heap.size = gb at BT GB ⊢
                go_cut [5] (fun v5 wc => v5 = .bool (decide (NoneT t)) ∧ wc = wq)
                case first =>
                  obtain ⟨z0, z1, z2, z3⟩ : wq.cell? ⟨gb, 0, none⟩ = some (.int .i64 t.f0) ∧ wq.cell? ⟨gb, 1, none⟩ = some (.int .i64 t.f1) ∧ wq.cell? ⟨gb, 2, none⟩ = some (.slice B2 t.f2.length d2) ∧ wq.cell? ⟨gb, 3, none⟩ = some (.slice B3 t.f3.length d3) := ⟨(blk_cell BT.out 0).trans rfl, (blk_cell BT.out 1).trans rfl, (blk_cell BT.out 2).trans rfl, (blk_cell BT.out 3).trans rfl⟩
                  by_cases n0 : t.f0 = 0
                  case neg =>
                    have b0 : (t.f0 == 0) = false := by rw [beq_eq_false_iff_ne]; omega
                    have NN : Aside0 (decide (NoneT t) = false) := ⟨decide_eq_false (fun h => n0 h.1)⟩
                    clear n0
                    go_wp2_with fail
                    go_meet
                    case rel => exact ⟨by rw [NN.out], rfl⟩
                  case pos =>
                    have b0 : (t.f0 == 0) = true := by rw [beq_iff_eq]; omega
                    have N0 := Aside0.mk n0
                    clear n0
                    by_cases n1 : t.f1 = 0
                    case neg =>
                      have b1 : (t.f1 == 0) = false := by rw [beq_eq_false_iff_ne]; omega
                      have NN : Aside0 (decide (NoneT t) = false) := ⟨decide_eq_false (fun h => n1 h.2.1)⟩
                      clear n1
                      go_wp2_with fail
                      go_meet
                      case rel => exact ⟨by rw [NN.out], rfl⟩
                    case pos =>
                      have b1 : (t.f1 == 0) = true := by rw [beq_iff_eq]; omega
                      have N1 := Aside0.mk n1
                      clear n1
                      by_cases n2 : t.f2.length = 0
                      case neg =>
                        have b2 : ((t.f2.length : Int) == 0) = false := by rw [beq_eq_false_iff_ne]; omega
                        have NN : Aside0 (decide (NoneT t) = false) := ⟨decide_eq_false (fun h => n2 h.2.2.1)⟩
                        clear n2
                        go_wp2_with fail
                        go_meet
                        case rel => exact ⟨by rw [NN.out], rfl⟩
                      case pos =>
                        have b2 : ((t.f2.length : Int) == 0) = true := by rw [beq_iff_eq]; omega
                        have N2 := Aside0.mk n2
                        clear n2
                        by_cases n3 : t.f3.length = 0
                        case neg =>
                          have b3 : ((t.f3.length : Int) == 0) = false := by rw [beq_eq_false_iff_ne]; omega
                          have NN : Aside0 (decide (NoneT t) = false) := ⟨decide_eq_false (fun h => n3 h.2.2.2)⟩
                          clear n3
                          go_wp2_with fail
                          go_meet
                          case rel => exact ⟨by rw [NN.out], rfl⟩
                        case pos =>
                          have b3 : ((t.f3.length : Int) == 0) = true := by rw [beq_iff_eq]; omega
                          have N3 := Aside0.mk n3
                          clear n3
                          have NN : Aside0 (decide (NoneT t) = true) := ⟨decide_eq_true ⟨N0.out, N1.out, N2.out, N3.out⟩⟩
                          go_wp2_with fail
                          go_meet
                          case rel => exact ⟨by rw [NN.out], rfl⟩
                case rest =>
                  obtain ⟨rfl, rfl⟩ := hcut
                  obtain ⟨an, en, w0n⟩ := Kd.at_int V.R4 i hi0 (by rw [HL.out]; exact hlt)
                  cases en
                  have q2_ : (i < (nx.length : Int)) = True := eq_true (by rw [HL.out]; exact hlt)
                  have XN := Aside0.mk w0n
                  clear w0n
                  have hnx : Aside0 (goodJ l0 l1 l2 idle crit sw swE sems hor ts nx js now at_ = true → (NoneT t ∨ TaskOk l2.length sems hor t) ∧ (0 ≤ rd nx i ∧ rd nx i ≤ 2097152)) := ⟨fun h => by have g := goodJ_of h; have g1 := g.base.task i.toNat (by omega); have g2 := g.base.next i.toNat (by omega); rw [Int.toNat_of_nonneg hi0] at g1 g2; rw [TT.out] at g1; exact ⟨g1, g2⟩⟩
                  by_cases hn : NoneT t
                  case pos =>
                    have NT := Aside0.mk hn
                    clear hn
                    simp only [decide_eq_true NT.out]
                    obtain ⟨x0, x1, x2, x3, x4, x5, x6, x7, x8, x9, x10, x11, x12, x13, x14⟩ := V.x
                    have xn := XN.out
                    go_wp2_with fail
                    try go_wp2_with fail
                    clear x0 x1 x2 x3 x4 x5 x6 x7 x8 x9 x10 x11 x12 x13 x14
                    clear xn
                    by_cases hm : 0 ≤ rd nx i ∧ rd nx i ≤ 2097152
                    case neg =>
                      have M := Aside0.mk (mom_f (n := rd nx i) (b := false) (decide_eq_false hm))
                      have HM := Aside0.mk hm
                      clear hm
                      refine (dormouseref09_moment.calls (rd nx i) false _ M.out).mono ?_; rintro e w8 ⟨rfl, hb⟩
                      replace hb := below_of_drawn hb
                      replace V := V.step hb
                      clear hb
                      have ng : Aside0 (goodJ l0 l1 l2 idle crit sw swE sems hor ts nx js now at_ = false) := ⟨by cases hc : goodJ l0 l1 l2 idle crit sw swE sems hor ts nx js now at_ with | false => rfl | true => exact absurd (hnx.out hc).2 HM.out⟩
                      obtain ⟨x0, x1, x2, x3, x4, x5, x6, x7, x8, x9, x10, x11, x12, x13, x14⟩ := V.x
                      go_wp2_with fail
                      go_ret
                      exact ⟨by rw [ng.out]; rfl, V.hb⟩
                    case pos =>
                      have M := Aside0.mk (mom_f (n := rd nx i) (b := true) (decide_eq_true hm))
                      refine (dormouseref09_moment.calls (rd nx i) true _ M.out).mono ?_; rintro e w8 ⟨rfl, hb⟩
                      replace hb := below_of_drawn hb
                      replace V := V.step hb
                      clear hb
                      have HM := Aside0.mk hm
                      clear hm M
                      obtain ⟨x0, x1, x2, x3, x4, x5, x6, x7, x8, x9, x10, x11, x12, x13, x14⟩ := V.x
                      go_wp2_with fail
                      clear x0 x1 x2 x3 x4 x5 x6 x7 x8 x9 x10 x11 x12 x13 x14
                      go_roundw
                      case rel => exact ⟨i + 1, by first | rfl | simp, by omega, by omega, ⟨upto_succ (P := fun j : Nat => (NoneT (rd_T36 ts j) ∨ TaskOk l2.length sems hor (rd_T36 ts j)) ∧ (0 ≤ rd nx j ∧ rd nx j ≤ 2097152)) hi0 HJ.out (by rw [Int.toNat_of_nonneg hi0, TT.out]; exact ⟨Or.inl NT.out, HM.out⟩)⟩, V⟩
                      case measure => simp [intOf]; omega
                  case neg =>
                    have NT := Aside0.mk hn
                    clear hn
                    simp only [decide_eq_false NT.out]
                    obtain ⟨z0, z1, z2, z3⟩ : _ ∧ _ ∧ _ ∧ _ := ⟨(blk_cell BT.out 0).trans rfl, (blk_cell BT.out 1).trans rfl, (blk_cell BT.out 2).trans rfl, (blk_cell BT.out 3).trans rfl⟩
                    obtain ⟨x0, x1, x2, x3, x4, x5, x6, x7, x8, x9, x10, x11, x12, x13, x14⟩ := V.x
                    have xn := XN.out
                    go_wp2_with fail
                    try go_wp2_with fail
                    clear x0 x1 x2 x3 x4 x5 x6 x7 x8 x9 x10 x11 x12 x13 x14
                    clear xn z0 z1 z2 z3
                    have hd := Aside0.mk (head_of HT.out)
                    have HTK : Aside0 (dormouseref09_Task.f 1101 l0 l1 l2 idle crit sw swE sems hor t.f0 t.f1 t.f2 t.f3 = some (taskB l2.length sems hor t)) := ⟨task_some t (by have := HT.out.head; unfold Head at this; omega) (by have := HT.out.head; unfold Head at this; omega) (by decide)⟩
                    by_cases htk : TaskOk l2.length sems hor t
                    case neg =>
                      rw [taskB_no htk] at HTK
                      have TN := Aside0.mk htk
                      clear htk
                      refine (dormouseref09_Task.calls 1101 A0 c0 l0 A1 c1 l1 A2 c2 l2 idle crit sw swE sems hor t.f0 t.f1 B2 d2 t.f2 B3 d3 t.f3 false _ V.R0 V.g0 V.R1 V.g1 V.R2 V.g2 HR5.out HC5.out HR6.out HC6.out HTK.out).mono ?_; rintro e w7 ⟨rfl, hb⟩
                      replace V := V.step hb
                      clear hb
                      have ng : Aside0 (goodJ l0 l1 l2 idle crit sw swE sems hor ts nx js now at_ = false) := ⟨by cases hc : goodJ l0 l1 l2 idle crit sw swE sems hor ts nx js now at_ with | false => rfl | true => exact absurd (hnx.out hc).1 (fun h => h.elim NT.out TN.out)⟩
                      obtain ⟨x0, x1, x2, x3, x4, x5, x6, x7, x8, x9, x10, x11, x12, x13, x14⟩ := V.x
                      go_wp2_with fail
                      go_ret
                      exact ⟨by rw [ng.out]; rfl, V.hb⟩
                    case pos =>
                      rw [taskB_yes htk] at HTK
                      have TN := Aside0.mk htk
                      clear htk
                      refine (dormouseref09_Task.calls 1101 A0 c0 l0 A1 c1 l1 A2 c2 l2 idle crit sw swE sems hor t.f0 t.f1 B2 d2 t.f2 B3 d3 t.f3 true _ V.R0 V.g0 V.R1 V.g1 V.R2 V.g2 HR5.out HC5.out HR6.out HC6.out HTK.out).mono ?_; rintro e w7 ⟨rfl, hb⟩
                      replace V := V.step hb
                      replace XN := Aside0.mk (pw_cell_below hb XN.out)
                      clear hb
                      obtain ⟨x0, x1, x2, x3, x4, x5, x6, x7, x8, x9, x10, x11, x12, x13, x14⟩ := V.x
                      have xn := XN.out
                      go_wp2_with fail
                      try go_wp2_with fail
                      clear x0 x1 x2 x3 x4 x5 x6 x7 x8 x9 x10 x11 x12 x13 x14
                      clear xn
                      by_cases hm : 0 ≤ rd nx i ∧ rd nx i ≤ 2097152
                      case neg =>
                        have M := Aside0.mk (mom_f (n := rd nx i) (b := false) (decide_eq_false hm))
                        have HM := Aside0.mk hm
                        clear hm
                        refine (dormouseref09_moment.calls (rd nx i) false _ M.out).mono ?_; rintro e w8 ⟨rfl, hb⟩
                        replace hb := below_of_drawn hb
                        replace V := V.step hb
                        clear hb
                        have ng : Aside0 (goodJ l0 l1 l2 idle crit sw swE sems hor ts nx js now at_ = false) := ⟨by cases hc : goodJ l0 l1 l2 idle crit sw swE sems hor ts nx js now at_ with | false => rfl | true => exact absurd (hnx.out hc).2 HM.out⟩
                        obtain ⟨x0, x1, x2, x3, x4, x5, x6, x7, x8, x9, x10, x11, x12, x13, x14⟩ := V.x
                        go_wp2_with fail
                        go_ret
                        exact ⟨by rw [ng.out]; rfl, V.hb⟩
                      case pos =>
                        have M := Aside0.mk (mom_f (n := rd nx i) (b := true) (decide_eq_true hm))
                        refine (dormouseref09_moment.calls (rd nx i) true _ M.out).mono ?_; rintro e w8 ⟨rfl, hb⟩
                        replace hb := below_of_drawn hb
                        replace V := V.step hb
                        clear hb
                        have HM := Aside0.mk hm
                        clear hm M
                        obtain ⟨x0, x1, x2, x3, x4, x5, x6, x7, x8, x9, x10, x11, x12, x13, x14⟩ := V.x
                        go_wp2_with fail
                        clear x0 x1 x2 x3 x4 x5 x6 x7 x8 x9 x10 x11 x12 x13 x14
                        go_roundw
                        case rel => exact ⟨i + 1, by first | rfl | simp, by omega, by omega, ⟨upto_succ (P := fun j : Nat => (NoneT (rd_T36 ts j) ∨ TaskOk l2.length sems hor (rd_T36 ts j)) ∧ (0 ≤ rd nx j ∧ rd nx j ≤ 2097152)) hi0 HJ.out (by rw [Int.toNat_of_nonneg hi0, TT.out]; exact ⟨Or.inr TN.out, HM.out⟩)⟩, V⟩
                        case measure => simp [intOf]; omega
              case neg =>
                have dl : decide (i < (ts.length : Int)) = false := decide_eq_false hlt
                have GV : Aside0 (GoodV l0 l1 l2 idle crit sw swE sems hor ts nx now at_) := ⟨⟨HT.out, few, HL.out, hn0, hn1, fun j h => (HJ.out j (by omega)).1, fun j h => (HJ.out j (by omega)).2⟩⟩
                clear HJ hi0 hi1 hlt
                obtain ⟨x0, x1, x2, x3, x4, x5, x6, x7, x8, x9, x10, x11, x12, x13, x14⟩ := V.x
                go_wp2_with fail
                try go_wp2_with fail
                clear x0 x1 x2 x3 x4 x5 x6 x7 x8 x9 x10 x11 x12 x13 x14
                clear dl
                go_loopw [6] (fun v6 wr => ∃ i : Int, v6 = .int .i64 i ∧ 0 ≤ i ∧ i ≤ js.length ∧ Aside0 (∀ j : Nat, (j : Int) < i → JobOk ts (rd_T38 js j) ∧ ∀ k : Nat, k < j → (rd_T38 js k).f0 ≠ (rd_T38 js j).f0) ∧ VM w wr A0 c0 l0 A1 c1 l1 A2 c2 l2 A3 c3 ts A4 c4 nx idle crit sw swE sems hor (.slice A5 js.length c5) (.slice none 0 0) now at_) (fun v6 _ => js.length - (intOf v6).toNat)
                case atStart => exact ⟨0, by first | rfl | simp, by omega, by omega, ⟨fun j h => by omega⟩, V⟩
                case round =>
                  clear V
                  obtain ⟨i, rfl, hi0, hi1, HJ, V⟩ := hrel
                  have ljs := LJ.out
                  by_cases hlt : i < (js.length : Int)
                  case pos =>
                    have dl : decide (i < (js.length : Int)) = true := decide_eq_true hlt
                    obtain ⟨aj, ea, y0, y1, y2, y3, y4, y5⟩ := at_T38 (Kd.C_below RJ.out V.hb) i hi0 hlt
                    cases ea
                    obtain ⟨t, ht_⟩ : ∃ t, rd_T38 js i = t := ⟨_, rfl⟩
                    have TT := Aside0.mk ht_
                    rw [ht_] at y0 y1 y2 y3 y4 y5
                    clear ht_
                    have p_ := eq_true hi0
                    have q_ := eq_true hlt
                    obtain ⟨x0, x1, x2, x3, x4, x5, x6, x7, x8, x9, x10, x11, x12, x13, x14⟩ := V.x
                    have hz := blk_lt V.bv
                    go_upto_region 14 with (fail)
                    clear x0 x1 x2 x3 x4 x5 x6 x7 x8 x9 x10 x11 x12 x13 x14
                    clear y0 y1 y2 y3 y4 y5
                    have BT := Aside0.mk (heap_alloc_new wr (.cells #[.int .i64 t.f0, .int .i64 t.f1, .int .i64 t.f2, .int .i64 t.f3, .int .i64 t.f4, .bool t.f5] 38 (0, 0)))
                    have hbt : Below wr.heap.size wr (wr.alloc (.cells #[.int .i64 t.f0, .int .i64 t.f1, .int .i64 t.f2, .int .i64 t.f3, .int .i64 t.f4, .bool t.f5] 38 (0, 0))) := (Below.refl _ _).alloc (Nat.le_refl _) _
                    replace V := V.step hbt
                    have GB : Aside0 (w.heap.size < wr.heap.size) := ⟨hz⟩
                    clear hbt hz
                    generalize wr.alloc (.cells #[.int .i64 t.f0, .int .i64 t.f1, .int .i64 t.f2, .int .i64 t.f3, .int .i64 t.f4, .bool t.f5] 38 (0, 0)) = wq at V BT ⊢
                    generalize wr.heap.size = gb at BT GB ⊢
                    have hnx : Aside0 (goodJ l0 l1 l2 idle crit sw swE sems hor ts nx js now at_ = true → JobOk ts t ∧ ∀ k : Nat, (k : Int) < i → (rd_T38 js k).f0 ≠ t.f0) := ⟨fun h => by have g := goodJ_of h; have g1 := g.job i.toNat (by omega); have g2 := fun k => g.one i.toNat k (by omega); rw [Int.toNat_of_nonneg hi0, TT.out] at g1; exact ⟨g1, fun k hk => by have := g2 k (by omega); rwa [Int.toNat_of_nonneg hi0, TT.out] at this⟩⟩
                    by_cases c0 : t.f0 < 0
                    case pos =>
                      have ng : Aside0 (goodJ l0 l1 l2 idle crit sw swE sems hor ts nx js now at_ = false) := ⟨by cases hc : goodJ l0 l1 l2 idle crit sw swE sems hor ts nx js now at_ with | false => rfl | true => exact absurd (hnx.out hc).1 (fun h => by obtain ⟨k0, k1, k2, k3, k4, k5, k6⟩ := h; omega)⟩
                      have d0 : decide (t.f0 < 0) = true := decide_eq_true c0
                      have C0 := Aside0.mk c0
                      clear c0
                      obtain ⟨x0, x1, x2, x3, x4, x5, x6, x7, x8, x9, x10, x11, x12, x13, x14⟩ := V.x
                      obtain ⟨z0, z1, z2, z3⟩ : _ ∧ _ ∧ _ ∧ _ := ⟨(blk_cell BT.out 0).trans rfl, (blk_cell BT.out 1).trans rfl, (blk_cell BT.out 2).trans rfl, (blk_cell BT.out 3).trans rfl⟩
                      go_wp2_with fail
                      go_ret
                      exact ⟨by rw [ng.out]; rfl, V.hb⟩
                    case neg =>
                      have d0 : decide (t.f0 < 0) = false := decide_eq_false c0
                      by_cases c1 : (ts.length : Int) ≤ t.f0
                      case pos =>
                        have ng : Aside0 (goodJ l0 l1 l2 idle crit sw swE sems hor ts nx js now at_ = false) := ⟨by cases hc : goodJ l0 l1 l2 idle crit sw swE sems hor ts nx js now at_ with | false => rfl | true => exact absurd (hnx.out hc).1 (fun h => by obtain ⟨k0, k1, k2, k3, k4, k5, k6⟩ := h; omega)⟩
                        have d1 : decide ((ts.length : Int) ≤ t.f0) = true := decide_eq_true c1
                        obtain ⟨x0, x1, x2, x3, x4, x5, x6, x7, x8, x9, x10, x11, x12, x13, x14⟩ := V.x
                        obtain ⟨z0, z1, z2, z3⟩ : _ ∧ _ ∧ _ ∧ _ := ⟨(blk_cell BT.out 0).trans rfl, (blk_cell BT.out 1).trans rfl, (blk_cell BT.out 2).trans rfl, (blk_cell BT.out 3).trans rfl⟩
                        go_wp2_with fail
                        go_ret
                        exact ⟨by rw [ng.out]; rfl, V.hb⟩
                      case neg =>
                        have d1 : decide ((ts.length : Int) ≤ t.f0) = false := decide_eq_false c1
                        obtain ⟨at3, B2, e2, B3, e3, ea3, u0, _, _, _, _, _, _, _⟩ := at_T36 V.R3 t.f0 (by omega) (by omega)
                        cases ea3
                        have p2_ : (0 ≤ t.f0) = True := eq_true (by omega)
                        have q2_ : (t.f0 < (ts.length : Int)) = True := eq_true (by omega)
                        by_cases c2 : (rd_T36 ts t.f0).f0 = 0
                        case pos =>
                          have ng : Aside0 (goodJ l0 l1 l2 idle crit sw swE sems hor ts nx js now at_ = false) := ⟨by cases hc : goodJ l0 l1 l2 idle crit sw swE sems hor ts nx js now at_ with | false => rfl | true => exact absurd (hnx.out hc).1 (fun h => by obtain ⟨k0, k1, k2, k3, k4, k5, k6⟩ := h; exact k2 c2)⟩
                          have d2 : ((rd_T36 ts t.f0).f0 == 0) = true := by rw [beq_iff_eq]; exact c2
                          clear c2
                          obtain ⟨x0, x1, x2, x3, x4, x5, x6, x7, x8, x9, x10, x11, x12, x13, x14⟩ := V.x
                          obtain ⟨z0, z1, z2, z3⟩ : _ ∧ _ ∧ _ ∧ _ := ⟨(blk_cell BT.out 0).trans rfl, (blk_cell BT.out 1).trans rfl, (blk_cell BT.out 2).trans rfl, (blk_cell BT.out 3).trans rfl⟩
                          go_wp2_with fail
                          go_ret
                          exact ⟨by rw [ng.out]; rfl, V.hb⟩
                        case neg =>
                          have d2 : ((rd_T36 ts t.f0).f0 == 0) = false := by rw [beq_eq_false_iff_ne]; exact c2
                          have C2 := Aside0.mk c2
                          clear c2
                          obtain ⟨x0, x1, x2, x3, x4, x5, x6, x7, x8, x9, x10, x11, x12, x13, x14⟩ := V.x
                          obtain ⟨z0, z1, z2, z3⟩ : _ ∧ _ ∧ _ ∧ _ := ⟨(blk_cell BT.out 0).trans rfl, (blk_cell BT.out 1).trans rfl, (blk_cell BT.out 2).trans rfl, (blk_cell BT.out 3).trans rfl⟩
                          go_wp2_with fail
                          try go_wp2_with fail
                          clear x0 x1 x2 x3 x4 x5 x6 x7 x8 x9 x10 x11 x12 x13 x14
                          clear z0 z1 z2 z3 u0
                          by_cases c3 : 0 ≤ t.f2 ∧ t.f2 ≤ 2097152
                          case neg =>
                            have ng : Aside0 (goodJ l0 l1 l2 idle crit sw swE sems hor ts nx js now at_ = false) := ⟨by cases hc : goodJ l0 l1 l2 idle crit sw swE sems hor ts nx js now at_ with | false => rfl | true => exact absurd (hnx.out hc).1 (fun h => by obtain ⟨k0, k1, k2, k3, k4, k5, k6⟩ := h; exact c3 k3)⟩
                            have M := Aside0.mk (mom_f (n := t.f2) (b := false) (decide_eq_false c3))
                            clear c3
                            refine (dormouseref09_moment.calls t.f2 false _ M.out).mono ?_; rintro e w10 ⟨rfl, hb⟩
                            replace hb := below_of_drawn hb
                            replace V := V.step hb
                            replace BT := Aside0.mk (blk_below BT.out hb)
                            clear hb
                            obtain ⟨x0, x1, x2, x3, x4, x5, x6, x7, x8, x9, x10, x11, x12, x13, x14⟩ := V.x
                            obtain ⟨z0, z1, z2, z3⟩ : _ ∧ _ ∧ _ ∧ _ := ⟨(blk_cell BT.out 0).trans rfl, (blk_cell BT.out 1).trans rfl, (blk_cell BT.out 2).trans rfl, (blk_cell BT.out 3).trans rfl⟩
                            go_wp2_with fail
                            go_ret
                            exact ⟨by rw [ng.out]; rfl, V.hb⟩
                          case pos =>
                            have M := Aside0.mk (mom_f (n := t.f2) (b := true) (decide_eq_true c3))
                            refine (dormouseref09_moment.calls t.f2 true _ M.out).mono ?_; rintro e w10 ⟨rfl, hb⟩
                            replace hb := below_of_drawn hb
                            replace V := V.step hb
                            replace BT := Aside0.mk (blk_below BT.out hb)
                            clear hb
                            have C3 := Aside0.mk c3
                            clear c3 M
                            obtain ⟨x0, x1, x2, x3, x4, x5, x6, x7, x8, x9, x10, x11, x12, x13, x14⟩ := V.x
                            obtain ⟨z0, z1, z2, z3⟩ : _ ∧ _ ∧ _ ∧ _ := ⟨(blk_cell BT.out 0).trans rfl, (blk_cell BT.out 1).trans rfl, (blk_cell BT.out 2).trans rfl, (blk_cell BT.out 3).trans rfl⟩
                            go_wp2_with fail
                            try go_wp2_with fail
                            clear x0 x1 x2 x3 x4 x5 x6 x7 x8 x9 x10 x11 x12 x13 x14
                            clear z0 z1 z2 z3
                            by_cases c4 : 0 ≤ t.f1 ∧ t.f1 ≤ 2097152
                            case neg =>
                              have ng : Aside0 (goodJ l0 l1 l2 idle crit sw swE sems hor ts nx js now at_ = false) := ⟨by cases hc : goodJ l0 l1 l2 idle crit sw swE sems hor ts nx js now at_ with | false => rfl | true => exact absurd (hnx.out hc).1 (fun h => by obtain ⟨k0, k1, k2, k3, k4, k5, k6⟩ := h; exact c4 k4)⟩
                              have M := Aside0.mk (mom_f (n := t.f1) (b := false) (decide_eq_false c4))
                              clear c4
                              refine (dormouseref09_moment.calls t.f1 false _ M.out).mono ?_; rintro e w11 ⟨rfl, hb⟩
                              replace hb := below_of_drawn hb
                              replace V := V.step hb
                              replace BT := Aside0.mk (blk_below BT.out hb)
                              clear hb
                              obtain ⟨x0, x1, x2, x3, x4, x5, x6, x7, x8, x9, x10, x11, x12, x13, x14⟩ := V.x
                              obtain ⟨z0, z1, z2, z3⟩ : _ ∧ _ ∧ _ ∧ _ := ⟨(blk_cell BT.out 0).trans rfl, (blk_cell BT.out 1).trans rfl, (blk_cell BT.out 2).trans rfl, (blk_cell BT.out 3).trans rfl⟩
                              go_wp2_with fail
                              go_ret
                              exact ⟨by rw [ng.out]; rfl, V.hb⟩
                            case pos =>
                              have M := Aside0.mk (mom_f (n := t.f1) (b := true) (decide_eq_true c4))
                              refine (dormouseref09_moment.calls t.f1 true _ M.out).mono ?_; rintro e w11 ⟨rfl, hb⟩
                              replace hb := below_of_drawn hb
                              replace V := V.step hb
                              replace BT := Aside0.mk (blk_below BT.out hb)
                              clear hb
                              have C4 := Aside0.mk c4
                              clear c4 M
                              by_cases c5 : t.f3 < 0
                              case pos =>
                                have ng : Aside0 (goodJ l0 l1 l2 idle crit sw swE sems hor ts nx js now at_ = false) := ⟨by cases hc : goodJ l0 l1 l2 idle crit sw swE sems hor ts nx js now at_ with | false => rfl | true => exact absurd (hnx.out hc).1 (fun h => by obtain ⟨k0, k1, k2, k3, k4, k5, k6⟩ := h; omega)⟩
                                have d5 : decide (t.f3 < 0) = true := decide_eq_true c5
                                obtain ⟨x0, x1, x2, x3, x4, x5, x6, x7, x8, x9, x10, x11, x12, x13, x14⟩ := V.x
                                obtain ⟨z0, z1, z2, z3⟩ : _ ∧ _ ∧ _ ∧ _ := ⟨(blk_cell BT.out 0).trans rfl, (blk_cell BT.out 1).trans rfl, (blk_cell BT.out 2).trans rfl, (blk_cell BT.out 3).trans rfl⟩
                                go_wp2_with fail
                                go_ret
                                exact ⟨by rw [ng.out]; rfl, V.hb⟩
                              case neg =>
                                have d5 : decide (t.f3 < 0) = false := decide_eq_false c5
                                by_cases c6 : (4096 : Int) < t.f3
                                case pos =>
                                  have ng : Aside0 (goodJ l0 l1 l2 idle crit sw swE sems hor ts nx js now at_ = false) := ⟨by cases hc : goodJ l0 l1 l2 idle crit sw swE sems hor ts nx js now at_ with | false => rfl | true => exact absurd (hnx.out hc).1 (fun h => by obtain ⟨k0, k1, k2, k3, k4, k5, k6⟩ := h; omega)⟩
                                  have d6 : decide ((4096 : Int) < t.f3) = true := decide_eq_true c6
                                  obtain ⟨x0, x1, x2, x3, x4, x5, x6, x7, x8, x9, x10, x11, x12, x13, x14⟩ := V.x
                                  obtain ⟨z0, z1, z2, z3⟩ : _ ∧ _ ∧ _ ∧ _ := ⟨(blk_cell BT.out 0).trans rfl, (blk_cell BT.out 1).trans rfl, (blk_cell BT.out 2).trans rfl, (blk_cell BT.out 3).trans rfl⟩
                                  go_wp2_with fail
                                  go_ret
                                  exact ⟨by rw [ng.out]; rfl, V.hb⟩
                                case neg =>
                                  have d6 : decide ((4096 : Int) < t.f3) = false := decide_eq_false c6
                                  have JO : Aside0 (JobOk ts t) := ⟨⟨by omega, by omega, C2.out, C3.out, C4.out, by omega, by omega⟩⟩
                                  obtain ⟨x0, x1, x2, x3, x4, x5, x6, x7, x8, x9, x10, x11, x12, x13, x14⟩ := V.x
                                  obtain ⟨z0, z1, z2, z3⟩ : _ ∧ _ ∧ _ ∧ _ := ⟨(blk_cell BT.out 0).trans rfl, (blk_cell BT.out 1).trans rfl, (blk_cell BT.out 2).trans rfl, (blk_cell BT.out 3).trans rfl⟩
                                  go_wp2_with fail
                                  try go_wp2_with fail
                                  clear x0 x1 x2 x3 x4 x5 x6 x7 x8 x9 x10 x11 x12 x13 x14
                                  clear z0 z1 z2 z3 d0 d1 d2 d5 d6 c0 c1 c5 c6 C2 C3 C4
                                  go_loopw [8] (fun v8 wr => ∃ n : Int, v8 = .int .i64 n ∧ 0 ≤ n ∧ n ≤ i ∧ Aside0 (∀ k : Nat, (k : Int) < n → (rd_T38 js k).f0 ≠ t.f0) ∧ Aside0 (wr.heap[gb]? = some (.cells #[.int .i64 t.f0, .int .i64 t.f1, .int .i64 t.f2, .int .i64 t.f3, .int .i64 t.f4, .bool t.f5] 38 (0, 0))) ∧ VM w wr A0 c0 l0 A1 c1 l1 A2 c2 l2 (some at3) c3 ts A4 c4 nx idle crit sw swE sems hor (.slice (some aj) js.length c5) (.slice none 0 0) now at_) (fun v8 _ => i.toNat - (intOf v8).toNat)
                                  case atStart => exact ⟨0, by first | rfl | simp, by omega, by omega, ⟨fun k h => by omega⟩, BT, V⟩
                                  case round =>
                                    clear V BT
                                    obtain ⟨n, rfl, hn0', hn1', HK, BT, V⟩ := hrel
                                    by_cases hln : n < i
                                    case pos =>
                                      have dn : decide (n < i) = true := decide_eq_true hln
                                      obtain ⟨aj2, ea, y0, _, _, _, _, _⟩ := at_T38 (Kd.C_below RJ.out V.hb) n hn0' (by omega)
                                      cases ea
                                      have p_ := eq_true hn0'
                                      have q_ : (n < (js.length : Int)) = True := eq_true (by omega)
                                      have z0 : _ = _ := (blk_cell BT.out 0).trans rfl
                                      obtain ⟨x0, x1, x2, x3, x4, x5, x6, x7, x8, x9, x10, x11, x12, x13, x14⟩ := V.x
                                      by_cases heq : (rd_T38 js n).f0 = t.f0
                                      case pos =>
                                        have dq : ((rd_T38 js n).f0 == t.f0) = true := by rw [beq_iff_eq]; exact heq
                                        have HE := Aside0.mk heq
                                        clear heq
                                        have ng : Aside0 (goodJ l0 l1 l2 idle crit sw swE sems hor ts nx js now at_ = false) := ⟨by cases hc : goodJ l0 l1 l2 idle crit sw swE sems hor ts nx js now at_ with | false => rfl | true => exact absurd HE.out (by have := (hnx.out hc).2 n.toNat (by omega); rwa [Int.toNat_of_nonneg hn0'] at this)⟩
                                        go_wp2_with fail
                                        go_quiet (fail)
                                        go_wp2_with fail
                                        go_ret
                                        exact ⟨by rw [ng.out]; rfl, pw_below_drewN V.hb _⟩
                                      case neg =>
                                        have dq : ((rd_T38 js n).f0 == t.f0) = false := by rw [beq_eq_false_iff_ne]; exact heq
                                        have HE := Aside0.mk heq
                                        clear heq
                                        go_wp2_with fail
                                        go_quiet (fail)
                                        go_wp2_with fail
                                        replace V := V.step (pw_below_drewN (Below.refl wr.heap.size wr) nq)
                                        replace BT := Aside0.mk (blk_drewN BT.out nq)
                                        clear x0 x1 x2 x3 x4 x5 x6 x7 x8 x9 x10 x11 x12 x13 x14
                                        clear y0 z0
                                        go_roundw
                                        case rel => exact ⟨n + 1, by first | rfl | simp, by omega, by omega, ⟨upto_succ (P := fun k : Nat => (rd_T38 js k).f0 ≠ t.f0) hn0' HK.out (by rw [Int.toNat_of_nonneg hn0']; exact HE.out)⟩, BT, V⟩
                                        case measure => simp [intOf]; omega
                                    case neg =>
                                      have dn : decide (n < i) = false := decide_eq_false hln
                                      have HKi : Aside0 (∀ k : Nat, (k : Int) < i → (rd_T38 js k).f0 ≠ t.f0) := ⟨fun k hk => HK.out k (by omega)⟩
                                      obtain ⟨x0, x1, x2, x3, x4, x5, x6, x7, x8, x9, x10, x11, x12, x13, x14⟩ := V.x
                                      go_wp2_with fail
                                      try go_wp2_with fail
                                      clear x0 x1 x2 x3 x4 x5 x6 x7 x8 x9 x10 x11 x12 x13 x14
                                      go_roundw
                                      case rel => exact ⟨i + 1, by first | rfl | simp, by omega, by omega, ⟨upto_succ (P := fun j : Nat => JobOk ts (rd_T38 js j) ∧ ∀ k : Nat, k < j → (rd_T38 js k).f0 ≠ (rd_T38 js j).f0) hi0 HJ.out (by rw [Int.toNat_of_nonneg hi0, TT.out]; exact ⟨JO.out, fun k hk => HKi.out k (by omega)⟩)⟩, V⟩
                                      case measure => simp [intOf]; omega
                  case neg =>
                    have dl : decide (i < (js.length : Int)) = false := decide_eq_false hlt
                    have yes : Aside0 (goodJ l0 l1 l2 idle crit sw swE sems hor ts nx js now at_ = true) := ⟨goodJ_yes ⟨GV.out, fun j h => (HJ.out j (by omega)).1, fun j k h hk => (HJ.out j (by omega)).2 k hk⟩⟩
                    clear HJ hi0 hi1 hlt
                    obtain ⟨x0, x1, x2, x3, x4, x5, x6, x7, x8, x9, x10, x11, x12, x13, x14⟩ := V.x
                    go_wp2_with fail
                    try go_wp2_with fail
                    clear x0 x1 x2 x3 x4 x5 x6 x7 x8 x9 x10 x11 x12 x13 x14
                    clear dl
                    go_loopw [9] (fun v9 wr => v9 = .int .i64 0 ∧ VM w wr A0 c0 l0 A1 c1 l1 A2 c2 l2 A3 c3 ts A4 c4 nx idle crit sw swE sems hor (.slice A5 js.length c5) (.slice none 0 0) now at_) (fun _ _ => 0)
                    case atStart => exact ⟨by first | rfl | simp, V⟩
                    case round =>
                      clear V
                      obtain ⟨rfl, V⟩ := hrel
                      obtain ⟨x0, x1, x2, x3, x4, x5, x6, x7, x8, x9, x10, x11, x12, x13, x14⟩ := V.x
                      go_wp2_with fail
                      go_ret
                      exact ⟨by rw [yes.out]; rfl, V.hb⟩
end Go.Proofs.Ytchlbnlhjllcbaa.Sla
namespace Go.Proofs.Ytchlbnlhjllcbaa.Sla
open Go.RowKit Go.Proofs.Ytchlbnlhjllcbaa.F Go.Proofs.Ytchlbnlhjllcbaa.Tbl Go.Proofs.Ytchlbnlhjllcbaa.Adm Go.Proofs.YtchlbnlhjllcbaaW.PrintWords Go.Proofs.YtchlbnlhjllcbaaW.PrintLast
set_option linter.unusedVariables false
section
variable {l0 : List S58} {l1 : List S68} {l2 : List S71} {idle crit sw swE sems hor : Int} {ts : List S36} {nx : List Int} {js : List S38} {now a : Int}
def quantaOf (l0 : List S58) (sw : Int) (j : S38) : Int := mx j.f3 0 * (rd_T58 l0 0).f0 + sw + if j.f5 = true then 0 else sw
def due (l0 : List S58) (sw m : Int) : List S38 → Int
  | [] => 0
  | j :: l => (if j.f2 ≤ m then quantaOf l0 sw j else 0) + due l0 sw m l
theorem due_snoc (m : Int) (j : S38) : ∀ l : List S38, due l0 sw m (l ++ [j]) = due l0 sw m l + if j.f2 ≤ m then quantaOf l0 sw j else 0
  | [] => by simp [due]
  | k :: l => by
    have ih := due_snoc m j l
    rw [List.cons_append]; unfold due; rw [ih]; omega
theorem quanta_bd (h : TableOk l0 l1 l2 idle crit sw swE sems hor) {j : S38} (h0 : 0 ≤ j.f3) (h1 : j.f3 ≤ 4096) : 0 ≤ quantaOf l0 sw j ∧ quantaOf l0 sw j ≤ 1049088 ∧ 0 ≤ mx j.f3 0 * (rd_T58 l0 0).f0 ∧ mx j.f3 0 * (rd_T58 l0 0).f0 ≤ 1048576 := by
  have c := head_of h
  have b := level_bd h (n := 0) (by omega) (by omega)
  have e : mx j.f3 0 = j.f3 := by unfold mx; split <;> omega
  have m1 : 0 ≤ mx j.f3 0 * (rd_T58 l0 0).f0 := Int.mul_nonneg (by omega) (by omega)
  have m2 : mx j.f3 0 * (rd_T58 l0 0).f0 ≤ 4096 * 256 := Int.mul_le_mul (by omega) b.2 (by omega) (by omega)
  unfold quantaOf
  split <;> omega
theorem due_bd (h : TableOk l0 l1 l2 idle crit sw swE sems hor) (m : Int) : ∀ l : List S38, (∀ j ∈ l, 0 ≤ j.f3 ∧ j.f3 ≤ 4096) → 0 ≤ due l0 sw m l ∧ due l0 sw m l ≤ l.length * 1049088
  | [], _ => by simp [due]
  | j :: l, hj => by
    have ih := due_bd h m l (fun k hk => hj k (by simp [hk]))
    have q := quanta_bd h (hj j (by simp)).1 (hj j (by simp)).2
    unfold due; rw [List.length_cons]
    split <;> omega
theorem jobq_some (h : TableOk l0 l1 l2 idle crit sw swE sems hor) {j : S38} (h0 : 0 ≤ j.f3) (h1 : j.f3 ≤ 4096) : job_Quanta.f l0 l1 l2 idle crit sw swE sems hor j.f0 j.f1 j.f2 j.f3 j.f4 j.f5 = some (quantaOf l0 sw j) := by
  have c := head_of h
  have q := quanta_bd h h0 h1
  unfold job_Quanta.f quantaOf
  rw [if_pos (by omega), Adm.w64 (n := mx j.f3 0 * (rd_T58 l0 0).f0) (by omega) (by omega), Adm.w64 (n := mx j.f3 0 * (rd_T58 l0 0).f0 + sw) (by omega) (by omega), Adm.w64 (by omega) (by omega)]
  by_cases s : j.f5 = true
  · rw [if_pos s, if_pos s]; congr 1; omega
  · rw [if_neg s, if_neg s]
theorem jobs_some (h : TableOk l0 l1 l2 idle crit sw swE sems hor) (m : Int) (l : List S38) : ∀ (n : Int), (∀ j ∈ l, 0 ≤ j.f3 ∧ j.f3 ≤ 4096) → n ≤ 1099511627776 → -1099511627776 + l.length * 1049088 ≤ n →
    slack_view_at.jobs l0 l1 l2 idle crit sw swE sems hor m l n = some (n - due l0 sw m l) := by
  induction l with
  | nil => intro n _ _ _; simp [slack_view_at.jobs, due]
  | cons j l ih =>
    intro n hj h1 h2
    have q := quanta_bd h (hj j (by simp)).1 (hj j (by simp)).2
    rw [List.length_cons] at h2
    unfold slack_view_at.jobs due
    by_cases c : j.f2 ≤ m
    · rw [if_pos c, if_pos c, jobq_some h (hj j (by simp)).1 (hj j (by simp)).2, Option.bind_some, Adm.w64 (n := n - quantaOf l0 sw j) (by omega) (by omega), ih _ (fun k hk => hj k (by simp [hk])) (by omega) (by omega)]
      congr 1; omega
    · rw [if_neg c, if_neg c, ih _ (fun k hk => hj k (by simp [hk])) (by omega) (by omega)]
      congr 1; omega
theorem nodup_len : ∀ (N : Nat) (l : List Int), l.Nodup → (∀ x ∈ l, 0 ≤ x ∧ x < N) → l.length ≤ N
  | 0, l, _, h => by
    cases l with
    | nil => simp
    | cons x l => have := h x (by simp); omega
  | N + 1, l, hn, h => by
    have ih := nodup_len N (l.erase (N : Int)) (hn.erase _) (fun x hx => by
      have h1 := (List.Nodup.mem_erase_iff hn).1 hx
      have h2 := h x h1.2
      have := h1.1
      omega)
    rw [List.length_erase] at ih
    split at ih <;> omega
theorem jobs_few (g : GoodJ l0 l1 l2 idle crit sw swE sems hor ts nx js now a) : js.length ≤ 64 := by
  have few := g.base.few
  have key : ∀ i k : Nat, i < js.length → k < js.length → (rd_T38 js i).f0 = (rd_T38 js k).f0 → i = k := fun i k hi hk e => by
    rcases Nat.lt_trichotomy i k with h | h | h
    · exact absurd e (g.one k i hk h)
    · exact h
    · exact absurd e.symm (g.one i k hi h)
  have e : ∀ i : Nat, (hi : i < js.length) → rd_T38 js i = js[i] := fun i hi => by unfold rd_T38; rw [Int.toNat_natCast, List.getD_eq_getElem?_getD, List.getElem?_eq_getElem hi]; rfl
  have hnd : (js.map (fun j => j.f0)).Nodup := by
    rw [List.Nodup, List.pairwise_iff_getElem]
    intro i k hi hk hik
    rw [List.length_map] at hi hk
    rw [List.getElem_map, List.getElem_map]
    intro he
    have := key i k hi hk (by rw [e i hi, e k hk]; exact he)
    omega
  have := nodup_len ts.length _ hnd (fun x hx => by
    obtain ⟨j, hj, rfl⟩ := List.mem_map.1 hx
    obtain ⟨i, hi, rfl⟩ := List.getElem_of_mem hj
    have := g.job i hi
    rw [e i hi] at this
    exact ⟨this.1, this.2.1⟩)
  rw [List.length_map] at this
  omega
theorem jobs_left (g : GoodJ l0 l1 l2 idle crit sw swE sems hor ts nx js now a) : ∀ j ∈ js, 0 ≤ j.f3 ∧ j.f3 ≤ 4096 := fun j hj => by
  obtain ⟨i, hi, rfl⟩ := List.getElem_of_mem hj
  have := g.job i hi
  have e : rd_T38 js i = js[i] := by unfold rd_T38; rw [Int.toNat_natCast, List.getD_eq_getElem?_getD, List.getElem?_eq_getElem hi]; rfl
  rw [e] at this
  exact this.2.2.2.2.2
theorem tasksw_some {now m : Int} (ht : TableOk l0 l1 l2 idle crit sw swE sems hor) (h0 : 0 ≤ now ∧ now ≤ 2097152) (m0 : 0 ≤ m) (h1 : m ≤ 4194304) (hx : ∀ i : Nat, i < nx.length → 0 ≤ rd nx i ∧ rd nx i ≤ 2097152) : ∀ (l : List S36) (i : Nat) (s : Int), (∀ t ∈ l, NoneT t ∨ TaskOk l2.length sems hor t) → i + l.length ≤ nx.length → i + l.length ≤ 64 →
    s ≤ 600000000000000000 → -600000000000000000 - i * 72057594037927936 ≤ s → slack_view_at.tasks l0 l1 l2 idle crit sw swE sems hor m now nx l i s = some (s - zsum l0 sw now m nx l i) := by
  intro l
  induction l with
  | nil => intro i s _ _ _ _ _; simp [slack_view_at.tasks, zsum]
  | cons t l ih =>
    intro i s hl hi h64 s0 s1
    rw [List.length_cons] at hi h64
    unfold slack_view_at.tasks zsum
    have bd := zt_bd (l0 := l0) (sw := sw) h0.1 h1 t (rd nx i)
    have hxi := hx i (by omega)
    by_cases c : 0 < t.f0
    · have tk : TaskOk l2.length sems hor t := by
        rcases hl t (by simp) with y | y
        · have := y.1; omega
        · exact y
      have mb : 0 ≤ mx now (rd nx i) ∧ mx now (rd nx i) ≤ 2097152 := by unfold mx; split <;> omega
      have ez : zt l0 sw now m t (rd nx i) = mn (mx (partOf l0 sw 0 t) 0) 17179869184 * mn (mx (m - mx now (rd nx i)) 0) 134217728 := by unfold zt; rw [if_pos c]
      rw [if_pos c, part_some ht tk, Option.bind_some, if_pos (by omega)]
      unfold fix_Times.f fix_clamp_int.f
      rw [Option.bind_some, Option.bind_some, Option.bind_some, Adm.w64 (n := m - mx now (rd nx i)) (by omega) (by omega), ← ez, Adm.w64 (n := zt l0 sw now m t (rd nx i)) (by omega) (by omega), Adm.w64 (n := s - zt l0 sw now m t (rd nx i)) (by omega) (by omega)]
      have := ih (i + 1) (s - zt l0 sw now m t (rd nx i)) (fun u hu => hl u (by simp [hu])) (by omega) (by omega) (by omega) (by omega)
      rw [show ((i + 1 : Nat) : Int) = (i : Int) + 1 from by omega] at this
      rw [this]; congr 1; omega
    · have ez : zt l0 sw now m t (rd nx i) = 0 := by unfold zt; rw [if_neg c]
      rw [if_neg c, ez]
      have := ih (i + 1) s (fun u hu => hl u (by simp [hu])) (by omega) (by omega) (by omega) (by omega)
      rw [show ((i + 1 : Nat) : Int) = (i : Int) + 1 from by omega] at this
      rw [this]; congr 1; omega
def atJ (l0 : List S58) (sw now : Int) (nx : List Int) (ts : List S36) (js : List S38) (m : Int) : Int := (m - now - due l0 sw m js) * 4294967296 - zsum l0 sw now m nx ts 0
theorem atJ_some (g : GoodJ l0 l1 l2 idle crit sw swE sems hor ts nx js now a) {m : Int} (m0 : 0 ≤ m) (h1 : m ≤ 4194304) : slack_view_at.r l0 l1 l2 idle crit sw swE sems hor ts nx js now m = some (atJ l0 sw now nx ts js m) := by
  have hn := g.base.now
  have few := jobs_few g
  have d := due_bd g.base.table m js (jobs_left g)
  unfold slack_view_at.r
  rw [Int.sub_zero, Adm.w64 (n := m - now) (by omega) (by omega), Adm.w64 (n := m - now) (by omega) (by omega), jobs_some g.base.table m js _ (jobs_left g) (by omega) (by omega), Option.bind_some]
  unfold fix_Whole.f fix_clamp_int.f
  have e : mn (mx (m - now - due l0 sw m js) (-1073741824)) 1073741824 = m - now - due l0 sw m js := by unfold mn mx; split <;> split <;> omega
  rw [Option.bind_some, Option.bind_some, e, Adm.w64 (n := (m - now - due l0 sw m js) * 4294967296) (by omega) (by omega)]
  have hx : ∀ i : Nat, i < nx.length → 0 ≤ rd nx i ∧ rd nx i ≤ 2097152 := fun i hi => g.base.next i (by have := g.base.len; omega)
  have tm := fun (t : S36) (h : t ∈ ts) => (show NoneT t ∨ TaskOk l2.length sems hor t from by
    obtain ⟨i, hi, rfl⟩ := List.getElem_of_mem h
    have := g.base.task i hi
    unfold rd_T36 at this
    rwa [Int.toNat_natCast, List.getD_eq_getElem?_getD, List.getElem?_eq_getElem hi] at this)
  exact tasksw_some (nx := nx) g.base.table hn m0 h1 hx ts 0 ((m - now - due l0 sw m js) * 4294967296) tm (by have := g.base.len; omega) (by have := g.base.few; omega) (by omega) (by omega)
theorem tasks_ok (g : GoodV l0 l1 l2 idle crit sw swE sems hor ts nx now a) : ∀ t ∈ ts, t.f0 > 0 → TaskOk l2.length sems hor t := fun t h c => by
  obtain ⟨i, hi, rfl⟩ := List.getElem_of_mem h
  have := g.task i hi
  unfold rd_T36 at this
  rw [Int.toNat_natCast, List.getD_eq_getElem?_getD, List.getElem?_eq_getElem hi] at this
  rcases this with y | y
  · exact absurd y.1 (by show ¬ (ts[i]).f0 = 0; omega)
  · exact y
theorem zsum_nx {m : Int} (i : Nat) (v : Int) (hi : i < nx.length) : ∀ (l : List S36) (k : Nat), (i < k ∨ k + l.length ≤ i) → zsum l0 sw now m (nx.set i v) l k = zsum l0 sw now m nx l k
  | [], k, _ => rfl
  | t :: l, k, h => by
    rw [List.length_cons] at h
    have ih := zsum_nx (m := m) i v hi l (k + 1) (by omega)
    unfold zsum
    have e : rd (nx.set i v) k = rd nx k := by
      unfold rd
      rw [Int.toNat_natCast, List.getD_eq_getElem?_getD, List.getD_eq_getElem?_getD, List.getElem?_set_ne (by omega)]
    rw [e, ih]
theorem zsum_set_nx {m : Int} (i : Nat) (v : Int) (hi : i < nx.length) : ∀ (l : List S36) (k : Nat), (hk : k ≤ i) → (h : i - k < l.length) → zsum l0 sw now m (nx.set i v) l k - zsum l0 sw now m nx l k = zt l0 sw now m l[i - k] v - zt l0 sw now m l[i - k] (rd nx i)
  | [], k, _, h => by simp at h
  | t :: l, k, hk, h => by
    unfold zsum
    by_cases e : k = i
    · subst e
      rw [zsum_nx k v hi l (k + 1) (by omega)]
      have e1 : rd (nx.set k v) k = v := by
        unfold rd
        rw [Int.toNat_natCast, List.getD_eq_getElem?_getD, List.getElem?_set_self hi]; rfl
      rw [e1]
      have : (t :: l)[k - k] = t := by simp
      rw [this]; omega
    · have ih := zsum_set_nx (m := m) i v hi l (k + 1) (by omega) (by rw [List.length_cons] at h; omega)
      have e1 : rd (nx.set i v) k = rd nx k := by
        unfold rd
        rw [Int.toNat_natCast, List.getD_eq_getElem?_getD, List.getD_eq_getElem?_getD, List.getElem?_set_ne (by omega)]
      have e2 : (t :: l)[i - k] = l[i - (k + 1)]'(by rw [List.length_cons] at h; omega) := by
        have : i - k = (i - (k + 1)) + 1 := by omega
        simp [this]
      rw [e1, e2]; omega
/-- a job that comes takes no more than was kept for it -/
theorem comes (g : GoodJ l0 l1 l2 idle crit sw swE sems hor ts nx js now a) (i : Nat) (hi : i < ts.length) (hp : (ts[i]).f0 > 0) (hnx : rd nx i ≤ now) (hone : partOf l0 sw 0 ts[i] ≤ 4294967296) (j : S38) (j2 : j.f2 = now + (ts[i]).f0) (j3 : j.f3 = (ts[i]).f1) (j5 : j.f5 = false) {m : Int} (m0 : 0 ≤ m) (m1 : m ≤ 2097152) :
    atJ l0 sw now nx ts js m ≤ atJ l0 sw now (nx.set i (now + (ts[i]).f0)) ts (js ++ [j]) m := by
  have tk := tasks_ok g.base ts[i] (List.getElem_mem hi) hp
  have p := tk.period
  have hh := head_of g.base.table
  have hn := g.base.now
  have pb := partOf_bd g.base.table tk 0
  have len := g.base.len
  have zs := zsum_set_nx (l0 := l0) (sw := sw) (now := now) (m := m) (nx := nx) i (now + (ts[i]).f0) (by omega) ts 0 (Nat.zero_le _) (by rw [Nat.sub_zero]; exact hi)
  simp only [Nat.sub_zero] at zs
  have q : quantaOf l0 sw j = most l0 sw 0 ts[i] := by
    have e : mx (ts[i]).f1 0 = (ts[i]).f1 := by have := tk.cycles; unfold mx; split <;> omega
    unfold quantaOf most
    rw [j3, j5, e, if_neg (by decide), if_pos (by omega)]; omega
  have lo := part_lo (most l0 sw 0 ts[i]) (ts[i]).f0 p.1
  have pe : Adm.part (most l0 sw 0 ts[i]) (ts[i]).f0 = partOf l0 sw 0 ts[i] := rfl
  rw [pe] at lo
  have u : mn (mx (partOf l0 sw 0 ts[i]) 0) 17179869184 = partOf l0 sw 0 ts[i] := by unfold mn mx; split <;> split <;> omega
  have z1 : zt l0 sw now m ts[i] (rd nx i) = partOf l0 sw 0 ts[i] * mn (mx (m - now) 0) 134217728 := by
    unfold zt; rw [if_pos hp, u]
    have : mx now (rd nx i) = now := by unfold mx; split <;> omega
    rw [this]
  have z2 : zt l0 sw now m ts[i] (now + (ts[i]).f0) = partOf l0 sw 0 ts[i] * mn (mx (m - (now + (ts[i]).f0)) 0) 134217728 := by
    unfold zt; rw [if_pos hp, u]
    have : mx now (now + (ts[i]).f0) = now + (ts[i]).f0 := by unfold mx; split <;> omega
    rw [this]
  unfold atJ
  rw [due_snoc, q, j2]
  rw [z1, z2] at zs
  by_cases c : now + (ts[i]).f0 ≤ m
  · rw [if_pos c]
    have e1 : mn (mx (m - now) 0) 134217728 = m - now := by unfold mn mx; split <;> split <;> omega
    have e2 : mn (mx (m - (now + (ts[i]).f0)) 0) 134217728 = m - now - (ts[i]).f0 := by unfold mn mx; split <;> split <;> omega
    rw [e1, e2, Int.mul_sub (partOf l0 sw 0 ts[i]) (m - now)] at zs
    have e3 : (m - now - (due l0 sw m js + most l0 sw 0 ts[i])) * 4294967296 = (m - now - due l0 sw m js) * 4294967296 - most l0 sw 0 ts[i] * 4294967296 := by rw [← Int.sub_mul]; congr 1; omega
    rw [e3]; omega
  · rw [if_neg c, Int.add_zero]
    have e2 : mn (mx (m - (now + (ts[i]).f0)) 0) 134217728 = 0 := by unfold mn mx; split <;> split <;> omega
    have n1 : 0 ≤ partOf l0 sw 0 ts[i] * mn (mx (m - now) 0) 134217728 := Int.mul_nonneg pb.1 (by unfold mn mx; split <;> split <;> omega)
    rw [e2, Int.mul_zero] at zs
    omega
end
end Go.Proofs.Ytchlbnlhjllcbaa.Sla
namespace Go.Proofs.Ytchlbnlhjllcbaa.F
open Go.RowKit Go.Proofs.YtchlbnlhjllcbaaW.PrintWords Go.Proofs.YtchlbnlhjllcbaaW.PrintLast Go.Proofs.YtchlbnlhjllcbaaW.PrintMore
attribute [local go_sem] max2_int min2_int max_two min_two max_three min_three max_four min_four   -- for this text's walks alone
set_option linter.unusedVariables false
set_option linter.unusedSimpArgs false
mutual
def slack_view_least.l0 : Nat → Int → List Int → List (S38) → Int → Int → List (S58) → List (S68) → List (S71) → Int → Int → Int → Int → Int → Int → List (S36) → List Int → List (S38) → List (S73) → Int → Option (Int × Int × Int × Int × Int × Int × Int × Int)
  | 0, _, _, _, _, _, _, _, _, _, _, _, _, _, _, _, _, _, _, _ => none
  | k + 1, x1, x5, x16, x17, x18, x1000, x1001, x1002, x1003, x1004, x1005, x1006, x1007, x1008, x1009, x1010, x1011, x1012, x1013 => if x18 < x17 then (none) else (slack_view_least.l1 k x1 x5 x1009 (x1009.length : Int) 0 x1000 x1001 x1002 x1003 x1004 x1005 x1006 x1007 x1008 x1009 x1010 x1011 x1012 x1013)
def slack_view_least.l1 : Nat → Int → List Int → List (S36) → Int → Int → List (S58) → List (S68) → List (S71) → Int → Int → Int → Int → Int → Int → List (S36) → List Int → List (S38) → List (S73) → Int → Option (Int × Int × Int × Int × Int × Int × Int × Int)
  | 0, _, _, _, _, _, _, _, _, _, _, _, _, _, _, _, _, _, _, _ => none
  | k + 1, x1, x5, x31, x32, x33, x1000, x1001, x1002, x1003, x1004, x1005, x1006, x1007, x1008, x1009, x1010, x1011, x1012, x1013 => if x33 < x32 then (if 0 ≤ x33 then (if x33 < (x31.length : Int) then (if ((rd_T36 x31 x33).f0) > 0 then ((slack_view_from.f x1000 x1001 x1002 x1003 x1004 x1005 x1006 x1007 x1008 x1009 x1010 x1011 x1012 x1013 x33).bind fun bt229 => (if x5.length < 17592186044416 then (slack_view_least.l1 k x1 (x5 ++ [wrap64 (bt229.1 + ((rd_T36 x31 x33).f0))]) x31 x32 (wrap64 (x33 + 1)) x1000 x1001 x1002 bt229.2.1 bt229.2.2.1 bt229.2.2.2.1 bt229.2.2.2.2.1 bt229.2.2.2.2.2.1 bt229.2.2.2.2.2.2.1 x1009 x1010 x1011 x1012 bt229.2.2.2.2.2.2.2) else (none))) else (slack_view_least.l1 k x1 x5 x31 x32 (wrap64 (x33 + 1)) x1000 x1001 x1002 x1003 x1004 x1005 x1006 x1007 x1008 x1009 x1010 x1011 x1012 x1013)) else (none)) else (none)) else ((fix_Whole.f 1073741824).bind fun t240 => (slack_view_least.l2 k x1 t240 x5 (x5.length : Int) 0 x1000 x1001 x1002 x1003 x1004 x1005 x1006 x1007 x1008 x1009 x1010 x1011 x1012 x1013))
def slack_view_least.l2 : Nat → Int → Int → List Int → Int → Int → List (S58) → List (S68) → List (S71) → Int → Int → Int → Int → Int → Int → List (S36) → List Int → List (S38) → List (S73) → Int → Option (Int × Int × Int × Int × Int × Int × Int × Int)
  | 0, _, _, _, _, _, _, _, _, _, _, _, _, _, _, _, _, _, _, _ => none
  | k + 1, x1, x10, x52, x53, x54, x1000, x1001, x1002, x1003, x1004, x1005, x1006, x1007, x1008, x1009, x1010, x1011, x1012, x1013 => if x54 < x53 then (if 0 ≤ x54 then (if x54 < (x52.length : Int) then (if (rd x52 x54) ≥ x1 then ((slack_view_at.f x1000 x1001 x1002 x1003 x1004 x1005 x1006 x1007 x1008 x1009 x1010 x1011 x1012 x1013 (rd x52 x54)).bind fun bt242 => (slack_view_least.l2 k x1 (mn x10 bt242.1) x52 x53 (wrap64 (x54 + 1)) x1000 x1001 x1002 bt242.2.1 bt242.2.2.1 bt242.2.2.2.1 bt242.2.2.2.2.1 bt242.2.2.2.2.2.1 bt242.2.2.2.2.2.2.1 x1009 x1010 x1011 x1012 bt242.2.2.2.2.2.2.2)) else (slack_view_least.l2 k x1 x10 x52 x53 (wrap64 (x54 + 1)) x1000 x1001 x1002 x1003 x1004 x1005 x1006 x1007 x1008 x1009 x1010 x1011 x1012 x1013)) else (none)) else (none)) else (some (x10, x1003, x1004, x1005, x1006, x1007, x1008, x1013))
end
def slack_view_least.f (k : Nat) (s0_0 : List (S58)) (s0_1 : List (S68)) (s0_2 : List (S71)) (s0_3 : Int) (s0_4 : Int) (s0_5 : Int) (s0_6 : Int) (s0_7 : Int) (s0_8 : Int) (s0_9 : List (S36)) (s0_10 : List Int) (s0_11 : List (S38)) (s0_12 : List (S73)) (s0_13 : Int) (a1 : Int) : Option (Int × Int × Int × Int × Int × Int × Int × Int) := slack_view_least.l0 k a1 ([] : List Int) s0_11 (s0_11.length : Int) 0 s0_0 s0_1 s0_2 s0_3 s0_4 s0_5 s0_6 s0_7 s0_8 s0_9 s0_10 s0_11 s0_12 s0_13
def slack_view_least.T11 : Bool × List (List Nat × List Nat) := (true, [([], []), ([], []), ([], []), ([1, 2], [1, 2]), ([], []), ([4], [4]), ([3, 5], [3, 5]), ([6], [6]), ([0, 7, 3], [0, 7]), ([8, 8, 0, 1, 2, 3, 4, 5, 6, 7, 8], [0, 8])])
def slack_view_least.B11 : List Nat := [0, 0, 0, 6, 0, 16, 62, 126, 255, 511]
theorem slack_view_least.tab11 : rtab .any (opsOf Try.f37 11) = slack_view_least.T11 := by kernel_rfl
theorem slack_view_least.bits11 : waitsOk slack_view_least.T11.2 slack_view_least.B11 = true := by kernel_rfl
set_option maxHeartbeats 8000000 in
set_option maxRecDepth 100000 in
theorem slack_view_least.calls (k : Nat) (g : Nat) (s0_0 : List (S58)) (s0_1 : List (S68)) (s0_2 : List (S71)) (s0_3 : Int) (s0_4 : Int) (s0_5 : Int) (s0_6 : Int) (s0_7 : Int) (s0_8 : Int) (s0_9 : List (S36)) (s0_10 : List Int) (s0_11 : List (S38)) (s0_12 : List (S73)) (s0_13 : Int) (a1 : Int) (r1 : Int) (r2 : Int) (r3 : Int) (r4 : Int) (r5 : Int) (r6 : Int) (r7 : Int) (r8 : Int) (w0 w : World) (hI : IsS65 w0 w g s0_0 s0_1 s0_2 s0_3 s0_4 s0_5 s0_6 s0_7 s0_8 s0_9 s0_10 s0_11 s0_12 s0_13) (hB : Below w0.heap.size w0 w) (h : slack_view_least.f k s0_0 s0_1 s0_2 s0_3 s0_4 s0_5 s0_6 s0_7 s0_8 s0_9 s0_10 s0_11 s0_12 s0_13 a1 = some (r1, r2, r3, r4, r5, r6, r7, r8)) :
    Calls Try.prog 37 #[.pointer (some ⟨g, 0, none⟩), .int .i64 a1] w fun e w' => e = .returned (.int .i64 r1) ∧ IsS65 w0 w' g s0_0 s0_1 s0_2 r2 r3 r4 r5 r6 r7 s0_9 s0_10 s0_11 s0_12 r8 ∧ Below w0.heap.size w0 w' ∧ KeepBut w w' g none := by
  have hu38 := Try.underlying38
  have hu36 := Try.underlying36
  have HI0 := Aside0.mk hI
  have HK := Aside0.mk (KeepBut.refl w g none)
  have HL := Aside0.mk hB.size
  clear hI
  have HW0 := Aside0.mk hB.size
  have HB := Aside0.mk hB
  clear hB
  have H : (slack_view_least.l0 k a1 ([] : List Int) s0_11 (s0_11.length : Int) 0 s0_0 s0_1 s0_2 s0_3 s0_4 s0_5 s0_6 s0_7 s0_8 s0_9 s0_10 s0_11 s0_12 s0_13) = some (r1, r2, r3, r4, r5, r6, r7, r8) := h
  clear h
  have H' := Aside0.mk H
  clear H
  obtain ⟨ASz3_0, cSz3_0, ASz3_1, cSz3_1, ASz3_2, cSz3_2, ASz3_9, cSz3_9, ASz3_10, cSz3_10, ASz3_11, cSz3_11, ASz3_12, cSz3_12, HGz3, hgz3, HSz3_0, HSz3_1, HSz3_2, HSz3_9, HSz3_10, HSz3_11, HSz3_12⟩ := HI0.out
  have hcz3_0 := cellS65_0 HGz3
  have hcz3_1 := cellS65_1 HGz3
  have hcz3_2 := cellS65_2 HGz3
  have hcz3_3 := cellS65_3 HGz3
  have hcz3_4 := cellS65_4 HGz3
  have hcz3_5 := cellS65_5 HGz3
  have hcz3_6 := cellS65_6 HGz3
  have hcz3_7 := cellS65_7 HGz3
  have hcz3_8 := cellS65_8 HGz3
  have hcz3_9 := cellS65_9 HGz3
  have hcz3_10 := cellS65_10 HGz3
  have hcz3_11 := cellS65_11 HGz3
  have hcz3_12 := cellS65_12 HGz3
  have hcz3_13 := cellS65_13 HGz3
  have hfz3_3 := blk_frozen HGz3 3
  have hfz3_4 := blk_frozen HGz3 4
  have hfz3_5 := blk_frozen HGz3 5
  have hfz3_6 := blk_frozen HGz3 6
  have hfz3_7 := blk_frozen HGz3 7
  have hfz3_8 := blk_frozen HGz3 8
  have hfz3_13 := blk_frozen HGz3 13
  clear HGz3 hgz3
  go_enter Try.func37, Try.ntmps37
  go_wp2
  go_loopg [5, 18] k (fun kq v5 v18 w' => ∃ (x5_1 : List Int) (x18_1 : Int), v18 = .int .i64 x18_1 ∧ Aside0 (slack_view_least.l0 kq a1 x5_1 s0_11 (s0_11.length : Int) x18_1 s0_0 s0_1 s0_2 s0_3 s0_4 s0_5 s0_6 s0_7 s0_8 s0_9 s0_10 s0_11 s0_12 s0_13 = some (r1, r2, r3, r4, r5, r6, r7, r8)) ∧ Aside0 (kq ≤ k) ∧ Aside0 (Kd.R (Kd.int .i64) 3 w' w.heap.size (fun _ => True) v5 x5_1) ∧ Aside0 (IsS65 w0 w' g s0_0 s0_1 s0_2 s0_3 s0_4 s0_5 s0_6 s0_7 s0_8 s0_9 s0_10 s0_11 s0_12 s0_13) ∧ Aside0 (KeepBut w w' g none) ∧ Aside0 (Below w0.heap.size w0 w'))
  case atStart => exact ⟨(([] : List Int)), (0), (by first | rfl | (simp; done) | (simp [*]; done)), H', ⟨Nat.le_refl _⟩, ⟨by first | exact Kd.R_nil _ _ _ _ _ | exact Kd.N_nil _ _ _ _ _ | exact Kd.V_nil _ _ _ _ _ | exact Kd.Q_nil _ _ _ _ _ | exact Kd.S_nil _ _ _ _ _⟩, ⟨by repeat (first | (with_reducible first | exact HI0.out | apply IsS65.alloc | apply IsS65.drewN | apply IsS65.drew | apply IsS65.set_3 | apply IsS65.set_4 | apply IsS65.set_5 | apply IsS65.set_6 | apply IsS65.set_7 | apply IsS65.set_8 | apply IsS65.set_13) | exact HI0.out)⟩, ⟨by repeat (first | (with_reducible first | exact HK.out | apply KeepBut.set_ | apply keep_drewN | apply keep_drew | apply keep_alloc) | exact HK.out)⟩, ⟨by repeat (first | (with_reducible first | exact HB.out | apply below_alloc | apply pw_below_drewN | apply below_drew1 | refine below_set ?_ (IsS65.ge HI0.out)) | exact HB.out)⟩⟩
  case round =>
    clear H'
    try clear p2
    try clear c3
    try clear hcz3_0
    try clear hcz3_1
    try clear hcz3_10
    try clear hcz3_11
    try clear hcz3_12
    try clear hcz3_13
    try clear hcz3_2
    try clear hcz3_3
    try clear hcz3_4
    try clear hcz3_5
    try clear hcz3_6
    try clear hcz3_7
    try clear hcz3_8
    try clear hcz3_9
    try clear hfz3_13
    try clear hfz3_3
    try clear hfz3_4
    try clear hfz3_5
    try clear hfz3_6
    try clear hfz3_7
    try clear hfz3_8
    obtain ⟨x5_1, x18_1, rfl, HA, HK1, HO_5, HI0, HK, HB⟩ := hrel
    cases gk with
    | zero => exact absurd HA.out (by simp [slack_view_least.l0])
    | succ k1 =>
      have H := HA.out
      clear HA
      simp only [slack_view_least.l0] at H
      by_cases c4 : x18_1 < (s0_11.length : Int)
      · rw [if_pos c4] at H
        exact absurd H (by simp)
      · rw [if_neg c4] at H
        have c4b0 : decide (x18_1 < (s0_11.length : Int)) = false := decide_eq_false c4
        clear c4
        have H' := Aside0.mk H
        clear H
        obtain ⟨ASz13_0, cSz13_0, ASz13_1, cSz13_1, ASz13_2, cSz13_2, ASz13_9, cSz13_9, ASz13_10, cSz13_10, ASz13_11, cSz13_11, ASz13_12, cSz13_12, HGz13, hgz13, HSz13_0, HSz13_1, HSz13_2, HSz13_9, HSz13_10, HSz13_11, HSz13_12⟩ := HI0.out
        have hcz13_0 := cellS65_0 HGz13
        have hcz13_1 := cellS65_1 HGz13
        have hcz13_2 := cellS65_2 HGz13
        have hcz13_3 := cellS65_3 HGz13
        have hcz13_4 := cellS65_4 HGz13
        have hcz13_5 := cellS65_5 HGz13
        have hcz13_6 := cellS65_6 HGz13
        have hcz13_7 := cellS65_7 HGz13
        have hcz13_8 := cellS65_8 HGz13
        have hcz13_9 := cellS65_9 HGz13
        have hcz13_10 := cellS65_10 HGz13
        have hcz13_11 := cellS65_11 HGz13
        have hcz13_12 := cellS65_12 HGz13
        have hcz13_13 := cellS65_13 HGz13
        have hfz13_3 := blk_frozen HGz13 3
        have hfz13_4 := blk_frozen HGz13 4
        have hfz13_5 := blk_frozen HGz13 5
        have hfz13_6 := blk_frozen HGz13 6
        have hfz13_7 := blk_frozen HGz13 7
        have hfz13_8 := blk_frozen HGz13 8
        have hfz13_13 := blk_frozen HGz13 13
        clear HGz13 hgz13
        go_wp2
        go_loopg [5, 33] k1 (fun kq v5 v33 w' => ∃ (x5_2 : List Int) (x33_2 : Int) (x1003_2 : Int) (x1004_2 : Int) (x1005_2 : Int) (x1006_2 : Int) (x1007_2 : Int) (x1008_2 : Int) (x1013_2 : Int), v33 = .int .i64 x33_2 ∧ Aside0 (slack_view_least.l1 kq a1 x5_2 s0_9 (s0_9.length : Int) x33_2 s0_0 s0_1 s0_2 x1003_2 x1004_2 x1005_2 x1006_2 x1007_2 x1008_2 s0_9 s0_10 s0_11 s0_12 x1013_2 = some (r1, r2, r3, r4, r5, r6, r7, r8)) ∧ Aside0 (kq ≤ k1) ∧ Aside0 (Kd.R (Kd.int .i64) 3 w' w.heap.size (fun _ => True) v5 x5_2) ∧ Aside0 (IsS65 w0 w' g s0_0 s0_1 s0_2 x1003_2 x1004_2 x1005_2 x1006_2 x1007_2 x1008_2 s0_9 s0_10 s0_11 s0_12 x1013_2) ∧ Aside0 (KeepBut w w' g none) ∧ Aside0 (Below w0.heap.size w0 w'))
        case atStart => exact ⟨(x5_1), (0), (s0_3), (s0_4), (s0_5), (s0_6), (s0_7), (s0_8), (s0_13), (by first | rfl | (simp; done) | (simp [*]; done)), H', ⟨Nat.le_refl _⟩, ⟨by (with_reducible repeat (first | apply Kd.R_alloc | apply Kd.R_drewN | apply Kd.R_drew)); exact HO_5.out⟩, ⟨by repeat (first | (with_reducible first | exact HI0.out | apply IsS65.alloc | apply IsS65.drewN | apply IsS65.drew | apply IsS65.set_3 | apply IsS65.set_4 | apply IsS65.set_5 | apply IsS65.set_6 | apply IsS65.set_7 | apply IsS65.set_8 | apply IsS65.set_13) | exact HI0.out)⟩, ⟨by repeat (first | (with_reducible first | exact HK.out | apply KeepBut.set_ | apply keep_drewN | apply keep_drew | apply keep_alloc) | exact HK.out)⟩, ⟨by repeat (first | (with_reducible first | exact HB.out | apply below_alloc | apply pw_below_drewN | apply below_drew1 | refine below_set ?_ (IsS65.ge HI0.out)) | exact HB.out)⟩⟩
        case round =>
          clear H'
          try clear c1
          try clear p2
          try clear q2
          try clear hx2
          try clear c3
          try clear c4
          try clear c4b0
          try clear c5
          try clear c5b0
          try clear c6
          try clear c6b0
          try clear p6
          try clear c7
          try clear c10
          try clear hcz11_0
          try clear hcz11_1
          try clear hcz11_2
          try clear hcz11_3
          try clear hcz11_4
          try clear hcz11_5
          try clear hcz13_0
          try clear hcz13_1
          try clear hcz13_10
          try clear hcz13_11
          try clear hcz13_12
          try clear hcz13_13
          try clear hcz13_2
          try clear hcz13_3
          try clear hcz13_4
          try clear hcz13_5
          try clear hcz13_6
          try clear hcz13_7
          try clear hcz13_8
          try clear hcz13_9
          try clear hcz3_0
          try clear hcz3_1
          try clear hcz3_10
          try clear hcz3_11
          try clear hcz3_12
          try clear hcz3_13
          try clear hcz3_2
          try clear hcz3_3
          try clear hcz3_4
          try clear hcz3_5
          try clear hcz3_6
          try clear hcz3_7
          try clear hcz3_8
          try clear hcz3_9
          try clear hcz8_0
          try clear hcz8_1
          try clear hcz8_10
          try clear hcz8_11
          try clear hcz8_12
          try clear hcz8_13
          try clear hcz8_2
          try clear hcz8_3
          try clear hcz8_4
          try clear hcz8_5
          try clear hcz8_6
          try clear hcz8_7
          try clear hcz8_8
          try clear hcz8_9
          try clear hfz11_0
          try clear hfz11_1
          try clear hfz11_2
          try clear hfz11_3
          try clear hfz11_4
          try clear hfz11_5
          try clear hfz13_13
          try clear hfz13_3
          try clear hfz13_4
          try clear hfz13_5
          try clear hfz13_6
          try clear hfz13_7
          try clear hfz13_8
          try clear hfz3_13
          try clear hfz3_3
          try clear hfz3_4
          try clear hfz3_5
          try clear hfz3_6
          try clear hfz3_7
          try clear hfz3_8
          try clear hfz8_13
          try clear hfz8_3
          try clear hfz8_4
          try clear hfz8_5
          try clear hfz8_6
          try clear hfz8_7
          try clear hfz8_8
          try clear hx222_0
          try clear hx222_1
          try clear hx222_2
          try clear hx222_3
          try clear hx222_4
          try clear hx222_5
          try clear p2
          try clear p222
          try clear q222
          obtain ⟨x5_2, x33_2, x1003_2, x1004_2, x1005_2, x1006_2, x1007_2, x1008_2, x1013_2, rfl, HA, HK2, HO_5, HI0, HK, HB⟩ := hrel
          cases gk with
          | zero => exact absurd HA.out (by simp [slack_view_least.l1])
          | succ k2 =>
            have H := HA.out
            clear HA
            simp only [slack_view_least.l1] at H
            by_cases c14 : x33_2 < (s0_9.length : Int)
            · rw [if_pos c14] at H
              have c14b0 : decide (x33_2 < (s0_9.length : Int)) = true := decide_eq_true c14
              clear c14
              by_cases c15 : 0 ≤ x33_2
              · rw [if_pos c15] at H
                have c15b0 : decide (0 ≤ x33_2) = true := decide_eq_true c15
                clear c15
                by_cases c16 : x33_2 < (s0_9.length : Int)
                · rw [if_pos c16] at H
                  have c16b0 : decide (x33_2 < (s0_9.length : Int)) = true := decide_eq_true c16
                  clear c16
                  by_cases c17 : ((rd_T36 s0_9 x33_2).f0) > 0
                  · rw [if_pos c17] at H
                    have c17b0 : decide (0 < ((rd_T36 s0_9 x33_2).f0)) = true := decide_eq_true c17
                    clear c17
                    replace H := Option.bind_eq_some_iff.mp H
                    obtain ⟨⟨t229, t230, t231, t232, t233, t234, t235, t236⟩, A180, H⟩ := H
                    replace H : (if x5_2.length < 17592186044416 then (slack_view_least.l1 k2 a1 (x5_2 ++ [wrap64 (t229 + ((rd_T36 s0_9 x33_2).f0))]) s0_9 (s0_9.length : Int) (wrap64 (x33_2 + 1)) s0_0 s0_1 s0_2 t230 t231 t232 t233 t234 t235 s0_9 s0_10 s0_11 s0_12 t236) else (none)) = some (r1, r2, r3, r4, r5, r6, r7, r8) := H
                    have A18 := Aside0.mk A180
                    clear A180
                    by_cases c19 : x5_2.length < 17592186044416
                    · rw [if_pos c19] at H
                      have LMc19 := Aside0.mk c19
                      clear c19
                      obtain ⟨y237, hy237⟩ : ∃ y_ : List Int, y_ = (x5_2 ++ [wrap64 (t229 + ((rd_T36 s0_9 x33_2).f0))]) := ⟨_, rfl⟩
                      replace H : (slack_view_least.l1 k2 a1 y237 s0_9 (s0_9.length : Int) (wrap64 (x33_2 + 1)) s0_0 s0_1 s0_2 t230 t231 t232 t233 t234 t235 s0_9 s0_10 s0_11 s0_12 t236) = some (r1, r2, r3, r4, r5, r6, r7, r8) := by first | (rw [hy237]; with_reducible exact H) | (have H2_ := (Option.bind_some _ _).symm.trans H; rw [hy237]; with_reducible exact H2_) | (have H2_ := (Option.bind_some _ _).symm.trans H; with_reducible exact H2_) | with_reducible exact H | (rw [hy237]; exact H) | exact H
                      have Ny237 := Aside0.mk hy237
                      clear hy237
                      have H' := Aside0.mk H
                      clear H
                      obtain ⟨ASz20_0, cSz20_0, ASz20_1, cSz20_1, ASz20_2, cSz20_2, ASz20_9, cSz20_9, ASz20_10, cSz20_10, ASz20_11, cSz20_11, ASz20_12, cSz20_12, HGz20, hgz20, HSz20_0, HSz20_1, HSz20_2, HSz20_9, HSz20_10, HSz20_11, HSz20_12⟩ := HI0.out
                      have hcz20_0 := cellS65_0 HGz20
                      have hcz20_1 := cellS65_1 HGz20
                      have hcz20_2 := cellS65_2 HGz20
                      have hcz20_3 := cellS65_3 HGz20
                      have hcz20_4 := cellS65_4 HGz20
                      have hcz20_5 := cellS65_5 HGz20
                      have hcz20_6 := cellS65_6 HGz20
                      have hcz20_7 := cellS65_7 HGz20
                      have hcz20_8 := cellS65_8 HGz20
                      have hcz20_9 := cellS65_9 HGz20
                      have hcz20_10 := cellS65_10 HGz20
                      have hcz20_11 := cellS65_11 HGz20
                      have hcz20_12 := cellS65_12 HGz20
                      have hcz20_13 := cellS65_13 HGz20
                      have hfz20_3 := blk_frozen HGz20 3
                      have hfz20_4 := blk_frozen HGz20 4
                      have hfz20_5 := blk_frozen HGz20 5
                      have hfz20_6 := blk_frozen HGz20 6
                      have hfz20_7 := blk_frozen HGz20 7
                      have hfz20_8 := blk_frozen HGz20 8
                      have hfz20_13 := blk_frozen HGz20 13
                      clear HGz20 hgz20
                      have p227 : 0 ≤ (x33_2 : Int) := of_decide_eq_true (by first | (with_reducible assumption) | assumption)
                      have q227 : x33_2 < (s0_9.length : Int) := of_decide_eq_true (by first | (with_reducible assumption) | assumption)
                      obtain ⟨ad227, A227_2, c227_2, A227_3, c227_3, e227, hx227_0, hx227_1, hx227_2, hx227_3, hl227_2, hi227_2, hl227_3, hi227_3⟩ := at_T36 HSz13_9 x33_2 p227 q227
                      cases e227
                      replace hx227_0 := pw_cell_below HB.out hx227_0
                      replace hx227_1 := pw_cell_below HB.out hx227_1
                      replace hx227_2 := pw_cell_below HB.out hx227_2
                      replace hx227_3 := pw_cell_below HB.out hx227_3
                      have HR227_2 := Aside0.mk (Kd.C_below hi227_2 HB.out)
                      have HC227_2 := Aside0.mk hl227_2
                      clear hi227_2 hl227_2
                      have HR227_3 := Aside0.mk (Kd.C_below hi227_3 HB.out)
                      have HC227_3 := Aside0.mk hl227_3
                      clear hi227_3 hl227_3
                      replace p227 := eq_true p227
                      replace q227 := eq_true q227
                      try go_wp2_with (first | ((with_reducible refine gate_dst (N := 9) rfl ?_); refine box_event ?hg (N := 9) ?hd (cs := #[.int .i64 0, .int .i64 0, .slice none 0 0, .slice none 0 0]) (t := 36) ?hr ?_; (case hd => rfl); (case hg => rfl); (case hr => first | (go_simp; done) | (go_simp; rfl)); intro gb228 hg w21 hbox hb; have n0_ := Aside0.mk (Kd.R_below (by (with_reducible repeat (first | apply Kd.R_alloc | apply Kd.R_drewN | apply Kd.R_drew)); exact HO_5.out) hb); have n1_ := Aside0.mk (IsS65.below (by repeat (first | (with_reducible first | exact HI0.out | apply IsS65.alloc | apply IsS65.drewN | apply IsS65.drew | apply IsS65.set_3 | apply IsS65.set_4 | apply IsS65.set_5 | apply IsS65.set_6 | apply IsS65.set_7 | apply IsS65.set_8 | apply IsS65.set_13) | exact HI0.out)) hb); have n2_ := Aside0.mk (Kd.C_below (by repeat (first | (with_reducible exact HR227_2.out) | (with_reducible refine Kd.C_alloc ?_ _) | (with_reducible refine Kd.C_drewN ?_ _) | (with_reducible refine Kd.C_drew ?_) | exact HR227_2.out)) hb); have n3_ := Aside0.mk (Kd.C_below (by repeat (first | (with_reducible exact HR227_3.out) | (with_reducible refine Kd.C_alloc ?_ _) | (with_reducible refine Kd.C_drewN ?_ _) | (with_reducible refine Kd.C_drew ?_) | exact HR227_3.out)) hb); have n4_ := Aside0.mk (KeepBut.trans (by repeat (first | (with_reducible first | exact HK.out | apply KeepBut.set_ | apply keep_drewN | apply keep_drew | apply keep_alloc) | exact HK.out)) (KeepBut.of_below hb g none) (.inl rfl)); have n5_ := Aside0.mk (below_step (by repeat (first | (with_reducible first | exact HB.out | apply below_alloc | apply pw_below_drewN | apply below_drew1 | refine below_set ?_ (IsS65.ge HI0.out)) | exact HB.out)) hb); have n6_ := Aside0.mk (hbox); have n7_ := Aside0.mk ((by rw [hg]; exact (keep_size (w := w) (g := g) (row := none) (by repeat (first | (with_reducible first | exact HK.out | apply KeepBut.set_ | apply keep_drewN | apply keep_drew | apply keep_alloc) | exact HK.out))) : w.heap.size ≤ gb228)); have n8_ := Aside0.mk ((Nat.le_trans HW0.out (by rw [hg]; exact (keep_size (w := w) (g := g) (row := none) (by repeat (first | (with_reducible first | exact HK.out | apply KeepBut.set_ | apply keep_drewN | apply keep_drew | apply keep_alloc) | exact HK.out))) : w.heap.size ≤ gb228) : w0.heap.size ≤ gb228)); have n9_ := Aside0.mk ((by rw [hg]; exact Nat.ne_of_lt (IsS65.lt (show IsS65 w0 _ g s0_0 s0_1 s0_2 x1003_2 x1004_2 x1005_2 x1006_2 x1007_2 x1008_2 s0_9 s0_10 s0_11 s0_12 x1013_2 from by repeat (first | (with_reducible first | exact HI0.out | apply IsS65.alloc | apply IsS65.drewN | apply IsS65.drew | apply IsS65.set_3 | apply IsS65.set_4 | apply IsS65.set_5 | apply IsS65.set_6 | apply IsS65.set_7 | apply IsS65.set_8 | apply IsS65.set_13) | exact HI0.out))) : g ≠ gb228)); have n10_ := Aside0.mk ((by rw [hg]; exact Nat.ne_of_gt (IsS65.lt (show IsS65 w0 _ g s0_0 s0_1 s0_2 x1003_2 x1004_2 x1005_2 x1006_2 x1007_2 x1008_2 s0_9 s0_10 s0_11 s0_12 x1013_2 from by repeat (first | (with_reducible first | exact HI0.out | apply IsS65.alloc | apply IsS65.drewN | apply IsS65.drew | apply IsS65.set_3 | apply IsS65.set_4 | apply IsS65.set_5 | apply IsS65.set_6 | apply IsS65.set_7 | apply IsS65.set_8 | apply IsS65.set_13) | exact HI0.out))) : gb228 ≠ g)); clear HO_5; clear HI0; clear HR227_2; clear HR227_3; clear HK; clear HB; have HO_5 := n0_; have HI0 := n1_; have HR227_2 := n2_; have HR227_3 := n3_; have HK := n4_; have HB := n5_; have BK228 := n6_; have GW228 := n7_; have GE228 := n8_; have NB0_228 := n9_; have NB228_0 := n10_; clear n0_ n1_ n2_ n3_ n4_ n5_ n6_ n7_ n8_ n9_ n10_; clear hb hbox hg; have hnb22 := NB228_0.out; have hnc22 := NB0_228.out; have hcz23_0 : w21.cell? ⟨gb228, 0, none⟩ = some (.int .i64 0) := (blk_cell BK228.out 0).trans rfl; have hcz23_1 : w21.cell? ⟨gb228, 1, none⟩ = some (.int .i64 0) := (blk_cell BK228.out 1).trans rfl; have hcz23_2 : w21.cell? ⟨gb228, 2, none⟩ = some (.slice none 0 0) := (blk_cell BK228.out 2).trans rfl; have hcz23_3 : w21.cell? ⟨gb228, 3, none⟩ = some (.slice none 0 0) := (blk_cell BK228.out 3).trans rfl; have hfz23_0 := blk_frozen BK228.out 0; have hfz23_1 := blk_frozen BK228.out 1; have hfz23_2 := blk_frozen BK228.out 2; have hfz23_3 := blk_frozen BK228.out 3))
                      have n0_ : Aside0 (Kd.R (Kd.int .i64) 3 ((((w21.setCell ⟨gb228, 0, none⟩ (.int .i64 ((rd_T36 s0_9 x33_2).f0))).setCell ⟨gb228, 1, none⟩ (.int .i64 ((rd_T36 s0_9 x33_2).f1))).setCell ⟨gb228, 2, none⟩ (.slice A227_2 ((rd_T36 s0_9 x33_2).f2).length c227_2)).setCell ⟨gb228, 3, none⟩ (.slice A227_3 ((rd_T36 s0_9 x33_2).f3).length c227_3)) w.heap.size (fun _ => True) u5 x5_2) := ⟨by (with_reducible repeat (first | apply Kd.R_alloc | apply Kd.R_drewN | apply Kd.R_drew)); exact Kd.R_mono (Kd.R_far (p := ⟨gb228, 3, none⟩) (Kd.R_far (p := ⟨gb228, 2, none⟩) (Kd.R_far (p := ⟨gb228, 1, none⟩) (Kd.R_far (p := ⟨gb228, 0, none⟩) (Kd.R_types HO_5.out BK228.out (by decide)) (fun _ hk => hk.2) (.int .i64 ((rd_T36 s0_9 x33_2).f0))) (fun _ hk => hk.2) (.int .i64 ((rd_T36 s0_9 x33_2).f1))) (fun _ hk => hk.2) (.slice A227_2 ((rd_T36 s0_9 x33_2).f2).length c227_2)) (fun _ hk => hk.2) (.slice A227_3 ((rd_T36 s0_9 x33_2).f3).length c227_3)) (fun _ hk => trivial)⟩
                      have n1_ : Aside0 (((((w21.setCell ⟨gb228, 0, none⟩ (.int .i64 ((rd_T36 s0_9 x33_2).f0))).setCell ⟨gb228, 1, none⟩ (.int .i64 ((rd_T36 s0_9 x33_2).f1))).setCell ⟨gb228, 2, none⟩ (.slice A227_2 ((rd_T36 s0_9 x33_2).f2).length c227_2)).setCell ⟨gb228, 3, none⟩ (.slice A227_3 ((rd_T36 s0_9 x33_2).f3).length c227_3)).heap[gb228]? = some (.cells #[.int .i64 ((rd_T36 s0_9 x33_2).f0), .int .i64 ((rd_T36 s0_9 x33_2).f1), .slice A227_2 ((rd_T36 s0_9 x33_2).f2).length c227_2, .slice A227_3 ((rd_T36 s0_9 x33_2).f3).length c227_3] 36 (0, 0))) := ⟨by (with_reducible repeat (first | refine blk_drewN ?_ _ | refine blk_drew ?_ | refine blk_alloc ?_ _)); refine blk_put (cs := #[.int .i64 ((rd_T36 s0_9 x33_2).f0), .int .i64 ((rd_T36 s0_9 x33_2).f1), .slice A227_2 ((rd_T36 s0_9 x33_2).f2).length c227_2, .slice none 0 0]) ?_ 3 _ rfl; (with_reducible repeat (first | refine blk_drewN ?_ _ | refine blk_drew ?_ | refine blk_alloc ?_ _)); refine blk_put (cs := #[.int .i64 ((rd_T36 s0_9 x33_2).f0), .int .i64 ((rd_T36 s0_9 x33_2).f1), .slice none 0 0, .slice none 0 0]) ?_ 2 _ rfl; (with_reducible repeat (first | refine blk_drewN ?_ _ | refine blk_drew ?_ | refine blk_alloc ?_ _)); refine blk_put (cs := #[.int .i64 ((rd_T36 s0_9 x33_2).f0), .int .i64 0, .slice none 0 0, .slice none 0 0]) ?_ 1 _ rfl; (with_reducible repeat (first | refine blk_drewN ?_ _ | refine blk_drew ?_ | refine blk_alloc ?_ _)); refine blk_put (cs := #[.int .i64 0, .int .i64 0, .slice none 0 0, .slice none 0 0]) ?_ 0 _ rfl; (with_reducible repeat (first | refine blk_drewN ?_ _ | refine blk_drew ?_ | refine blk_alloc ?_ _)); exact BK228.out⟩
                      have n2_ : Aside0 (IsS65 w0 ((((w21.setCell ⟨gb228, 0, none⟩ (.int .i64 ((rd_T36 s0_9 x33_2).f0))).setCell ⟨gb228, 1, none⟩ (.int .i64 ((rd_T36 s0_9 x33_2).f1))).setCell ⟨gb228, 2, none⟩ (.slice A227_2 ((rd_T36 s0_9 x33_2).f2).length c227_2)).setCell ⟨gb228, 3, none⟩ (.slice A227_3 ((rd_T36 s0_9 x33_2).f3).length c227_3)) g s0_0 s0_1 s0_2 x1003_2 x1004_2 x1005_2 x1006_2 x1007_2 x1008_2 s0_9 s0_10 s0_11 s0_12 x1013_2) := ⟨by repeat (first | (with_reducible first | exact HI0.out | apply IsS65.alloc | apply IsS65.drewN | apply IsS65.drew | apply IsS65.set_3 | apply IsS65.set_4 | apply IsS65.set_5 | apply IsS65.set_6 | apply IsS65.set_7 | apply IsS65.set_8 | apply IsS65.set_13 | refine IsS65.far ?_ NB0_228.out _) | exact HI0.out)⟩
                      have n3_ : Aside0 (KeepBut w ((((w21.setCell ⟨gb228, 0, none⟩ (.int .i64 ((rd_T36 s0_9 x33_2).f0))).setCell ⟨gb228, 1, none⟩ (.int .i64 ((rd_T36 s0_9 x33_2).f1))).setCell ⟨gb228, 2, none⟩ (.slice A227_2 ((rd_T36 s0_9 x33_2).f2).length c227_2)).setCell ⟨gb228, 3, none⟩ (.slice A227_3 ((rd_T36 s0_9 x33_2).f3).length c227_3)) g none) := ⟨by repeat (first | (with_reducible first | exact HK.out | apply KeepBut.set_ | apply keep_drewN | apply keep_drew | apply keep_alloc | refine keep_far ?_ GW228.out _) | exact HK.out)⟩
                      have n4_ : Aside0 (Below w0.heap.size w0 ((((w21.setCell ⟨gb228, 0, none⟩ (.int .i64 ((rd_T36 s0_9 x33_2).f0))).setCell ⟨gb228, 1, none⟩ (.int .i64 ((rd_T36 s0_9 x33_2).f1))).setCell ⟨gb228, 2, none⟩ (.slice A227_2 ((rd_T36 s0_9 x33_2).f2).length c227_2)).setCell ⟨gb228, 3, none⟩ (.slice A227_3 ((rd_T36 s0_9 x33_2).f3).length c227_3))) := ⟨by repeat (first | (with_reducible first | exact HB.out | apply below_alloc | apply pw_below_drewN | apply below_drew1 | refine below_set ?_ (IsS65.ge HI0.out) | refine below_set ?_ GE228.out) | exact HB.out)⟩
                      (try clear HO_5)
                      (try clear BK228)
                      (try clear HI0)
                      (try clear HK)
                      (try clear HB)
                      generalize ((((w21.setCell ⟨gb228, 0, none⟩ (.int .i64 ((rd_T36 s0_9 x33_2).f0))).setCell ⟨gb228, 1, none⟩ (.int .i64 ((rd_T36 s0_9 x33_2).f1))).setCell ⟨gb228, 2, none⟩ (.slice A227_2 ((rd_T36 s0_9 x33_2).f2).length c227_2)).setCell ⟨gb228, 3, none⟩ (.slice A227_3 ((rd_T36 s0_9 x33_2).f3).length c227_3)) = w24 at n0_ n1_ n2_ n3_ n4_ ⊢
                      have HO_5 := n0_
                      have BK228 := n1_
                      have HI0 := n2_
                      have HK := n3_
                      have HB := n4_
                      clear n0_ n1_ n2_ n3_ n4_
                      have n0_ := Aside0.mk (Kd.R_drew HO_5.out)
                      have n1_ := Aside0.mk (blk_drew BK228.out)
                      have n2_ := Aside0.mk (IsS65.drew HI0.out)
                      have n3_ := Aside0.mk (keep_drew HK.out)
                      have n4_ := Aside0.mk (below_drew1 HB.out)
                      clear HO_5
                      clear BK228
                      clear HI0
                      clear HK
                      clear HB
                      have HO_5 := n0_
                      have BK228 := n1_
                      have HI0 := n2_
                      have HK := n3_
                      have HB := n4_
                      clear n0_ n1_ n2_ n3_ n4_
                      refine start_ (n := 10) (S := fun w' => w'.cell? ⟨gb228, 0, none⟩ = some (.int .i64 ((rd_T36 s0_9 x33_2).f0)) ∧ w'.cell? ⟨gb228, 1, none⟩ = some (.int .i64 ((rd_T36 s0_9 x33_2).f1)) ∧ w'.cell? ⟨gb228, 2, none⟩ = some (.slice A227_2 ((rd_T36 s0_9 x33_2).f2).length c227_2) ∧ w'.cell? ⟨gb228, 3, none⟩ = some (.slice A227_3 ((rd_T36 s0_9 x33_2).f3).length c227_3)) (ds := []) #[false, false, false, false, false, false, false, false, false, false] (by kernel_rfl) rfl rfl ⟨(blk_cell BK228.out 0).trans rfl, (blk_cell BK228.out 1).trans rfl, (blk_cell BK228.out 2).trans rfl, (blk_cell BK228.out 3).trans rfl⟩ (fun hHeld => ?_); refine with_tabW slack_view_least.tab11 slack_view_least.bits11 (fun HT_ HW_ => ?_)
                      generalize w24.drew = w25 at HO_5 BK228 HI0 HK HB hHeld ⊢
                      refine pure_ (i := 0) (N := some 41) (v := ?_) (a' := ?_) #[true, false, false, false, false, false, false, false, false, false] rfl rfl (any_of HT_.out (by kernel_rfl)) (fun _ _ _ h => h) (Or.inl ⟨by rfl, ?_⟩) ?_ ?_
                      rotate_left
                      · intro w'
                        go_simp
                        with_reducible rfl
                      rotate_left
                      · simp only [Act.put, List.setIfInBounds_toArray, List.set_cons_zero, List.set_cons_succ, i64_w, i32_w]
                        rfl
                      refine pure_ (i := 1) (N := some 42) (v := ?_) (a' := ?_) #[true, true, false, false, false, false, false, false, false, false] rfl rfl (any_of HT_.out (by kernel_rfl)) (fun _ _ _ h => h) (Or.inl ⟨by rfl, ?_⟩) ?_ ?_
                      rotate_left
                      · intro w'
                        go_simp
                        with_reducible rfl
                      rotate_left
                      · simp only [Act.put, List.setIfInBounds_toArray, List.set_cons_zero, List.set_cons_succ, i64_w, i32_w]
                        rfl
                      refine pure_ (i := 2) (N := some 43) (v := ?_) (a' := ?_) #[true, true, true, false, false, false, false, false, false, false] rfl rfl (any_of HT_.out (by kernel_rfl)) (fun _ _ _ h => h) (Or.inl ⟨by rfl, ?_⟩) ?_ ?_
                      rotate_left
                      · intro w'
                        go_simp
                        with_reducible rfl
                      rotate_left
                      · simp only [Act.put, List.setIfInBounds_toArray, List.set_cons_zero, List.set_cons_succ, i64_w, i32_w]
                        rfl
                      refine pure_ (i := 4) (N := some 45) (v := ?_) (a' := ?_) #[true, true, true, false, true, false, false, false, false, false] rfl rfl (any_of HT_.out (by kernel_rfl)) (fun _ _ _ h => h) (Or.inl ⟨by rfl, ?_⟩) ?_ ?_
                      rotate_left
                      · intro w'
                        go_simp
                        with_reducible rfl
                      rotate_left
                      · simp only [Act.put, List.setIfInBounds_toArray, List.set_cons_zero, List.set_cons_succ, i64_w, i32_w]
                        rfl
                      refine take_ (i := 5) (N := some 46) (v := ?_) (a' := ?_) #[true, true, true, false, true, true, false, false, false, false] rfl rfl (take_ofW HT_.out HW_.out (by kernel_rfl)) (fun _ _ _ h => h) (Or.inl ⟨by rfl, ?_⟩) hHeld ?_ ?_
                      rotate_left
                      · rintro w' ⟨s0, s1, s2, s3⟩
                        go_simp
                        with_reducible rfl
                      rotate_left
                      · simp only [Act.put, List.setIfInBounds_toArray, List.set_cons_zero, List.set_cons_succ, i64_w, i32_w]
                        rfl
                      refine one_ (i := 3) (N := some 44) #[true, true, true, true, true, true, false, false, false, false] rfl rfl (one_of HT_.out (by kernel_rfl)) (by decide) (fun K hK => ?_)
                      refine goes_ Try.func47 (by kernel_rfl) rfl #[.pointer (some ⟨g, 0, none⟩), .int .i64 x33_2] (by rfl) rfl rfl (by (try simp only [List.map_toArray, List.map_cons, List.map_nil]); first | done | rfl | (simp only [List.length_drop, List.length_take]; rfl)) ?_
                      with_reducible refine (slack_view_from.calls g s0_0 s0_1 s0_2 x1003_2 x1004_2 x1005_2 x1006_2 x1007_2 x1008_2 s0_9 s0_10 s0_11 s0_12 x1013_2 x33_2 t229 t230 t231 t232 t233 t234 t235 t236 w0 _ ?side1 ?side2 A18.out).mono ?_
                      (case side1 => repeat (first | (with_reducible first | exact HI0.out | apply IsS65.alloc | apply IsS65.drewN | apply IsS65.drew | apply IsS65.set_3 | apply IsS65.set_4 | apply IsS65.set_5 | apply IsS65.set_6 | apply IsS65.set_7 | apply IsS65.set_8 | apply IsS65.set_13 | refine IsS65.far ?_ NB0_228.out _) | exact HI0.out))
                      (case side2 => repeat (first | (with_reducible first | exact HB.out | apply below_alloc | apply pw_below_drewN | apply below_drew1 | refine below_set ?_ (IsS65.ge HI0.out) | refine below_set ?_ GE228.out) | exact HB.out))
                      rintro e w26 ⟨rfl, hi, hb, hk⟩
                      refine ⟨_, rfl, ?_⟩
                      have n0_ := Aside0.mk (Kd.R_mono (Kd.R_keep (IsS65.apart (show IsS65 w0 _ g s0_0 s0_1 s0_2 x1003_2 x1004_2 x1005_2 x1006_2 x1007_2 x1008_2 s0_9 s0_10 s0_11 s0_12 x1013_2 from by repeat (first | (with_reducible first | exact HI0.out | apply IsS65.alloc | apply IsS65.drewN | apply IsS65.drew | apply IsS65.set_3 | apply IsS65.set_4 | apply IsS65.set_5 | apply IsS65.set_6 | apply IsS65.set_7 | apply IsS65.set_8 | apply IsS65.set_13 | refine IsS65.far ?_ NB0_228.out _) | exact HI0.out)) (by (with_reducible repeat (first | apply Kd.R_alloc | apply Kd.R_drewN | apply Kd.R_drew)); exact HO_5.out) (by decide)) hk (fun _ h => h.2)) (fun _ h => h.1))
                      have n1_ := Aside0.mk (KeepBut.blk hk (g' := gb228) (o := .cells #[.int .i64 ((rd_T36 s0_9 x33_2).f0), .int .i64 ((rd_T36 s0_9 x33_2).f1), .slice A227_2 ((rd_T36 s0_9 x33_2).f2).length c227_2, .slice A227_3 ((rd_T36 s0_9 x33_2).f3).length c227_3] 36 (0, 0)) (by (with_reducible repeat (first | refine blk_drewN ?_ _ | refine blk_drew ?_ | refine blk_alloc ?_ _)); exact BK228.out) NB228_0.out (by simp))
                      have n2_ := Aside0.mk (KeepBut.trans (by repeat (first | (with_reducible first | exact HK.out | apply KeepBut.set_ | apply keep_drewN | apply keep_drew | apply keep_alloc | refine keep_far ?_ GW228.out _) | exact HK.out)) hk (.inl rfl))
                      have n3_ := Aside0.mk (hb)
                      have n4_ := Aside0.mk (hi)
                      clear HO_5
                      clear BK228
                      clear HK
                      clear HB
                      clear HI0
                      have HO_5 := n0_
                      have BK228 := n1_
                      have HK := n2_
                      have HB := n3_
                      have HI0 := n4_
                      clear n0_ n1_ n2_ n3_ n4_
                      (try clear hb)
                      (try clear hb2)
                      (try clear hk)
                      (try clear hi)
                      refine hK.out _ _ ⟨(blk_cell BK228.out 0).trans rfl, (blk_cell BK228.out 1).trans rfl, (blk_cell BK228.out 2).trans rfl, (blk_cell BK228.out 3).trans rfl⟩ (fun hHeld => ?_)
                      clear hK K
                      refine norm_ (a' := ?_) ?_ ?_
                      rotate_left
                      · show Act.put _ (some 44) _ = _
                        simp only [Act.put, List.setIfInBounds_toArray, List.set_cons_zero, List.set_cons_succ, i64_w, i32_w]
                        rfl
                      refine pure_ (i := 6) (N := some 47) (v := ?_) (a' := ?_) #[true, true, true, true, true, true, true, false, false, false] rfl rfl (any_of HT_.out (by kernel_rfl)) (fun _ _ _ h => h) (Or.inl ⟨by rfl, ?_⟩) ?_ ?_
                      rotate_left
                      · intro w'
                        go_simp
                        with_reducible rfl
                      rotate_left
                      · simp only [Act.put, List.setIfInBounds_toArray, List.set_cons_zero, List.set_cons_succ, i64_w, i32_w]
                        rfl
                      refine one_ (i := 7) (N := some 48) #[true, true, true, true, true, true, true, true, false, false] rfl rfl (one_of HT_.out (by kernel_rfl)) (by decide) (fun K hK => ?_)
                      refine value_ (w1 := ?_) (v := ?_) (by rfl) rfl ?_ ?_
                      rotate_left 2
                      · go_simp
                        constructor
                        · rfl
                        · rfl
                      refine hK.out _ _ ⟨(blk_cell (blk_alloc BK228.out _) 0).trans rfl, (blk_cell (blk_alloc BK228.out _) 1).trans rfl, (blk_cell (blk_alloc BK228.out _) 2).trans rfl, (blk_cell (blk_alloc BK228.out _) 3).trans rfl⟩ (fun hHeld => ?_)
                      clear hK K
                      refine norm_ (a' := ?_) ?_ ?_
                      rotate_left
                      · show Act.put _ (some 48) _ = _
                        simp only [Act.put, List.setIfInBounds_toArray, List.set_cons_zero, List.set_cons_succ, i64_w, i32_w]
                        rfl
                      refine one_ (i := 8) (N := some 49) #[true, true, true, true, true, true, true, true, true, false] rfl rfl (one_of HT_.out (by kernel_rfl)) (by decide) (fun K hK => ?_)
                      refine Kd.R_append_step (Kd.int .i64) w.heap.size (by rfl) (.tmp 41) (.tmp 48) 28 3 (.int .i64 0) 8 rfl Try.underlying28 info3 rfl (by decide) (by omega) u5 x5_2 (wrap64 (t229 + ((rd_T36 s0_9 x33_2).f0))) [.int .i64 (wrap64 (t229 + ((rd_T36 s0_9 x33_2).f0)))] (fun _ => True) (fun _ => False) rfl rfl ?aP (fun _ hk => hk.elim) ?aF ?aO (Below.refl _ _) ?aS ?aL ?_
                      (case aP => exact rfl)
                      (case aF => exact (fun _ _ => trivial))
                      (case aO => exact (by (with_reducible repeat (first | apply Kd.R_alloc | apply Kd.R_drewN | apply Kd.R_drew)); exact HO_5.out))
                      (case aS => exact (keep_size (w := w) (g := g) (row := none) (by repeat (first | (with_reducible first | exact HK.out | apply KeepBut.set_ | apply keep_drewN | apply keep_drew | apply keep_alloc | refine keep_far ?_ GW228.out _) | exact HK.out))))
                      (case aL => have := LMc19.out; omega)
                      intro v238 w27 ho hb hg hat
                      rw [← Ny237.out] at ho
                      have n0_ := Aside0.mk (IsS65.grown (by repeat (first | (with_reducible first | exact HI0.out | apply IsS65.alloc | apply IsS65.drewN | apply IsS65.drew | apply IsS65.set_3 | apply IsS65.set_4 | apply IsS65.set_5 | apply IsS65.set_6 | apply IsS65.set_7 | apply IsS65.set_8 | apply IsS65.set_13 | refine IsS65.far ?_ NB0_228.out _) | exact HI0.out)) hg (IsS65.own_ne HI0.out HO_5.out (by decide)))
                      have n1_ := Aside0.mk (blk_grown (g := gb228) (o := .cells #[.int .i64 ((rd_T36 s0_9 x33_2).f0), .int .i64 ((rd_T36 s0_9 x33_2).f1), .slice A227_2 ((rd_T36 s0_9 x33_2).f2).length c227_2, .slice A227_3 ((rd_T36 s0_9 x33_2).f3).length c227_3] 36 (0, 0)) (by (with_reducible repeat (first | refine blk_drewN ?_ _ | refine blk_drew ?_ | refine blk_alloc ?_ _)); exact BK228.out) hg (Kd.R_ne HO_5.out BK228.out (by decide)))
                      have n2_ := Aside0.mk (below_weaken (by repeat (first | (with_reducible first | exact HB.out | apply below_alloc | apply pw_below_drewN | apply below_drew1 | refine below_set ?_ (IsS65.ge HI0.out) | refine below_set ?_ GE228.out) | exact HB.out)) HL.out hb)
                      have n3_ := Aside0.mk (KeepBut.trans (by repeat (first | (with_reducible first | exact HK.out | apply KeepBut.set_ | apply keep_drewN | apply keep_drew | apply keep_alloc | refine keep_far ?_ GW228.out _) | exact HK.out)) (KeepBut.of_grown hg g) (Kd.R_base2 HO_5.out))
                      have n4_ := Aside0.mk (ho)
                      clear HI0
                      clear BK228
                      clear HB
                      clear HK
                      clear HO_5
                      have HI0 := n0_
                      have BK228 := n1_
                      have HB := n2_
                      have HK := n3_
                      have HO239 := n4_
                      clear n0_ n1_ n2_ n3_ n4_
                      clear ho hb hg hat
                      refine hK.out _ _ ⟨(blk_cell BK228.out 0).trans rfl, (blk_cell BK228.out 1).trans rfl, (blk_cell BK228.out 2).trans rfl, (blk_cell BK228.out 3).trans rfl⟩ (fun hHeld => ?_)
                      clear hK K
                      refine norm_ (a' := ?_) ?_ ?_
                      rotate_left
                      · show Act.put _ (some 49) _ = _
                        simp only [Act.put, List.setIfInBounds_toArray, List.set_cons_zero, List.set_cons_succ, i64_w, i32_w]
                        rfl
                      refine pure_ (i := 9) (N := some 5) (v := ?_) (a' := ?_) #[true, true, true, true, true, true, true, true, true, true] rfl rfl (any_of HT_.out (by kernel_rfl)) (fun _ _ _ h => h) (Or.inl ⟨by rfl, ?_⟩) ?_ ?_
                      rotate_left
                      · intro w'
                        go_simp
                        with_reducible rfl
                      rotate_left
                      · simp only [Act.put, List.setIfInBounds_toArray, List.set_cons_zero, List.set_cons_succ, i64_w, i32_w]
                        rfl
                      refine done_ (done_of HT_.out (by kernel_rfl)) ?_
                      try go_wp2
                      go_roundg k2
                      case measure => have := HK1.out; have := HK2.out; omega
                      case rel => exact ⟨(y237), (wrap64 (x33_2 + 1)), (t230), (t231), (t232), (t233), (t234), (t235), (t236), (by first | rfl | (simp; done) | (simp [*]; done)), H', ⟨by have := HK1.out; have := HK2.out; omega⟩, ⟨by (with_reducible repeat (first | apply Kd.R_alloc | apply Kd.R_drewN | apply Kd.R_drew)); exact HO239.out⟩, ⟨by repeat (first | (with_reducible first | exact HI0.out | apply IsS65.alloc | apply IsS65.drewN | apply IsS65.drew | apply IsS65.set_3 | apply IsS65.set_4 | apply IsS65.set_5 | apply IsS65.set_6 | apply IsS65.set_7 | apply IsS65.set_8 | apply IsS65.set_13 | refine IsS65.far ?_ NB0_228.out _) | exact HI0.out)⟩, ⟨by repeat (first | (with_reducible first | exact HK.out | apply KeepBut.set_ | apply keep_drewN | apply keep_drew | apply keep_alloc | refine keep_far ?_ GW228.out _) | exact HK.out)⟩, ⟨by repeat (first | (with_reducible first | exact HB.out | apply below_alloc | apply pw_below_drewN | apply below_drew1 | refine below_set ?_ (IsS65.ge HI0.out) | refine below_set ?_ GE228.out) | exact HB.out)⟩⟩
                    · rw [if_neg c19] at H
                      exact absurd H (by simp)
                  · rw [if_neg c17] at H
                    have c17b0 : decide (0 < ((rd_T36 s0_9 x33_2).f0)) = false := decide_eq_false c17
                    clear c17
                    have H' := Aside0.mk H
                    clear H
                    obtain ⟨ASz28_0, cSz28_0, ASz28_1, cSz28_1, ASz28_2, cSz28_2, ASz28_9, cSz28_9, ASz28_10, cSz28_10, ASz28_11, cSz28_11, ASz28_12, cSz28_12, HGz28, hgz28, HSz28_0, HSz28_1, HSz28_2, HSz28_9, HSz28_10, HSz28_11, HSz28_12⟩ := HI0.out
                    have hcz28_0 := cellS65_0 HGz28
                    have hcz28_1 := cellS65_1 HGz28
                    have hcz28_2 := cellS65_2 HGz28
                    have hcz28_3 := cellS65_3 HGz28
                    have hcz28_4 := cellS65_4 HGz28
                    have hcz28_5 := cellS65_5 HGz28
                    have hcz28_6 := cellS65_6 HGz28
                    have hcz28_7 := cellS65_7 HGz28
                    have hcz28_8 := cellS65_8 HGz28
                    have hcz28_9 := cellS65_9 HGz28
                    have hcz28_10 := cellS65_10 HGz28
                    have hcz28_11 := cellS65_11 HGz28
                    have hcz28_12 := cellS65_12 HGz28
                    have hcz28_13 := cellS65_13 HGz28
                    have hfz28_3 := blk_frozen HGz28 3
                    have hfz28_4 := blk_frozen HGz28 4
                    have hfz28_5 := blk_frozen HGz28 5
                    have hfz28_6 := blk_frozen HGz28 6
                    have hfz28_7 := blk_frozen HGz28 7
                    have hfz28_8 := blk_frozen HGz28 8
                    have hfz28_13 := blk_frozen HGz28 13
                    clear HGz28 hgz28
                    have p227 : 0 ≤ (x33_2 : Int) := of_decide_eq_true (by first | (with_reducible assumption) | assumption)
                    have q227 : x33_2 < (s0_9.length : Int) := of_decide_eq_true (by first | (with_reducible assumption) | assumption)
                    obtain ⟨ad227, A227_2, c227_2, A227_3, c227_3, e227, hx227_0, hx227_1, hx227_2, hx227_3, hl227_2, hi227_2, hl227_3, hi227_3⟩ := at_T36 HSz13_9 x33_2 p227 q227
                    cases e227
                    replace hx227_0 := pw_cell_below HB.out hx227_0
                    replace hx227_1 := pw_cell_below HB.out hx227_1
                    replace hx227_2 := pw_cell_below HB.out hx227_2
                    replace hx227_3 := pw_cell_below HB.out hx227_3
                    have HR227_2 := Aside0.mk (Kd.C_below hi227_2 HB.out)
                    have HC227_2 := Aside0.mk hl227_2
                    clear hi227_2 hl227_2
                    have HR227_3 := Aside0.mk (Kd.C_below hi227_3 HB.out)
                    have HC227_3 := Aside0.mk hl227_3
                    clear hi227_3 hl227_3
                    replace p227 := eq_true p227
                    replace q227 := eq_true q227
                    go_wp2_with (first | ((with_reducible refine gate_dst (N := 9) rfl ?_); refine box_event ?hg (N := 9) ?hd (cs := #[.int .i64 0, .int .i64 0, .slice none 0 0, .slice none 0 0]) (t := 36) ?hr ?_; (case hd => rfl); (case hg => rfl); (case hr => first | (go_simp; done) | (go_simp; rfl)); intro gb228 hg w29 hbox hb; have n0_ := Aside0.mk (Kd.R_below (by (with_reducible repeat (first | apply Kd.R_alloc | apply Kd.R_drewN | apply Kd.R_drew)); exact HO_5.out) hb); have n1_ := Aside0.mk (IsS65.below (by repeat (first | (with_reducible first | exact HI0.out | apply IsS65.alloc | apply IsS65.drewN | apply IsS65.drew | apply IsS65.set_3 | apply IsS65.set_4 | apply IsS65.set_5 | apply IsS65.set_6 | apply IsS65.set_7 | apply IsS65.set_8 | apply IsS65.set_13) | exact HI0.out)) hb); have n2_ := Aside0.mk (Kd.C_below (by repeat (first | (with_reducible exact HR227_2.out) | (with_reducible refine Kd.C_alloc ?_ _) | (with_reducible refine Kd.C_drewN ?_ _) | (with_reducible refine Kd.C_drew ?_) | exact HR227_2.out)) hb); have n3_ := Aside0.mk (Kd.C_below (by repeat (first | (with_reducible exact HR227_3.out) | (with_reducible refine Kd.C_alloc ?_ _) | (with_reducible refine Kd.C_drewN ?_ _) | (with_reducible refine Kd.C_drew ?_) | exact HR227_3.out)) hb); have n4_ := Aside0.mk (KeepBut.trans (by repeat (first | (with_reducible first | exact HK.out | apply KeepBut.set_ | apply keep_drewN | apply keep_drew | apply keep_alloc) | exact HK.out)) (KeepBut.of_below hb g none) (.inl rfl)); have n5_ := Aside0.mk (below_step (by repeat (first | (with_reducible first | exact HB.out | apply below_alloc | apply pw_below_drewN | apply below_drew1 | refine below_set ?_ (IsS65.ge HI0.out)) | exact HB.out)) hb); have n6_ := Aside0.mk (hbox); have n7_ := Aside0.mk ((by rw [hg]; exact (keep_size (w := w) (g := g) (row := none) (by repeat (first | (with_reducible first | exact HK.out | apply KeepBut.set_ | apply keep_drewN | apply keep_drew | apply keep_alloc) | exact HK.out))) : w.heap.size ≤ gb228)); have n8_ := Aside0.mk ((Nat.le_trans HW0.out (by rw [hg]; exact (keep_size (w := w) (g := g) (row := none) (by repeat (first | (with_reducible first | exact HK.out | apply KeepBut.set_ | apply keep_drewN | apply keep_drew | apply keep_alloc) | exact HK.out))) : w.heap.size ≤ gb228) : w0.heap.size ≤ gb228)); have n9_ := Aside0.mk ((by rw [hg]; exact Nat.ne_of_lt (IsS65.lt (show IsS65 w0 _ g s0_0 s0_1 s0_2 x1003_2 x1004_2 x1005_2 x1006_2 x1007_2 x1008_2 s0_9 s0_10 s0_11 s0_12 x1013_2 from by repeat (first | (with_reducible first | exact HI0.out | apply IsS65.alloc | apply IsS65.drewN | apply IsS65.drew | apply IsS65.set_3 | apply IsS65.set_4 | apply IsS65.set_5 | apply IsS65.set_6 | apply IsS65.set_7 | apply IsS65.set_8 | apply IsS65.set_13) | exact HI0.out))) : g ≠ gb228)); have n10_ := Aside0.mk ((by rw [hg]; exact Nat.ne_of_gt (IsS65.lt (show IsS65 w0 _ g s0_0 s0_1 s0_2 x1003_2 x1004_2 x1005_2 x1006_2 x1007_2 x1008_2 s0_9 s0_10 s0_11 s0_12 x1013_2 from by repeat (first | (with_reducible first | exact HI0.out | apply IsS65.alloc | apply IsS65.drewN | apply IsS65.drew | apply IsS65.set_3 | apply IsS65.set_4 | apply IsS65.set_5 | apply IsS65.set_6 | apply IsS65.set_7 | apply IsS65.set_8 | apply IsS65.set_13) | exact HI0.out))) : gb228 ≠ g)); clear HO_5; clear HI0; clear HR227_2; clear HR227_3; clear HK; clear HB; have HO_5 := n0_; have HI0 := n1_; have HR227_2 := n2_; have HR227_3 := n3_; have HK := n4_; have HB := n5_; have BK228 := n6_; have GW228 := n7_; have GE228 := n8_; have NB0_228 := n9_; have NB228_0 := n10_; clear n0_ n1_ n2_ n3_ n4_ n5_ n6_ n7_ n8_ n9_ n10_; clear hb hbox hg; have hnb30 := NB228_0.out; have hnc30 := NB0_228.out; have hcz31_0 : w29.cell? ⟨gb228, 0, none⟩ = some (.int .i64 0) := (blk_cell BK228.out 0).trans rfl; have hcz31_1 : w29.cell? ⟨gb228, 1, none⟩ = some (.int .i64 0) := (blk_cell BK228.out 1).trans rfl; have hcz31_2 : w29.cell? ⟨gb228, 2, none⟩ = some (.slice none 0 0) := (blk_cell BK228.out 2).trans rfl; have hcz31_3 : w29.cell? ⟨gb228, 3, none⟩ = some (.slice none 0 0) := (blk_cell BK228.out 3).trans rfl; have hfz31_0 := blk_frozen BK228.out 0; have hfz31_1 := blk_frozen BK228.out 1; have hfz31_2 := blk_frozen BK228.out 2; have hfz31_3 := blk_frozen BK228.out 3))
                    go_roundg k2
                    case measure => have := HK1.out; have := HK2.out; omega
                    case rel => exact ⟨(x5_2), (wrap64 (x33_2 + 1)), (x1003_2), (x1004_2), (x1005_2), (x1006_2), (x1007_2), (x1008_2), (x1013_2), (by first | rfl | (simp; done) | (simp [*]; done)), H', ⟨by have := HK1.out; have := HK2.out; omega⟩, ⟨by (with_reducible repeat (first | apply Kd.R_alloc | apply Kd.R_drewN | apply Kd.R_drew)); exact Kd.R_mono (Kd.R_far (p := ⟨gb228, 3, none⟩) (Kd.R_far (p := ⟨gb228, 2, none⟩) (Kd.R_far (p := ⟨gb228, 1, none⟩) (Kd.R_far (p := ⟨gb228, 0, none⟩) (Kd.R_types HO_5.out BK228.out (by decide)) (fun _ hk => hk.2) (.int .i64 ((rd_T36 s0_9 x33_2).f0))) (fun _ hk => hk.2) (.int .i64 ((rd_T36 s0_9 x33_2).f1))) (fun _ hk => hk.2) (.slice A227_2 ((rd_T36 s0_9 x33_2).f2).length c227_2)) (fun _ hk => hk.2) (.slice A227_3 ((rd_T36 s0_9 x33_2).f3).length c227_3)) (fun _ hk => trivial)⟩, ⟨by repeat (first | (with_reducible first | exact HI0.out | apply IsS65.alloc | apply IsS65.drewN | apply IsS65.drew | apply IsS65.set_3 | apply IsS65.set_4 | apply IsS65.set_5 | apply IsS65.set_6 | apply IsS65.set_7 | apply IsS65.set_8 | apply IsS65.set_13 | refine IsS65.far ?_ NB0_228.out _) | exact HI0.out)⟩, ⟨by repeat (first | (with_reducible first | exact HK.out | apply KeepBut.set_ | apply keep_drewN | apply keep_drew | apply keep_alloc | refine keep_far ?_ GW228.out _) | exact HK.out)⟩, ⟨by repeat (first | (with_reducible first | exact HB.out | apply below_alloc | apply pw_below_drewN | apply below_drew1 | refine below_set ?_ (IsS65.ge HI0.out) | refine below_set ?_ GE228.out) | exact HB.out)⟩⟩
                · rw [if_neg c16] at H
                  exact absurd H (by simp)
              · rw [if_neg c15] at H
                exact absurd H (by simp)
            · rw [if_neg c14] at H
              have c14b0 : decide (x33_2 < (s0_9.length : Int)) = false := decide_eq_false c14
              clear c14
              replace H := Option.bind_eq_some_iff.mp H
              obtain ⟨t240, A320, H⟩ := H
              replace H : (slack_view_least.l2 k2 a1 t240 x5_2 (x5_2.length : Int) 0 s0_0 s0_1 s0_2 x1003_2 x1004_2 x1005_2 x1006_2 x1007_2 x1008_2 s0_9 s0_10 s0_11 s0_12 x1013_2) = some (r1, r2, r3, r4, r5, r6, r7, r8) := H
              have A32 := Aside0.mk A320
              clear A320
              have H' := Aside0.mk H
              clear H
              go_wp2_with (first | ((with_reducible refine gate_callee (f := 44) rfl ?_); refine goesL_ (some 51) rfl rfl Try.func44 (by kernel_rfl) rfl #[.int .i64 1073741824] rfl (by (try simp only [List.map_toArray, List.map_cons, List.map_nil]); first | done | rfl | (simp only [List.length_drop, List.length_take]; rfl)) ?_; (with_reducible refine (fix_Whole.calls 1073741824 t240 _ A32.out).mono ?_); rintro e w33 ⟨rfl, hb⟩; refine ⟨_, rfl, ?_⟩; have n0_ := Aside0.mk (Kd.R_below (by (with_reducible repeat (first | apply Kd.R_alloc | apply Kd.R_drewN | apply Kd.R_drew)); exact HO_5.out) hb); have n1_ := Aside0.mk (IsS65.below (by repeat (first | (with_reducible first | exact HI0.out | apply IsS65.alloc | apply IsS65.drewN | apply IsS65.drew | apply IsS65.set_3 | apply IsS65.set_4 | apply IsS65.set_5 | apply IsS65.set_6 | apply IsS65.set_7 | apply IsS65.set_8 | apply IsS65.set_13) | exact HI0.out)) hb); have n2_ := Aside0.mk (KeepBut.trans (by repeat (first | (with_reducible first | exact HK.out | apply KeepBut.set_ | apply keep_drewN | apply keep_drew | apply keep_alloc) | exact HK.out)) (KeepBut.of_below hb g none) (.inl rfl)); have n3_ := Aside0.mk (below_step (by repeat (first | (with_reducible first | exact HB.out | apply below_alloc | apply pw_below_drewN | apply below_drew1 | refine below_set ?_ (IsS65.ge HI0.out)) | exact HB.out)) hb); clear HO_5; clear HI0; clear HK; clear HB; have HO_5 := n0_; have HI0 := n1_; have HK := n2_; have HB := n3_; clear n0_ n1_ n2_ n3_; (try clear hb); (try clear hb2); (try clear hk); (try clear hi); obtain ⟨Ao34, co34, eo34⟩ := Kd.R_slice HO_5.out; subst eo34))
              go_loopg [10, 54] k2 (fun kq v10 v54 w' => ∃ (x10_3 : Int) (x54_3 : Int) (x1003_3 : Int) (x1004_3 : Int) (x1005_3 : Int) (x1006_3 : Int) (x1007_3 : Int) (x1008_3 : Int) (x1013_3 : Int), v10 = .int .i64 x10_3 ∧ v54 = .int .i64 x54_3 ∧ Aside0 (slack_view_least.l2 kq a1 x10_3 x5_2 (x5_2.length : Int) x54_3 s0_0 s0_1 s0_2 x1003_3 x1004_3 x1005_3 x1006_3 x1007_3 x1008_3 s0_9 s0_10 s0_11 s0_12 x1013_3 = some (r1, r2, r3, r4, r5, r6, r7, r8)) ∧ Aside0 (kq ≤ k2) ∧ Aside0 (Kd.R (Kd.int .i64) 3 w' w.heap.size (fun _ => True) (.slice Ao34 x5_2.length co34) x5_2) ∧ Aside0 (IsS65 w0 w' g s0_0 s0_1 s0_2 x1003_3 x1004_3 x1005_3 x1006_3 x1007_3 x1008_3 s0_9 s0_10 s0_11 s0_12 x1013_3) ∧ Aside0 (KeepBut w w' g none) ∧ Aside0 (Below w0.heap.size w0 w'))
              case atStart => exact ⟨(t240), (0), (x1003_2), (x1004_2), (x1005_2), (x1006_2), (x1007_2), (x1008_2), (x1013_2), (by first | rfl | (simp; done) | (simp [*]; done)), (by first | rfl | (simp; done) | (simp [*]; done)), H', ⟨Nat.le_refl _⟩, ⟨by (with_reducible repeat (first | apply Kd.R_alloc | apply Kd.R_drewN | apply Kd.R_drew)); exact HO_5.out⟩, ⟨by repeat (first | (with_reducible first | exact HI0.out | apply IsS65.alloc | apply IsS65.drewN | apply IsS65.drew | apply IsS65.set_3 | apply IsS65.set_4 | apply IsS65.set_5 | apply IsS65.set_6 | apply IsS65.set_7 | apply IsS65.set_8 | apply IsS65.set_13) | exact HI0.out)⟩, ⟨by repeat (first | (with_reducible first | exact HK.out | apply KeepBut.set_ | apply keep_drewN | apply keep_drew | apply keep_alloc) | exact HK.out)⟩, ⟨by repeat (first | (with_reducible first | exact HB.out | apply below_alloc | apply pw_below_drewN | apply below_drew1 | refine below_set ?_ (IsS65.ge HI0.out)) | exact HB.out)⟩⟩
              case round =>
                clear H'
                try clear c1
                try clear c2
                try clear p2
                try clear q2
                try clear hx2
                try clear c3
                try clear c4
                try clear c4b0
                try clear c5
                try clear c5b0
                try clear c6
                try clear c6b0
                try clear p6
                try clear c7
                try clear c10
                try clear c14
                try clear c14b0
                try clear c15
                try clear c15b0
                try clear c16
                try clear c16b0
                try clear c17
                try clear c17b0
                try clear c19
                try clear c22
                try clear p22
                try clear q22
                try clear hx22
                try clear c30
                try clear hcz11_0
                try clear hcz11_1
                try clear hcz11_2
                try clear hcz11_3
                try clear hcz11_4
                try clear hcz11_5
                try clear hcz13_0
                try clear hcz13_1
                try clear hcz13_10
                try clear hcz13_11
                try clear hcz13_12
                try clear hcz13_13
                try clear hcz13_2
                try clear hcz13_3
                try clear hcz13_4
                try clear hcz13_5
                try clear hcz13_6
                try clear hcz13_7
                try clear hcz13_8
                try clear hcz13_9
                try clear hcz20_0
                try clear hcz20_1
                try clear hcz20_10
                try clear hcz20_11
                try clear hcz20_12
                try clear hcz20_13
                try clear hcz20_2
                try clear hcz20_3
                try clear hcz20_4
                try clear hcz20_5
                try clear hcz20_6
                try clear hcz20_7
                try clear hcz20_8
                try clear hcz20_9
                try clear hcz23_0
                try clear hcz23_1
                try clear hcz23_2
                try clear hcz23_3
                try clear hcz28_0
                try clear hcz28_1
                try clear hcz28_10
                try clear hcz28_11
                try clear hcz28_12
                try clear hcz28_13
                try clear hcz28_2
                try clear hcz28_3
                try clear hcz28_4
                try clear hcz28_5
                try clear hcz28_6
                try clear hcz28_7
                try clear hcz28_8
                try clear hcz28_9
                try clear hcz31_0
                try clear hcz31_1
                try clear hcz31_2
                try clear hcz31_3
                try clear hcz3_0
                try clear hcz3_1
                try clear hcz3_10
                try clear hcz3_11
                try clear hcz3_12
                try clear hcz3_13
                try clear hcz3_2
                try clear hcz3_3
                try clear hcz3_4
                try clear hcz3_5
                try clear hcz3_6
                try clear hcz3_7
                try clear hcz3_8
                try clear hcz3_9
                try clear hcz8_0
                try clear hcz8_1
                try clear hcz8_10
                try clear hcz8_11
                try clear hcz8_12
                try clear hcz8_13
                try clear hcz8_2
                try clear hcz8_3
                try clear hcz8_4
                try clear hcz8_5
                try clear hcz8_6
                try clear hcz8_7
                try clear hcz8_8
                try clear hcz8_9
                try clear hfz11_0
                try clear hfz11_1
                try clear hfz11_2
                try clear hfz11_3
                try clear hfz11_4
                try clear hfz11_5
                try clear hfz13_13
                try clear hfz13_3
                try clear hfz13_4
                try clear hfz13_5
                try clear hfz13_6
                try clear hfz13_7
                try clear hfz13_8
                try clear hfz20_13
                try clear hfz20_3
                try clear hfz20_4
                try clear hfz20_5
                try clear hfz20_6
                try clear hfz20_7
                try clear hfz20_8
                try clear hfz23_0
                try clear hfz23_1
                try clear hfz23_2
                try clear hfz23_3
                try clear hfz28_13
                try clear hfz28_3
                try clear hfz28_4
                try clear hfz28_5
                try clear hfz28_6
                try clear hfz28_7
                try clear hfz28_8
                try clear hfz31_0
                try clear hfz31_1
                try clear hfz31_2
                try clear hfz31_3
                try clear hfz3_13
                try clear hfz3_3
                try clear hfz3_4
                try clear hfz3_5
                try clear hfz3_6
                try clear hfz3_7
                try clear hfz3_8
                try clear hfz8_13
                try clear hfz8_3
                try clear hfz8_4
                try clear hfz8_5
                try clear hfz8_6
                try clear hfz8_7
                try clear hfz8_8
                try clear hx222_0
                try clear hx222_1
                try clear hx222_2
                try clear hx222_3
                try clear hx222_4
                try clear hx222_5
                try clear hx227_0
                try clear hx227_1
                try clear hx227_2
                try clear hx227_3
                try clear p2
                try clear p222
                try clear p227
                try clear p6
                try clear q2
                try clear q222
                try clear q227
                obtain ⟨x10_3, x54_3, x1003_3, x1004_3, x1005_3, x1006_3, x1007_3, x1008_3, x1013_3, rfl, rfl, HA, HK3, HO_52, HI0, HK, HB⟩ := hrel
                cases gk with
                | zero => exact absurd HA.out (by simp [slack_view_least.l2])
                | succ k3 =>
                  have H := HA.out
                  clear HA
                  simp only [slack_view_least.l2] at H
                  by_cases c35 : x54_3 < (x5_2.length : Int)
                  · rw [if_pos c35] at H
                    have c35b0 : decide (x54_3 < (x5_2.length : Int)) = true := decide_eq_true c35
                    clear c35
                    by_cases c36 : 0 ≤ x54_3
                    · rw [if_pos c36] at H
                      have c36b0 : decide (0 ≤ x54_3) = true := decide_eq_true c36
                      clear c36
                      by_cases c37 : x54_3 < (x5_2.length : Int)
                      · rw [if_pos c37] at H
                        have c37b0 : decide (x54_3 < (x5_2.length : Int)) = true := decide_eq_true c37
                        clear c37
                        by_cases c38 : (rd x5_2 x54_3) ≥ a1
                        · rw [if_pos c38] at H
                          have c38b0 : decide (a1 ≤ (rd x5_2 x54_3)) = true := decide_eq_true c38
                          clear c38
                          replace H := Option.bind_eq_some_iff.mp H
                          obtain ⟨⟨t242, t243, t244, t245, t246, t247, t248, t249⟩, A390, H⟩ := H
                          replace H : (slack_view_least.l2 k3 a1 (mn x10_3 t242) x5_2 (x5_2.length : Int) (wrap64 (x54_3 + 1)) s0_0 s0_1 s0_2 t243 t244 t245 t246 t247 t248 s0_9 s0_10 s0_11 s0_12 t249) = some (r1, r2, r3, r4, r5, r6, r7, r8) := H
                          have A39 := Aside0.mk A390
                          clear A390
                          obtain ⟨ji40, hji40⟩ : ∃ j_ : Int, (mn x10_3 t242) = j_ := ⟨_, rfl⟩
                          replace H : (slack_view_least.l2 k3 a1 ji40 x5_2 (x5_2.length : Int) (wrap64 (x54_3 + 1)) s0_0 s0_1 s0_2 t243 t244 t245 t246 t247 t248 s0_9 s0_10 s0_11 s0_12 t249) = some (r1, r2, r3, r4, r5, r6, r7, r8) := by first | (rw [hji40] at H; exact H) | (simp only [hji40] at H ⊢; exact H)
                          (try rw [hji40] at A39)
                          have hji40_ : (if t242 < x10_3 then t242 else x10_3) = ji40 := hji40
                          have H' := Aside0.mk H
                          clear H
                          have p241 : 0 ≤ (x54_3 : Int) := of_decide_eq_true (by first | (with_reducible assumption) | assumption)
                          have q241 : x54_3 < (x5_2.length : Int) := of_decide_eq_true (by first | (with_reducible assumption) | assumption)
                          obtain ⟨ad241, e241, hx241_0⟩ := Kd.at_int (Kd.R_reads' HO_52.out).2.2 x54_3 p241 q241
                          cases e241
                          replace p241 := eq_true p241
                          replace q241 := eq_true q241
                          go_wp2_with (first | ((with_reducible refine gate_callee (f := 32) rfl ?_); refine goesL_ (some 64) rfl rfl Try.func32 (by kernel_rfl) rfl #[.pointer (some ⟨g, 0, none⟩), .int .i64 (rd x5_2 x54_3)] rfl (by (try simp only [List.map_toArray, List.map_cons, List.map_nil]); first | done | rfl | (simp only [List.length_drop, List.length_take]; rfl)) ?_; (with_reducible refine (slack_view_at.calls g s0_0 s0_1 s0_2 x1003_3 x1004_3 x1005_3 x1006_3 x1007_3 x1008_3 s0_9 s0_10 s0_11 s0_12 x1013_3 (rd x5_2 x54_3) t242 t243 t244 t245 t246 t247 t248 t249 w0 _ ?side1 ?side2 A39.out).mono ?_); (case side1 => repeat (first | (with_reducible first | exact HI0.out | apply IsS65.alloc | apply IsS65.drewN | apply IsS65.drew | apply IsS65.set_3 | apply IsS65.set_4 | apply IsS65.set_5 | apply IsS65.set_6 | apply IsS65.set_7 | apply IsS65.set_8 | apply IsS65.set_13) | exact HI0.out)); (case side2 => repeat (first | (with_reducible first | exact HB.out | apply below_alloc | apply pw_below_drewN | apply below_drew1 | refine below_set ?_ (IsS65.ge HI0.out)) | exact HB.out)); rintro e w41 ⟨rfl, hi, hb, hk⟩; refine ⟨_, rfl, ?_⟩; have n0_ := Aside0.mk (Kd.R_mono (Kd.R_keep (IsS65.apart (show IsS65 w0 _ g s0_0 s0_1 s0_2 x1003_3 x1004_3 x1005_3 x1006_3 x1007_3 x1008_3 s0_9 s0_10 s0_11 s0_12 x1013_3 from by repeat (first | (with_reducible first | exact HI0.out | apply IsS65.alloc | apply IsS65.drewN | apply IsS65.drew | apply IsS65.set_3 | apply IsS65.set_4 | apply IsS65.set_5 | apply IsS65.set_6 | apply IsS65.set_7 | apply IsS65.set_8 | apply IsS65.set_13) | exact HI0.out)) (by (with_reducible repeat (first | apply Kd.R_alloc | apply Kd.R_drewN | apply Kd.R_drew)); exact HO_52.out) (by decide)) hk (fun _ h => h.2)) (fun _ h => h.1)); have n1_ := Aside0.mk (KeepBut.trans (by repeat (first | (with_reducible first | exact HK.out | apply KeepBut.set_ | apply keep_drewN | apply keep_drew | apply keep_alloc) | exact HK.out)) hk (.inl rfl)); have n2_ := Aside0.mk (hb); have n3_ := Aside0.mk (hi); clear HO_52; clear HK; clear HB; clear HI0; have HO_52 := n0_; have HK := n1_; have HB := n2_; have HI0 := n3_; clear n0_ n1_ n2_ n3_; (try clear hb); (try clear hb2); (try clear hk); (try clear hi)))
                          go_roundg k3
                          case measure => have := HK1.out; have := HK2.out; have := HK3.out; omega
                          case rel => exact ⟨(ji40), (wrap64 (x54_3 + 1)), (t243), (t244), (t245), (t246), (t247), (t248), (t249), (by first | rfl | (simp; done) | (simp only [← hji40] <;> (first | rfl | simp)) | (simp [*]; done)), (by first | rfl | (simp; done) | (simp [*]; done)), H', ⟨by have := HK1.out; have := HK2.out; have := HK3.out; omega⟩, ⟨by (with_reducible repeat (first | apply Kd.R_alloc | apply Kd.R_drewN | apply Kd.R_drew)); exact HO_52.out⟩, ⟨by repeat (first | (with_reducible first | exact HI0.out | apply IsS65.alloc | apply IsS65.drewN | apply IsS65.drew | apply IsS65.set_3 | apply IsS65.set_4 | apply IsS65.set_5 | apply IsS65.set_6 | apply IsS65.set_7 | apply IsS65.set_8 | apply IsS65.set_13) | exact HI0.out)⟩, ⟨by repeat (first | (with_reducible first | exact HK.out | apply KeepBut.set_ | apply keep_drewN | apply keep_drew | apply keep_alloc) | exact HK.out)⟩, ⟨by repeat (first | (with_reducible first | exact HB.out | apply below_alloc | apply pw_below_drewN | apply below_drew1 | refine below_set ?_ (IsS65.ge HI0.out)) | exact HB.out)⟩⟩
                        · rw [if_neg c38] at H
                          have c38b0 : decide (a1 ≤ (rd x5_2 x54_3)) = false := decide_eq_false c38
                          clear c38
                          have H' := Aside0.mk H
                          clear H
                          have p241 : 0 ≤ (x54_3 : Int) := of_decide_eq_true (by first | (with_reducible assumption) | assumption)
                          have q241 : x54_3 < (x5_2.length : Int) := of_decide_eq_true (by first | (with_reducible assumption) | assumption)
                          obtain ⟨ad241, e241, hx241_0⟩ := Kd.at_int (Kd.R_reads' HO_52.out).2.2 x54_3 p241 q241
                          cases e241
                          replace p241 := eq_true p241
                          replace q241 := eq_true q241
                          go_wp2
                          go_roundg k3
                          case measure => have := HK1.out; have := HK2.out; have := HK3.out; omega
                          case rel => exact ⟨(x10_3), (wrap64 (x54_3 + 1)), (x1003_3), (x1004_3), (x1005_3), (x1006_3), (x1007_3), (x1008_3), (x1013_3), (by first | rfl | (simp; done) | (simp [*]; done)), (by first | rfl | (simp; done) | (simp [*]; done)), H', ⟨by have := HK1.out; have := HK2.out; have := HK3.out; omega⟩, ⟨by (with_reducible repeat (first | apply Kd.R_alloc | apply Kd.R_drewN | apply Kd.R_drew)); exact HO_52.out⟩, ⟨by repeat (first | (with_reducible first | exact HI0.out | apply IsS65.alloc | apply IsS65.drewN | apply IsS65.drew | apply IsS65.set_3 | apply IsS65.set_4 | apply IsS65.set_5 | apply IsS65.set_6 | apply IsS65.set_7 | apply IsS65.set_8 | apply IsS65.set_13) | exact HI0.out)⟩, ⟨by repeat (first | (with_reducible first | exact HK.out | apply KeepBut.set_ | apply keep_drewN | apply keep_drew | apply keep_alloc) | exact HK.out)⟩, ⟨by repeat (first | (with_reducible first | exact HB.out | apply below_alloc | apply pw_below_drewN | apply below_drew1 | refine below_set ?_ (IsS65.ge HI0.out)) | exact HB.out)⟩⟩
                      · rw [if_neg c37] at H
                        exact absurd H (by simp)
                    · rw [if_neg c36] at H
                      exact absurd H (by simp)
                  · rw [if_neg c35] at H
                    have c35b0 : decide (x54_3 < (x5_2.length : Int)) = false := decide_eq_false c35
                    clear c35
                    simp only [Option.some.injEq, Prod.mk.injEq] at H
                    obtain ⟨rfl, rfl, rfl, rfl, rfl, rfl, rfl, rfl⟩ := H
                    go_wp2
                    go_ret
                    exact ⟨by first | rfl | (simp [errW_none, errW_some] <;> rfl) | (simp [*, errW_none, errW_some] <;> rfl), by repeat (first | (with_reducible first | exact HI0.out | apply IsS65.alloc | apply IsS65.drewN | apply IsS65.drew | apply IsS65.set_3 | apply IsS65.set_4 | apply IsS65.set_5 | apply IsS65.set_6 | apply IsS65.set_7 | apply IsS65.set_8 | apply IsS65.set_13) | exact HI0.out), by repeat (first | (with_reducible first | exact HB.out | apply below_alloc | apply pw_below_drewN | apply below_drew1 | refine below_set ?_ (IsS65.ge HI0.out)) | exact HB.out), by repeat (first | (with_reducible first | exact HK.out | apply KeepBut.set_ | apply keep_drewN | apply keep_drew | apply keep_alloc) | exact HK.out)⟩
end Go.Proofs.Ytchlbnlhjllcbaa.F
namespace Go.Proofs.Ytchlbnlhjllcbaa.F
open Go.RowKit Go.Proofs.YtchlbnlhjllcbaaW.PrintWords Go.Proofs.YtchlbnlhjllcbaaW.PrintLast Go.Proofs.YtchlbnlhjllcbaaW.PrintMore
attribute [local go_sem] max2_int min2_int max_two min_two max_three min_three max_four min_four
set_option linter.unusedVariables false
def slack_Least.f (l0_0 : List S58) (l0_1 : List S68) (l0_2 : List S71) (a0_3 : Int) (a0_4 : Int) (a0_5 : Int) (a0_6 : Int) (a0_7 : Int) (a0_8 : Int) (l1 : List S36) (l2 : List Int) (l3 : List S38) (l4 : List S73) (a5 : Int) (a6 : Int) : Option Int :=
  (slack_view_least.f 1000 l0_0 l0_1 l0_2 a0_3 a0_4 a0_5 a0_6 a0_7 a0_8 l1 l2 l3 l4 a5 a6).bind fun t => some t.1
set_option maxHeartbeats 4000000 in
theorem slack_Least.calls (A0_0 : Option Addr) (c0_0 : Nat) (l0_0 : List (S58)) (A0_1 : Option Addr) (c0_1 : Nat) (l0_1 : List (S68)) (A0_2 : Option Addr) (c0_2 : Nat) (l0_2 : List (S71)) (a0_3 : Int) (a0_4 : Int) (a0_5 : Int) (a0_6 : Int) (a0_7 : Int) (a0_8 : Int) (A1 : Option Addr) (c1 : Nat) (l1 : List (S36)) (A2 : Option Addr) (c2 : Nat) (l2 : List Int) (A3 : Option Addr) (c3 : Nat) (l3 : List (S38)) (A4 : Option Addr) (c4 : Nat) (l4 : List (S73)) (a5 : Int) (a6 : Int) (r : Int) (w : World) (hr0_0 : Kd.C k58 w A0_0 l0_0.length l0_0) (hc0_0 : l0_0.length ≤ c0_0) (hr0_1 : Kd.C k68 w A0_1 l0_1.length l0_1) (hc0_1 : l0_1.length ≤ c0_1) (hr0_2 : Kd.C k71 w A0_2 l0_2.length l0_2) (hc0_2 : l0_2.length ≤ c0_2) (hr1 : Kd.C k36 w A1 l1.length l1) (hc1 : l1.length ≤ c1) (hr2 : Kd.C (Kd.int .i64) w A2 l2.length l2) (hc2 : l2.length ≤ c2) (hr3 : Kd.C k38 w A3 l3.length l3) (hc3 : l3.length ≤ c3) (hr4 : Kd.C k73 w A4 l4.length l4) (hc4 : l4.length ≤ c4) (h : slack_Least.f l0_0 l0_1 l0_2 a0_3 a0_4 a0_5 a0_6 a0_7 a0_8 l1 l2 l3 l4 a5 a6 = some r) :
    Calls Try.prog 25 #[.agg #[.slice A0_0 l0_0.length c0_0, .slice A0_1 l0_1.length c0_1, .slice A0_2 l0_2.length c0_2, .int .i64 a0_3, .int .i64 a0_4, .int .i64 a0_5, .int .i64 a0_6, .int .i64 a0_7, .int .i64 a0_8], .slice A1 l1.length c1, .slice A2 l2.length c2, .slice A3 l3.length c3, .slice A4 l4.length c4, .int .i64 a5, .int .i64 a6] w fun e w' => e = .returned (.int .i64 r) ∧ Below w.heap.size w w' := by
  unfold slack_Least.f at h
  obtain ⟨⟨r1, r2, r3, r4, r5, r6, r7, r8⟩, hr, e⟩ := Option.bind_eq_some_iff.mp h
  obtain rfl := Option.some.inj e
  have HR0_0 := Aside0.mk hr0_0
  have HC0_0 := Aside0.mk hc0_0
  have HR0_1 := Aside0.mk hr0_1
  have HC0_1 := Aside0.mk hc0_1
  have HR0_2 := Aside0.mk hr0_2
  have HC0_2 := Aside0.mk hc0_2
  have HR1 := Aside0.mk hr1
  have HC1 := Aside0.mk hc1
  have HR2 := Aside0.mk hr2
  have HC2 := Aside0.mk hc2
  have HR3 := Aside0.mk hr3
  have HC3 := Aside0.mk hc3
  have HR4 := Aside0.mk hr4
  have HC4 := Aside0.mk hc4
  have HH := Aside0.mk hr
  clear hr0_0 hr0_1 hr0_2 hr1 hr2 hr3 hr4 hc0_0 hc0_1 hc0_2 hc1 hc2 hc3 hc4 h hr e
  go_enter Try.func25, Try.ntmps25
  go_wp2_with fail
  generalize hw1 : w.alloc (.cells #[.slice A0_0 l0_0.length c0_0, .slice A0_1 l0_1.length c0_1, .slice A0_2 l0_2.length c0_2, .int .i64 a0_3, .int .i64 a0_4, .int .i64 a0_5, .int .i64 a0_6, .int .i64 a0_7, .int .i64 a0_8] 26 (0, 0)) = w1
  have hb1 : Below w.heap.size w w1 := by rw [← hw1]; exact (Below.refl _ _).alloc (Nat.le_refl _) _
  have hs1 : w1.heap.size = w.heap.size + 1 := by rw [← hw1]; simp
  obtain ⟨g, hg⟩ : ∃ g, w.heap.size + 1 = g := ⟨_, rfl⟩
  generalize hw2 : w1.alloc (.cells #[.slice A0_0 l0_0.length c0_0, .slice A0_1 l0_1.length c0_1, .slice A0_2 l0_2.length c0_2, .int .i64 a0_3, .int .i64 a0_4, .int .i64 a0_5, .int .i64 a0_6, .int .i64 a0_7, .int .i64 a0_8, .slice A1 l1.length c1, .slice A2 l2.length c2, .slice A3 l3.length c3, .slice A4 l4.length c4, .int .i64 a5] 65 (0, 0)) = w2
  have hb2 : Below w1.heap.size w1 w2 := by rw [← hw2]; exact (Below.refl _ _).alloc (Nat.le_refl _) _
  have BK : Aside0 (w2.heap[g]? = some (.cells #[.slice A0_0 l0_0.length c0_0, .slice A0_1 l0_1.length c0_1, .slice A0_2 l0_2.length c0_2, .int .i64 a0_3, .int .i64 a0_4, .int .i64 a0_5, .int .i64 a0_6, .int .i64 a0_7, .int .i64 a0_8, .slice A1 l1.length c1, .slice A2 l2.length c2, .slice A3 l3.length c3, .slice A4 l4.length c4, .int .i64 a5] 65 (0, 0))) := ⟨by rw [← hw2, ← hg, ← hs1]; exact heap_alloc_new w1 _⟩
  have HB : Aside0 (Below w.heap.size w w2) := ⟨below_step hb1 hb2⟩
  have GE : Aside0 (w.heap.size ≤ g) := ⟨by rw [← hg]; omega⟩
  try rw [hg]
  clear hw1 hw2 hb1 hb2 hg hs1
  have HI : Aside0 (IsS65 w w2 g l0_0 l0_1 l0_2 a0_3 a0_4 a0_5 a0_6 a0_7 a0_8 l1 l2 l3 l4 a5) := ⟨⟨A0_0, c0_0, A0_1, c0_1, A0_2, c0_2, A1, c1, A2, c2, A3, c3, A4, c4, BK.out, ⟨GE.out, HC0_0.out, HC0_1.out, HC0_2.out, HC1.out, HC2.out, HC3.out, HC4.out⟩, HR0_0.out, HR0_1.out, HR0_2.out, HR1.out, HR2.out, HR3.out, HR4.out⟩⟩
  go_wp2_with (first | (go_at_call 37; (with_reducible refine Calls.mono (slack_view_least.calls 1000 g l0_0 l0_1 l0_2 a0_3 a0_4 a0_5 a0_6 a0_7 a0_8 l1 l2 l3 l4 a5 a6 r1 r2 r3 r4 r5 r6 r7 r8 w _ HI.out HB.out HH.out) ?_); rintro e w3 ⟨rfl, _, hb, _⟩; replace HB : Aside0 (Below w.heap.size w w3) := ⟨hb⟩; clear hb))
  go_ret
  exact ⟨rfl, HB.out⟩
end Go.Proofs.Ytchlbnlhjllcbaa.F
namespace Go.Proofs.Ytchlbnlhjllcbaa.F
open Go.RowKit Go.Proofs.YtchlbnlhjllcbaaW.PrintWords Go.Proofs.YtchlbnlhjllcbaaW.PrintLast Go.Proofs.YtchlbnlhjllcbaaW.PrintMore
attribute [local go_sem] max2_int min2_int max_two min_two max_three min_three max_four min_four   -- for this text's walks alone
set_option linter.unusedVariables false
set_option linter.unusedSimpArgs false
def dormouselaw15_answers.f  : Option (Bool) := (some (([(⟨1, 0⟩ : S58)] : List (S58)) : List (S58))).bind fun y251 => ((some (([(⟨4, 1, ([] : List Int), ([] : List Int)⟩ : S36)] : List (S36)) : List (S36))).bind fun y255 => ((slack_Least.f y251 ([] : List (S68)) ([] : List (S71)) 0 0 0 0 0 50 y255 (([0] : List Int)) ([] : List (S38)) ([] : List (S73)) 0 0).bind fun t261 => (if t261 = 12884901888 then ((slack_At.f y251 ([] : List (S68)) ([] : List (S71)) 0 0 0 0 0 50 y255 (([0] : List Int)) ([] : List (S38)) ([] : List (S73)) 0 8).bind fun t265 => (if t265 = 25769803776 then ((slack_Least.f y251 ([] : List (S68)) ([] : List (S71)) 0 0 0 0 0 50 ([] : List (S36)) ([] : List Int) ([] : List (S38)) ([] : List (S73)) 0 0).bind fun t266 => (some (t266 == 4611686018427387904))) else (some false))) else (some false))))
set_option maxHeartbeats 8000000 in
set_option maxRecDepth 100000 in
theorem dormouselaw15_answers.calls  (r : Bool) (w : World) (h : dormouselaw15_answers.f  = some r) :
    Calls Try.prog 10 #[] w fun e w' => e = .returned (.bool r) ∧ Below w.heap.size w w' := by
  have hu58 := Try.underlying58
  have hu26 := Try.underlying26
  have hu36 := Try.underlying36
  have HB := Aside0.mk (Below.refl w.heap.size w)
  have H : ((some (([(⟨1, 0⟩ : S58)] : List (S58)) : List (S58))).bind fun y251 => ((some (([(⟨4, 1, ([] : List Int), ([] : List Int)⟩ : S36)] : List (S36)) : List (S36))).bind fun y255 => ((slack_Least.f y251 ([] : List (S68)) ([] : List (S71)) 0 0 0 0 0 50 y255 (([0] : List Int)) ([] : List (S38)) ([] : List (S73)) 0 0).bind fun t261 => (if t261 = 12884901888 then ((slack_At.f y251 ([] : List (S68)) ([] : List (S71)) 0 0 0 0 0 50 y255 (([0] : List Int)) ([] : List (S38)) ([] : List (S73)) 0 8).bind fun t265 => (if t265 = 25769803776 then ((slack_Least.f y251 ([] : List (S68)) ([] : List (S71)) 0 0 0 0 0 50 ([] : List (S36)) ([] : List Int) ([] : List (S38)) ([] : List (S73)) 0 0).bind fun t266 => (some (t266 == 4611686018427387904))) else (some false))) else (some false))))) = some r := h
  clear h
  obtain ⟨y251, hy251⟩ : ∃ y_ : List (S58), y_ = (([(⟨1, 0⟩ : S58)] : List (S58))) := ⟨_, rfl⟩
  replace H : ((some (([(⟨4, 1, ([] : List Int), ([] : List Int)⟩ : S36)] : List (S36)) : List (S36))).bind fun y255 => ((slack_Least.f y251 ([] : List (S68)) ([] : List (S71)) 0 0 0 0 0 50 y255 (([0] : List Int)) ([] : List (S38)) ([] : List (S73)) 0 0).bind fun t261 => (if t261 = 12884901888 then ((slack_At.f y251 ([] : List (S68)) ([] : List (S71)) 0 0 0 0 0 50 y255 (([0] : List Int)) ([] : List (S38)) ([] : List (S73)) 0 8).bind fun t265 => (if t265 = 25769803776 then ((slack_Least.f y251 ([] : List (S68)) ([] : List (S71)) 0 0 0 0 0 50 ([] : List (S36)) ([] : List Int) ([] : List (S38)) ([] : List (S73)) 0 0).bind fun t266 => (some (t266 == 4611686018427387904))) else (some false))) else (some false)))) = some r := by first | (rw [hy251]; with_reducible exact H) | (have H2_ := (Option.bind_some _ _).symm.trans H; rw [hy251]; with_reducible exact H2_) | (have H2_ := (Option.bind_some _ _).symm.trans H; with_reducible exact H2_) | with_reducible exact H | (rw [hy251]; exact H) | exact H
  have Ny251 := Aside0.mk hy251
  clear hy251
  obtain ⟨y255, hy255⟩ : ∃ y_ : List (S36), y_ = (([(⟨4, 1, ([] : List Int), ([] : List Int)⟩ : S36)] : List (S36))) := ⟨_, rfl⟩
  replace H : ((slack_Least.f y251 ([] : List (S68)) ([] : List (S71)) 0 0 0 0 0 50 y255 (([0] : List Int)) ([] : List (S38)) ([] : List (S73)) 0 0).bind fun t261 => (if t261 = 12884901888 then ((slack_At.f y251 ([] : List (S68)) ([] : List (S71)) 0 0 0 0 0 50 y255 (([0] : List Int)) ([] : List (S38)) ([] : List (S73)) 0 8).bind fun t265 => (if t265 = 25769803776 then ((slack_Least.f y251 ([] : List (S68)) ([] : List (S71)) 0 0 0 0 0 50 ([] : List (S36)) ([] : List Int) ([] : List (S38)) ([] : List (S73)) 0 0).bind fun t266 => (some (t266 == 4611686018427387904))) else (some false))) else (some false))) = some r := by first | (rw [hy255]; with_reducible exact H) | (have H2_ := (Option.bind_some _ _).symm.trans H; rw [hy255]; with_reducible exact H2_) | (have H2_ := (Option.bind_some _ _).symm.trans H; with_reducible exact H2_) | with_reducible exact H | (rw [hy255]; exact H) | exact H
  have Ny255 := Aside0.mk hy255
  clear hy255
  obtain ⟨y258, hy258⟩ : ∃ y_ : List Int, y_ = (([0] : List Int)) := ⟨_, rfl⟩
  replace H : ((slack_Least.f y251 ([] : List (S68)) ([] : List (S71)) 0 0 0 0 0 50 y255 y258 ([] : List (S38)) ([] : List (S73)) 0 0).bind fun t261 => (if t261 = 12884901888 then ((slack_At.f y251 ([] : List (S68)) ([] : List (S71)) 0 0 0 0 0 50 y255 (([0] : List Int)) ([] : List (S38)) ([] : List (S73)) 0 8).bind fun t265 => (if t265 = 25769803776 then ((slack_Least.f y251 ([] : List (S68)) ([] : List (S71)) 0 0 0 0 0 50 ([] : List (S36)) ([] : List Int) ([] : List (S38)) ([] : List (S73)) 0 0).bind fun t266 => (some (t266 == 4611686018427387904))) else (some false))) else (some false))) = some r := by first | (rw [hy258]; with_reducible exact H) | (have H2_ := (Option.bind_some _ _).symm.trans H; rw [hy258]; with_reducible exact H2_) | (have H2_ := (Option.bind_some _ _).symm.trans H; with_reducible exact H2_) | with_reducible exact H | (rw [hy258]; exact H) | exact H
  have Ny258 := Aside0.mk hy258
  clear hy258
  replace H := Option.bind_eq_some_iff.mp H
  obtain ⟨t261, A10, H⟩ := H
  replace H : (if t261 = 12884901888 then ((slack_At.f y251 ([] : List (S68)) ([] : List (S71)) 0 0 0 0 0 50 y255 (([0] : List Int)) ([] : List (S38)) ([] : List (S73)) 0 8).bind fun t265 => (if t265 = 25769803776 then ((slack_Least.f y251 ([] : List (S68)) ([] : List (S71)) 0 0 0 0 0 50 ([] : List (S36)) ([] : List Int) ([] : List (S38)) ([] : List (S73)) 0 0).bind fun t266 => (some (t266 == 4611686018427387904))) else (some false))) else (some false)) = some r := H
  have A1 := Aside0.mk A10
  clear A10
  by_cases c2 : t261 = 12884901888
  · rw [if_pos c2] at H
    have c2b0 : (t261 == 12884901888) = true := beq_iff_eq.mpr c2
    have c2b1 : (t261 != 12884901888) = false := bne_eq_false_iff_eq.mpr c2
    clear c2
    obtain ⟨y262, hy262⟩ : ∃ y_ : List Int, y_ = (([0] : List Int)) := ⟨_, rfl⟩
    replace H : ((slack_At.f y251 ([] : List (S68)) ([] : List (S71)) 0 0 0 0 0 50 y255 y262 ([] : List (S38)) ([] : List (S73)) 0 8).bind fun t265 => (if t265 = 25769803776 then ((slack_Least.f y251 ([] : List (S68)) ([] : List (S71)) 0 0 0 0 0 50 ([] : List (S36)) ([] : List Int) ([] : List (S38)) ([] : List (S73)) 0 0).bind fun t266 => (some (t266 == 4611686018427387904))) else (some false))) = some r := by first | (rw [hy262]; with_reducible exact H) | (have H2_ := (Option.bind_some _ _).symm.trans H; rw [hy262]; with_reducible exact H2_) | (have H2_ := (Option.bind_some _ _).symm.trans H; with_reducible exact H2_) | with_reducible exact H | (rw [hy262]; exact H) | exact H
    have Ny262 := Aside0.mk hy262
    clear hy262
    replace H := Option.bind_eq_some_iff.mp H
    obtain ⟨t265, A30, H⟩ := H
    replace H : (if t265 = 25769803776 then ((slack_Least.f y251 ([] : List (S68)) ([] : List (S71)) 0 0 0 0 0 50 ([] : List (S36)) ([] : List Int) ([] : List (S38)) ([] : List (S73)) 0 0).bind fun t266 => (some (t266 == 4611686018427387904))) else (some false)) = some r := H
    have A3 := Aside0.mk A30
    clear A30
    by_cases c4 : t265 = 25769803776
    · rw [if_pos c4] at H
      have c4b0 : (t265 == 25769803776) = true := beq_iff_eq.mpr c4
      have c4b1 : (t265 != 25769803776) = false := bne_eq_false_iff_eq.mpr c4
      clear c4
      replace H := Option.bind_eq_some_iff.mp H
      obtain ⟨t266, A50, H⟩ := H
      replace H : (some (t266 == 4611686018427387904)) = some r := H
      have A5 := Aside0.mk A50
      clear A50
      obtain rfl := Option.some.inj H
      go_enter Try.func10, Try.ntmps10
      go_wp2_with (first | ((with_reducible refine gate_dst (N := 4) rfl ?_); (try (refine gate_guard (by rfl) ?_; dsimp only)); refine Kd.R_lit k58 _ 58 ?hg (N := 4) ?hd (xs := ([(⟨1, 0⟩ : S58)] : List (S58))) (inner := [.int .i64 1, .int .i64 0]) (ok := fun _ => True) (okp := fun _ => True) ?hr ?hp (fun _ hk => hk) trivial (Below.refl _ _) (Nat.le_refl _) (by simp) ?_; (case hd => rfl); (case hg => rfl); (case hr => first | (go_simp; done) | (go_simp; rfl)); (case hp => exact (Reps.c2 (show Kd.M k58 _ _ _ (⟨1, 0⟩ : S58) [.int .i64 1, .int .i64 0] from (k58_mkM _ _ _ (⟨1, 0⟩ : S58) )) (Reps.none _ _))); intro v252 w6 ho7 hb hg_ hnew_; clear hg_ hnew_; (first | rw [← Ny251.out] at ho7 | (simp only [Int.reduceToNat] at ho7; rw [← Ny251.out] at ho7)); have n0_ := Aside0.mk (Kd.R_lower ho7 (below_size (by repeat (first | (with_reducible first | exact HB.out | apply below_alloc | apply pw_below_drewN | apply below_drew1) | exact HB.out)))); have n1_ := Aside0.mk (below_step (by repeat (first | (with_reducible first | exact HB.out | apply below_alloc | apply pw_below_drewN | apply below_drew1) | exact HB.out)) hb); clear HB; have HO253 := n0_; have HB := n1_; clear n0_ n1_; clear hb ho7; obtain ⟨Ao8, co8, eo8⟩ := Kd.R_slice HO253.out; subst eo8) | ((with_reducible refine gate_dst (N := 1) rfl ?_); (try (refine gate_guard (by rfl) ?_; dsimp only)); refine box_event ?hg (N := 1) ?hd (cs := #[.slice none 0 0, .slice none 0 0, .slice none 0 0, .int .i64 0, .int .i64 0, .int .i64 0, .int .i64 0, .int .i64 0, .int .i64 0]) (t := 26) ?hr ?_; (case hd => rfl); (case hg => rfl); (case hr => first | (go_simp; done) | (go_simp; rfl)); intro gb254 hg w9 hbox hb; have n0_ := Aside0.mk (Kd.R_below (by (with_reducible repeat (first | apply Kd.R_alloc | apply Kd.R_drewN | apply Kd.R_drew)); exact HO253.out) hb); have n1_ := Aside0.mk (below_step (by repeat (first | (with_reducible first | exact HB.out | apply below_alloc | apply pw_below_drewN | apply below_drew1) | exact HB.out)) hb); have n2_ := Aside0.mk (hbox); have n3_ := Aside0.mk ((by rw [hg]; exact (below_size (by repeat (first | (with_reducible first | exact HB.out | apply below_alloc | apply pw_below_drewN | apply below_drew1) | exact HB.out))) : w.heap.size ≤ gb254)); have n4_ := Aside0.mk ((by rw [hg]; exact (below_size (by repeat (first | (with_reducible first | exact HB.out | apply below_alloc | apply pw_below_drewN | apply below_drew1) | exact HB.out))) : w.heap.size ≤ gb254)); clear HO253; clear HB; have HO253 := n0_; have HB := n1_; have BK254 := n2_; have GW254 := n3_; have GE254 := n4_; clear n0_ n1_ n2_ n3_ n4_; clear hb hbox hg; have hcz10_0 : w9.cell? ⟨gb254, 0, none⟩ = some (.slice none 0 0) := (blk_cell BK254.out 0).trans rfl; have hcz10_1 : w9.cell? ⟨gb254, 1, none⟩ = some (.slice none 0 0) := (blk_cell BK254.out 1).trans rfl; have hcz10_2 : w9.cell? ⟨gb254, 2, none⟩ = some (.slice none 0 0) := (blk_cell BK254.out 2).trans rfl; have hcz10_3 : w9.cell? ⟨gb254, 3, none⟩ = some (.int .i64 0) := (blk_cell BK254.out 3).trans rfl; have hcz10_4 : w9.cell? ⟨gb254, 4, none⟩ = some (.int .i64 0) := (blk_cell BK254.out 4).trans rfl; have hcz10_5 : w9.cell? ⟨gb254, 5, none⟩ = some (.int .i64 0) := (blk_cell BK254.out 5).trans rfl; have hcz10_6 : w9.cell? ⟨gb254, 6, none⟩ = some (.int .i64 0) := (blk_cell BK254.out 6).trans rfl; have hcz10_7 : w9.cell? ⟨gb254, 7, none⟩ = some (.int .i64 0) := (blk_cell BK254.out 7).trans rfl; have hcz10_8 : w9.cell? ⟨gb254, 8, none⟩ = some (.int .i64 0) := (blk_cell BK254.out 8).trans rfl; have hfz10_0 := blk_frozen BK254.out 0; have hfz10_1 := blk_frozen BK254.out 1; have hfz10_2 := blk_frozen BK254.out 2; have hfz10_3 := blk_frozen BK254.out 3; have hfz10_4 := blk_frozen BK254.out 4; have hfz10_5 := blk_frozen BK254.out 5; have hfz10_6 := blk_frozen BK254.out 6; have hfz10_7 := blk_frozen BK254.out 7; have hfz10_8 := blk_frozen BK254.out 8) | ((with_reducible refine gate_dst (N := 7) rfl ?_); (try (refine gate_guard (by rfl) ?_; dsimp only)); refine Kd.S_lit k36 _ 36 ?hg (N := 7) ?hd (xs := ([(⟨4, 1, ([] : List Int), ([] : List Int)⟩ : S36)] : List (S36))) (inner := [.int .i64 4, .int .i64 1, .slice none 0 0, .slice none 0 0]) (ok := fun _ => True) (okp := fun _ => True) ?hr ?hp (fun _ hk => hk) trivial (Below.refl _ _) (Nat.le_refl _) (by simp) ?_; (case hd => rfl); (case hg => rfl); (case hr => first | (go_simp; done) | (go_simp; rfl)); (case hp => exact (Reps.c4 (show Kd.M k36 _ _ _ (⟨4, 1, ([] : List Int), ([] : List Int)⟩ : S36) [.int .i64 4, .int .i64 1, .slice none 0 0, .slice none 0 0] from (k36_mkM _ _ _ (⟨4, 1, ([] : List Int), ([] : List Int)⟩ : S36) (Kd.R_nil _ _ _ _ _) (Kd.R_nil _ _ _ _ _))) (Reps.none _ _))); intro v256 w11 ho12 hb hg_ hnew_; clear hg_ hnew_; (first | rw [← Ny255.out] at ho12 | (simp only [Int.reduceToNat] at ho12; rw [← Ny255.out] at ho12)); have n0_ := Aside0.mk (Kd.R_below (by (with_reducible repeat (first | apply Kd.R_alloc | apply Kd.R_drewN | apply Kd.R_drew)); exact (Kd.R_mono (Kd.R_far (p := ⟨gb254, 8, none⟩) (Kd.R_far (p := ⟨gb254, 7, none⟩) (Kd.R_far (p := ⟨gb254, 6, none⟩) (Kd.R_far (p := ⟨gb254, 5, none⟩) (Kd.R_far (p := ⟨gb254, 4, none⟩) (Kd.R_far (p := ⟨gb254, 3, none⟩) (Kd.R_far (p := ⟨gb254, 2, none⟩) (Kd.R_far (p := ⟨gb254, 1, none⟩) (Kd.R_far (p := ⟨gb254, 0, none⟩) (Kd.R_types HO253.out BK254.out (by decide)) (fun _ hk => hk.2) (.slice Ao8 y251.length co8)) (fun _ hk => hk.2) (.slice none 0 0)) (fun _ hk => hk.2) (.slice none 0 0)) (fun _ hk => hk.2) (.int .i64 0)) (fun _ hk => hk.2) (.int .i64 0)) (fun _ hk => hk.2) (.int .i64 0)) (fun _ hk => hk.2) (.int .i64 0)) (fun _ hk => hk.2) (.int .i64 0)) (fun _ hk => hk.2) (.int .i64 50)) (fun _ h_ => h_.1))) hb); have n1_ := Aside0.mk (Kd.S_lower ho12 (below_size (by repeat (first | (with_reducible first | exact HB.out | apply below_alloc | apply pw_below_drewN | apply below_drew1 | refine below_set ?_ GE254.out) | exact HB.out)))); have n2_ := Aside0.mk (blk_below (g := gb254) (o := .cells #[.slice Ao8 y251.length co8, .slice none 0 0, .slice none 0 0, .int .i64 0, .int .i64 0, .int .i64 0, .int .i64 0, .int .i64 0, .int .i64 50] 26 (0, 0)) (by (with_reducible repeat (first | refine blk_drewN ?_ _ | refine blk_drew ?_ | refine blk_alloc ?_ _)); refine blk_put (cs := #[.slice Ao8 y251.length co8, .slice none 0 0, .slice none 0 0, .int .i64 0, .int .i64 0, .int .i64 0, .int .i64 0, .int .i64 0, .int .i64 0]) ?_ 8 _ rfl; (with_reducible repeat (first | refine blk_drewN ?_ _ | refine blk_drew ?_ | refine blk_alloc ?_ _)); refine blk_put (cs := #[.slice Ao8 y251.length co8, .slice none 0 0, .slice none 0 0, .int .i64 0, .int .i64 0, .int .i64 0, .int .i64 0, .int .i64 0, .int .i64 0]) ?_ 7 _ rfl; (with_reducible repeat (first | refine blk_drewN ?_ _ | refine blk_drew ?_ | refine blk_alloc ?_ _)); refine blk_put (cs := #[.slice Ao8 y251.length co8, .slice none 0 0, .slice none 0 0, .int .i64 0, .int .i64 0, .int .i64 0, .int .i64 0, .int .i64 0, .int .i64 0]) ?_ 6 _ rfl; (with_reducible repeat (first | refine blk_drewN ?_ _ | refine blk_drew ?_ | refine blk_alloc ?_ _)); refine blk_put (cs := #[.slice Ao8 y251.length co8, .slice none 0 0, .slice none 0 0, .int .i64 0, .int .i64 0, .int .i64 0, .int .i64 0, .int .i64 0, .int .i64 0]) ?_ 5 _ rfl; (with_reducible repeat (first | refine blk_drewN ?_ _ | refine blk_drew ?_ | refine blk_alloc ?_ _)); refine blk_put (cs := #[.slice Ao8 y251.length co8, .slice none 0 0, .slice none 0 0, .int .i64 0, .int .i64 0, .int .i64 0, .int .i64 0, .int .i64 0, .int .i64 0]) ?_ 4 _ rfl; (with_reducible repeat (first | refine blk_drewN ?_ _ | refine blk_drew ?_ | refine blk_alloc ?_ _)); refine blk_put (cs := #[.slice Ao8 y251.length co8, .slice none 0 0, .slice none 0 0, .int .i64 0, .int .i64 0, .int .i64 0, .int .i64 0, .int .i64 0, .int .i64 0]) ?_ 3 _ rfl; (with_reducible repeat (first | refine blk_drewN ?_ _ | refine blk_drew ?_ | refine blk_alloc ?_ _)); refine blk_put (cs := #[.slice Ao8 y251.length co8, .slice none 0 0, .slice none 0 0, .int .i64 0, .int .i64 0, .int .i64 0, .int .i64 0, .int .i64 0, .int .i64 0]) ?_ 2 _ rfl; (with_reducible repeat (first | refine blk_drewN ?_ _ | refine blk_drew ?_ | refine blk_alloc ?_ _)); refine blk_put (cs := #[.slice Ao8 y251.length co8, .slice none 0 0, .slice none 0 0, .int .i64 0, .int .i64 0, .int .i64 0, .int .i64 0, .int .i64 0, .int .i64 0]) ?_ 1 _ rfl; (with_reducible repeat (first | refine blk_drewN ?_ _ | refine blk_drew ?_ | refine blk_alloc ?_ _)); refine blk_put (cs := #[.slice none 0 0, .slice none 0 0, .slice none 0 0, .int .i64 0, .int .i64 0, .int .i64 0, .int .i64 0, .int .i64 0, .int .i64 0]) ?_ 0 _ rfl; (with_reducible repeat (first | refine blk_drewN ?_ _ | refine blk_drew ?_ | refine blk_alloc ?_ _)); exact BK254.out) hb); have n3_ := Aside0.mk (below_step (by repeat (first | (with_reducible first | exact HB.out | apply below_alloc | apply pw_below_drewN | apply below_drew1 | refine below_set ?_ GE254.out) | exact HB.out)) hb); clear HO253; clear BK254; clear HB; have HO253 := n0_; have HO257 := n1_; have BK254 := n2_; have HB := n3_; clear n0_ n1_ n2_ n3_; clear hb ho12; have hcz13_0 : w11.cell? ⟨gb254, 0, none⟩ = some (.slice Ao8 y251.length co8) := (blk_cell BK254.out 0).trans rfl; have hcz13_1 : w11.cell? ⟨gb254, 1, none⟩ = some (.slice none 0 0) := (blk_cell BK254.out 1).trans rfl; have hcz13_2 : w11.cell? ⟨gb254, 2, none⟩ = some (.slice none 0 0) := (blk_cell BK254.out 2).trans rfl; have hcz13_3 : w11.cell? ⟨gb254, 3, none⟩ = some (.int .i64 0) := (blk_cell BK254.out 3).trans rfl; have hcz13_4 : w11.cell? ⟨gb254, 4, none⟩ = some (.int .i64 0) := (blk_cell BK254.out 4).trans rfl; have hcz13_5 : w11.cell? ⟨gb254, 5, none⟩ = some (.int .i64 0) := (blk_cell BK254.out 5).trans rfl; have hcz13_6 : w11.cell? ⟨gb254, 6, none⟩ = some (.int .i64 0) := (blk_cell BK254.out 6).trans rfl; have hcz13_7 : w11.cell? ⟨gb254, 7, none⟩ = some (.int .i64 0) := (blk_cell BK254.out 7).trans rfl; have hcz13_8 : w11.cell? ⟨gb254, 8, none⟩ = some (.int .i64 50) := (blk_cell BK254.out 8).trans rfl; have hfz13_0 := blk_frozen BK254.out 0; have hfz13_1 := blk_frozen BK254.out 1; have hfz13_2 := blk_frozen BK254.out 2; have hfz13_3 := blk_frozen BK254.out 3; have hfz13_4 := blk_frozen BK254.out 4; have hfz13_5 := blk_frozen BK254.out 5; have hfz13_6 := blk_frozen BK254.out 6; have hfz13_7 := blk_frozen BK254.out 7; have hfz13_8 := blk_frozen BK254.out 8) | ((with_reducible refine gate_dst (N := 10) rfl ?_); (try (refine gate_guard (by rfl) ?_; dsimp only)); refine Kd.R_lit (Kd.int .i64) _ 3 ?hg (N := 10) ?hd (xs := ([0] : List Int)) (inner := [.int .i64 0]) (ok := fun _ => True) (okp := fun _ => True) ?hr ?hp (fun _ hk => hk) trivial (Below.refl _ _) (Nat.le_refl _) (by simp) ?_; (case hd => rfl); (case hg => rfl); (case hr => first | (go_simp; done) | (go_simp; rfl)); (case hp => exact (Reps.one (show Kd.M (Kd.int .i64) _ _ _ 0 [.int .i64 0] from rfl) (Reps.none _ _))); intro v259 w14 ho15 hb hg_ hnew_; clear hg_ hnew_; (first | rw [← Ny258.out] at ho15 | (simp only [Int.reduceToNat] at ho15; rw [← Ny258.out] at ho15)); have n0_ := Aside0.mk (Kd.R_below (by (with_reducible repeat (first | apply Kd.R_alloc | apply Kd.R_drewN | apply Kd.R_drew)); exact HO253.out) hb); have n1_ := Aside0.mk (Kd.S_elder' (by (with_reducible repeat (first | apply Kd.S_alloc | apply Kd.S_drewN | apply Kd.S_drew)); exact HO257.out) (Kd.R_base ho15) hb); have n2_ := Aside0.mk (Kd.R_lower ho15 (below_size (by repeat (first | (with_reducible first | exact HB.out | apply below_alloc | apply pw_below_drewN | apply below_drew1 | refine below_set ?_ GE254.out) | exact HB.out)))); have n3_ := Aside0.mk (blk_below (g := gb254) (o := .cells #[.slice Ao8 y251.length co8, .slice none 0 0, .slice none 0 0, .int .i64 0, .int .i64 0, .int .i64 0, .int .i64 0, .int .i64 0, .int .i64 50] 26 (0, 0)) (by (with_reducible repeat (first | refine blk_drewN ?_ _ | refine blk_drew ?_ | refine blk_alloc ?_ _)); exact BK254.out) hb); have n4_ := Aside0.mk (below_step (by repeat (first | (with_reducible first | exact HB.out | apply below_alloc | apply pw_below_drewN | apply below_drew1 | refine below_set ?_ GE254.out) | exact HB.out)) hb); clear HO253; clear HO257; clear BK254; clear HB; have HO253 := n0_; have HO257 := n1_; have HO260 := n2_; have BK254 := n3_; have HB := n4_; clear n0_ n1_ n2_ n3_ n4_; clear hb ho15; obtain ⟨Ao16, co16, eo16⟩ := Kd.S_slice HO257.out; subst eo16; obtain ⟨Ao17, co17, eo17⟩ := Kd.R_slice HO260.out; subst eo17) | ((with_reducible refine gate_callee (f := 25) rfl ?_); refine goesL_ (some 11) rfl rfl Try.func25 (by kernel_rfl) rfl #[.agg #[.slice Ao8 y251.length co8, .slice none 0 0, .slice none 0 0, .int .i64 0, .int .i64 0, .int .i64 0, .int .i64 0, .int .i64 0, .int .i64 50], .slice Ao16 y255.length co16, .slice Ao17 y258.length co17, .slice none 0 0, .slice none 0 0, .int .i64 0, .int .i64 0] rfl (by (try simp only [List.map_toArray, List.map_cons, List.map_nil]); first | done | rfl | (simp only [List.length_drop, List.length_take]; rfl)) ?_; (refine (slack_Least.calls _ _ y251 _ _ ([] : List (S68)) _ _ ([] : List (S71)) 0 0 0 0 0 50 _ _ y255 _ _ y258 _ _ ([] : List (S38)) _ _ ([] : List (S73)) 0 0 t261 _ ?side1 ?side2 ?side3 ?side4 ?side5 ?side6 ?side7 ?side8 ?side9 ?side10 ?side11 ?side12 ?side13 ?side14 A1.out).mono ?_); (case side1 => repeat (first | exact (Kd.R_reads' HO253.out).2.2 | (with_reducible refine Kd.C_alloc ?_ _) | (with_reducible refine Kd.C_drewN ?_ _) | (with_reducible refine Kd.C_drew ?_))); (case side2 => exact (Kd.R_reads' HO253.out).2.1); (case side3 => exact Kd.C_nil _ _); (case side4 => exact Nat.le_refl _); (case side5 => exact Kd.C_nil _ _); (case side6 => exact Nat.le_refl _); (case side7 => repeat (first | exact (Kd.S_reads' HO257.out).2.2 | (with_reducible refine Kd.C_alloc ?_ _) | (with_reducible refine Kd.C_drewN ?_ _) | (with_reducible refine Kd.C_drew ?_))); (case side8 => exact (Kd.S_reads' HO257.out).2.1); (case side9 => repeat (first | exact (Kd.R_reads' HO260.out).2.2 | (with_reducible refine Kd.C_alloc ?_ _) | (with_reducible refine Kd.C_drewN ?_ _) | (with_reducible refine Kd.C_drew ?_))); (case side10 => exact (Kd.R_reads' HO260.out).2.1); (case side11 => exact Kd.C_nil _ _); (case side12 => exact Nat.le_refl _); (case side13 => exact Kd.C_nil _ _); (case side14 => exact Nat.le_refl _); rintro e w18 ⟨rfl, hb⟩; refine ⟨_, rfl, ?_⟩; have n0_ := Aside0.mk (Kd.R_below (by (with_reducible repeat (first | apply Kd.R_alloc | apply Kd.R_drewN | apply Kd.R_drew)); exact HO253.out) hb); have n1_ := Aside0.mk (Kd.S_below (by (with_reducible repeat (first | apply Kd.S_alloc | apply Kd.S_drewN | apply Kd.S_drew)); exact HO257.out) hb); have n2_ := Aside0.mk (Kd.R_below (by (with_reducible repeat (first | apply Kd.R_alloc | apply Kd.R_drewN | apply Kd.R_drew)); exact HO260.out) hb); have n3_ := Aside0.mk (blk_below (g := gb254) (o := .cells #[.slice Ao8 y251.length co8, .slice none 0 0, .slice none 0 0, .int .i64 0, .int .i64 0, .int .i64 0, .int .i64 0, .int .i64 0, .int .i64 50] 26 (0, 0)) (by (with_reducible repeat (first | refine blk_drewN ?_ _ | refine blk_drew ?_ | refine blk_alloc ?_ _)); exact BK254.out) hb); have n4_ := Aside0.mk (below_step (by repeat (first | (with_reducible first | exact HB.out | apply below_alloc | apply pw_below_drewN | apply below_drew1 | refine below_set ?_ GE254.out) | exact HB.out)) hb); clear HO253; clear HO257; clear HO260; clear BK254; clear HB; have HO253 := n0_; have HO257 := n1_; have HO260 := n2_; have BK254 := n3_; have HB := n4_; clear n0_ n1_ n2_ n3_ n4_; (try clear hb); (try clear hb2); (try clear hk); (try clear hi); have hcz19_0 : w18.cell? ⟨gb254, 0, none⟩ = some (.slice Ao8 y251.length co8) := (blk_cell BK254.out 0).trans rfl; have hcz19_1 : w18.cell? ⟨gb254, 1, none⟩ = some (.slice none 0 0) := (blk_cell BK254.out 1).trans rfl; have hcz19_2 : w18.cell? ⟨gb254, 2, none⟩ = some (.slice none 0 0) := (blk_cell BK254.out 2).trans rfl; have hcz19_3 : w18.cell? ⟨gb254, 3, none⟩ = some (.int .i64 0) := (blk_cell BK254.out 3).trans rfl; have hcz19_4 : w18.cell? ⟨gb254, 4, none⟩ = some (.int .i64 0) := (blk_cell BK254.out 4).trans rfl; have hcz19_5 : w18.cell? ⟨gb254, 5, none⟩ = some (.int .i64 0) := (blk_cell BK254.out 5).trans rfl; have hcz19_6 : w18.cell? ⟨gb254, 6, none⟩ = some (.int .i64 0) := (blk_cell BK254.out 6).trans rfl; have hcz19_7 : w18.cell? ⟨gb254, 7, none⟩ = some (.int .i64 0) := (blk_cell BK254.out 7).trans rfl; have hcz19_8 : w18.cell? ⟨gb254, 8, none⟩ = some (.int .i64 50) := (blk_cell BK254.out 8).trans rfl; have hfz19_0 := blk_frozen BK254.out 0; have hfz19_1 := blk_frozen BK254.out 1; have hfz19_2 := blk_frozen BK254.out 2; have hfz19_3 := blk_frozen BK254.out 3; have hfz19_4 := blk_frozen BK254.out 4; have hfz19_5 := blk_frozen BK254.out 5; have hfz19_6 := blk_frozen BK254.out 6; have hfz19_7 := blk_frozen BK254.out 7; have hfz19_8 := blk_frozen BK254.out 8) | ((with_reducible refine gate_dst (N := 16) rfl ?_); (try (refine gate_guard (by rfl) ?_; dsimp only)); refine Kd.R_lit (Kd.int .i64) _ 3 ?hg (N := 16) ?hd (xs := ([0] : List Int)) (inner := [.int .i64 0]) (ok := fun _ => True) (okp := fun _ => True) ?hr ?hp (fun _ hk => hk) trivial (Below.refl _ _) (Nat.le_refl _) (by simp) ?_; (case hd => rfl); (case hg => rfl); (case hr => first | (go_simp; done) | (go_simp; rfl)); (case hp => exact (Reps.one (show Kd.M (Kd.int .i64) _ _ _ 0 [.int .i64 0] from rfl) (Reps.none _ _))); intro v263 w20 ho21 hb hg_ hnew_; clear hg_ hnew_; (first | rw [← Ny262.out] at ho21 | (simp only [Int.reduceToNat] at ho21; rw [← Ny262.out] at ho21)); have n0_ := Aside0.mk (Kd.R_below (by (with_reducible repeat (first | apply Kd.R_alloc | apply Kd.R_drewN | apply Kd.R_drew)); exact HO253.out) hb); have n1_ := Aside0.mk (Kd.S_elder' (by (with_reducible repeat (first | apply Kd.S_alloc | apply Kd.S_drewN | apply Kd.S_drew)); exact HO257.out) (Kd.R_base ho21) hb); have n2_ := Aside0.mk (Kd.R_elder' (by (with_reducible repeat (first | apply Kd.R_alloc | apply Kd.R_drewN | apply Kd.R_drew)); exact HO260.out) (Kd.R_base ho21) hb); have n3_ := Aside0.mk (Kd.R_lower (Kd.R_new' ho21 (Kd.R_lt (by (with_reducible repeat (first | apply Kd.R_alloc | apply Kd.R_drewN | apply Kd.R_drew)); exact HO260.out))) (below_size (by repeat (first | (with_reducible first | exact HB.out | apply below_alloc | apply pw_below_drewN | apply below_drew1 | refine below_set ?_ GE254.out) | exact HB.out)))); have n4_ := Aside0.mk (blk_below (g := gb254) (o := .cells #[.slice Ao8 y251.length co8, .slice none 0 0, .slice none 0 0, .int .i64 0, .int .i64 0, .int .i64 0, .int .i64 0, .int .i64 0, .int .i64 50] 26 (0, 0)) (by (with_reducible repeat (first | refine blk_drewN ?_ _ | refine blk_drew ?_ | refine blk_alloc ?_ _)); exact BK254.out) hb); have n5_ := Aside0.mk (below_step (by repeat (first | (with_reducible first | exact HB.out | apply below_alloc | apply pw_below_drewN | apply below_drew1 | refine below_set ?_ GE254.out) | exact HB.out)) hb); clear HO253; clear HO257; clear HO260; clear BK254; clear HB; have HO253 := n0_; have HO257 := n1_; have HO260 := n2_; have HO264 := n3_; have BK254 := n4_; have HB := n5_; clear n0_ n1_ n2_ n3_ n4_ n5_; clear hb ho21; obtain ⟨Ao22, co22, eo22⟩ := Kd.R_slice HO264.out; subst eo22) | (go_at_call 19; (refine (slack_At.calls _ _ y251 _ _ ([] : List (S68)) _ _ ([] : List (S71)) 0 0 0 0 0 50 _ _ y255 _ _ y262 _ _ ([] : List (S38)) _ _ ([] : List (S73)) 0 8 t265 _ ?side1 ?side2 ?side3 ?side4 ?side5 ?side6 ?side7 ?side8 ?side9 ?side10 ?side11 ?side12 ?side13 ?side14 A3.out).mono ?_); (case side1 => repeat (first | exact (Kd.R_reads' HO253.out).2.2 | (with_reducible refine Kd.C_alloc ?_ _) | (with_reducible refine Kd.C_drewN ?_ _) | (with_reducible refine Kd.C_drew ?_))); (case side2 => exact (Kd.R_reads' HO253.out).2.1); (case side3 => exact Kd.C_nil _ _); (case side4 => exact Nat.le_refl _); (case side5 => exact Kd.C_nil _ _); (case side6 => exact Nat.le_refl _); (case side7 => repeat (first | exact (Kd.S_reads' HO257.out).2.2 | (with_reducible refine Kd.C_alloc ?_ _) | (with_reducible refine Kd.C_drewN ?_ _) | (with_reducible refine Kd.C_drew ?_))); (case side8 => exact (Kd.S_reads' HO257.out).2.1); (case side9 => repeat (first | exact (Kd.R_reads' HO264.out).2.2 | (with_reducible refine Kd.C_alloc ?_ _) | (with_reducible refine Kd.C_drewN ?_ _) | (with_reducible refine Kd.C_drew ?_))); (case side10 => exact (Kd.R_reads' HO264.out).2.1); (case side11 => exact Kd.C_nil _ _); (case side12 => exact Nat.le_refl _); (case side13 => exact Kd.C_nil _ _); (case side14 => exact Nat.le_refl _); rintro e w23 ⟨rfl, hb⟩; have n0_ := Aside0.mk (Kd.R_below (by (with_reducible repeat (first | apply Kd.R_alloc | apply Kd.R_drewN | apply Kd.R_drew)); exact HO253.out) hb); have n1_ := Aside0.mk (Kd.S_below (by (with_reducible repeat (first | apply Kd.S_alloc | apply Kd.S_drewN | apply Kd.S_drew)); exact HO257.out) hb); have n2_ := Aside0.mk (Kd.R_below (by (with_reducible repeat (first | apply Kd.R_alloc | apply Kd.R_drewN | apply Kd.R_drew)); exact HO260.out) hb); have n3_ := Aside0.mk (Kd.R_below (by (with_reducible repeat (first | apply Kd.R_alloc | apply Kd.R_drewN | apply Kd.R_drew)); exact HO264.out) hb); have n4_ := Aside0.mk (blk_below (g := gb254) (o := .cells #[.slice Ao8 y251.length co8, .slice none 0 0, .slice none 0 0, .int .i64 0, .int .i64 0, .int .i64 0, .int .i64 0, .int .i64 0, .int .i64 50] 26 (0, 0)) (by (with_reducible repeat (first | refine blk_drewN ?_ _ | refine blk_drew ?_ | refine blk_alloc ?_ _)); exact BK254.out) hb); have n5_ := Aside0.mk (below_step (by repeat (first | (with_reducible first | exact HB.out | apply below_alloc | apply pw_below_drewN | apply below_drew1 | refine below_set ?_ GE254.out) | exact HB.out)) hb); clear HO253; clear HO257; clear HO260; clear HO264; clear BK254; clear HB; have HO253 := n0_; have HO257 := n1_; have HO260 := n2_; have HO264 := n3_; have BK254 := n4_; have HB := n5_; clear n0_ n1_ n2_ n3_ n4_ n5_; (try clear hb); (try clear hb2); (try clear hk); (try clear hi); have hcz24_0 : w23.cell? ⟨gb254, 0, none⟩ = some (.slice Ao8 y251.length co8) := (blk_cell BK254.out 0).trans rfl; have hcz24_1 : w23.cell? ⟨gb254, 1, none⟩ = some (.slice none 0 0) := (blk_cell BK254.out 1).trans rfl; have hcz24_2 : w23.cell? ⟨gb254, 2, none⟩ = some (.slice none 0 0) := (blk_cell BK254.out 2).trans rfl; have hcz24_3 : w23.cell? ⟨gb254, 3, none⟩ = some (.int .i64 0) := (blk_cell BK254.out 3).trans rfl; have hcz24_4 : w23.cell? ⟨gb254, 4, none⟩ = some (.int .i64 0) := (blk_cell BK254.out 4).trans rfl; have hcz24_5 : w23.cell? ⟨gb254, 5, none⟩ = some (.int .i64 0) := (blk_cell BK254.out 5).trans rfl; have hcz24_6 : w23.cell? ⟨gb254, 6, none⟩ = some (.int .i64 0) := (blk_cell BK254.out 6).trans rfl; have hcz24_7 : w23.cell? ⟨gb254, 7, none⟩ = some (.int .i64 0) := (blk_cell BK254.out 7).trans rfl; have hcz24_8 : w23.cell? ⟨gb254, 8, none⟩ = some (.int .i64 50) := (blk_cell BK254.out 8).trans rfl; have hfz24_0 := blk_frozen BK254.out 0; have hfz24_1 := blk_frozen BK254.out 1; have hfz24_2 := blk_frozen BK254.out 2; have hfz24_3 := blk_frozen BK254.out 3; have hfz24_4 := blk_frozen BK254.out 4; have hfz24_5 := blk_frozen BK254.out 5; have hfz24_6 := blk_frozen BK254.out 6; have hfz24_7 := blk_frozen BK254.out 7; have hfz24_8 := blk_frozen BK254.out 8) | (go_at_call 25; (refine (slack_Least.calls _ _ y251 _ _ ([] : List (S68)) _ _ ([] : List (S71)) 0 0 0 0 0 50 _ _ ([] : List (S36)) _ _ ([] : List Int) _ _ ([] : List (S38)) _ _ ([] : List (S73)) 0 0 t266 _ ?side1 ?side2 ?side3 ?side4 ?side5 ?side6 ?side7 ?side8 ?side9 ?side10 ?side11 ?side12 ?side13 ?side14 A5.out).mono ?_); (case side1 => repeat (first | exact (Kd.R_reads' HO253.out).2.2 | (with_reducible refine Kd.C_alloc ?_ _) | (with_reducible refine Kd.C_drewN ?_ _) | (with_reducible refine Kd.C_drew ?_))); (case side2 => exact (Kd.R_reads' HO253.out).2.1); (case side3 => exact Kd.C_nil _ _); (case side4 => exact Nat.le_refl _); (case side5 => exact Kd.C_nil _ _); (case side6 => exact Nat.le_refl _); (case side7 => exact Kd.C_nil _ _); (case side8 => exact Nat.le_refl _); (case side9 => exact Kd.C_nil _ _); (case side10 => exact Nat.le_refl _); (case side11 => exact Kd.C_nil _ _); (case side12 => exact Nat.le_refl _); (case side13 => exact Kd.C_nil _ _); (case side14 => exact Nat.le_refl _); rintro e w25 ⟨rfl, hb⟩; have n0_ := Aside0.mk (Kd.R_below (by (with_reducible repeat (first | apply Kd.R_alloc | apply Kd.R_drewN | apply Kd.R_drew)); exact HO253.out) hb); have n1_ := Aside0.mk (Kd.S_below (by (with_reducible repeat (first | apply Kd.S_alloc | apply Kd.S_drewN | apply Kd.S_drew)); exact HO257.out) hb); have n2_ := Aside0.mk (Kd.R_below (by (with_reducible repeat (first | apply Kd.R_alloc | apply Kd.R_drewN | apply Kd.R_drew)); exact HO260.out) hb); have n3_ := Aside0.mk (Kd.R_below (by (with_reducible repeat (first | apply Kd.R_alloc | apply Kd.R_drewN | apply Kd.R_drew)); exact HO264.out) hb); have n4_ := Aside0.mk (blk_below (g := gb254) (o := .cells #[.slice Ao8 y251.length co8, .slice none 0 0, .slice none 0 0, .int .i64 0, .int .i64 0, .int .i64 0, .int .i64 0, .int .i64 0, .int .i64 50] 26 (0, 0)) (by (with_reducible repeat (first | refine blk_drewN ?_ _ | refine blk_drew ?_ | refine blk_alloc ?_ _)); exact BK254.out) hb); have n5_ := Aside0.mk (below_step (by repeat (first | (with_reducible first | exact HB.out | apply below_alloc | apply pw_below_drewN | apply below_drew1 | refine below_set ?_ GE254.out) | exact HB.out)) hb); clear HO253; clear HO257; clear HO260; clear HO264; clear BK254; clear HB; have HO253 := n0_; have HO257 := n1_; have HO260 := n2_; have HO264 := n3_; have BK254 := n4_; have HB := n5_; clear n0_ n1_ n2_ n3_ n4_ n5_; (try clear hb); (try clear hb2); (try clear hk); (try clear hi)))
      go_ret
      exact ⟨by first | rfl | (simp [errW_none, errW_some] <;> rfl) | (simp [*, errW_none, errW_some] <;> rfl), by repeat (first | (with_reducible first | exact HB.out | apply below_alloc | apply pw_below_drewN | apply below_drew1 | refine below_set ?_ GE254.out) | exact HB.out)⟩
    · rw [if_neg c4] at H
      have c4b0 : (t265 == 25769803776) = false := beq_eq_false_iff_ne.mpr c4
      have c4b1 : (t265 != 25769803776) = true := bne_iff_ne.mpr c4
      obtain rfl := Option.some.inj H
      go_enter Try.func10, Try.ntmps10
      go_wp2_with (first | ((with_reducible refine gate_dst (N := 4) rfl ?_); (try (refine gate_guard (by rfl) ?_; dsimp only)); refine Kd.R_lit k58 _ 58 ?hg (N := 4) ?hd (xs := ([(⟨1, 0⟩ : S58)] : List (S58))) (inner := [.int .i64 1, .int .i64 0]) (ok := fun _ => True) (okp := fun _ => True) ?hr ?hp (fun _ hk => hk) trivial (Below.refl _ _) (Nat.le_refl _) (by simp) ?_; (case hd => rfl); (case hg => rfl); (case hr => first | (go_simp; done) | (go_simp; rfl)); (case hp => exact (Reps.c2 (show Kd.M k58 _ _ _ (⟨1, 0⟩ : S58) [.int .i64 1, .int .i64 0] from (k58_mkM _ _ _ (⟨1, 0⟩ : S58) )) (Reps.none _ _))); intro v252 w26 ho27 hb hg_ hnew_; clear hg_ hnew_; (first | rw [← Ny251.out] at ho27 | (simp only [Int.reduceToNat] at ho27; rw [← Ny251.out] at ho27)); have n0_ := Aside0.mk (Kd.R_lower ho27 (below_size (by repeat (first | (with_reducible first | exact HB.out | apply below_alloc | apply pw_below_drewN | apply below_drew1) | exact HB.out)))); have n1_ := Aside0.mk (below_step (by repeat (first | (with_reducible first | exact HB.out | apply below_alloc | apply pw_below_drewN | apply below_drew1) | exact HB.out)) hb); clear HB; have HO253 := n0_; have HB := n1_; clear n0_ n1_; clear hb ho27; obtain ⟨Ao28, co28, eo28⟩ := Kd.R_slice HO253.out; subst eo28) | ((with_reducible refine gate_dst (N := 1) rfl ?_); (try (refine gate_guard (by rfl) ?_; dsimp only)); refine box_event ?hg (N := 1) ?hd (cs := #[.slice none 0 0, .slice none 0 0, .slice none 0 0, .int .i64 0, .int .i64 0, .int .i64 0, .int .i64 0, .int .i64 0, .int .i64 0]) (t := 26) ?hr ?_; (case hd => rfl); (case hg => rfl); (case hr => first | (go_simp; done) | (go_simp; rfl)); intro gb254 hg w29 hbox hb; have n0_ := Aside0.mk (Kd.R_below (by (with_reducible repeat (first | apply Kd.R_alloc | apply Kd.R_drewN | apply Kd.R_drew)); exact HO253.out) hb); have n1_ := Aside0.mk (below_step (by repeat (first | (with_reducible first | exact HB.out | apply below_alloc | apply pw_below_drewN | apply below_drew1) | exact HB.out)) hb); have n2_ := Aside0.mk (hbox); have n3_ := Aside0.mk ((by rw [hg]; exact (below_size (by repeat (first | (with_reducible first | exact HB.out | apply below_alloc | apply pw_below_drewN | apply below_drew1) | exact HB.out))) : w.heap.size ≤ gb254)); have n4_ := Aside0.mk ((by rw [hg]; exact (below_size (by repeat (first | (with_reducible first | exact HB.out | apply below_alloc | apply pw_below_drewN | apply below_drew1) | exact HB.out))) : w.heap.size ≤ gb254)); clear HO253; clear HB; have HO253 := n0_; have HB := n1_; have BK254 := n2_; have GW254 := n3_; have GE254 := n4_; clear n0_ n1_ n2_ n3_ n4_; clear hb hbox hg; have hcz30_0 : w29.cell? ⟨gb254, 0, none⟩ = some (.slice none 0 0) := (blk_cell BK254.out 0).trans rfl; have hcz30_1 : w29.cell? ⟨gb254, 1, none⟩ = some (.slice none 0 0) := (blk_cell BK254.out 1).trans rfl; have hcz30_2 : w29.cell? ⟨gb254, 2, none⟩ = some (.slice none 0 0) := (blk_cell BK254.out 2).trans rfl; have hcz30_3 : w29.cell? ⟨gb254, 3, none⟩ = some (.int .i64 0) := (blk_cell BK254.out 3).trans rfl; have hcz30_4 : w29.cell? ⟨gb254, 4, none⟩ = some (.int .i64 0) := (blk_cell BK254.out 4).trans rfl; have hcz30_5 : w29.cell? ⟨gb254, 5, none⟩ = some (.int .i64 0) := (blk_cell BK254.out 5).trans rfl; have hcz30_6 : w29.cell? ⟨gb254, 6, none⟩ = some (.int .i64 0) := (blk_cell BK254.out 6).trans rfl; have hcz30_7 : w29.cell? ⟨gb254, 7, none⟩ = some (.int .i64 0) := (blk_cell BK254.out 7).trans rfl; have hcz30_8 : w29.cell? ⟨gb254, 8, none⟩ = some (.int .i64 0) := (blk_cell BK254.out 8).trans rfl; have hfz30_0 := blk_frozen BK254.out 0; have hfz30_1 := blk_frozen BK254.out 1; have hfz30_2 := blk_frozen BK254.out 2; have hfz30_3 := blk_frozen BK254.out 3; have hfz30_4 := blk_frozen BK254.out 4; have hfz30_5 := blk_frozen BK254.out 5; have hfz30_6 := blk_frozen BK254.out 6; have hfz30_7 := blk_frozen BK254.out 7; have hfz30_8 := blk_frozen BK254.out 8) | ((with_reducible refine gate_dst (N := 7) rfl ?_); (try (refine gate_guard (by rfl) ?_; dsimp only)); refine Kd.S_lit k36 _ 36 ?hg (N := 7) ?hd (xs := ([(⟨4, 1, ([] : List Int), ([] : List Int)⟩ : S36)] : List (S36))) (inner := [.int .i64 4, .int .i64 1, .slice none 0 0, .slice none 0 0]) (ok := fun _ => True) (okp := fun _ => True) ?hr ?hp (fun _ hk => hk) trivial (Below.refl _ _) (Nat.le_refl _) (by simp) ?_; (case hd => rfl); (case hg => rfl); (case hr => first | (go_simp; done) | (go_simp; rfl)); (case hp => exact (Reps.c4 (show Kd.M k36 _ _ _ (⟨4, 1, ([] : List Int), ([] : List Int)⟩ : S36) [.int .i64 4, .int .i64 1, .slice none 0 0, .slice none 0 0] from (k36_mkM _ _ _ (⟨4, 1, ([] : List Int), ([] : List Int)⟩ : S36) (Kd.R_nil _ _ _ _ _) (Kd.R_nil _ _ _ _ _))) (Reps.none _ _))); intro v256 w31 ho32 hb hg_ hnew_; clear hg_ hnew_; (first | rw [← Ny255.out] at ho32 | (simp only [Int.reduceToNat] at ho32; rw [← Ny255.out] at ho32)); have n0_ := Aside0.mk (Kd.R_below (by (with_reducible repeat (first | apply Kd.R_alloc | apply Kd.R_drewN | apply Kd.R_drew)); exact (Kd.R_mono (Kd.R_far (p := ⟨gb254, 8, none⟩) (Kd.R_far (p := ⟨gb254, 7, none⟩) (Kd.R_far (p := ⟨gb254, 6, none⟩) (Kd.R_far (p := ⟨gb254, 5, none⟩) (Kd.R_far (p := ⟨gb254, 4, none⟩) (Kd.R_far (p := ⟨gb254, 3, none⟩) (Kd.R_far (p := ⟨gb254, 2, none⟩) (Kd.R_far (p := ⟨gb254, 1, none⟩) (Kd.R_far (p := ⟨gb254, 0, none⟩) (Kd.R_types HO253.out BK254.out (by decide)) (fun _ hk => hk.2) (.slice Ao28 y251.length co28)) (fun _ hk => hk.2) (.slice none 0 0)) (fun _ hk => hk.2) (.slice none 0 0)) (fun _ hk => hk.2) (.int .i64 0)) (fun _ hk => hk.2) (.int .i64 0)) (fun _ hk => hk.2) (.int .i64 0)) (fun _ hk => hk.2) (.int .i64 0)) (fun _ hk => hk.2) (.int .i64 0)) (fun _ hk => hk.2) (.int .i64 50)) (fun _ h_ => h_.1))) hb); have n1_ := Aside0.mk (Kd.S_lower ho32 (below_size (by repeat (first | (with_reducible first | exact HB.out | apply below_alloc | apply pw_below_drewN | apply below_drew1 | refine below_set ?_ GE254.out) | exact HB.out)))); have n2_ := Aside0.mk (blk_below (g := gb254) (o := .cells #[.slice Ao28 y251.length co28, .slice none 0 0, .slice none 0 0, .int .i64 0, .int .i64 0, .int .i64 0, .int .i64 0, .int .i64 0, .int .i64 50] 26 (0, 0)) (by (with_reducible repeat (first | refine blk_drewN ?_ _ | refine blk_drew ?_ | refine blk_alloc ?_ _)); refine blk_put (cs := #[.slice Ao28 y251.length co28, .slice none 0 0, .slice none 0 0, .int .i64 0, .int .i64 0, .int .i64 0, .int .i64 0, .int .i64 0, .int .i64 0]) ?_ 8 _ rfl; (with_reducible repeat (first | refine blk_drewN ?_ _ | refine blk_drew ?_ | refine blk_alloc ?_ _)); refine blk_put (cs := #[.slice Ao28 y251.length co28, .slice none 0 0, .slice none 0 0, .int .i64 0, .int .i64 0, .int .i64 0, .int .i64 0, .int .i64 0, .int .i64 0]) ?_ 7 _ rfl; (with_reducible repeat (first | refine blk_drewN ?_ _ | refine blk_drew ?_ | refine blk_alloc ?_ _)); refine blk_put (cs := #[.slice Ao28 y251.length co28, .slice none 0 0, .slice none 0 0, .int .i64 0, .int .i64 0, .int .i64 0, .int .i64 0, .int .i64 0, .int .i64 0]) ?_ 6 _ rfl; (with_reducible repeat (first | refine blk_drewN ?_ _ | refine blk_drew ?_ | refine blk_alloc ?_ _)); refine blk_put (cs := #[.slice Ao28 y251.length co28, .slice none 0 0, .slice none 0 0, .int .i64 0, .int .i64 0, .int .i64 0, .int .i64 0, .int .i64 0, .int .i64 0]) ?_ 5 _ rfl; (with_reducible repeat (first | refine blk_drewN ?_ _ | refine blk_drew ?_ | refine blk_alloc ?_ _)); refine blk_put (cs := #[.slice Ao28 y251.length co28, .slice none 0 0, .slice none 0 0, .int .i64 0, .int .i64 0, .int .i64 0, .int .i64 0, .int .i64 0, .int .i64 0]) ?_ 4 _ rfl; (with_reducible repeat (first | refine blk_drewN ?_ _ | refine blk_drew ?_ | refine blk_alloc ?_ _)); refine blk_put (cs := #[.slice Ao28 y251.length co28, .slice none 0 0, .slice none 0 0, .int .i64 0, .int .i64 0, .int .i64 0, .int .i64 0, .int .i64 0, .int .i64 0]) ?_ 3 _ rfl; (with_reducible repeat (first | refine blk_drewN ?_ _ | refine blk_drew ?_ | refine blk_alloc ?_ _)); refine blk_put (cs := #[.slice Ao28 y251.length co28, .slice none 0 0, .slice none 0 0, .int .i64 0, .int .i64 0, .int .i64 0, .int .i64 0, .int .i64 0, .int .i64 0]) ?_ 2 _ rfl; (with_reducible repeat (first | refine blk_drewN ?_ _ | refine blk_drew ?_ | refine blk_alloc ?_ _)); refine blk_put (cs := #[.slice Ao28 y251.length co28, .slice none 0 0, .slice none 0 0, .int .i64 0, .int .i64 0, .int .i64 0, .int .i64 0, .int .i64 0, .int .i64 0]) ?_ 1 _ rfl; (with_reducible repeat (first | refine blk_drewN ?_ _ | refine blk_drew ?_ | refine blk_alloc ?_ _)); refine blk_put (cs := #[.slice none 0 0, .slice none 0 0, .slice none 0 0, .int .i64 0, .int .i64 0, .int .i64 0, .int .i64 0, .int .i64 0, .int .i64 0]) ?_ 0 _ rfl; (with_reducible repeat (first | refine blk_drewN ?_ _ | refine blk_drew ?_ | refine blk_alloc ?_ _)); exact BK254.out) hb); have n3_ := Aside0.mk (below_step (by repeat (first | (with_reducible first | exact HB.out | apply below_alloc | apply pw_below_drewN | apply below_drew1 | refine below_set ?_ GE254.out) | exact HB.out)) hb); clear HO253; clear BK254; clear HB; have HO253 := n0_; have HO257 := n1_; have BK254 := n2_; have HB := n3_; clear n0_ n1_ n2_ n3_; clear hb ho32; have hcz33_0 : w31.cell? ⟨gb254, 0, none⟩ = some (.slice Ao28 y251.length co28) := (blk_cell BK254.out 0).trans rfl; have hcz33_1 : w31.cell? ⟨gb254, 1, none⟩ = some (.slice none 0 0) := (blk_cell BK254.out 1).trans rfl; have hcz33_2 : w31.cell? ⟨gb254, 2, none⟩ = some (.slice none 0 0) := (blk_cell BK254.out 2).trans rfl; have hcz33_3 : w31.cell? ⟨gb254, 3, none⟩ = some (.int .i64 0) := (blk_cell BK254.out 3).trans rfl; have hcz33_4 : w31.cell? ⟨gb254, 4, none⟩ = some (.int .i64 0) := (blk_cell BK254.out 4).trans rfl; have hcz33_5 : w31.cell? ⟨gb254, 5, none⟩ = some (.int .i64 0) := (blk_cell BK254.out 5).trans rfl; have hcz33_6 : w31.cell? ⟨gb254, 6, none⟩ = some (.int .i64 0) := (blk_cell BK254.out 6).trans rfl; have hcz33_7 : w31.cell? ⟨gb254, 7, none⟩ = some (.int .i64 0) := (blk_cell BK254.out 7).trans rfl; have hcz33_8 : w31.cell? ⟨gb254, 8, none⟩ = some (.int .i64 50) := (blk_cell BK254.out 8).trans rfl; have hfz33_0 := blk_frozen BK254.out 0; have hfz33_1 := blk_frozen BK254.out 1; have hfz33_2 := blk_frozen BK254.out 2; have hfz33_3 := blk_frozen BK254.out 3; have hfz33_4 := blk_frozen BK254.out 4; have hfz33_5 := blk_frozen BK254.out 5; have hfz33_6 := blk_frozen BK254.out 6; have hfz33_7 := blk_frozen BK254.out 7; have hfz33_8 := blk_frozen BK254.out 8) | ((with_reducible refine gate_dst (N := 10) rfl ?_); (try (refine gate_guard (by rfl) ?_; dsimp only)); refine Kd.R_lit (Kd.int .i64) _ 3 ?hg (N := 10) ?hd (xs := ([0] : List Int)) (inner := [.int .i64 0]) (ok := fun _ => True) (okp := fun _ => True) ?hr ?hp (fun _ hk => hk) trivial (Below.refl _ _) (Nat.le_refl _) (by simp) ?_; (case hd => rfl); (case hg => rfl); (case hr => first | (go_simp; done) | (go_simp; rfl)); (case hp => exact (Reps.one (show Kd.M (Kd.int .i64) _ _ _ 0 [.int .i64 0] from rfl) (Reps.none _ _))); intro v259 w34 ho35 hb hg_ hnew_; clear hg_ hnew_; (first | rw [← Ny258.out] at ho35 | (simp only [Int.reduceToNat] at ho35; rw [← Ny258.out] at ho35)); have n0_ := Aside0.mk (Kd.R_below (by (with_reducible repeat (first | apply Kd.R_alloc | apply Kd.R_drewN | apply Kd.R_drew)); exact HO253.out) hb); have n1_ := Aside0.mk (Kd.S_elder' (by (with_reducible repeat (first | apply Kd.S_alloc | apply Kd.S_drewN | apply Kd.S_drew)); exact HO257.out) (Kd.R_base ho35) hb); have n2_ := Aside0.mk (Kd.R_lower ho35 (below_size (by repeat (first | (with_reducible first | exact HB.out | apply below_alloc | apply pw_below_drewN | apply below_drew1 | refine below_set ?_ GE254.out) | exact HB.out)))); have n3_ := Aside0.mk (blk_below (g := gb254) (o := .cells #[.slice Ao28 y251.length co28, .slice none 0 0, .slice none 0 0, .int .i64 0, .int .i64 0, .int .i64 0, .int .i64 0, .int .i64 0, .int .i64 50] 26 (0, 0)) (by (with_reducible repeat (first | refine blk_drewN ?_ _ | refine blk_drew ?_ | refine blk_alloc ?_ _)); exact BK254.out) hb); have n4_ := Aside0.mk (below_step (by repeat (first | (with_reducible first | exact HB.out | apply below_alloc | apply pw_below_drewN | apply below_drew1 | refine below_set ?_ GE254.out) | exact HB.out)) hb); clear HO253; clear HO257; clear BK254; clear HB; have HO253 := n0_; have HO257 := n1_; have HO260 := n2_; have BK254 := n3_; have HB := n4_; clear n0_ n1_ n2_ n3_ n4_; clear hb ho35; obtain ⟨Ao36, co36, eo36⟩ := Kd.S_slice HO257.out; subst eo36; obtain ⟨Ao37, co37, eo37⟩ := Kd.R_slice HO260.out; subst eo37) | ((with_reducible refine gate_callee (f := 25) rfl ?_); refine goesL_ (some 11) rfl rfl Try.func25 (by kernel_rfl) rfl #[.agg #[.slice Ao28 y251.length co28, .slice none 0 0, .slice none 0 0, .int .i64 0, .int .i64 0, .int .i64 0, .int .i64 0, .int .i64 0, .int .i64 50], .slice Ao36 y255.length co36, .slice Ao37 y258.length co37, .slice none 0 0, .slice none 0 0, .int .i64 0, .int .i64 0] rfl (by (try simp only [List.map_toArray, List.map_cons, List.map_nil]); first | done | rfl | (simp only [List.length_drop, List.length_take]; rfl)) ?_; (refine (slack_Least.calls _ _ y251 _ _ ([] : List (S68)) _ _ ([] : List (S71)) 0 0 0 0 0 50 _ _ y255 _ _ y258 _ _ ([] : List (S38)) _ _ ([] : List (S73)) 0 0 t261 _ ?side1 ?side2 ?side3 ?side4 ?side5 ?side6 ?side7 ?side8 ?side9 ?side10 ?side11 ?side12 ?side13 ?side14 A1.out).mono ?_); (case side1 => repeat (first | exact (Kd.R_reads' HO253.out).2.2 | (with_reducible refine Kd.C_alloc ?_ _) | (with_reducible refine Kd.C_drewN ?_ _) | (with_reducible refine Kd.C_drew ?_))); (case side2 => exact (Kd.R_reads' HO253.out).2.1); (case side3 => exact Kd.C_nil _ _); (case side4 => exact Nat.le_refl _); (case side5 => exact Kd.C_nil _ _); (case side6 => exact Nat.le_refl _); (case side7 => repeat (first | exact (Kd.S_reads' HO257.out).2.2 | (with_reducible refine Kd.C_alloc ?_ _) | (with_reducible refine Kd.C_drewN ?_ _) | (with_reducible refine Kd.C_drew ?_))); (case side8 => exact (Kd.S_reads' HO257.out).2.1); (case side9 => repeat (first | exact (Kd.R_reads' HO260.out).2.2 | (with_reducible refine Kd.C_alloc ?_ _) | (with_reducible refine Kd.C_drewN ?_ _) | (with_reducible refine Kd.C_drew ?_))); (case side10 => exact (Kd.R_reads' HO260.out).2.1); (case side11 => exact Kd.C_nil _ _); (case side12 => exact Nat.le_refl _); (case side13 => exact Kd.C_nil _ _); (case side14 => exact Nat.le_refl _); rintro e w38 ⟨rfl, hb⟩; refine ⟨_, rfl, ?_⟩; have n0_ := Aside0.mk (Kd.R_below (by (with_reducible repeat (first | apply Kd.R_alloc | apply Kd.R_drewN | apply Kd.R_drew)); exact HO253.out) hb); have n1_ := Aside0.mk (Kd.S_below (by (with_reducible repeat (first | apply Kd.S_alloc | apply Kd.S_drewN | apply Kd.S_drew)); exact HO257.out) hb); have n2_ := Aside0.mk (Kd.R_below (by (with_reducible repeat (first | apply Kd.R_alloc | apply Kd.R_drewN | apply Kd.R_drew)); exact HO260.out) hb); have n3_ := Aside0.mk (blk_below (g := gb254) (o := .cells #[.slice Ao28 y251.length co28, .slice none 0 0, .slice none 0 0, .int .i64 0, .int .i64 0, .int .i64 0, .int .i64 0, .int .i64 0, .int .i64 50] 26 (0, 0)) (by (with_reducible repeat (first | refine blk_drewN ?_ _ | refine blk_drew ?_ | refine blk_alloc ?_ _)); exact BK254.out) hb); have n4_ := Aside0.mk (below_step (by repeat (first | (with_reducible first | exact HB.out | apply below_alloc | apply pw_below_drewN | apply below_drew1 | refine below_set ?_ GE254.out) | exact HB.out)) hb); clear HO253; clear HO257; clear HO260; clear BK254; clear HB; have HO253 := n0_; have HO257 := n1_; have HO260 := n2_; have BK254 := n3_; have HB := n4_; clear n0_ n1_ n2_ n3_ n4_; (try clear hb); (try clear hb2); (try clear hk); (try clear hi); have hcz39_0 : w38.cell? ⟨gb254, 0, none⟩ = some (.slice Ao28 y251.length co28) := (blk_cell BK254.out 0).trans rfl; have hcz39_1 : w38.cell? ⟨gb254, 1, none⟩ = some (.slice none 0 0) := (blk_cell BK254.out 1).trans rfl; have hcz39_2 : w38.cell? ⟨gb254, 2, none⟩ = some (.slice none 0 0) := (blk_cell BK254.out 2).trans rfl; have hcz39_3 : w38.cell? ⟨gb254, 3, none⟩ = some (.int .i64 0) := (blk_cell BK254.out 3).trans rfl; have hcz39_4 : w38.cell? ⟨gb254, 4, none⟩ = some (.int .i64 0) := (blk_cell BK254.out 4).trans rfl; have hcz39_5 : w38.cell? ⟨gb254, 5, none⟩ = some (.int .i64 0) := (blk_cell BK254.out 5).trans rfl; have hcz39_6 : w38.cell? ⟨gb254, 6, none⟩ = some (.int .i64 0) := (blk_cell BK254.out 6).trans rfl; have hcz39_7 : w38.cell? ⟨gb254, 7, none⟩ = some (.int .i64 0) := (blk_cell BK254.out 7).trans rfl; have hcz39_8 : w38.cell? ⟨gb254, 8, none⟩ = some (.int .i64 50) := (blk_cell BK254.out 8).trans rfl; have hfz39_0 := blk_frozen BK254.out 0; have hfz39_1 := blk_frozen BK254.out 1; have hfz39_2 := blk_frozen BK254.out 2; have hfz39_3 := blk_frozen BK254.out 3; have hfz39_4 := blk_frozen BK254.out 4; have hfz39_5 := blk_frozen BK254.out 5; have hfz39_6 := blk_frozen BK254.out 6; have hfz39_7 := blk_frozen BK254.out 7; have hfz39_8 := blk_frozen BK254.out 8) | ((with_reducible refine gate_dst (N := 16) rfl ?_); (try (refine gate_guard (by rfl) ?_; dsimp only)); refine Kd.R_lit (Kd.int .i64) _ 3 ?hg (N := 16) ?hd (xs := ([0] : List Int)) (inner := [.int .i64 0]) (ok := fun _ => True) (okp := fun _ => True) ?hr ?hp (fun _ hk => hk) trivial (Below.refl _ _) (Nat.le_refl _) (by simp) ?_; (case hd => rfl); (case hg => rfl); (case hr => first | (go_simp; done) | (go_simp; rfl)); (case hp => exact (Reps.one (show Kd.M (Kd.int .i64) _ _ _ 0 [.int .i64 0] from rfl) (Reps.none _ _))); intro v263 w40 ho41 hb hg_ hnew_; clear hg_ hnew_; (first | rw [← Ny262.out] at ho41 | (simp only [Int.reduceToNat] at ho41; rw [← Ny262.out] at ho41)); have n0_ := Aside0.mk (Kd.R_below (by (with_reducible repeat (first | apply Kd.R_alloc | apply Kd.R_drewN | apply Kd.R_drew)); exact HO253.out) hb); have n1_ := Aside0.mk (Kd.S_elder' (by (with_reducible repeat (first | apply Kd.S_alloc | apply Kd.S_drewN | apply Kd.S_drew)); exact HO257.out) (Kd.R_base ho41) hb); have n2_ := Aside0.mk (Kd.R_elder' (by (with_reducible repeat (first | apply Kd.R_alloc | apply Kd.R_drewN | apply Kd.R_drew)); exact HO260.out) (Kd.R_base ho41) hb); have n3_ := Aside0.mk (Kd.R_lower (Kd.R_new' ho41 (Kd.R_lt (by (with_reducible repeat (first | apply Kd.R_alloc | apply Kd.R_drewN | apply Kd.R_drew)); exact HO260.out))) (below_size (by repeat (first | (with_reducible first | exact HB.out | apply below_alloc | apply pw_below_drewN | apply below_drew1 | refine below_set ?_ GE254.out) | exact HB.out)))); have n4_ := Aside0.mk (blk_below (g := gb254) (o := .cells #[.slice Ao28 y251.length co28, .slice none 0 0, .slice none 0 0, .int .i64 0, .int .i64 0, .int .i64 0, .int .i64 0, .int .i64 0, .int .i64 50] 26 (0, 0)) (by (with_reducible repeat (first | refine blk_drewN ?_ _ | refine blk_drew ?_ | refine blk_alloc ?_ _)); exact BK254.out) hb); have n5_ := Aside0.mk (below_step (by repeat (first | (with_reducible first | exact HB.out | apply below_alloc | apply pw_below_drewN | apply below_drew1 | refine below_set ?_ GE254.out) | exact HB.out)) hb); clear HO253; clear HO257; clear HO260; clear BK254; clear HB; have HO253 := n0_; have HO257 := n1_; have HO260 := n2_; have HO264 := n3_; have BK254 := n4_; have HB := n5_; clear n0_ n1_ n2_ n3_ n4_ n5_; clear hb ho41; obtain ⟨Ao42, co42, eo42⟩ := Kd.R_slice HO264.out; subst eo42) | (go_at_call 19; (refine (slack_At.calls _ _ y251 _ _ ([] : List (S68)) _ _ ([] : List (S71)) 0 0 0 0 0 50 _ _ y255 _ _ y262 _ _ ([] : List (S38)) _ _ ([] : List (S73)) 0 8 t265 _ ?side1 ?side2 ?side3 ?side4 ?side5 ?side6 ?side7 ?side8 ?side9 ?side10 ?side11 ?side12 ?side13 ?side14 A3.out).mono ?_); (case side1 => repeat (first | exact (Kd.R_reads' HO253.out).2.2 | (with_reducible refine Kd.C_alloc ?_ _) | (with_reducible refine Kd.C_drewN ?_ _) | (with_reducible refine Kd.C_drew ?_))); (case side2 => exact (Kd.R_reads' HO253.out).2.1); (case side3 => exact Kd.C_nil _ _); (case side4 => exact Nat.le_refl _); (case side5 => exact Kd.C_nil _ _); (case side6 => exact Nat.le_refl _); (case side7 => repeat (first | exact (Kd.S_reads' HO257.out).2.2 | (with_reducible refine Kd.C_alloc ?_ _) | (with_reducible refine Kd.C_drewN ?_ _) | (with_reducible refine Kd.C_drew ?_))); (case side8 => exact (Kd.S_reads' HO257.out).2.1); (case side9 => repeat (first | exact (Kd.R_reads' HO264.out).2.2 | (with_reducible refine Kd.C_alloc ?_ _) | (with_reducible refine Kd.C_drewN ?_ _) | (with_reducible refine Kd.C_drew ?_))); (case side10 => exact (Kd.R_reads' HO264.out).2.1); (case side11 => exact Kd.C_nil _ _); (case side12 => exact Nat.le_refl _); (case side13 => exact Kd.C_nil _ _); (case side14 => exact Nat.le_refl _); rintro e w43 ⟨rfl, hb⟩; have n0_ := Aside0.mk (Kd.R_below (by (with_reducible repeat (first | apply Kd.R_alloc | apply Kd.R_drewN | apply Kd.R_drew)); exact HO253.out) hb); have n1_ := Aside0.mk (Kd.S_below (by (with_reducible repeat (first | apply Kd.S_alloc | apply Kd.S_drewN | apply Kd.S_drew)); exact HO257.out) hb); have n2_ := Aside0.mk (Kd.R_below (by (with_reducible repeat (first | apply Kd.R_alloc | apply Kd.R_drewN | apply Kd.R_drew)); exact HO260.out) hb); have n3_ := Aside0.mk (Kd.R_below (by (with_reducible repeat (first | apply Kd.R_alloc | apply Kd.R_drewN | apply Kd.R_drew)); exact HO264.out) hb); have n4_ := Aside0.mk (blk_below (g := gb254) (o := .cells #[.slice Ao28 y251.length co28, .slice none 0 0, .slice none 0 0, .int .i64 0, .int .i64 0, .int .i64 0, .int .i64 0, .int .i64 0, .int .i64 50] 26 (0, 0)) (by (with_reducible repeat (first | refine blk_drewN ?_ _ | refine blk_drew ?_ | refine blk_alloc ?_ _)); exact BK254.out) hb); have n5_ := Aside0.mk (below_step (by repeat (first | (with_reducible first | exact HB.out | apply below_alloc | apply pw_below_drewN | apply below_drew1 | refine below_set ?_ GE254.out) | exact HB.out)) hb); clear HO253; clear HO257; clear HO260; clear HO264; clear BK254; clear HB; have HO253 := n0_; have HO257 := n1_; have HO260 := n2_; have HO264 := n3_; have BK254 := n4_; have HB := n5_; clear n0_ n1_ n2_ n3_ n4_ n5_; (try clear hb); (try clear hb2); (try clear hk); (try clear hi)))
      go_ret
      exact ⟨by first | rfl | (simp [errW_none, errW_some] <;> rfl) | (simp [*, errW_none, errW_some] <;> rfl), by repeat (first | (with_reducible first | exact HB.out | apply below_alloc | apply pw_below_drewN | apply below_drew1 | refine below_set ?_ GE254.out) | exact HB.out)⟩
  · rw [if_neg c2] at H
    have c2b0 : (t261 == 12884901888) = false := beq_eq_false_iff_ne.mpr c2
    have c2b1 : (t261 != 12884901888) = true := bne_iff_ne.mpr c2
    obtain rfl := Option.some.inj H
    go_enter Try.func10, Try.ntmps10
    go_wp2_with (first | ((with_reducible refine gate_dst (N := 4) rfl ?_); (try (refine gate_guard (by rfl) ?_; dsimp only)); refine Kd.R_lit k58 _ 58 ?hg (N := 4) ?hd (xs := ([(⟨1, 0⟩ : S58)] : List (S58))) (inner := [.int .i64 1, .int .i64 0]) (ok := fun _ => True) (okp := fun _ => True) ?hr ?hp (fun _ hk => hk) trivial (Below.refl _ _) (Nat.le_refl _) (by simp) ?_; (case hd => rfl); (case hg => rfl); (case hr => first | (go_simp; done) | (go_simp; rfl)); (case hp => exact (Reps.c2 (show Kd.M k58 _ _ _ (⟨1, 0⟩ : S58) [.int .i64 1, .int .i64 0] from (k58_mkM _ _ _ (⟨1, 0⟩ : S58) )) (Reps.none _ _))); intro v252 w44 ho45 hb hg_ hnew_; clear hg_ hnew_; (first | rw [← Ny251.out] at ho45 | (simp only [Int.reduceToNat] at ho45; rw [← Ny251.out] at ho45)); have n0_ := Aside0.mk (Kd.R_lower ho45 (below_size (by repeat (first | (with_reducible first | exact HB.out | apply below_alloc | apply pw_below_drewN | apply below_drew1) | exact HB.out)))); have n1_ := Aside0.mk (below_step (by repeat (first | (with_reducible first | exact HB.out | apply below_alloc | apply pw_below_drewN | apply below_drew1) | exact HB.out)) hb); clear HB; have HO253 := n0_; have HB := n1_; clear n0_ n1_; clear hb ho45; obtain ⟨Ao46, co46, eo46⟩ := Kd.R_slice HO253.out; subst eo46) | ((with_reducible refine gate_dst (N := 1) rfl ?_); (try (refine gate_guard (by rfl) ?_; dsimp only)); refine box_event ?hg (N := 1) ?hd (cs := #[.slice none 0 0, .slice none 0 0, .slice none 0 0, .int .i64 0, .int .i64 0, .int .i64 0, .int .i64 0, .int .i64 0, .int .i64 0]) (t := 26) ?hr ?_; (case hd => rfl); (case hg => rfl); (case hr => first | (go_simp; done) | (go_simp; rfl)); intro gb254 hg w47 hbox hb; have n0_ := Aside0.mk (Kd.R_below (by (with_reducible repeat (first | apply Kd.R_alloc | apply Kd.R_drewN | apply Kd.R_drew)); exact HO253.out) hb); have n1_ := Aside0.mk (below_step (by repeat (first | (with_reducible first | exact HB.out | apply below_alloc | apply pw_below_drewN | apply below_drew1) | exact HB.out)) hb); have n2_ := Aside0.mk (hbox); have n3_ := Aside0.mk ((by rw [hg]; exact (below_size (by repeat (first | (with_reducible first | exact HB.out | apply below_alloc | apply pw_below_drewN | apply below_drew1) | exact HB.out))) : w.heap.size ≤ gb254)); have n4_ := Aside0.mk ((by rw [hg]; exact (below_size (by repeat (first | (with_reducible first | exact HB.out | apply below_alloc | apply pw_below_drewN | apply below_drew1) | exact HB.out))) : w.heap.size ≤ gb254)); clear HO253; clear HB; have HO253 := n0_; have HB := n1_; have BK254 := n2_; have GW254 := n3_; have GE254 := n4_; clear n0_ n1_ n2_ n3_ n4_; clear hb hbox hg; have hcz48_0 : w47.cell? ⟨gb254, 0, none⟩ = some (.slice none 0 0) := (blk_cell BK254.out 0).trans rfl; have hcz48_1 : w47.cell? ⟨gb254, 1, none⟩ = some (.slice none 0 0) := (blk_cell BK254.out 1).trans rfl; have hcz48_2 : w47.cell? ⟨gb254, 2, none⟩ = some (.slice none 0 0) := (blk_cell BK254.out 2).trans rfl; have hcz48_3 : w47.cell? ⟨gb254, 3, none⟩ = some (.int .i64 0) := (blk_cell BK254.out 3).trans rfl; have hcz48_4 : w47.cell? ⟨gb254, 4, none⟩ = some (.int .i64 0) := (blk_cell BK254.out 4).trans rfl; have hcz48_5 : w47.cell? ⟨gb254, 5, none⟩ = some (.int .i64 0) := (blk_cell BK254.out 5).trans rfl; have hcz48_6 : w47.cell? ⟨gb254, 6, none⟩ = some (.int .i64 0) := (blk_cell BK254.out 6).trans rfl; have hcz48_7 : w47.cell? ⟨gb254, 7, none⟩ = some (.int .i64 0) := (blk_cell BK254.out 7).trans rfl; have hcz48_8 : w47.cell? ⟨gb254, 8, none⟩ = some (.int .i64 0) := (blk_cell BK254.out 8).trans rfl; have hfz48_0 := blk_frozen BK254.out 0; have hfz48_1 := blk_frozen BK254.out 1; have hfz48_2 := blk_frozen BK254.out 2; have hfz48_3 := blk_frozen BK254.out 3; have hfz48_4 := blk_frozen BK254.out 4; have hfz48_5 := blk_frozen BK254.out 5; have hfz48_6 := blk_frozen BK254.out 6; have hfz48_7 := blk_frozen BK254.out 7; have hfz48_8 := blk_frozen BK254.out 8) | ((with_reducible refine gate_dst (N := 7) rfl ?_); (try (refine gate_guard (by rfl) ?_; dsimp only)); refine Kd.S_lit k36 _ 36 ?hg (N := 7) ?hd (xs := ([(⟨4, 1, ([] : List Int), ([] : List Int)⟩ : S36)] : List (S36))) (inner := [.int .i64 4, .int .i64 1, .slice none 0 0, .slice none 0 0]) (ok := fun _ => True) (okp := fun _ => True) ?hr ?hp (fun _ hk => hk) trivial (Below.refl _ _) (Nat.le_refl _) (by simp) ?_; (case hd => rfl); (case hg => rfl); (case hr => first | (go_simp; done) | (go_simp; rfl)); (case hp => exact (Reps.c4 (show Kd.M k36 _ _ _ (⟨4, 1, ([] : List Int), ([] : List Int)⟩ : S36) [.int .i64 4, .int .i64 1, .slice none 0 0, .slice none 0 0] from (k36_mkM _ _ _ (⟨4, 1, ([] : List Int), ([] : List Int)⟩ : S36) (Kd.R_nil _ _ _ _ _) (Kd.R_nil _ _ _ _ _))) (Reps.none _ _))); intro v256 w49 ho50 hb hg_ hnew_; clear hg_ hnew_; (first | rw [← Ny255.out] at ho50 | (simp only [Int.reduceToNat] at ho50; rw [← Ny255.out] at ho50)); have n0_ := Aside0.mk (Kd.R_below (by (with_reducible repeat (first | apply Kd.R_alloc | apply Kd.R_drewN | apply Kd.R_drew)); exact (Kd.R_mono (Kd.R_far (p := ⟨gb254, 8, none⟩) (Kd.R_far (p := ⟨gb254, 7, none⟩) (Kd.R_far (p := ⟨gb254, 6, none⟩) (Kd.R_far (p := ⟨gb254, 5, none⟩) (Kd.R_far (p := ⟨gb254, 4, none⟩) (Kd.R_far (p := ⟨gb254, 3, none⟩) (Kd.R_far (p := ⟨gb254, 2, none⟩) (Kd.R_far (p := ⟨gb254, 1, none⟩) (Kd.R_far (p := ⟨gb254, 0, none⟩) (Kd.R_types HO253.out BK254.out (by decide)) (fun _ hk => hk.2) (.slice Ao46 y251.length co46)) (fun _ hk => hk.2) (.slice none 0 0)) (fun _ hk => hk.2) (.slice none 0 0)) (fun _ hk => hk.2) (.int .i64 0)) (fun _ hk => hk.2) (.int .i64 0)) (fun _ hk => hk.2) (.int .i64 0)) (fun _ hk => hk.2) (.int .i64 0)) (fun _ hk => hk.2) (.int .i64 0)) (fun _ hk => hk.2) (.int .i64 50)) (fun _ h_ => h_.1))) hb); have n1_ := Aside0.mk (Kd.S_lower ho50 (below_size (by repeat (first | (with_reducible first | exact HB.out | apply below_alloc | apply pw_below_drewN | apply below_drew1 | refine below_set ?_ GE254.out) | exact HB.out)))); have n2_ := Aside0.mk (blk_below (g := gb254) (o := .cells #[.slice Ao46 y251.length co46, .slice none 0 0, .slice none 0 0, .int .i64 0, .int .i64 0, .int .i64 0, .int .i64 0, .int .i64 0, .int .i64 50] 26 (0, 0)) (by (with_reducible repeat (first | refine blk_drewN ?_ _ | refine blk_drew ?_ | refine blk_alloc ?_ _)); refine blk_put (cs := #[.slice Ao46 y251.length co46, .slice none 0 0, .slice none 0 0, .int .i64 0, .int .i64 0, .int .i64 0, .int .i64 0, .int .i64 0, .int .i64 0]) ?_ 8 _ rfl; (with_reducible repeat (first | refine blk_drewN ?_ _ | refine blk_drew ?_ | refine blk_alloc ?_ _)); refine blk_put (cs := #[.slice Ao46 y251.length co46, .slice none 0 0, .slice none 0 0, .int .i64 0, .int .i64 0, .int .i64 0, .int .i64 0, .int .i64 0, .int .i64 0]) ?_ 7 _ rfl; (with_reducible repeat (first | refine blk_drewN ?_ _ | refine blk_drew ?_ | refine blk_alloc ?_ _)); refine blk_put (cs := #[.slice Ao46 y251.length co46, .slice none 0 0, .slice none 0 0, .int .i64 0, .int .i64 0, .int .i64 0, .int .i64 0, .int .i64 0, .int .i64 0]) ?_ 6 _ rfl; (with_reducible repeat (first | refine blk_drewN ?_ _ | refine blk_drew ?_ | refine blk_alloc ?_ _)); refine blk_put (cs := #[.slice Ao46 y251.length co46, .slice none 0 0, .slice none 0 0, .int .i64 0, .int .i64 0, .int .i64 0, .int .i64 0, .int .i64 0, .int .i64 0]) ?_ 5 _ rfl; (with_reducible repeat (first | refine blk_drewN ?_ _ | refine blk_drew ?_ | refine blk_alloc ?_ _)); refine blk_put (cs := #[.slice Ao46 y251.length co46, .slice none 0 0, .slice none 0 0, .int .i64 0, .int .i64 0, .int .i64 0, .int .i64 0, .int .i64 0, .int .i64 0]) ?_ 4 _ rfl; (with_reducible repeat (first | refine blk_drewN ?_ _ | refine blk_drew ?_ | refine blk_alloc ?_ _)); refine blk_put (cs := #[.slice Ao46 y251.length co46, .slice none 0 0, .slice none 0 0, .int .i64 0, .int .i64 0, .int .i64 0, .int .i64 0, .int .i64 0, .int .i64 0]) ?_ 3 _ rfl; (with_reducible repeat (first | refine blk_drewN ?_ _ | refine blk_drew ?_ | refine blk_alloc ?_ _)); refine blk_put (cs := #[.slice Ao46 y251.length co46, .slice none 0 0, .slice none 0 0, .int .i64 0, .int .i64 0, .int .i64 0, .int .i64 0, .int .i64 0, .int .i64 0]) ?_ 2 _ rfl; (with_reducible repeat (first | refine blk_drewN ?_ _ | refine blk_drew ?_ | refine blk_alloc ?_ _)); refine blk_put (cs := #[.slice Ao46 y251.length co46, .slice none 0 0, .slice none 0 0, .int .i64 0, .int .i64 0, .int .i64 0, .int .i64 0, .int .i64 0, .int .i64 0]) ?_ 1 _ rfl; (with_reducible repeat (first | refine blk_drewN ?_ _ | refine blk_drew ?_ | refine blk_alloc ?_ _)); refine blk_put (cs := #[.slice none 0 0, .slice none 0 0, .slice none 0 0, .int .i64 0, .int .i64 0, .int .i64 0, .int .i64 0, .int .i64 0, .int .i64 0]) ?_ 0 _ rfl; (with_reducible repeat (first | refine blk_drewN ?_ _ | refine blk_drew ?_ | refine blk_alloc ?_ _)); exact BK254.out) hb); have n3_ := Aside0.mk (below_step (by repeat (first | (with_reducible first | exact HB.out | apply below_alloc | apply pw_below_drewN | apply below_drew1 | refine below_set ?_ GE254.out) | exact HB.out)) hb); clear HO253; clear BK254; clear HB; have HO253 := n0_; have HO257 := n1_; have BK254 := n2_; have HB := n3_; clear n0_ n1_ n2_ n3_; clear hb ho50; have hcz51_0 : w49.cell? ⟨gb254, 0, none⟩ = some (.slice Ao46 y251.length co46) := (blk_cell BK254.out 0).trans rfl; have hcz51_1 : w49.cell? ⟨gb254, 1, none⟩ = some (.slice none 0 0) := (blk_cell BK254.out 1).trans rfl; have hcz51_2 : w49.cell? ⟨gb254, 2, none⟩ = some (.slice none 0 0) := (blk_cell BK254.out 2).trans rfl; have hcz51_3 : w49.cell? ⟨gb254, 3, none⟩ = some (.int .i64 0) := (blk_cell BK254.out 3).trans rfl; have hcz51_4 : w49.cell? ⟨gb254, 4, none⟩ = some (.int .i64 0) := (blk_cell BK254.out 4).trans rfl; have hcz51_5 : w49.cell? ⟨gb254, 5, none⟩ = some (.int .i64 0) := (blk_cell BK254.out 5).trans rfl; have hcz51_6 : w49.cell? ⟨gb254, 6, none⟩ = some (.int .i64 0) := (blk_cell BK254.out 6).trans rfl; have hcz51_7 : w49.cell? ⟨gb254, 7, none⟩ = some (.int .i64 0) := (blk_cell BK254.out 7).trans rfl; have hcz51_8 : w49.cell? ⟨gb254, 8, none⟩ = some (.int .i64 50) := (blk_cell BK254.out 8).trans rfl; have hfz51_0 := blk_frozen BK254.out 0; have hfz51_1 := blk_frozen BK254.out 1; have hfz51_2 := blk_frozen BK254.out 2; have hfz51_3 := blk_frozen BK254.out 3; have hfz51_4 := blk_frozen BK254.out 4; have hfz51_5 := blk_frozen BK254.out 5; have hfz51_6 := blk_frozen BK254.out 6; have hfz51_7 := blk_frozen BK254.out 7; have hfz51_8 := blk_frozen BK254.out 8) | ((with_reducible refine gate_dst (N := 10) rfl ?_); (try (refine gate_guard (by rfl) ?_; dsimp only)); refine Kd.R_lit (Kd.int .i64) _ 3 ?hg (N := 10) ?hd (xs := ([0] : List Int)) (inner := [.int .i64 0]) (ok := fun _ => True) (okp := fun _ => True) ?hr ?hp (fun _ hk => hk) trivial (Below.refl _ _) (Nat.le_refl _) (by simp) ?_; (case hd => rfl); (case hg => rfl); (case hr => first | (go_simp; done) | (go_simp; rfl)); (case hp => exact (Reps.one (show Kd.M (Kd.int .i64) _ _ _ 0 [.int .i64 0] from rfl) (Reps.none _ _))); intro v259 w52 ho53 hb hg_ hnew_; clear hg_ hnew_; (first | rw [← Ny258.out] at ho53 | (simp only [Int.reduceToNat] at ho53; rw [← Ny258.out] at ho53)); have n0_ := Aside0.mk (Kd.R_below (by (with_reducible repeat (first | apply Kd.R_alloc | apply Kd.R_drewN | apply Kd.R_drew)); exact HO253.out) hb); have n1_ := Aside0.mk (Kd.S_elder' (by (with_reducible repeat (first | apply Kd.S_alloc | apply Kd.S_drewN | apply Kd.S_drew)); exact HO257.out) (Kd.R_base ho53) hb); have n2_ := Aside0.mk (Kd.R_lower ho53 (below_size (by repeat (first | (with_reducible first | exact HB.out | apply below_alloc | apply pw_below_drewN | apply below_drew1 | refine below_set ?_ GE254.out) | exact HB.out)))); have n3_ := Aside0.mk (blk_below (g := gb254) (o := .cells #[.slice Ao46 y251.length co46, .slice none 0 0, .slice none 0 0, .int .i64 0, .int .i64 0, .int .i64 0, .int .i64 0, .int .i64 0, .int .i64 50] 26 (0, 0)) (by (with_reducible repeat (first | refine blk_drewN ?_ _ | refine blk_drew ?_ | refine blk_alloc ?_ _)); exact BK254.out) hb); have n4_ := Aside0.mk (below_step (by repeat (first | (with_reducible first | exact HB.out | apply below_alloc | apply pw_below_drewN | apply below_drew1 | refine below_set ?_ GE254.out) | exact HB.out)) hb); clear HO253; clear HO257; clear BK254; clear HB; have HO253 := n0_; have HO257 := n1_; have HO260 := n2_; have BK254 := n3_; have HB := n4_; clear n0_ n1_ n2_ n3_ n4_; clear hb ho53; obtain ⟨Ao54, co54, eo54⟩ := Kd.S_slice HO257.out; subst eo54; obtain ⟨Ao55, co55, eo55⟩ := Kd.R_slice HO260.out; subst eo55) | ((with_reducible refine gate_callee (f := 25) rfl ?_); refine goesL_ (some 11) rfl rfl Try.func25 (by kernel_rfl) rfl #[.agg #[.slice Ao46 y251.length co46, .slice none 0 0, .slice none 0 0, .int .i64 0, .int .i64 0, .int .i64 0, .int .i64 0, .int .i64 0, .int .i64 50], .slice Ao54 y255.length co54, .slice Ao55 y258.length co55, .slice none 0 0, .slice none 0 0, .int .i64 0, .int .i64 0] rfl (by (try simp only [List.map_toArray, List.map_cons, List.map_nil]); first | done | rfl | (simp only [List.length_drop, List.length_take]; rfl)) ?_; (refine (slack_Least.calls _ _ y251 _ _ ([] : List (S68)) _ _ ([] : List (S71)) 0 0 0 0 0 50 _ _ y255 _ _ y258 _ _ ([] : List (S38)) _ _ ([] : List (S73)) 0 0 t261 _ ?side1 ?side2 ?side3 ?side4 ?side5 ?side6 ?side7 ?side8 ?side9 ?side10 ?side11 ?side12 ?side13 ?side14 A1.out).mono ?_); (case side1 => repeat (first | exact (Kd.R_reads' HO253.out).2.2 | (with_reducible refine Kd.C_alloc ?_ _) | (with_reducible refine Kd.C_drewN ?_ _) | (with_reducible refine Kd.C_drew ?_))); (case side2 => exact (Kd.R_reads' HO253.out).2.1); (case side3 => exact Kd.C_nil _ _); (case side4 => exact Nat.le_refl _); (case side5 => exact Kd.C_nil _ _); (case side6 => exact Nat.le_refl _); (case side7 => repeat (first | exact (Kd.S_reads' HO257.out).2.2 | (with_reducible refine Kd.C_alloc ?_ _) | (with_reducible refine Kd.C_drewN ?_ _) | (with_reducible refine Kd.C_drew ?_))); (case side8 => exact (Kd.S_reads' HO257.out).2.1); (case side9 => repeat (first | exact (Kd.R_reads' HO260.out).2.2 | (with_reducible refine Kd.C_alloc ?_ _) | (with_reducible refine Kd.C_drewN ?_ _) | (with_reducible refine Kd.C_drew ?_))); (case side10 => exact (Kd.R_reads' HO260.out).2.1); (case side11 => exact Kd.C_nil _ _); (case side12 => exact Nat.le_refl _); (case side13 => exact Kd.C_nil _ _); (case side14 => exact Nat.le_refl _); rintro e w56 ⟨rfl, hb⟩; refine ⟨_, rfl, ?_⟩; have n0_ := Aside0.mk (Kd.R_below (by (with_reducible repeat (first | apply Kd.R_alloc | apply Kd.R_drewN | apply Kd.R_drew)); exact HO253.out) hb); have n1_ := Aside0.mk (Kd.S_below (by (with_reducible repeat (first | apply Kd.S_alloc | apply Kd.S_drewN | apply Kd.S_drew)); exact HO257.out) hb); have n2_ := Aside0.mk (Kd.R_below (by (with_reducible repeat (first | apply Kd.R_alloc | apply Kd.R_drewN | apply Kd.R_drew)); exact HO260.out) hb); have n3_ := Aside0.mk (blk_below (g := gb254) (o := .cells #[.slice Ao46 y251.length co46, .slice none 0 0, .slice none 0 0, .int .i64 0, .int .i64 0, .int .i64 0, .int .i64 0, .int .i64 0, .int .i64 50] 26 (0, 0)) (by (with_reducible repeat (first | refine blk_drewN ?_ _ | refine blk_drew ?_ | refine blk_alloc ?_ _)); exact BK254.out) hb); have n4_ := Aside0.mk (below_step (by repeat (first | (with_reducible first | exact HB.out | apply below_alloc | apply pw_below_drewN | apply below_drew1 | refine below_set ?_ GE254.out) | exact HB.out)) hb); clear HO253; clear HO257; clear HO260; clear BK254; clear HB; have HO253 := n0_; have HO257 := n1_; have HO260 := n2_; have BK254 := n3_; have HB := n4_; clear n0_ n1_ n2_ n3_ n4_; (try clear hb); (try clear hb2); (try clear hk); (try clear hi)))
    go_ret
    exact ⟨by first | rfl | (simp [errW_none, errW_some] <;> rfl) | (simp [*, errW_none, errW_some] <;> rfl), by repeat (first | (with_reducible first | exact HB.out | apply below_alloc | apply pw_below_drewN | apply below_drew1 | refine below_set ?_ GE254.out) | exact HB.out)⟩
end Go.Proofs.Ytchlbnlhjllcbaa.F
namespace Go.Proofs.Ytchlbnlhjllcbaa.F
open Go.RowKit Go.Proofs.YtchlbnlhjllcbaaW.PrintWords Go.Proofs.YtchlbnlhjllcbaaW.PrintLast Go.Proofs.YtchlbnlhjllcbaaW.PrintMore
attribute [local go_sem] max2_int min2_int max_two min_two max_three min_three max_four min_four   -- for this text's walks alone
set_option linter.unusedVariables false
set_option linter.unusedSimpArgs false
def dormouselaw15_held.l0 : Nat → List (S56) → List (S73) → Int → Option ((List (S73)))
  | 0, _, _, _ => none
  | k + 1, x0, x3, x4 => if x4 < (x0.length : Int) then (if 0 ≤ x4 then (if x3.length < 5864062014805 then (dormouselaw15_held.l0 k x0 (x3 ++ [(⟨(rd_T56 x0 x4).f0, (rd_T56 x0 x4).f1, (rd_T56 x0 x4).f2⟩ : S73)]) (wrap64 (x4 + 1))) else (none)) else (none)) else (some x3)
def dormouselaw15_held.f (k : Nat) (l0 : List (S56)) : Option ((List (S73))) := dormouselaw15_held.l0 k l0 ([] : List (S73)) 0
def dormouselaw15_held.T5 : Bool × List (List Nat × List Nat) := (true, [([], []), ([], []), ([], []), ([1, 2], [1, 2]), ([3], [3]), ([4], [4]), ([], []), ([], []), ([6, 7], [6, 7]), ([8], [8]), ([9], [9]), ([], []), ([], []), ([11, 12], [11, 12]), ([13], [13]), ([14], [14]), ([5, 10, 15], [5, 10, 15]), ([16], [16]), ([0, 17], [0, 17]), ([18, 18, 0, 1, 2, 3, 4, 5, 6, 7, 8, 9, 10, 11, 12, 13, 14, 15, 16, 17, 18], [0, 18])])
def dormouselaw15_held.B5 : List Nat := [0, 0, 0, 6, 14, 30, 0, 0, 192, 448, 960, 0, 0, 6144, 14336, 30720, 65534, 131070, 262143, 524287]
theorem dormouselaw15_held.tab5 : rtab .any (opsOf Try.f27 5) = dormouselaw15_held.T5 := by kernel_rfl
theorem dormouselaw15_held.bits5 : waitsOk dormouselaw15_held.T5.2 dormouselaw15_held.B5 = true := by kernel_rfl
set_option maxHeartbeats 8000000 in
set_option maxRecDepth 100000 in
theorem dormouselaw15_held.calls (k : Nat) (A0 : Option Addr) (c0 : Nat) (l0 : List (S56)) (r : List (S73)) (w : World) (hr0 : Kd.C k56 w A0 l0.length l0) (hc0 : l0.length ≤ c0) (h : dormouselaw15_held.f k l0 = some r) :
    Calls Try.prog 27 #[.slice A0 l0.length c0] w fun e w' => ∃ v0_ : Value, e = .returned (v0_) ∧ Kd.R k73 73 w' w.heap.size (fun _ => True) v0_ r ∧ Below w.heap.size w w' := by
  have hu73 := Try.underlying73
  have HR0 := Aside0.mk hr0
  have HC0 := Aside0.mk hc0
  clear hr0 hc0
  have HB := Aside0.mk (Below.refl w.heap.size w)
  have H : (dormouselaw15_held.l0 k l0 ([] : List (S73)) 0) = some r := h
  clear h
  have H' := Aside0.mk H
  clear H
  go_enter Try.func27, Try.ntmps27
  go_wp2
  go_loopg [3, 4] k (fun kq v3 v4 w' => ∃ (x3_1 : List (S73)) (x4_1 : Int), v4 = .int .i64 x4_1 ∧ Aside0 (dormouselaw15_held.l0 kq l0 x3_1 x4_1 = some r) ∧ Aside0 (kq ≤ k) ∧ Aside0 (Kd.R k73 73 w' w.heap.size (fun _ => True) v3 x3_1) ∧ Aside0 (Below w.heap.size w w'))
  case atStart => exact ⟨(([] : List (S73))), (0), (by first | rfl | (simp; done) | (simp [*]; done)), H', ⟨Nat.le_refl _⟩, ⟨by first | exact Kd.R_nil _ _ _ _ _ | exact Kd.N_nil _ _ _ _ _ | exact Kd.V_nil _ _ _ _ _ | exact Kd.Q_nil _ _ _ _ _ | exact Kd.S_nil _ _ _ _ _⟩, ⟨by repeat (first | (with_reducible first | exact HB.out | apply below_alloc | apply pw_below_drewN | apply below_drew1) | exact HB.out)⟩⟩
  case round =>
    clear H'
    obtain ⟨x3_1, x4_1, rfl, HA, HK1, HO_3, HB⟩ := hrel
    cases gk with
    | zero => exact absurd HA.out (by simp [dormouselaw15_held.l0])
    | succ k1 =>
      have H := HA.out
      clear HA
      simp only [dormouselaw15_held.l0] at H
      by_cases c2 : x4_1 < (l0.length : Int)
      · rw [if_pos c2] at H
        have c2b0 : decide (x4_1 < (l0.length : Int)) = true := decide_eq_true c2
        clear c2
        by_cases c3 : 0 ≤ x4_1
        · rw [if_pos c3] at H
          have c3b0 : decide (0 ≤ x4_1) = true := decide_eq_true c3
          clear c3
          by_cases c4 : x3_1.length < 5864062014805
          · rw [if_pos c4] at H
            have LMc4 := Aside0.mk c4
            clear c4
            obtain ⟨y276, hy276⟩ : ∃ y_ : List (S73), y_ = (x3_1 ++ [(⟨(rd_T56 l0 x4_1).f0, (rd_T56 l0 x4_1).f1, (rd_T56 l0 x4_1).f2⟩ : S73)]) := ⟨_, rfl⟩
            replace H : (dormouselaw15_held.l0 k1 l0 y276 (wrap64 (x4_1 + 1))) = some r := by first | (rw [hy276]; with_reducible exact H) | (have H2_ := (Option.bind_some _ _).symm.trans H; rw [hy276]; with_reducible exact H2_) | (have H2_ := (Option.bind_some _ _).symm.trans H; with_reducible exact H2_) | with_reducible exact H | (rw [hy276]; exact H) | exact H
            have Ny276 := Aside0.mk hy276
            clear hy276
            have H' := Aside0.mk H
            clear H
            try go_wp2
            have n0_ := Aside0.mk (Kd.R_drew HO_3.out)
            have n1_ := Aside0.mk (below_drew1 HB.out)
            clear HO_3
            clear HB
            have HO_3 := n0_
            have HB := n1_
            clear n0_ n1_
            have p273 : 0 ≤ (x4_1 : Int) := of_decide_eq_true (by first | (with_reducible assumption) | assumption)
            have q273 : x4_1 < (l0.length : Int) := of_decide_eq_true (by first | (with_reducible assumption) | assumption)
            obtain ⟨ad273, e273, hx273_0, hx273_1, hx273_2⟩ := at_T56 HR0.out x4_1 p273 q273
            have hw273_2 := hx273_2
            have hw273_1 := hx273_1
            have hw273_0 := hx273_0
            cases e273
            replace hx273_0 := (HB.out.cell (World.block_lt_of_cell? w _ hx273_0)).trans hx273_0
            replace hx273_1 := (HB.out.cell (World.block_lt_of_cell? w _ hx273_1)).trans hx273_1
            replace hx273_2 := (HB.out.cell (World.block_lt_of_cell? w _ hx273_2)).trans hx273_2
            replace p273 := eq_true p273
            replace q273 := eq_true q273
            have p274 : 0 ≤ (x4_1 : Int) := of_decide_eq_true (by first | (with_reducible assumption) | assumption)
            have q274 : x4_1 < (l0.length : Int) := of_decide_eq_true (by first | (with_reducible assumption) | assumption)
            obtain ⟨ad274, e274, hx274_0, hx274_1, hx274_2⟩ := at_T56 HR0.out x4_1 p274 q274
            have hw274_2 := hx274_2
            have hw274_1 := hx274_1
            have hw274_0 := hx274_0
            obtain rfl : ad273 = ad274 := (by injection e274)
            replace hx274_0 := (HB.out.cell (World.block_lt_of_cell? w _ hx274_0)).trans hx274_0
            replace hx274_1 := (HB.out.cell (World.block_lt_of_cell? w _ hx274_1)).trans hx274_1
            replace hx274_2 := (HB.out.cell (World.block_lt_of_cell? w _ hx274_2)).trans hx274_2
            replace p274 := eq_true p274
            replace q274 := eq_true q274
            have p275 : 0 ≤ (x4_1 : Int) := of_decide_eq_true (by first | (with_reducible assumption) | assumption)
            have q275 : x4_1 < (l0.length : Int) := of_decide_eq_true (by first | (with_reducible assumption) | assumption)
            obtain ⟨ad275, e275, hx275_0, hx275_1, hx275_2⟩ := at_T56 HR0.out x4_1 p275 q275
            have hw275_2 := hx275_2
            have hw275_1 := hx275_1
            have hw275_0 := hx275_0
            obtain rfl : ad273 = ad275 := (by injection e275)
            replace hx275_0 := (HB.out.cell (World.block_lt_of_cell? w _ hx275_0)).trans hx275_0
            replace hx275_1 := (HB.out.cell (World.block_lt_of_cell? w _ hx275_1)).trans hx275_1
            replace hx275_2 := (HB.out.cell (World.block_lt_of_cell? w _ hx275_2)).trans hx275_2
            replace p275 := eq_true p275
            replace q275 := eq_true q275
            refine start_ (n := 20) (S := fun w' => w'.cell? (ad273.add ((x4_1).toNat * 3)) = some (.int .i64 ((rd_T56 l0 x4_1).f0)) ∧ w'.cell? ⟨(ad273.add ((x4_1).toNat * 3)).block, (ad273.add ((x4_1).toNat * 3)).off + 1, none⟩ = some (.int .i64 ((rd_T56 l0 x4_1).f1)) ∧ w'.cell? ⟨(ad273.add ((x4_1).toNat * 3)).block, (ad273.add ((x4_1).toNat * 3)).off + 2, none⟩ = some (.int .i64 ((rd_T56 l0 x4_1).f2)) ∧ w'.cell? (ad273.add ((x4_1).toNat * 3)) = some (.int .i64 ((rd_T56 l0 x4_1).f0)) ∧ w'.cell? ⟨(ad273.add ((x4_1).toNat * 3)).block, (ad273.add ((x4_1).toNat * 3)).off + 1, none⟩ = some (.int .i64 ((rd_T56 l0 x4_1).f1)) ∧ w'.cell? ⟨(ad273.add ((x4_1).toNat * 3)).block, (ad273.add ((x4_1).toNat * 3)).off + 2, none⟩ = some (.int .i64 ((rd_T56 l0 x4_1).f2)) ∧ w'.cell? (ad273.add ((x4_1).toNat * 3)) = some (.int .i64 ((rd_T56 l0 x4_1).f0)) ∧ w'.cell? ⟨(ad273.add ((x4_1).toNat * 3)).block, (ad273.add ((x4_1).toNat * 3)).off + 1, none⟩ = some (.int .i64 ((rd_T56 l0 x4_1).f1)) ∧ w'.cell? ⟨(ad273.add ((x4_1).toNat * 3)).block, (ad273.add ((x4_1).toNat * 3)).off + 2, none⟩ = some (.int .i64 ((rd_T56 l0 x4_1).f2))) (ds := []) #[false, false, false, false, false, false, false, false, false, false, false, false, false, false, false, false, false, false, false, false] (by kernel_rfl) rfl rfl ⟨((HB.out.cell (World.block_lt_of_cell? w _ hw273_0)).trans hw273_0), ((HB.out.cell (World.block_lt_of_cell? w _ hw273_1)).trans hw273_1), ((HB.out.cell (World.block_lt_of_cell? w _ hw273_2)).trans hw273_2), ((HB.out.cell (World.block_lt_of_cell? w _ hw274_0)).trans hw274_0), ((HB.out.cell (World.block_lt_of_cell? w _ hw274_1)).trans hw274_1), ((HB.out.cell (World.block_lt_of_cell? w _ hw274_2)).trans hw274_2), ((HB.out.cell (World.block_lt_of_cell? w _ hw275_0)).trans hw275_0), ((HB.out.cell (World.block_lt_of_cell? w _ hw275_1)).trans hw275_1), ((HB.out.cell (World.block_lt_of_cell? w _ hw275_2)).trans hw275_2)⟩ (fun hHeld => ?_); refine with_tabW dormouselaw15_held.tab5 dormouselaw15_held.bits5 (fun HT_ HW_ => ?_)
            generalize wr.drew = w5 at HO_3 HB hx273_0 hx273_1 hx273_2 hx274_0 hx274_1 hx274_2 hx275_0 hx275_1 hx275_2 hHeld ⊢
            refine pure_ (i := 0) (N := some 11) (v := ?_) (a' := ?_) #[true, false, false, false, false, false, false, false, false, false, false, false, false, false, false, false, false, false, false, false] rfl rfl (any_of HT_.out (by kernel_rfl)) (fun _ _ _ h => h) (Or.inl ⟨by rfl, ?_⟩) ?_ ?_
            rotate_left
            · intro w'
              go_simp
              with_reducible rfl
            rotate_left
            · simp only [Act.put, List.setIfInBounds_toArray, List.set_cons_zero, List.set_cons_succ, i64_w, i32_w]
              rfl
            refine pure_ (i := 1) (N := some 12) (v := ?_) (a' := ?_) #[true, true, false, false, false, false, false, false, false, false, false, false, false, false, false, false, false, false, false, false] rfl rfl (any_of HT_.out (by kernel_rfl)) (fun _ _ _ h => h) (Or.inl ⟨by rfl, ?_⟩) ?_ ?_
            rotate_left
            · intro w'
              go_simp
              with_reducible rfl
            rotate_left
            · simp only [Act.put, List.setIfInBounds_toArray, List.set_cons_zero, List.set_cons_succ, i64_w, i32_w]
              rfl
            refine pure_ (i := 2) (N := some 13) (v := ?_) (a' := ?_) #[true, true, true, false, false, false, false, false, false, false, false, false, false, false, false, false, false, false, false, false] rfl rfl (any_of HT_.out (by kernel_rfl)) (fun _ _ _ h => h) (Or.inl ⟨by rfl, ?_⟩) ?_ ?_
            rotate_left
            · intro w'
              go_simp
              with_reducible rfl
            rotate_left
            · simp only [Act.put, List.setIfInBounds_toArray, List.set_cons_zero, List.set_cons_succ, i64_w, i32_w]
              rfl
            refine pure_ (i := 3) (N := some 14) (v := ?_) (a' := ?_) #[true, true, true, true, false, false, false, false, false, false, false, false, false, false, false, false, false, false, false, false] rfl rfl (any_of HT_.out (by kernel_rfl)) (fun _ _ _ h => h) (Or.inl ⟨by rfl, ?_⟩) ?_ ?_
            rotate_left
            · intro w'
              go_simp
              with_reducible rfl
            rotate_left
            · simp only [Act.put, List.setIfInBounds_toArray, List.set_cons_zero, List.set_cons_succ, i64_w, i32_w]
              rfl
            refine pure_ (i := 4) (N := some 15) (v := ?_) (a' := ?_) #[true, true, true, true, true, false, false, false, false, false, false, false, false, false, false, false, false, false, false, false] rfl rfl (any_of HT_.out (by kernel_rfl)) (fun _ _ _ h => h) (Or.inl ⟨by rfl, ?_⟩) ?_ ?_
            rotate_left
            · intro w'
              go_simp
              with_reducible rfl
            rotate_left
            · simp only [Act.put, List.setIfInBounds_toArray, List.set_cons_zero, List.set_cons_succ, i64_w, i32_w]
              rfl
            refine pure_ (i := 6) (N := some 17) (v := ?_) (a' := ?_) #[true, true, true, true, true, false, true, false, false, false, false, false, false, false, false, false, false, false, false, false] rfl rfl (any_of HT_.out (by kernel_rfl)) (fun _ _ _ h => h) (Or.inl ⟨by rfl, ?_⟩) ?_ ?_
            rotate_left
            · intro w'
              go_simp
              with_reducible rfl
            rotate_left
            · simp only [Act.put, List.setIfInBounds_toArray, List.set_cons_zero, List.set_cons_succ, i64_w, i32_w]
              rfl
            refine pure_ (i := 7) (N := some 18) (v := ?_) (a' := ?_) #[true, true, true, true, true, false, true, true, false, false, false, false, false, false, false, false, false, false, false, false] rfl rfl (any_of HT_.out (by kernel_rfl)) (fun _ _ _ h => h) (Or.inl ⟨by rfl, ?_⟩) ?_ ?_
            rotate_left
            · intro w'
              go_simp
              with_reducible rfl
            rotate_left
            · simp only [Act.put, List.setIfInBounds_toArray, List.set_cons_zero, List.set_cons_succ, i64_w, i32_w]
              rfl
            refine pure_ (i := 8) (N := some 19) (v := ?_) (a' := ?_) #[true, true, true, true, true, false, true, true, true, false, false, false, false, false, false, false, false, false, false, false] rfl rfl (any_of HT_.out (by kernel_rfl)) (fun _ _ _ h => h) (Or.inl ⟨by rfl, ?_⟩) ?_ ?_
            rotate_left
            · intro w'
              go_simp
              with_reducible rfl
            rotate_left
            · simp only [Act.put, List.setIfInBounds_toArray, List.set_cons_zero, List.set_cons_succ, i64_w, i32_w]
              rfl
            refine pure_ (i := 9) (N := some 20) (v := ?_) (a' := ?_) #[true, true, true, true, true, false, true, true, true, true, false, false, false, false, false, false, false, false, false, false] rfl rfl (any_of HT_.out (by kernel_rfl)) (fun _ _ _ h => h) (Or.inl ⟨by rfl, ?_⟩) ?_ ?_
            rotate_left
            · intro w'
              go_simp
              with_reducible rfl
            rotate_left
            · simp only [Act.put, List.setIfInBounds_toArray, List.set_cons_zero, List.set_cons_succ, i64_w, i32_w]
              rfl
            refine pure_ (i := 11) (N := some 22) (v := ?_) (a' := ?_) #[true, true, true, true, true, false, true, true, true, true, false, true, false, false, false, false, false, false, false, false] rfl rfl (any_of HT_.out (by kernel_rfl)) (fun _ _ _ h => h) (Or.inl ⟨by rfl, ?_⟩) ?_ ?_
            rotate_left
            · intro w'
              go_simp
              with_reducible rfl
            rotate_left
            · simp only [Act.put, List.setIfInBounds_toArray, List.set_cons_zero, List.set_cons_succ, i64_w, i32_w]
              rfl
            refine pure_ (i := 12) (N := some 23) (v := ?_) (a' := ?_) #[true, true, true, true, true, false, true, true, true, true, false, true, true, false, false, false, false, false, false, false] rfl rfl (any_of HT_.out (by kernel_rfl)) (fun _ _ _ h => h) (Or.inl ⟨by rfl, ?_⟩) ?_ ?_
            rotate_left
            · intro w'
              go_simp
              with_reducible rfl
            rotate_left
            · simp only [Act.put, List.setIfInBounds_toArray, List.set_cons_zero, List.set_cons_succ, i64_w, i32_w]
              rfl
            refine pure_ (i := 13) (N := some 24) (v := ?_) (a' := ?_) #[true, true, true, true, true, false, true, true, true, true, false, true, true, true, false, false, false, false, false, false] rfl rfl (any_of HT_.out (by kernel_rfl)) (fun _ _ _ h => h) (Or.inl ⟨by rfl, ?_⟩) ?_ ?_
            rotate_left
            · intro w'
              go_simp
              with_reducible rfl
            rotate_left
            · simp only [Act.put, List.setIfInBounds_toArray, List.set_cons_zero, List.set_cons_succ, i64_w, i32_w]
              rfl
            refine pure_ (i := 14) (N := some 25) (v := ?_) (a' := ?_) #[true, true, true, true, true, false, true, true, true, true, false, true, true, true, true, false, false, false, false, false] rfl rfl (any_of HT_.out (by kernel_rfl)) (fun _ _ _ h => h) (Or.inl ⟨by rfl, ?_⟩) ?_ ?_
            rotate_left
            · intro w'
              go_simp
              with_reducible rfl
            rotate_left
            · simp only [Act.put, List.setIfInBounds_toArray, List.set_cons_zero, List.set_cons_succ, i64_w, i32_w]
              rfl
            refine take_ (i := 5) (N := some 16) (v := ?_) (a' := ?_) #[true, true, true, true, true, true, true, true, true, true, false, true, true, true, true, false, false, false, false, false] rfl rfl (take_ofW HT_.out HW_.out (by kernel_rfl)) (fun _ _ _ h => h) (Or.inl ⟨by rfl, ?_⟩) hHeld ?_ ?_
            rotate_left
            · rintro w' ⟨s0, s1, s2, s3, s4, s5, s6, s7, s8⟩
              go_simp
              with_reducible rfl
            rotate_left
            · simp only [Act.put, List.setIfInBounds_toArray, List.set_cons_zero, List.set_cons_succ, i64_w, i32_w]
              rfl
            refine take_ (i := 10) (N := some 21) (v := ?_) (a' := ?_) #[true, true, true, true, true, true, true, true, true, true, true, true, true, true, true, false, false, false, false, false] rfl rfl (take_ofW HT_.out HW_.out (by kernel_rfl)) (fun _ _ _ h => h) (Or.inl ⟨by rfl, ?_⟩) hHeld ?_ ?_
            rotate_left
            · rintro w' ⟨s0, s1, s2, s3, s4, s5, s6, s7, s8⟩
              go_simp
              with_reducible rfl
            rotate_left
            · simp only [Act.put, List.setIfInBounds_toArray, List.set_cons_zero, List.set_cons_succ, i64_w, i32_w]
              rfl
            refine take_ (i := 15) (N := some 26) (v := ?_) (a' := ?_) #[true, true, true, true, true, true, true, true, true, true, true, true, true, true, true, true, false, false, false, false] rfl rfl (take_ofW HT_.out HW_.out (by kernel_rfl)) (fun _ _ _ h => h) (Or.inl ⟨by rfl, ?_⟩) hHeld ?_ ?_
            rotate_left
            · rintro w' ⟨s0, s1, s2, s3, s4, s5, s6, s7, s8⟩
              go_simp
              with_reducible rfl
            rotate_left
            · simp only [Act.put, List.setIfInBounds_toArray, List.set_cons_zero, List.set_cons_succ, i64_w, i32_w]
              rfl
            refine pure_ (i := 16) (N := some 27) (v := ?_) (a' := ?_) #[true, true, true, true, true, true, true, true, true, true, true, true, true, true, true, true, true, false, false, false] rfl rfl (any_of HT_.out (by kernel_rfl)) (fun _ _ _ h => h) (Or.inl ⟨by rfl, ?_⟩) ?_ ?_
            rotate_left
            · intro w'
              go_simp
              with_reducible rfl
            rotate_left
            · simp only [Act.put, List.setIfInBounds_toArray, List.set_cons_zero, List.set_cons_succ, i64_w, i32_w]
              rfl
            refine one_ (i := 17) (N := some 28) #[true, true, true, true, true, true, true, true, true, true, true, true, true, true, true, true, true, true, false, false] rfl rfl (one_of HT_.out (by kernel_rfl)) (by decide) (fun K hK => ?_)
            refine value_ (w1 := ?_) (v := ?_) (by rfl) rfl ?_ ?_
            rotate_left 2
            · go_simp
              constructor
              · rfl
              · rfl
            refine hK.out _ _ ⟨(World.cell?_alloc_lt _ _ _ (World.block_lt_of_cell? _ _ (((HB.out.cell (World.block_lt_of_cell? w _ hw273_0)).trans hw273_0)))).trans (((HB.out.cell (World.block_lt_of_cell? w _ hw273_0)).trans hw273_0)), (World.cell?_alloc_lt _ _ _ (World.block_lt_of_cell? _ _ (((HB.out.cell (World.block_lt_of_cell? w _ hw273_1)).trans hw273_1)))).trans (((HB.out.cell (World.block_lt_of_cell? w _ hw273_1)).trans hw273_1)), (World.cell?_alloc_lt _ _ _ (World.block_lt_of_cell? _ _ (((HB.out.cell (World.block_lt_of_cell? w _ hw273_2)).trans hw273_2)))).trans (((HB.out.cell (World.block_lt_of_cell? w _ hw273_2)).trans hw273_2)), (World.cell?_alloc_lt _ _ _ (World.block_lt_of_cell? _ _ (((HB.out.cell (World.block_lt_of_cell? w _ hw274_0)).trans hw274_0)))).trans (((HB.out.cell (World.block_lt_of_cell? w _ hw274_0)).trans hw274_0)), (World.cell?_alloc_lt _ _ _ (World.block_lt_of_cell? _ _ (((HB.out.cell (World.block_lt_of_cell? w _ hw274_1)).trans hw274_1)))).trans (((HB.out.cell (World.block_lt_of_cell? w _ hw274_1)).trans hw274_1)), (World.cell?_alloc_lt _ _ _ (World.block_lt_of_cell? _ _ (((HB.out.cell (World.block_lt_of_cell? w _ hw274_2)).trans hw274_2)))).trans (((HB.out.cell (World.block_lt_of_cell? w _ hw274_2)).trans hw274_2)), (World.cell?_alloc_lt _ _ _ (World.block_lt_of_cell? _ _ (((HB.out.cell (World.block_lt_of_cell? w _ hw275_0)).trans hw275_0)))).trans (((HB.out.cell (World.block_lt_of_cell? w _ hw275_0)).trans hw275_0)), (World.cell?_alloc_lt _ _ _ (World.block_lt_of_cell? _ _ (((HB.out.cell (World.block_lt_of_cell? w _ hw275_1)).trans hw275_1)))).trans (((HB.out.cell (World.block_lt_of_cell? w _ hw275_1)).trans hw275_1)), (World.cell?_alloc_lt _ _ _ (World.block_lt_of_cell? _ _ (((HB.out.cell (World.block_lt_of_cell? w _ hw275_2)).trans hw275_2)))).trans (((HB.out.cell (World.block_lt_of_cell? w _ hw275_2)).trans hw275_2))⟩ (fun hHeld => ?_)
            clear hK K
            refine norm_ (a' := ?_) ?_ ?_
            rotate_left
            · show Act.put _ (some 28) _ = _
              simp only [Act.put, List.setIfInBounds_toArray, List.set_cons_zero, List.set_cons_succ, i64_w, i32_w]
              rfl
            refine one_ (i := 18) (N := some 29) #[true, true, true, true, true, true, true, true, true, true, true, true, true, true, true, true, true, true, true, false] rfl rfl (one_of HT_.out (by kernel_rfl)) (by decide) (fun K hK => ?_)
            refine Kd.R_append_step k73 (w0 := w) w.heap.size (by rfl) (.tmp 11) (.tmp 28) 59 73 (.agg #[(.int .i64 0), (.int .i64 0), (.int .i64 0)]) 24 rfl Try.underlying59 info73 rfl (by decide) (by omega) u3 x3_1 (⟨(rd_T56 l0 x4_1).f0, (rd_T56 l0 x4_1).f1, (rd_T56 l0 x4_1).f2⟩ : S73) [.int .i64 ((rd_T56 l0 x4_1).f0), .int .i64 ((rd_T56 l0 x4_1).f1), .int .i64 ((rd_T56 l0 x4_1).f2)] (fun _ => True) (fun _ => False) rfl rfl ?aP (fun _ hk => hk.elim) ?aF ?aO ?aB ?aS ?aL ?_
            (case aP => exact k73_mkM _ _ _ (⟨(rd_T56 l0 x4_1).f0, (rd_T56 l0 x4_1).f1, (rd_T56 l0 x4_1).f2⟩ : S73))
            (case aB => exact (by repeat (first | (with_reducible first | exact HB.out | apply below_alloc | apply pw_below_drewN | apply below_drew1) | exact HB.out)))
            (case aF => exact (fun _ _ => trivial))
            (case aO => exact (by (with_reducible repeat (first | apply Kd.R_alloc | apply Kd.R_drewN | apply Kd.R_drew)); exact HO_3.out))
            (case aS => exact (below_size (by repeat (first | (with_reducible first | exact HB.out | apply below_alloc | apply pw_below_drewN | apply below_drew1) | exact HB.out))))
            (case aL => have := LMc4.out; omega)
            intro v277 w6 ho hb hg hat
            rw [← Ny276.out] at ho
            have n0_ := Aside0.mk (hb)
            have n1_ := Aside0.mk (ho)
            clear HB
            clear HO_3
            have HB := n0_
            have HO278 := n1_
            clear n0_ n1_
            clear ho hb hg hat
            refine hK.out _ _ ⟨((HB.out.cell (World.block_lt_of_cell? w _ hw273_0)).trans hw273_0), ((HB.out.cell (World.block_lt_of_cell? w _ hw273_1)).trans hw273_1), ((HB.out.cell (World.block_lt_of_cell? w _ hw273_2)).trans hw273_2), ((HB.out.cell (World.block_lt_of_cell? w _ hw274_0)).trans hw274_0), ((HB.out.cell (World.block_lt_of_cell? w _ hw274_1)).trans hw274_1), ((HB.out.cell (World.block_lt_of_cell? w _ hw274_2)).trans hw274_2), ((HB.out.cell (World.block_lt_of_cell? w _ hw275_0)).trans hw275_0), ((HB.out.cell (World.block_lt_of_cell? w _ hw275_1)).trans hw275_1), ((HB.out.cell (World.block_lt_of_cell? w _ hw275_2)).trans hw275_2)⟩ (fun hHeld => ?_)
            clear hK K
            refine norm_ (a' := ?_) ?_ ?_
            rotate_left
            · show Act.put _ (some 29) _ = _
              simp only [Act.put, List.setIfInBounds_toArray, List.set_cons_zero, List.set_cons_succ, i64_w, i32_w]
              rfl
            refine pure_ (i := 19) (N := some 3) (v := ?_) (a' := ?_) #[true, true, true, true, true, true, true, true, true, true, true, true, true, true, true, true, true, true, true, true] rfl rfl (any_of HT_.out (by kernel_rfl)) (fun _ _ _ h => h) (Or.inl ⟨by rfl, ?_⟩) ?_ ?_
            rotate_left
            · intro w'
              go_simp
              with_reducible rfl
            rotate_left
            · simp only [Act.put, List.setIfInBounds_toArray, List.set_cons_zero, List.set_cons_succ, i64_w, i32_w]
              rfl
            refine done_ (done_of HT_.out (by kernel_rfl)) ?_
            try go_wp2
            go_roundg k1
            case measure => have := HK1.out; omega
            case rel => exact ⟨(y276), (wrap64 (x4_1 + 1)), (by first | rfl | (simp; done) | (simp [*]; done)), H', ⟨by have := HK1.out; omega⟩, ⟨by (with_reducible repeat (first | apply Kd.R_alloc | apply Kd.R_drewN | apply Kd.R_drew)); exact HO278.out⟩, ⟨by repeat (first | (with_reducible first | exact HB.out | apply below_alloc | apply pw_below_drewN | apply below_drew1) | exact HB.out)⟩⟩
          · rw [if_neg c4] at H
            exact absurd H (by simp)
        · rw [if_neg c3] at H
          exact absurd H (by simp)
      · rw [if_neg c2] at H
        have c2b0 : decide (x4_1 < (l0.length : Int)) = false := decide_eq_false c2
        clear c2
        obtain rfl := Option.some.inj H
        go_wp2
        go_ret
        exact ⟨_, by first | rfl | (simp [errW_none, errW_some] <;> rfl) | (simp [*, errW_none, errW_some] <;> rfl), by (with_reducible repeat (first | apply Kd.R_alloc | apply Kd.R_drewN | apply Kd.R_drew)); exact HO_3.out, by repeat (first | (with_reducible first | exact HB.out | apply below_alloc | apply pw_below_drewN | apply below_drew1) | exact HB.out)⟩
end Go.Proofs.Ytchlbnlhjllcbaa.F
