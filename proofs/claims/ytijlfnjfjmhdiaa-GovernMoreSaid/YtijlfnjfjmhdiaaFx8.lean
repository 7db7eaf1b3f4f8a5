-- Told by the kit's print.py out of this seat's translation, for this session's own texts (not a PRINTED file).
import Derived.Test.YtijlfnjfjmhdiaaFx0
namespace Go.Proofs.Ytijlfnjfjmhdiaa.F
open Go.RowKit Go.Proofs.YtijlfnjfjmhdiaaW.PrintWords Go.Proofs.YtijlfnjfjmhdiaaW.PrintLast Go.Proofs.YtijlfnjfjmhdiaaW.PrintMore
attribute [local go_sem] max2_int min2_int max_two min_two max_three min_three max_four min_four   -- for this text's walks alone
set_option linter.unusedVariables false
set_option linter.unusedSimpArgs false

/-! ### govern_limit: function 29 -/
def govern_limit.j0 : Nat → Int → Int → Bool → List (S45) → List (S59) → List (S62) → Int → Int → Int → Int → Int → Int → Option (Int)
  | 0, _, _, _, _, _, _, _, _, _, _, _, _ => none
  | k + 1, x2, x7, x8, x140000, x140001, x140002, x140003, x140004, x140005, x140006, x140007, x140008 => if x8 = true then (some (mn (mx x2 0) x140004)) else (if x7 = 2 then (some x140004) else (some 0))
def govern_limit.f (k : Nat) (l0_0 : List (S45)) (l0_1 : List (S59)) (l0_2 : List (S62)) (a0_3 : Int) (a0_4 : Int) (a0_5 : Int) (a0_6 : Int) (a0_7 : Int) (a0_8 : Int) (a1 : Int) (a2 : Int) : Option (Int) := if a1 = 1 then (govern_limit.j0 k a2 a1 (a1 == 1) l0_0 l0_1 l0_2 a0_3 a0_4 a0_5 a0_6 a0_7 a0_8) else (govern_limit.j0 k a2 a1 (a1 == 3) l0_0 l0_1 l0_2 a0_3 a0_4 a0_5 a0_6 a0_7 a0_8)
theorem govern_limit.mono_l : ∀ k, (∀ y0 y1 y2 y3 y4 y5 y6 y7 y8 y9 y10 y11, LeO (govern_limit.j0 k y0 y1 y2 y3 y4 y5 y6 y7 y8 y9 y10 y11) (govern_limit.j0 (k + 1) y0 y1 y2 y3 y4 y5 y6 y7 y8 y9 y10 y11))
  | 0 => fun _ _ _ _ _ _ _ _ _ _ _ _ r h => by simp [govern_limit.j0] at h
  | k + 1 => by
    have ih0 := govern_limit.mono_l k
    · intro y0 y1 y2 y3 y4 y5 y6 y7 y8 y9 y10 y11
      unfold govern_limit.j0
      repeat' first
      | (with_reducible exact ih0 _ _ _ _ _ _ _ _ _ _ _ _)
      | (with_reducible exact LeO.refl _)
      | (with_reducible exact LeO.none _)
      | (with_reducible refine LeO.ite ?_ ?_)
      | (with_reducible refine LeO.bind ?_ (fun _ => ?_))
      | exact ih0 _ _ _ _ _ _ _ _ _ _ _ _
      | exact LeO.none _
      | refine LeO.ite ?_ ?_
      | refine LeO.bind ?_ (fun _ => ?_)
theorem govern_limit.mono : ∀ a0 a1 a2 a3 a4 a5 a6 a7 a8 a9 a10 k, LeO (govern_limit.f k a0 a1 a2 a3 a4 a5 a6 a7 a8 a9 a10) (govern_limit.f (k + 1) a0 a1 a2 a3 a4 a5 a6 a7 a8 a9 a10) := by
  intro a0 a1 a2 a3 a4 a5 a6 a7 a8 a9 a10 k
  have ih0 := govern_limit.mono_l k
  unfold govern_limit.f
  repeat' first
      | (with_reducible exact ih0 _ _ _ _ _ _ _ _ _ _ _ _)
      | (with_reducible exact LeO.refl _)
      | (with_reducible exact LeO.none _)
      | (with_reducible refine LeO.ite ?_ ?_)
      | (with_reducible refine LeO.bind ?_ (fun _ => ?_))
      | exact ih0 _ _ _ _ _ _ _ _ _ _ _ _
      | exact LeO.none _
      | refine LeO.ite ?_ ?_
      | refine LeO.bind ?_ (fun _ => ?_)
set_option maxHeartbeats 8000000 in
set_option maxRecDepth 100000 in
theorem govern_limit.calls (k : Nat) (A0_0 : Option Addr) (c0_0 : Nat) (l0_0 : List (S45)) (A0_1 : Option Addr) (c0_1 : Nat) (l0_1 : List (S59)) (A0_2 : Option Addr) (c0_2 : Nat) (l0_2 : List (S62)) (a0_3 : Int) (a0_4 : Int) (a0_5 : Int) (a0_6 : Int) (a0_7 : Int) (a0_8 : Int) (a1 : Int) (a2 : Int) (r : Int) (w : World) (hr0_0 : Kd.C k45 w A0_0 l0_0.length l0_0) (hc0_0 : l0_0.length ≤ c0_0) (hr0_1 : Kd.C k59 w A0_1 l0_1.length l0_1) (hc0_1 : l0_1.length ≤ c0_1) (hr0_2 : Kd.C k62 w A0_2 l0_2.length l0_2) (hc0_2 : l0_2.length ≤ c0_2) (h : govern_limit.f k l0_0 l0_1 l0_2 a0_3 a0_4 a0_5 a0_6 a0_7 a0_8 a1 a2 = some r) :
    Calls Try.prog 29 #[.agg #[.slice A0_0 l0_0.length c0_0, .slice A0_1 l0_1.length c0_1, .slice A0_2 l0_2.length c0_2, .int .i64 a0_3, .int .i64 a0_4, .int .i64 a0_5, .int .i64 a0_6, .int .i64 a0_7, .int .i64 a0_8], .int .i64 a1, .int .i64 a2] w fun e w' => e = .returned (.int .i64 r) ∧ Below w.heap.size w w' := by
  have hu38 := Try.underlying38
  have HR0_0 := Aside0.mk hr0_0
  have HC0_0 := Aside0.mk hc0_0
  clear hr0_0 hc0_0
  have HR0_1 := Aside0.mk hr0_1
  have HC0_1 := Aside0.mk hc0_1
  clear hr0_1 hc0_1
  have HR0_2 := Aside0.mk hr0_2
  have HC0_2 := Aside0.mk hc0_2
  clear hr0_2 hc0_2
  have HB := Aside0.mk (Below.refl w.heap.size w)
  have H : (if a1 = 1 then (govern_limit.j0 k a2 a1 (a1 == 1) l0_0 l0_1 l0_2 a0_3 a0_4 a0_5 a0_6 a0_7 a0_8) else (govern_limit.j0 k a2 a1 (a1 == 3) l0_0 l0_1 l0_2 a0_3 a0_4 a0_5 a0_6 a0_7 a0_8)) = some r := h
  clear h
  have HC4 := Aside0.mk H
  clear H
  go_enter Try.func29, Try.ntmps29
  go_upto_if 8 with (first | ((with_reducible refine gate_dst (N := 3) rfl ?_); refine box_event ?hg (N := 3) ?hd (cs := #[.slice A0_0 l0_0.length c0_0, .slice A0_1 l0_1.length c0_1, .slice A0_2 l0_2.length c0_2, .int .i64 a0_3, .int .i64 a0_4, .int .i64 a0_5, .int .i64 a0_6, .int .i64 a0_7, .int .i64 a0_8]) (t := 38) ?hr ?_; (case hd => rfl); (case hg => rfl); (case hr => first | (go_simp; done) | (go_simp; rfl)); intro gb139 hg w5 hbox hb; have n0_ := Aside0.mk (below_step (by repeat (first | (with_reducible first | exact HB.out | apply below_alloc | apply pw_below_drewN | apply below_drew1) | exact HB.out)) hb); have n1_ := Aside0.mk (hbox); have n2_ := Aside0.mk ((by rw [hg]; exact (below_size (by repeat (first | (with_reducible first | exact HB.out | apply below_alloc | apply pw_below_drewN | apply below_drew1) | exact HB.out))) : w.heap.size ≤ gb139)); have n3_ := Aside0.mk ((by rw [hg]; exact (below_size (by repeat (first | (with_reducible first | exact HB.out | apply below_alloc | apply pw_below_drewN | apply below_drew1) | exact HB.out))) : w.heap.size ≤ gb139)); clear HB; have HB := n0_; have BK139 := n1_; have GW139 := n2_; have GE139 := n3_; clear n0_ n1_ n2_ n3_; clear hb hbox hg))
  (try simp only [Act.put, List.setIfInBounds_toArray, List.set_cons_zero, List.set_cons_succ])
  go_cut [8] (fun v8 wc => ∃ (kq : Nat) (x8_3 : Bool), v8 = .bool x8_3 ∧ Aside0 (govern_limit.j0 kq a2 a1 x8_3 l0_0 l0_1 l0_2 a0_3 a0_4 a0_5 a0_6 a0_7 a0_8 = some r) ∧ Aside0 (kq ≤ k) ∧ Aside0 (wc.heap[gb139]? = some (.cells #[(.slice A0_0 l0_0.length c0_0), (.slice A0_1 l0_1.length c0_1), (.slice A0_2 l0_2.length c0_2), .int .i64 a0_3, .int .i64 a0_4, .int .i64 a0_5, .int .i64 a0_6, .int .i64 a0_7, .int .i64 a0_8] 38 (0, 0))) ∧ Aside0 (Below w.heap.size w wc))
  case first =>
    have H := HC4.out
    clear HC4
    by_cases c6 : a1 = 1
    · rw [if_pos c6] at H
      have c6b0 : (a1 == 1) = true := beq_iff_eq.mpr c6
      have c6b1 : (a1 != 1) = false := bne_eq_false_iff_eq.mpr c6
      clear c6
      (first | rw [c6b0] | (simp only [i64_w, i32_w]; rw [c6b0]) | skip)
      have H' := Aside0.mk H
      clear H
      go_wp2
      go_meet
      case rel => exact ⟨_, ((a1 == 1)), (by first | rfl | (simp; done) | (simp [*]; done)), H', ⟨by first | omega | exact Nat.le_refl _⟩, ⟨by (with_reducible repeat (first | refine blk_drewN ?_ _ | refine blk_drew ?_ | refine blk_alloc ?_ _)); exact BK139.out⟩, ⟨by repeat (first | (with_reducible first | exact HB.out | apply below_alloc | apply pw_below_drewN | apply below_drew1 | refine below_set ?_ GE139.out) | exact HB.out)⟩⟩
    · rw [if_neg c6] at H
      have c6b0 : (a1 == 1) = false := beq_eq_false_iff_ne.mpr c6
      have c6b1 : (a1 != 1) = true := bne_iff_ne.mpr c6
      (first | rw [c6b0] | (simp only [i64_w, i32_w]; rw [c6b0]) | skip)
      have H' := Aside0.mk H
      clear H
      go_wp2
      go_meet
      case rel => exact ⟨_, ((a1 == 3)), (by first | rfl | (simp; done) | (simp [*]; done)), H', ⟨by first | omega | exact Nat.le_refl _⟩, ⟨by (with_reducible repeat (first | refine blk_drewN ?_ _ | refine blk_drew ?_ | refine blk_alloc ?_ _)); exact BK139.out⟩, ⟨by repeat (first | (with_reducible first | exact HB.out | apply below_alloc | apply pw_below_drewN | apply below_drew1 | refine below_set ?_ GE139.out) | exact HB.out)⟩⟩
  case rest =>
    clear HC4
    try clear c2
    try clear p2
    try clear c6
    try clear c6b0
    try clear c6b1
    obtain ⟨kq, x8_3, rfl, HA, HJ3, BK139, HB⟩ := hcut
    cases kq with
    | zero => exact absurd HA.out (by simp [govern_limit.j0])
    | succ kj3 =>
      have H := HA.out
      clear HA
      simp only [govern_limit.j0] at H
      by_cases c7 : x8_3 = true
      · subst c7
        have H1 : (some (mn (mx a2 0) a0_4)) = some r := by rw [if_pos rfl] at H; exact H
        clear H
        have H := H1
        clear H1
        obtain ⟨ji8, hji8⟩ : ∃ j_ : Int, (mx a2 0) = j_ := ⟨_, rfl⟩
        replace H : (some (mn (ji8) a0_4)) = some r := by first | (rw [hji8] at H; exact H) | (simp only [hji8] at H ⊢; exact H)
        have hji8_ : (if a2 < 0 then 0 else a2) = ji8 := hji8
        obtain ⟨ji9, hji9⟩ : ∃ j_ : Int, (mn (ji8) a0_4) = j_ := ⟨_, rfl⟩
        replace H : (some ji9) = some r := by first | (rw [hji9] at H; exact H) | (simp only [hji9] at H ⊢; exact H)
        have hji9_ : (if a0_4 < (ji8) then a0_4 else (ji8)) = ji9 := hji9
        obtain rfl := Option.some.inj H
        have hcz10_0 : wc.cell? ⟨gb139, 0, none⟩ = some (.slice A0_0 l0_0.length c0_0) := (blk_cell BK139.out 0).trans rfl
        have hcz10_1 : wc.cell? ⟨gb139, 1, none⟩ = some (.slice A0_1 l0_1.length c0_1) := (blk_cell BK139.out 1).trans rfl
        have hcz10_2 : wc.cell? ⟨gb139, 2, none⟩ = some (.slice A0_2 l0_2.length c0_2) := (blk_cell BK139.out 2).trans rfl
        have hcz10_3 : wc.cell? ⟨gb139, 3, none⟩ = some (.int .i64 a0_3) := (blk_cell BK139.out 3).trans rfl
        have hcz10_4 : wc.cell? ⟨gb139, 4, none⟩ = some (.int .i64 a0_4) := (blk_cell BK139.out 4).trans rfl
        have hcz10_5 : wc.cell? ⟨gb139, 5, none⟩ = some (.int .i64 a0_5) := (blk_cell BK139.out 5).trans rfl
        have hcz10_6 : wc.cell? ⟨gb139, 6, none⟩ = some (.int .i64 a0_6) := (blk_cell BK139.out 6).trans rfl
        have hcz10_7 : wc.cell? ⟨gb139, 7, none⟩ = some (.int .i64 a0_7) := (blk_cell BK139.out 7).trans rfl
        have hcz10_8 : wc.cell? ⟨gb139, 8, none⟩ = some (.int .i64 a0_8) := (blk_cell BK139.out 8).trans rfl
        have hfz10_0 := blk_frozen BK139.out 0
        have hfz10_1 := blk_frozen BK139.out 1
        have hfz10_2 := blk_frozen BK139.out 2
        have hfz10_3 := blk_frozen BK139.out 3
        have hfz10_4 := blk_frozen BK139.out 4
        have hfz10_5 := blk_frozen BK139.out 5
        have hfz10_6 := blk_frozen BK139.out 6
        have hfz10_7 := blk_frozen BK139.out 7
        have hfz10_8 := blk_frozen BK139.out 8
        go_wp2
        go_ret
        exact ⟨by first | rfl | (simp [errW_none, errW_some] <;> rfl) | (simp only [← hji8, ← hji9]; first | rfl | (simp [errW_none, errW_some] <;> rfl)) | (simp [*, errW_none, errW_some] <;> rfl), by repeat (first | (with_reducible first | exact HB.out | apply below_alloc | apply pw_below_drewN | apply below_drew1 | refine below_set ?_ GE139.out) | exact HB.out)⟩
      · replace c7 := Bool.eq_false_iff.mpr c7
        subst c7
        have H1 : (if a1 = 2 then (some a0_4) else (some 0)) = some r := by rw [if_neg (show ¬ (false = true) by decide)] at H; exact H
        clear H
        have H := H1
        clear H1
        by_cases c11 : a1 = 2
        · rw [if_pos c11] at H
          have c11b0 : (a1 == 2) = true := beq_iff_eq.mpr c11
          have c11b1 : (a1 != 2) = false := bne_eq_false_iff_eq.mpr c11
          clear c11
          obtain rfl := Option.some.inj H
          have hcz12_0 : wc.cell? ⟨gb139, 0, none⟩ = some (.slice A0_0 l0_0.length c0_0) := (blk_cell BK139.out 0).trans rfl
          have hcz12_1 : wc.cell? ⟨gb139, 1, none⟩ = some (.slice A0_1 l0_1.length c0_1) := (blk_cell BK139.out 1).trans rfl
          have hcz12_2 : wc.cell? ⟨gb139, 2, none⟩ = some (.slice A0_2 l0_2.length c0_2) := (blk_cell BK139.out 2).trans rfl
          have hcz12_3 : wc.cell? ⟨gb139, 3, none⟩ = some (.int .i64 a0_3) := (blk_cell BK139.out 3).trans rfl
          have hcz12_4 : wc.cell? ⟨gb139, 4, none⟩ = some (.int .i64 a0_4) := (blk_cell BK139.out 4).trans rfl
          have hcz12_5 : wc.cell? ⟨gb139, 5, none⟩ = some (.int .i64 a0_5) := (blk_cell BK139.out 5).trans rfl
          have hcz12_6 : wc.cell? ⟨gb139, 6, none⟩ = some (.int .i64 a0_6) := (blk_cell BK139.out 6).trans rfl
          have hcz12_7 : wc.cell? ⟨gb139, 7, none⟩ = some (.int .i64 a0_7) := (blk_cell BK139.out 7).trans rfl
          have hcz12_8 : wc.cell? ⟨gb139, 8, none⟩ = some (.int .i64 a0_8) := (blk_cell BK139.out 8).trans rfl
          have hfz12_0 := blk_frozen BK139.out 0
          have hfz12_1 := blk_frozen BK139.out 1
          have hfz12_2 := blk_frozen BK139.out 2
          have hfz12_3 := blk_frozen BK139.out 3
          have hfz12_4 := blk_frozen BK139.out 4
          have hfz12_5 := blk_frozen BK139.out 5
          have hfz12_6 := blk_frozen BK139.out 6
          have hfz12_7 := blk_frozen BK139.out 7
          have hfz12_8 := blk_frozen BK139.out 8
          go_wp2
          go_ret
          exact ⟨by first | rfl | (simp [errW_none, errW_some] <;> rfl) | (simp [*, errW_none, errW_some] <;> rfl), by repeat (first | (with_reducible first | exact HB.out | apply below_alloc | apply pw_below_drewN | apply below_drew1 | refine below_set ?_ GE139.out) | exact HB.out)⟩
        · rw [if_neg c11] at H
          have c11b0 : (a1 == 2) = false := beq_eq_false_iff_ne.mpr c11
          have c11b1 : (a1 != 2) = true := bne_iff_ne.mpr c11
          obtain rfl := Option.some.inj H
          go_wp2
          go_ret
          exact ⟨by first | rfl | (simp [errW_none, errW_some] <;> rfl) | (simp [*, errW_none, errW_some] <;> rfl), by repeat (first | (with_reducible first | exact HB.out | apply below_alloc | apply pw_below_drewN | apply below_drew1 | refine below_set ?_ GE139.out) | exact HB.out)⟩

end Go.Proofs.Ytijlfnjfjmhdiaa.F
