/- What a program that does nothing does not answer: chapter 16's own examples, walked. -/
import Derived.Test.YtijlfnjfjmhdiaaTblS
import Derived.Test.YtijlfnjfjmhdiaaFx10
namespace Go.Proofs.Ytijlfnjfjmhdiaa.Ans
open Go.RowKit Go.Proofs.Ytijlfnjfjmhdiaa.F Go.Proofs.Ytijlfnjfjmhdiaa.Tbl Go.Proofs.YtijlfnjfjmhdiaaW.PrintWords Go.Proofs.YtijlfnjfjmhdiaaW.PrintLast Go.Proofs.YtijlfnjfjmhdiaaW.PrintMore
attribute [local go_sem] max2_int min2_int max_two min_two max_three min_three max_four min_four

theorem C_block {α : Type} {d : Kd α} {w : World} {g : Nat} {cells : Array Value} {e : TypeId} (h : w.heap[g]? = some (.cells cells e (0, 0))) (xs : List α) (hn : xs.length ≤ 1000)
    (hx : ∀ (j : Nat) (p : α), xs[j]? = some p → ∃ c, c.length = d.sz ∧ d.K w p c ∧ ∀ (i : Nat) (u : Value), c[i]? = some u → cells[j * d.sz + i]? = some u) : Kd.C d w (some ⟨g, 0, none⟩) xs.length xs := by
  refine ⟨rfl, by omega, fun _ => ⟨_, rfl, fun j p hj => ?_⟩⟩
  obtain ⟨c, h0, h1, h2⟩ := hx j p hj
  refine ⟨c, h0, h1, fun i u hu => ?_⟩
  have := blk_cell h (j * d.sz + i)
  rw [h2 i u hu] at this
  have e : ∀ n : Nat, (⟨g, 0, none⟩ : Addr).add n = ⟨g, n, none⟩ := fun n => by unfold Addr.add; split <;> simp_all
  rw [e]; exact this
theorem bdr {w W w2 : World} (h : Below w.heap.size w W) (k : Drawn0 W w2) : Below w.heap.size w w2 := by obtain ⟨n, rfl⟩ := k.out; exact pw_below_drewN h n

def Box (w : World) (b g : Nat) : Prop := w.cell? ⟨b, 0, none⟩ = some (.slice (some ⟨g, 0, none⟩) 2 2) ∧ w.cell? ⟨b, 1, none⟩ = some (.slice none 0 0) ∧ w.cell? ⟨b, 2, none⟩ = some (.slice none 0 0) ∧ w.cell? ⟨b, 3, none⟩ = some (.int .i64 0) ∧ w.cell? ⟨b, 4, none⟩ = some (.int .i64 1) ∧ w.cell? ⟨b, 5, none⟩ = some (.int .i64 0) ∧ w.cell? ⟨b, 6, none⟩ = some (.int .i64 0) ∧ w.cell? ⟨b, 7, none⟩ = some (.int .i64 0) ∧ w.cell? ⟨b, 8, none⟩ = some (.int .i64 50)
theorem box_below {w w' : World} {b g : Nat} (h : Box w b g) (hb : Below w.heap.size w w') : Box w' b g :=
  ⟨pw_cell_below hb h.1, pw_cell_below hb h.2.1, pw_cell_below hb h.2.2.1, pw_cell_below hb h.2.2.2.1, pw_cell_below hb h.2.2.2.2.1, pw_cell_below hb h.2.2.2.2.2.1, pw_cell_below hb h.2.2.2.2.2.2.1, pw_cell_below hb h.2.2.2.2.2.2.2.1, pw_cell_below hb h.2.2.2.2.2.2.2.2⟩
def two : List S45 := [⟨1, 0⟩, ⟨2, 0⟩]
theorem choice0 : govern_Choose.f 12 two [] [] 0 1 0 0 0 50 2 0 3 12884901888 0 = some 1 := by decide +kernel
theorem choice1 : govern_Choose.f 12 two [] [] 0 1 0 0 0 50 2 0 3 12884901887 0 = some 0 := by decide +kernel
theorem choice2 : govern_Choose.f 12 two [] [] 0 1 0 0 0 50 1 1 3 1099511627776 1 = some 1 := by decide +kernel
theorem choice3 : govern_Choose.f 12 two [] [] 0 1 0 0 0 50 0 1 3 1099511627776 1 = some 0 := by decide +kernel

set_option maxHeartbeats 1600000 in
set_option maxRecDepth 100000 in
theorem answers_calls (w : World) : Calls Try.prog 15 #[] w fun e w' => e = .returned (.bool true) ∧ Below w.heap.size w w' := by
  go_enter Try.func15, Try.ntmps15
  go_wp2_with fail
  generalize hw1 : (w.alloc (.cells #[.int .i64 1, .int .i64 0, .int .i64 2, .int .i64 0] 45 (0, 0))) = wa
  have hs : wa.heap.size = w.heap.size + 1 := by rw [← hw1]; simp
  have hc0 : Kd.C k45 wa (some ⟨w.heap.size, 0, none⟩) two.length two := by
    refine C_block (by rw [← hw1]; exact heap_alloc_new w _) two (by decide) ?_
    intro j p hj
    match j, hj with
    | 0, hj => obtain rfl := Option.some.inj hj; exact ⟨[.int .i64 1, .int .i64 0], rfl, k45_mk _ _, fun i u hu => by match i, hu with | 0, hu => exact hu | 1, hu => exact hu⟩
    | 1, hj => obtain rfl := Option.some.inj hj; exact ⟨[.int .i64 2, .int .i64 0], rfl, k45_mk _ _, fun i u hu => by match i, hu with | 0, hu => exact hu | 1, hu => exact hu⟩
  have hb0 : Below w.heap.size w wa := by rw [← hw1]; exact (Below.refl _ _).alloc (Nat.le_refl _) _
  clear hw1
  generalize hw2 : wa.alloc (.cells #[.slice (some ⟨w.heap.size, 0, none⟩) 2 2, .slice none 0 0, .slice none 0 0, .int .i64 0, .int .i64 1, .int .i64 0, .int .i64 0, .int .i64 0, .int .i64 50] 38 (0, 0)) = w0
  have hbx : Below wa.heap.size wa w0 := by rw [← hw2]; exact (Below.refl _ _).alloc (Nat.le_refl _) _
  have bx0 : Box w0 (w.heap.size + 1) w.heap.size := by
    rw [← hs, ← hw2]
    have hh := heap_alloc_new wa (.cells #[.slice (some ⟨w.heap.size, 0, none⟩) 2 2, .slice none 0 0, .slice none 0 0, .int .i64 0, .int .i64 1, .int .i64 0, .int .i64 0, .int .i64 0, .int .i64 50] 38 (0, 0))
    exact ⟨(blk_cell hh 0).trans rfl, (blk_cell hh 1).trans rfl, (blk_cell hh 2).trans rfl, (blk_cell hh 3).trans rfl, (blk_cell hh 4).trans rfl, (blk_cell hh 5).trans rfl, (blk_cell hh 6).trans rfl, (blk_cell hh 7).trans rfl, (blk_cell hh 8).trans rfl⟩
  have hc1 : Kd.C k45 w0 (some ⟨w.heap.size, 0, none⟩) two.length two := Kd.C_below hc0 hbx
  have hB0 : Below w.heap.size w w0 := below_step hb0 hbx
  have hz59 : ∀ W : World, Kd.C k59 W none ([] : List S59).length [] := fun W => ⟨rfl, by simp, fun h => absurd h (Nat.lt_irrefl _)⟩
  have hz62 : ∀ W : World, Kd.C k62 W none ([] : List S62).length [] := fun W => ⟨rfl, by simp, fun h => absurd h (Nat.lt_irrefl _)⟩
  have HC := Aside0.mk hc1
  have HB := Aside0.mk hB0
  have HX := Aside0.mk bx0
  have Z1 := Aside0.mk hz59
  have Z2 := Aside0.mk hz62
  clear hw2 hbx bx0 hc1 hB0 hc0 hb0 hs hz59 hz62
  refine (govern_Choose.calls 12 (some ⟨w.heap.size, 0, none⟩) 2 two none 0 [] none 0 [] 0 1 0 0 0 50 2 0 3 12884901888 0 1 _ HC.out (by decide) (Z1.out _) (by decide) (Z2.out _) (by decide) choice0).mono ?_; rintro e w1 ⟨rfl, hb⟩
  replace HC : Aside0 (Kd.C k45 w1 (some ⟨w.heap.size, 0, none⟩) two.length two) := ⟨Kd.C_below HC.out hb⟩
  replace HX : Aside0 (Box w1 (w.heap.size + 1) w.heap.size) := ⟨box_below HX.out hb⟩
  replace HB : Aside0 (Below w.heap.size w w1) := ⟨below_step HB.out hb⟩
  clear hb
  obtain ⟨x0, x1, x2, x3, x4, x5, x6, x7, x8⟩ := HX.out
  go_wp2_with fail
  clear x0 x1 x2 x3 x4 x5 x6 x7 x8
  refine (govern_Choose.calls 12 (some ⟨w.heap.size, 0, none⟩) 2 two none 0 [] none 0 [] 0 1 0 0 0 50 2 0 3 12884901887 0 0 _ HC.out (by decide) (Z1.out _) (by decide) (Z2.out _) (by decide) choice1).mono ?_; rintro e w2 ⟨rfl, hb⟩
  replace HC : Aside0 (Kd.C k45 w2 (some ⟨w.heap.size, 0, none⟩) two.length two) := ⟨Kd.C_below HC.out hb⟩
  replace HX : Aside0 (Box w2 (w.heap.size + 1) w.heap.size) := ⟨box_below HX.out hb⟩
  replace HB : Aside0 (Below w.heap.size w w2) := ⟨below_step HB.out hb⟩
  clear hb
  obtain ⟨x0, x1, x2, x3, x4, x5, x6, x7, x8⟩ := HX.out
  go_wp2_with fail
  clear x0 x1 x2 x3 x4 x5 x6 x7 x8
  refine (govern_Choose.calls 12 (some ⟨w.heap.size, 0, none⟩) 2 two none 0 [] none 0 [] 0 1 0 0 0 50 1 1 3 1099511627776 1 1 _ HC.out (by decide) (Z1.out _) (by decide) (Z2.out _) (by decide) choice2).mono ?_; rintro e w3 ⟨rfl, hb⟩
  replace HC : Aside0 (Kd.C k45 w3 (some ⟨w.heap.size, 0, none⟩) two.length two) := ⟨Kd.C_below HC.out hb⟩
  replace HX : Aside0 (Box w3 (w.heap.size + 1) w.heap.size) := ⟨box_below HX.out hb⟩
  replace HB : Aside0 (Below w.heap.size w w3) := ⟨below_step HB.out hb⟩
  clear hb
  obtain ⟨x0, x1, x2, x3, x4, x5, x6, x7, x8⟩ := HX.out
  go_wp2_with fail
  clear x0 x1 x2 x3 x4 x5 x6 x7 x8
  refine (govern_Choose.calls 12 (some ⟨w.heap.size, 0, none⟩) 2 two none 0 [] none 0 [] 0 1 0 0 0 50 0 1 3 1099511627776 1 0 _ HC.out (by decide) (Z1.out _) (by decide) (Z2.out _) (by decide) choice3).mono ?_; rintro e w4 ⟨rfl, hb⟩
  replace HC : Aside0 (Kd.C k45 w4 (some ⟨w.heap.size, 0, none⟩) two.length two) := ⟨Kd.C_below HC.out hb⟩
  replace HX : Aside0 (Box w4 (w.heap.size + 1) w.heap.size) := ⟨box_below HX.out hb⟩
  replace HB : Aside0 (Below w.heap.size w w4) := ⟨below_step HB.out hb⟩
  clear hb
  go_wp2_with fail
  go_ret
  exact ⟨by simp, HB.out⟩
end Go.Proofs.Ytijlfnjfjmhdiaa.Ans
