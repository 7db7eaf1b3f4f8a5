/- sim.Run: its own walk: what it computes, told as a function. -/
import Derived.Test.YtdjmcjfdkcckoaaG4
import Derived.WalkMore
import Derived.RegionTactic
import Derived.BigRegion
namespace Go.Proofs.Ytdjmcjfdkcckoaa.F
open Go.RowKit Go.Proofs.YtdjmcjfdkcckoaaW.PrintWords Go.Proofs.YtdjmcjfdkcckoaaW.PrintLast Go.Proofs.YtdjmcjfdkcckoaaW.PrintMore
attribute [local go_sem] max2_int min2_int max_two min_two max_three min_three max_four min_four
set_option linter.unusedVariables false
set_option linter.unusedSimpArgs false
/-- a round of plain EDF, from event to event -/
def sim_Run.l1 : Nat → List S31 → List Int → List Int → Int → Option (List Int)
  | 0, _, _, _, _ => none
  | k + 1, l, left, done, now => (sim_state_first.f k l left now).bind fun a => (sim_state_coming.f k l left now).bind fun b =>
    if a.2 = now ∧ b.2.2 = now then
      if a.1 < 0 then (if b.2.1 = true then sim_Run.l1 k l left done b.1 else some done)
      else if a.1 < l.length ∧ 0 ≤ now ∧ now ≤ 1048576 ∧ 0 ≤ rd left a.1 ∧ rd left a.1 ≤ 1048576 ∧ 0 ≤ b.1 ∧ b.1 ≤ 1048576 then
        (if b.2.1 = true then (if rd left a.1 ≤ b.1 - now then sim_Run.l1 k l (left.set a.1.toNat 0) (done.set a.1.toNat (now + rd left a.1)) (now + rd left a.1) else sim_Run.l1 k l (left.set a.1.toNat (rd left a.1 - (b.1 - now))) (done.set a.1.toNat (now + (b.1 - now))) (now + (b.1 - now)))
        else sim_Run.l1 k l (left.set a.1.toNat 0) (done.set a.1.toNat (now + rd left a.1)) (now + rd left a.1))
      else none
    else none
def sim_Run.l0 : Nat → List S31 → List Int → List Int → Int → Option (List Int)
  | 0, _, _, _, _ => none
  | k + 1, l, left, done, i => if i < (l.length : Int) then (if 0 ≤ i then sim_Run.l0 k l (left.set i.toNat (rd_T31 l i).f2) (done.set i.toNat (rd_T31 l i).f0) (wrap64 (i + 1)) else none) else sim_Run.l1 k l left done 0
def sim_Run.f (k : Nat) (l : List S31) : Option (List Int) := (sim_right.f k l).bind fun t => if t = true then (if l.length ≤ 1000 then sim_Run.l0 k l (List.replicate l.length 0) (List.replicate l.length 0) 0 else none) else some []

theorem sim_Run.mono_l1 : ∀ k a0 a1 a2 a3, LeO (sim_Run.l1 k a0 a1 a2 a3) (sim_Run.l1 (k + 1) a0 a1 a2 a3)
  | 0 => fun _ _ _ _ r h => by simp [sim_Run.l1] at h
  | k + 1 => by
    have ih := sim_Run.mono_l1 k
    intro a0 a1 a2 a3
    unfold sim_Run.l1
    repeat' first
      | (with_reducible exact sim_state_first.mono _ _ _ _)
      | (with_reducible exact sim_state_coming.mono _ _ _ _)
      | (with_reducible exact ih _ _ _ _)
      | (with_reducible exact LeO.refl _)
      | (with_reducible refine LeO.ite ?_ ?_)
      | (with_reducible refine LeO.bind ?_ (fun _ => ?_))
      | exact ih _ _ _ _
      | refine LeO.ite ?_ ?_
      | refine LeO.bind ?_ (fun _ => ?_)
theorem sim_Run.mono_l0 : ∀ k a0 a1 a2 a3, LeO (sim_Run.l0 k a0 a1 a2 a3) (sim_Run.l0 (k + 1) a0 a1 a2 a3)
  | 0 => fun _ _ _ _ r h => by simp [sim_Run.l0] at h
  | k + 1 => by
    have ih := sim_Run.mono_l0 k
    have ih1 := sim_Run.mono_l1 k
    intro a0 a1 a2 a3
    unfold sim_Run.l0
    repeat' first
      | (with_reducible exact ih _ _ _ _)
      | (with_reducible exact ih1 _ _ _ _)
      | (with_reducible exact LeO.refl _)
      | (with_reducible refine LeO.ite ?_ ?_)
      | exact ih _ _ _ _
      | refine LeO.ite ?_ ?_
theorem sim_Run.mono : ∀ a0 k, LeO (sim_Run.f k a0) (sim_Run.f (k + 1) a0) := by
  intro a0 k
  have ih := sim_Run.mono_l0 k
  unfold sim_Run.f
  repeat' first
      | (with_reducible exact sim_right.mono _ _)
      | (with_reducible exact ih _ _ _ _)
      | (with_reducible exact LeO.refl _)
      | (with_reducible refine LeO.ite ?_ ?_)
      | (with_reducible refine LeO.bind ?_ (fun _ => ?_))
      | exact ih _ _ _ _
      | refine LeO.ite ?_ ?_
      | refine LeO.bind ?_ (fun _ => ?_)

/-! ### worlds cut off at a block -/
def trunc (w : World) (g : Nat) : World := { w with heap := w.heap.extract 0 g }
theorem trunc_size {w : World} {g : Nat} (h : g ≤ w.heap.size) : (trunc w g).heap.size = g := by simp [trunc]; omega
theorem trunc_blk {w : World} {g k : Nat} (h : k < g) : (trunc w g).heap[k]? = w.heap[k]? := by
  simp only [trunc, Array.getElem?_extract]
  by_cases c : k < w.heap.size
  · rw [if_pos (by omega), Nat.zero_add]
  · rw [if_neg (by omega)]; exact (Array.getElem?_eq_none (by omega)).symm
theorem trunc_below {w : World} {g : Nat} (h : g ≤ w.heap.size) : Below (trunc w g).heap.size (trunc w g) w := by
  refine ⟨rfl, rfl, rfl, by rw [trunc_size h]; exact h, fun k hk => ?_⟩
  rw [trunc_size h] at hk
  exact (trunc_blk hk).symm
def stCells (A0 : Option Addr) (n c0 : Nat) (A1 : Option Addr) (m c1 : Nat) (now : Int) : Array Value := #[.slice A0 n c0, .slice A1 m c1, .int .i64 now]
theorem first_reads {wr : World} {g : Nat} {A0 A1 : Option Addr} {c0 c1 : Nat} {l : List S31} {left : List Int} {now r : Int} {k : Nat}
    (HG : wr.heap[g]? = some (.cells (stCells A0 l.length c0 A1 left.length c1 now) 77 (0, 0))) (h0 : Kd.C k31 (trunc wr g) A0 l.length l) (h1 : Kd.C (Kd.int .i64) (trunc wr g) A1 left.length left)
    (h : sim_state_first.f k l left now = some (r, now)) :
    Calls Try.prog 43 #[.pointer (some ⟨g, 0, none⟩)] wr fun e w' => e = .returned (.int .i64 r) ∧ Below wr.heap.size wr w' := by
  have hg : g ≤ wr.heap.size := Nat.le_of_lt (blk_lt HG)
  refine (sim_state_first.calls k A0 c0 A1 c1 g l left now r now (trunc wr g) wr ⟨A0, c0, A1, c1, HG, ⟨by rw [trunc_size hg]; exact Nat.le_refl _, rfl, rfl, rfl, rfl⟩, h0, h1⟩ (trunc_below hg) h).mono ?_
  rintro e w' ⟨rfl, hI, hB, hK⟩
  obtain ⟨A0', c0', A1', c1', HG', ⟨_, rfl, rfl, rfl, rfl⟩, _, _⟩ := hI
  refine ⟨rfl, ⟨hB.os, hB.tape, hB.output, hK.1, fun j hj => ?_⟩⟩
  by_cases e : j = g
  · subst e; exact HG'.trans HG.symm
  · exact hK.2 j hj e (by simp)
theorem coming_reads {wr : World} {g : Nat} {A0 A1 : Option Addr} {c0 c1 : Nat} {l : List S31} {left : List Int} {now r : Int} {b : Bool} {k : Nat}
    (HG : wr.heap[g]? = some (.cells (stCells A0 l.length c0 A1 left.length c1 now) 77 (0, 0))) (h0 : Kd.C k31 (trunc wr g) A0 l.length l) (h1 : Kd.C (Kd.int .i64) (trunc wr g) A1 left.length left)
    (h : sim_state_coming.f k l left now = some (r, b, now)) :
    Calls Try.prog 44 #[.pointer (some ⟨g, 0, none⟩)] wr fun e w' => e = .returned (.tuple #[.int .i64 r, .bool b]) ∧ Below wr.heap.size wr w' := by
  have hg : g ≤ wr.heap.size := Nat.le_of_lt (blk_lt HG)
  refine (sim_state_coming.calls k A0 c0 A1 c1 g l left now r b now (trunc wr g) wr ⟨A0, c0, A1, c1, HG, ⟨by rw [trunc_size hg]; exact Nat.le_refl _, rfl, rfl, rfl, rfl⟩, h0, h1⟩ (trunc_below hg) h).mono ?_
  rintro e w' ⟨rfl, hI, hB, hK⟩
  obtain ⟨A0', c0', A1', c1', HG', ⟨_, rfl, rfl, rfl, rfl⟩, _, _⟩ := hI
  refine ⟨rfl, ⟨hB.os, hB.tape, hB.output, hK.1, fun j hj => ?_⟩⟩
  by_cases e : j = g
  · subst e; exact HG'.trans HG.symm
  · exact hK.2 j hj e (by simp)
/-! ### rows of whole blocks -/
abbrev rowv (g n : Nat) : Value := .slice (some ⟨g, 0, none⟩) n n
def rowc (xs : List Int) : Array Value := (nums .i64 xs).toArray
theorem own_blk {w : World} {base D : Nat} {xs : List Int} (hb : base ≤ D) (h : w.heap[D]? = some (.cells (rowc xs) 3 (0, 0))) (hm : xs.length ≤ maxLen) : w.ownsRow base 3 1 (rowv D xs.length) xs.length (nums .i64 xs) :=
  ⟨by simp [nums], .inr ⟨D, xs.length, rowc xs, rfl, hb, h, Nat.le_refl _, hm, by simp [rowc, nums], by simp [rowc, nums, List.take_of_length_le]⟩⟩
theorem row_R {w : World} {base D : Nat} {xs : List Int} (hb : base ≤ D) (h : w.heap[D]? = some (.cells (rowc xs) 3 (0, 0))) (hm : xs.length ≤ maxLen) : Kd.R (Kd.int .i64) 3 w base (fun _ => True) (rowv D xs.length) xs :=
  Kd.R_of_own (own_blk hb h hm) (fun _ _ => trivial)
theorem row_C {w : World} {D : Nat} {xs : List Int} (h : w.heap[D]? = some (.cells (rowc xs) 3 (0, 0))) (hm : xs.length ≤ maxLen) : Kd.C (Kd.int .i64) w (some ⟨D, 0, none⟩) xs.length xs :=
  (Kd.R_reads' (row_R (base := 0) (Nat.zero_le _) h hm)).2.2
theorem row_cell {w : World} {D : Nat} {xs : List Int} (h : w.heap[D]? = some (.cells (rowc xs) 3 (0, 0))) {i : Nat} (hi : i < xs.length) : w.cell? ⟨D, i, none⟩ = some (.int .i64 (rd xs i)) := by
  rw [blk_cell h i]
  simp [rowc, nums, rd, hi]
theorem row_set {w : World} {D : Nat} {xs : List Int} (h : w.heap[D]? = some (.cells (rowc xs) 3 (0, 0))) (i : Nat) (x : Int) : (w.setCell ⟨D, i, none⟩ (.int .i64 x)).heap[D]? = some (.cells (rowc (xs.set i x)) 3 (0, 0)) := by
  rw [blk_set h i (.int .i64 x)]
  simp [rowc, nums, List.map_set]
theorem made_row (n : Nat) : madeCells #[.int .i64 0] n = rowc (List.replicate n 0) := by
  unfold madeCells rowc nums
  apply Array.ext
  · simp
  · intro i h1 h2
    simp [Nat.mod_one]

/-- what stands in memory while works are under way -/
structure RunInv (w wr : World) (A0 : Option Addr) (c0 : Nat) (l0 : List S31) (L : Nat) (left done : List Int) (now : Int) : Prop where
  base : w.heap.size ≤ L
  lft : wr.heap[L]? = some (.cells (rowc left) 3 (0, 0))
  st : wr.heap[L + 1]? = some (.cells #[.slice A0 l0.length c0, rowv L l0.length, .int .i64 now] 77 (0, 0))
  dn : wr.heap[L + 1 + 1]? = some (.cells (rowc done) 3 (0, 0))
  ll : left.length = l0.length
  ld : done.length = l0.length
  bel : Below w.heap.size w wr
theorem RunInv.start {w w1 : World} {A0 : Option Addr} {c0 : Nat} {l0 : List S31} (hb : Below w.heap.size w w1) :
    RunInv w (((w1.alloc (.cells (rowc (List.replicate l0.length 0)) 3)).alloc (.cells #[.slice A0 l0.length c0, rowv w1.heap.size l0.length, .int .i64 0] 77)).alloc (.cells (rowc (List.replicate l0.length 0)) 3)) A0 c0 l0 w1.heap.size (List.replicate l0.length 0) (List.replicate l0.length 0) 0 := by
  have h1 := heap_alloc_new w1 (.cells (rowc (List.replicate l0.length 0)) 3)
  have h2 := heap_alloc_new (w1.alloc (.cells (rowc (List.replicate l0.length 0)) 3)) (.cells #[.slice A0 l0.length c0, rowv w1.heap.size l0.length, .int .i64 0] 77)
  have h3 := heap_alloc_new ((w1.alloc (.cells (rowc (List.replicate l0.length 0)) 3)).alloc (.cells #[.slice A0 l0.length c0, rowv w1.heap.size l0.length, .int .i64 0] 77)) (.cells (rowc (List.replicate l0.length 0)) 3)
  have s1 : (w1.alloc (.cells (rowc (List.replicate l0.length 0)) 3)).heap.size = w1.heap.size + 1 := by simp
  have s2 : ((w1.alloc (.cells (rowc (List.replicate l0.length 0)) 3)).alloc (.cells #[.slice A0 l0.length c0, rowv w1.heap.size l0.length, .int .i64 0] 77)).heap.size = w1.heap.size + 1 + 1 := by simp
  rw [s1] at h2
  rw [s2] at h3
  exact ⟨hb.size, blk_alloc (blk_alloc h1 _) _, blk_alloc h2 _, h3, by simp, by simp, below_alloc (below_alloc (below_alloc hb _) _) _⟩
theorem RunInv.below {w wr w' : World} {A0 : Option Addr} {c0 : Nat} {l0 : List S31} {L : Nat} {left done : List Int} {now : Int} (h : RunInv w wr A0 c0 l0 L left done now) (hb : Below wr.heap.size wr w') : RunInv w w' A0 c0 l0 L left done now :=
  ⟨h.base, blk_below h.lft hb, blk_below h.st hb, blk_below h.dn hb, h.ll, h.ld, below_step h.bel hb⟩
theorem RunInv.setL {w wr : World} {A0 : Option Addr} {c0 : Nat} {l0 : List S31} {L : Nat} {left done : List Int} {now : Int} (h : RunInv w wr A0 c0 l0 L left done now) (i : Nat) (x : Int) : RunInv w (wr.setCell ⟨L, i, none⟩ (.int .i64 x)) A0 c0 l0 L (left.set i x) done now :=
  ⟨h.base, row_set h.lft i x, blk_far h.st (by show L + 1 ≠ L; omega) _, blk_far h.dn (by show L + 1 + 1 ≠ L; omega) _, by rw [List.length_set]; exact h.ll, h.ld, below_set h.bel h.base⟩
theorem RunInv.setD {w wr : World} {A0 : Option Addr} {c0 : Nat} {l0 : List S31} {L : Nat} {left done : List Int} {now : Int} (h : RunInv w wr A0 c0 l0 L left done now) (i : Nat) (x : Int) : RunInv w (wr.setCell ⟨L + 1 + 1, i, none⟩ (.int .i64 x)) A0 c0 l0 L left (done.set i x) now :=
  ⟨h.base, blk_far h.lft (by show L ≠ L + 1 + 1; omega) _, blk_far h.st (by show L + 1 ≠ L + 1 + 1; omega) _, row_set h.dn i x, h.ll, by rw [List.length_set]; exact h.ld, below_set h.bel (by have := h.base; omega)⟩
theorem RunInv.setN {w wr : World} {A0 : Option Addr} {c0 : Nat} {l0 : List S31} {L : Nat} {left done : List Int} {now : Int} (h : RunInv w wr A0 c0 l0 L left done now) (x : Int) : RunInv w (wr.setCell ⟨L + 1, 2, none⟩ (.int .i64 x)) A0 c0 l0 L left done x :=
  ⟨h.base, blk_far h.lft (by show L ≠ L + 1; omega) _, blk_put h.st 2 _ rfl, blk_far h.dn (by show L + 1 + 1 ≠ L + 1; omega) _, h.ll, h.ld, below_set h.bel (by have := h.base; omega)⟩
theorem RunInv.far {w wr : World} {A0 : Option Addr} {c0 : Nat} {l0 : List S31} {L : Nat} {left done : List Int} {now : Int} (h : RunInv w wr A0 c0 l0 L left done now) {g : Nat} (hg : L + 1 + 1 < g) (j : Nat) (x : Value) : RunInv w (wr.setCell ⟨g, j, none⟩ x) A0 c0 l0 L left done now :=
  ⟨h.base, blk_far h.lft (by show L ≠ g; omega) _, blk_far h.st (by show L + 1 ≠ g; omega) _, blk_far h.dn (by show L + 1 + 1 ≠ g; omega) _, h.ll, h.ld, below_set h.bel (by have := h.base; omega)⟩
theorem wp_world {P : Program} {c : Code} {Q : Exit → Act → World → Prop} {a : Act} {W : World} (R : World → Prop) (hR : R W) (h : ∀ w7, R w7 → Code.wp P c Q a w7) : Code.wp P c Q a W := h W hR
theorem RunInv.cells {w wr : World} {A0 : Option Addr} {c0 : Nat} {l0 : List S31} {L : Nat} {left done : List Int} {now : Int} (h : RunInv w wr A0 c0 l0 L left done now) {i : Int} (h0 : 0 ≤ i) (h1 : i < (l0.length : Int)) :
    wr.cell? ⟨L, i.toNat, none⟩ = some (.int .i64 (rd left i)) ∧ wr.cell? ⟨L + 1 + 1, i.toNat, none⟩ = some (.int .i64 (rd done i)) := by
  have a := row_cell h.lft (i := i.toNat) (by have := h.ll; omega)
  have b := row_cell h.dn (i := i.toNat) (by have := h.ld; omega)
  rw [Int.toNat_of_nonneg h0] at a b
  exact ⟨a, b⟩
theorem RunInv.state {w wr : World} {A0 : Option Addr} {c0 : Nat} {l0 : List S31} {L : Nat} {left done : List Int} {now : Int} (h : RunInv w wr A0 c0 l0 L left done now) :
    wr.cell? ⟨L + 1, 0, none⟩ = some (.slice A0 l0.length c0) ∧ wr.cell? ⟨L + 1, 1, none⟩ = some (rowv L l0.length) ∧ wr.cell? ⟨L + 1, 2, none⟩ = some (.int .i64 now) :=
  ⟨(blk_cell h.st 0).trans rfl, (blk_cell h.st 1).trans rfl, (blk_cell h.st 2).trans rfl⟩
theorem RunInv.drew {w wr : World} {A0 : Option Addr} {c0 : Nat} {l0 : List S31} {L : Nat} {left done : List Int} {now : Int} (h : RunInv w wr A0 c0 l0 L left done now) : RunInv w wr.drew A0 c0 l0 L left done now := h.below (below_drew1 (Below.refl _ _))
theorem heapW : Kd.Heap k31 := Kd.heap_iso _ (Kd.heap_pair (Kd.heap_int _) (Kd.heap_pair (Kd.heap_int _) (Kd.heap_int _)))
theorem RunInv.rows {w wr : World} {A0 : Option Addr} {c0 : Nat} {l0 : List S31} {L : Nat} {left done : List Int} {now : Int} (h : RunInv w wr A0 c0 l0 L left done now) (hr0 : Kd.C k31 w A0 l0.length l0) (hn : l0.length ≤ 1000) :
    wr.heap[L + 1]? = some (.cells (stCells A0 l0.length c0 (some ⟨L, 0, none⟩) left.length left.length now) 77 (0, 0)) ∧ Kd.C k31 (trunc wr (L + 1)) A0 l0.length l0 ∧ Kd.C (Kd.int .i64) (trunc wr (L + 1)) (some ⟨L, 0, none⟩) left.length left := by
  refine ⟨?_, ?_, ?_⟩
  · rw [h.st, h.ll]; rfl
  · exact heapW.C (fun k hk => by rw [trunc_blk (by have := h.base; omega)]; exact h.bel.block k hk) hr0
  · exact row_C (by rw [trunc_blk (by omega)]; exact h.lft) (by have := h.ll; unfold maxLen; omega)
theorem RunInv.first {w wr : World} {A0 : Option Addr} {c0 : Nat} {l0 : List S31} {L : Nat} {left done : List Int} {now : Int} (h : RunInv w wr A0 c0 l0 L left done now) (hr0 : Kd.C k31 w A0 l0.length l0) (hn : l0.length ≤ 1000) {k : Nat} {r : Int} (hf : sim_state_first.f k l0 left now = some (r, now)) :
    Calls Try.prog 43 #[.pointer (some ⟨L + 1, 0, none⟩)] wr fun e w' => e = .returned (.int .i64 r) ∧ Below wr.heap.size wr w' := by
  obtain ⟨h1, h2, h3⟩ := h.rows hr0 hn
  exact first_reads h1 h2 h3 hf
theorem RunInv.coming {w wr : World} {A0 : Option Addr} {c0 : Nat} {l0 : List S31} {L : Nat} {left done : List Int} {now : Int} (h : RunInv w wr A0 c0 l0 L left done now) (hr0 : Kd.C k31 w A0 l0.length l0) (hn : l0.length ≤ 1000) {k : Nat} {r : Int} {b : Bool} (hf : sim_state_coming.f k l0 left now = some (r, b, now)) :
    Calls Try.prog 44 #[.pointer (some ⟨L + 1, 0, none⟩)] wr fun e w' => e = .returned (.tuple #[.int .i64 r, .bool b]) ∧ Below wr.heap.size wr w' := by
  obtain ⟨h1, h2, h3⟩ := h.rows hr0 hn
  exact coming_reads h1 h2 h3 hf
theorem RunInv.result {w wr : World} {A0 : Option Addr} {c0 : Nat} {l0 : List S31} {L : Nat} {left done : List Int} {now : Int} (h : RunInv w wr A0 c0 l0 L left done now) (hn : l0.length ≤ 1000) : Kd.R (Kd.int .i64) 3 wr w.heap.size (fun _ => True) (.slice (some ⟨L + 1 + 1, 0, none⟩) l0.length l0.length) done := by
  have := row_R (base := w.heap.size) (by have := h.base; omega) h.dn (by have := h.ld; unfold maxLen; omega)
  rw [h.ld] at this
  exact this
/-! ### the walk -/
set_option maxHeartbeats 4000000 in
set_option maxRecDepth 100000 in
theorem sim_Run.calls (k : Nat) (A0 : Option Addr) (c0 : Nat) (l0 : List S31) (r : List Int) (w : World) (hr0 : Kd.C k31 w A0 l0.length l0) (hc0 : l0.length ≤ c0) (h : sim_Run.f k l0 = some r) :
    Calls Try.prog 37 #[.slice A0 l0.length c0] w fun e w' => ∃ v0_ : Value, e = .returned (v0_) ∧ Kd.R (Kd.int .i64) 3 w' w.heap.size (fun _ => True) v0_ r ∧ Below w.heap.size w w' := by
  unfold sim_Run.f at h
  obtain ⟨t, ht, h⟩ := Option.bind_eq_some_iff.mp h
  have HR0 := Aside0.mk hr0
  have HC0 := Aside0.mk hc0
  have HT := Aside0.mk ht
  clear hr0 hc0 ht
  cases t with
  | false =>
    rw [if_neg (by simp)] at h
    obtain rfl := Option.some.inj h
    go_enter Try.func37, Try.ntmps37
    go_wp2_with fail
    go_step3
    go_wp2_with (first | (go_at_call 36; ((with_reducible refine (sim_right.calls k A0 c0 l0 false _ HR0.out HC0.out HT.out).mono ?_); rintro e w1 ⟨rfl, hb⟩)))
    rw [Exit.noGoto_ret]
    go_ret
    exact ⟨_, rfl, Kd.R_nil _ _ _ _ _, hb⟩
  | true =>
    rw [if_pos rfl] at h
    by_cases hn : l0.length ≤ 1000
    · rw [if_pos hn] at h
      have H0 := Aside0.mk h
      clear h
      have HMK := Aside0.mk (print_make (P := Try.prog) 47 3 .i64 8 Try.underlying47 info3 (by decide) l0.length (by omega))
      have hmk := HMK.out
      rw [made_row] at hmk
      go_enter Try.func37, Try.ntmps37
      go_wp2_with fail
      go_step3
      go_wp2_with (first | (go_at_call 36; ((with_reducible refine (sim_right.calls k A0 c0 l0 true _ HR0.out HC0.out HT.out).mono ?_); rintro e w1 ⟨rfl, hb⟩; have HB := Aside0.mk hb; clear hb)))
      have HI := Aside0.mk (RunInv.start (A0 := A0) (c0 := c0) (l0 := l0) HB.out)
      clear HB HMK hmk
      go_loopg [25] k (fun kq v25 w' => ∃ (i : Int) (left done : List Int), v25 = .int .i64 i ∧ Aside0 (sim_Run.l0 kq l0 left done i = some r) ∧ Aside0 (kq ≤ k) ∧ Aside0 (RunInv w w' A0 c0 l0 w1.heap.size left done 0))
      case atStart => exact ⟨0, _, _, rfl, H0, ⟨Nat.le_refl _⟩, HI⟩
      case round =>
        clear H0 HI
        obtain ⟨i, left, done, rfl, HA, HK1, HI⟩ := hrel
        generalize w1.heap.size = L at *
        cases gk with
        | zero => exact absurd HA.out (by simp [sim_Run.l0])
        | succ k1 =>
          have H := HA.out
          clear HA
          simp only [sim_Run.l0] at H
          by_cases c5 : i < (l0.length : Int)
          · rw [if_pos c5] at H
            have c5b0 : decide (i < (l0.length : Int)) = true := decide_eq_true c5
            by_cases p141 : 0 ≤ i
            case neg => rw [if_neg p141] at H; cases H
            rw [if_pos p141] at H
            have H' := Aside0.mk H
            clear H
            have q141 := c5
            clear c5
            obtain ⟨ad141, e141, hx141_0, hx141_1, hx141_2⟩ := at_T31 HR0.out i p141 q141
            cases e141
            replace hx141_0 := (HI.out.bel.cell (World.block_lt_of_cell? w _ hx141_0)).trans hx141_0
            replace hx141_1 := (HI.out.bel.cell (World.block_lt_of_cell? w _ hx141_1)).trans hx141_1
            replace hx141_2 := (HI.out.bel.cell (World.block_lt_of_cell? w _ hx141_2)).trans hx141_2
            replace p141 := eq_true p141
            replace q141 := eq_true q141
            go_wp2_with (first | ((with_reducible refine gate_dst (N := 6) rfl ?_); refine box_event ?hg (N := 6) ?hd (cs := #[.int .i64 0, .int .i64 0, .int .i64 0]) (t := 31) ?hr ?_; (case hd => rfl); (case hg => rfl); (case hr => first | (go_simp; done) | (go_simp; rfl)); intro gb hg w6 hbox hb; have HL0 := HI; have n0_ := Aside0.mk (HI.out.below hb); clear HI; have HI := n0_; clear n0_; have BK := Aside0.mk hbox; have GE := Aside0.mk (by rw [hg]; exact blk_lt HL0.out.dn : L + 1 + 1 < gb); replace hx141_0 := pw_cell_below hb hx141_0; replace hx141_1 := pw_cell_below hb hx141_1; replace hx141_2 := pw_cell_below hb hx141_2; clear hb hbox hg; have hcz0 := (blk_cell BK.out 0).trans rfl; have hcz1 := (blk_cell BK.out 1).trans rfl; have hcz2 := (blk_cell BK.out 2).trans rfl; have hfz0 := blk_frozen BK.out 0; have hfz1 := blk_frozen BK.out 1; have hfz2 := blk_frozen BK.out 2))
            refine wp_world (fun w7 => w7.heap[gb]? = some (.cells #[.int .i64 (rd_T31 l0 i).f0, .int .i64 (rd_T31 l0 i).f1, .int .i64 (rd_T31 l0 i).f2] 31 (0, 0)) ∧ RunInv w w7 (some ad141) c0 l0 L left done 0) ?_ ?_
            · exact ⟨blk_put (blk_put (blk_put BK.out 0 _ rfl) 1 _ rfl) 2 _ rfl, ((HI.out.far GE.out 0 _).far GE.out 1 _).far GE.out 2 _⟩
            clear hx141_0 hx141_1 hx141_2 hcz0 hcz1 hcz2 hfz0 hfz1 hfz2 BK HI HL0
            rintro w7 ⟨BK, HI⟩
            replace BK := Aside0.mk BK
            replace HI := Aside0.mk HI
            have hcz0 : w7.cell? ⟨gb, 0, none⟩ = some (.int .i64 (rd_T31 l0 i).f0) := (blk_cell BK.out 0).trans rfl
            have hcz2 : w7.cell? ⟨gb, 2, none⟩ = some (.int .i64 (rd_T31 l0 i).f2) := (blk_cell BK.out 2).trans rfl
            obtain ⟨hl1, hd1⟩ := HI.out.cells (of_eq_true p141) (of_eq_true q141)
            obtain ⟨hs0, hs1, hs2⟩ := HI.out.state
            have fl1 := blk_frozen HI.out.lft i.toNat
            have fd1 := blk_frozen HI.out.dn i.toNat
            have HIL := Aside0.mk (HI.out.setL i.toNat (rd_T31 l0 i).f2)
            have HID := Aside0.mk (HI.out.setD i.toNat (rd_T31 l0 i).f0)
            have BKL := Aside0.mk (blk_far (p := ⟨L, i.toNat, none⟩) BK.out (by show gb ≠ L; have := GE.out; omega) (.int .i64 (rd_T31 l0 i).f2))
            have BKD := Aside0.mk (blk_far (p := ⟨L + 1 + 1, i.toNat, none⟩) BK.out (by show gb ≠ L + 1 + 1; have := GE.out; omega) (.int .i64 (rd_T31 l0 i).f0))
            obtain ⟨hlL, hdL⟩ := HIL.out.cells (of_eq_true p141) (of_eq_true q141)
            obtain ⟨hsL0, hsL1, hsL2⟩ := HIL.out.state
            obtain ⟨hlD, hdD⟩ := HID.out.cells (of_eq_true p141) (of_eq_true q141)
            obtain ⟨hsD0, hsD1, hsD2⟩ := HID.out.state
            have hczL : (w7.setCell ⟨L, i.toNat, none⟩ (.int .i64 (rd_T31 l0 i).f2)).cell? ⟨gb, 0, none⟩ = some (.int .i64 (rd_T31 l0 i).f0) := (blk_cell BKL.out 0).trans rfl
            have hczL2 : (w7.setCell ⟨L, i.toNat, none⟩ (.int .i64 (rd_T31 l0 i).f2)).cell? ⟨gb, 2, none⟩ = some (.int .i64 (rd_T31 l0 i).f2) := (blk_cell BKL.out 2).trans rfl
            have hczD : (w7.setCell ⟨L + 1 + 1, i.toNat, none⟩ (.int .i64 (rd_T31 l0 i).f0)).cell? ⟨gb, 2, none⟩ = some (.int .i64 (rd_T31 l0 i).f2) := (blk_cell BKD.out 2).trans rfl
            have hczD0 : (w7.setCell ⟨L + 1 + 1, i.toNat, none⟩ (.int .i64 (rd_T31 l0 i).f0)).cell? ⟨gb, 0, none⟩ = some (.int .i64 (rd_T31 l0 i).f0) := (blk_cell BKD.out 0).trans rfl
            have flD := blk_frozen HID.out.lft i.toNat
            have fdL := blk_frozen HIL.out.dn i.toNat
            go_region
            all_goals go_wp2
            all_goals go_roundg k1
            case measure => have := HK1.out; omega
            case rel => exact ⟨wrap64 (i + 1), left.set i.toNat (rd_T31 l0 i).f2, done.set i.toNat (rd_T31 l0 i).f0, by first | rfl | (simp; done) | (simp [*]; done), H', ⟨by have := HK1.out; omega⟩, ⟨by first | exact ((HI.out.setL _ _).setD _ _).drew | exact ((HI.out.setD _ _).setL _ _).drew⟩⟩
          · rw [if_neg c5] at H
            have H' := Aside0.mk H
            clear H
            have c5b0 : decide (i < (l0.length : Int)) = false := decide_eq_false c5
            clear c5
            go_wp2
            go_step3
            go_wp2
            go_loopg [7] k1 (fun kq v7 w' => ∃ (left done : List Int) (now : Int), Aside0 (sim_Run.l1 kq l0 left done now = some r) ∧ Aside0 (kq ≤ k1) ∧ Aside0 (RunInv w w' A0 c0 l0 L left done now))
            case atStart => exact ⟨_, _, _, H', ⟨Nat.le_refl _⟩, HI⟩
            case round =>
              clear H' HI c5b0
              obtain ⟨left, done, now, HA, HK2, HI⟩ := hrel
              cases gk with
              | zero => exact absurd HA.out (by simp [sim_Run.l1])
              | succ k2 =>
                have H := HA.out
                clear HA
                simp only [sim_Run.l1] at H
                obtain ⟨⟨a1, a2⟩, ha, H⟩ := Option.bind_eq_some_iff.mp H
                obtain ⟨⟨b1, bb, b3⟩, hb, H⟩ := Option.bind_eq_some_iff.mp H
                simp only [] at H
                by_cases ce : a2 = now ∧ b3 = now
                case neg => rw [if_neg ce] at H; cases H
                rw [if_pos ce] at H
                obtain ⟨rfl, rfl⟩ := ce
                have HF := Aside0.mk ha
                have HC := Aside0.mk hb
                clear ha hb
                by_cases c1 : a1 < 0
                · rw [if_pos c1] at H
                  have c1b : decide (a1 < 0) = true := decide_eq_true c1
                  clear c1
                  cases bb with
                  | true =>
                    rw [if_pos rfl] at H
                    have H' := Aside0.mk H
                    clear H
                    go_wp2_with (first | (go_at_call 43; ((with_reducible refine (HI.out.first HR0.out hn HF.out).mono ?_); rintro e wa ⟨rfl, hb⟩; have n0_ := Aside0.mk (HI.out.below hb); clear HI hb; have HI := n0_; clear n0_)) | (go_at_call 44; ((with_reducible refine (HI.out.coming HR0.out hn HC.out).mono ?_); rintro e wb ⟨rfl, hb⟩; have n0_ := Aside0.mk (HI.out.below hb); clear HI hb; have HI := n0_; clear n0_; obtain ⟨hs0, hs1, hs2⟩ := HI.out.state; have fs2 := blk_frozen HI.out.st 2)))
                    go_roundg k2
                    case measure => have := HK2.out; omega
                    case rel => exact ⟨left, done, b1, H', ⟨by have := HK2.out; omega⟩, ⟨HI.out.setN b1⟩⟩
                  | false =>
                    rw [if_neg (by simp)] at H
                    obtain rfl := Option.some.inj H
                    clear H
                    go_wp2_with (first | (go_at_call 43; ((with_reducible refine (HI.out.first HR0.out hn HF.out).mono ?_); rintro e wa ⟨rfl, hb⟩; have n0_ := Aside0.mk (HI.out.below hb); clear HI hb; have HI := n0_; clear n0_)) | (go_at_call 44; ((with_reducible refine (HI.out.coming HR0.out hn HC.out).mono ?_); rintro e wb ⟨rfl, hb⟩; have n0_ := Aside0.mk (HI.out.below hb); clear HI hb; have HI := n0_; clear n0_; obtain ⟨hs0, hs1, hs2⟩ := HI.out.state; have fs2 := blk_frozen HI.out.st 2)))
                    rw [Exit.noGoto_ret]
                    go_ret
                    exact ⟨_, rfl, HI.out.result hn, HI.out.bel⟩
                · rw [if_neg c1] at H
                  have c1b : decide (a1 < 0) = false := decide_eq_false c1
                  by_cases cg : a1 < (l0.length : Int) ∧ 0 ≤ b3 ∧ b3 ≤ 1048576 ∧ 0 ≤ rd left a1 ∧ rd left a1 ≤ 1048576 ∧ 0 ≤ b1 ∧ b1 ≤ 1048576
                  case neg => rw [if_neg cg] at H; cases H
                  rw [if_pos cg] at H
                  obtain ⟨g1, g2, g3, g4, g5, g6, g7⟩ := cg
                  have z1 : (0 ≤ a1) = True := eq_true (by omega)
                  have z2 : (a1 < (l0.length : Int)) = True := eq_true g1
                  have g1b : decide (a1 < (l0.length : Int)) = true := decide_eq_true g1
                  have z1b : decide (0 ≤ a1) = true := decide_eq_true (by omega)
                  clear c1 g1
                  cases bb with
                  | true =>
                    rw [if_pos rfl] at H
                    by_cases cm : rd left a1 ≤ b1 - b3
                    · rw [if_pos cm] at H
                      have H' := Aside0.mk H
                      clear H
                      go_wp2_with (first | (go_at_call 43; ((with_reducible refine (HI.out.first HR0.out hn HF.out).mono ?_); rintro e wa ⟨rfl, hb⟩; have n0_ := Aside0.mk (HI.out.below hb); clear HI hb; have HI := n0_; clear n0_)) | (go_at_call 44; ((with_reducible refine (HI.out.coming HR0.out hn HC.out).mono ?_); rintro e wb ⟨rfl, hb⟩; have n0_ := Aside0.mk (HI.out.below hb); clear HI hb; have HI := n0_; clear n0_; obtain ⟨hs0, hs1, hs2⟩ := HI.out.state; have fs2 := blk_frozen HI.out.st 2; obtain ⟨hl1, hd1⟩ := HI.out.cells (of_eq_true z1) (of_eq_true z2); have fl1 := blk_frozen HI.out.lft a1.toNat; have fd1 := blk_frozen HI.out.dn a1.toNat)))
                      go_roundg k2
                      case measure => have := HK2.out; omega
                      case rel => exact ⟨_, _, _, H', ⟨by have := HK2.out; omega⟩, ⟨((HI.out.setN _).setL a1.toNat _).setD a1.toNat _⟩⟩
                    · rw [if_neg cm] at H
                      have H' := Aside0.mk H
                      clear H
                      have cmb : decide (rd left a1 ≤ b1 - b3) = false := decide_eq_false cm
                      go_wp2_with (first | (go_at_call 43; ((with_reducible refine (HI.out.first HR0.out hn HF.out).mono ?_); rintro e wa ⟨rfl, hb⟩; have n0_ := Aside0.mk (HI.out.below hb); clear HI hb; have HI := n0_; clear n0_)) | (go_at_call 44; ((with_reducible refine (HI.out.coming HR0.out hn HC.out).mono ?_); rintro e wb ⟨rfl, hb⟩; have n0_ := Aside0.mk (HI.out.below hb); clear HI hb; have HI := n0_; clear n0_; obtain ⟨hs0, hs1, hs2⟩ := HI.out.state; have fs2 := blk_frozen HI.out.st 2; obtain ⟨hl1, hd1⟩ := HI.out.cells (of_eq_true z1) (of_eq_true z2); have fl1 := blk_frozen HI.out.lft a1.toNat; have fd1 := blk_frozen HI.out.dn a1.toNat)))
                      go_roundg k2
                      case measure => have := HK2.out; omega
                      case rel => exact ⟨_, _, _, H', ⟨by have := HK2.out; omega⟩, ⟨((HI.out.setN _).setL a1.toNat _).setD a1.toNat _⟩⟩
                  | false =>
                    rw [if_neg (by simp)] at H
                    have H' := Aside0.mk H
                    clear H
                    go_wp2_with (first | (go_at_call 43; ((with_reducible refine (HI.out.first HR0.out hn HF.out).mono ?_); rintro e wa ⟨rfl, hb⟩; have n0_ := Aside0.mk (HI.out.below hb); clear HI hb; have HI := n0_; clear n0_)) | (go_at_call 44; ((with_reducible refine (HI.out.coming HR0.out hn HC.out).mono ?_); rintro e wb ⟨rfl, hb⟩; have n0_ := Aside0.mk (HI.out.below hb); clear HI hb; have HI := n0_; clear n0_; obtain ⟨hs0, hs1, hs2⟩ := HI.out.state; have fs2 := blk_frozen HI.out.st 2; obtain ⟨hl1, hd1⟩ := HI.out.cells (of_eq_true z1) (of_eq_true z2); have fl1 := blk_frozen HI.out.lft a1.toNat; have fd1 := blk_frozen HI.out.dn a1.toNat)))
                    go_roundg k2
                    case measure => have := HK2.out; omega
                    case rel => exact ⟨_, _, _, H', ⟨by have := HK2.out; omega⟩, ⟨((HI.out.setN _).setL a1.toNat _).setD a1.toNat _⟩⟩
    · rw [if_neg hn] at h; cases h
end Go.Proofs.Ytdjmcjfdkcckoaa.F
