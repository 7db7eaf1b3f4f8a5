-- Told by the kit's print.py out of this seat's translation, for this session's own texts (not a PRINTED file).
import Derived.Test.YtanakihfgdgdfaaFx0
import Derived.WalkMore
namespace Go.Proofs.Ytanakihfgdgdfaa.F
open Go.RowKit Go.Proofs.YtanakihfgdgdfaaW.PrintWords Go.Proofs.YtanakihfgdgdfaaW.PrintLast Go.Proofs.YtanakihfgdgdfaaW.PrintMore
attribute [local go_sem] max2_int min2_int max_two min_two max_three min_three max_four min_four   -- for this text's walks alone
set_option linter.unusedVariables false
set_option linter.unusedSimpArgs false

/-- A state of type 39 at block g of W; what its slices lead to came in by w0. -/
def IsS39 (B0_ : Option Addr) (d0_ : Nat) (B1_ : Option Addr) (d1_ : Nat) (w0 W : World) (g : Nat) (f0 : List (S32)) (f1 : List Int) (f2 : Int) : Prop := ∃ A0 c0, ∃ A1 c1, W.heap[g]? = some (.cells #[.slice A0 f0.length c0, .slice A1 f1.length c1, .int .i64 f2] 39 (0, 0)) ∧ (w0.heap.size ≤ g ∧ A0 = B0_ ∧ c0 = d0_ ∧ A1 = B1_ ∧ c1 = d1_) ∧ Kd.C k32 w0 A0 f0.length f0 ∧ Kd.C (Kd.int .i64) w0 A1 f1.length f1
theorem IsS39.grown {B0_ : Option Addr} {d0_ : Nat} {B1_ : Option Addr} {d1_ : Nat} {w0 W : World} {g : Nat} {f0 : List (S32)} {f1 : List Int} {f2 : Int} {W1 : World} {row : Option Nat} (h : IsS39 B0_ d0_ B1_ d1_ w0 W g f0 f1 f2) (hw : W.grownBy W1 row) (hne : some g ≠ row) : IsS39 B0_ d0_ B1_ d1_ w0 W1 g f0 f1 f2 := by
  obtain ⟨A0, c0, A1, c1, hb, hg, hr0, hr1⟩ := h
  exact ⟨A0, c0, A1, c1, blk_grown hb hw hne, hg, hr0, hr1⟩
theorem IsS39.own_neN {B0_ : Option Addr} {d0_ : Nat} {B1_ : Option Addr} {d1_ : Nat} {w0 W : World} {g : Nat} {f0 : List (S32)} {f1 : List Int} {f2 : Int} {α : Type} {d : Kd α} {e : Nat} {base : Nat} {ok : Nat → Prop} {v : Value} {xs : List α} (h : IsS39 B0_ d0_ B1_ d1_ w0 W g f0 f1 f2) (ho : Kd.N d e W base ok v xs) (ht : e ≠ 39) : some g ≠ v.ownBlock := by
  obtain ⟨A0, c0, A1, c1, hb, hg, hr0, hr1⟩ := h
  exact Kd.N_ne ho hb ht
theorem IsS39.fresh {B0_ : Option Addr} {d0_ : Nat} {B1_ : Option Addr} {d1_ : Nat} {w0 W : World} {g : Nat} {f0 : List (S32)} {f1 : List Int} {f2 : Int} (h : IsS39 B0_ d0_ B1_ d1_ w0 W g f0 f1 f2) : ∀ k, W.heap.size ≤ k → k ≠ g := by
  obtain ⟨A0, c0, A1, c1, hb, hg, hr0, hr1⟩ := h
  exact Kd.freshB hb
theorem IsS39.kept {B0_ : Option Addr} {d0_ : Nat} {B1_ : Option Addr} {d1_ : Nat} {w0 W : World} {g : Nat} {f0 : List (S32)} {f1 : List Int} {f2 : Int} {W1 : World} {S : Nat → Prop} (h : IsS39 B0_ d0_ B1_ d1_ w0 W g f0 f1 f2) (hk : Kept W W1 S) (hne : ¬ S g) : IsS39 B0_ d0_ B1_ d1_ w0 W1 g f0 f1 f2 := by
  obtain ⟨A0, c0, A1, c1, hb, hg, hr0, hr1⟩ := h
  exact ⟨A0, c0, A1, c1, blk_kept hb hk hne, hg, hr0, hr1⟩
theorem IsS39.below {B0_ : Option Addr} {d0_ : Nat} {B1_ : Option Addr} {d1_ : Nat} {w0 W : World} {g : Nat} {f0 : List (S32)} {f1 : List Int} {f2 : Int} {W1 : World} (h : IsS39 B0_ d0_ B1_ d1_ w0 W g f0 f1 f2) (hw : Below W.heap.size W W1) : IsS39 B0_ d0_ B1_ d1_ w0 W1 g f0 f1 f2 := h.grown (grown_of_below hw none) (by simp)
theorem IsS39.alloc {B0_ : Option Addr} {d0_ : Nat} {B1_ : Option Addr} {d1_ : Nat} {w0 W : World} {g : Nat} {f0 : List (S32)} {f1 : List Int} {f2 : Int} (h : IsS39 B0_ d0_ B1_ d1_ w0 W g f0 f1 f2) (o : Obj) : IsS39 B0_ d0_ B1_ d1_ w0 (W.alloc o) g f0 f1 f2 := h.below (below_alloc (Below.refl _ _) o)
theorem IsS39.drewN {B0_ : Option Addr} {d0_ : Nat} {B1_ : Option Addr} {d1_ : Nat} {w0 W : World} {g : Nat} {f0 : List (S32)} {f1 : List Int} {f2 : Int} (h : IsS39 B0_ d0_ B1_ d1_ w0 W g f0 f1 f2) (m : Nat) : IsS39 B0_ d0_ B1_ d1_ w0 (W.drewN m) g f0 f1 f2 := h
theorem IsS39.drew {B0_ : Option Addr} {d0_ : Nat} {B1_ : Option Addr} {d1_ : Nat} {w0 W : World} {g : Nat} {f0 : List (S32)} {f1 : List Int} {f2 : Int} (h : IsS39 B0_ d0_ B1_ d1_ w0 W g f0 f1 f2) : IsS39 B0_ d0_ B1_ d1_ w0 W.drew g f0 f1 f2 := h
theorem IsS39.at_ {B0_ : Option Addr} {d0_ : Nat} {B1_ : Option Addr} {d1_ : Nat} {w0 W : World} {g : Nat} {f0 : List (S32)} {f1 : List Int} {f2 : Int} {w' : World} {m : Nat} (hq : W.drewN m = w') (h : IsS39 B0_ d0_ B1_ d1_ w0 W g f0 f1 f2) : IsS39 B0_ d0_ B1_ d1_ w0 w' g f0 f1 f2 := by subst hq; exact IsS39.drewN h m
theorem IsS39.apart {B0_ : Option Addr} {d0_ : Nat} {B1_ : Option Addr} {d1_ : Nat} {w0 W : World} {g : Nat} {f0 : List (S32)} {f1 : List Int} {f2 : Int} {α : Type} {d : Kd α} {e : Nat} {base : Nat} {ok : Nat → Prop} {v : Value} {xs : List α} (h : IsS39 B0_ d0_ B1_ d1_ w0 W g f0 f1 f2) (ho : d.R e W base ok v xs) (ht : ∀ q, q ∈ e :: d.E → q ≠ 39) : d.R e W base (fun k => ok k ∧ k ≠ g) v xs := by
  obtain ⟨A0, c0, A1, c1, hb, hg, hr0, hr1⟩ := h
  exact Kd.R_types ho hb ht
theorem IsS39.own_ne {B0_ : Option Addr} {d0_ : Nat} {B1_ : Option Addr} {d1_ : Nat} {w0 W : World} {g : Nat} {f0 : List (S32)} {f1 : List Int} {f2 : Int} {α : Type} {d : Kd α} {e : Nat} {base : Nat} {ok : Nat → Prop} {v : Value} {xs : List α} (h : IsS39 B0_ d0_ B1_ d1_ w0 W g f0 f1 f2) (ho : d.R e W base ok v xs) (ht : e ≠ 39) : some g ≠ v.ownBlock := by
  obtain ⟨A0, c0, A1, c1, hb, hg, hr0, hr1⟩ := h
  exact Kd.R_ne ho hb ht
theorem IsS39.apartQ {B0_ : Option Addr} {d0_ : Nat} {B1_ : Option Addr} {d1_ : Nat} {w0 W : World} {g : Nat} {f0 : List (S32)} {f1 : List Int} {f2 : Int} {α : Type} {d : Kd α} {e : Nat} {base : Nat} {ok : Nat → Prop} {v : Value} {xs : List α} (h : IsS39 B0_ d0_ B1_ d1_ w0 W g f0 f1 f2) (ho : d.Q e W base ok v xs) (ht : ∀ q, q ∈ e :: d.E → q ≠ 39) : d.Q e W base (fun k => ok k ∧ k ≠ g) v xs := by
  obtain ⟨A0, c0, A1, c1, hb, hg, hr0, hr1⟩ := h
  exact Kd.Q_types ho hb ht
theorem IsS39.own_neQ {B0_ : Option Addr} {d0_ : Nat} {B1_ : Option Addr} {d1_ : Nat} {w0 W : World} {g : Nat} {f0 : List (S32)} {f1 : List Int} {f2 : Int} {α : Type} {d : Kd α} {e : Nat} {base : Nat} {ok : Nat → Prop} {v : Value} {xs : List α} (h : IsS39 B0_ d0_ B1_ d1_ w0 W g f0 f1 f2) (ho : d.Q e W base ok v xs) (ht : e ≠ 39) : some g ≠ v.ownBlock := by
  obtain ⟨A0, c0, A1, c1, hb, hg, hr0, hr1⟩ := h
  exact Kd.Q_ne ho hb ht
theorem IsS39.apartS {B0_ : Option Addr} {d0_ : Nat} {B1_ : Option Addr} {d1_ : Nat} {w0 W : World} {g : Nat} {f0 : List (S32)} {f1 : List Int} {f2 : Int} {α : Type} {d : Kd α} {e : Nat} {base : Nat} {ok : Nat → Prop} {v : Value} {xs : List α} (h : IsS39 B0_ d0_ B1_ d1_ w0 W g f0 f1 f2) (ho : d.S e W base ok v xs) (ht : ∀ q, q ∈ e :: d.E → q ≠ 39) : d.S e W base (fun k => ok k ∧ k ≠ g) v xs := by
  obtain ⟨A0, c0, A1, c1, hb, hg, hr0, hr1⟩ := h
  exact Kd.S_types ho hb ht
theorem IsS39.own_neS {B0_ : Option Addr} {d0_ : Nat} {B1_ : Option Addr} {d1_ : Nat} {w0 W : World} {g : Nat} {f0 : List (S32)} {f1 : List Int} {f2 : Int} {α : Type} {d : Kd α} {e : Nat} {base : Nat} {ok : Nat → Prop} {v : Value} {xs : List α} (h : IsS39 B0_ d0_ B1_ d1_ w0 W g f0 f1 f2) (ho : d.S e W base ok v xs) (ht : e ≠ 39) : some g ≠ v.ownBlock := by
  obtain ⟨A0, c0, A1, c1, hb, hg, hr0, hr1⟩ := h
  exact Kd.S_ne ho hb ht
theorem IsS39.lt {B0_ : Option Addr} {d0_ : Nat} {B1_ : Option Addr} {d1_ : Nat} {w0 W : World} {g : Nat} {f0 : List (S32)} {f1 : List Int} {f2 : Int} (h : IsS39 B0_ d0_ B1_ d1_ w0 W g f0 f1 f2) : g < W.heap.size := by
  obtain ⟨A0, c0, A1, c1, hb, hg, hr0, hr1⟩ := h
  exact blk_lt hb
theorem IsS39.ge {B0_ : Option Addr} {d0_ : Nat} {B1_ : Option Addr} {d1_ : Nat} {w0 W : World} {g : Nat} {f0 : List (S32)} {f1 : List Int} {f2 : Int} (h : IsS39 B0_ d0_ B1_ d1_ w0 W g f0 f1 f2) : w0.heap.size ≤ g := by
  obtain ⟨A0, c0, A1, c1, hb, hg, hr0, hr1⟩ := h
  exact hg.1
theorem IsS39.ne_blk {B0_ : Option Addr} {d0_ : Nat} {B1_ : Option Addr} {d1_ : Nat} {w0 W : World} {g : Nat} {f0 : List (S32)} {f1 : List Int} {f2 : Int} {a : Nat} {cs : Array Value} {t : TypeId} {fr : Nat × Nat} (h : IsS39 B0_ d0_ B1_ d1_ w0 W g f0 f1 f2) (hb2 : W.heap[a]? = some (.cells cs t fr)) (ht : t ≠ 39) : g ≠ a := by
  obtain ⟨A0, c0, A1, c1, hb, hg, hr0, hr1⟩ := h
  rintro rfl
  rw [hb] at hb2
  injection hb2 with hb2
  injection hb2 with _ ht2
  exact ht ht2.symm
theorem IsS39.far {B0_ : Option Addr} {d0_ : Nat} {B1_ : Option Addr} {d1_ : Nat} {w0 W : World} {g : Nat} {f0 : List (S32)} {f1 : List Int} {f2 : Int} {p : Addr} (h : IsS39 B0_ d0_ B1_ d1_ w0 W g f0 f1 f2) (hne : g ≠ p.block) (u : Value) : IsS39 B0_ d0_ B1_ d1_ w0 (W.setCell p u) g f0 f1 f2 := by
  obtain ⟨A0, c0, A1, c1, hb, hg, hr0, hr1⟩ := h
  exact ⟨A0, c0, A1, c1, blk_far hb hne u, hg, hr0, hr1⟩
theorem cellS39_0 {W : World} {g : Nat} {A0 : Option Addr} {c0 : Nat} {A1 : Option Addr} {c1 : Nat} {f0 : List (S32)} {f1 : List Int} {f2 : Int} (h : W.heap[g]? = some (.cells #[.slice A0 f0.length c0, .slice A1 f1.length c1, .int .i64 f2] 39 (0, 0))) : W.cell? ⟨g, 0, none⟩ = some (.slice A0 f0.length c0) := (blk_cell h 0).trans rfl
theorem cellS39_1 {W : World} {g : Nat} {A0 : Option Addr} {c0 : Nat} {A1 : Option Addr} {c1 : Nat} {f0 : List (S32)} {f1 : List Int} {f2 : Int} (h : W.heap[g]? = some (.cells #[.slice A0 f0.length c0, .slice A1 f1.length c1, .int .i64 f2] 39 (0, 0))) : W.cell? ⟨g, 1, none⟩ = some (.slice A1 f1.length c1) := (blk_cell h 1).trans rfl
theorem cellS39_2 {W : World} {g : Nat} {A0 : Option Addr} {c0 : Nat} {A1 : Option Addr} {c1 : Nat} {f0 : List (S32)} {f1 : List Int} {f2 : Int} (h : W.heap[g]? = some (.cells #[.slice A0 f0.length c0, .slice A1 f1.length c1, .int .i64 f2] 39 (0, 0))) : W.cell? ⟨g, 2, none⟩ = some (.int .i64 f2) := (blk_cell h 2).trans rfl
theorem IsS39.set_2 {B0_ : Option Addr} {d0_ : Nat} {B1_ : Option Addr} {d1_ : Nat} {w0 W : World} {g : Nat} {f0 : List (S32)} {f1 : List Int} {f2 : Int} (h : IsS39 B0_ d0_ B1_ d1_ w0 W g f0 f1 f2) (x : Int) : IsS39 B0_ d0_ B1_ d1_ w0 (W.setCell ⟨g, 2, none⟩ (.int .i64 x)) g f0 f1 x := by
  obtain ⟨A0, c0, A1, c1, hb, hg, hr0, hr1⟩ := h
  exact ⟨A0, c0, A1, c1, by simpa using blk_set hb 2 (.int .i64 x), hg, hr0, hr1⟩

/-! ### sim_state_first: function 22 -/
mutual
def sim_state_first.l0 : Nat → Int → List (S32) → Int → Int → List (S32) → List Int → Int → Option (Int × Int)
  | 0, _, _, _, _, _, _, _ => none
  | k + 1, x3, x9, x10, x11, x1000, x1001, x1002 => if x11 < x10 then (if 0 ≤ x11 then (if x11 < (x9.length : Int) then (if x11 < (x1001.length : Int) then (if (rd x1001 x11) = 0 then (sim_state_first.j1 k x3 x11 x9 x10 x11 true x1000 x1001 x1002 ((rd_T32 x9 x11).f0) ((rd_T32 x9 x11).f1) ((rd_T32 x9 x11).f2)) else (sim_state_first.j1 k x3 x11 x9 x10 x11 (decide (((rd_T32 x9 x11).f0) > x1002)) x1000 x1001 x1002 ((rd_T32 x9 x11).f0) ((rd_T32 x9 x11).f1) ((rd_T32 x9 x11).f2))) else (none)) else (none)) else (none)) else (some (x3, x1002))
def sim_state_first.j1 : Nat → Int → Int → List (S32) → Int → Int → Bool → List (S32) → List Int → Int → Int → Int → Int → Option (Int × Int)
  | 0, _, _, _, _, _, _, _, _, _, _, _, _ => none
  | k + 1, x3, x4, x9, x10, x11, x16, x1000, x1001, x1002, x108000, x108001, x108002 => if x16 = true then (sim_state_first.l0 k x3 x9 x10 (wrap64 (x11 + 1)) x1000 x1001 x1002) else (if x3 < 0 then (sim_state_first.l0 k x4 x9 x10 (wrap64 (x11 + 1)) x1000 x1001 x1002) else (if 0 ≤ x3 then (if x3 < (x1000.length : Int) then (if x108001 < ((rd_T32 x1000 x3).f1) then (sim_state_first.l0 k x4 x9 x10 (wrap64 (x11 + 1)) x1000 x1001 x1002) else (sim_state_first.l0 k x3 x9 x10 (wrap64 (x11 + 1)) x1000 x1001 x1002)) else (none)) else (none)))
end
def sim_state_first.f (k : Nat) (s0_0 : List (S32)) (s0_1 : List Int) (s0_2 : Int) : Option (Int × Int) := sim_state_first.l0 k (-1) s0_0 (s0_0.length : Int) 0 s0_0 s0_1 s0_2
theorem sim_state_first.mono_l : ∀ k, (∀ y0 y1 y2 y3 y4 y5 y6, LeO (sim_state_first.l0 k y0 y1 y2 y3 y4 y5 y6) (sim_state_first.l0 (k + 1) y0 y1 y2 y3 y4 y5 y6)) ∧ (∀ y0 y1 y2 y3 y4 y5 y6 y7 y8 y9 y10 y11, LeO (sim_state_first.j1 k y0 y1 y2 y3 y4 y5 y6 y7 y8 y9 y10 y11) (sim_state_first.j1 (k + 1) y0 y1 y2 y3 y4 y5 y6 y7 y8 y9 y10 y11))
  | 0 => ⟨fun _ _ _ _ _ _ _ r h => by simp [sim_state_first.l0] at h, fun _ _ _ _ _ _ _ _ _ _ _ _ r h => by simp [sim_state_first.j1] at h⟩
  | k + 1 => by
    obtain ⟨ih0, ih1⟩ := sim_state_first.mono_l k
    refine ⟨?_, ?_⟩
    · intro y0 y1 y2 y3 y4 y5 y6
      unfold sim_state_first.l0
      repeat' first
      | (with_reducible exact ih0 _ _ _ _ _ _ _)
      | (with_reducible exact ih1 _ _ _ _ _ _ _ _ _ _ _ _)
      | (with_reducible exact LeO.refl _)
      | (with_reducible exact LeO.none _)
      | (with_reducible refine LeO.ite ?_ ?_)
      | (with_reducible refine LeO.bind ?_ (fun _ => ?_))
      | exact ih0 _ _ _ _ _ _ _
      | exact ih1 _ _ _ _ _ _ _ _ _ _ _ _
      | exact LeO.none _
      | refine LeO.ite ?_ ?_
      | refine LeO.bind ?_ (fun _ => ?_)
    · intro y0 y1 y2 y3 y4 y5 y6 y7 y8 y9 y10 y11
      unfold sim_state_first.j1
      repeat' first
      | (with_reducible exact ih0 _ _ _ _ _ _ _)
      | (with_reducible exact ih1 _ _ _ _ _ _ _ _ _ _ _ _)
      | (with_reducible exact LeO.refl _)
      | (with_reducible exact LeO.none _)
      | (with_reducible refine LeO.ite ?_ ?_)
      | (with_reducible refine LeO.bind ?_ (fun _ => ?_))
      | exact ih0 _ _ _ _ _ _ _
      | exact ih1 _ _ _ _ _ _ _ _ _ _ _ _
      | exact LeO.none _
      | refine LeO.ite ?_ ?_
      | refine LeO.bind ?_ (fun _ => ?_)
theorem sim_state_first.mono : ∀ a0 a1 a2 k, LeO (sim_state_first.f k a0 a1 a2) (sim_state_first.f (k + 1) a0 a1 a2) := by
  intro a0 a1 a2 k
  obtain ⟨ih0, ih1⟩ := sim_state_first.mono_l k
  unfold sim_state_first.f
  repeat' first
      | (with_reducible exact ih0 _ _ _ _ _ _ _)
      | (with_reducible exact ih1 _ _ _ _ _ _ _ _ _ _ _ _)
      | (with_reducible exact LeO.refl _)
      | (with_reducible exact LeO.none _)
      | (with_reducible refine LeO.ite ?_ ?_)
      | (with_reducible refine LeO.bind ?_ (fun _ => ?_))
      | exact ih0 _ _ _ _ _ _ _
      | exact ih1 _ _ _ _ _ _ _ _ _ _ _ _
      | exact LeO.none _
      | refine LeO.ite ?_ ?_
      | refine LeO.bind ?_ (fun _ => ?_)
set_option maxHeartbeats 8000000 in
set_option maxRecDepth 100000 in
theorem sim_state_first.calls (k : Nat) (B0_ : Option Addr) (d0_ : Nat) (B1_ : Option Addr) (d1_ : Nat) (g : Nat) (s0_0 : List (S32)) (s0_1 : List Int) (s0_2 : Int) (r1 : Int) (r2 : Int) (w0 w : World) (hI : IsS39 B0_ d0_ B1_ d1_ w0 w g s0_0 s0_1 s0_2) (hB : Below w0.heap.size w0 w) (h : sim_state_first.f k s0_0 s0_1 s0_2 = some (r1, r2)) :
    Calls Try.prog 22 #[.pointer (some ⟨g, 0, none⟩)] w fun e w' => e = .returned (.int .i64 r1) ∧ IsS39 B0_ d0_ B1_ d1_ w0 w' g s0_0 s0_1 r2 ∧ Below w0.heap.size w0 w' ∧ KeepBut w w' g none := by
  have hu32 := Try.underlying32
  have HI0 := Aside0.mk hI
  have HK := Aside0.mk (KeepBut.refl w g none)
  have HL := Aside0.mk hB.size
  clear hI
  have HW0 := Aside0.mk hB.size
  have HB := Aside0.mk hB
  clear hB
  have H : (sim_state_first.l0 k (-1) s0_0 (s0_0.length : Int) 0 s0_0 s0_1 s0_2) = some (r1, r2) := h
  clear h
  have H' := Aside0.mk H
  clear H
  obtain ⟨ASz2_0, cSz2_0, ASz2_1, cSz2_1, HGz2, hgz2, HSz2_0, HSz2_1⟩ := HI0.out
  have hcz2_0 := cellS39_0 HGz2
  have hcz2_1 := cellS39_1 HGz2
  have hcz2_2 := cellS39_2 HGz2
  have hfz2_2 := blk_frozen HGz2 2
  clear HGz2 hgz2
  go_enter Try.func22, Try.ntmps22
  go_wp2_with fail
  try go_step3
  go_wp2
  repeat ((first | go_step3 | rw [Exit.noGoto_normal] | rw [Exit.noGoto_exit]); try (go_wp2))
  repeat (go_quiet (fail); try go_wp2)
  repeat ((first | go_step3 | rw [Exit.noGoto_normal] | rw [Exit.noGoto_exit]); try (go_wp2; repeat (go_quiet (fail); try go_wp2)))
  go_loopg [3, 11] k (fun kq v3 v11 w' => ∃ (x3_1 : Int) (x11_1 : Int), v3 = .int .i64 x3_1 ∧ v11 = .int .i64 x11_1 ∧ Aside0 (sim_state_first.l0 kq x3_1 s0_0 (s0_0.length : Int) x11_1 s0_0 s0_1 s0_2 = some (r1, r2)) ∧ Aside0 (kq ≤ k) ∧ Aside0 (IsS39 B0_ d0_ B1_ d1_ w0 w' g s0_0 s0_1 s0_2) ∧ Aside0 (KeepBut w w' g none) ∧ Aside0 (Below w0.heap.size w0 w'))
  case atStart => exact ⟨((-1)), (0), (by first | rfl | (simp; done) | (simp [*]; done)), (by first | rfl | (simp; done) | (simp [*]; done)), H', ⟨Nat.le_refl _⟩, ⟨by repeat (first | (with_reducible first | exact HI0.out | apply IsS39.alloc | apply IsS39.drewN | apply IsS39.drew | apply IsS39.set_2) | exact HI0.out)⟩, ⟨by repeat (first | (with_reducible first | exact HK.out | apply KeepBut.set_ | apply keep_drewN | apply keep_drew | apply keep_alloc) | exact HK.out)⟩, ⟨by repeat (first | (with_reducible first | exact HB.out | apply below_alloc | apply pw_below_drewN | apply below_drew1 | refine below_set ?_ (IsS39.ge HI0.out)) | exact HB.out)⟩⟩
  case round =>
    clear H'
    try clear c2
    try clear p2
    try clear hcz2_0
    try clear hcz2_1
    try clear hcz2_2
    try clear hfz2_2
    obtain ⟨x3_1, x11_1, rfl, rfl, HA, HK1, HI0, HK, HB⟩ := hrel
    cases gk with
    | zero => exact absurd HA.out (by simp [sim_state_first.l0])
    | succ k1 =>
      have H := HA.out
      clear HA
      simp only [sim_state_first.l0] at H
      by_cases c3 : x11_1 < (s0_0.length : Int)
      · rw [if_pos c3] at H
        have c3b0 : decide (x11_1 < (s0_0.length : Int)) = true := decide_eq_true c3
        clear c3
        by_cases c4 : 0 ≤ x11_1
        · rw [if_pos c4] at H
          have c4b0 : decide (0 ≤ x11_1) = true := decide_eq_true c4
          clear c4
          by_cases c5 : x11_1 < (s0_0.length : Int)
          · rw [if_pos c5] at H
            have c5b0 : decide (x11_1 < (s0_0.length : Int)) = true := decide_eq_true c5
            clear c5
            have HC6 := Aside0.mk H
            clear H
            obtain ⟨ASz7_0, cSz7_0, ASz7_1, cSz7_1, HGz7, hgz7, HSz7_0, HSz7_1⟩ := HI0.out
            have hcz7_0 := cellS39_0 HGz7
            have hcz7_1 := cellS39_1 HGz7
            have hcz7_2 := cellS39_2 HGz7
            have hfz7_2 := blk_frozen HGz7 2
            clear HGz7 hgz7
            have p106 : 0 ≤ (x11_1 : Int) := of_decide_eq_true (by first | (with_reducible assumption) | assumption)
            have q106 : x11_1 < (s0_0.length : Int) := of_decide_eq_true (by first | (with_reducible assumption) | assumption)
            obtain ⟨ad106, e106, hx106_0, hx106_1, hx106_2⟩ := at_T32 HSz2_0 x11_1 p106 q106
            cases e106
            replace hx106_0 := pw_cell_below HB.out hx106_0
            replace hx106_1 := pw_cell_below HB.out hx106_1
            replace hx106_2 := pw_cell_below HB.out hx106_2
            replace p106 := eq_true p106
            replace q106 := eq_true q106
            go_upto_region 5 with (first | ((with_reducible refine gate_dst (N := 5) rfl ?_); refine box_event ?hg (N := 5) ?hd (cs := #[.int .i64 0, .int .i64 0, .int .i64 0]) (t := 32) ?hr ?_; (case hd => rfl); (case hg => rfl); (case hr => first | (go_simp; done) | (go_simp; rfl)); intro gb107 hg w8 hbox hb; have n0_ := Aside0.mk (IsS39.below (by repeat (first | (with_reducible first | exact HI0.out | apply IsS39.alloc | apply IsS39.drewN | apply IsS39.drew | apply IsS39.set_2) | exact HI0.out)) hb); have n1_ := Aside0.mk (KeepBut.trans (by repeat (first | (with_reducible first | exact HK.out | apply KeepBut.set_ | apply keep_drewN | apply keep_drew | apply keep_alloc) | exact HK.out)) (KeepBut.of_below hb g none) (.inl rfl)); have n2_ := Aside0.mk (below_step (by repeat (first | (with_reducible first | exact HB.out | apply below_alloc | apply pw_below_drewN | apply below_drew1 | refine below_set ?_ (IsS39.ge HI0.out)) | exact HB.out)) hb); have n3_ := Aside0.mk (hbox); have n4_ := Aside0.mk ((by rw [hg]; exact (keep_size (w := w) (g := g) (row := none) (by repeat (first | (with_reducible first | exact HK.out | apply KeepBut.set_ | apply keep_drewN | apply keep_drew | apply keep_alloc) | exact HK.out))) : w.heap.size ≤ gb107)); have n5_ := Aside0.mk ((Nat.le_trans HW0.out (by rw [hg]; exact (keep_size (w := w) (g := g) (row := none) (by repeat (first | (with_reducible first | exact HK.out | apply KeepBut.set_ | apply keep_drewN | apply keep_drew | apply keep_alloc) | exact HK.out))) : w.heap.size ≤ gb107) : w0.heap.size ≤ gb107)); have n6_ := Aside0.mk ((by rw [hg]; exact Nat.ne_of_lt (IsS39.lt (show IsS39 B0_ d0_ B1_ d1_ w0 _ g s0_0 s0_1 s0_2 from by repeat (first | (with_reducible first | exact HI0.out | apply IsS39.alloc | apply IsS39.drewN | apply IsS39.drew | apply IsS39.set_2) | exact HI0.out))) : g ≠ gb107)); have n7_ := Aside0.mk ((by rw [hg]; exact Nat.ne_of_gt (IsS39.lt (show IsS39 B0_ d0_ B1_ d1_ w0 _ g s0_0 s0_1 s0_2 from by repeat (first | (with_reducible first | exact HI0.out | apply IsS39.alloc | apply IsS39.drewN | apply IsS39.drew | apply IsS39.set_2) | exact HI0.out))) : gb107 ≠ g)); clear HI0; clear HK; clear HB; have HI0 := n0_; have HK := n1_; have HB := n2_; have BK107 := n3_; have GW107 := n4_; have GE107 := n5_; have NB0_107 := n6_; have NB107_0 := n7_; clear n0_ n1_ n2_ n3_ n4_ n5_ n6_ n7_; clear hb hbox hg; have hnb9 := NB107_0.out; have hnc9 := NB0_107.out; have hcz10_0 : w8.cell? ⟨gb107, 0, none⟩ = some (.int .i64 0) := (blk_cell BK107.out 0).trans rfl; have hcz10_1 : w8.cell? ⟨gb107, 1, none⟩ = some (.int .i64 0) := (blk_cell BK107.out 1).trans rfl; have hcz10_2 : w8.cell? ⟨gb107, 2, none⟩ = some (.int .i64 0) := (blk_cell BK107.out 2).trans rfl; have hfz10_0 := blk_frozen BK107.out 0; have hfz10_1 := blk_frozen BK107.out 1; have hfz10_2 := blk_frozen BK107.out 2))
            repeat (go_quiet (first | ((with_reducible refine gate_dst (N := 5) rfl ?_); refine box_event ?hg (N := 5) ?hd (cs := #[.int .i64 0, .int .i64 0, .int .i64 0]) (t := 32) ?hr ?_; (case hd => rfl); (case hg => rfl); (case hr => first | (go_simp; done) | (go_simp; rfl)); intro gb107 hg w8 hbox hb; have n0_ := Aside0.mk (IsS39.below (by repeat (first | (with_reducible first | exact HI0.out | apply IsS39.alloc | apply IsS39.drewN | apply IsS39.drew | apply IsS39.set_2) | exact HI0.out)) hb); have n1_ := Aside0.mk (KeepBut.trans (by repeat (first | (with_reducible first | exact HK.out | apply KeepBut.set_ | apply keep_drewN | apply keep_drew | apply keep_alloc) | exact HK.out)) (KeepBut.of_below hb g none) (.inl rfl)); have n2_ := Aside0.mk (below_step (by repeat (first | (with_reducible first | exact HB.out | apply below_alloc | apply pw_below_drewN | apply below_drew1 | refine below_set ?_ (IsS39.ge HI0.out)) | exact HB.out)) hb); have n3_ := Aside0.mk (hbox); have n4_ := Aside0.mk ((by rw [hg]; exact (keep_size (w := w) (g := g) (row := none) (by repeat (first | (with_reducible first | exact HK.out | apply KeepBut.set_ | apply keep_drewN | apply keep_drew | apply keep_alloc) | exact HK.out))) : w.heap.size ≤ gb107)); have n5_ := Aside0.mk ((Nat.le_trans HW0.out (by rw [hg]; exact (keep_size (w := w) (g := g) (row := none) (by repeat (first | (with_reducible first | exact HK.out | apply KeepBut.set_ | apply keep_drewN | apply keep_drew | apply keep_alloc) | exact HK.out))) : w.heap.size ≤ gb107) : w0.heap.size ≤ gb107)); have n6_ := Aside0.mk ((by rw [hg]; exact Nat.ne_of_lt (IsS39.lt (show IsS39 B0_ d0_ B1_ d1_ w0 _ g s0_0 s0_1 s0_2 from by repeat (first | (with_reducible first | exact HI0.out | apply IsS39.alloc | apply IsS39.drewN | apply IsS39.drew | apply IsS39.set_2) | exact HI0.out))) : g ≠ gb107)); have n7_ := Aside0.mk ((by rw [hg]; exact Nat.ne_of_gt (IsS39.lt (show IsS39 B0_ d0_ B1_ d1_ w0 _ g s0_0 s0_1 s0_2 from by repeat (first | (with_reducible first | exact HI0.out | apply IsS39.alloc | apply IsS39.drewN | apply IsS39.drew | apply IsS39.set_2) | exact HI0.out))) : gb107 ≠ g)); clear HI0; clear HK; clear HB; have HI0 := n0_; have HK := n1_; have HB := n2_; have BK107 := n3_; have GW107 := n4_; have GE107 := n5_; have NB0_107 := n6_; have NB107_0 := n7_; clear n0_ n1_ n2_ n3_ n4_ n5_ n6_ n7_; clear hb hbox hg; have hnb9 := NB107_0.out; have hnc9 := NB0_107.out; have hcz10_0 : w8.cell? ⟨gb107, 0, none⟩ = some (.int .i64 0) := (blk_cell BK107.out 0).trans rfl; have hcz10_1 : w8.cell? ⟨gb107, 1, none⟩ = some (.int .i64 0) := (blk_cell BK107.out 1).trans rfl; have hcz10_2 : w8.cell? ⟨gb107, 2, none⟩ = some (.int .i64 0) := (blk_cell BK107.out 2).trans rfl; have hfz10_0 := blk_frozen BK107.out 0; have hfz10_1 := blk_frozen BK107.out 1; have hfz10_2 := blk_frozen BK107.out 2)); go_upto_region 5 with (first | ((with_reducible refine gate_dst (N := 5) rfl ?_); refine box_event ?hg (N := 5) ?hd (cs := #[.int .i64 0, .int .i64 0, .int .i64 0]) (t := 32) ?hr ?_; (case hd => rfl); (case hg => rfl); (case hr => first | (go_simp; done) | (go_simp; rfl)); intro gb107 hg w8 hbox hb; have n0_ := Aside0.mk (IsS39.below (by repeat (first | (with_reducible first | exact HI0.out | apply IsS39.alloc | apply IsS39.drewN | apply IsS39.drew | apply IsS39.set_2) | exact HI0.out)) hb); have n1_ := Aside0.mk (KeepBut.trans (by repeat (first | (with_reducible first | exact HK.out | apply KeepBut.set_ | apply keep_drewN | apply keep_drew | apply keep_alloc) | exact HK.out)) (KeepBut.of_below hb g none) (.inl rfl)); have n2_ := Aside0.mk (below_step (by repeat (first | (with_reducible first | exact HB.out | apply below_alloc | apply pw_below_drewN | apply below_drew1 | refine below_set ?_ (IsS39.ge HI0.out)) | exact HB.out)) hb); have n3_ := Aside0.mk (hbox); have n4_ := Aside0.mk ((by rw [hg]; exact (keep_size (w := w) (g := g) (row := none) (by repeat (first | (with_reducible first | exact HK.out | apply KeepBut.set_ | apply keep_drewN | apply keep_drew | apply keep_alloc) | exact HK.out))) : w.heap.size ≤ gb107)); have n5_ := Aside0.mk ((Nat.le_trans HW0.out (by rw [hg]; exact (keep_size (w := w) (g := g) (row := none) (by repeat (first | (with_reducible first | exact HK.out | apply KeepBut.set_ | apply keep_drewN | apply keep_drew | apply keep_alloc) | exact HK.out))) : w.heap.size ≤ gb107) : w0.heap.size ≤ gb107)); have n6_ := Aside0.mk ((by rw [hg]; exact Nat.ne_of_lt (IsS39.lt (show IsS39 B0_ d0_ B1_ d1_ w0 _ g s0_0 s0_1 s0_2 from by repeat (first | (with_reducible first | exact HI0.out | apply IsS39.alloc | apply IsS39.drewN | apply IsS39.drew | apply IsS39.set_2) | exact HI0.out))) : g ≠ gb107)); have n7_ := Aside0.mk ((by rw [hg]; exact Nat.ne_of_gt (IsS39.lt (show IsS39 B0_ d0_ B1_ d1_ w0 _ g s0_0 s0_1 s0_2 from by repeat (first | (with_reducible first | exact HI0.out | apply IsS39.alloc | apply IsS39.drewN | apply IsS39.drew | apply IsS39.set_2) | exact HI0.out))) : gb107 ≠ g)); clear HI0; clear HK; clear HB; have HI0 := n0_; have HK := n1_; have HB := n2_; have BK107 := n3_; have GW107 := n4_; have GE107 := n5_; have NB0_107 := n6_; have NB107_0 := n7_; clear n0_ n1_ n2_ n3_ n4_ n5_ n6_ n7_; clear hb hbox hg; have hnb9 := NB107_0.out; have hnc9 := NB0_107.out; have hcz10_0 : w8.cell? ⟨gb107, 0, none⟩ = some (.int .i64 0) := (blk_cell BK107.out 0).trans rfl; have hcz10_1 : w8.cell? ⟨gb107, 1, none⟩ = some (.int .i64 0) := (blk_cell BK107.out 1).trans rfl; have hcz10_2 : w8.cell? ⟨gb107, 2, none⟩ = some (.int .i64 0) := (blk_cell BK107.out 2).trans rfl; have hfz10_0 := blk_frozen BK107.out 0; have hfz10_1 := blk_frozen BK107.out 1; have hfz10_2 := blk_frozen BK107.out 2)))
            repeat ((first | go_step3 | rw [Exit.noGoto_normal] | rw [Exit.noGoto_exit]); try (go_wp2; repeat (go_quiet (first | ((with_reducible refine gate_dst (N := 5) rfl ?_); refine box_event ?hg (N := 5) ?hd (cs := #[.int .i64 0, .int .i64 0, .int .i64 0]) (t := 32) ?hr ?_; (case hd => rfl); (case hg => rfl); (case hr => first | (go_simp; done) | (go_simp; rfl)); intro gb107 hg w8 hbox hb; have n0_ := Aside0.mk (IsS39.below (by repeat (first | (with_reducible first | exact HI0.out | apply IsS39.alloc | apply IsS39.drewN | apply IsS39.drew | apply IsS39.set_2) | exact HI0.out)) hb); have n1_ := Aside0.mk (KeepBut.trans (by repeat (first | (with_reducible first | exact HK.out | apply KeepBut.set_ | apply keep_drewN | apply keep_drew | apply keep_alloc) | exact HK.out)) (KeepBut.of_below hb g none) (.inl rfl)); have n2_ := Aside0.mk (below_step (by repeat (first | (with_reducible first | exact HB.out | apply below_alloc | apply pw_below_drewN | apply below_drew1 | refine below_set ?_ (IsS39.ge HI0.out)) | exact HB.out)) hb); have n3_ := Aside0.mk (hbox); have n4_ := Aside0.mk ((by rw [hg]; exact (keep_size (w := w) (g := g) (row := none) (by repeat (first | (with_reducible first | exact HK.out | apply KeepBut.set_ | apply keep_drewN | apply keep_drew | apply keep_alloc) | exact HK.out))) : w.heap.size ≤ gb107)); have n5_ := Aside0.mk ((Nat.le_trans HW0.out (by rw [hg]; exact (keep_size (w := w) (g := g) (row := none) (by repeat (first | (with_reducible first | exact HK.out | apply KeepBut.set_ | apply keep_drewN | apply keep_drew | apply keep_alloc) | exact HK.out))) : w.heap.size ≤ gb107) : w0.heap.size ≤ gb107)); have n6_ := Aside0.mk ((by rw [hg]; exact Nat.ne_of_lt (IsS39.lt (show IsS39 B0_ d0_ B1_ d1_ w0 _ g s0_0 s0_1 s0_2 from by repeat (first | (with_reducible first | exact HI0.out | apply IsS39.alloc | apply IsS39.drewN | apply IsS39.drew | apply IsS39.set_2) | exact HI0.out))) : g ≠ gb107)); have n7_ := Aside0.mk ((by rw [hg]; exact Nat.ne_of_gt (IsS39.lt (show IsS39 B0_ d0_ B1_ d1_ w0 _ g s0_0 s0_1 s0_2 from by repeat (first | (with_reducible first | exact HI0.out | apply IsS39.alloc | apply IsS39.drewN | apply IsS39.drew | apply IsS39.set_2) | exact HI0.out))) : gb107 ≠ g)); clear HI0; clear HK; clear HB; have HI0 := n0_; have HK := n1_; have HB := n2_; have BK107 := n3_; have GW107 := n4_; have GE107 := n5_; have NB0_107 := n6_; have NB107_0 := n7_; clear n0_ n1_ n2_ n3_ n4_ n5_ n6_ n7_; clear hb hbox hg; have hnb9 := NB107_0.out; have hnc9 := NB0_107.out; have hcz10_0 : w8.cell? ⟨gb107, 0, none⟩ = some (.int .i64 0) := (blk_cell BK107.out 0).trans rfl; have hcz10_1 : w8.cell? ⟨gb107, 1, none⟩ = some (.int .i64 0) := (blk_cell BK107.out 1).trans rfl; have hcz10_2 : w8.cell? ⟨gb107, 2, none⟩ = some (.int .i64 0) := (blk_cell BK107.out 2).trans rfl; have hfz10_0 := blk_frozen BK107.out 0; have hfz10_1 := blk_frozen BK107.out 1; have hfz10_2 := blk_frozen BK107.out 2)); go_upto_region 5 with (first | ((with_reducible refine gate_dst (N := 5) rfl ?_); refine box_event ?hg (N := 5) ?hd (cs := #[.int .i64 0, .int .i64 0, .int .i64 0]) (t := 32) ?hr ?_; (case hd => rfl); (case hg => rfl); (case hr => first | (go_simp; done) | (go_simp; rfl)); intro gb107 hg w8 hbox hb; have n0_ := Aside0.mk (IsS39.below (by repeat (first | (with_reducible first | exact HI0.out | apply IsS39.alloc | apply IsS39.drewN | apply IsS39.drew | apply IsS39.set_2) | exact HI0.out)) hb); have n1_ := Aside0.mk (KeepBut.trans (by repeat (first | (with_reducible first | exact HK.out | apply KeepBut.set_ | apply keep_drewN | apply keep_drew | apply keep_alloc) | exact HK.out)) (KeepBut.of_below hb g none) (.inl rfl)); have n2_ := Aside0.mk (below_step (by repeat (first | (with_reducible first | exact HB.out | apply below_alloc | apply pw_below_drewN | apply below_drew1 | refine below_set ?_ (IsS39.ge HI0.out)) | exact HB.out)) hb); have n3_ := Aside0.mk (hbox); have n4_ := Aside0.mk ((by rw [hg]; exact (keep_size (w := w) (g := g) (row := none) (by repeat (first | (with_reducible first | exact HK.out | apply KeepBut.set_ | apply keep_drewN | apply keep_drew | apply keep_alloc) | exact HK.out))) : w.heap.size ≤ gb107)); have n5_ := Aside0.mk ((Nat.le_trans HW0.out (by rw [hg]; exact (keep_size (w := w) (g := g) (row := none) (by repeat (first | (with_reducible first | exact HK.out | apply KeepBut.set_ | apply keep_drewN | apply keep_drew | apply keep_alloc) | exact HK.out))) : w.heap.size ≤ gb107) : w0.heap.size ≤ gb107)); have n6_ := Aside0.mk ((by rw [hg]; exact Nat.ne_of_lt (IsS39.lt (show IsS39 B0_ d0_ B1_ d1_ w0 _ g s0_0 s0_1 s0_2 from by repeat (first | (with_reducible first | exact HI0.out | apply IsS39.alloc | apply IsS39.drewN | apply IsS39.drew | apply IsS39.set_2) | exact HI0.out))) : g ≠ gb107)); have n7_ := Aside0.mk ((by rw [hg]; exact Nat.ne_of_gt (IsS39.lt (show IsS39 B0_ d0_ B1_ d1_ w0 _ g s0_0 s0_1 s0_2 from by repeat (first | (with_reducible first | exact HI0.out | apply IsS39.alloc | apply IsS39.drewN | apply IsS39.drew | apply IsS39.set_2) | exact HI0.out))) : gb107 ≠ g)); clear HI0; clear HK; clear HB; have HI0 := n0_; have HK := n1_; have HB := n2_; have BK107 := n3_; have GW107 := n4_; have GE107 := n5_; have NB0_107 := n6_; have NB107_0 := n7_; clear n0_ n1_ n2_ n3_ n4_ n5_ n6_ n7_; clear hb hbox hg; have hnb9 := NB107_0.out; have hnc9 := NB0_107.out; have hcz10_0 : w8.cell? ⟨gb107, 0, none⟩ = some (.int .i64 0) := (blk_cell BK107.out 0).trans rfl; have hcz10_1 : w8.cell? ⟨gb107, 1, none⟩ = some (.int .i64 0) := (blk_cell BK107.out 1).trans rfl; have hcz10_2 : w8.cell? ⟨gb107, 2, none⟩ = some (.int .i64 0) := (blk_cell BK107.out 2).trans rfl; have hfz10_0 := blk_frozen BK107.out 0; have hfz10_1 := blk_frozen BK107.out 1; have hfz10_2 := blk_frozen BK107.out 2)))))
            (try simp only [Act.put, List.setIfInBounds_toArray, List.set_cons_zero, List.set_cons_succ])
            go_cut [16] (fun v16 wc => ∃ (kq : Nat) (x16_5 : Bool), v16 = .bool x16_5 ∧ Aside0 (sim_state_first.j1 kq x3_1 x11_1 s0_0 (s0_0.length : Int) x11_1 x16_5 s0_0 s0_1 s0_2 ((rd_T32 s0_0 x11_1).f0) ((rd_T32 s0_0 x11_1).f1) ((rd_T32 s0_0 x11_1).f2) = some (r1, r2)) ∧ Aside0 (kq ≤ k1) ∧ Aside0 (wc.heap[gb107]? = some (.cells #[.int .i64 ((rd_T32 s0_0 x11_1).f0), .int .i64 ((rd_T32 s0_0 x11_1).f1), .int .i64 ((rd_T32 s0_0 x11_1).f2)] 32 (0, 0))) ∧ Aside0 (IsS39 B0_ d0_ B1_ d1_ w0 wc g s0_0 s0_1 s0_2) ∧ Aside0 (KeepBut w wc g none) ∧ Aside0 (Below w0.heap.size w0 wc))
            case first =>
              have H := HC6.out
              clear HC6
              by_cases c11 : x11_1 < (s0_1.length : Int)
              · rw [if_pos c11] at H
                have c11b0 : decide (x11_1 < (s0_1.length : Int)) = true := decide_eq_true c11
                clear c11
                (first | rw [c11b0] | (simp only [i64_w, i32_w]; rw [c11b0]) | skip)
                by_cases c12 : (rd s0_1 x11_1) = 0
                · rw [if_pos c12] at H
                  have c12b0 : ((rd s0_1 x11_1) == 0) = true := beq_iff_eq.mpr c12
                  have c12b1 : ((rd s0_1 x11_1) != 0) = false := bne_eq_false_iff_eq.mpr c12
                  clear c12
                  have H' := Aside0.mk H
                  clear H
                  obtain ⟨ASz13_0, cSz13_0, ASz13_1, cSz13_1, HGz13, hgz13, HSz13_0, HSz13_1⟩ := HI0.out
                  have hcz13_0 := cellS39_0 HGz13
                  have hcz13_1 := cellS39_1 HGz13
                  have hcz13_2 := cellS39_2 HGz13
                  have hfz13_2 := blk_frozen HGz13 2
                  clear HGz13 hgz13
                  have p108 : 0 ≤ (x11_1 : Int) := of_decide_eq_true (by first | (with_reducible assumption) | assumption)
                  have q108 : x11_1 < (s0_1.length : Int) := of_decide_eq_true (by first | (with_reducible assumption) | assumption)
                  obtain ⟨ad108, e108, hx108_0⟩ := Kd.at_int HSz13_1 x11_1 p108 q108
                  cases e108
                  have hn108_0 : ad108.block ≠ gb107 := Nat.ne_of_lt (Nat.lt_of_lt_of_le (by have := World.block_lt_of_cell? _ _ hx108_0; first | rwa [add_block] at this | exact this) (by first | exact GW107.out | exact Nat.le_trans HW0.out GW107.out))
                  have hn108_1 : ad108.block ≠ gb107 := Nat.ne_of_lt (Nat.lt_of_lt_of_le (by have := World.block_lt_of_cell? _ _ hx108_0; first | rwa [add_block] at this | exact this) (by first | exact GW107.out | exact Nat.le_trans HW0.out GW107.out))
                  have hn108_2 : ad108.block ≠ gb107 := Nat.ne_of_lt (Nat.lt_of_lt_of_le (by have := World.block_lt_of_cell? _ _ hx108_0; first | rwa [add_block] at this | exact this) (by first | exact GW107.out | exact Nat.le_trans HW0.out GW107.out))
                  replace hx108_0 := pw_cell_below HB.out hx108_0
                  replace hx108_0 := (cell_far (p := ⟨gb107, 0, none⟩) (by first | (rw [add_block]; exact hn108_0) | (show (Addr.add _ _).block ≠ _; rw [add_block]; exact hn108_0) | exact hn108_0) (.int .i64 ((rd_T32 s0_0 x11_1).f0))).trans hx108_0
                  replace hx108_0 := (cell_far (p := ⟨gb107, 1, none⟩) (by first | (rw [add_block]; exact hn108_1) | (show (Addr.add _ _).block ≠ _; rw [add_block]; exact hn108_1) | exact hn108_1) (.int .i64 ((rd_T32 s0_0 x11_1).f1))).trans hx108_0
                  replace hx108_0 := (cell_far (p := ⟨gb107, 2, none⟩) (by first | (rw [add_block]; exact hn108_2) | (show (Addr.add _ _).block ≠ _; rw [add_block]; exact hn108_2) | exact hn108_2) (.int .i64 ((rd_T32 s0_0 x11_1).f2))).trans hx108_0
                  (try have hy108_0 := fun (n_ : Nat) => (show (((((w8.drewN n_).setCell ⟨gb107, 0, none⟩ (.int .i64 ((rd_T32 s0_0 x11_1).f0))).setCell ⟨gb107, 1, none⟩ (.int .i64 ((rd_T32 s0_0 x11_1).f1))).setCell ⟨gb107, 2, none⟩ (.int .i64 ((rd_T32 s0_0 x11_1).f2)))).cell? _ = some _ from hx108_0))
                  clear hn108_0
                  clear hn108_1
                  clear hn108_2
                  replace p108 := eq_true p108
                  replace q108 := eq_true q108
                  go_wp2
                  repeat ((first | go_step3 | rw [Exit.noGoto_normal] | rw [Exit.noGoto_exit]); try (go_wp2))
                  repeat (go_quiet (fail); try go_wp2)
                  repeat ((first | go_step3 | rw [Exit.noGoto_normal] | rw [Exit.noGoto_exit]); try (go_wp2; repeat (go_quiet (fail); try go_wp2)))
                  go_meet
                  case rel => exact ⟨_, (true), (by first | rfl | (simp; done) | (simp [*]; done)), H', ⟨by have := HK1.out; first | omega | exact Nat.le_refl _⟩, ⟨by (with_reducible repeat (first | refine blk_drewN ?_ _ | refine blk_drew ?_ | refine blk_alloc ?_ _)); refine blk_put (cs := #[.int .i64 ((rd_T32 s0_0 x11_1).f0), .int .i64 ((rd_T32 s0_0 x11_1).f1), .int .i64 0]) ?_ 2 _ rfl; (with_reducible repeat (first | refine blk_drewN ?_ _ | refine blk_drew ?_ | refine blk_alloc ?_ _)); refine blk_put (cs := #[.int .i64 ((rd_T32 s0_0 x11_1).f0), .int .i64 0, .int .i64 0]) ?_ 1 _ rfl; (with_reducible repeat (first | refine blk_drewN ?_ _ | refine blk_drew ?_ | refine blk_alloc ?_ _)); refine blk_put (cs := #[.int .i64 0, .int .i64 0, .int .i64 0]) ?_ 0 _ rfl; (with_reducible repeat (first | refine blk_drewN ?_ _ | refine blk_drew ?_ | refine blk_alloc ?_ _)); exact BK107.out⟩, ⟨by repeat (first | (with_reducible first | exact HI0.out | apply IsS39.alloc | apply IsS39.drewN | apply IsS39.drew | apply IsS39.set_2 | refine IsS39.far ?_ NB0_107.out _) | exact HI0.out)⟩, ⟨by repeat (first | (with_reducible first | exact HK.out | apply KeepBut.set_ | apply keep_drewN | apply keep_drew | apply keep_alloc | refine keep_far ?_ GW107.out _) | exact HK.out)⟩, ⟨by repeat (first | (with_reducible first | exact HB.out | apply below_alloc | apply pw_below_drewN | apply below_drew1 | refine below_set ?_ (IsS39.ge HI0.out) | refine below_set ?_ GE107.out) | exact HB.out)⟩⟩
                · rw [if_neg c12] at H
                  have c12b0 : ((rd s0_1 x11_1) == 0) = false := beq_eq_false_iff_ne.mpr c12
                  have c12b1 : ((rd s0_1 x11_1) != 0) = true := bne_iff_ne.mpr c12
                  have H' := Aside0.mk H
                  clear H
                  obtain ⟨ASz14_0, cSz14_0, ASz14_1, cSz14_1, HGz14, hgz14, HSz14_0, HSz14_1⟩ := HI0.out
                  have hcz14_0 := cellS39_0 HGz14
                  have hcz14_1 := cellS39_1 HGz14
                  have hcz14_2 := cellS39_2 HGz14
                  have hfz14_2 := blk_frozen HGz14 2
                  clear HGz14 hgz14
                  have p108 : 0 ≤ (x11_1 : Int) := of_decide_eq_true (by first | (with_reducible assumption) | assumption)
                  have q108 : x11_1 < (s0_1.length : Int) := of_decide_eq_true (by first | (with_reducible assumption) | assumption)
                  obtain ⟨ad108, e108, hx108_0⟩ := Kd.at_int HSz14_1 x11_1 p108 q108
                  cases e108
                  have hn108_0 : ad108.block ≠ gb107 := Nat.ne_of_lt (Nat.lt_of_lt_of_le (by have := World.block_lt_of_cell? _ _ hx108_0; first | rwa [add_block] at this | exact this) (by first | exact GW107.out | exact Nat.le_trans HW0.out GW107.out))
                  have hn108_1 : ad108.block ≠ gb107 := Nat.ne_of_lt (Nat.lt_of_lt_of_le (by have := World.block_lt_of_cell? _ _ hx108_0; first | rwa [add_block] at this | exact this) (by first | exact GW107.out | exact Nat.le_trans HW0.out GW107.out))
                  have hn108_2 : ad108.block ≠ gb107 := Nat.ne_of_lt (Nat.lt_of_lt_of_le (by have := World.block_lt_of_cell? _ _ hx108_0; first | rwa [add_block] at this | exact this) (by first | exact GW107.out | exact Nat.le_trans HW0.out GW107.out))
                  replace hx108_0 := pw_cell_below HB.out hx108_0
                  replace hx108_0 := (cell_far (p := ⟨gb107, 0, none⟩) (by first | (rw [add_block]; exact hn108_0) | (show (Addr.add _ _).block ≠ _; rw [add_block]; exact hn108_0) | exact hn108_0) (.int .i64 ((rd_T32 s0_0 x11_1).f0))).trans hx108_0
                  replace hx108_0 := (cell_far (p := ⟨gb107, 1, none⟩) (by first | (rw [add_block]; exact hn108_1) | (show (Addr.add _ _).block ≠ _; rw [add_block]; exact hn108_1) | exact hn108_1) (.int .i64 ((rd_T32 s0_0 x11_1).f1))).trans hx108_0
                  replace hx108_0 := (cell_far (p := ⟨gb107, 2, none⟩) (by first | (rw [add_block]; exact hn108_2) | (show (Addr.add _ _).block ≠ _; rw [add_block]; exact hn108_2) | exact hn108_2) (.int .i64 ((rd_T32 s0_0 x11_1).f2))).trans hx108_0
                  (try have hy108_0 := fun (n_ : Nat) => (show (((((w8.drewN n_).setCell ⟨gb107, 0, none⟩ (.int .i64 ((rd_T32 s0_0 x11_1).f0))).setCell ⟨gb107, 1, none⟩ (.int .i64 ((rd_T32 s0_0 x11_1).f1))).setCell ⟨gb107, 2, none⟩ (.int .i64 ((rd_T32 s0_0 x11_1).f2)))).cell? _ = some _ from hx108_0))
                  clear hn108_0
                  clear hn108_1
                  clear hn108_2
                  replace p108 := eq_true p108
                  replace q108 := eq_true q108
                  have hnb15 := NB107_0.out
                  have hnc15 := NB0_107.out
                  have hcz16_0 : w8.cell? ⟨gb107, 0, none⟩ = some (.int .i64 0) := (blk_cell BK107.out 0).trans rfl
                  have hcz16_1 : w8.cell? ⟨gb107, 1, none⟩ = some (.int .i64 0) := (blk_cell BK107.out 1).trans rfl
                  have hcz16_2 : w8.cell? ⟨gb107, 2, none⟩ = some (.int .i64 0) := (blk_cell BK107.out 2).trans rfl
                  have hfz16_0 := blk_frozen BK107.out 0
                  have hfz16_1 := blk_frozen BK107.out 1
                  have hfz16_2 := blk_frozen BK107.out 2
                  go_wp2
                  repeat ((first | go_step3 | rw [Exit.noGoto_normal] | rw [Exit.noGoto_exit]); try (go_wp2))
                  repeat (go_quiet (fail); try go_wp2)
                  repeat ((first | go_step3 | rw [Exit.noGoto_normal] | rw [Exit.noGoto_exit]); try (go_wp2; repeat (go_quiet (fail); try go_wp2)))
                  go_meet
                  case rel => exact ⟨_, (decide (((rd_T32 s0_0 x11_1).f0) > s0_2)), (by first | rfl | (simp; done) | (simp [*]; done)), H', ⟨by have := HK1.out; first | omega | exact Nat.le_refl _⟩, ⟨by (with_reducible repeat (first | refine blk_drewN ?_ _ | refine blk_drew ?_ | refine blk_alloc ?_ _)); refine blk_put (cs := #[.int .i64 ((rd_T32 s0_0 x11_1).f0), .int .i64 ((rd_T32 s0_0 x11_1).f1), .int .i64 0]) ?_ 2 _ rfl; (with_reducible repeat (first | refine blk_drewN ?_ _ | refine blk_drew ?_ | refine blk_alloc ?_ _)); refine blk_put (cs := #[.int .i64 ((rd_T32 s0_0 x11_1).f0), .int .i64 0, .int .i64 0]) ?_ 1 _ rfl; (with_reducible repeat (first | refine blk_drewN ?_ _ | refine blk_drew ?_ | refine blk_alloc ?_ _)); refine blk_put (cs := #[.int .i64 0, .int .i64 0, .int .i64 0]) ?_ 0 _ rfl; (with_reducible repeat (first | refine blk_drewN ?_ _ | refine blk_drew ?_ | refine blk_alloc ?_ _)); exact BK107.out⟩, ⟨by repeat (first | (with_reducible first | exact HI0.out | apply IsS39.alloc | apply IsS39.drewN | apply IsS39.drew | apply IsS39.set_2 | refine IsS39.far ?_ NB0_107.out _) | exact HI0.out)⟩, ⟨by repeat (first | (with_reducible first | exact HK.out | apply KeepBut.set_ | apply keep_drewN | apply keep_drew | apply keep_alloc | refine keep_far ?_ GW107.out _) | exact HK.out)⟩, ⟨by repeat (first | (with_reducible first | exact HB.out | apply below_alloc | apply pw_below_drewN | apply below_drew1 | refine below_set ?_ (IsS39.ge HI0.out) | refine below_set ?_ GE107.out) | exact HB.out)⟩⟩
              · rw [if_neg c11] at H
                exact absurd H (by simp)
            case rest =>
              clear HC6
              try clear c1
              try clear p1
              try clear q1
              try clear hx1
              try clear c2
              try clear p2
              try clear c3
              try clear c3b0
              try clear c4
              try clear c4b0
              try clear c5
              try clear c5b0
              try clear c9
              try clear p10
              try clear q10
              try clear hx10
              try clear c11
              try clear c11b0
              try clear c12
              try clear c12b0
              try clear c12b1
              try clear c15
              try clear hcz10_0
              try clear hcz10_1
              try clear hcz10_2
              try clear hcz13_0
              try clear hcz13_1
              try clear hcz13_2
              try clear hcz14_0
              try clear hcz14_1
              try clear hcz14_2
              try clear hcz16_0
              try clear hcz16_1
              try clear hcz16_2
              try clear hcz2_0
              try clear hcz2_1
              try clear hcz2_2
              try clear hcz7_0
              try clear hcz7_1
              try clear hcz7_2
              try clear hfz10_0
              try clear hfz10_1
              try clear hfz10_2
              try clear hfz13_2
              try clear hfz14_2
              try clear hfz16_0
              try clear hfz16_1
              try clear hfz16_2
              try clear hfz2_2
              try clear hfz7_2
              try clear hx106_0
              try clear hx106_1
              try clear hx106_2
              try clear hx108_0
              try clear p106
              try clear p108
              try clear p2
              try clear q106
              try clear q108
              obtain ⟨kq, x16_5, rfl, HA, HJ5, BK107, HI0, HK, HB⟩ := hcut
              cases kq with
              | zero => exact absurd HA.out (by simp [sim_state_first.j1])
              | succ kj5 =>
                have H := HA.out
                clear HA
                simp only [sim_state_first.j1] at H
                by_cases c17 : x16_5 = true
                · subst c17
                  have H1 : (sim_state_first.l0 kj5 x3_1 s0_0 (s0_0.length : Int) (wrap64 (x11_1 + 1)) s0_0 s0_1 s0_2) = some (r1, r2) := by rw [if_pos rfl] at H; exact H
                  clear H
                  have H := H1
                  clear H1
                  have H' := Aside0.mk H
                  clear H
                  go_wp2
                  repeat ((first | go_step3 | rw [Exit.noGoto_normal] | rw [Exit.noGoto_exit]); try (go_wp2))
                  repeat (go_quiet (fail); try go_wp2)
                  repeat ((first | go_step3 | rw [Exit.noGoto_normal] | rw [Exit.noGoto_exit]); try (go_wp2; repeat (go_quiet (fail); try go_wp2)))
                  go_roundg kj5
                  case measure => have := HK1.out; have := HJ5.out; omega
                  case rel => exact ⟨(x3_1), (wrap64 (x11_1 + 1)), (by first | rfl | (simp; done) | (simp [*]; done)), (by first | rfl | (simp; done) | (simp [*]; done)), H', ⟨by have := HK1.out; have := HJ5.out; omega⟩, ⟨by repeat (first | (with_reducible first | exact HI0.out | apply IsS39.alloc | apply IsS39.drewN | apply IsS39.drew | apply IsS39.set_2 | refine IsS39.far ?_ NB0_107.out _) | exact HI0.out)⟩, ⟨by repeat (first | (with_reducible first | exact HK.out | apply KeepBut.set_ | apply keep_drewN | apply keep_drew | apply keep_alloc | refine keep_far ?_ GW107.out _) | exact HK.out)⟩, ⟨by repeat (first | (with_reducible first | exact HB.out | apply below_alloc | apply pw_below_drewN | apply below_drew1 | refine below_set ?_ (IsS39.ge HI0.out) | refine below_set ?_ GE107.out) | exact HB.out)⟩⟩
                · replace c17 := Bool.eq_false_iff.mpr c17
                  subst c17
                  have H1 : (if x3_1 < 0 then (sim_state_first.l0 kj5 x11_1 s0_0 (s0_0.length : Int) (wrap64 (x11_1 + 1)) s0_0 s0_1 s0_2) else (if 0 ≤ x3_1 then (if x3_1 < (s0_0.length : Int) then (if ((rd_T32 s0_0 x11_1).f1) < ((rd_T32 s0_0 x3_1).f1) then (sim_state_first.l0 kj5 x11_1 s0_0 (s0_0.length : Int) (wrap64 (x11_1 + 1)) s0_0 s0_1 s0_2) else (sim_state_first.l0 kj5 x3_1 s0_0 (s0_0.length : Int) (wrap64 (x11_1 + 1)) s0_0 s0_1 s0_2)) else (none)) else (none))) = some (r1, r2) := by rw [if_neg (show ¬ (false = true) by decide)] at H; exact H
                  clear H
                  have H := H1
                  clear H1
                  by_cases c18 : x3_1 < 0
                  · rw [if_pos c18] at H
                    have c18b0 : decide (x3_1 < 0) = true := decide_eq_true c18
                    clear c18
                    have H' := Aside0.mk H
                    clear H
                    go_wp2
                    repeat ((first | go_step3 | rw [Exit.noGoto_normal] | rw [Exit.noGoto_exit]); try (go_wp2))
                    repeat (go_quiet (fail); try go_wp2)
                    repeat ((first | go_step3 | rw [Exit.noGoto_normal] | rw [Exit.noGoto_exit]); try (go_wp2; repeat (go_quiet (fail); try go_wp2)))
                    go_roundg kj5
                    case measure => have := HK1.out; have := HJ5.out; omega
                    case rel => exact ⟨(x11_1), (wrap64 (x11_1 + 1)), (by first | rfl | (simp; done) | (simp [*]; done)), (by first | rfl | (simp; done) | (simp [*]; done)), H', ⟨by have := HK1.out; have := HJ5.out; omega⟩, ⟨by repeat (first | (with_reducible first | exact HI0.out | apply IsS39.alloc | apply IsS39.drewN | apply IsS39.drew | apply IsS39.set_2 | refine IsS39.far ?_ NB0_107.out _) | exact HI0.out)⟩, ⟨by repeat (first | (with_reducible first | exact HK.out | apply KeepBut.set_ | apply keep_drewN | apply keep_drew | apply keep_alloc | refine keep_far ?_ GW107.out _) | exact HK.out)⟩, ⟨by repeat (first | (with_reducible first | exact HB.out | apply below_alloc | apply pw_below_drewN | apply below_drew1 | refine below_set ?_ (IsS39.ge HI0.out) | refine below_set ?_ GE107.out) | exact HB.out)⟩⟩
                  · rw [if_neg c18] at H
                    have c18b0 : decide (x3_1 < 0) = false := decide_eq_false c18
                    clear c18
                    by_cases c19 : 0 ≤ x3_1
                    · rw [if_pos c19] at H
                      have c19b0 : decide (0 ≤ x3_1) = true := decide_eq_true c19
                      clear c19
                      by_cases c20 : x3_1 < (s0_0.length : Int)
                      · rw [if_pos c20] at H
                        have c20b0 : decide (x3_1 < (s0_0.length : Int)) = true := decide_eq_true c20
                        clear c20
                        by_cases c21 : ((rd_T32 s0_0 x11_1).f1) < ((rd_T32 s0_0 x3_1).f1)
                        · rw [if_pos c21] at H
                          have c21b0 : decide (((rd_T32 s0_0 x11_1).f1) < ((rd_T32 s0_0 x3_1).f1)) = true := decide_eq_true c21
                          clear c21
                          have H' := Aside0.mk H
                          clear H
                          have hnb22 := NB107_0.out
                          have hnc22 := NB0_107.out
                          have hcz23_0 : wc.cell? ⟨gb107, 0, none⟩ = some (.int .i64 ((rd_T32 s0_0 x11_1).f0)) := (blk_cell BK107.out 0).trans rfl
                          have hcz23_1 : wc.cell? ⟨gb107, 1, none⟩ = some (.int .i64 ((rd_T32 s0_0 x11_1).f1)) := (blk_cell BK107.out 1).trans rfl
                          have hcz23_2 : wc.cell? ⟨gb107, 2, none⟩ = some (.int .i64 ((rd_T32 s0_0 x11_1).f2)) := (blk_cell BK107.out 2).trans rfl
                          have hfz23_0 := blk_frozen BK107.out 0
                          have hfz23_1 := blk_frozen BK107.out 1
                          have hfz23_2 := blk_frozen BK107.out 2
                          obtain ⟨ASz24_0, cSz24_0, ASz24_1, cSz24_1, HGz24, hgz24, HSz24_0, HSz24_1⟩ := HI0.out
                          have hcz24_0 := cellS39_0 HGz24
                          have hcz24_1 := cellS39_1 HGz24
                          have hcz24_2 := cellS39_2 HGz24
                          have hfz24_2 := blk_frozen HGz24 2
                          clear HGz24 hgz24
                          have p109 : 0 ≤ (x3_1 : Int) := of_decide_eq_true (by first | (with_reducible assumption) | assumption)
                          have q109 : x3_1 < (s0_0.length : Int) := of_decide_eq_true (by first | (with_reducible assumption) | assumption)
                          obtain ⟨ad109, e109, hx109_0, hx109_1, hx109_2⟩ := at_T32 HSz24_0 x3_1 p109 q109
                          cases e109
                          replace hx109_0 := pw_cell_below HB.out hx109_0
                          replace hx109_1 := pw_cell_below HB.out hx109_1
                          replace hx109_2 := pw_cell_below HB.out hx109_2
                          replace p109 := eq_true p109
                          replace q109 := eq_true q109
                          go_wp2
                          repeat ((first | go_step3 | rw [Exit.noGoto_normal] | rw [Exit.noGoto_exit]); try (go_wp2))
                          repeat (go_quiet (fail); try go_wp2)
                          repeat ((first | go_step3 | rw [Exit.noGoto_normal] | rw [Exit.noGoto_exit]); try (go_wp2; repeat (go_quiet (fail); try go_wp2)))
                          go_roundg kj5
                          case measure => have := HK1.out; have := HJ5.out; omega
                          case rel => exact ⟨(x11_1), (wrap64 (x11_1 + 1)), (by first | rfl | (simp; done) | (simp [*]; done)), (by first | rfl | (simp; done) | (simp [*]; done)), H', ⟨by have := HK1.out; have := HJ5.out; omega⟩, ⟨by repeat (first | (with_reducible first | exact HI0.out | apply IsS39.alloc | apply IsS39.drewN | apply IsS39.drew | apply IsS39.set_2 | refine IsS39.far ?_ NB0_107.out _) | exact HI0.out)⟩, ⟨by repeat (first | (with_reducible first | exact HK.out | apply KeepBut.set_ | apply keep_drewN | apply keep_drew | apply keep_alloc | refine keep_far ?_ GW107.out _) | exact HK.out)⟩, ⟨by repeat (first | (with_reducible first | exact HB.out | apply below_alloc | apply pw_below_drewN | apply below_drew1 | refine below_set ?_ (IsS39.ge HI0.out) | refine below_set ?_ GE107.out) | exact HB.out)⟩⟩
                        · rw [if_neg c21] at H
                          have c21b0 : decide (((rd_T32 s0_0 x11_1).f1) < ((rd_T32 s0_0 x3_1).f1)) = false := decide_eq_false c21
                          clear c21
                          have H' := Aside0.mk H
                          clear H
                          have hnb25 := NB107_0.out
                          have hnc25 := NB0_107.out
                          have hcz26_0 : wc.cell? ⟨gb107, 0, none⟩ = some (.int .i64 ((rd_T32 s0_0 x11_1).f0)) := (blk_cell BK107.out 0).trans rfl
                          have hcz26_1 : wc.cell? ⟨gb107, 1, none⟩ = some (.int .i64 ((rd_T32 s0_0 x11_1).f1)) := (blk_cell BK107.out 1).trans rfl
                          have hcz26_2 : wc.cell? ⟨gb107, 2, none⟩ = some (.int .i64 ((rd_T32 s0_0 x11_1).f2)) := (blk_cell BK107.out 2).trans rfl
                          have hfz26_0 := blk_frozen BK107.out 0
                          have hfz26_1 := blk_frozen BK107.out 1
                          have hfz26_2 := blk_frozen BK107.out 2
                          obtain ⟨ASz27_0, cSz27_0, ASz27_1, cSz27_1, HGz27, hgz27, HSz27_0, HSz27_1⟩ := HI0.out
                          have hcz27_0 := cellS39_0 HGz27
                          have hcz27_1 := cellS39_1 HGz27
                          have hcz27_2 := cellS39_2 HGz27
                          have hfz27_2 := blk_frozen HGz27 2
                          clear HGz27 hgz27
                          have p109 : 0 ≤ (x3_1 : Int) := of_decide_eq_true (by first | (with_reducible assumption) | assumption)
                          have q109 : x3_1 < (s0_0.length : Int) := of_decide_eq_true (by first | (with_reducible assumption) | assumption)
                          obtain ⟨ad109, e109, hx109_0, hx109_1, hx109_2⟩ := at_T32 HSz27_0 x3_1 p109 q109
                          cases e109
                          replace hx109_0 := pw_cell_below HB.out hx109_0
                          replace hx109_1 := pw_cell_below HB.out hx109_1
                          replace hx109_2 := pw_cell_below HB.out hx109_2
                          replace p109 := eq_true p109
                          replace q109 := eq_true q109
                          go_wp2
                          repeat ((first | go_step3 | rw [Exit.noGoto_normal] | rw [Exit.noGoto_exit]); try (go_wp2))
                          repeat (go_quiet (fail); try go_wp2)
                          repeat ((first | go_step3 | rw [Exit.noGoto_normal] | rw [Exit.noGoto_exit]); try (go_wp2; repeat (go_quiet (fail); try go_wp2)))
                          go_roundg kj5
                          case measure => have := HK1.out; have := HJ5.out; omega
                          case rel => exact ⟨(x3_1), (wrap64 (x11_1 + 1)), (by first | rfl | (simp; done) | (simp [*]; done)), (by first | rfl | (simp; done) | (simp [*]; done)), H', ⟨by have := HK1.out; have := HJ5.out; omega⟩, ⟨by repeat (first | (with_reducible first | exact HI0.out | apply IsS39.alloc | apply IsS39.drewN | apply IsS39.drew | apply IsS39.set_2 | refine IsS39.far ?_ NB0_107.out _) | exact HI0.out)⟩, ⟨by repeat (first | (with_reducible first | exact HK.out | apply KeepBut.set_ | apply keep_drewN | apply keep_drew | apply keep_alloc | refine keep_far ?_ GW107.out _) | exact HK.out)⟩, ⟨by repeat (first | (with_reducible first | exact HB.out | apply below_alloc | apply pw_below_drewN | apply below_drew1 | refine below_set ?_ (IsS39.ge HI0.out) | refine below_set ?_ GE107.out) | exact HB.out)⟩⟩
                      · rw [if_neg c20] at H
                        exact absurd H (by simp)
                    · rw [if_neg c19] at H
                      exact absurd H (by simp)
          · rw [if_neg c5] at H
            exact absurd H (by simp)
        · rw [if_neg c4] at H
          exact absurd H (by simp)
      · rw [if_neg c3] at H
        have c3b0 : decide (x11_1 < (s0_0.length : Int)) = false := decide_eq_false c3
        clear c3
        simp only [Option.some.injEq, Prod.mk.injEq] at H
        obtain ⟨rfl, rfl⟩ := H
        go_wp2
        repeat ((first | go_step3 | rw [Exit.noGoto_normal] | rw [Exit.noGoto_exit]); try (go_wp2))
        repeat (go_quiet (fail); try go_wp2)
        repeat ((first | go_step3 | rw [Exit.noGoto_normal] | rw [Exit.noGoto_exit]); try (go_wp2; repeat (go_quiet (fail); try go_wp2)))
        try rw [Exit.noGoto_ret]
        go_ret
        exact ⟨by first | rfl | (simp [errW_none, errW_some] <;> rfl) | (simp [*, errW_none, errW_some] <;> rfl), by repeat (first | (with_reducible first | exact HI0.out | apply IsS39.alloc | apply IsS39.drewN | apply IsS39.drew | apply IsS39.set_2) | exact HI0.out), by repeat (first | (with_reducible first | exact HB.out | apply below_alloc | apply pw_below_drewN | apply below_drew1 | refine below_set ?_ (IsS39.ge HI0.out)) | exact HB.out), by repeat (first | (with_reducible first | exact HK.out | apply KeepBut.set_ | apply keep_drewN | apply keep_drew | apply keep_alloc) | exact HK.out)⟩

end Go.Proofs.Ytanakihfgdgdfaa.F
