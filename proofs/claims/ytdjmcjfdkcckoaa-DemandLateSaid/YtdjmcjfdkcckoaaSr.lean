/- When each work is done, who is late, what must be done, and whether it fits: the program's answers. -/
import Derived.Test.YtdjmcjfdkcckoaaSm
import Derived.Test.YtdjmcjfdkcckoaaG5
namespace Go.Proofs.Ytdjmcjfdkcckoaa.Sm
open Go.RowKit Go.Proofs.Ytdjmcjfdkcckoaa.F Go.Proofs.Ytdjmcjfdkcckoaa.Edf Go.Proofs.YtdjmcjfdkcckoaaW.PrintWords Go.Proofs.YtdjmcjfdkcckoaaW.PrintLast
set_option linter.unusedVariables false
/-- the first i values of a function, else another one's -/
def upto (f g : Nat → Int) (i j : Nat) : Int := if j < i then f j else g j
theorem upto_set (n : Nat) (f g : Nat → Int) (i : Nat) : (lst n (upto f g i)).set i (f i) = lst n (upto f g (i + 1)) := by
  rw [lst_set]
  refine lst_congr fun j _ => ?_
  unfold upto
  by_cases e : j = i
  · subst e; rw [if_pos rfl, if_pos (by omega)]
  · rw [if_neg e]
    by_cases h : j < i
    · rw [if_pos h, if_pos (by omega)]
    · rw [if_neg h, if_neg (by omega)]
theorem upto_all (n : Nat) (f g : Nat → Int) : lst n (upto f g n) = lst n f := lst_congr fun j hj => by unfold upto; rw [if_pos hj]
theorem upto_none (n : Nat) (f g : Nat → Int) : lst n (upto f g 0) = lst n g := lst_congr fun j hj => by unfold upto; rw [if_neg (by omega)]
theorem fill_loop {l : List S31} (h : RightW l) (d : Nat) : ∀ (i k : Nat), i + d = l.length → 600000 + d < k →
    sim_Run.l0 k l (lst l.length (upto (cy l) (fun _ => 0) i)) (lst l.length (upto (rl l) (fun _ => 0) i)) i = some (doneL l) := by
  have few := h.few
  induction d with
  | zero =>
    intro i k hi hk
    obtain ⟨k, rfl⟩ : ∃ q, k = q + 1 := ⟨k - 1, by omega⟩
    obtain rfl : i = l.length := by omega
    simp only [sim_Run.l0]
    rw [if_neg (by omega), upto_all, upto_all]
    exact run_events h 540672 0 k (by omega) (by omega) (by omega)
  | succ d ih =>
    intro i k hi hk
    obtain ⟨k, rfl⟩ : ∃ q, k = q + 1 := ⟨k - 1, by omega⟩
    simp only [sim_Run.l0]
    have e1 : (rd_T31 l i).f0 = rl l i := rfl
    have e2 : (rd_T31 l i).f2 = cy l i := rfl
    rw [if_pos (by omega), if_pos (by omega), Int.toNat_natCast, e1, e2, upto_set, upto_set, w64 (n := (i : Int) + 1) (by omega) (by omega)]
    have := ih (i + 1) k (by omega) (by omega)
    rwa [show ((i + 1 : Nat) : Int) = (i : Int) + 1 from by omega] at this
noncomputable def runL (l : List S31) : List Int := if rightB l = true then doneL l else []
theorem runL_yes {l : List S31} (h : RightW l) : runL l = doneL l := by unfold runL; rw [if_pos (rightB_yes h)]
theorem runL_no {l : List S31} (h : ¬ RightW l) : runL l = [] := by unfold runL; rw [if_neg (by rw [rightB_no h]; simp)]
theorem runL_len {l : List S31} (h : RightW l) : (runL l).length = l.length := by rw [runL_yes h, doneL_len]
theorem run_some (l : List S31) {k : Nat} (hk : 700000 < k) : sim_Run.f k l = some (runL l) := by
  unfold sim_Run.f
  rw [right_some l (by omega), Option.bind_some]
  by_cases c : RightW l
  · have few := c.few
    rw [if_pos (rightB_yes c), if_pos (by omega), runL_yes c, lst_zero]
    have := fill_loop c l.length 0 k (by omega) (by omega)
    rw [upto_none, upto_none] at this
    exact this
  · rw [if_neg (by rw [rightB_no c]; simp), runL_no c]
/-! ### who is late -/
def LateL (l : List S31) : Prop := ¬ RightW l ∨ LateP l.length (rl l) (dl l) (cy l)
open Classical in
noncomputable def lateB (l : List S31) : Bool := decide (LateL l)
theorem lateB_no {l : List S31} (h : ¬ LateL l) : lateB l = false := by simp [lateB, h]
theorem lateB_yes {l : List S31} (h : LateL l) : lateB l = true := by simp [lateB, h]
theorem late_loop {l : List S31} (h : RightW l) (d : Nat) : ∀ (i k : Nat), i + d = l.length → d < k → (∀ j, j < i → when l.length (rl l) (dl l) (cy l) j ≤ dl l j) →
    sim_Late.l0 k l (doneL l) (doneL l).length i = some (lateB l) := by
  have few := h.few
  rw [doneL_len]
  induction d with
  | zero =>
    intro i k hi hk hj
    obtain ⟨k, rfl⟩ : ∃ q, k = q + 1 := ⟨k - 1, by omega⟩
    simp only [sim_Late.l0]
    rw [if_neg (by omega), lateB_no]
    rintro (x | ⟨j, h1, h2⟩)
    · exact x h
    · have := hj j (by omega); omega
  | succ d ih =>
    intro i k hi hk hj
    obtain ⟨k, rfl⟩ : ∃ q, k = q + 1 := ⟨k - 1, by omega⟩
    have hil : i < l.length := by omega
    simp only [sim_Late.l0]
    rw [if_pos (by omega), if_pos (by omega), if_pos (by rw [doneL_len]; omega), if_pos (by omega), doneL_rd l hil, show (rd_T31 l i).f1 = dl l i from rfl]
    by_cases c : when l.length (rl l) (dl l) (cy l) i > dl l i
    · rw [if_pos c, lateB_yes (.inr ⟨i, hil, c⟩)]
    · rw [if_neg c, w64 (n := (i : Int) + 1) (by omega) (by omega)]
      have := ih (i + 1) k (by omega) (by omega) (fun j hjl => by
        rcases Nat.lt_or_ge j i with x | x
        · exact hj j x
        · obtain rfl : j = i := by omega
          omega)
      rwa [show ((i + 1 : Nat) : Int) = (i : Int) + 1 from by omega] at this
theorem late_some (l : List S31) {k : Nat} (hk : 700000 < k) : sim_Late.f k l = some (lateB l) := by
  unfold sim_Late.f
  rw [right_some l (by omega), Option.bind_some]
  by_cases c : RightW l
  · rw [if_pos (rightB_yes c), run_some l hk, Option.bind_some, runL_yes c]
    exact late_loop c l.length 0 k (by omega) (by have := c.few; omega) (fun j h => by omega)
  · rw [if_neg (by rw [rightB_no c]; simp), lateB_yes (.inl c)]
/-! ### what must be done -/
open Classical in
theorem of_succ {n : Nat} {P : Nat → Prop} {f : Nat → Int} : of (n + 1) P f = of n P f + if P n then f n else 0 := rfl
open Classical in
theorem dem_bd {l : List S31} (h : RightW l) (a b : Int) {n : Nat} (hn : n ≤ l.length) : 0 ≤ of n (fun i => a ≤ rl l i ∧ dl l i ≤ b) (cy l) ∧ of n (fun i => a ≤ rl l i ∧ dl l i ≤ b) (cy l) ≤ n * 16384 := by
  induction n with
  | zero => simp [of, sm]
  | succ n ih =>
    have ih := ih (by omega)
    have t : 0 ≤ (if a ≤ rl l n ∧ dl l n ≤ b then cy l n else 0) ∧ (if a ≤ rl l n ∧ dl l n ≤ b then cy l n else 0) ≤ 16384 := by
      have := h.cyc n (by omega); split <;> omega
    rw [of_succ]
    omega
noncomputable def demL (l : List S31) (a b : Int) : Int := if rightB l = true then dem l.length (rl l) (dl l) (cy l) a b else 0
theorem demL_yes {l : List S31} (h : RightW l) (a b : Int) : demL l a b = dem l.length (rl l) (dl l) (cy l) a b := by unfold demL; rw [if_pos (rightB_yes h)]
theorem demL_no {l : List S31} (h : ¬ RightW l) (a b : Int) : demL l a b = 0 := by unfold demL; rw [if_neg (by rw [rightB_no h]; simp)]
/-! ### whether it fits -/
def FitsL (l : List S31) : Prop := RightW l ∧ FitsP l.length (rl l) (dl l) (cy l)
open Classical in
noncomputable def fitsB (l : List S31) : Bool := decide (FitsL l)
theorem fitsB_no {l : List S31} (h : ¬ FitsL l) : fitsB l = false := by simp [fitsB, h]
theorem fitsB_yes {l : List S31} (h : FitsL l) : fitsB l = true := by simp [fitsB, h]
/-- the criterion, of lists -/
theorem fits_late_iff (l : List S31) : FitsL l ↔ ¬ LateL l := by
  constructor
  · rintro ⟨h, hf⟩ (x | x)
    · exact x h
    · exact fits_late h hf x
  · intro hl
    have h : RightW l := Classical.byContradiction fun x => hl (.inl x)
    exact ⟨h, late_fits h (fun x => hl (.inr x))⟩
theorem fits_not_late (l : List S31) : fitsB l = !lateB l := by
  by_cases c : LateL l
  · rw [lateB_yes c, fitsB_no (fun x => (fits_late_iff l).1 x c)]; rfl
  · rw [lateB_no c, fitsB_yes ((fits_late_iff l).2 c)]; rfl
end Go.Proofs.Ytdjmcjfdkcckoaa.Sm
