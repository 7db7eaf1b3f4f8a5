/- When each work is done, who is late, what must be done, and whether it fits: the program's answers. -/
import Derived.Test.YtanakihfgdgdfaaSm
import Derived.Test.YtanakihfgdgdfaaFx6
import Derived.Test.YtanakihfgdgdfaaFx7
import Derived.Test.YtanakihfgdgdfaaFx8
namespace Go.Proofs.Ytanakihfgdgdfaa.Sm
open Go.RowKit Go.Proofs.Ytanakihfgdgdfaa.F Go.Proofs.Ytanakihfgdgdfaa.Edf Go.Proofs.YtanakihfgdgdfaaW.PrintWords Go.Proofs.YtanakihfgdgdfaaW.PrintLast
set_option linter.unusedVariables false
/-- the first i values of a function, else another one's -/
def upto (f g : Nat → Int) (i j : Nat) : Int := if j < i then f j else g j
theorem upto_set (n : Nat) (f g : Nat → Int) (i : Nat) : (lst n (upto f g i)).set i (f i) = lst n (upto f g (i + 1)) := by
  rw [lst_set]
  refine lst_congr fun j _ => ?_
  unfold upto
  by_cases e : j = i
  · subst e; rw [if_pos rfl, if_pos (by omega)]
  · rw [if_neg e]
    by_cases h : j < i
    · rw [if_pos h, if_pos (by omega)]
    · rw [if_neg h, if_neg (by omega)]
theorem upto_all (n : Nat) (f g : Nat → Int) : lst n (upto f g n) = lst n f := lst_congr fun j hj => by unfold upto; rw [if_pos hj]
theorem upto_none (n : Nat) (f g : Nat → Int) : lst n (upto f g 0) = lst n g := lst_congr fun j hj => by unfold upto; rw [if_neg (by omega)]
theorem fill_loop {l : List S32} (h : RightW l) (d : Nat) : ∀ (i k : Nat), i + d = l.length → 600000 + d < k →
    sim_Run.l0 k l (lst l.length (upto (cy l) (fun _ => 0) i)) (lst l.length (upto (rl l) (fun _ => 0) i)) i = some (doneL l) := by
  have few := h.few
  induction d with
  | zero =>
    intro i k hi hk
    obtain ⟨k, rfl⟩ : ∃ q, k = q + 1 := ⟨k - 1, by omega⟩
    obtain rfl : i = l.length := by omega
    simp only [sim_Run.l0]
    rw [if_neg (by omega), upto_all, upto_all]
    exact run_events h 540672 0 k (by omega) (by omega) (by omega)
  | succ d ih =>
    intro i k hi hk
    obtain ⟨k, rfl⟩ : ∃ q, k = q + 1 := ⟨k - 1, by omega⟩
    simp only [sim_Run.l0]
    have e1 : (rd_T32 l i).f0 = rl l i := rfl
    have e2 : (rd_T32 l i).f2 = cy l i := rfl
    rw [if_pos (by omega), if_pos (by omega), Int.toNat_natCast, e1, e2, upto_set, upto_set, w64 (n := (i : Int) + 1) (by omega) (by omega)]
    have := ih (i + 1) k (by omega) (by omega)
    rwa [show ((i + 1 : Nat) : Int) = (i : Int) + 1 from by omega] at this
noncomputable def runL (l : List S32) : List Int := if rightB l = true then doneL l else []
theorem runL_yes {l : List S32} (h : RightW l) : runL l = doneL l := by unfold runL; rw [if_pos (rightB_yes h)]
theorem runL_no {l : List S32} (h : ¬ RightW l) : runL l = [] := by unfold runL; rw [if_neg (by rw [rightB_no h]; simp)]
theorem runL_len {l : List S32} (h : RightW l) : (runL l).length = l.length := by rw [runL_yes h, doneL_len]
theorem run_some (l : List S32) {k : Nat} (hk : 700000 < k) : sim_Run.f k l = some (runL l) := by
  unfold sim_Run.f
  rw [right_some l (by omega), Option.bind_some]
  by_cases c : RightW l
  · have few := c.few
    rw [if_pos (rightB_yes c), if_pos (by omega), runL_yes c, lst_zero]
    have := fill_loop c l.length 0 k (by omega) (by omega)
    rw [upto_none, upto_none] at this
    exact this
  · rw [if_neg (by rw [rightB_no c]; simp), runL_no c]
/-! ### who is late -/
def LateL (l : List S32) : Prop := ¬ RightW l ∨ LateP l.length (rl l) (dl l) (cy l)
open Classical in
noncomputable def lateB (l : List S32) : Bool := decide (LateL l)
theorem lateB_no {l : List S32} (h : ¬ LateL l) : lateB l = false := by simp [lateB, h]
theorem lateB_yes {l : List S32} (h : LateL l) : lateB l = true := by simp [lateB, h]
theorem late_loop {l : List S32} (h : RightW l) (d : Nat) : ∀ (i k : Nat), i + d = l.length → d < k → (∀ j, j < i → when l.length (rl l) (dl l) (cy l) j ≤ dl l j) →
    sim_Late.l0 k l (doneL l) (doneL l).length i = some (lateB l) := by
  have few := h.few
  rw [doneL_len]
  induction d with
  | zero =>
    intro i k hi hk hj
    obtain ⟨k, rfl⟩ : ∃ q, k = q + 1 := ⟨k - 1, by omega⟩
    simp only [sim_Late.l0]
    rw [if_neg (by omega), lateB_no]
    rintro (x | ⟨j, h1, h2⟩)
    · exact x h
    · have := hj j (by omega); omega
  | succ d ih =>
    intro i k hi hk hj
    obtain ⟨k, rfl⟩ : ∃ q, k = q + 1 := ⟨k - 1, by omega⟩
    have hil : i < l.length := by omega
    simp only [sim_Late.l0]
    rw [if_pos (by omega), if_pos (by omega), if_pos (by rw [doneL_len]; omega), if_pos (by omega), doneL_rd l hil, show (rd_T32 l i).f1 = dl l i from rfl]
    by_cases c : when l.length (rl l) (dl l) (cy l) i > dl l i
    · rw [if_pos c, lateB_yes (.inr ⟨i, hil, c⟩)]
    · rw [if_neg c, w64 (n := (i : Int) + 1) (by omega) (by omega)]
      have := ih (i + 1) k (by omega) (by omega) (fun j hjl => by
        rcases Nat.lt_or_ge j i with x | x
        · exact hj j x
        · obtain rfl : j = i := by omega
          omega)
      rwa [show ((i + 1 : Nat) : Int) = (i : Int) + 1 from by omega] at this
theorem late_some (l : List S32) {k : Nat} (hk : 700000 < k) : sim_Late.f k l = some (lateB l) := by
  unfold sim_Late.f
  rw [right_some l (by omega), Option.bind_some]
  by_cases c : RightW l
  · rw [if_pos (rightB_yes c), run_some l hk, Option.bind_some, runL_yes c]
    exact late_loop c l.length 0 k (by omega) (by have := c.few; omega) (fun j h => by omega)
  · rw [if_neg (by rw [rightB_no c]; simp), lateB_yes (.inl c)]
/-! ### what must be done -/
open Classical in
theorem of_succ {n : Nat} {P : Nat → Prop} {f : Nat → Int} : of (n + 1) P f = of n P f + if P n then f n else 0 := rfl
open Classical in
theorem dem_bd {l : List S32} (h : RightW l) (a b : Int) {n : Nat} (hn : n ≤ l.length) : 0 ≤ of n (fun i => a ≤ rl l i ∧ dl l i ≤ b) (cy l) ∧ of n (fun i => a ≤ rl l i ∧ dl l i ≤ b) (cy l) ≤ n * 16384 := by
  induction n with
  | zero => simp [of, sm]
  | succ n ih =>
    have ih := ih (by omega)
    have t : 0 ≤ (if a ≤ rl l n ∧ dl l n ≤ b then cy l n else 0) ∧ (if a ≤ rl l n ∧ dl l n ≤ b then cy l n else 0) ≤ 16384 := by
      have := h.cyc n (by omega); split <;> omega
    rw [of_succ]
    omega
theorem demand_loop {l : List S32} (h : RightW l) (a b : Int) (d : Nat) : ∀ (i k : Nat), i + d = l.length → d < k →
    sim_Demand.l0 k a b (of i (fun i => a ≤ rl l i ∧ dl l i ≤ b) (cy l)) l l.length i = some (dem l.length (rl l) (dl l) (cy l) a b) := by
  have few := h.few
  induction d with
  | zero =>
    intro i k hi hk
    obtain ⟨k, rfl⟩ : ∃ q, k = q + 1 := ⟨k - 1, by omega⟩
    obtain rfl : i = l.length := by omega
    simp only [sim_Demand.l0]
    rw [if_neg (by omega)]; rfl
  | succ d ih =>
    intro i k hi hk
    obtain ⟨k, rfl⟩ : ∃ q, k = q + 1 := ⟨k - 1, by omega⟩
    simp only [sim_Demand.l0]
    have e1 : (rd_T32 l i).f0 = rl l i := rfl
    have e2 : (rd_T32 l i).f1 = dl l i := rfl
    have e3 : (rd_T32 l i).f2 = cy l i := rfl
    have bd := dem_bd h a b (n := i) (by omega)
    have c := h.cyc i (by omega)
    have ih := ih (i + 1) k (by omega) (by omega)
    rw [of_succ, show ((i + 1 : Nat) : Int) = (i : Int) + 1 from by omega] at ih
    rw [if_pos (by omega), if_pos (by omega), if_pos (by omega), e1, e2, e3, w64 (n := (i : Int) + 1) (by omega) (by omega)]
    by_cases c1 : rl l i ≥ a
    · rw [if_pos c1]
      by_cases c2 : dl l i ≤ b
      · rw [if_pos c2, w64 (by omega) (by omega)]
        rw [if_pos ⟨c1, c2⟩] at ih
        exact ih
      · rw [if_neg c2]
        rw [if_neg (fun x => c2 x.2), Int.add_zero] at ih
        exact ih
    · rw [if_neg c1]
      rw [if_neg (fun x => c1 x.1), Int.add_zero] at ih
      exact ih
noncomputable def demL (l : List S32) (a b : Int) : Int := if rightB l = true then dem l.length (rl l) (dl l) (cy l) a b else 0
theorem demL_yes {l : List S32} (h : RightW l) (a b : Int) : demL l a b = dem l.length (rl l) (dl l) (cy l) a b := by unfold demL; rw [if_pos (rightB_yes h)]
theorem demL_no {l : List S32} (h : ¬ RightW l) (a b : Int) : demL l a b = 0 := by unfold demL; rw [if_neg (by rw [rightB_no h]; simp)]
theorem demand_some (l : List S32) (a b : Int) {k : Nat} (hk : 40 < k) : sim_Demand.f k l a b = some (demL l a b) := by
  unfold sim_Demand.f
  rw [right_some l (by omega), Option.bind_some]
  by_cases c : RightW l
  · rw [if_pos (rightB_yes c), demL_yes c]
    exact demand_loop c a b l.length 0 k (by omega) (by have := c.few; omega)
  · rw [if_neg (by rw [rightB_no c]; simp), demL_no c]
/-! ### whether it fits -/
def FitsL (l : List S32) : Prop := RightW l ∧ FitsP l.length (rl l) (dl l) (cy l)
open Classical in
noncomputable def fitsB (l : List S32) : Bool := decide (FitsL l)
theorem fitsB_no {l : List S32} (h : ¬ FitsL l) : fitsB l = false := by simp [fitsB, h]
theorem fitsB_yes {l : List S32} (h : FitsL l) : fitsB l = true := by simp [fitsB, h]
theorem fits_in {l : List S32} (h : RightW l) (i : Nat) (hi : i < l.length) (K : Nat) (hK : 60 ≤ K)
    (next : ∀ k : Nat, K ≤ k → (∀ j, j < l.length → rl l i ≤ dl l j → dem l.length (rl l) (dl l) (cy l) (rl l i) (dl l j) ≤ dl l j - rl l i) → sim_Fits.l0 k l l l.length ((i : Int) + 1) = some (fitsB l)) (d : Nat) :
    ∀ (j k : Nat), j + d = l.length → K + d < k → (∀ m, m < j → rl l i ≤ dl l m → dem l.length (rl l) (dl l) (cy l) (rl l i) (dl l m) ≤ dl l m - rl l i) →
    sim_Fits.l1 k l l l.length i l l.length j (rl l i) (dl l i) (cy l i) = some (fitsB l) := by
  have few := h.few
  have hri := h.rel i hi
  induction d with
  | zero =>
    intro j k hj hk hm
    obtain ⟨k, rfl⟩ : ∃ q, k = q + 1 := ⟨k - 1, by omega⟩
    simp only [sim_Fits.l1]
    rw [if_neg (by omega), w64 (n := (i : Int) + 1) (by omega) (by omega)]
    exact next k (by omega) (fun m hml => hm m (by omega))
  | succ d ih =>
    intro j k hj hk hm
    obtain ⟨k, rfl⟩ : ∃ q, k = q + 1 := ⟨k - 1, by omega⟩
    have hjl : j < l.length := by omega
    have hdj := h.dead j hjl
    have hrj := h.rel j hjl
    simp only [sim_Fits.l1]
    rw [if_pos (by omega), if_pos (by omega), if_pos (by omega), show (rd_T32 l j).f1 = dl l j from rfl, w64 (n := (j : Int) + 1) (by omega) (by omega)]
    have ih := fun hm => ih (j + 1) k (by omega) (by omega) hm
    rw [show ((j + 1 : Nat) : Int) = (j : Int) + 1 from by omega] at ih
    by_cases c : dl l j < rl l i
    · rw [if_pos c]
      exact ih fun m hml => by
        rcases Nat.lt_or_ge m j with x | x
        · exact hm m x
        · obtain rfl : m = j := by omega
          intro y; omega
    · rw [if_neg c, demand_some l _ _ (by omega), Option.bind_some, demL_yes h, w64 (n := dl l j - rl l i) (by omega) (by omega)]
      by_cases c2 : dem l.length (rl l) (dl l) (cy l) (rl l i) (dl l j) > dl l j - rl l i
      · rw [if_pos c2, fitsB_no fun x => by have := x.2 i hi j hjl (by omega); omega]
      · rw [if_neg c2]
        exact ih fun m hml => by
          rcases Nat.lt_or_ge m j with x | x
          · exact hm m x
          · obtain rfl : m = j := by omega
            intro y; omega
theorem fits_loop {l : List S32} (h : RightW l) (d : Nat) : ∀ (i k : Nat), i + d = l.length → 40 * d + 100 ≤ k → (∀ m, m < i → ∀ j, j < l.length → rl l m ≤ dl l j → dem l.length (rl l) (dl l) (cy l) (rl l m) (dl l j) ≤ dl l j - rl l m) →
    sim_Fits.l0 k l l l.length i = some (fitsB l) := by
  have few := h.few
  induction d with
  | zero =>
    intro i k hi hk hm
    obtain ⟨k, rfl⟩ : ∃ q, k = q + 1 := ⟨k - 1, by omega⟩
    simp only [sim_Fits.l0]
    rw [if_neg (by omega), fitsB_yes ⟨h, fun m hml => hm m (by omega)⟩]
  | succ d ih =>
    intro i k hi hk hm
    obtain ⟨k, rfl⟩ : ∃ q, k = q + 1 := ⟨k - 1, by omega⟩
    have hil : i < l.length := by omega
    simp only [sim_Fits.l0]
    rw [if_pos (by omega), if_pos (by omega), if_pos (by omega)]
    have := fits_in h i hil (40 * d + 100) (by omega) (fun k hk hj => by
      have := ih (i + 1) k (by omega) hk (fun m hml => by
        rcases Nat.lt_or_ge m i with x | x
        · exact hm m x
        · obtain rfl : m = i := by omega
          exact hj)
      rwa [show ((i + 1 : Nat) : Int) = (i : Int) + 1 from by omega] at this) l.length 0 k (by omega) (by omega) (fun m hml => by omega)
    exact this
theorem fits_some (l : List S32) {k : Nat} (hk : 2000 < k) : sim_Fits.f k l = some (fitsB l) := by
  unfold sim_Fits.f
  rw [right_some l (by omega), Option.bind_some]
  by_cases c : RightW l
  · rw [if_pos (rightB_yes c)]
    exact fits_loop c l.length 0 k (by omega) (by have := c.few; omega) (fun m h => by omega)
  · rw [if_neg (by rw [rightB_no c]; simp), fitsB_no (fun x => c x.1)]
/-- the criterion, of lists -/
theorem fits_late_iff (l : List S32) : FitsL l ↔ ¬ LateL l := by
  constructor
  · rintro ⟨h, hf⟩ (x | x)
    · exact x h
    · exact fits_late h hf x
  · intro hl
    have h : RightW l := Classical.byContradiction fun x => hl (.inl x)
    exact ⟨h, late_fits h (fun x => hl (.inr x))⟩
theorem fits_not_late (l : List S32) : fitsB l = !lateB l := by
  by_cases c : LateL l
  · rw [lateB_yes c, fitsB_no (fun x => (fits_late_iff l).1 x c)]; rfl
  · rw [lateB_no c, fitsB_yes ((fits_late_iff l).2 c)]; rfl
end Go.Proofs.Ytanakihfgdgdfaa.Sm
