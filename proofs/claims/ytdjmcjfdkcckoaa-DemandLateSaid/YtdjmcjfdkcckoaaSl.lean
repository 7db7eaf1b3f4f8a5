/- Lists of works, as sums. -/
import Derived.Test.YtdjmcjfdkcckoaaSr
import Derived.Test.YtdjmcjfdkcckoaaRq
namespace Go.Proofs.Ytdjmcjfdkcckoaa.Sm
open Go.RowKit Go.Proofs.Ytdjmcjfdkcckoaa.F Go.Proofs.Ytdjmcjfdkcckoaa.Edf Go.Proofs.YtdjmcjfdkcckoaaW.PrintWords Go.Proofs.YtdjmcjfdkcckoaaW.PrintLast
set_option linter.unusedVariables false
theorem sm_shift (f : Nat → Int) : ∀ n, sm (n + 1) f = f 0 + sm n (fun i => f (i + 1))
  | 0 => by show (0 : Int) + f 0 = f 0 + 0; omega
  | n + 1 => by
    have := sm_shift f n
    show sm (n + 1) f + f (n + 1) = f 0 + (sm n (fun i => f (i + 1)) + f (n + 1))
    omega
theorem sm_list {f : S31 → Int} : ∀ l : List S31, sm l.length (fun i => f (rd_T31 l i)) = (l.map f).sum
  | [] => rfl
  | t :: l => by
    have ih := sm_list (f := f) l
    rw [List.length_cons, sm_shift, List.map_cons, List.sum_cons, ← ih]
    have e0 : rd_T31 (t :: l) ((0 : Nat) : Int) = t := rfl
    rw [e0]
    congr 1
theorem rd_mem {l : List S31} {i : Nat} (h : i < l.length) : rd_T31 l i ∈ l := by
  unfold rd_T31
  rw [Int.toNat_natCast, List.getD_eq_getElem?_getD, List.getElem?_eq_getElem h]
  exact List.getElem_mem h
theorem mem_rd {l : List S31} {x : S31} (h : x ∈ l) : ∃ i : Nat, i < l.length ∧ rd_T31 l i = x := by
  obtain ⟨i, hi, rfl⟩ := List.getElem_of_mem h
  refine ⟨i, hi, ?_⟩
  unfold rd_T31
  rw [Int.toNat_natCast, List.getD_eq_getElem?_getD, List.getElem?_eq_getElem hi]; rfl
/-- what a work asks for between two moments -/
def ask (a b : Int) (x : S31) : Int := if a ≤ x.f0 ∧ x.f1 ≤ b then x.f2 else 0
theorem dem_list (l : List S31) (a b : Int) : dem l.length (rl l) (dl l) (cy l) a b = (l.map (ask a b)).sum := by
  rw [← sm_list]
  unfold dem of
  refine sm_congr fun i _ => ?_
  show _ = ask a b (rd_T31 l i)
  unfold ask
  by_cases h : a ≤ rl l i ∧ dl l i ≤ b
  · rw [if_pos h]; unfold rl dl at h; rw [if_pos h]; rfl
  · rw [if_neg h]; unfold rl dl at h; rw [if_neg h]
theorem right_all {l : List S31} (hl : l.length ≤ 32) (h : ∀ x ∈ l, (0 ≤ x.f0 ∧ x.f0 ≤ 16384) ∧ (0 ≤ x.f2 ∧ x.f2 ≤ 16384) ∧ (x.f0 ≤ x.f1 ∧ x.f1 ≤ 32768)) : RightW l :=
  ⟨fun i hi => (h _ (rd_mem hi)).1, fun i hi => (h _ (rd_mem hi)).2.1, fun i hi => (h _ (rd_mem hi)).2.2, hl⟩
theorem right_one {x : S31} (h : RightW [x]) : (0 ≤ x.f0 ∧ x.f0 ≤ 16384) ∧ (0 ≤ x.f2 ∧ x.f2 ≤ 16384) ∧ (x.f0 ≤ x.f1 ∧ x.f1 ≤ 32768) :=
  ⟨h.rel 0 (by simp), h.cyc 0 (by simp), h.dead 0 (by simp)⟩
theorem greatest (f : Nat → Int) : ∀ n, 0 < n → ∃ j, j < n ∧ ∀ i, i < n → f i ≤ f j
  | 0, h => by omega
  | 1, _ => ⟨0, by omega, fun i hi => by rw [show i = 0 from by omega]; exact Int.le_refl _⟩
  | n + 2, _ => by
    obtain ⟨j, hj, h⟩ := greatest f (n + 1) (by omega)
    rcases Int.lt_or_le (f j) (f (n + 1)) with x | x
    · refine ⟨n + 1, by omega, fun i hi => ?_⟩
      rcases Nat.lt_or_ge i (n + 1) with y | y
      · have := h i y; omega
      · rw [show i = n + 1 from by omega]; exact Int.le_refl _
    · refine ⟨j, by omega, fun i hi => ?_⟩
      rcases Nat.lt_or_ge i (n + 1) with y | y
      · exact h i y
      · rw [show i = n + 1 from by omega]; exact x
end Go.Proofs.Ytdjmcjfdkcckoaa.Sm
