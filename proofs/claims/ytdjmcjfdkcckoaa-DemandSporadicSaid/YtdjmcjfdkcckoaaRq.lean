/- May a list be (the document's Right). -/
import Derived.Test.YtdjmcjfdkcckoaaSr
import Derived.Test.YtdjmcjfdkcckoaaG4
namespace Go.Proofs.Ytdjmcjfdkcckoaa.Sm
open Go.RowKit Go.Proofs.Ytdjmcjfdkcckoaa.F Go.Proofs.Ytdjmcjfdkcckoaa.Edf Go.Proofs.YtdjmcjfdkcckoaaW.PrintWords Go.Proofs.YtdjmcjfdkcckoaaW.PrintLast
set_option linter.unusedVariables false
theorem rright_loop (l : List S31) (h8 : l.length ≤ 32) (d : Nat) : ∀ (i k : Nat), i + d = l.length → d < k → (∀ j : Nat, j < i → (0 ≤ rl l j ∧ rl l j ≤ 16384) ∧ (0 ≤ cy l j ∧ cy l j ≤ 16384) ∧ (rl l j ≤ dl l j ∧ dl l j ≤ 32768)) →
    dormouseref25_Right.l0 k l i = some (rightB l) := by
  induction d with
  | zero =>
    intro i k hi hk hj
    obtain ⟨k, rfl⟩ : ∃ q, k = q + 1 := ⟨k - 1, by omega⟩
    simp only [dormouseref25_Right.l0]
    rw [if_neg (by omega), rightB_yes ⟨fun j h => (hj j (by omega)).1, fun j h => (hj j (by omega)).2.1, fun j h => (hj j (by omega)).2.2, h8⟩]
  | succ d ih =>
    intro i k hi hk hj
    obtain ⟨k, rfl⟩ : ∃ q, k = q + 1 := ⟨k - 1, by omega⟩
    simp only [dormouseref25_Right.l0]
    have e1 : (rd_T31 l i).f0 = rl l i := rfl
    have e2 : (rd_T31 l i).f1 = dl l i := rfl
    have e3 : (rd_T31 l i).f2 = cy l i := rfl
    rw [if_pos (by omega), if_pos (by omega), e1, e2, e3]
    by_cases c1 : rl l i < 0
    · rw [if_pos c1, rightB_no (fun x => by have := x.rel i (by omega); omega)]
    rw [if_neg c1]
    by_cases c2 : rl l i > 16384
    · rw [if_pos c2, rightB_no (fun x => by have := x.rel i (by omega); omega)]
    rw [if_neg c2]
    by_cases c3 : cy l i < 0
    · rw [if_pos c3, rightB_no (fun x => by have := x.cyc i (by omega); omega)]
    rw [if_neg c3]
    by_cases c4 : cy l i > 16384
    · rw [if_pos c4, rightB_no (fun x => by have := x.cyc i (by omega); omega)]
    rw [if_neg c4]
    by_cases c5 : dl l i < rl l i
    · rw [if_pos c5, rightB_no (fun x => by have := x.dead i (by omega); omega)]
    rw [if_neg c5]
    by_cases c6 : dl l i > 32768
    · rw [if_pos c6, rightB_no (fun x => by have := x.dead i (by omega); omega)]
    rw [if_neg c6, w64 (n := (i : Int) + 1) (by omega) (by omega)]
    have := ih (i + 1) k (by omega) (by omega) (fun j h => by
      rcases Nat.lt_or_ge j i with h | h
      · exact hj j h
      · obtain rfl : j = i := by omega
        omega)
    rwa [show ((i + 1 : Nat) : Int) = (i : Int) + 1 from by omega] at this
theorem rright_some (l : List S31) {k : Nat} (hk : 40 < k) : dormouseref25_Right.f k l = some (rightB l) := by
  unfold dormouseref25_Right.f
  by_cases c : (l.length : Int) > 32
  · rw [if_pos c, rightB_no (fun x => by have := x.few; omega)]
  · rw [if_neg c]
    exact rright_loop l (by omega) l.length 0 k (by omega) (by omega) (fun j h => by omega)
end Go.Proofs.Ytdjmcjfdkcckoaa.Sm
