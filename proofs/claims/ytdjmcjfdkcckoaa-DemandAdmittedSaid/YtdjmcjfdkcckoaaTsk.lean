/- May a task be (the document's Task), as plain mathematics. -/
import Derived.Test.YtdjmcjfdkcckoaaAdm
import Derived.Test.YtdjmcjfdkcckoaaFx21
namespace Go.Proofs.Ytdjmcjfdkcckoaa.Adm
open Go.RowKit Go.Proofs.Ytdjmcjfdkcckoaa.F Go.Proofs.Ytdjmcjfdkcckoaa.Tbl Go.Proofs.YtdjmcjfdkcckoaaW.PrintWords Go.Proofs.YtdjmcjfdkcckoaaW.PrintLast
open Classical in
noncomputable def taskB (nd : Nat) (sems hor : Int) (t : S49) : Bool := decide (TaskOk nd sems hor t)
theorem taskB_no {nd : Nat} {sems hor : Int} {t : S49} (h : ¬ TaskOk nd sems hor t) : taskB nd sems hor t = false := by simp [taskB, h]
theorem taskB_yes {nd : Nat} {sems hor : Int} {t : S49} (h : TaskOk nd sems hor t) : taskB nd sems hor t = true := by simp [taskB, h]
theorem taskB_iff {nd : Nat} {sems hor : Int} {t : S49} : taskB nd sems hor t = true ↔ TaskOk nd sems hor t := by simp [taskB]
section
variable {l0 : List S63} {l1 : List S66} {l2 : List S69} {idle crit sw swE sems hor : Int}
theorem dev_loop (t : S49) (hnd : l2.length ≤ 1000) (hp : 1 ≤ t.f0 ∧ t.f0 ≤ hor) (hc : 1 ≤ t.f1 ∧ t.f1 ≤ 4096) (hs : (t.f2.length : Int) ≤ sems) (hsec : ∀ i : Int, 0 ≤ i → i < t.f2.length → 0 ≤ rd t.f2 i ∧ rd t.f2 i ≤ t.f1) :
    ∀ (d k i : Nat), i ≤ t.f3.length → l2.length + 2 ≤ i + d → d < k → (∀ j : Nat, j < i → (j : Int) ≤ rd t.f3 j ∧ rd t.f3 j < l2.length) → (∀ j : Int, 0 < j → j < i → rd t.f3 (j - 1) < rd t.f3 j) →
    dormouseref09_Task.l1 k i l0 l1 l2 idle crit sw swE sems hor t.f0 t.f1 t.f2 t.f3 = some (taskB l2.length sems hor t)
  | 0, k, i, hi, hd, hk, h1, h2 => by
    exfalso
    have := h1 (i - 1) (by omega)
    rw [show ((i - 1 : Nat) : Int) = (i : Int) - 1 from by omega] at this
    omega
  | d + 1, k, i, hi, hd, hk, h1, h2 => by
    obtain ⟨k, rfl⟩ : ∃ q, k = q + 1 := ⟨k - 1, by omega⟩
    have hi2 : i ≤ l2.length + 1 := by
      rcases Nat.eq_zero_or_pos i with h | h
      · omega
      · have := h1 (i - 1) (by omega)
        rw [show ((i - 1 : Nat) : Int) = (i : Int) - 1 from by omega] at this
        omega
    simp only [dormouseref09_Task.l1]
    by_cases c1 : (i : Int) < t.f3.length
    · rw [if_pos c1, if_pos (by omega)]
      by_cases c2 : rd t.f3 i < 0
      · rw [if_pos c2, taskB_no (fun x => by have := x.dev i (by omega) c1; omega)]
      · rw [if_neg c2]
        by_cases c3 : rd t.f3 i ≥ (l2.length : Int)
        · rw [if_pos c3, taskB_no (fun x => by have := x.dev i (by omega) c1; omega)]
        · rw [if_neg c3]
          have go : (∀ j : Int, 0 < j → j < (i + 1 : Nat) → rd t.f3 (j - 1) < rd t.f3 j) → ((i : Int) ≤ rd t.f3 i) → dormouseref09_Task.l1 k (wrap64 ((i : Int) + 1)) l0 l1 l2 idle crit sw swE sems hor t.f0 t.f1 t.f2 t.f3 = some (taskB l2.length sems hor t) := by
            intro hr hge
            have := dev_loop t hnd hp hc hs hsec d k (i + 1) (by omega) (by omega) (by omega) (fun j hj => by
              rcases Nat.lt_or_ge j i with h | h
              · exact h1 j h
              · obtain rfl : j = i := by omega
                exact ⟨hge, by omega⟩) hr
            rw [w64 (n := (i : Int) + 1) (by omega) (by omega)]
            rw [show ((i + 1 : Nat) : Int) = (i : Int) + 1 from by omega] at this
            exact this
          by_cases c4 : (i : Int) > 0
          · have e : wrap64 ((i : Int) - 1) = (i : Int) - 1 := w64 (by omega) (by omega)
            rw [if_pos c4, e, if_pos (by omega), if_pos (by omega)]
            by_cases c5 : rd t.f3 ((i : Int) - 1) ≥ rd t.f3 i
            · rw [if_pos c5, taskB_no (fun x => by have := x.rising i c4 c1; omega)]
            · rw [if_neg c5]
              refine go (fun j hj hj2 => ?_) ?_
              · rcases Int.lt_or_le j i with h | h
                · exact h2 j hj h
                · obtain rfl : j = i := by omega
                  omega
              · have := h1 (i - 1) (by omega)
                rw [show ((i - 1 : Nat) : Int) = (i : Int) - 1 from by omega] at this
                omega
          · rw [if_neg c4]
            exact go (fun j hj hj2 => by omega) (by omega)
    · rw [if_neg c1]
      rw [taskB_yes ⟨hp, hc, hs, hsec, fun j hj hj2 => ?_, fun j hj hj2 => h2 j hj (by omega)⟩]
      have := h1 j.toNat (by omega)
      rw [show (j.toNat : Int) = j from by omega] at this
      omega
theorem sec_loop (t : S49) (hnd : l2.length ≤ 1000) (hsm : sems ≤ 3) (hp : 1 ≤ t.f0 ∧ t.f0 ≤ hor) (hc : 1 ≤ t.f1 ∧ t.f1 ≤ 4096) (hs : (t.f2.length : Int) ≤ sems) :
    ∀ (d k i : Nat), i + d = t.f2.length → 1010 + d < k → (∀ j : Int, 0 ≤ j → j < i → 0 ≤ rd t.f2 j ∧ rd t.f2 j ≤ t.f1) →
    dormouseref09_Task.l0 k i l0 l1 l2 idle crit sw swE sems hor t.f0 t.f1 t.f2 t.f3 = some (taskB l2.length sems hor t)
  | 0, k, i, hi, hk, h1 => by
    obtain ⟨k, rfl⟩ : ∃ q, k = q + 1 := ⟨k - 1, by omega⟩
    simp only [dormouseref09_Task.l0]
    rw [if_neg (by omega)]
    have := dev_loop (l0 := l0) (l1 := l1) (idle := idle) (crit := crit) (sw := sw) (swE := swE) (sems := sems) (hor := hor) t hnd hp hc hs (fun j hj hj2 => h1 j hj (by omega)) (l2.length + 2) k 0 (by omega) (by omega) (by omega) (fun j hj => by omega) (fun j hj hj2 => by omega)
    rw [show ((0 : Nat) : Int) = 0 from rfl] at this
    exact this
  | d + 1, k, i, hi, hk, h1 => by
    obtain ⟨k, rfl⟩ : ∃ q, k = q + 1 := ⟨k - 1, by omega⟩
    simp only [dormouseref09_Task.l0]
    have c1 : (i : Int) < t.f2.length := by omega
    rw [if_pos c1, if_pos (by omega)]
    by_cases c2 : rd t.f2 i < 0
    · rw [if_pos c2, taskB_no (fun x => by have := x.sec i (by omega) c1; omega)]
    · rw [if_neg c2]
      by_cases c3 : rd t.f2 i > t.f1
      · rw [if_pos c3, taskB_no (fun x => by have := x.sec i (by omega) c1; omega)]
      · rw [if_neg c3, w64 (n := (i : Int) + 1) (by omega) (by omega)]
        have := sec_loop t hnd hsm hp hc hs d k (i + 1) (by omega) (by omega) (fun j hj hj2 => by
          rcases Int.lt_or_le j i with h | h
          · exact h1 j hj h
          · obtain rfl : j = i := by omega
            omega)
        rw [show ((i + 1 : Nat) : Int) = (i : Int) + 1 from by omega] at this
        exact this
theorem task_some (t : S49) (hnd : l2.length ≤ 1000) (hsm : sems ≤ 3) {k : Nat} (hk : 1100 < k) :
    dormouseref09_Task.f k l0 l1 l2 idle crit sw swE sems hor t.f0 t.f1 t.f2 t.f3 = some (taskB l2.length sems hor t) := by
  obtain ⟨k, rfl⟩ : ∃ q, k = q + 1 := ⟨k - 1, by omega⟩
  unfold dormouseref09_Task.f
  by_cases c1 : t.f0 < 1
  · rw [if_pos c1, taskB_no (fun x => by have := x.period; omega)]; simp [dormouseref09_Task.j0]
  rw [if_neg c1]
  by_cases c2 : t.f0 > hor
  · rw [if_pos c2, taskB_no (fun x => by have := x.period; omega)]; simp [dormouseref09_Task.j0]
  rw [if_neg c2]
  by_cases c3 : t.f1 < 1
  · rw [if_pos c3, taskB_no (fun x => by have := x.cycles; omega)]; simp [dormouseref09_Task.j0]
  rw [if_neg c3]
  by_cases c4 : t.f1 > 4096
  · rw [if_pos c4, taskB_no (fun x => by have := x.cycles; omega)]; simp [dormouseref09_Task.j0]
  rw [if_neg c4]
  by_cases c5 : (t.f2.length : Int) > sems
  · rw [decide_eq_true c5, taskB_no (fun x => by have := x.secs; omega)]; simp [dormouseref09_Task.j0]
  · rw [decide_eq_false c5]
    simp only [dormouseref09_Task.j0]
    rw [if_neg (by simp)]
    have := sec_loop (l0 := l0) (l1 := l1) (l2 := l2) (idle := idle) (crit := crit) (sw := sw) (swE := swE) (sems := sems) (hor := hor) t hnd hsm (by omega) (by omega) (by omega) t.f2.length k 0 (by omega) (by omega) (fun j hj hj2 => by omega)
    rw [show ((0 : Nat) : Int) = 0 from rfl] at this
    exact this
end
end Go.Proofs.Ytdjmcjfdkcckoaa.Adm
