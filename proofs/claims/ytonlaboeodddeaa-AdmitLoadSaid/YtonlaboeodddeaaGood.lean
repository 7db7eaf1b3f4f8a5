/- Is it a machine and tasks of which chapter 10 speaks: as mathematics. -/
import Derived.Test.YtonlaboeodddeaaTsk
import Derived.Test.YtonlaboeodddeaaFxAns
import Derived.Test.YtonlaboeodddeaaG3
namespace Go.Proofs.Ytonlaboeodddeaa.Adm
open Go.RowKit Go.Proofs.Ytonlaboeodddeaa.F Go.Proofs.Ytonlaboeodddeaa.Tbl Go.Proofs.YtonlaboeodddeaaW.PrintWords Go.Proofs.YtonlaboeodddeaaW.PrintLast
section
variable {l0 : List S34} {l1 : List S55} {l2 : List S58} {idle crit sw swE sems hor : Int}
open Classical in
noncomputable def goodB (l0 : List S34) (l1 : List S55) (l2 : List S58) (idle crit sw swE sems hor : Int) (l : List S29) : Bool := decide (Mach l0 l1 l2 idle crit sw swE sems hor l)
theorem goodB_no {l : List S29} (h : ¬ Mach l0 l1 l2 idle crit sw swE sems hor l) : goodB l0 l1 l2 idle crit sw swE sems hor l = false := by simp [goodB, h]
theorem goodB_yes {l : List S29} (h : Mach l0 l1 l2 idle crit sw swE sems hor l) : goodB l0 l1 l2 idle crit sw swE sems hor l = true := by simp [goodB, h]
theorem goodB_iff {l : List S29} : goodB l0 l1 l2 idle crit sw swE sems hor l = true ↔ Mach l0 l1 l2 idle crit sw swE sems hor l := by simp [goodB]
theorem good_loop (T : TableOk l0 l1 l2 idle crit sw swE sems hor) (l : List S29) (hn : l.length ≤ 64) : ∀ (d i k : Nat), i + d = l.length → 1200 + d < k → (∀ j : Nat, j < i → TaskOk l2.length sems hor (rd_T29 l j)) →
    dormouselaw10_good.l0 k l i l0 l1 l2 idle crit sw swE sems hor = some (goodB l0 l1 l2 idle crit sw swE sems hor l)
  | 0, i, k, h, hk, h1 => by
    obtain ⟨k, rfl⟩ : ∃ q, k = q + 1 := ⟨k - 1, by omega⟩
    simp only [dormouselaw10_good.l0]
    rw [if_neg (by omega), goodB_yes ⟨T, hn, fun t ht => ?_⟩]
    obtain ⟨j, hj, rfl⟩ := List.getElem_of_mem ht
    have := h1 j (by omega)
    unfold rd_T29 at this
    rw [Int.toNat_natCast, List.getD_eq_getElem?_getD, List.getElem?_eq_getElem hj] at this
    exact this
  | d + 1, i, k, h, hk, h1 => by
    obtain ⟨k, rfl⟩ : ∃ q, k = q + 1 := ⟨k - 1, by omega⟩
    have hd := head_of T
    have hnd : l2.length ≤ 1000 := by have := T.head; unfold Head at this; omega
    simp only [dormouselaw10_good.l0]
    rw [if_pos (by omega), if_pos (by omega), task_some _ hnd (by omega) (by omega), Option.bind_some]
    by_cases c : TaskOk l2.length sems hor (rd_T29 l i)
    · rw [if_pos (taskB_yes c), w64 (n := (i : Int) + 1) (by omega) (by omega)]
      have := good_loop T l hn d (i + 1) k (by omega) (by omega) (fun j hj => by
        rcases Nat.lt_or_ge j i with h | h
        · exact h1 j h
        · obtain rfl : j = i := by omega
          exact c)
      rw [show ((i + 1 : Nat) : Int) = (i : Int) + 1 from by omega] at this
      exact this
    · rw [taskB_no c, if_neg (by simp), goodB_no (fun x => c (x.task _ (rd_mem l (by omega))))]
theorem good_some (l : List S29) {k : Nat} (hk : 1400 < k) : dormouselaw10_good.f k l0 l1 l2 idle crit sw swE sems hor l = some (goodB l0 l1 l2 idle crit sw swE sems hor l) := by
  obtain ⟨k, rfl⟩ : ∃ q, k = q + 1 := ⟨k - 1, by omega⟩
  unfold dormouselaw10_good.f dormouseref01_Table.f
  rw [Option.bind_some]
  by_cases T : TableOk l0 l1 l2 idle crit sw swE sems hor
  · rw [if_pos (by simp [tableB, T])]
    simp only [dormouselaw10_good.j0]
    by_cases c : (l.length : Int) > 64
    · rw [if_pos (decide_eq_true c), goodB_no (fun x => by have := x.few; omega)]
    · rw [if_neg (by simpa using c)]
      have := good_loop T l (by omega) l.length 0 k (by omega) (by omega) (fun j hj => by omega)
      rw [show ((0 : Nat) : Int) = 0 from rfl] at this
      exact this
  · rw [if_neg (by simp [tableB, T])]
    simp only [dormouselaw10_good.j0]
    rw [if_pos (by trivial), goodB_no (fun x => T x.table)]
/-- the document's Util is the program's -/
theorem ref_util {c t : Int} (ht : 1 ≤ t) (h0 : 0 ≤ c) (h1 : c ≤ 536870912) : dormouseref01_Util.f c t = some (part c t) := by
  unfold dormouseref01_Util.f dormouseref01_clamp.f
  rw [if_neg (by omega), if_neg (by omega), if_neg (by omega), Option.bind_some, if_neg (by omega)]
  rw [w64 (n := c * 4294967296) (by omega) (by omega)]
  have hn : 0 ≤ c * 4294967296 := by omega
  rw [Int.tdiv_eq_ediv_of_nonneg hn, Int.tmod_eq_emod_of_nonneg hn]
  have h5 := Int.ediv_nonneg hn (show 0 ≤ t by omega)
  have h6 := Int.ediv_le_self t hn
  rw [w64 (n := c * 4294967296 / t) (by omega) (by omega)]
  have e := ceil_eq (n := c * 4294967296) ht
  unfold part
  by_cases hm : c * 4294967296 % t = 0
  · rw [if_pos hm]; rw [if_pos hm] at e; congr 1; omega
  · rw [if_neg hm, w64 (by omega) (by omega)]; rw [if_neg hm] at e; congr 1
theorem ref_part (h : TableOk l0 l1 l2 idle crit sw swE sems hor) {t : S29} (ht : TaskOk l2.length sems hor t) (level : Int) {k : Nat} (hk : 0 < k) : dormouseref09_Part.f k l0 l1 l2 idle crit sw swE sems hor t.f0 t.f1 t.f2 t.f3 level = some (partOf l0 sw level t) := by
  obtain ⟨k, rfl⟩ : ∃ q, k = q + 1 := ⟨k - 1, by omega⟩
  have hp := ht.period
  have hm := most_bd h ht level
  have hd := head_of h
  have zero : ¬ (0 ≤ level ∧ level < l0.length) → dormouseref01_Util.f 0 t.f0 = some (partOf l0 sw level t) := by
    intro hl
    rw [ref_util hp.1 (by omega) (by omega)]
    unfold partOf most; rw [if_neg hl]
  unfold dormouseref09_Part.f
  by_cases c1 : level < 0
  · rw [if_pos c1]; simp only [dormouseref09_Part.j0]
    rw [if_pos (by trivial), zero (by omega), Option.bind_some]
  · rw [if_neg c1]; simp only [dormouseref09_Part.j0]
    by_cases c2 : level ≥ (l0.length : Int)
    · rw [if_pos (decide_eq_true c2), zero (by omega), Option.bind_some]
    · rw [if_neg (by simpa using c2), if_pos (by omega), if_pos (by omega)]
      have hl := level_bd h (n := level) (by omega) (by omega)
      have e : most l0 sw level t = t.f1 * (rd_T34 l0 level).f0 + 2 * sw := by unfold most; rw [if_pos (by omega)]
      have hmul : 0 ≤ t.f1 * (rd_T34 l0 level).f0 := Int.mul_nonneg (by have := ht.cycles; omega) (by omega)
      rw [e] at hm
      rw [w64 (n := t.f1 * (rd_T34 l0 level).f0) (by omega) (by omega), w64 (n := 2 * sw) (by omega) (by omega), w64 (by omega) (by omega), ref_util hp.1 hm.1 (by omega), Option.bind_some]
      unfold partOf; rw [e]
theorem answers_yes : dormouselaw10_answers.f = some true := rfl
end
end Go.Proofs.Ytonlaboeodddeaa.Adm
