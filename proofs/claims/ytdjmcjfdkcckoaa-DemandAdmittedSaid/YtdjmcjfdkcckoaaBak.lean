/- Baker's test, as plain mathematics. -/
import Derived.Test.YtdjmcjfdkcckoaaAdm
namespace Go.Proofs.Ytdjmcjfdkcckoaa.Adm
open Go.RowKit Go.Proofs.Ytdjmcjfdkcckoaa.F Go.Proofs.Ytdjmcjfdkcckoaa.Tbl Go.Proofs.YtdjmcjfdkcckoaaW.PrintWords Go.Proofs.YtdjmcjfdkcckoaaW.PrintLast
section
variable {l0 : List S63} {l1 : List S66} {l2 : List S69} {idle crit sw swE sems hor : Int} {l m : List S49}
/-! ### Baker's test -/
theorem baker (h : Mach l0 l1 l2 idle crit sw swE sems hor l) (fits : load l0 crit sw l 0 ≤ 4294967296) {t : Int} (ht : 0 ≤ t) {held : Int} (hheld : held = 0 ∨ ∃ u ∈ l, u.f0 ≤ t ∧ held = block l0 crit sw l u.f0) :
    sumOf (fun u => t / u.f0 * most l0 sw 0 u) l + held ≤ t := by
  have a : sumOf (fun u => t / u.f0 * most l0 sw 0 u) l * 4294967296 ≤ t * sumOf (partOf l0 sw 0) l := by
    have key : ∀ m : List S49, (∀ u ∈ m, u ∈ l) → sumOf (fun u => t / u.f0 * most l0 sw 0 u) m * 4294967296 ≤ t * sumOf (partOf l0 sw 0) m := by
      intro m
      induction m with
      | nil => intro _; simp [sumOf]
      | cons u m ih =>
        intro hm
        have ih := ih (fun v hv => hm v (by simp [hv]))
        have hu := h.task u (hm u (by simp))
        rw [sumOf_cons, sumOf_cons, Int.add_mul, Int.mul_add]
        have lo := part_lo (most l0 sw 0 u) u.f0 hu.period.1
        have pn := (partOf_bd h.table hu (sw := sw) 0).1
        have q := Int.ediv_nonneg ht (show 0 ≤ u.f0 by have := hu.period; omega)
        have q2 := Int.ediv_mul_le t (show u.f0 ≠ 0 by have := hu.period; omega)
        have s1 : t / u.f0 * (most l0 sw 0 u * 4294967296) ≤ t / u.f0 * (part (most l0 sw 0 u) u.f0 * u.f0) := Int.mul_le_mul_of_nonneg_left lo q
        have s2 : t / u.f0 * u.f0 * partOf l0 sw 0 u ≤ t * partOf l0 sw 0 u := Int.mul_le_mul_of_nonneg_right q2 pn
        have e1 : t / u.f0 * (part (most l0 sw 0 u) u.f0 * u.f0) = t / u.f0 * u.f0 * partOf l0 sw 0 u := by
          unfold partOf; rw [Int.mul_comm (part (most l0 sw 0 u) u.f0) u.f0, Int.mul_assoc]
        rw [Int.mul_assoc]
        omega
    exact key l (fun _ h => h)
  have b : held * 4294967296 ≤ t * reserve l0 crit sw l := by
    have rn := (reserve_bd h).1
    rcases hheld with e | ⟨u, hu, h1, e⟩
    · rw [e]; have := Int.mul_nonneg ht rn; omega
    · have p := (h.task u hu).period
      have r := reserveOn_ge (l0 := l0) (crit := crit) (sw := sw) (l := l) hu
      have lo := part_lo (block l0 crit sw l u.f0) u.f0 p.1
      have s1 : part (block l0 crit sw l u.f0) u.f0 * u.f0 ≤ reserve l0 crit sw l * u.f0 := Int.mul_le_mul_of_nonneg_right r (by omega)
      have s2 : reserve l0 crit sw l * u.f0 ≤ reserve l0 crit sw l * t := Int.mul_le_mul_of_nonneg_left h1 rn
      rw [e, Int.mul_comm t]; omega
  have c : t * load l0 crit sw l 0 ≤ t * 4294967296 := Int.mul_le_mul_of_nonneg_left fits ht
  unfold load at c
  rw [Int.mul_add] at c
  have d : (sumOf (fun u => t / u.f0 * most l0 sw 0 u) l + held) * 4294967296 ≤ t * 4294967296 := by rw [Int.add_mul]; omega
  omega
end
end Go.Proofs.Ytdjmcjfdkcckoaa.Adm
