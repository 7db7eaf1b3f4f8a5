/- The document's slowest level that would do is the program's. -/
import Derived.Test.YtonlaboeodddeaaSub
import Derived.Test.YtonlaboeodddeaaRef
import Derived.Test.YtonlaboeodddeaaFx25
namespace Go.Proofs.Ytonlaboeodddeaa.Adm
open Go.RowKit Go.Proofs.Ytonlaboeodddeaa.F Go.Proofs.Ytonlaboeodddeaa.Tbl Go.Proofs.YtonlaboeodddeaaW.PrintWords Go.Proofs.YtonlaboeodddeaaW.PrintLast
section
variable {l0 : List S34} {l1 : List S55} {l2 : List S58} {idle crit sw swE sems hor : Int} {l : List S29}
theorem rslow_loop (h : Mach l0 l1 l2 idle crit sw swE sems hor l) : ∀ (d : Nat) (n best : Int) (k : Nat), 1 ≤ n → n + d = crit + 1 → 1700 + d < k →
    dormouseref09_Slowest.l0 k l best n l0 l1 l2 idle crit sw swE sems hor = some (pick (fun n => decide (load l0 crit sw l n ≤ 4294967296)) d n best)
  | 0, n, best, k, h1, hd, hk => by
    obtain ⟨k, rfl⟩ : ∃ q, k = q + 1 := ⟨k - 1, by omega⟩
    simp only [dormouseref09_Slowest.l0]
    rw [if_neg (by omega)]; rfl
  | d + 1, n, best, k, h1, hd, hk => by
    obtain ⟨k, rfl⟩ : ∃ q, k = q + 1 := ⟨k - 1, by omega⟩
    have hh := head_of h.table
    simp only [dormouseref09_Slowest.l0]
    rw [if_pos (by omega), rload_some h n (by omega), Option.bind_some, w64 (n := n + 1) (by omega) (by omega)]
    unfold pick
    by_cases c : load l0 crit sw l n ≤ 4294967296
    · rw [if_pos c, if_pos (decide_eq_true c)]; exact rslow_loop h d (n + 1) n k (by omega) (by omega) (by omega)
    · rw [if_neg c, if_neg (by simpa using c)]; exact rslow_loop h d (n + 1) best k (by omega) (by omega) (by omega)
theorem rslowest_some (h : Mach l0 l1 l2 idle crit sw swE sems hor l) {k : Nat} (hk : 1800 < k) : dormouseref09_Slowest.f k l0 l1 l2 idle crit sw swE sems hor l = some (slowest l0 crit sw l) := by
  have hh := head_of h.table
  unfold dormouseref09_Slowest.f
  exact rslow_loop h crit.toNat 1 0 k (by omega) (by omega) (by omega)

end
end Go.Proofs.Ytonlaboeodddeaa.Adm
