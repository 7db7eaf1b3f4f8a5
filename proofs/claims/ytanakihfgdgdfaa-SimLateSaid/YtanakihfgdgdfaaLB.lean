/- Chapter 25's laws: what all share. -/
import Derived.Test.YtanakihfgdgdfaaSr
import Derived.Test.YtanakihfgdgdfaaOpen
import Derived.Test.YtanakihfgdgdfaaFx9
namespace Go.Proofs.Ytanakihfgdgdfaa.Opn
open Go.RowKit Go.ChangeShapes Go.WideShapes Go.Deep Go.Proofs.Ytanakihfgdgdfaa.F Go.Proofs.YtanakihfgdgdfaaW.PrintWords Go.Proofs.YtanakihfgdgdfaaW.PrintLast Go.Proofs.YtanakihfgdgdfaaW.PrintMore
instance : Inhabited S32 := ⟨z32⟩
theorem oInt : Opens Try.prog 3 (Kd.int .i64) (fun n => (Lit.int .i64 n).wf = true) := opens_int Try.underlying3
theorem oAny : Opens Try.prog 3 (Kd.int .i64) (fun _ => True) := opens_imp oInt (fun _ _ => trivial)
theorem oWork : Opens Try.prog 32 k32 (fun _ => True) :=
  opens_imp (opens_iso (f := fun x : S32 => (x.f0, x.f1, x.f2)) (fun x => ⟨x.1, x.2.1, x.2.2⟩) (fun _ => rfl) (opens_struct Try.underlying32 (by kernel_rfl)
    (opensF_cons rfl (by kernel_rfl) oAny (opensF_cons rfl (by kernel_rfl) oAny (opensF_one rfl (by kernel_rfl) oAny))))) (fun _ _ => trivial)
theorem oWorks : Opens Try.prog 22 (Kd.slice 32 k32) (fun _ => True) := opens_imp (opens_slice Try.underlying22 (by kernel_rfl) oWork) (fun _ _ => trivial)
end Go.Proofs.Ytanakihfgdgdfaa.Opn
namespace Go.Proofs.Ytanakihfgdgdfaa.Law
open Go.RowKit Go.Proofs.Ytanakihfgdgdfaa.F Go.Proofs.Ytanakihfgdgdfaa.Edf Go.Proofs.Ytanakihfgdgdfaa.Sm Go.Proofs.Ytanakihfgdgdfaa.Opn Go.Proofs.YtanakihfgdgdfaaW.PrintWords Go.Proofs.YtanakihfgdgdfaaW.PrintLast Go.Proofs.YtanakihfgdgdfaaW.PrintMore
set_option linter.unusedVariables false
theorem ans100 : dormouselaw25_answers.f 100 = some true := by decide +kernel
theorem answers_yes {k : Nat} (hk : 100 ≤ k) : dormouselaw25_answers.f k = some true := by
  obtain ⟨d, rfl⟩ := Nat.le.dest hk
  clear hk
  induction d with
  | zero => exact ans100
  | succ d ih => exact dormouselaw25_answers.mono _ _ ih
theorem bd_u8 {n : Int} (h : (Lit.int .u8 n).wf = true) : 0 ≤ n ∧ n ≤ 255 := by
  simp [Lit.wf, IntKind.min, IntKind.max, IntKind.signed, IntKind.bits] at h; omega
theorem bd_i64 {n : Int} (h : (Lit.int .i64 n).wf = true) : -9223372036854775808 ≤ n ∧ n ≤ 9223372036854775807 := by
  simp [Lit.wf, IntKind.min, IntKind.max, IntKind.signed, IntKind.bits] at h; omega
theorem great : ∃ k : Nat, 20000000 < k := ⟨_, Nat.lt_succ_self _⟩
/-- a work that is put into a list -/
theorem rd_set (m : List S32) {i : Nat} (x : S32) (j : Nat) (him : i < m.length) : rd_T32 (m.set i x) j = if j = i then x else rd_T32 m j := by
  unfold rd_T32
  rw [Int.toNat_natCast, List.getD_eq_getElem?_getD, List.getElem?_set]
  by_cases h : i = j
  · subst h; rw [if_pos rfl, if_pos him, if_pos rfl]; rfl
  · rw [if_neg h, if_neg (fun x => h x.symm), List.getD_eq_getElem?_getD]
end Go.Proofs.Ytanakihfgdgdfaa.Law
