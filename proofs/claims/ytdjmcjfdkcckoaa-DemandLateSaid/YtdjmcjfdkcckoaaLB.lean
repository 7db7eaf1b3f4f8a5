/- Chapter 28's laws: what all share. -/
import Derived.Test.YtdjmcjfdkcckoaaDm
import Derived.Test.YtdjmcjfdkcckoaaKinds
import Derived.Test.YtdjmcjfdkcckoaaG1
namespace Go.Proofs.Ytdjmcjfdkcckoaa.Opn
open Go.RowKit Go.Proofs.Ytdjmcjfdkcckoaa.F Go.Proofs.YtdjmcjfdkcckoaaW.PrintWords Go.Proofs.YtdjmcjfdkcckoaaW.PrintLast Go.Proofs.YtdjmcjfdkcckoaaW.PrintMore
instance : Inhabited S36 := ⟨z36⟩
theorem oSource : Opens Try.prog 36 k36 (fun _ => True) :=
  opens_imp (opens_iso (f := fun x : S36 => (x.f0, x.f1, x.f2)) (fun x => ⟨x.1, x.2.1, x.2.2⟩) (fun _ => rfl) (opens_struct Try.underlying36 (by kernel_rfl)
    (opensF_cons rfl (by kernel_rfl) oAny (opensF_cons rfl (by kernel_rfl) oAny (opensF_one rfl (by kernel_rfl) oAny))))) (fun _ _ => trivial)
theorem oSources : Opens Try.prog 22 (Kd.slice 36 k36) (fun _ => True) := opens_imp (opens_slice Try.underlying22 (by kernel_rfl) oSource) (fun _ _ => trivial)
end Go.Proofs.Ytdjmcjfdkcckoaa.Opn
namespace Go.Proofs.Ytdjmcjfdkcckoaa.Law
open Go.RowKit Go.Proofs.Ytdjmcjfdkcckoaa.F Go.Proofs.Ytdjmcjfdkcckoaa.Edf Go.Proofs.Ytdjmcjfdkcckoaa.Dem Go.Proofs.Ytdjmcjfdkcckoaa.Dm Go.Proofs.Ytdjmcjfdkcckoaa.Opn Go.Proofs.YtdjmcjfdkcckoaaW.PrintWords Go.Proofs.YtdjmcjfdkcckoaaW.PrintLast Go.Proofs.YtdjmcjfdkcckoaaW.PrintMore
set_option linter.unusedVariables false
theorem ans60 : dormouselaw28_answers.f 60 = some true := by decide +kernel
theorem answers_yes {k : Nat} (hk : 60 ≤ k) : dormouselaw28_answers.f k = some true := by
  obtain ⟨d, rfl⟩ := Nat.le.dest hk
  clear hk
  induction d with
  | zero => exact ans60
  | succ d ih => exact dormouselaw28_answers.mono _ _ ih
theorem bd_u8 {n : Int} (h : (Lit.int .u8 n).wf = true) : 0 ≤ n ∧ n ≤ 255 := by
  simp [Lit.wf, IntKind.min, IntKind.max, IntKind.signed, IntKind.bits] at h; omega
theorem bd_u32 {n : Int} (h : (Lit.int .u32 n).wf = true) : 0 ≤ n ∧ n ≤ 4294967295 := by
  simp [Lit.wf, IntKind.min, IntKind.max, IntKind.signed, IntKind.bits] at h; omega
theorem great : ∃ k : Nat, 2100000 < k := ⟨_, Nat.lt_succ_self _⟩
end Go.Proofs.Ytdjmcjfdkcckoaa.Law
