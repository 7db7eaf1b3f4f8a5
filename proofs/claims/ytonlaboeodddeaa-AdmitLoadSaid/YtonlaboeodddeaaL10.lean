/- Chapter 10's laws, walked and answered: what a row calls. -/
import Derived.Test.YtonlaboeodddeaaGood
import Derived.Test.YtonlaboeodddeaaKinds
namespace Go.Proofs.Ytonlaboeodddeaa.Opn
open Go.RowKit Go.Proofs.Ytonlaboeodddeaa.F Go.Proofs.YtonlaboeodddeaaW.PrintWords Go.Proofs.YtonlaboeodddeaaW.PrintLast Go.Proofs.YtonlaboeodddeaaW.PrintMore
instance : Inhabited S29 := ⟨z29⟩
theorem oTask : Opens Try.prog 29 k29 (fun _ => True) :=
  opens_imp (opens_iso (f := fun x : S29 => (x.f0, x.f1, x.f2, x.f3)) (fun x => ⟨x.1, x.2.1, x.2.2.1, x.2.2.2⟩) (fun _ => rfl) (opens_struct Try.underlying29 (by kernel_rfl)
    (opensF_cons rfl (by kernel_rfl) oAny (opensF_cons rfl (by kernel_rfl) oAny (opensF_cons rfl (by kernel_rfl) (opens_slice Try.underlying27 (by kernel_rfl) oAny) (opensF_one rfl (by kernel_rfl) (opens_slice Try.underlying27 (by kernel_rfl) oAny))))))) (fun _ _ => trivial)
theorem oTasks : Opens Try.prog 31 (Kd.slice 29 k29) (fun _ => True) := opens_imp (opens_slice Try.underlying31 (by kernel_rfl) oTask) (fun _ _ => trivial)
end Go.Proofs.Ytonlaboeodddeaa.Opn
