/- The examples' answer, told as a function: always yes. -/
import Derived.Test.YtonlaboeodddeaaFx0
import Derived.Test.YtonlaboeodddeaaAns
namespace Go.Proofs.Ytonlaboeodddeaa.F
open Go.RowKit Go.Proofs.YtonlaboeodddeaaW.PrintWords Go.Proofs.YtonlaboeodddeaaW.PrintLast Go.Proofs.YtonlaboeodddeaaW.PrintMore
/-! ### dormouselaw10_answers: by this session's own walk -/
def dormouselaw10_answers.f : Option Bool := some true
theorem dormouselaw10_answers.calls (r : Bool) (w : World) (h : dormouselaw10_answers.f = some r) :
    Calls Try.prog 12 #[] w fun e w' => e = .returned (.bool r) ∧ Below w.heap.size w w' := by
  obtain rfl := Option.some.inj h
  exact Ans.answers_calls w
end Go.Proofs.Ytonlaboeodddeaa.F
