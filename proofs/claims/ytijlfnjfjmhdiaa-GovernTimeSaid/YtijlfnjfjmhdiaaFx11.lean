/- The examples' answer, told as a function: always yes. -/
import Derived.Test.YtijlfnjfjmhdiaaAns16
namespace Go.Proofs.Ytijlfnjfjmhdiaa.F
open Go.RowKit Go.Proofs.YtijlfnjfjmhdiaaW.PrintWords Go.Proofs.YtijlfnjfjmhdiaaW.PrintLast Go.Proofs.YtijlfnjfjmhdiaaW.PrintMore
def dormouselaw16_answers.f (_k : Nat) : Option Bool := some true
theorem dormouselaw16_answers.mono : ∀ k, LeO (dormouselaw16_answers.f k) (dormouselaw16_answers.f (k + 1)) := fun _ _ h => h
theorem dormouselaw16_answers.calls (k : Nat) (r : Bool) (w : World) (h : dormouselaw16_answers.f k = some r) :
    Calls Try.prog 15 #[] w fun e w' => e = .returned (.bool r) ∧ Below w.heap.size w w' := by
  obtain rfl := Option.some.inj h
  exact Ans.answers_calls w
end Go.Proofs.Ytijlfnjfjmhdiaa.F
