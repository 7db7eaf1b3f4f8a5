/-
  No cell of these rows narrows 'for every input' (looked for: loops, veiled, ifaces, maps, wideKeys, modest, calm, conditions, laid).
  DERIVED. THE GIVEN ROWS OF THIS SEAT. 7 by the template 'for every input the law returns true; each argument reads behind the call as it read before'; 0 by the template 'total and deterministic' (their statements: YtijlfnjfjmhdiaaTotals.lean).
  GIVEN WITH THE SEED: the statements are not yours to turn. If you find one false, say at which input.
  Laid BY PROGRAM, IN A SANDBOX (cutbox-rows.mjs): the forced cells as the released guide's own fill.sh prints them over the translation 89031a77ffa5b8ee… (all of the seat's roots in one cut). By AI agents, Wed Nov 11 2026. No macro, syntax, notation, axiom, sorry.
-/
import Derived.Test.YtijlfnjfjmhdiaaChecked
import GoSem.Claim
import GoSem.ClaimJoined
import GoSem.ClaimMapViews
import Derived.JoinedTies
import Derived.KernelRfl
namespace Go.Proofs.Ytijlfnjfjmhdiaa
/- THE CELL 'sum', in the pinned program and in every row, IS THE sha256 OF THE DUMP (.gsa) THAT YtijlfnjfjmhdiaaProg.lean LOADS. Nothing in Lean hashes anything: it is a label: what it is worth is what the hold of that sum in a sandbox is worth. -/
noncomputable def Try.pinned : Pinned := { name := "ytijlfnjfjmhdiaa", sum := "89031a77ffa5b8ee0067b7be347d7fe68de8b4bf452fbb396df516e802bdf5a0", checked := Try.checked }
namespace Rows
def none {H : Type} : Left H := { results := [], args := [] }

/-- 'dormouselaw11.JobEnds': WHATEVER THE INPUT: true; the input reads as it did. -/
def jobEndsSpec : ChangeSpec := { name := "jobEnds", fn := fun _ => fun
  | [d1, d2, d3] => { results := [.lit (.bool true)], args := [d1, d2, d3] }
  | _ => none }
def jobEndsRow : OpenClaim := { program := "ytijlfnjfjmhdiaa", sum := "89031a77ffa5b8ee0067b7be347d7fe68de8b4bf452fbb396df516e802bdf5a0", func := "dormouse/dormouselaw11.JobEnds", spec := "jobEnds", apart := false }
def JobEndsSaid : Prop := jobEndsRow.holds Try.pinned (OpenSpec.ofChange jobEndsSpec)

/-- ITS FALSE NEIGHBOUR: 'it returns false'. Refute it at one input. -/
def jobEndsWrong : ChangeSpec := { name := "jobEnds", fn := fun _ => fun
  | [d1, d2, d3] => { results := [.lit (.bool false)], args := [d1, d2, d3] }
  | _ => none }
def JobEndsWrongFalsely : Prop := jobEndsRow.holds Try.pinned (OpenSpec.ofChange jobEndsWrong)

/-- 'dormouselaw16.GovernChooses': WHATEVER THE INPUT: true; the input reads as it did. -/
def governChoosesSpec : ChangeSpec := { name := "governChooses", fn := fun _ => fun
  | [d1, d2] => { results := [.lit (.bool true)], args := [d1, d2] }
  | _ => none }
def governChoosesRow : OpenClaim := { program := "ytijlfnjfjmhdiaa", sum := "89031a77ffa5b8ee0067b7be347d7fe68de8b4bf452fbb396df516e802bdf5a0", func := "dormouse/dormouselaw16.GovernChooses", spec := "governChooses", apart := false }
def GovernChoosesSaid : Prop := governChoosesRow.holds Try.pinned (OpenSpec.ofChange governChoosesSpec)

/-- ITS FALSE NEIGHBOUR: 'it returns false'. Refute it at one input. -/
def governChoosesWrong : ChangeSpec := { name := "governChooses", fn := fun _ => fun
  | [d1, d2] => { results := [.lit (.bool false)], args := [d1, d2] }
  | _ => none }
def GovernChoosesWrongFalsely : Prop := governChoosesRow.holds Try.pinned (OpenSpec.ofChange governChoosesWrong)

/-- 'dormouselaw16.GovernTime': WHATEVER THE INPUT: true; the input reads as it did. -/
def governTimeSpec : ChangeSpec := { name := "governTime", fn := fun _ => fun
  | [d1, d2] => { results := [.lit (.bool true)], args := [d1, d2] }
  | _ => none }
def governTimeRow : OpenClaim := { program := "ytijlfnjfjmhdiaa", sum := "89031a77ffa5b8ee0067b7be347d7fe68de8b4bf452fbb396df516e802bdf5a0", func := "dormouse/dormouselaw16.GovernTime", spec := "governTime", apart := false }
def GovernTimeSaid : Prop := governTimeRow.holds Try.pinned (OpenSpec.ofChange governTimeSpec)

/-- ITS FALSE NEIGHBOUR: 'it returns false'. Refute it at one input. -/
def governTimeWrong : ChangeSpec := { name := "governTime", fn := fun _ => fun
  | [d1, d2] => { results := [.lit (.bool false)], args := [d1, d2] }
  | _ => none }
def GovernTimeWrongFalsely : Prop := governTimeRow.holds Try.pinned (OpenSpec.ofChange governTimeWrong)

/-- 'dormouselaw16.GovernMore': WHATEVER THE INPUT: true; the input reads as it did. -/
def governMoreSpec : ChangeSpec := { name := "governMore", fn := fun _ => fun
  | [d1, d2, d3] => { results := [.lit (.bool true)], args := [d1, d2, d3] }
  | _ => none }
def governMoreRow : OpenClaim := { program := "ytijlfnjfjmhdiaa", sum := "89031a77ffa5b8ee0067b7be347d7fe68de8b4bf452fbb396df516e802bdf5a0", func := "dormouse/dormouselaw16.GovernMore", spec := "governMore", apart := false }
def GovernMoreSaid : Prop := governMoreRow.holds Try.pinned (OpenSpec.ofChange governMoreSpec)

/-- ITS FALSE NEIGHBOUR: 'it returns false'. Refute it at one input. -/
def governMoreWrong : ChangeSpec := { name := "governMore", fn := fun _ => fun
  | [d1, d2, d3] => { results := [.lit (.bool false)], args := [d1, d2, d3] }
  | _ => none }
def GovernMoreWrongFalsely : Prop := governMoreRow.holds Try.pinned (OpenSpec.ofChange governMoreWrong)

/-- 'dormouselaw16.GovernLess': WHATEVER THE INPUT: true; the input reads as it did. -/
def governLessSpec : ChangeSpec := { name := "governLess", fn := fun _ => fun
  | [d1, d2, d3] => { results := [.lit (.bool true)], args := [d1, d2, d3] }
  | _ => none }
def governLessRow : OpenClaim := { program := "ytijlfnjfjmhdiaa", sum := "89031a77ffa5b8ee0067b7be347d7fe68de8b4bf452fbb396df516e802bdf5a0", func := "dormouse/dormouselaw16.GovernLess", spec := "governLess", apart := false }
def GovernLessSaid : Prop := governLessRow.holds Try.pinned (OpenSpec.ofChange governLessSpec)

/-- ITS FALSE NEIGHBOUR: 'it returns false'. Refute it at one input. -/
def governLessWrong : ChangeSpec := { name := "governLess", fn := fun _ => fun
  | [d1, d2, d3] => { results := [.lit (.bool false)], args := [d1, d2, d3] }
  | _ => none }
def GovernLessWrongFalsely : Prop := governLessRow.holds Try.pinned (OpenSpec.ofChange governLessWrong)

/-- 'dormouselaw16.GovernPolicies': WHATEVER THE INPUT: true; the input reads as it did. -/
def governPoliciesSpec : ChangeSpec := { name := "governPolicies", fn := fun _ => fun
  | [d1, d2] => { results := [.lit (.bool true)], args := [d1, d2] }
  | _ => none }
def governPoliciesRow : OpenClaim := { program := "ytijlfnjfjmhdiaa", sum := "89031a77ffa5b8ee0067b7be347d7fe68de8b4bf452fbb396df516e802bdf5a0", func := "dormouse/dormouselaw16.GovernPolicies", spec := "governPolicies", apart := false }
def GovernPoliciesSaid : Prop := governPoliciesRow.holds Try.pinned (OpenSpec.ofChange governPoliciesSpec)

/-- ITS FALSE NEIGHBOUR: 'it returns false'. Refute it at one input. -/
def governPoliciesWrong : ChangeSpec := { name := "governPolicies", fn := fun _ => fun
  | [d1, d2] => { results := [.lit (.bool false)], args := [d1, d2] }
  | _ => none }
def GovernPoliciesWrongFalsely : Prop := governPoliciesRow.holds Try.pinned (OpenSpec.ofChange governPoliciesWrong)

/-- 'dormouselaw11.JobPart': WHATEVER THE INPUT: true; the input reads as it did. -/
def jobPartSpec : ChangeSpec := { name := "jobPart", fn := fun _ => fun
  | [d1, d2, d3] => { results := [.lit (.bool true)], args := [d1, d2, d3] }
  | _ => none }
def jobPartRow : OpenClaim := { program := "ytijlfnjfjmhdiaa", sum := "89031a77ffa5b8ee0067b7be347d7fe68de8b4bf452fbb396df516e802bdf5a0", func := "dormouse/dormouselaw11.JobPart", spec := "jobPart", apart := false }
def JobPartSaid : Prop := jobPartRow.holds Try.pinned (OpenSpec.ofChange jobPartSpec)

/-- ITS FALSE NEIGHBOUR: 'it returns false'. Refute it at one input. -/
def jobPartWrong : ChangeSpec := { name := "jobPart", fn := fun _ => fun
  | [d1, d2, d3] => { results := [.lit (.bool false)], args := [d1, d2, d3] }
  | _ => none }
def JobPartWrongFalsely : Prop := jobPartRow.holds Try.pinned (OpenSpec.ofChange jobPartWrong)

/- THE SECOND FORM. 'bulk': how many values and letters a reading holds, each counted each time it is reached (what is shared counts as often as it is met; a slice's spare places count too). A statement '..UptoSaid' is the law's where the arguments, and the package variables that the reading takes, are together of bulk at most 1048576: NARROWER than '..Said'. Prove '..Said' where nothing that the law and all that it calls make is longer than what came in: it says more and counts as full. Else prove '..UptoSaid'. A law counts once. -/
mutual
def uptoBulk {H : Type} : DataW H → Nat
  | .lit (.string bytes) => bytes.length + 1
  | .lit _ => 1
  | .nil => 1
  | .ptr d => uptoBulk d + 1
  | .slice elems spare => uptoBulkAll elems + uptoBulkAll spare + 1
  | .agg parts => uptoBulkAll parts + 1
  | .iface _ d => uptoBulk d + 1
  | .map entries => uptoBulkEntries entries + 1
  | .held _ => 1
def uptoBulkAll {H : Type} : List (DataW H) → Nat
  | [] => 0
  | d :: r => uptoBulk d + uptoBulkAll r
def uptoBulkEntries {H : Type} : List (Lit × DataW H) → Nat
  | [] => 0
  | x :: r => uptoBulkEntry x + uptoBulkEntries r
def uptoBulkEntry {H : Type} : Lit × DataW H → Nat
  | (.string bytes, d) => bytes.length + uptoBulk d + 1
  | (_, d) => uptoBulk d + 1
 end
def uptoSmall : (H : Type) → List (DataW H) → Bool := fun _ ds => decide (uptoBulkAll ds ≤ 1048576)
def OpenSpec.upto (s : _root_.Go.ChangeSpec) : _root_.Go.OpenSpec := { _root_.Go.OpenSpec.ofChange s with cond := some uptoSmall }

/-- 'dormouselaw11.JobEnds', WHERE WHAT IT READS IS OF BULK AT MOST 1048576: true; the input reads as it did. -/
def jobEndsUptoRow : OpenClaim := { program := "ytijlfnjfjmhdiaa", sum := "89031a77ffa5b8ee0067b7be347d7fe68de8b4bf452fbb396df516e802bdf5a0", func := "dormouse/dormouselaw11.JobEnds", spec := "jobEnds", apart := false, narrowed := true }
def JobEndsUptoSaid : Prop := jobEndsUptoRow.holds Try.pinned (OpenSpec.upto jobEndsSpec)

/-- 'dormouselaw16.GovernChooses', WHERE WHAT IT READS IS OF BULK AT MOST 1048576: true; the input reads as it did. -/
def governChoosesUptoRow : OpenClaim := { program := "ytijlfnjfjmhdiaa", sum := "89031a77ffa5b8ee0067b7be347d7fe68de8b4bf452fbb396df516e802bdf5a0", func := "dormouse/dormouselaw16.GovernChooses", spec := "governChooses", apart := false, narrowed := true }
def GovernChoosesUptoSaid : Prop := governChoosesUptoRow.holds Try.pinned (OpenSpec.upto governChoosesSpec)

/-- 'dormouselaw16.GovernTime', WHERE WHAT IT READS IS OF BULK AT MOST 1048576: true; the input reads as it did. -/
def governTimeUptoRow : OpenClaim := { program := "ytijlfnjfjmhdiaa", sum := "89031a77ffa5b8ee0067b7be347d7fe68de8b4bf452fbb396df516e802bdf5a0", func := "dormouse/dormouselaw16.GovernTime", spec := "governTime", apart := false, narrowed := true }
def GovernTimeUptoSaid : Prop := governTimeUptoRow.holds Try.pinned (OpenSpec.upto governTimeSpec)

/-- 'dormouselaw16.GovernMore', WHERE WHAT IT READS IS OF BULK AT MOST 1048576: true; the input reads as it did. -/
def governMoreUptoRow : OpenClaim := { program := "ytijlfnjfjmhdiaa", sum := "89031a77ffa5b8ee0067b7be347d7fe68de8b4bf452fbb396df516e802bdf5a0", func := "dormouse/dormouselaw16.GovernMore", spec := "governMore", apart := false, narrowed := true }
def GovernMoreUptoSaid : Prop := governMoreUptoRow.holds Try.pinned (OpenSpec.upto governMoreSpec)

/-- 'dormouselaw16.GovernLess', WHERE WHAT IT READS IS OF BULK AT MOST 1048576: true; the input reads as it did. -/
def governLessUptoRow : OpenClaim := { program := "ytijlfnjfjmhdiaa", sum := "89031a77ffa5b8ee0067b7be347d7fe68de8b4bf452fbb396df516e802bdf5a0", func := "dormouse/dormouselaw16.GovernLess", spec := "governLess", apart := false, narrowed := true }
def GovernLessUptoSaid : Prop := governLessUptoRow.holds Try.pinned (OpenSpec.upto governLessSpec)

/-- 'dormouselaw16.GovernPolicies', WHERE WHAT IT READS IS OF BULK AT MOST 1048576: true; the input reads as it did. -/
def governPoliciesUptoRow : OpenClaim := { program := "ytijlfnjfjmhdiaa", sum := "89031a77ffa5b8ee0067b7be347d7fe68de8b4bf452fbb396df516e802bdf5a0", func := "dormouse/dormouselaw16.GovernPolicies", spec := "governPolicies", apart := false, narrowed := true }
def GovernPoliciesUptoSaid : Prop := governPoliciesUptoRow.holds Try.pinned (OpenSpec.upto governPoliciesSpec)

/-- 'dormouselaw11.JobPart', WHERE WHAT IT READS IS OF BULK AT MOST 1048576: true; the input reads as it did. -/
def jobPartUptoRow : OpenClaim := { program := "ytijlfnjfjmhdiaa", sum := "89031a77ffa5b8ee0067b7be347d7fe68de8b4bf452fbb396df516e802bdf5a0", func := "dormouse/dormouselaw11.JobPart", spec := "jobPart", apart := false, narrowed := true }
def JobPartUptoSaid : Prop := jobPartUptoRow.holds Try.pinned (OpenSpec.upto jobPartSpec)

end Rows
end Go.Proofs.Ytijlfnjfjmhdiaa
