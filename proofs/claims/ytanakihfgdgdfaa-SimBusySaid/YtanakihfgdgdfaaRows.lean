/-
  No cell of these rows narrows 'for every input' (looked for: loops, veiled, ifaces, maps, wideKeys, modest, calm, conditions, laid).
  DERIVED. THE GIVEN ROWS OF THIS SEAT. 7 by the template 'for every input the law returns true; each argument reads behind the call as it read before'; 0 by the template 'total and deterministic' (their statements: YtanakihfgdgdfaaTotals.lean).
  GIVEN WITH THE SEED: the statements are not yours to turn. If you find one false, say at which input.
  Laid BY PROGRAM, IN A SANDBOX (cutbox-rows.mjs): the forced cells as the released guide's own fill.sh prints them over the translation f4d7abe8abf71787… (all of the seat's roots in one cut). By AI agents, Wed Nov 11 2026. No macro, syntax, notation, axiom, sorry.
-/
import Derived.Test.YtanakihfgdgdfaaChecked
import GoSem.Claim
import GoSem.ClaimJoined
import GoSem.ClaimMapViews
import Derived.JoinedTies
import Derived.KernelRfl
namespace Go.Proofs.Ytanakihfgdgdfaa
/- THE CELL 'sum', in the pinned program and in every row, IS THE sha256 OF THE DUMP (.gsa) THAT YtanakihfgdgdfaaProg.lean LOADS. Nothing in Lean hashes anything: it is a label: what it is worth is what the hold of that sum in a sandbox is worth. -/
noncomputable def Try.pinned : Pinned := { name := "ytanakihfgdgdfaa", sum := "f4d7abe8abf71787a52820513c44b0538ac18e30102a491195b6d6cb5465cb80", checked := Try.checked }
namespace Rows
def none {H : Type} : Left H := { results := [], args := [] }

/-- 'dormouselaw25.SimRuns': WHATEVER THE INPUT: true; the input reads as it did. -/
def simRunsSpec : ChangeSpec := { name := "simRuns", fn := fun _ => fun
  | [d] => { results := [.lit (.bool true)], args := [d] }
  | _ => none }
def simRunsRow : OpenClaim := { program := "ytanakihfgdgdfaa", sum := "f4d7abe8abf71787a52820513c44b0538ac18e30102a491195b6d6cb5465cb80", func := "dormouse/dormouselaw25.SimRuns", spec := "simRuns", apart := false }
def SimRunsSaid : Prop := simRunsRow.holds Try.pinned (OpenSpec.ofChange simRunsSpec)

/-- ITS FALSE NEIGHBOUR: 'it returns false'. Refute it at one input. -/
def simRunsWrong : ChangeSpec := { name := "simRuns", fn := fun _ => fun
  | [d] => { results := [.lit (.bool false)], args := [d] }
  | _ => none }
def SimRunsWrongFalsely : Prop := simRunsRow.holds Try.pinned (OpenSpec.ofChange simRunsWrong)

/-- 'dormouselaw25.SimLate': WHATEVER THE INPUT: true; the input reads as it did. -/
def simLateSpec : ChangeSpec := { name := "simLate", fn := fun _ => fun
  | [d1, d2, d3] => { results := [.lit (.bool true)], args := [d1, d2, d3] }
  | _ => none }
def simLateRow : OpenClaim := { program := "ytanakihfgdgdfaa", sum := "f4d7abe8abf71787a52820513c44b0538ac18e30102a491195b6d6cb5465cb80", func := "dormouse/dormouselaw25.SimLate", spec := "simLate", apart := false }
def SimLateSaid : Prop := simLateRow.holds Try.pinned (OpenSpec.ofChange simLateSpec)

/-- ITS FALSE NEIGHBOUR: 'it returns false'. Refute it at one input. -/
def simLateWrong : ChangeSpec := { name := "simLate", fn := fun _ => fun
  | [d1, d2, d3] => { results := [.lit (.bool false)], args := [d1, d2, d3] }
  | _ => none }
def SimLateWrongFalsely : Prop := simLateRow.holds Try.pinned (OpenSpec.ofChange simLateWrong)

/-- 'dormouselaw25.SimCriterion': WHATEVER THE INPUT: true; the input reads as it did. -/
def simCriterionSpec : ChangeSpec := { name := "simCriterion", fn := fun _ => fun
  | [d] => { results := [.lit (.bool true)], args := [d] }
  | _ => none }
def simCriterionRow : OpenClaim := { program := "ytanakihfgdgdfaa", sum := "f4d7abe8abf71787a52820513c44b0538ac18e30102a491195b6d6cb5465cb80", func := "dormouse/dormouselaw25.SimCriterion", spec := "simCriterion", apart := false }
def SimCriterionSaid : Prop := simCriterionRow.holds Try.pinned (OpenSpec.ofChange simCriterionSpec)

/-- ITS FALSE NEIGHBOUR: 'it returns false'. Refute it at one input. -/
def simCriterionWrong : ChangeSpec := { name := "simCriterion", fn := fun _ => fun
  | [d] => { results := [.lit (.bool false)], args := [d] }
  | _ => none }
def SimCriterionWrongFalsely : Prop := simCriterionRow.holds Try.pinned (OpenSpec.ofChange simCriterionWrong)

/-- 'dormouselaw25.SimBest': WHATEVER THE INPUT: true; the input reads as it did. -/
def simBestSpec : ChangeSpec := { name := "simBest", fn := fun _ => fun
  | [d1, d2] => { results := [.lit (.bool true)], args := [d1, d2] }
  | _ => none }
def simBestRow : OpenClaim := { program := "ytanakihfgdgdfaa", sum := "f4d7abe8abf71787a52820513c44b0538ac18e30102a491195b6d6cb5465cb80", func := "dormouse/dormouselaw25.SimBest", spec := "simBest", apart := false }
def SimBestSaid : Prop := simBestRow.holds Try.pinned (OpenSpec.ofChange simBestSpec)

/-- ITS FALSE NEIGHBOUR: 'it returns false'. Refute it at one input. -/
def simBestWrong : ChangeSpec := { name := "simBest", fn := fun _ => fun
  | [d1, d2] => { results := [.lit (.bool false)], args := [d1, d2] }
  | _ => none }
def SimBestWrongFalsely : Prop := simBestRow.holds Try.pinned (OpenSpec.ofChange simBestWrong)

/-- 'dormouselaw25.SimLess': WHATEVER THE INPUT: true; the input reads as it did. -/
def simLessSpec : ChangeSpec := { name := "simLess", fn := fun _ => fun
  | [d1, d2, d3] => { results := [.lit (.bool true)], args := [d1, d2, d3] }
  | _ => none }
def simLessRow : OpenClaim := { program := "ytanakihfgdgdfaa", sum := "f4d7abe8abf71787a52820513c44b0538ac18e30102a491195b6d6cb5465cb80", func := "dormouse/dormouselaw25.SimLess", spec := "simLess", apart := false }
def SimLessSaid : Prop := simLessRow.holds Try.pinned (OpenSpec.ofChange simLessSpec)

/-- ITS FALSE NEIGHBOUR: 'it returns false'. Refute it at one input. -/
def simLessWrong : ChangeSpec := { name := "simLess", fn := fun _ => fun
  | [d1, d2, d3] => { results := [.lit (.bool false)], args := [d1, d2, d3] }
  | _ => none }
def SimLessWrongFalsely : Prop := simLessRow.holds Try.pinned (OpenSpec.ofChange simLessWrong)

/-- 'dormouselaw25.SimBusy': WHATEVER THE INPUT: true; the input reads as it did. -/
def simBusySpec : ChangeSpec := { name := "simBusy", fn := fun _ => fun
  | [d1, d2] => { results := [.lit (.bool true)], args := [d1, d2] }
  | _ => none }
def simBusyRow : OpenClaim := { program := "ytanakihfgdgdfaa", sum := "f4d7abe8abf71787a52820513c44b0538ac18e30102a491195b6d6cb5465cb80", func := "dormouse/dormouselaw25.SimBusy", spec := "simBusy", apart := false }
def SimBusySaid : Prop := simBusyRow.holds Try.pinned (OpenSpec.ofChange simBusySpec)

/-- ITS FALSE NEIGHBOUR: 'it returns false'. Refute it at one input. -/
def simBusyWrong : ChangeSpec := { name := "simBusy", fn := fun _ => fun
  | [d1, d2] => { results := [.lit (.bool false)], args := [d1, d2] }
  | _ => none }
def SimBusyWrongFalsely : Prop := simBusyRow.holds Try.pinned (OpenSpec.ofChange simBusyWrong)

/-- 'dormouselaw25.SimFewer': WHATEVER THE INPUT: true; the input reads as it did. -/
def simFewerSpec : ChangeSpec := { name := "simFewer", fn := fun _ => fun
  | [d1, d2] => { results := [.lit (.bool true)], args := [d1, d2] }
  | _ => none }
def simFewerRow : OpenClaim := { program := "ytanakihfgdgdfaa", sum := "f4d7abe8abf71787a52820513c44b0538ac18e30102a491195b6d6cb5465cb80", func := "dormouse/dormouselaw25.SimFewer", spec := "simFewer", apart := false }
def SimFewerSaid : Prop := simFewerRow.holds Try.pinned (OpenSpec.ofChange simFewerSpec)

/-- ITS FALSE NEIGHBOUR: 'it returns false'. Refute it at one input. -/
def simFewerWrong : ChangeSpec := { name := "simFewer", fn := fun _ => fun
  | [d1, d2] => { results := [.lit (.bool false)], args := [d1, d2] }
  | _ => none }
def SimFewerWrongFalsely : Prop := simFewerRow.holds Try.pinned (OpenSpec.ofChange simFewerWrong)

/- THE SECOND FORM. 'bulk': how many values and letters a reading holds, each counted each time it is reached (what is shared counts as often as it is met; a slice's spare places count too). A statement '..UptoSaid' is the law's where the arguments, and the package variables that the reading takes, are together of bulk at most 1048576: NARROWER than '..Said'. Prove '..Said' where nothing that the law and all that it calls make is longer than what came in: it says more and counts as full. Else prove '..UptoSaid'. A law counts once. -/
mutual
def uptoBulk {H : Type} : DataW H → Nat
  | .lit (.string bytes) => bytes.length + 1
  | .lit _ => 1
  | .nil => 1
  | .ptr d => uptoBulk d + 1
  | .slice elems spare => uptoBulkAll elems + uptoBulkAll spare + 1
  | .agg parts => uptoBulkAll parts + 1
  | .iface _ d => uptoBulk d + 1
  | .map entries => uptoBulkEntries entries + 1
  | .held _ => 1
def uptoBulkAll {H : Type} : List (DataW H) → Nat
  | [] => 0
  | d :: r => uptoBulk d + uptoBulkAll r
def uptoBulkEntries {H : Type} : List (Lit × DataW H) → Nat
  | [] => 0
  | x :: r => uptoBulkEntry x + uptoBulkEntries r
def uptoBulkEntry {H : Type} : Lit × DataW H → Nat
  | (.string bytes, d) => bytes.length + uptoBulk d + 1
  | (_, d) => uptoBulk d + 1
 end
def uptoSmall : (H : Type) → List (DataW H) → Bool := fun _ ds => decide (uptoBulkAll ds ≤ 1048576)
def OpenSpec.upto (s : _root_.Go.ChangeSpec) : _root_.Go.OpenSpec := { _root_.Go.OpenSpec.ofChange s with cond := some uptoSmall }

/-- 'dormouselaw25.SimRuns', WHERE WHAT IT READS IS OF BULK AT MOST 1048576: true; the input reads as it did. -/
def simRunsUptoRow : OpenClaim := { program := "ytanakihfgdgdfaa", sum := "f4d7abe8abf71787a52820513c44b0538ac18e30102a491195b6d6cb5465cb80", func := "dormouse/dormouselaw25.SimRuns", spec := "simRuns", apart := false, narrowed := true }
def SimRunsUptoSaid : Prop := simRunsUptoRow.holds Try.pinned (OpenSpec.upto simRunsSpec)

/-- 'dormouselaw25.SimLate', WHERE WHAT IT READS IS OF BULK AT MOST 1048576: true; the input reads as it did. -/
def simLateUptoRow : OpenClaim := { program := "ytanakihfgdgdfaa", sum := "f4d7abe8abf71787a52820513c44b0538ac18e30102a491195b6d6cb5465cb80", func := "dormouse/dormouselaw25.SimLate", spec := "simLate", apart := false, narrowed := true }
def SimLateUptoSaid : Prop := simLateUptoRow.holds Try.pinned (OpenSpec.upto simLateSpec)

/-- 'dormouselaw25.SimCriterion', WHERE WHAT IT READS IS OF BULK AT MOST 1048576: true; the input reads as it did. -/
def simCriterionUptoRow : OpenClaim := { program := "ytanakihfgdgdfaa", sum := "f4d7abe8abf71787a52820513c44b0538ac18e30102a491195b6d6cb5465cb80", func := "dormouse/dormouselaw25.SimCriterion", spec := "simCriterion", apart := false, narrowed := true }
def SimCriterionUptoSaid : Prop := simCriterionUptoRow.holds Try.pinned (OpenSpec.upto simCriterionSpec)

/-- 'dormouselaw25.SimBest', WHERE WHAT IT READS IS OF BULK AT MOST 1048576: true; the input reads as it did. -/
def simBestUptoRow : OpenClaim := { program := "ytanakihfgdgdfaa", sum := "f4d7abe8abf71787a52820513c44b0538ac18e30102a491195b6d6cb5465cb80", func := "dormouse/dormouselaw25.SimBest", spec := "simBest", apart := false, narrowed := true }
def SimBestUptoSaid : Prop := simBestUptoRow.holds Try.pinned (OpenSpec.upto simBestSpec)

/-- 'dormouselaw25.SimLess', WHERE WHAT IT READS IS OF BULK AT MOST 1048576: true; the input reads as it did. -/
def simLessUptoRow : OpenClaim := { program := "ytanakihfgdgdfaa", sum := "f4d7abe8abf71787a52820513c44b0538ac18e30102a491195b6d6cb5465cb80", func := "dormouse/dormouselaw25.SimLess", spec := "simLess", apart := false, narrowed := true }
def SimLessUptoSaid : Prop := simLessUptoRow.holds Try.pinned (OpenSpec.upto simLessSpec)

/-- 'dormouselaw25.SimBusy', WHERE WHAT IT READS IS OF BULK AT MOST 1048576: true; the input reads as it did. -/
def simBusyUptoRow : OpenClaim := { program := "ytanakihfgdgdfaa", sum := "f4d7abe8abf71787a52820513c44b0538ac18e30102a491195b6d6cb5465cb80", func := "dormouse/dormouselaw25.SimBusy", spec := "simBusy", apart := false, narrowed := true }
def SimBusyUptoSaid : Prop := simBusyUptoRow.holds Try.pinned (OpenSpec.upto simBusySpec)

/-- 'dormouselaw25.SimFewer', WHERE WHAT IT READS IS OF BULK AT MOST 1048576: true; the input reads as it did. -/
def simFewerUptoRow : OpenClaim := { program := "ytanakihfgdgdfaa", sum := "f4d7abe8abf71787a52820513c44b0538ac18e30102a491195b6d6cb5465cb80", func := "dormouse/dormouselaw25.SimFewer", spec := "simFewer", apart := false, narrowed := true }
def SimFewerUptoSaid : Prop := simFewerUptoRow.holds Try.pinned (OpenSpec.upto simFewerSpec)

end Rows
end Go.Proofs.Ytanakihfgdgdfaa
