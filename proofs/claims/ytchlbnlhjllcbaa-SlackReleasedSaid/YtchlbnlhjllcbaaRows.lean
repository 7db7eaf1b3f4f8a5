/-
  No cell of these rows narrows 'for every input' (looked for: loops, veiled, ifaces, maps, wideKeys, modest, calm, conditions, laid).
  DERIVED. THE GIVEN ROWS OF THIS SEAT. 6 by the template 'for every input the law returns true; each argument reads behind the call as it read before'; 0 by the template 'total and deterministic' (their statements: YtchlbnlhjllcbaaTotals.lean).
  GIVEN WITH THE SEED: the statements are not yours to turn. If you find one false, say at which input.
  Laid BY PROGRAM, IN A SANDBOX (cutbox-rows.mjs): the forced cells as the released guide's own fill.sh prints them over the translation 60bf6971d69bb23f… (all of the seat's roots in one cut). By AI agents, Wed Nov 11 2026. No macro, syntax, notation, axiom, sorry.
-/
import Derived.Test.YtchlbnlhjllcbaaChecked
import GoSem.Claim
import GoSem.ClaimJoined
import GoSem.ClaimMapViews
import Derived.JoinedTies
import Derived.KernelRfl
namespace Go.Proofs.Ytchlbnlhjllcbaa
/- THE CELL 'sum', in the pinned program and in every row, IS THE sha256 OF THE DUMP (.gsa) THAT YtchlbnlhjllcbaaProg.lean LOADS. Nothing in Lean hashes anything: it is a label: what it is worth is what the hold of that sum in a sandbox is worth. -/
noncomputable def Try.pinned : Pinned := { name := "ytchlbnlhjllcbaa", sum := "60bf6971d69bb23ffc7a8f121890ed7a53a8f1bcb243d6a3d348481a408b008f", checked := Try.checked }
namespace Rows
def none {H : Type} : Left H := { results := [], args := [] }

/-- 'dormouselaw15.SlackReleased': WHATEVER THE INPUT: true; the input reads as it did. -/
def slackReleasedSpec : ChangeSpec := { name := "slackReleased", fn := fun _ => fun
  | [d1, d2, d3] => { results := [.lit (.bool true)], args := [d1, d2, d3] }
  | _ => none }
def slackReleasedRow : OpenClaim := { program := "ytchlbnlhjllcbaa", sum := "60bf6971d69bb23ffc7a8f121890ed7a53a8f1bcb243d6a3d348481a408b008f", func := "dormouse/dormouselaw15.SlackReleased", spec := "slackReleased", apart := false }
def SlackReleasedSaid : Prop := slackReleasedRow.holds Try.pinned (OpenSpec.ofChange slackReleasedSpec)

/-- ITS FALSE NEIGHBOUR: 'it returns false'. Refute it at one input. -/
def slackReleasedWrong : ChangeSpec := { name := "slackReleased", fn := fun _ => fun
  | [d1, d2, d3] => { results := [.lit (.bool false)], args := [d1, d2, d3] }
  | _ => none }
def SlackReleasedWrongFalsely : Prop := slackReleasedRow.holds Try.pinned (OpenSpec.ofChange slackReleasedWrong)

/-- 'dormouselaw17.RestReady': WHATEVER THE INPUT: true; the input reads as it did. -/
def restReadySpec : ChangeSpec := { name := "restReady", fn := fun _ => fun
  | [d] => { results := [.lit (.bool true)], args := [d] }
  | _ => none }
def restReadyRow : OpenClaim := { program := "ytchlbnlhjllcbaa", sum := "60bf6971d69bb23ffc7a8f121890ed7a53a8f1bcb243d6a3d348481a408b008f", func := "dormouse/dormouselaw17.RestReady", spec := "restReady", apart := false }
def RestReadySaid : Prop := restReadyRow.holds Try.pinned (OpenSpec.ofChange restReadySpec)

/-- ITS FALSE NEIGHBOUR: 'it returns false'. Refute it at one input. -/
def restReadyWrong : ChangeSpec := { name := "restReady", fn := fun _ => fun
  | [d] => { results := [.lit (.bool false)], args := [d] }
  | _ => none }
def RestReadyWrongFalsely : Prop := restReadyRow.holds Try.pinned (OpenSpec.ofChange restReadyWrong)

/-- 'dormouselaw17.RestFewer': WHATEVER THE INPUT: true; the input reads as it did. -/
def restFewerSpec : ChangeSpec := { name := "restFewer", fn := fun _ => fun
  | [d1, d2] => { results := [.lit (.bool true)], args := [d1, d2] }
  | _ => none }
def restFewerRow : OpenClaim := { program := "ytchlbnlhjllcbaa", sum := "60bf6971d69bb23ffc7a8f121890ed7a53a8f1bcb243d6a3d348481a408b008f", func := "dormouse/dormouselaw17.RestFewer", spec := "restFewer", apart := false }
def RestFewerSaid : Prop := restFewerRow.holds Try.pinned (OpenSpec.ofChange restFewerSpec)

/-- ITS FALSE NEIGHBOUR: 'it returns false'. Refute it at one input. -/
def restFewerWrong : ChangeSpec := { name := "restFewer", fn := fun _ => fun
  | [d1, d2] => { results := [.lit (.bool false)], args := [d1, d2] }
  | _ => none }
def RestFewerWrongFalsely : Prop := restFewerRow.holds Try.pinned (OpenSpec.ofChange restFewerWrong)

/-- 'dormouselaw17.RestTime': WHATEVER THE INPUT: true; the input reads as it did. -/
def restTimeSpec : ChangeSpec := { name := "restTime", fn := fun _ => fun
  | [d] => { results := [.lit (.bool true)], args := [d] }
  | _ => none }
def restTimeRow : OpenClaim := { program := "ytchlbnlhjllcbaa", sum := "60bf6971d69bb23ffc7a8f121890ed7a53a8f1bcb243d6a3d348481a408b008f", func := "dormouse/dormouselaw17.RestTime", spec := "restTime", apart := false }
def RestTimeSaid : Prop := restTimeRow.holds Try.pinned (OpenSpec.ofChange restTimeSpec)

/-- ITS FALSE NEIGHBOUR: 'it returns false'. Refute it at one input. -/
def restTimeWrong : ChangeSpec := { name := "restTime", fn := fun _ => fun
  | [d] => { results := [.lit (.bool false)], args := [d] }
  | _ => none }
def RestTimeWrongFalsely : Prop := restTimeRow.holds Try.pinned (OpenSpec.ofChange restTimeWrong)

/-- 'dormouselaw15.SlackRises': WHATEVER THE INPUT: true; the input reads as it did. -/
def slackRisesSpec : ChangeSpec := { name := "slackRises", fn := fun _ => fun
  | [d1, d2] => { results := [.lit (.bool true)], args := [d1, d2] }
  | _ => none }
def slackRisesRow : OpenClaim := { program := "ytchlbnlhjllcbaa", sum := "60bf6971d69bb23ffc7a8f121890ed7a53a8f1bcb243d6a3d348481a408b008f", func := "dormouse/dormouselaw15.SlackRises", spec := "slackRises", apart := false }
def SlackRisesSaid : Prop := slackRisesRow.holds Try.pinned (OpenSpec.ofChange slackRisesSpec)

/-- ITS FALSE NEIGHBOUR: 'it returns false'. Refute it at one input. -/
def slackRisesWrong : ChangeSpec := { name := "slackRises", fn := fun _ => fun
  | [d1, d2] => { results := [.lit (.bool false)], args := [d1, d2] }
  | _ => none }
def SlackRisesWrongFalsely : Prop := slackRisesRow.holds Try.pinned (OpenSpec.ofChange slackRisesWrong)

/-- 'dormouselaw15.SlackIdle': WHATEVER THE INPUT: true; the input reads as it did. -/
def slackIdleSpec : ChangeSpec := { name := "slackIdle", fn := fun _ => fun
  | [d1, d2] => { results := [.lit (.bool true)], args := [d1, d2] }
  | _ => none }
def slackIdleRow : OpenClaim := { program := "ytchlbnlhjllcbaa", sum := "60bf6971d69bb23ffc7a8f121890ed7a53a8f1bcb243d6a3d348481a408b008f", func := "dormouse/dormouselaw15.SlackIdle", spec := "slackIdle", apart := false }
def SlackIdleSaid : Prop := slackIdleRow.holds Try.pinned (OpenSpec.ofChange slackIdleSpec)

/-- ITS FALSE NEIGHBOUR: 'it returns false'. Refute it at one input. -/
def slackIdleWrong : ChangeSpec := { name := "slackIdle", fn := fun _ => fun
  | [d1, d2] => { results := [.lit (.bool false)], args := [d1, d2] }
  | _ => none }
def SlackIdleWrongFalsely : Prop := slackIdleRow.holds Try.pinned (OpenSpec.ofChange slackIdleWrong)

/- THE SECOND FORM. 'bulk': how many values and letters a reading holds, each counted each time it is reached (what is shared counts as often as it is met; a slice's spare places count too). A statement '..UptoSaid' is the law's where the arguments, and the package variables that the reading takes, are together of bulk at most 1048576: NARROWER than '..Said'. Prove '..Said' where nothing that the law and all that it calls make is longer than what came in: it says more and counts as full. Else prove '..UptoSaid'. A law counts once. -/
mutual
def uptoBulk {H : Type} : DataW H → Nat
  | .lit (.string bytes) => bytes.length + 1
  | .lit _ => 1
  | .nil => 1
  | .ptr d => uptoBulk d + 1
  | .slice elems spare => uptoBulkAll elems + uptoBulkAll spare + 1
  | .agg parts => uptoBulkAll parts + 1
  | .iface _ d => uptoBulk d + 1
  | .map entries => uptoBulkEntries entries + 1
  | .held _ => 1
def uptoBulkAll {H : Type} : List (DataW H) → Nat
  | [] => 0
  | d :: r => uptoBulk d + uptoBulkAll r
def uptoBulkEntries {H : Type} : List (Lit × DataW H) → Nat
  | [] => 0
  | x :: r => uptoBulkEntry x + uptoBulkEntries r
def uptoBulkEntry {H : Type} : Lit × DataW H → Nat
  | (.string bytes, d) => bytes.length + uptoBulk d + 1
  | (_, d) => uptoBulk d + 1
 end
def uptoSmall : (H : Type) → List (DataW H) → Bool := fun _ ds => decide (uptoBulkAll ds ≤ 1048576)
def OpenSpec.upto (s : _root_.Go.ChangeSpec) : _root_.Go.OpenSpec := { _root_.Go.OpenSpec.ofChange s with cond := some uptoSmall }

/-- 'dormouselaw15.SlackReleased', WHERE WHAT IT READS IS OF BULK AT MOST 1048576: true; the input reads as it did. -/
def slackReleasedUptoRow : OpenClaim := { program := "ytchlbnlhjllcbaa", sum := "60bf6971d69bb23ffc7a8f121890ed7a53a8f1bcb243d6a3d348481a408b008f", func := "dormouse/dormouselaw15.SlackReleased", spec := "slackReleased", apart := false, narrowed := true }
def SlackReleasedUptoSaid : Prop := slackReleasedUptoRow.holds Try.pinned (OpenSpec.upto slackReleasedSpec)

/-- 'dormouselaw17.RestReady', WHERE WHAT IT READS IS OF BULK AT MOST 1048576: true; the input reads as it did. -/
def restReadyUptoRow : OpenClaim := { program := "ytchlbnlhjllcbaa", sum := "60bf6971d69bb23ffc7a8f121890ed7a53a8f1bcb243d6a3d348481a408b008f", func := "dormouse/dormouselaw17.RestReady", spec := "restReady", apart := false, narrowed := true }
def RestReadyUptoSaid : Prop := restReadyUptoRow.holds Try.pinned (OpenSpec.upto restReadySpec)

/-- 'dormouselaw17.RestFewer', WHERE WHAT IT READS IS OF BULK AT MOST 1048576: true; the input reads as it did. -/
def restFewerUptoRow : OpenClaim := { program := "ytchlbnlhjllcbaa", sum := "60bf6971d69bb23ffc7a8f121890ed7a53a8f1bcb243d6a3d348481a408b008f", func := "dormouse/dormouselaw17.RestFewer", spec := "restFewer", apart := false, narrowed := true }
def RestFewerUptoSaid : Prop := restFewerUptoRow.holds Try.pinned (OpenSpec.upto restFewerSpec)

/-- 'dormouselaw17.RestTime', WHERE WHAT IT READS IS OF BULK AT MOST 1048576: true; the input reads as it did. -/
def restTimeUptoRow : OpenClaim := { program := "ytchlbnlhjllcbaa", sum := "60bf6971d69bb23ffc7a8f121890ed7a53a8f1bcb243d6a3d348481a408b008f", func := "dormouse/dormouselaw17.RestTime", spec := "restTime", apart := false, narrowed := true }
def RestTimeUptoSaid : Prop := restTimeUptoRow.holds Try.pinned (OpenSpec.upto restTimeSpec)

/-- 'dormouselaw15.SlackRises', WHERE WHAT IT READS IS OF BULK AT MOST 1048576: true; the input reads as it did. -/
def slackRisesUptoRow : OpenClaim := { program := "ytchlbnlhjllcbaa", sum := "60bf6971d69bb23ffc7a8f121890ed7a53a8f1bcb243d6a3d348481a408b008f", func := "dormouse/dormouselaw15.SlackRises", spec := "slackRises", apart := false, narrowed := true }
def SlackRisesUptoSaid : Prop := slackRisesUptoRow.holds Try.pinned (OpenSpec.upto slackRisesSpec)

/-- 'dormouselaw15.SlackIdle', WHERE WHAT IT READS IS OF BULK AT MOST 1048576: true; the input reads as it did. -/
def slackIdleUptoRow : OpenClaim := { program := "ytchlbnlhjllcbaa", sum := "60bf6971d69bb23ffc7a8f121890ed7a53a8f1bcb243d6a3d348481a408b008f", func := "dormouse/dormouselaw15.SlackIdle", spec := "slackIdle", apart := false, narrowed := true }
def SlackIdleUptoSaid : Prop := slackIdleUptoRow.holds Try.pinned (OpenSpec.upto slackIdleSpec)

end Rows
end Go.Proofs.Ytchlbnlhjllcbaa
