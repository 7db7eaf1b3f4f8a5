/-
  No cell of these rows narrows 'for every input' (looked for: loops, veiled, ifaces, maps, wideKeys, modest, calm, conditions, laid).
  DERIVED. THE GIVEN ROWS OF THIS SEAT. 9 by the template 'for every input the law returns true; each argument reads behind the call as it read before'; 0 by the template 'total and deterministic' (their statements: YtdjmcjfdkcckoaaTotals.lean).
  GIVEN WITH THE SEED: the statements are not yours to turn. If you find one false, say at which input.
  Laid BY PROGRAM, IN A SANDBOX (cutbox-rows.mjs): the forced cells as the released guide's own fill.sh prints them over the translation ba7c4522d69b8f9c… (all of the seat's roots in one cut). By AI agents, Wed Nov 11 2026. No macro, syntax, notation, axiom, sorry.
-/
import Derived.Test.YtdjmcjfdkcckoaaChecked
import GoSem.Claim
import GoSem.ClaimJoined
import GoSem.ClaimMapViews
import Derived.JoinedTies
import Derived.KernelRfl
namespace Go.Proofs.Ytdjmcjfdkcckoaa
/- THE CELL 'sum', in the pinned program and in every row, IS THE sha256 OF THE DUMP (.gsa) THAT YtdjmcjfdkcckoaaProg.lean LOADS. Nothing in Lean hashes anything: it is a label: what it is worth is what the hold of that sum in a sandbox is worth. -/
noncomputable def Try.pinned : Pinned := { name := "ytdjmcjfdkcckoaa", sum := "ba7c4522d69b8f9c174a3120cfaf1f032d3d1f0fd1ce3d9f26db01fcc73ad807", checked := Try.checked }
namespace Rows
def none {H : Type} : Left H := { results := [], args := [] }

/-- 'dormouselaw28.DemandOf': WHATEVER THE INPUT: true; the input reads as it did. -/
def demandOfSpec : ChangeSpec := { name := "demandOf", fn := fun _ => fun
  | [d1, d2] => { results := [.lit (.bool true)], args := [d1, d2] }
  | _ => none }
def demandOfRow : OpenClaim := { program := "ytdjmcjfdkcckoaa", sum := "ba7c4522d69b8f9c174a3120cfaf1f032d3d1f0fd1ce3d9f26db01fcc73ad807", func := "dormouse/dormouselaw28.DemandOf", spec := "demandOf", apart := false }
def DemandOfSaid : Prop := demandOfRow.holds Try.pinned (OpenSpec.ofChange demandOfSpec)

/-- ITS FALSE NEIGHBOUR: 'it returns false'. Refute it at one input. -/
def demandOfWrong : ChangeSpec := { name := "demandOf", fn := fun _ => fun
  | [d1, d2] => { results := [.lit (.bool false)], args := [d1, d2] }
  | _ => none }
def DemandOfWrongFalsely : Prop := demandOfRow.holds Try.pinned (OpenSpec.ofChange demandOfWrong)

/-- 'dormouselaw28.DemandBusy': WHATEVER THE INPUT: true; the input reads as it did. -/
def demandBusySpec : ChangeSpec := { name := "demandBusy", fn := fun _ => fun
  | [d] => { results := [.lit (.bool true)], args := [d] }
  | _ => none }
def demandBusyRow : OpenClaim := { program := "ytdjmcjfdkcckoaa", sum := "ba7c4522d69b8f9c174a3120cfaf1f032d3d1f0fd1ce3d9f26db01fcc73ad807", func := "dormouse/dormouselaw28.DemandBusy", spec := "demandBusy", apart := false }
def DemandBusySaid : Prop := demandBusyRow.holds Try.pinned (OpenSpec.ofChange demandBusySpec)

/-- ITS FALSE NEIGHBOUR: 'it returns false'. Refute it at one input. -/
def demandBusyWrong : ChangeSpec := { name := "demandBusy", fn := fun _ => fun
  | [d] => { results := [.lit (.bool false)], args := [d] }
  | _ => none }
def DemandBusyWrongFalsely : Prop := demandBusyRow.holds Try.pinned (OpenSpec.ofChange demandBusyWrong)

/-- 'dormouselaw28.DemandWorks': WHATEVER THE INPUT: true; the input reads as it did. -/
def demandWorksSpec : ChangeSpec := { name := "demandWorks", fn := fun _ => fun
  | [d1, d2] => { results := [.lit (.bool true)], args := [d1, d2] }
  | _ => none }
def demandWorksRow : OpenClaim := { program := "ytdjmcjfdkcckoaa", sum := "ba7c4522d69b8f9c174a3120cfaf1f032d3d1f0fd1ce3d9f26db01fcc73ad807", func := "dormouse/dormouselaw28.DemandWorks", spec := "demandWorks", apart := false }
def DemandWorksSaid : Prop := demandWorksRow.holds Try.pinned (OpenSpec.ofChange demandWorksSpec)

/-- ITS FALSE NEIGHBOUR: 'it returns false'. Refute it at one input. -/
def demandWorksWrong : ChangeSpec := { name := "demandWorks", fn := fun _ => fun
  | [d1, d2] => { results := [.lit (.bool false)], args := [d1, d2] }
  | _ => none }
def DemandWorksWrongFalsely : Prop := demandWorksRow.holds Try.pinned (OpenSpec.ofChange demandWorksWrong)

/-- 'dormouselaw28.DemandAll': WHATEVER THE INPUT: true; the input reads as it did. -/
def demandAllSpec : ChangeSpec := { name := "demandAll", fn := fun _ => fun
  | [d1, d2] => { results := [.lit (.bool true)], args := [d1, d2] }
  | _ => none }
def demandAllRow : OpenClaim := { program := "ytdjmcjfdkcckoaa", sum := "ba7c4522d69b8f9c174a3120cfaf1f032d3d1f0fd1ce3d9f26db01fcc73ad807", func := "dormouse/dormouselaw28.DemandAll", spec := "demandAll", apart := false }
def DemandAllSaid : Prop := demandAllRow.holds Try.pinned (OpenSpec.ofChange demandAllSpec)

/-- ITS FALSE NEIGHBOUR: 'it returns false'. Refute it at one input. -/
def demandAllWrong : ChangeSpec := { name := "demandAll", fn := fun _ => fun
  | [d1, d2] => { results := [.lit (.bool false)], args := [d1, d2] }
  | _ => none }
def DemandAllWrongFalsely : Prop := demandAllRow.holds Try.pinned (OpenSpec.ofChange demandAllWrong)

/-- 'dormouselaw28.DemandHalf': WHATEVER THE INPUT: true; the input reads as it did. -/
def demandHalfSpec : ChangeSpec := { name := "demandHalf", fn := fun _ => fun
  | [d1, d2, d3, d4, d5, d6] => { results := [.lit (.bool true)], args := [d1, d2, d3, d4, d5, d6] }
  | _ => none }
def demandHalfRow : OpenClaim := { program := "ytdjmcjfdkcckoaa", sum := "ba7c4522d69b8f9c174a3120cfaf1f032d3d1f0fd1ce3d9f26db01fcc73ad807", func := "dormouse/dormouselaw28.DemandHalf", spec := "demandHalf", apart := false }
def DemandHalfSaid : Prop := demandHalfRow.holds Try.pinned (OpenSpec.ofChange demandHalfSpec)

/-- ITS FALSE NEIGHBOUR: 'it returns false'. Refute it at one input. -/
def demandHalfWrong : ChangeSpec := { name := "demandHalf", fn := fun _ => fun
  | [d1, d2, d3, d4, d5, d6] => { results := [.lit (.bool false)], args := [d1, d2, d3, d4, d5, d6] }
  | _ => none }
def DemandHalfWrongFalsely : Prop := demandHalfRow.holds Try.pinned (OpenSpec.ofChange demandHalfWrong)

/-- 'dormouselaw28.DemandLonger': WHATEVER THE INPUT: true; the input reads as it did. -/
def demandLongerSpec : ChangeSpec := { name := "demandLonger", fn := fun _ => fun
  | [d1, d2, d3, d4] => { results := [.lit (.bool true)], args := [d1, d2, d3, d4] }
  | _ => none }
def demandLongerRow : OpenClaim := { program := "ytdjmcjfdkcckoaa", sum := "ba7c4522d69b8f9c174a3120cfaf1f032d3d1f0fd1ce3d9f26db01fcc73ad807", func := "dormouse/dormouselaw28.DemandLonger", spec := "demandLonger", apart := false }
def DemandLongerSaid : Prop := demandLongerRow.holds Try.pinned (OpenSpec.ofChange demandLongerSpec)

/-- ITS FALSE NEIGHBOUR: 'it returns false'. Refute it at one input. -/
def demandLongerWrong : ChangeSpec := { name := "demandLonger", fn := fun _ => fun
  | [d1, d2, d3, d4] => { results := [.lit (.bool false)], args := [d1, d2, d3, d4] }
  | _ => none }
def DemandLongerWrongFalsely : Prop := demandLongerRow.holds Try.pinned (OpenSpec.ofChange demandLongerWrong)

/-- 'dormouselaw28.DemandAdmitted': WHATEVER THE INPUT: true; the input reads as it did. -/
def demandAdmittedSpec : ChangeSpec := { name := "demandAdmitted", fn := fun _ => fun
  | [d1, d2, d3] => { results := [.lit (.bool true)], args := [d1, d2, d3] }
  | _ => none }
def demandAdmittedRow : OpenClaim := { program := "ytdjmcjfdkcckoaa", sum := "ba7c4522d69b8f9c174a3120cfaf1f032d3d1f0fd1ce3d9f26db01fcc73ad807", func := "dormouse/dormouselaw28.DemandAdmitted", spec := "demandAdmitted", apart := false }
def DemandAdmittedSaid : Prop := demandAdmittedRow.holds Try.pinned (OpenSpec.ofChange demandAdmittedSpec)

/-- ITS FALSE NEIGHBOUR: 'it returns false'. Refute it at one input. -/
def demandAdmittedWrong : ChangeSpec := { name := "demandAdmitted", fn := fun _ => fun
  | [d1, d2, d3] => { results := [.lit (.bool false)], args := [d1, d2, d3] }
  | _ => none }
def DemandAdmittedWrongFalsely : Prop := demandAdmittedRow.holds Try.pinned (OpenSpec.ofChange demandAdmittedWrong)

/-- 'dormouselaw28.DemandSporadic': WHATEVER THE INPUT: true; the input reads as it did. -/
def demandSporadicSpec : ChangeSpec := { name := "demandSporadic", fn := fun _ => fun
  | [d1, d2] => { results := [.lit (.bool true)], args := [d1, d2] }
  | _ => none }
def demandSporadicRow : OpenClaim := { program := "ytdjmcjfdkcckoaa", sum := "ba7c4522d69b8f9c174a3120cfaf1f032d3d1f0fd1ce3d9f26db01fcc73ad807", func := "dormouse/dormouselaw28.DemandSporadic", spec := "demandSporadic", apart := false }
def DemandSporadicSaid : Prop := demandSporadicRow.holds Try.pinned (OpenSpec.ofChange demandSporadicSpec)

/-- ITS FALSE NEIGHBOUR: 'it returns false'. Refute it at one input. -/
def demandSporadicWrong : ChangeSpec := { name := "demandSporadic", fn := fun _ => fun
  | [d1, d2] => { results := [.lit (.bool false)], args := [d1, d2] }
  | _ => none }
def DemandSporadicWrongFalsely : Prop := demandSporadicRow.holds Try.pinned (OpenSpec.ofChange demandSporadicWrong)

/-- 'dormouselaw28.DemandLate': WHATEVER THE INPUT: true; the input reads as it did. -/
def demandLateSpec : ChangeSpec := { name := "demandLate", fn := fun _ => fun
  | [d1, d2] => { results := [.lit (.bool true)], args := [d1, d2] }
  | _ => none }
def demandLateRow : OpenClaim := { program := "ytdjmcjfdkcckoaa", sum := "ba7c4522d69b8f9c174a3120cfaf1f032d3d1f0fd1ce3d9f26db01fcc73ad807", func := "dormouse/dormouselaw28.DemandLate", spec := "demandLate", apart := false }
def DemandLateSaid : Prop := demandLateRow.holds Try.pinned (OpenSpec.ofChange demandLateSpec)

/-- ITS FALSE NEIGHBOUR: 'it returns false'. Refute it at one input. -/
def demandLateWrong : ChangeSpec := { name := "demandLate", fn := fun _ => fun
  | [d1, d2] => { results := [.lit (.bool false)], args := [d1, d2] }
  | _ => none }
def DemandLateWrongFalsely : Prop := demandLateRow.holds Try.pinned (OpenSpec.ofChange demandLateWrong)

/- THE SECOND FORM. 'bulk': how many values and letters a reading holds, each counted each time it is reached (what is shared counts as often as it is met; a slice's spare places count too). A statement '..UptoSaid' is the law's where the arguments, and the package variables that the reading takes, are together of bulk at most 1048576: NARROWER than '..Said'. Prove '..Said' where nothing that the law and all that it calls make is longer than what came in: it says more and counts as full. Else prove '..UptoSaid'. A law counts once. -/
mutual
def uptoBulk {H : Type} : DataW H → Nat
  | .lit (.string bytes) => bytes.length + 1
  | .lit _ => 1
  | .nil => 1
  | .ptr d => uptoBulk d + 1
  | .slice elems spare => uptoBulkAll elems + uptoBulkAll spare + 1
  | .agg parts => uptoBulkAll parts + 1
  | .iface _ d => uptoBulk d + 1
  | .map entries => uptoBulkEntries entries + 1
  | .held _ => 1
def uptoBulkAll {H : Type} : List (DataW H) → Nat
  | [] => 0
  | d :: r => uptoBulk d + uptoBulkAll r
def uptoBulkEntries {H : Type} : List (Lit × DataW H) → Nat
  | [] => 0
  | x :: r => uptoBulkEntry x + uptoBulkEntries r
def uptoBulkEntry {H : Type} : Lit × DataW H → Nat
  | (.string bytes, d) => bytes.length + uptoBulk d + 1
  | (_, d) => uptoBulk d + 1
 end
def uptoSmall : (H : Type) → List (DataW H) → Bool := fun _ ds => decide (uptoBulkAll ds ≤ 1048576)
def OpenSpec.upto (s : _root_.Go.ChangeSpec) : _root_.Go.OpenSpec := { _root_.Go.OpenSpec.ofChange s with cond := some uptoSmall }

/-- 'dormouselaw28.DemandOf', WHERE WHAT IT READS IS OF BULK AT MOST 1048576: true; the input reads as it did. -/
def demandOfUptoRow : OpenClaim := { program := "ytdjmcjfdkcckoaa", sum := "ba7c4522d69b8f9c174a3120cfaf1f032d3d1f0fd1ce3d9f26db01fcc73ad807", func := "dormouse/dormouselaw28.DemandOf", spec := "demandOf", apart := false, narrowed := true }
def DemandOfUptoSaid : Prop := demandOfUptoRow.holds Try.pinned (OpenSpec.upto demandOfSpec)

/-- 'dormouselaw28.DemandBusy', WHERE WHAT IT READS IS OF BULK AT MOST 1048576: true; the input reads as it did. -/
def demandBusyUptoRow : OpenClaim := { program := "ytdjmcjfdkcckoaa", sum := "ba7c4522d69b8f9c174a3120cfaf1f032d3d1f0fd1ce3d9f26db01fcc73ad807", func := "dormouse/dormouselaw28.DemandBusy", spec := "demandBusy", apart := false, narrowed := true }
def DemandBusyUptoSaid : Prop := demandBusyUptoRow.holds Try.pinned (OpenSpec.upto demandBusySpec)

/-- 'dormouselaw28.DemandWorks', WHERE WHAT IT READS IS OF BULK AT MOST 1048576: true; the input reads as it did. -/
def demandWorksUptoRow : OpenClaim := { program := "ytdjmcjfdkcckoaa", sum := "ba7c4522d69b8f9c174a3120cfaf1f032d3d1f0fd1ce3d9f26db01fcc73ad807", func := "dormouse/dormouselaw28.DemandWorks", spec := "demandWorks", apart := false, narrowed := true }
def DemandWorksUptoSaid : Prop := demandWorksUptoRow.holds Try.pinned (OpenSpec.upto demandWorksSpec)

/-- 'dormouselaw28.DemandAll', WHERE WHAT IT READS IS OF BULK AT MOST 1048576: true; the input reads as it did. -/
def demandAllUptoRow : OpenClaim := { program := "ytdjmcjfdkcckoaa", sum := "ba7c4522d69b8f9c174a3120cfaf1f032d3d1f0fd1ce3d9f26db01fcc73ad807", func := "dormouse/dormouselaw28.DemandAll", spec := "demandAll", apart := false, narrowed := true }
def DemandAllUptoSaid : Prop := demandAllUptoRow.holds Try.pinned (OpenSpec.upto demandAllSpec)

/-- 'dormouselaw28.DemandHalf', WHERE WHAT IT READS IS OF BULK AT MOST 1048576: true; the input reads as it did. -/
def demandHalfUptoRow : OpenClaim := { program := "ytdjmcjfdkcckoaa", sum := "ba7c4522d69b8f9c174a3120cfaf1f032d3d1f0fd1ce3d9f26db01fcc73ad807", func := "dormouse/dormouselaw28.DemandHalf", spec := "demandHalf", apart := false, narrowed := true }
def DemandHalfUptoSaid : Prop := demandHalfUptoRow.holds Try.pinned (OpenSpec.upto demandHalfSpec)

/-- 'dormouselaw28.DemandLonger', WHERE WHAT IT READS IS OF BULK AT MOST 1048576: true; the input reads as it did. -/
def demandLongerUptoRow : OpenClaim := { program := "ytdjmcjfdkcckoaa", sum := "ba7c4522d69b8f9c174a3120cfaf1f032d3d1f0fd1ce3d9f26db01fcc73ad807", func := "dormouse/dormouselaw28.DemandLonger", spec := "demandLonger", apart := false, narrowed := true }
def DemandLongerUptoSaid : Prop := demandLongerUptoRow.holds Try.pinned (OpenSpec.upto demandLongerSpec)

/-- 'dormouselaw28.DemandAdmitted', WHERE WHAT IT READS IS OF BULK AT MOST 1048576: true; the input reads as it did. -/
def demandAdmittedUptoRow : OpenClaim := { program := "ytdjmcjfdkcckoaa", sum := "ba7c4522d69b8f9c174a3120cfaf1f032d3d1f0fd1ce3d9f26db01fcc73ad807", func := "dormouse/dormouselaw28.DemandAdmitted", spec := "demandAdmitted", apart := false, narrowed := true }
def DemandAdmittedUptoSaid : Prop := demandAdmittedUptoRow.holds Try.pinned (OpenSpec.upto demandAdmittedSpec)

/-- 'dormouselaw28.DemandSporadic', WHERE WHAT IT READS IS OF BULK AT MOST 1048576: true; the input reads as it did. -/
def demandSporadicUptoRow : OpenClaim := { program := "ytdjmcjfdkcckoaa", sum := "ba7c4522d69b8f9c174a3120cfaf1f032d3d1f0fd1ce3d9f26db01fcc73ad807", func := "dormouse/dormouselaw28.DemandSporadic", spec := "demandSporadic", apart := false, narrowed := true }
def DemandSporadicUptoSaid : Prop := demandSporadicUptoRow.holds Try.pinned (OpenSpec.upto demandSporadicSpec)

/-- 'dormouselaw28.DemandLate', WHERE WHAT IT READS IS OF BULK AT MOST 1048576: true; the input reads as it did. -/
def demandLateUptoRow : OpenClaim := { program := "ytdjmcjfdkcckoaa", sum := "ba7c4522d69b8f9c174a3120cfaf1f032d3d1f0fd1ce3d9f26db01fcc73ad807", func := "dormouse/dormouselaw28.DemandLate", spec := "demandLate", apart := false, narrowed := true }
def DemandLateUptoSaid : Prop := demandLateUptoRow.holds Try.pinned (OpenSpec.upto demandLateSpec)

end Rows
end Go.Proofs.Ytdjmcjfdkcckoaa
