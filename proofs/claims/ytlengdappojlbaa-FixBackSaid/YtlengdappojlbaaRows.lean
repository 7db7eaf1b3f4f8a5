/-
  No cell of these rows narrows 'for every input' (looked for: loops, veiled, ifaces, maps, wideKeys, modest, calm, conditions, laid).
  DERIVED. THE GIVEN ROWS OF THIS SEAT. 7 by the template 'for every input the law returns true; each argument reads behind the call as it read before'; 0 by the template 'total and deterministic' (their statements: YtlengdappojlbaaTotals.lean).
  GIVEN WITH THE SEED: the statements are not yours to turn. If you find one false, say at which input.
  Laid BY PROGRAM, IN A SANDBOX (cutbox-rows.mjs): the forced cells as the released guide's own fill.sh prints them over the translation bc5dd0a73de119dc… (all of the seat's roots in one cut). By AI agents, Wed Nov 11 2026. No macro, syntax, notation, axiom, sorry.
-/
import Derived.Test.YtlengdappojlbaaChecked
import GoSem.Claim
import GoSem.ClaimJoined
import GoSem.ClaimMapViews
import Derived.JoinedTies
import Derived.KernelRfl
namespace Go.Proofs.Ytlengdappojlbaa
/- THE CELL 'sum', in the pinned program and in every row, IS THE sha256 OF THE DUMP (.gsa) THAT YtlengdappojlbaaProg.lean LOADS. Nothing in Lean hashes anything: it is a label: what it is worth is what the hold of that sum in a sandbox is worth. -/
noncomputable def Try.pinned : Pinned := { name := "ytlengdappojlbaa", sum := "bc5dd0a73de119dc73a765efd9d5da3c51fba9643238272f07ddf4a1554f38fc", checked := Try.checked }
namespace Rows
def none {H : Type} : Left H := { results := [], args := [] }

/-- 'dormouselaw01.FixUtil': WHATEVER THE INPUT: true; the input reads as it did. -/
def fixUtilSpec : ChangeSpec := { name := "fixUtil", fn := fun _ => fun
  | [d1, d2] => { results := [.lit (.bool true)], args := [d1, d2] }
  | _ => none }
def fixUtilRow : OpenClaim := { program := "ytlengdappojlbaa", sum := "bc5dd0a73de119dc73a765efd9d5da3c51fba9643238272f07ddf4a1554f38fc", func := "dormouse/dormouselaw01.FixUtil", spec := "fixUtil", apart := false }
def FixUtilSaid : Prop := fixUtilRow.holds Try.pinned (OpenSpec.ofChange fixUtilSpec)

/-- ITS FALSE NEIGHBOUR: 'it returns false'. Refute it at one input. -/
def fixUtilWrong : ChangeSpec := { name := "fixUtil", fn := fun _ => fun
  | [d1, d2] => { results := [.lit (.bool false)], args := [d1, d2] }
  | _ => none }
def FixUtilWrongFalsely : Prop := fixUtilRow.holds Try.pinned (OpenSpec.ofChange fixUtilWrong)

/-- 'dormouselaw01.FixTimes': WHATEVER THE INPUT: true; the input reads as it did. -/
def fixTimesSpec : ChangeSpec := { name := "fixTimes", fn := fun _ => fun
  | [d1, d2] => { results := [.lit (.bool true)], args := [d1, d2] }
  | _ => none }
def fixTimesRow : OpenClaim := { program := "ytlengdappojlbaa", sum := "bc5dd0a73de119dc73a765efd9d5da3c51fba9643238272f07ddf4a1554f38fc", func := "dormouse/dormouselaw01.FixTimes", spec := "fixTimes", apart := false }
def FixTimesSaid : Prop := fixTimesRow.holds Try.pinned (OpenSpec.ofChange fixTimesSpec)

/-- ITS FALSE NEIGHBOUR: 'it returns false'. Refute it at one input. -/
def fixTimesWrong : ChangeSpec := { name := "fixTimes", fn := fun _ => fun
  | [d1, d2] => { results := [.lit (.bool false)], args := [d1, d2] }
  | _ => none }
def FixTimesWrongFalsely : Prop := fixTimesRow.holds Try.pinned (OpenSpec.ofChange fixTimesWrong)

/-- 'dormouselaw01.FixWhole': WHATEVER THE INPUT: true; the input reads as it did. -/
def fixWholeSpec : ChangeSpec := { name := "fixWhole", fn := fun _ => fun
  | [d1, d2] => { results := [.lit (.bool true)], args := [d1, d2] }
  | _ => none }
def fixWholeRow : OpenClaim := { program := "ytlengdappojlbaa", sum := "bc5dd0a73de119dc73a765efd9d5da3c51fba9643238272f07ddf4a1554f38fc", func := "dormouse/dormouselaw01.FixWhole", spec := "fixWhole", apart := false }
def FixWholeSaid : Prop := fixWholeRow.holds Try.pinned (OpenSpec.ofChange fixWholeSpec)

/-- ITS FALSE NEIGHBOUR: 'it returns false'. Refute it at one input. -/
def fixWholeWrong : ChangeSpec := { name := "fixWhole", fn := fun _ => fun
  | [d1, d2] => { results := [.lit (.bool false)], args := [d1, d2] }
  | _ => none }
def FixWholeWrongFalsely : Prop := fixWholeRow.holds Try.pinned (OpenSpec.ofChange fixWholeWrong)

/-- 'dormouselaw01.FixEnough': WHATEVER THE INPUT: true; the input reads as it did. -/
def fixEnoughSpec : ChangeSpec := { name := "fixEnough", fn := fun _ => fun
  | [d1, d2] => { results := [.lit (.bool true)], args := [d1, d2] }
  | _ => none }
def fixEnoughRow : OpenClaim := { program := "ytlengdappojlbaa", sum := "bc5dd0a73de119dc73a765efd9d5da3c51fba9643238272f07ddf4a1554f38fc", func := "dormouse/dormouselaw01.FixEnough", spec := "fixEnough", apart := false }
def FixEnoughSaid : Prop := fixEnoughRow.holds Try.pinned (OpenSpec.ofChange fixEnoughSpec)

/-- ITS FALSE NEIGHBOUR: 'it returns false'. Refute it at one input. -/
def fixEnoughWrong : ChangeSpec := { name := "fixEnough", fn := fun _ => fun
  | [d1, d2] => { results := [.lit (.bool false)], args := [d1, d2] }
  | _ => none }
def FixEnoughWrongFalsely : Prop := fixEnoughRow.holds Try.pinned (OpenSpec.ofChange fixEnoughWrong)

/-- 'dormouselaw01.FixSum': WHATEVER THE INPUT: true; the input reads as it did. -/
def fixSumSpec : ChangeSpec := { name := "fixSum", fn := fun _ => fun
  | [d1, d2, d3] => { results := [.lit (.bool true)], args := [d1, d2, d3] }
  | _ => none }
def fixSumRow : OpenClaim := { program := "ytlengdappojlbaa", sum := "bc5dd0a73de119dc73a765efd9d5da3c51fba9643238272f07ddf4a1554f38fc", func := "dormouse/dormouselaw01.FixSum", spec := "fixSum", apart := false }
def FixSumSaid : Prop := fixSumRow.holds Try.pinned (OpenSpec.ofChange fixSumSpec)

/-- ITS FALSE NEIGHBOUR: 'it returns false'. Refute it at one input. -/
def fixSumWrong : ChangeSpec := { name := "fixSum", fn := fun _ => fun
  | [d1, d2, d3] => { results := [.lit (.bool false)], args := [d1, d2, d3] }
  | _ => none }
def FixSumWrongFalsely : Prop := fixSumRow.holds Try.pinned (OpenSpec.ofChange fixSumWrong)

/-- 'dormouselaw01.FixRises': WHATEVER THE INPUT: true; the input reads as it did. -/
def fixRisesSpec : ChangeSpec := { name := "fixRises", fn := fun _ => fun
  | [d1, d2, d3, d4] => { results := [.lit (.bool true)], args := [d1, d2, d3, d4] }
  | _ => none }
def fixRisesRow : OpenClaim := { program := "ytlengdappojlbaa", sum := "bc5dd0a73de119dc73a765efd9d5da3c51fba9643238272f07ddf4a1554f38fc", func := "dormouse/dormouselaw01.FixRises", spec := "fixRises", apart := false }
def FixRisesSaid : Prop := fixRisesRow.holds Try.pinned (OpenSpec.ofChange fixRisesSpec)

/-- ITS FALSE NEIGHBOUR: 'it returns false'. Refute it at one input. -/
def fixRisesWrong : ChangeSpec := { name := "fixRises", fn := fun _ => fun
  | [d1, d2, d3, d4] => { results := [.lit (.bool false)], args := [d1, d2, d3, d4] }
  | _ => none }
def FixRisesWrongFalsely : Prop := fixRisesRow.holds Try.pinned (OpenSpec.ofChange fixRisesWrong)

/-- 'dormouselaw01.FixBack': WHATEVER THE INPUT: true; the input reads as it did. -/
def fixBackSpec : ChangeSpec := { name := "fixBack", fn := fun _ => fun
  | [d1, d2] => { results := [.lit (.bool true)], args := [d1, d2] }
  | _ => none }
def fixBackRow : OpenClaim := { program := "ytlengdappojlbaa", sum := "bc5dd0a73de119dc73a765efd9d5da3c51fba9643238272f07ddf4a1554f38fc", func := "dormouse/dormouselaw01.FixBack", spec := "fixBack", apart := false }
def FixBackSaid : Prop := fixBackRow.holds Try.pinned (OpenSpec.ofChange fixBackSpec)

/-- ITS FALSE NEIGHBOUR: 'it returns false'. Refute it at one input. -/
def fixBackWrong : ChangeSpec := { name := "fixBack", fn := fun _ => fun
  | [d1, d2] => { results := [.lit (.bool false)], args := [d1, d2] }
  | _ => none }
def FixBackWrongFalsely : Prop := fixBackRow.holds Try.pinned (OpenSpec.ofChange fixBackWrong)

/- THE SECOND FORM. 'bulk': how many values and letters a reading holds, each counted each time it is reached (what is shared counts as often as it is met; a slice's spare places count too). A statement '..UptoSaid' is the law's where the arguments, and the package variables that the reading takes, are together of bulk at most 1048576: NARROWER than '..Said'. Prove '..Said' where nothing that the law and all that it calls make is longer than what came in: it says more and counts as full. Else prove '..UptoSaid'. A law counts once. -/
mutual
def uptoBulk {H : Type} : DataW H → Nat
  | .lit (.string bytes) => bytes.length + 1
  | .lit _ => 1
  | .nil => 1
  | .ptr d => uptoBulk d + 1
  | .slice elems spare => uptoBulkAll elems + uptoBulkAll spare + 1
  | .agg parts => uptoBulkAll parts + 1
  | .iface _ d => uptoBulk d + 1
  | .map entries => uptoBulkEntries entries + 1
  | .held _ => 1
def uptoBulkAll {H : Type} : List (DataW H) → Nat
  | [] => 0
  | d :: r => uptoBulk d + uptoBulkAll r
def uptoBulkEntries {H : Type} : List (Lit × DataW H) → Nat
  | [] => 0
  | x :: r => uptoBulkEntry x + uptoBulkEntries r
def uptoBulkEntry {H : Type} : Lit × DataW H → Nat
  | (.string bytes, d) => bytes.length + uptoBulk d + 1
  | (_, d) => uptoBulk d + 1
 end
def uptoSmall : (H : Type) → List (DataW H) → Bool := fun _ ds => decide (uptoBulkAll ds ≤ 1048576)
def OpenSpec.upto (s : _root_.Go.ChangeSpec) : _root_.Go.OpenSpec := { _root_.Go.OpenSpec.ofChange s with cond := some uptoSmall }

/-- 'dormouselaw01.FixUtil', WHERE WHAT IT READS IS OF BULK AT MOST 1048576: true; the input reads as it did. -/
def fixUtilUptoRow : OpenClaim := { program := "ytlengdappojlbaa", sum := "bc5dd0a73de119dc73a765efd9d5da3c51fba9643238272f07ddf4a1554f38fc", func := "dormouse/dormouselaw01.FixUtil", spec := "fixUtil", apart := false, narrowed := true }
def FixUtilUptoSaid : Prop := fixUtilUptoRow.holds Try.pinned (OpenSpec.upto fixUtilSpec)

/-- 'dormouselaw01.FixTimes', WHERE WHAT IT READS IS OF BULK AT MOST 1048576: true; the input reads as it did. -/
def fixTimesUptoRow : OpenClaim := { program := "ytlengdappojlbaa", sum := "bc5dd0a73de119dc73a765efd9d5da3c51fba9643238272f07ddf4a1554f38fc", func := "dormouse/dormouselaw01.FixTimes", spec := "fixTimes", apart := false, narrowed := true }
def FixTimesUptoSaid : Prop := fixTimesUptoRow.holds Try.pinned (OpenSpec.upto fixTimesSpec)

/-- 'dormouselaw01.FixWhole', WHERE WHAT IT READS IS OF BULK AT MOST 1048576: true; the input reads as it did. -/
def fixWholeUptoRow : OpenClaim := { program := "ytlengdappojlbaa", sum := "bc5dd0a73de119dc73a765efd9d5da3c51fba9643238272f07ddf4a1554f38fc", func := "dormouse/dormouselaw01.FixWhole", spec := "fixWhole", apart := false, narrowed := true }
def FixWholeUptoSaid : Prop := fixWholeUptoRow.holds Try.pinned (OpenSpec.upto fixWholeSpec)

/-- 'dormouselaw01.FixEnough', WHERE WHAT IT READS IS OF BULK AT MOST 1048576: true; the input reads as it did. -/
def fixEnoughUptoRow : OpenClaim := { program := "ytlengdappojlbaa", sum := "bc5dd0a73de119dc73a765efd9d5da3c51fba9643238272f07ddf4a1554f38fc", func := "dormouse/dormouselaw01.FixEnough", spec := "fixEnough", apart := false, narrowed := true }
def FixEnoughUptoSaid : Prop := fixEnoughUptoRow.holds Try.pinned (OpenSpec.upto fixEnoughSpec)

/-- 'dormouselaw01.FixSum', WHERE WHAT IT READS IS OF BULK AT MOST 1048576: true; the input reads as it did. -/
def fixSumUptoRow : OpenClaim := { program := "ytlengdappojlbaa", sum := "bc5dd0a73de119dc73a765efd9d5da3c51fba9643238272f07ddf4a1554f38fc", func := "dormouse/dormouselaw01.FixSum", spec := "fixSum", apart := false, narrowed := true }
def FixSumUptoSaid : Prop := fixSumUptoRow.holds Try.pinned (OpenSpec.upto fixSumSpec)

/-- 'dormouselaw01.FixRises', WHERE WHAT IT READS IS OF BULK AT MOST 1048576: true; the input reads as it did. -/
def fixRisesUptoRow : OpenClaim := { program := "ytlengdappojlbaa", sum := "bc5dd0a73de119dc73a765efd9d5da3c51fba9643238272f07ddf4a1554f38fc", func := "dormouse/dormouselaw01.FixRises", spec := "fixRises", apart := false, narrowed := true }
def FixRisesUptoSaid : Prop := fixRisesUptoRow.holds Try.pinned (OpenSpec.upto fixRisesSpec)

/-- 'dormouselaw01.FixBack', WHERE WHAT IT READS IS OF BULK AT MOST 1048576: true; the input reads as it did. -/
def fixBackUptoRow : OpenClaim := { program := "ytlengdappojlbaa", sum := "bc5dd0a73de119dc73a765efd9d5da3c51fba9643238272f07ddf4a1554f38fc", func := "dormouse/dormouselaw01.FixBack", spec := "fixBack", apart := false, narrowed := true }
def FixBackUptoSaid : Prop := fixBackUptoRow.holds Try.pinned (OpenSpec.upto fixBackSpec)

end Rows
end Go.Proofs.Ytlengdappojlbaa
