/-
  No cell of these rows narrows 'for every input' (looked for: loops, veiled, ifaces, maps, wideKeys, modest, calm, conditions, laid).
  DERIVED. THE GIVEN ROWS OF THIS SEAT. 8 by the template 'for every input the law returns true; each argument reads behind the call as it read before'; 0 by the template 'total and deterministic' (their statements: YtonlaboeodddeaaTotals.lean).
  GIVEN WITH THE SEED: the statements are not yours to turn. If you find one false, say at which input.
  Laid BY PROGRAM, IN A SANDBOX (cutbox-rows.mjs): the forced cells as the released guide's own fill.sh prints them over the translation e814729604b47aab… (all of the seat's roots in one cut). By AI agents, Wed Nov 11 2026. No macro, syntax, notation, axiom, sorry.
-/
import Derived.Test.YtonlaboeodddeaaChecked
import GoSem.Claim
import GoSem.ClaimJoined
import GoSem.ClaimMapViews
import Derived.JoinedTies
import Derived.KernelRfl
namespace Go.Proofs.Ytonlaboeodddeaa
/- THE CELL 'sum', in the pinned program and in every row, IS THE sha256 OF THE DUMP (.gsa) THAT YtonlaboeodddeaaProg.lean LOADS. Nothing in Lean hashes anything: it is a label: what it is worth is what the hold of that sum in a sandbox is worth. -/
noncomputable def Try.pinned : Pinned := { name := "ytonlaboeodddeaa", sum := "e814729604b47aab1b1367fb152edfcb0e117d08fa579760c2ff40d20ebe066e", checked := Try.checked }
namespace Rows
def none {H : Type} : Left H := { results := [], args := [] }

/-- 'dormouselaw10.AdmitParts': WHATEVER THE INPUT: true; the input reads as it did. -/
def admitPartsSpec : ChangeSpec := { name := "admitParts", fn := fun _ => fun
  | [d1, d2, d3] => { results := [.lit (.bool true)], args := [d1, d2, d3] }
  | _ => none }
def admitPartsRow : OpenClaim := { program := "ytonlaboeodddeaa", sum := "e814729604b47aab1b1367fb152edfcb0e117d08fa579760c2ff40d20ebe066e", func := "dormouse/dormouselaw10.AdmitParts", spec := "admitParts", apart := false }
def AdmitPartsSaid : Prop := admitPartsRow.holds Try.pinned (OpenSpec.ofChange admitPartsSpec)

/-- ITS FALSE NEIGHBOUR: 'it returns false'. Refute it at one input. -/
def admitPartsWrong : ChangeSpec := { name := "admitParts", fn := fun _ => fun
  | [d1, d2, d3] => { results := [.lit (.bool false)], args := [d1, d2, d3] }
  | _ => none }
def AdmitPartsWrongFalsely : Prop := admitPartsRow.holds Try.pinned (OpenSpec.ofChange admitPartsWrong)

/-- 'dormouselaw10.AdmitBlock': WHATEVER THE INPUT: true; the input reads as it did. -/
def admitBlockSpec : ChangeSpec := { name := "admitBlock", fn := fun _ => fun
  | [d1, d2, d3] => { results := [.lit (.bool true)], args := [d1, d2, d3] }
  | _ => none }
def admitBlockRow : OpenClaim := { program := "ytonlaboeodddeaa", sum := "e814729604b47aab1b1367fb152edfcb0e117d08fa579760c2ff40d20ebe066e", func := "dormouse/dormouselaw10.AdmitBlock", spec := "admitBlock", apart := false }
def AdmitBlockSaid : Prop := admitBlockRow.holds Try.pinned (OpenSpec.ofChange admitBlockSpec)

/-- ITS FALSE NEIGHBOUR: 'it returns false'. Refute it at one input. -/
def admitBlockWrong : ChangeSpec := { name := "admitBlock", fn := fun _ => fun
  | [d1, d2, d3] => { results := [.lit (.bool false)], args := [d1, d2, d3] }
  | _ => none }
def AdmitBlockWrongFalsely : Prop := admitBlockRow.holds Try.pinned (OpenSpec.ofChange admitBlockWrong)

/-- 'dormouselaw10.AdmitDemand': WHATEVER THE INPUT: true; the input reads as it did. -/
def admitDemandSpec : ChangeSpec := { name := "admitDemand", fn := fun _ => fun
  | [d1, d2, d3] => { results := [.lit (.bool true)], args := [d1, d2, d3] }
  | _ => none }
def admitDemandRow : OpenClaim := { program := "ytonlaboeodddeaa", sum := "e814729604b47aab1b1367fb152edfcb0e117d08fa579760c2ff40d20ebe066e", func := "dormouse/dormouselaw10.AdmitDemand", spec := "admitDemand", apart := false }
def AdmitDemandSaid : Prop := admitDemandRow.holds Try.pinned (OpenSpec.ofChange admitDemandSpec)

/-- ITS FALSE NEIGHBOUR: 'it returns false'. Refute it at one input. -/
def admitDemandWrong : ChangeSpec := { name := "admitDemand", fn := fun _ => fun
  | [d1, d2, d3] => { results := [.lit (.bool false)], args := [d1, d2, d3] }
  | _ => none }
def AdmitDemandWrongFalsely : Prop := admitDemandRow.holds Try.pinned (OpenSpec.ofChange admitDemandWrong)

/-- 'dormouselaw10.AdmitLoad': WHATEVER THE INPUT: true; the input reads as it did. -/
def admitLoadSpec : ChangeSpec := { name := "admitLoad", fn := fun _ => fun
  | [d1, d2, d3] => { results := [.lit (.bool true)], args := [d1, d2, d3] }
  | _ => none }
def admitLoadRow : OpenClaim := { program := "ytonlaboeodddeaa", sum := "e814729604b47aab1b1367fb152edfcb0e117d08fa579760c2ff40d20ebe066e", func := "dormouse/dormouselaw10.AdmitLoad", spec := "admitLoad", apart := false }
def AdmitLoadSaid : Prop := admitLoadRow.holds Try.pinned (OpenSpec.ofChange admitLoadSpec)

/-- ITS FALSE NEIGHBOUR: 'it returns false'. Refute it at one input. -/
def admitLoadWrong : ChangeSpec := { name := "admitLoad", fn := fun _ => fun
  | [d1, d2, d3] => { results := [.lit (.bool false)], args := [d1, d2, d3] }
  | _ => none }
def AdmitLoadWrongFalsely : Prop := admitLoadRow.holds Try.pinned (OpenSpec.ofChange admitLoadWrong)

/-- 'dormouselaw10.AdmitLess': WHATEVER THE INPUT: true; the input reads as it did. -/
def admitLessSpec : ChangeSpec := { name := "admitLess", fn := fun _ => fun
  | [d1, d2, d3] => { results := [.lit (.bool true)], args := [d1, d2, d3] }
  | _ => none }
def admitLessRow : OpenClaim := { program := "ytonlaboeodddeaa", sum := "e814729604b47aab1b1367fb152edfcb0e117d08fa579760c2ff40d20ebe066e", func := "dormouse/dormouselaw10.AdmitLess", spec := "admitLess", apart := false }
def AdmitLessSaid : Prop := admitLessRow.holds Try.pinned (OpenSpec.ofChange admitLessSpec)

/-- ITS FALSE NEIGHBOUR: 'it returns false'. Refute it at one input. -/
def admitLessWrong : ChangeSpec := { name := "admitLess", fn := fun _ => fun
  | [d1, d2, d3] => { results := [.lit (.bool false)], args := [d1, d2, d3] }
  | _ => none }
def AdmitLessWrongFalsely : Prop := admitLessRow.holds Try.pinned (OpenSpec.ofChange admitLessWrong)

/-- 'dormouselaw10.AdmitOrder': WHATEVER THE INPUT: true; the input reads as it did. -/
def admitOrderSpec : ChangeSpec := { name := "admitOrder", fn := fun _ => fun
  | [d1, d2, d3, d4, d5] => { results := [.lit (.bool true)], args := [d1, d2, d3, d4, d5] }
  | _ => none }
def admitOrderRow : OpenClaim := { program := "ytonlaboeodddeaa", sum := "e814729604b47aab1b1367fb152edfcb0e117d08fa579760c2ff40d20ebe066e", func := "dormouse/dormouselaw10.AdmitOrder", spec := "admitOrder", apart := false }
def AdmitOrderSaid : Prop := admitOrderRow.holds Try.pinned (OpenSpec.ofChange admitOrderSpec)

/-- ITS FALSE NEIGHBOUR: 'it returns false'. Refute it at one input. -/
def admitOrderWrong : ChangeSpec := { name := "admitOrder", fn := fun _ => fun
  | [d1, d2, d3, d4, d5] => { results := [.lit (.bool false)], args := [d1, d2, d3, d4, d5] }
  | _ => none }
def AdmitOrderWrongFalsely : Prop := admitOrderRow.holds Try.pinned (OpenSpec.ofChange admitOrderWrong)

/-- 'dormouselaw10.AdmitSlower': WHATEVER THE INPUT: true; the input reads as it did. -/
def admitSlowerSpec : ChangeSpec := { name := "admitSlower", fn := fun _ => fun
  | [d1, d2, d3, d4] => { results := [.lit (.bool true)], args := [d1, d2, d3, d4] }
  | _ => none }
def admitSlowerRow : OpenClaim := { program := "ytonlaboeodddeaa", sum := "e814729604b47aab1b1367fb152edfcb0e117d08fa579760c2ff40d20ebe066e", func := "dormouse/dormouselaw10.AdmitSlower", spec := "admitSlower", apart := false }
def AdmitSlowerSaid : Prop := admitSlowerRow.holds Try.pinned (OpenSpec.ofChange admitSlowerSpec)

/-- ITS FALSE NEIGHBOUR: 'it returns false'. Refute it at one input. -/
def admitSlowerWrong : ChangeSpec := { name := "admitSlower", fn := fun _ => fun
  | [d1, d2, d3, d4] => { results := [.lit (.bool false)], args := [d1, d2, d3, d4] }
  | _ => none }
def AdmitSlowerWrongFalsely : Prop := admitSlowerRow.holds Try.pinned (OpenSpec.ofChange admitSlowerWrong)

/-- 'dormouselaw10.AdmitSpare': WHATEVER THE INPUT: true; the input reads as it did. -/
def admitSpareSpec : ChangeSpec := { name := "admitSpare", fn := fun _ => fun
  | [d1, d2, d3] => { results := [.lit (.bool true)], args := [d1, d2, d3] }
  | _ => none }
def admitSpareRow : OpenClaim := { program := "ytonlaboeodddeaa", sum := "e814729604b47aab1b1367fb152edfcb0e117d08fa579760c2ff40d20ebe066e", func := "dormouse/dormouselaw10.AdmitSpare", spec := "admitSpare", apart := false }
def AdmitSpareSaid : Prop := admitSpareRow.holds Try.pinned (OpenSpec.ofChange admitSpareSpec)

/-- ITS FALSE NEIGHBOUR: 'it returns false'. Refute it at one input. -/
def admitSpareWrong : ChangeSpec := { name := "admitSpare", fn := fun _ => fun
  | [d1, d2, d3] => { results := [.lit (.bool false)], args := [d1, d2, d3] }
  | _ => none }
def AdmitSpareWrongFalsely : Prop := admitSpareRow.holds Try.pinned (OpenSpec.ofChange admitSpareWrong)

/- THE SECOND FORM. 'bulk': how many values and letters a reading holds, each counted each time it is reached (what is shared counts as often as it is met; a slice's spare places count too). A statement '..UptoSaid' is the law's where the arguments, and the package variables that the reading takes, are together of bulk at most 1048576: NARROWER than '..Said'. Prove '..Said' where nothing that the law and all that it calls make is longer than what came in: it says more and counts as full. Else prove '..UptoSaid'. A law counts once. -/
mutual
def uptoBulk {H : Type} : DataW H → Nat
  | .lit (.string bytes) => bytes.length + 1
  | .lit _ => 1
  | .nil => 1
  | .ptr d => uptoBulk d + 1
  | .slice elems spare => uptoBulkAll elems + uptoBulkAll spare + 1
  | .agg parts => uptoBulkAll parts + 1
  | .iface _ d => uptoBulk d + 1
  | .map entries => uptoBulkEntries entries + 1
  | .held _ => 1
def uptoBulkAll {H : Type} : List (DataW H) → Nat
  | [] => 0
  | d :: r => uptoBulk d + uptoBulkAll r
def uptoBulkEntries {H : Type} : List (Lit × DataW H) → Nat
  | [] => 0
  | x :: r => uptoBulkEntry x + uptoBulkEntries r
def uptoBulkEntry {H : Type} : Lit × DataW H → Nat
  | (.string bytes, d) => bytes.length + uptoBulk d + 1
  | (_, d) => uptoBulk d + 1
 end
def uptoSmall : (H : Type) → List (DataW H) → Bool := fun _ ds => decide (uptoBulkAll ds ≤ 1048576)
def OpenSpec.upto (s : _root_.Go.ChangeSpec) : _root_.Go.OpenSpec := { _root_.Go.OpenSpec.ofChange s with cond := some uptoSmall }

/-- 'dormouselaw10.AdmitParts', WHERE WHAT IT READS IS OF BULK AT MOST 1048576: true; the input reads as it did. -/
def admitPartsUptoRow : OpenClaim := { program := "ytonlaboeodddeaa", sum := "e814729604b47aab1b1367fb152edfcb0e117d08fa579760c2ff40d20ebe066e", func := "dormouse/dormouselaw10.AdmitParts", spec := "admitParts", apart := false, narrowed := true }
def AdmitPartsUptoSaid : Prop := admitPartsUptoRow.holds Try.pinned (OpenSpec.upto admitPartsSpec)

/-- 'dormouselaw10.AdmitBlock', WHERE WHAT IT READS IS OF BULK AT MOST 1048576: true; the input reads as it did. -/
def admitBlockUptoRow : OpenClaim := { program := "ytonlaboeodddeaa", sum := "e814729604b47aab1b1367fb152edfcb0e117d08fa579760c2ff40d20ebe066e", func := "dormouse/dormouselaw10.AdmitBlock", spec := "admitBlock", apart := false, narrowed := true }
def AdmitBlockUptoSaid : Prop := admitBlockUptoRow.holds Try.pinned (OpenSpec.upto admitBlockSpec)

/-- 'dormouselaw10.AdmitDemand', WHERE WHAT IT READS IS OF BULK AT MOST 1048576: true; the input reads as it did. -/
def admitDemandUptoRow : OpenClaim := { program := "ytonlaboeodddeaa", sum := "e814729604b47aab1b1367fb152edfcb0e117d08fa579760c2ff40d20ebe066e", func := "dormouse/dormouselaw10.AdmitDemand", spec := "admitDemand", apart := false, narrowed := true }
def AdmitDemandUptoSaid : Prop := admitDemandUptoRow.holds Try.pinned (OpenSpec.upto admitDemandSpec)

/-- 'dormouselaw10.AdmitLoad', WHERE WHAT IT READS IS OF BULK AT MOST 1048576: true; the input reads as it did. -/
def admitLoadUptoRow : OpenClaim := { program := "ytonlaboeodddeaa", sum := "e814729604b47aab1b1367fb152edfcb0e117d08fa579760c2ff40d20ebe066e", func := "dormouse/dormouselaw10.AdmitLoad", spec := "admitLoad", apart := false, narrowed := true }
def AdmitLoadUptoSaid : Prop := admitLoadUptoRow.holds Try.pinned (OpenSpec.upto admitLoadSpec)

/-- 'dormouselaw10.AdmitLess', WHERE WHAT IT READS IS OF BULK AT MOST 1048576: true; the input reads as it did. -/
def admitLessUptoRow : OpenClaim := { program := "ytonlaboeodddeaa", sum := "e814729604b47aab1b1367fb152edfcb0e117d08fa579760c2ff40d20ebe066e", func := "dormouse/dormouselaw10.AdmitLess", spec := "admitLess", apart := false, narrowed := true }
def AdmitLessUptoSaid : Prop := admitLessUptoRow.holds Try.pinned (OpenSpec.upto admitLessSpec)

/-- 'dormouselaw10.AdmitOrder', WHERE WHAT IT READS IS OF BULK AT MOST 1048576: true; the input reads as it did. -/
def admitOrderUptoRow : OpenClaim := { program := "ytonlaboeodddeaa", sum := "e814729604b47aab1b1367fb152edfcb0e117d08fa579760c2ff40d20ebe066e", func := "dormouse/dormouselaw10.AdmitOrder", spec := "admitOrder", apart := false, narrowed := true }
def AdmitOrderUptoSaid : Prop := admitOrderUptoRow.holds Try.pinned (OpenSpec.upto admitOrderSpec)

/-- 'dormouselaw10.AdmitSlower', WHERE WHAT IT READS IS OF BULK AT MOST 1048576: true; the input reads as it did. -/
def admitSlowerUptoRow : OpenClaim := { program := "ytonlaboeodddeaa", sum := "e814729604b47aab1b1367fb152edfcb0e117d08fa579760c2ff40d20ebe066e", func := "dormouse/dormouselaw10.AdmitSlower", spec := "admitSlower", apart := false, narrowed := true }
def AdmitSlowerUptoSaid : Prop := admitSlowerUptoRow.holds Try.pinned (OpenSpec.upto admitSlowerSpec)

/-- 'dormouselaw10.AdmitSpare', WHERE WHAT IT READS IS OF BULK AT MOST 1048576: true; the input reads as it did. -/
def admitSpareUptoRow : OpenClaim := { program := "ytonlaboeodddeaa", sum := "e814729604b47aab1b1367fb152edfcb0e117d08fa579760c2ff40d20ebe066e", func := "dormouse/dormouselaw10.AdmitSpare", spec := "admitSpare", apart := false, narrowed := true }
def AdmitSpareUptoSaid : Prop := admitSpareUptoRow.holds Try.pinned (OpenSpec.upto admitSpareSpec)

end Rows
end Go.Proofs.Ytonlaboeodddeaa
