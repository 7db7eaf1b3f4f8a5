/- Choose's laws, walked: each call by its contract. -/
import Derived.Test.YtijlfnjfjmhdiaaGov
import Derived.Test.YtijlfnjfjmhdiaaKinds
import Derived.Test.YtijlfnjfjmhdiaaFx7
import Derived.Test.YtijlfnjfjmhdiaaAns16
namespace Go.Proofs.Ytijlfnjfjmhdiaa.Law
open Go.RowKit Go.Proofs.Ytijlfnjfjmhdiaa.F Go.Proofs.Ytijlfnjfjmhdiaa.Tbl Go.Proofs.Ytijlfnjfjmhdiaa.Gov Go.Proofs.Ytijlfnjfjmhdiaa.Opn Go.Proofs.YtijlfnjfjmhdiaaW.PrintWords Go.Proofs.YtijlfnjfjmhdiaaW.PrintLast Go.Proofs.YtijlfnjfjmhdiaaW.PrintMore
attribute [local go_sem] max2_int min2_int max_two min_two max_three min_three max_four min_four

abbrev Ask := Int × Int × Int × Int × Int
def kAsk : Kd Ask := Kd.pair (Kd.int .i64) (Kd.pair (Kd.int .i64) (Kd.pair (Kd.int .i64) (Kd.pair (Kd.int .i64) (Kd.int .i64))))
theorem oAsk : Opens Try.prog 40 kAsk (fun x => (Lit.int .i64 x.2.2.2.1).wf = true) :=
  opens_imp (opens_struct (d := kAsk) Try.underlying40 (by kernel_rfl) (opensF_cons rfl (by kernel_rfl) oAny (opensF_cons rfl (by kernel_rfl) oAny (opensF_cons rfl (by kernel_rfl) oAny (opensF_cons rfl (by kernel_rfl) oInt (opensF_one rfl (by kernel_rfl) oAny))))))
    (fun _ h => h.2.2.2.1)
theorem ask_open {w : World} {x : Ask} {cs : List Value} (h : kAsk.K w x cs) : cs = [.int .i64 x.1, .int .i64 x.2.1, .int .i64 x.2.2.1, .int .i64 x.2.2.2.1, .int .i64 x.2.2.2.2] := by
  obtain ⟨_, _, rfl, e0, _, _, rfl, e1, _, _, rfl, e2, _, _, rfl, e3, e4⟩ := h
  cases e0; cases e1; cases e2; cases e3; cases e4
  rfl
theorem below_undrew {w w2 : World} (h : Below w.drew.heap.size w.drew w2) : Below w.heap.size w w2 := ⟨h.os, h.tape, h.output, h.size, h.block⟩
theorem below_of_drawn {w w2 : World} (h : Drawn0 w w2) : Below w.heap.size w w2 := by obtain ⟨n, rfl⟩ := h.out; exact pw_below_drewN (Below.refl _ _) n
theorem bdr {w W w2 : World} (h : Below w.heap.size w W) (k : Drawn0 W w2) : Below w.heap.size w w2 := by obtain ⟨n, rfl⟩ := k.out; exact pw_below_drewN h n

def Good (l0 : List S45) (l1 : List S59) (l2 : List S62) (idle crit sw swE sems hor left : Int) : Prop := TableOk l0 l1 l2 idle crit sw swE sems hor ∧ 0 ≤ left ∧ left ≤ 8192
section
variable {w : World} {l0 : List S45} {l1 : List S59} {l2 : List S62} {idle crit sw swE sems hor left : Int}
theorem good_yes (h : Good l0 l1 l2 idle crit sw swE sems hor left) (a b c d : Int) : dormouselaw16_good.f 1 l0 l1 l2 idle crit sw swE sems hor a b left c d = some true := by
  unfold dormouselaw16_good.f dormouseref01_Table.f
  rw [Option.bind_some, show tableB _ _ _ _ _ _ _ _ _ = true from by simp [tableB, h.1], if_pos rfl, if_pos h.2.1, decide_eq_true h.2.2]
theorem good_no (h : ¬ Good l0 l1 l2 idle crit sw swE sems hor left) (a b c d : Int) : dormouselaw16_good.f 1 l0 l1 l2 idle crit sw swE sems hor a b left c d = some false := by
  unfold dormouselaw16_good.f dormouseref01_Table.f
  rw [Option.bind_some]
  by_cases ht : TableOk l0 l1 l2 idle crit sw swE sems hor
  · rw [show tableB _ _ _ _ _ _ _ _ _ = true from by simp [tableB, ht], if_pos rfl]
    by_cases h0 : 0 ≤ left
    · rw [if_pos h0, decide_eq_false (fun h1 => h ⟨ht, h0, h1⟩)]
    · rw [if_neg h0]
  · rw [show tableB _ _ _ _ _ _ _ _ _ = false from by simp [tableB, ht], if_neg (by decide)]

end
end Go.Proofs.Ytijlfnjfjmhdiaa.Law
