/- A machine as an argument: its cells. No condition. -/
import Derived.Test.YtonlaboeodddeaaOpen
import Derived.Test.YtonlaboeodddeaaFx0
namespace Go.Proofs.Ytonlaboeodddeaa.Opn
open Go.RowKit Go.ChangeShapes Go.WideShapes Go.Deep Go.Proofs.YtonlaboeodddeaaW.PrintWords Go.Proofs.YtonlaboeodddeaaW.PrintLast Go.Proofs.Ytonlaboeodddeaa.F

instance : Inhabited S34 := ⟨z34⟩
instance : Inhabited S55 := ⟨z55⟩
instance : Inhabited S58 := ⟨z58⟩
theorem oInt : Opens Try.prog 3 (Kd.int .i64) (fun n => (Lit.int .i64 n).wf = true) := opens_int Try.underlying3
theorem oAny : Opens Try.prog 3 (Kd.int .i64) (fun _ => True) := opens_imp oInt (fun _ _ => trivial)
theorem oLevel : Opens Try.prog 34 k34 (fun _ => True) :=
  opens_imp (opens_iso (f := fun x : S34 => (x.f0, x.f1)) (fun x => ⟨x.1, x.2⟩) (fun _ => rfl) (opens_struct Try.underlying34 (by kernel_rfl) (opensF_cons rfl (by kernel_rfl) oAny (opensF_one rfl (by kernel_rfl) oAny)))) (fun _ _ => trivial)
theorem oSleep : Opens Try.prog 55 k55 (fun _ => True) :=
  opens_imp (opens_iso (f := fun x : S55 => (x.f0, x.f1, x.f2, x.f3, x.f4, x.f5)) (fun x => ⟨x.1, x.2.1, x.2.2.1, x.2.2.2.1, x.2.2.2.2.1, x.2.2.2.2.2⟩) (fun _ => rfl) (opens_struct Try.underlying55 (by kernel_rfl)
    (opensF_cons rfl (by kernel_rfl) oAny (opensF_cons rfl (by kernel_rfl) oAny (opensF_cons rfl (by kernel_rfl) oAny (opensF_cons rfl (by kernel_rfl) oAny (opensF_cons rfl (by kernel_rfl) oAny (opensF_one rfl (by kernel_rfl) oAny)))))))) (fun _ _ => trivial)
theorem oDevice : Opens Try.prog 58 k58 (fun _ => True) :=
  opens_imp (opens_iso (f := fun x : S58 => (x.f0, x.f1, x.f2, x.f3, x.f4, x.f5, x.f6)) (fun x => ⟨x.1, x.2.1, x.2.2.1, x.2.2.2.1, x.2.2.2.2.1, x.2.2.2.2.2.1, x.2.2.2.2.2.2⟩) (fun _ => rfl) (opens_struct Try.underlying58 (by kernel_rfl)
    (opensF_cons rfl (by kernel_rfl) oAny (opensF_cons rfl (by kernel_rfl) oAny (opensF_cons rfl (by kernel_rfl) oAny (opensF_cons rfl (by kernel_rfl) oAny (opensF_cons rfl (by kernel_rfl) oAny (opensF_cons rfl (by kernel_rfl) oAny (opensF_one rfl (by kernel_rfl) oAny))))))))) (fun _ _ => trivial)
abbrev Plat := List S34 × List S55 × List S58 × Int × Int × Int × Int × Int × Int
def kPlat : Kd Plat := Kd.pair (Kd.slice 34 k34) (Kd.pair (Kd.slice 55 k55) (Kd.pair (Kd.slice 58 k58) (Kd.pair (Kd.int .i64) (Kd.pair (Kd.int .i64) (Kd.pair (Kd.int .i64) (Kd.pair (Kd.int .i64) (Kd.pair (Kd.int .i64) (Kd.int .i64))))))))
theorem oPlat : Opens Try.prog 26 kPlat (fun _ => True) :=
  opens_imp (opens_struct (d := kPlat) Try.underlying26 (by kernel_rfl)
    (opensF_cons rfl (by kernel_rfl) (opens_slice Try.underlying22 (by kernel_rfl) oLevel) (opensF_cons rfl (by kernel_rfl) (opens_slice Try.underlying23 (by kernel_rfl) oSleep) (opensF_cons rfl (by kernel_rfl) (opens_slice Try.underlying24 (by kernel_rfl) oDevice)
    (opensF_cons rfl (by kernel_rfl) oAny (opensF_cons rfl (by kernel_rfl) oAny (opensF_cons rfl (by kernel_rfl) oAny (opensF_cons rfl (by kernel_rfl) oAny (opensF_cons rfl (by kernel_rfl) oAny (opensF_one rfl (by kernel_rfl) oAny)))))))))) (fun _ _ => trivial)
theorem plat_open {w : World} {x : Plat} {cs : List Value} (h : kPlat.K w x cs) : ∃ (A0 : Option Addr) (c0 : Nat) (A1 : Option Addr) (c1 : Nat) (A2 : Option Addr) (c2 : Nat),
    cs = [.slice A0 x.1.length c0, .slice A1 x.2.1.length c1, .slice A2 x.2.2.1.length c2, .int .i64 x.2.2.2.1, .int .i64 x.2.2.2.2.1, .int .i64 x.2.2.2.2.2.1, .int .i64 x.2.2.2.2.2.2.1, .int .i64 x.2.2.2.2.2.2.2.1, .int .i64 x.2.2.2.2.2.2.2.2] ∧
    (x.1.length ≤ c0 ∧ Kd.C k34 w A0 x.1.length x.1) ∧ (x.2.1.length ≤ c1 ∧ Kd.C k55 w A1 x.2.1.length x.2.1) ∧ (x.2.2.1.length ≤ c2 ∧ Kd.C k58 w A2 x.2.2.1.length x.2.2.1) := by
  obtain ⟨_, _, rfl, ⟨A0, c0, rfl, l0, h0⟩, _, _, rfl, ⟨A1, c1, rfl, l1, h1⟩, _, _, rfl, ⟨A2, c2, rfl, l2, h2⟩, _, _, rfl, e3, _, _, rfl, e4, _, _, rfl, e5, _, _, rfl, e6, _, _, rfl, e7, e8⟩ := h
  cases e3; cases e4; cases e5; cases e6; cases e7; cases e8
  exact ⟨A0, c0, A1, c1, A2, c2, rfl, ⟨l0, h0⟩, ⟨l1, h1⟩, ⟨l2, h2⟩⟩
end Go.Proofs.Ytonlaboeodddeaa.Opn
