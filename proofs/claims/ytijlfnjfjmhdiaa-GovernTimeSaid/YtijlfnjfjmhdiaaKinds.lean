/- A machine as an argument: its cells. No condition. -/
import Derived.Test.YtijlfnjfjmhdiaaOpen
import Derived.Test.YtijlfnjfjmhdiaaFx0
namespace Go.Proofs.Ytijlfnjfjmhdiaa.Opn
open Go.RowKit Go.ChangeShapes Go.WideShapes Go.Deep Go.Proofs.YtijlfnjfjmhdiaaW.PrintWords Go.Proofs.YtijlfnjfjmhdiaaW.PrintLast Go.Proofs.Ytijlfnjfjmhdiaa.F

instance : Inhabited S45 := ⟨z45⟩
instance : Inhabited S59 := ⟨z59⟩
instance : Inhabited S62 := ⟨z62⟩
theorem oInt : Opens Try.prog 3 (Kd.int .i64) (fun n => (Lit.int .i64 n).wf = true) := opens_int Try.underlying3
theorem oAny : Opens Try.prog 3 (Kd.int .i64) (fun _ => True) := opens_imp oInt (fun _ _ => trivial)
theorem oLevel : Opens Try.prog 45 k45 (fun _ => True) :=
  opens_imp (opens_iso (f := fun x : S45 => (x.f0, x.f1)) (fun x => ⟨x.1, x.2⟩) (fun _ => rfl) (opens_struct Try.underlying45 (by kernel_rfl) (opensF_cons rfl (by kernel_rfl) oAny (opensF_one rfl (by kernel_rfl) oAny)))) (fun _ _ => trivial)
theorem oSleep : Opens Try.prog 59 k59 (fun _ => True) :=
  opens_imp (opens_iso (f := fun x : S59 => (x.f0, x.f1, x.f2, x.f3, x.f4, x.f5)) (fun x => ⟨x.1, x.2.1, x.2.2.1, x.2.2.2.1, x.2.2.2.2.1, x.2.2.2.2.2⟩) (fun _ => rfl) (opens_struct Try.underlying59 (by kernel_rfl)
    (opensF_cons rfl (by kernel_rfl) oAny (opensF_cons rfl (by kernel_rfl) oAny (opensF_cons rfl (by kernel_rfl) oAny (opensF_cons rfl (by kernel_rfl) oAny (opensF_cons rfl (by kernel_rfl) oAny (opensF_one rfl (by kernel_rfl) oAny)))))))) (fun _ _ => trivial)
theorem oDevice : Opens Try.prog 62 k62 (fun _ => True) :=
  opens_imp (opens_iso (f := fun x : S62 => (x.f0, x.f1, x.f2, x.f3, x.f4, x.f5, x.f6)) (fun x => ⟨x.1, x.2.1, x.2.2.1, x.2.2.2.1, x.2.2.2.2.1, x.2.2.2.2.2.1, x.2.2.2.2.2.2⟩) (fun _ => rfl) (opens_struct Try.underlying62 (by kernel_rfl)
    (opensF_cons rfl (by kernel_rfl) oAny (opensF_cons rfl (by kernel_rfl) oAny (opensF_cons rfl (by kernel_rfl) oAny (opensF_cons rfl (by kernel_rfl) oAny (opensF_cons rfl (by kernel_rfl) oAny (opensF_cons rfl (by kernel_rfl) oAny (opensF_one rfl (by kernel_rfl) oAny))))))))) (fun _ _ => trivial)
abbrev Plat := List S45 × List S59 × List S62 × Int × Int × Int × Int × Int × Int
def kPlat : Kd Plat := Kd.pair (Kd.slice 45 k45) (Kd.pair (Kd.slice 59 k59) (Kd.pair (Kd.slice 62 k62) (Kd.pair (Kd.int .i64) (Kd.pair (Kd.int .i64) (Kd.pair (Kd.int .i64) (Kd.pair (Kd.int .i64) (Kd.pair (Kd.int .i64) (Kd.int .i64))))))))
theorem oPlat : Opens Try.prog 38 kPlat (fun _ => True) :=
  opens_imp (opens_struct (d := kPlat) Try.underlying38 (by kernel_rfl)
    (opensF_cons rfl (by kernel_rfl) (opens_slice Try.underlying34 (by kernel_rfl) oLevel) (opensF_cons rfl (by kernel_rfl) (opens_slice Try.underlying35 (by kernel_rfl) oSleep) (opensF_cons rfl (by kernel_rfl) (opens_slice Try.underlying36 (by kernel_rfl) oDevice)
    (opensF_cons rfl (by kernel_rfl) oAny (opensF_cons rfl (by kernel_rfl) oAny (opensF_cons rfl (by kernel_rfl) oAny (opensF_cons rfl (by kernel_rfl) oAny (opensF_cons rfl (by kernel_rfl) oAny (opensF_one rfl (by kernel_rfl) oAny)))))))))) (fun _ _ => trivial)
theorem plat_open {w : World} {x : Plat} {cs : List Value} (h : kPlat.K w x cs) : ∃ (A0 : Option Addr) (c0 : Nat) (A1 : Option Addr) (c1 : Nat) (A2 : Option Addr) (c2 : Nat),
    cs = [.slice A0 x.1.length c0, .slice A1 x.2.1.length c1, .slice A2 x.2.2.1.length c2, .int .i64 x.2.2.2.1, .int .i64 x.2.2.2.2.1, .int .i64 x.2.2.2.2.2.1, .int .i64 x.2.2.2.2.2.2.1, .int .i64 x.2.2.2.2.2.2.2.1, .int .i64 x.2.2.2.2.2.2.2.2] ∧
    (x.1.length ≤ c0 ∧ Kd.C k45 w A0 x.1.length x.1) ∧ (x.2.1.length ≤ c1 ∧ Kd.C k59 w A1 x.2.1.length x.2.1) ∧ (x.2.2.1.length ≤ c2 ∧ Kd.C k62 w A2 x.2.2.1.length x.2.2.1) := by
  obtain ⟨_, _, rfl, ⟨A0, c0, rfl, l0, h0⟩, _, _, rfl, ⟨A1, c1, rfl, l1, h1⟩, _, _, rfl, ⟨A2, c2, rfl, l2, h2⟩, _, _, rfl, e3, _, _, rfl, e4, _, _, rfl, e5, _, _, rfl, e6, _, _, rfl, e7, e8⟩ := h
  cases e3; cases e4; cases e5; cases e6; cases e7; cases e8
  exact ⟨A0, c0, A1, c1, A2, c2, rfl, ⟨l0, h0⟩, ⟨l1, h1⟩, ⟨l2, h2⟩⟩
end Go.Proofs.Ytijlfnjfjmhdiaa.Opn
