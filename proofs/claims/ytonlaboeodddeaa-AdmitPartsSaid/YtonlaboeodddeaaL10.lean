/- Chapter 10's laws, walked and answered: what a row calls. -/
import Derived.Test.YtonlaboeodddeaaGood
import Derived.Test.YtonlaboeodddeaaKinds
namespace Go.Proofs.Ytonlaboeodddeaa.Opn
open Go.RowKit Go.Proofs.Ytonlaboeodddeaa.F Go.Proofs.YtonlaboeodddeaaW.PrintWords Go.Proofs.YtonlaboeodddeaaW.PrintLast Go.Proofs.YtonlaboeodddeaaW.PrintMore
instance : Inhabited S29 := ⟨z29⟩
theorem oTask : Opens Try.prog 29 k29 (fun _ => True) :=
  opens_imp (opens_iso (f := fun x : S29 => (x.f0, x.f1, x.f2, x.f3)) (fun x => ⟨x.1, x.2.1, x.2.2.1, x.2.2.2⟩) (fun _ => rfl) (opens_struct Try.underlying29 (by kernel_rfl)
    (opensF_cons rfl (by kernel_rfl) oAny (opensF_cons rfl (by kernel_rfl) oAny (opensF_cons rfl (by kernel_rfl) (opens_slice Try.underlying27 (by kernel_rfl) oAny) (opensF_one rfl (by kernel_rfl) (opens_slice Try.underlying27 (by kernel_rfl) oAny))))))) (fun _ _ => trivial)
theorem oTasks : Opens Try.prog 31 (Kd.slice 29 k29) (fun _ => True) := opens_imp (opens_slice Try.underlying31 (by kernel_rfl) oTask) (fun _ _ => trivial)
end Go.Proofs.Ytonlaboeodddeaa.Opn
namespace Go.Proofs.Ytonlaboeodddeaa.Law
open Go.RowKit Go.Proofs.Ytonlaboeodddeaa.F Go.Proofs.Ytonlaboeodddeaa.Adm Go.Proofs.Ytonlaboeodddeaa.Opn Go.Proofs.YtonlaboeodddeaaW.PrintWords Go.Proofs.YtonlaboeodddeaaW.PrintLast Go.Proofs.YtonlaboeodddeaaW.PrintMore
theorem parts_calls {w : World} (x : Plat) (cs : List Value) (h : kPlat.K w x cs) (_ok : True) (y : S29) (cs1 : List Value) (h1 : k29.K w y cs1) (_ok1 : True) (m : Int) (_hm : (Lit.int .i64 m).wf = true) :
    Calls Try.prog 3 #[.agg cs.toArray, .agg cs1.toArray, .int .i64 m] w fun e w' => e = .returned (.bool true) ∧ Below w.heap.size w w' := by
  obtain ⟨A0, c0, A1, c1, A2, c2, rfl, ⟨g0, r0⟩, ⟨g1, r1⟩, ⟨g2, r2⟩⟩ := plat_open h
  obtain ⟨B2, d2, B3, d3, rfl, l2, s2, l3, s3⟩ := k29_open h1
  exact dormouselaw10_AdmitParts.calls 2000 A0 c0 _ A1 c1 _ A2 c2 _ _ _ _ _ _ _ _ _ (fun k => k < w.heap.size) B2 d2 _ (fun k => k < w.heap.size) B3 d3 _ m true w r0 g0 r1 g1 r2 g2 (Kd.V_mk l2 (Kd.C_F (Kd.heap_int _) s2)) (Kd.V_mk l3 (Kd.C_F (Kd.heap_int _) s3)) (parts_pure y m)
end Go.Proofs.Ytonlaboeodddeaa.Law
