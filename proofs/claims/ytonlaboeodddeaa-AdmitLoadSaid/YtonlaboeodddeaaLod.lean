/- AdmitLoad: the load of any tasks, at any level, whether they fit, and the slowest level that would do. -/
import Derived.Test.YtonlaboeodddeaaSlw
import Derived.Test.YtonlaboeodddeaaL10
import Derived.Test.YtonlaboeodddeaaFx31
namespace Go.Proofs.Ytonlaboeodddeaa.Law
open Go.RowKit Go.Proofs.Ytonlaboeodddeaa.F Go.Proofs.Ytonlaboeodddeaa.Tbl Go.Proofs.Ytonlaboeodddeaa.Adm Go.Proofs.Ytonlaboeodddeaa.Opn Go.Proofs.YtonlaboeodddeaaW.PrintWords Go.Proofs.YtonlaboeodddeaaW.PrintLast Go.Proofs.YtonlaboeodddeaaW.PrintMore
theorem load_pure {l0 : List S34} {l1 : List S55} {l2 : List S58} {idle crit sw swE sems hor : Int} (l : List S29) (level : Int) : dormouselaw10_AdmitLoad.f 2000 l0 l1 l2 idle crit sw swE sems hor l level = some true := by
  unfold dormouselaw10_AdmitLoad.f
  rw [good_some _ (by omega), Option.bind_some]
  by_cases g : Mach l0 l1 l2 idle crit sw swE sems hor l
  · rw [if_pos (goodB_yes g), answers_yes, Option.bind_some, if_pos rfl, load_some g level (by omega), Option.bind_some, rload_some g level (by omega), Option.bind_some, if_pos rfl, fits_some g (by omega), Option.bind_some, rload_some g 0 (by omega), Option.bind_some, if_pos (by simp), slowest_some g (by omega), Option.bind_some, rslowest_some g (by omega), Option.bind_some]
    simp
  · rw [if_neg (by rw [goodB_no g]; simp), answers_yes, Option.bind_some]
theorem load_calls {w : World} (x : Plat) (cs : List Value) (h : kPlat.K w x cs) (_ok : True) (y : List S29) (v : Value) (h1 : (Kd.slice 29 k29).K w y [v]) (_ok1 : True) (m : Int) (_hm : (Lit.int .i64 m).wf = true) :
    Calls Try.prog 6 #[.agg cs.toArray, v, .int .i64 m] w fun e w' => e = .returned (.bool true) ∧ Below w.heap.size w w' := by
  obtain ⟨A0, c0, A1, c1, A2, c2, rfl, ⟨g0, r0⟩, ⟨g1, r1⟩, ⟨g2, r2⟩⟩ := plat_open h
  obtain ⟨A3, c3, e3, l3, r3⟩ := h1
  obtain rfl := (List.cons.inj e3).1
  exact dormouselaw10_AdmitLoad.calls 2000 A0 c0 _ A1 c1 _ A2 c2 _ _ _ _ _ _ _ A3 c3 _ m true w r0 g0 r1 g1 r2 g2 r3 l3 (load_pure y m)
end Go.Proofs.Ytonlaboeodddeaa.Law
