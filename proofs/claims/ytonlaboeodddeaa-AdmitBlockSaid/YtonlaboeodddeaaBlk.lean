/- AdmitBlock: how long jobs may be held up, and what is kept for that. -/
import Derived.Test.YtonlaboeodddeaaRef
import Derived.Test.YtonlaboeodddeaaL10
import Derived.Test.YtonlaboeodddeaaFx29
namespace Go.Proofs.Ytonlaboeodddeaa.Law
open Go.RowKit Go.Proofs.Ytonlaboeodddeaa.F Go.Proofs.Ytonlaboeodddeaa.Tbl Go.Proofs.Ytonlaboeodddeaa.Adm Go.Proofs.Ytonlaboeodddeaa.Opn Go.Proofs.YtonlaboeodddeaaW.PrintWords Go.Proofs.YtonlaboeodddeaaW.PrintLast Go.Proofs.YtonlaboeodddeaaW.PrintMore
theorem block_pure {l0 : List S34} {l1 : List S55} {l2 : List S58} {idle crit sw swE sems hor : Int} (l : List S29) (period : Int) : dormouselaw10_AdmitBlock.f 2000 l0 l1 l2 idle crit sw swE sems hor l period = some true := by
  unfold dormouselaw10_AdmitBlock.f
  rw [good_some _ (by omega), Option.bind_some]
  by_cases g : Mach l0 l1 l2 idle crit sw swE sems hor l
  · rw [if_pos (goodB_yes g), answers_yes, Option.bind_some, if_pos rfl, block_some g period (by omega), Option.bind_some, rblock_some g period (by omega), Option.bind_some, if_pos rfl, reserve_some g (by omega), Option.bind_some, rreserve_some g (by omega), Option.bind_some]
    simp
  · rw [if_neg (by rw [goodB_no g]; simp), answers_yes, Option.bind_some]
theorem block_calls {w : World} (x : Plat) (cs : List Value) (h : kPlat.K w x cs) (_ok : True) (y : List S29) (v : Value) (h1 : (Kd.slice 29 k29).K w y [v]) (_ok1 : True) (m : Int) (_hm : (Lit.int .i64 m).wf = true) :
    Calls Try.prog 4 #[.agg cs.toArray, v, .int .i64 m] w fun e w' => e = .returned (.bool true) ∧ Below w.heap.size w w' := by
  obtain ⟨A0, c0, A1, c1, A2, c2, rfl, ⟨g0, r0⟩, ⟨g1, r1⟩, ⟨g2, r2⟩⟩ := plat_open h
  obtain ⟨A3, c3, e3, l3, r3⟩ := h1
  obtain rfl := (List.cons.inj e3).1
  exact dormouselaw10_AdmitBlock.calls 2000 A0 c0 _ A1 c1 _ A2 c2 _ _ _ _ _ _ _ A3 c3 _ m true w r0 g0 r1 g1 r2 g2 r3 l3 (block_pure y m)
end Go.Proofs.Ytonlaboeodddeaa.Law
