/- SimRuns and SimLate: what a row calls. -/
import Derived.Test.YtanakihfgdgdfaaLB
import Derived.Test.YtanakihfgdgdfaaRr
import Derived.Test.YtanakihfgdgdfaaFx16
import Derived.Test.YtanakihfgdgdfaaFx17
namespace Go.Proofs.Ytanakihfgdgdfaa.Law
open Go.RowKit Go.Proofs.Ytanakihfgdgdfaa.F Go.Proofs.Ytanakihfgdgdfaa.Edf Go.Proofs.Ytanakihfgdgdfaa.Sm Go.Proofs.Ytanakihfgdgdfaa.Opn Go.Proofs.YtanakihfgdgdfaaW.PrintWords Go.Proofs.YtanakihfgdgdfaaW.PrintLast Go.Proofs.YtanakihfgdgdfaaW.PrintMore
theorem runs_pure (l : List S32) {k : Nat} (hk : 20000000 < k) : dormouselaw25_SimRuns.f k l = some true := by
  unfold dormouselaw25_SimRuns.f
  have len : (runL l).length ≤ 1000 := by
    by_cases c : RightW l
    · have := c.few; rw [runL_len c]; omega
    · rw [runL_no c]; simp
  rw [answers_yes (by omega), Option.bind_some, if_pos rfl, run_some l (by omega), Option.bind_some, rrun_some l (by omega), Option.bind_some, Sm.same_some _ len (by omega), Option.bind_some]
theorem late_pure (l : List S32) (a b : Int) {k : Nat} (hk : 20000000 < k) : dormouselaw25_SimLate.f k l a b = some true := by
  unfold dormouselaw25_SimLate.f
  rw [answers_yes (by omega), Option.bind_some, if_pos rfl, late_some l (by omega), Option.bind_some, rlate_some l (by omega), Option.bind_some, if_pos (by simp), Sm.demand_some l a b (by omega), Option.bind_some, rdemand_some l a b (by omega), Option.bind_some, if_pos rfl, Sm.fits_some l (by omega), Option.bind_some, rfits_some l (by omega), Option.bind_some]
  simp
section
variable {w : World}
theorem runs_calls (y : List S32) (v : Value) (h1 : (Kd.slice 32 k32).K w y [v]) (_ok1 : True) :
    Calls Try.prog 3 #[v] w fun e w' => e = .returned (.bool true) ∧ Below w.heap.size w w' := by
  obtain ⟨A3, c3, e3, l3, r3⟩ := h1
  obtain rfl := (List.cons.inj e3).1
  obtain ⟨k, hk⟩ := great
  exact dormouselaw25_SimRuns.calls k A3 c3 _ true w r3 l3 (runs_pure y hk)
theorem late_calls (y : List S32) (v : Value) (h1 : (Kd.slice 32 k32).K w y [v]) (_ok1 : True) (a : Int) (_ha : (Lit.int .i64 a).wf = true) (b : Int) (_hb : (Lit.int .i64 b).wf = true) :
    Calls Try.prog 4 #[v, .int .i64 a, .int .i64 b] w fun e w' => e = .returned (.bool true) ∧ Below w.heap.size w w' := by
  obtain ⟨A3, c3, e3, l3, r3⟩ := h1
  obtain rfl := (List.cons.inj e3).1
  obtain ⟨k, hk⟩ := great
  exact dormouselaw25_SimLate.calls k A3 c3 _ a b true w r3 l3 (late_pure y a b hk)
end
end Go.Proofs.Ytanakihfgdgdfaa.Law
