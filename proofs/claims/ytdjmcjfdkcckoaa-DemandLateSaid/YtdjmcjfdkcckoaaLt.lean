/- DemandLate: if sources ask for more by some moment than there is time, plain EDF is late when all their works come at once. -/
import Derived.Test.YtdjmcjfdkcckoaaSl
import Derived.Test.YtdjmcjfdkcckoaaDw
import Derived.Test.YtdjmcjfdkcckoaaLB
import Derived.Test.YtdjmcjfdkcckoaaFx46
namespace Go.Proofs.Ytdjmcjfdkcckoaa.Law
open Go.RowKit Go.Proofs.Ytdjmcjfdkcckoaa.F Go.Proofs.Ytdjmcjfdkcckoaa.Edf Go.Proofs.Ytdjmcjfdkcckoaa.Opn Go.Proofs.YtdjmcjfdkcckoaaW.PrintWords Go.Proofs.YtdjmcjfdkcckoaaW.PrintLast Go.Proofs.YtdjmcjfdkcckoaaW.PrintMore
set_option linter.unusedVariables false
theorem late_math {l : List S36} {t : Int} (h0 : 0 ≤ t) (h1 : t ≤ 16383) (hne : Dm.worksOf l t ≠ []) (hd : t < Dm.dem l t) : Sm.LateL (Dm.worksOf l t) ∧ ¬ Dm.FitsL l := by
  have g : Dm.RightL l := Classical.byContradiction fun x => hne (Dm.worksOf_no x t)
  constructor
  · refine Classical.byContradiction fun nl => ?_
    obtain ⟨gw, f⟩ := (Sm.fits_late_iff _).2 nl
    have pos : 0 < (Dm.worksOf l t).length := List.length_pos_iff.2 hne
    obtain ⟨j, hj, hmax⟩ := Sm.greatest (Sm.dl (Dm.worksOf l t)) _ pos
    -- one comes at once
    have z : ∃ x ∈ Dm.worksOf l t, x.f0 = 0 := by
      by_cases few : (Dm.wsAll l t l.length).length ≤ 32
      · rw [Dm.worksOf_yes g few]
        have key : ∀ n, n ≤ l.length → Dm.wsAll l t n ≠ [] → ∃ x ∈ Dm.wsAll l t n, x.f0 = 0 := by
          intro n
          induction n with
          | zero => intro _ h; exact absurd rfl h
          | succ n ih =>
            intro hn h
            rw [Dm.wsAll_succ] at h ⊢
            by_cases e : Dm.wsAll l t n = []
            · rw [e, List.nil_append] at h ⊢
              have hp : 0 < Dm.nd l t n := by
                rcases Nat.eq_zero_or_pos (Dm.nd l t n) with y | y
                · rw [y] at h; exact absurd rfl h
                · exact y
              exact ⟨Dm.work l n 0, List.mem_map.2 ⟨0, List.mem_range.2 hp, rfl⟩, by simp [Dm.work]⟩
            · obtain ⟨x, hx, e⟩ := ih (by omega) e
              exact ⟨x, List.mem_append.2 (.inl hx), e⟩
        rw [Dm.worksOf_yes g few] at hne
        exact key _ (Nat.le_refl _) hne
      · exact absurd (Dm.worksOf_many g (by omega)) hne
    obtain ⟨x, hx, ex⟩ := z
    obtain ⟨i, hi, ei⟩ := Sm.mem_rd hx
    have ri : Sm.rl (Dm.worksOf l t) i = 0 := by unfold Sm.rl; rw [ei]; exact ex
    have wj := Dm.works_in (Sm.rd_mem hj)
    have dj : Sm.dl (Dm.worksOf l t) j ≤ t := wj.2.2.1
    have fij := f i hi j hj (by rw [ri]; have : 0 ≤ Sm.dl (Dm.worksOf l t) j := by show 0 ≤ (rd_T31 (Dm.worksOf l t) j).f1; omega
                                omega)
    rw [ri, Sm.dem_list] at fij
    have all : ((Dm.worksOf l t).map (Sm.ask 0 (Sm.dl (Dm.worksOf l t) j))) = (Dm.worksOf l t).map (·.f2) := by
      refine List.map_congr_left fun y hy => ?_
      obtain ⟨q, hq, eq⟩ := Sm.mem_rd hy
      have := hmax q hq
      have w := Dm.works_in hy
      unfold Sm.ask
      rw [if_pos]
      refine ⟨w.1, ?_⟩
      have : Sm.dl (Dm.worksOf l t) q = y.f1 := by unfold Sm.dl; rw [eq]
      omega
    rw [all] at fij
    have c := Dm.works_demand hne
    unfold Dm.cycles at c
    omega
  · rintro ⟨_, f⟩
    have := Dem.fits_all g.ok f t.toNat t (by omega) h0
    rw [Dm.dem_yes g] at hd
    omega
theorem dlate_pure (l : List S36) (a : Int) (ha : 0 ≤ a ∧ a ≤ 65535) {k : Nat} (hk : 2100000 < k) : dormouselaw28_DemandLate.f k l a = some true := by
  unfold dormouselaw28_DemandLate.f
  have m1 := Int.emod_nonneg a (show (16384 : Int) ≠ 0 by omega)
  have m2 := Int.emod_lt_of_pos a (show (0 : Int) < 16384 by omega)
  have no : ∀ w, dormouselaw28_DemandLate.j0 k l w true = some true := by
    intro w
    obtain ⟨k, rfl⟩ : ∃ q, k = q + 1 := ⟨k - 1, by omega⟩
    simp only [dormouselaw28_DemandLate.j0]; rw [if_pos (by trivial), answers_yes (by omega), Option.bind_some]
  rw [Int.tmod_eq_emod_of_nonneg ha.1, Dm.w64 (n := a % 16384) (by omega) (by omega), Dm.works_some l (by omega) (by omega), Option.bind_some]
  by_cases e : ((Dm.worksOf l (a % 16384)).length : Int) = 0
  · rw [if_pos e]; exact no _
  · rw [if_neg e, Dm.demand_some l (by omega) (by omega), Option.bind_some]
    by_cases c : Dm.dem l (a % 16384) ≤ a % 16384
    · rw [decide_eq_true c]; exact no _
    · rw [decide_eq_false c]
      obtain ⟨hl, hf⟩ := late_math m1 (by omega) (fun x => e (by rw [x]; rfl)) (by omega)
      obtain ⟨k, rfl⟩ : ∃ q, k = q + 1 := ⟨k - 1, by omega⟩
      simp only [dormouselaw28_DemandLate.j0]
      rw [if_neg (by simp), answers_yes (by omega), Option.bind_some, if_pos rfl, Sm.late_some _ (by omega), Option.bind_some, Sm.lateB_yes hl, if_pos rfl, Dm.fits_some l (by omega), Option.bind_some, Dm.fitsB_no hf]
      rfl
theorem bd_u16 {n : Int} (h : (Lit.int .u16 n).wf = true) : 0 ≤ n ∧ n ≤ 65535 := by
  simp [Lit.wf, IntKind.min, IntKind.max, IntKind.signed, IntKind.bits] at h; omega
theorem dlate_calls {w : World} (y : List S36) (v : Value) (h1 : (Kd.slice 36 k36).K w y [v]) (_ok1 : True) (m : Int) (hm : (Lit.int .u16 m).wf = true) :
    Calls Try.prog 11 #[v, .int .u16 m] w fun e w' => e = .returned (.bool true) ∧ Below w.heap.size w w' := by
  obtain ⟨A3, c3, e3, l3, r3⟩ := h1
  obtain rfl := (List.cons.inj e3).1
  obtain ⟨k, hk⟩ := great
  exact dormouselaw28_DemandLate.calls k A3 c3 _ m true w r3 l3 (dlate_pure y m (bd_u16 hm) hk)
end Go.Proofs.Ytdjmcjfdkcckoaa.Law
