/- AdmitDemand: Baker's test: of tasks that fit, in a time of any length, all jobs that come and have their deadlines within it take no longer, held up once by a job of a greater period. -/
import Derived.Test.YtonlaboeodddeaaGood
import Derived.Test.YtonlaboeodddeaaSub
import Derived.Test.YtonlaboeodddeaaL10
import Derived.Test.YtonlaboeodddeaaFx30
namespace Go.Proofs.Ytonlaboeodddeaa.Law
open Go.RowKit Go.Proofs.Ytonlaboeodddeaa.F Go.Proofs.Ytonlaboeodddeaa.Tbl Go.Proofs.Ytonlaboeodddeaa.Adm Go.Proofs.Ytonlaboeodddeaa.Opn Go.Proofs.YtonlaboeodddeaaW.PrintWords Go.Proofs.YtonlaboeodddeaaW.PrintLast Go.Proofs.YtonlaboeodddeaaW.PrintMore
section
variable {l0 : List S34} {l1 : List S55} {l2 : List S58} {idle crit sw swE sems hor : Int} {l : List S29}
theorem demand_loop (h : Mach l0 l1 l2 idle crit sw swE sems hor l) (fits : Adm.load l0 crit sw l 0 ≤ 4294967296) {t : Int} (ht : 0 ≤ t) (ht2 : t ≤ 1048576) :
    ∀ (d i k : Nat) (acc held : Int), i + d = l.length → 1500 + d < k → 0 ≤ acc → acc + sumOf (fun u => t / u.f0 * most l0 sw 0 u) (l.drop i) = sumOf (fun u => t / u.f0 * most l0 sw 0 u) l → (held = 0 ∨ ∃ u ∈ l, u.f0 ≤ t ∧ held = block l0 crit sw l u.f0) →
    dormouselaw10_AdmitDemand.l0 k l t acc held i l0 l1 l2 idle crit sw swE sems hor = some true
  | 0, i, k, acc, held, hd, hk, ha, hs, hh => by
    obtain ⟨k, rfl⟩ : ∃ q, k = q + 1 := ⟨k - 1, by omega⟩
    have b := baker h fits ht hh
    have hb : 0 ≤ held := by
      rcases hh with e | ⟨u, hu, _, e⟩
      · omega
      · have := block_bd h u.f0; omega
    rw [List.drop_of_length_le (by omega)] at hs
    have z : sumOf (fun u => t / u.f0 * most l0 sw 0 u) ([] : List S29) = 0 := rfl
    simp only [dormouselaw10_AdmitDemand.l0]
    rw [if_neg (by omega), answers_yes, Option.bind_some, if_pos rfl, Adm.w64 (n := acc + held) (by omega) (by omega), decide_eq_true (by omega)]
  | d + 1, i, k, acc, held, hd, hk, ha, hs, hh => by
    obtain ⟨k, rfl⟩ : ∃ q, k = q + 1 := ⟨k - 1, by omega⟩
    have hi : i < l.length := by omega
    have hf := h.few
    have tk := h.task _ (rd_mem l hi)
    have p := tk.period
    have b := baker h fits ht (.inl rfl : (0 : Int) = 0 ∨ _)
    have nn : ∀ u ∈ l, 0 ≤ t / u.f0 * most l0 sw 0 u := fun u hu => Int.mul_nonneg (Int.ediv_nonneg ht (by have := (h.task u hu).period; omega)) (most_bd h.table (h.task u hu) 0).1
    have n1 := nn _ (rd_mem l hi)
    have n2 : 0 ≤ sumOf (fun u => t / u.f0 * most l0 sw 0 u) (l.drop (i + 1)) := by
      have := sumOf_sub (f := fun u => t / u.f0 * most l0 sw 0 u) (List.nil_sublist (l.drop (i + 1))) (fun u hu => nn u (List.mem_of_mem_drop hu))
      exact this
    rw [drop_at l hi, sumOf_cons] at hs
    have q := Int.ediv_nonneg ht (show 0 ≤ (rd_T29 l i).f0 by omega)
    have q2 := Int.ediv_le_self (rd_T29 l i).f0 ht
    simp only [dormouselaw10_AdmitDemand.l0]
    rw [if_pos (by omega), if_pos (by omega), if_neg (by omega), quanta_some h.table tk, Option.bind_some, Int.tdiv_eq_ediv_of_nonneg ht, Adm.w64 (n := (i : Int) + 1) (by omega) (by omega), Adm.w64 (n := t / (rd_T29 l i).f0) (by omega) (by omega), Adm.w64 (n := t / (rd_T29 l i).f0 * most l0 sw 0 (rd_T29 l i)) (by omega) (by omega), Adm.w64 (n := acc + t / (rd_T29 l i).f0 * most l0 sw 0 (rd_T29 l i)) (by omega) (by omega)]
    have ih := fun held hh => demand_loop h fits ht ht2 d (i + 1) k (acc + t / (rd_T29 l i).f0 * most l0 sw 0 (rd_T29 l i)) held (by omega) (by omega) (by omega) (by omega) hh
    rw [show ((i + 1 : Nat) : Int) = (i : Int) + 1 from by omega] at ih
    by_cases c : (rd_T29 l i).f0 ≤ t
    · rw [if_pos c, block_some h _ (by omega), Option.bind_some]
      refine ih _ ?_
      rcases mx_cases held (block l0 crit sw l (rd_T29 l i).f0) with e | e
      · rw [e]; exact hh
      · rw [e]; exact .inr ⟨_, rd_mem l hi, c, rfl⟩
    · rw [if_neg c]; exact ih _ hh
theorem demand_pure (l : List S29) (t : Int) (ht : 0 ≤ t ∧ t ≤ 4294967295) : dormouselaw10_AdmitDemand.f 2000 l0 l1 l2 idle crit sw swE sems hor l t = some true := by
  unfold dormouselaw10_AdmitDemand.f
  rw [good_some _ (by omega), Option.bind_some]
  have no : dormouselaw10_AdmitDemand.j0 2000 l t true l0 l1 l2 idle crit sw swE sems hor = some true := by
    simp only [dormouselaw10_AdmitDemand.j0]; rw [if_pos (by trivial), answers_yes, Option.bind_some]
  by_cases g : Mach l0 l1 l2 idle crit sw swE sems hor l
  · rw [if_pos (goodB_yes g), fits_some g (by omega), Option.bind_some]
    by_cases fits : Adm.load l0 crit sw l 0 ≤ 4294967296
    · rw [decide_eq_true fits]
      simp only [dormouselaw10_AdmitDemand.j0]
      have m1 := Int.emod_nonneg t (show (1048576 : Int) ≠ 0 by omega)
      have m2 := Int.emod_lt_of_pos t (show (0 : Int) < 1048576 by omega)
      have hf := g.few
      rw [if_neg (by simp), Int.tmod_eq_emod_of_nonneg ht.1, Adm.w64 (n := t % 1048576) (by omega) (by omega)]
      have := demand_loop g fits m1 (by omega) l.length 0 1999 0 0 (by omega) (by omega) (by omega) (by rw [List.drop_zero]; omega) (.inl rfl)
      rw [show ((0 : Nat) : Int) = 0 from rfl] at this
      exact this
    · rw [decide_eq_false fits]; exact no
  · rw [if_neg (by rw [goodB_no g]; simp)]; exact no
end
theorem demand_calls {w : World} (x : Plat) (cs : List Value) (h : kPlat.K w x cs) (_ok : True) (y : List S29) (v : Value) (h1 : (Kd.slice 29 k29).K w y [v]) (_ok1 : True) (a : Int) (ha : (Lit.int .u32 a).wf = true) :
    Calls Try.prog 5 #[.agg cs.toArray, v, .int .u32 a] w fun e w' => e = .returned (.bool true) ∧ Below w.heap.size w w' := by
  obtain ⟨A0, c0, A1, c1, A2, c2, rfl, ⟨g0, r0⟩, ⟨g1, r1⟩, ⟨g2, r2⟩⟩ := plat_open h
  obtain ⟨A3, c3, e3, l3, r3⟩ := h1
  obtain rfl := (List.cons.inj e3).1
  exact dormouselaw10_AdmitDemand.calls 2000 A0 c0 _ A1 c1 _ A2 c2 _ _ _ _ _ _ _ A3 c3 _ a true w r0 g0 r1 g1 r2 g2 r3 l3 (demand_pure y a (bd_u32 ha))
end Go.Proofs.Ytonlaboeodddeaa.Law
