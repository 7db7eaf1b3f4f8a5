/- DemandSporadic: sources that fit are never late, whenever their works come, if far enough apart. -/
import Derived.Test.YtdjmcjfdkcckoaaSl
import Derived.Test.YtdjmcjfdkcckoaaDw
import Derived.Test.YtdjmcjfdkcckoaaLB
import Derived.Test.YtdjmcjfdkcckoaaFx45
namespace Go.Proofs.Ytdjmcjfdkcckoaa.Opn
open Go.RowKit Go.Proofs.Ytdjmcjfdkcckoaa.F Go.Proofs.YtdjmcjfdkcckoaaW.PrintWords Go.Proofs.YtdjmcjfdkcckoaaW.PrintLast Go.Proofs.YtdjmcjfdkcckoaaW.PrintMore
instance : Inhabited S56 := ⟨z56⟩
theorem oU8 : Opens Try.prog 5 (Kd.int .u8) (fun n => (Lit.int .u8 n).wf = true) := opens_int Try.underlying5
theorem oCome : Opens Try.prog 56 k56 (fun x => (Lit.int .u8 x.f0).wf = true ∧ (Lit.int .u8 x.f1).wf = true ∧ (Lit.int .u8 x.f2).wf = true) :=
  opens_imp (opens_iso (f := fun x : S56 => (x.f0, x.f1, x.f2)) (fun x => ⟨x.1, x.2.1, x.2.2⟩) (fun _ => rfl) (opens_struct Try.underlying56 (by kernel_rfl)
    (opensF_cons rfl (by kernel_rfl) oU8 (opensF_cons rfl (by kernel_rfl) oU8 (opensF_one rfl (by kernel_rfl) oU8))))) (fun x h => h)
theorem oComes : Opens Try.prog 53 (Kd.slice 56 k56) (fun xs => ∀ x ∈ xs, (Lit.int .u8 x.f0).wf = true ∧ (Lit.int .u8 x.f1).wf = true ∧ (Lit.int .u8 x.f2).wf = true) := opens_slice Try.underlying53 (by kernel_rfl) oCome
end Go.Proofs.Ytdjmcjfdkcckoaa.Opn
namespace Go.Proofs.Ytdjmcjfdkcckoaa.Law
open Go.RowKit Go.Proofs.Ytdjmcjfdkcckoaa.F Go.Proofs.Ytdjmcjfdkcckoaa.Edf Go.Proofs.Ytdjmcjfdkcckoaa.Opn Go.Proofs.YtdjmcjfdkcckoaaW.PrintWords Go.Proofs.YtdjmcjfdkcckoaaW.PrintLast Go.Proofs.YtdjmcjfdkcckoaaW.PrintMore
open Go.Proofs.Ytdjmcjfdkcckoaa.Dem (dueBy due_nonneg due_mono le_div')
set_option linter.unusedVariables false
theorem cnt_step {T x y : Int} (hT : 1 ≤ T) (h : x + T ≤ y) (hy : 0 ≤ y) : dueBy 0 T x + 1 ≤ dueBy 0 T y := by
  have q0 := Int.ediv_nonneg hy (show 0 ≤ T by omega)
  unfold dueBy
  rw [if_neg (show ¬ y < 0 by omega)]
  by_cases c : x < 0
  · rw [if_pos c, Int.sub_zero]; omega
  · rw [if_neg c, Int.sub_zero, Int.sub_zero]
    have b := (Dem.div_bd (a := x) hT).1
    have : x / T + 1 ≤ y / T := le_div' hT (by rw [Int.add_mul, Int.one_mul]; omega)
    omega
theorem cnt_due (D T t : Int) : dueBy 0 T (t - D) = dueBy D T t := by
  unfold dueBy
  by_cases c : t < D
  · rw [if_pos c, if_pos (by omega)]
  · rw [if_neg c, if_neg (by omega), Int.sub_zero]
theorem co_mem {l : List S56} {i : Nat} (h : i < l.length) : rd_T56 l i ∈ l := by
  unfold rd_T56
  rw [Int.toNat_natCast, List.getD_eq_getElem?_getD, List.getElem?_eq_getElem h]
  exact List.getElem_mem h
theorem bd_u8' {n : Int} (h : (Lit.int .u8 n).wf = true) : 0 ≤ n ∧ n ≤ 255 := by
  simp [Lit.wf, IntKind.min, IntKind.max, IntKind.signed, IntKind.bits] at h; omega
structure Sp (l : List S36) (nx : Nat → Int) (m : Nat) (ws : List S31) : Prop where
  bd : ∀ s : Nat, s < l.length → 0 ≤ nx s ∧ nx s ≤ m * 16639
  len : ws.length ≤ m
  each : ∀ x ∈ ws, Sm.RightW [x]
  dem : ∀ a b : Int, (ws.map (Sm.ask a b)).sum ≤ sm l.length (fun s => dueBy 0 (Dm.pe l s) (min (b - Dm.dl l s) (nx s - Dm.pe l s) - a) * Dm.cy l s)
theorem sp_start (l : List S36) (g : Dm.RightL l) : Sp l (fun _ => 0) 0 [] where
  bd := fun s hs => by simp
  len := by simp
  each := fun x hx => by simp at hx
  dem := fun a b => by
    rw [List.map_nil, List.sum_nil]
    exact sm_nonneg fun i hi => Int.mul_nonneg (due_nonneg (g.per i hi).1) (g.cyc i hi).1
theorem sp_step {l : List S36} (g : Dm.RightL l) {nx : Nat → Int} {m : Nat} {ws : List S31} (h : Sp l nx m ws) {s0 : Nat} (hs : s0 < l.length) {la le : Int} (l0 : 0 ≤ la) (l1 : la ≤ 255) (e0 : 0 ≤ le)
    {ws' : List S31} (hw : ws' = ws ∨ (ws' = ws ++ [(⟨nx s0 + la, nx s0 + la + Dm.dl l s0, max (Dm.cy l s0 - le) 0⟩ : S31)] ∧ Sm.RightW [(⟨nx s0 + la, nx s0 + la + Dm.dl l s0, max (Dm.cy l s0 - le) 0⟩ : S31)])) :
    Sp l (fun s => if s = s0 then nx s0 + la + Dm.pe l s0 else nx s) (m + 1) ws' where
  bd := fun s hsl => by
    have b := h.bd s hsl
    have b0 := h.bd s0 hs
    have p := g.per s0 hs
    show 0 ≤ (if s = s0 then _ else _) ∧ (if s = s0 then _ else _) ≤ _
    split <;> omega
  len := by
    have := h.len
    rcases hw with rfl | ⟨rfl, _⟩
    · omega
    · simp; omega
  each := fun x hx => by
    rcases hw with rfl | ⟨rfl, r⟩
    · exact h.each x hx
    · rcases List.mem_append.1 hx with y | y
      · exact h.each x y
      · rw [List.mem_singleton.1 y]; exact r
  dem := fun a b => by
    have hd := h.dem a b
    have p := g.per s0 hs
    have c := g.cyc s0 hs
    have mono : ∀ s, s < l.length → dueBy 0 (Dm.pe l s) (min (b - Dm.dl l s) (nx s - Dm.pe l s) - a) * Dm.cy l s ≤ dueBy 0 (Dm.pe l s) (min (b - Dm.dl l s) ((if s = s0 then nx s0 + la + Dm.pe l s0 else nx s) - Dm.pe l s) - a) * Dm.cy l s := fun s hsl => by
      refine Int.mul_le_mul_of_nonneg_right (due_mono (g.per s hsl).1 ?_) (g.cyc s hsl).1
      have := g.per s hsl
      split
      · next e => subst e; omega
      · omega
    rcases hw with rfl | ⟨rfl, r⟩
    · exact Int.le_trans hd (sm_le mono)
    · rw [List.map_append, List.sum_append, List.map_singleton, List.sum_singleton]
      have key := sm_le (n := l.length) (f := fun s => dueBy 0 (Dm.pe l s) (min (b - Dm.dl l s) (nx s - Dm.pe l s) - a) * Dm.cy l s + (if s = s0 then Sm.ask a b (⟨nx s0 + la, nx s0 + la + Dm.dl l s0, max (Dm.cy l s0 - le) 0⟩ : S31) else 0))
        (g := fun s => dueBy 0 (Dm.pe l s) (min (b - Dm.dl l s) ((if s = s0 then nx s0 + la + Dm.pe l s0 else nx s) - Dm.pe l s) - a) * Dm.cy l s) (fun s hsl => by
        by_cases e : s = s0
        · subst e
          rw [if_pos rfl, if_pos rfl]
          by_cases i : a ≤ nx s + la ∧ nx s + la + Dm.dl l s ≤ b
          · have ea : Sm.ask a b (⟨nx s + la, nx s + la + Dm.dl l s, max (Dm.cy l s - le) 0⟩ : S31) = max (Dm.cy l s - le) 0 := by unfold Sm.ask; rw [if_pos i]
            rw [ea]
            have st := cnt_step (T := Dm.pe l s) (x := min (b - Dm.dl l s) (nx s - Dm.pe l s) - a) (y := min (b - Dm.dl l s) (nx s + la + Dm.pe l s - Dm.pe l s) - a) p.1 (by omega) (by omega)
            have := Int.mul_le_mul_of_nonneg_right st c.1
            rw [Int.add_mul, Int.one_mul] at this
            omega
          · have ea : Sm.ask a b (⟨nx s + la, nx s + la + Dm.dl l s, max (Dm.cy l s - le) 0⟩ : S31) = 0 := by unfold Sm.ask; rw [if_neg i]
            rw [ea, Int.add_zero]
            have := mono s hsl
            rw [if_pos rfl] at this
            exact this
        · rw [if_neg e, Int.add_zero]
          have := mono s hsl
          exact this)
      rw [sm_add, sm_one, if_pos hs] at key
      exact Int.le_trans (Int.add_le_add_right hd _) key
theorem sp_end {l : List S36} (g : Dm.FitsL l) {nx : Nat → Int} {m : Nat} (hm : m ≤ 32) {ws : List S31} (h : Sp l nx m ws) : ¬ Sm.LateL ws := by
  refine (Sm.fits_late_iff ws).1 ⟨Sm.right_all (by have := h.len; omega) fun x hx => Sm.right_one (h.each x hx), fun i hi j hj hij => ?_⟩
  rw [Sm.dem_list]
  have d := h.dem (Sm.rl ws i) (Sm.dl ws j)
  have f := Dem.fits_all g.1.ok g.2 (Sm.dl ws j - Sm.rl ws i).toNat (Sm.dl ws j - Sm.rl ws i) (by omega) (by omega)
  refine Int.le_trans d (Int.le_trans (sm_le fun s hs => ?_) f)
  have p := g.1.per s hs
  refine Int.mul_le_mul_of_nonneg_right ?_ (g.1.cyc s hs).1
  rw [← cnt_due (Dm.dl l s)]
  refine due_mono p.1 ?_
  omega
theorem sporadic_loop {l : List S36} (g : Dm.FitsL l) (hne : l.length ≠ 0) {cs : List S56} (hc : cs.length ≤ 32) (ok : ∀ x ∈ cs, (Lit.int .u8 x.f0).wf = true ∧ (Lit.int .u8 x.f1).wf = true ∧ (Lit.int .u8 x.f2).wf = true) (d : Nat) :
    ∀ (i k : Nat) (nx : Nat → Int) (ws : List S31), i + d = cs.length → 2100000 + d < k → Sp l nx i ws →
    dormouselaw28_DemandSporadic.l0 k l cs (Sm.lst 8 nx) ws i = some true := by
  have few := g.1.few
  induction d with
  | zero =>
    intro i k nx ws hi hk h
    obtain ⟨k, rfl⟩ : ∃ q, k = q + 1 := ⟨k - 1, by omega⟩
    simp only [dormouselaw28_DemandSporadic.l0]
    rw [if_neg (by omega), answers_yes (by omega), Option.bind_some, if_pos rfl, Sm.late_some _ (by omega), Option.bind_some, Sm.lateB_no (sp_end g (by omega) h)]
    rfl
  | succ d ih =>
    intro i k nx ws hi hk h
    obtain ⟨k, rfl⟩ : ∃ q, k = q + 1 := ⟨k - 1, by omega⟩
    obtain ⟨o0, o1, o2⟩ := ok _ (co_mem (l := cs) (i := i) (by omega))
    replace o0 := bd_u8' o0
    replace o1 := bd_u8' o1
    replace o2 := bd_u8' o2
    simp only [dormouselaw28_DemandSporadic.l0]
    rw [if_pos (by omega), if_pos (by omega), if_neg (by omega)]
    generalize hco : rd_T56 cs i = co at *
    have e0 : wrap64 co.f0 = co.f0 := Dm.w64 (by omega) (by omega)
    have e1 : wrap64 co.f1 = co.f1 := Dm.w64 (by omega) (by omega)
    have e2 : wrap64 co.f2 = co.f2 := Dm.w64 (by omega) (by omega)
    rw [e0, e1, e2, Int.tmod_eq_emod_of_nonneg o0.1]
    obtain ⟨s, hs⟩ : ∃ s : Nat, co.f0 % (l.length : Int) = s := ⟨_, (Int.toNat_of_nonneg (Int.emod_nonneg _ (by omega))).symm⟩
    have hsl : s < l.length := by have := Int.emod_lt_of_pos co.f0 (show (0 : Int) < l.length by omega); omega
    rw [hs]
    have bs := h.bd s hsl
    have p := g.1.per s hsl
    have q := g.1.dead s hsl
    have c := g.1.cyc s hsl
    have f0 : (rd_T36 l s).f0 = Dm.cy l s := rfl
    have f1 : (rd_T36 l s).f1 = Dm.pe l s := rfl
    have f2 : (rd_T36 l s).f2 = Dm.dl l s := rfl
    have hm : mx (Dm.cy l s - co.f2) 0 = max (Dm.cy l s - co.f2) 0 := by unfold mx; omega
    rw [if_pos (by omega), if_pos (by rw [Sm.lst_len]; omega), if_pos (by omega), Sm.lst_rd (by omega), f0, f1, f2, Option.bind_some, Dm.w64 (n := nx s + co.f1) (by omega) (by omega), Dm.w64 (n := nx s + co.f1 + Dm.pe l s) (by omega) (by omega), Dm.w64 (n := nx s + co.f1 + Dm.dl l s) (by omega) (by omega), Dm.w64 (n := Dm.cy l s - co.f2) (by omega) (by omega), hm, Sm.rright_some _ (by omega), Option.bind_some, Int.toNat_natCast, Sm.lst_set, Dm.w64 (n := (i : Int) + 1) (by omega) (by omega)]
    have go := fun ws' hw => ih (i + 1) k _ ws' (by omega) (by omega) (sp_step g.1 h hsl o1.1 o1.2 o2.1 (ws' := ws') hw)
    rw [show ((i + 1 : Nat) : Int) = (i : Int) + 1 from by omega] at go
    have len := h.len
    by_cases r : Sm.RightW [(⟨nx s + co.f1, nx s + co.f1 + Dm.dl l s, max (Dm.cy l s - co.f2) 0⟩ : S31)]
    · rw [if_pos (Sm.rightB_yes r), if_pos (by omega)]
      exact go _ (.inr ⟨rfl, r⟩)
    · rw [if_neg (by rw [Sm.rightB_no r]; simp)]
      exact go _ (.inl rfl)
theorem sporadic_pure (l : List S36) (cs : List S56) (ok : ∀ x ∈ cs, (Lit.int .u8 x.f0).wf = true ∧ (Lit.int .u8 x.f1).wf = true ∧ (Lit.int .u8 x.f2).wf = true) {k : Nat} (hk : 2200000 < k) : dormouselaw28_DemandSporadic.f k l cs = some true := by
  unfold dormouselaw28_DemandSporadic.f
  have no : dormouselaw28_DemandSporadic.j0 k l cs true = some true := by
    obtain ⟨k, rfl⟩ : ∃ q, k = q + 1 := ⟨k - 1, by omega⟩
    simp only [dormouselaw28_DemandSporadic.j0]; rw [if_pos (by trivial), answers_yes (by omega), Option.bind_some]
  rw [Dm.rright_some l (by omega), Option.bind_some]
  by_cases g : Dm.rightB l = true
  · rw [if_pos g]
    by_cases z : (l.length : Int) = 0
    · rw [if_pos z]; exact no
    · rw [if_neg z]
      by_cases m : (cs.length : Int) > 32
      · rw [if_pos m]; exact no
      · rw [if_neg m, Dm.fits_some l (by omega), Option.bind_some]
        by_cases f : Dm.FitsL l
        · rw [Dm.fitsB_yes f]
          obtain ⟨k, rfl⟩ : ∃ q, k = q + 1 := ⟨k - 1, by omega⟩
          simp only [dormouselaw28_DemandSporadic.j0]
          rw [if_neg (by simp), if_pos (by omega), Sm.lst_zero]
          exact sporadic_loop f (by omega) (by omega) ok cs.length 0 k (fun _ => 0) [] (by omega) (by omega) (sp_start l f.1)
        · rw [Dm.fitsB_no f]; exact no
  · rw [if_neg g]; exact no
theorem great2 : ∃ k : Nat, 2200000 < k := ⟨_, Nat.lt_succ_self _⟩
theorem sporadic_calls {w : World} (y : List S36) (v : Value) (h1 : (Kd.slice 36 k36).K w y [v]) (_ok1 : True) (y2 : List S56) (v2 : Value) (h2 : (Kd.slice 56 k56).K w y2 [v2]) (ok2 : ∀ x ∈ y2, (Lit.int .u8 x.f0).wf = true ∧ (Lit.int .u8 x.f1).wf = true ∧ (Lit.int .u8 x.f2).wf = true) :
    Calls Try.prog 10 #[v, v2] w fun e w' => e = .returned (.bool true) ∧ Below w.heap.size w w' := by
  obtain ⟨A3, c3, e3, l3, r3⟩ := h1
  obtain rfl := (List.cons.inj e3).1
  obtain ⟨A4, c4, e4, l4, r4⟩ := h2
  obtain rfl := (List.cons.inj e4).1
  obtain ⟨k, hk⟩ := great2
  exact dormouselaw28_DemandSporadic.calls k A3 c3 _ A4 c4 _ true w r3 l3 r4 l4 (sporadic_pure y y2 ok2 hk)
end Go.Proofs.Ytdjmcjfdkcckoaa.Law
