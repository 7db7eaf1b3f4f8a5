/- DemandAdmitted: tasks that fit on a machine, as sources of what their jobs take at most at the first level, never ask for more than there is time. -/
import Derived.Test.YtdjmcjfdkcckoaaDm
import Derived.Test.YtdjmcjfdkcckoaaBak
import Derived.Test.YtdjmcjfdkcckoaaTsk
import Derived.Test.YtdjmcjfdkcckoaaLB
import Derived.Test.YtdjmcjfdkcckoaaFx42
namespace Go.Proofs.Ytdjmcjfdkcckoaa.Opn
open Go.RowKit Go.Proofs.Ytdjmcjfdkcckoaa.F Go.Proofs.YtdjmcjfdkcckoaaW.PrintWords Go.Proofs.YtdjmcjfdkcckoaaW.PrintLast Go.Proofs.YtdjmcjfdkcckoaaW.PrintMore
instance : Inhabited S49 := ⟨z49⟩
theorem oTask : Opens Try.prog 49 k49 (fun _ => True) :=
  opens_imp (opens_iso (f := fun x : S49 => (x.f0, x.f1, x.f2, x.f3)) (fun x => ⟨x.1, x.2.1, x.2.2.1, x.2.2.2⟩) (fun _ => rfl) (opens_struct Try.underlying49 (by kernel_rfl)
    (opensF_cons rfl (by kernel_rfl) oAny (opensF_cons rfl (by kernel_rfl) oAny (opensF_cons rfl (by kernel_rfl) (opens_slice Try.underlying47 (by kernel_rfl) oAny) (opensF_one rfl (by kernel_rfl) (opens_slice Try.underlying47 (by kernel_rfl) oAny))))))) (fun _ _ => trivial)
theorem oTasks : Opens Try.prog 44 (Kd.slice 49 k49) (fun _ => True) := opens_imp (opens_slice Try.underlying44 (by kernel_rfl) oTask) (fun _ _ => trivial)
end Go.Proofs.Ytdjmcjfdkcckoaa.Opn
namespace Go.Proofs.Ytdjmcjfdkcckoaa.Law
open Go.RowKit Go.Proofs.Ytdjmcjfdkcckoaa.F Go.Proofs.Ytdjmcjfdkcckoaa.Edf Go.Proofs.Ytdjmcjfdkcckoaa.Dem Go.Proofs.Ytdjmcjfdkcckoaa.Adm Go.Proofs.Ytdjmcjfdkcckoaa.Opn Go.Proofs.Ytdjmcjfdkcckoaa.Tbl Go.Proofs.YtdjmcjfdkcckoaaW.PrintWords Go.Proofs.YtdjmcjfdkcckoaaW.PrintLast Go.Proofs.YtdjmcjfdkcckoaaW.PrintMore
open Go.Proofs.Ytdjmcjfdkcckoaa.Dm (cy pe dl RightL rightB rightB_yes rightB_no FitsL fitsB fitsB_yes fitsB_no bus bus_yes busyOf busyOf_is rright_some demand_some dem_yes busy_some')
set_option linter.unusedVariables false
section
variable {l0 : List S63} {l1 : List S66} {l2 : List S69} {idle crit sw swE sems hor : Int}
def src (l0 : List S63) (sw : Int) (t : S49) : S36 := ⟨Adm.most l0 sw 0 t, t.f0, t.f0⟩
theorem sm_shift (f : Nat → Int) : ∀ n, sm (n + 1) f = f 0 + sm n (fun i => f (i + 1))
  | 0 => by show (0 : Int) + f 0 = f 0 + 0; omega
  | n + 1 => by
    have := sm_shift f n
    show sm (n + 1) f + f (n + 1) = f 0 + (sm n (fun i => f (i + 1)) + f (n + 1))
    omega
theorem sm_list {f : S49 → Int} : ∀ l : List S49, sm l.length (fun i => f (rd_T49 l i)) = sumOf f l
  | [] => rfl
  | t :: l => by
    have ih := sm_list (f := f) l
    rw [List.length_cons, sm_shift, sumOf_cons, ← ih]
    have e0 : rd_T49 (t :: l) ((0 : Nat) : Int) = t := rfl
    rw [e0]
    congr 1
theorem srcs_rd (l : List S49) {i : Nat} (hi : i < l.length) : rd_T36 (l.map (src l0 sw)) i = src l0 sw (rd_T49 l i) := by
  unfold rd_T36 rd_T49
  rw [Int.toNat_natCast, List.getD_eq_getElem?_getD, List.getD_eq_getElem?_getD, List.getElem?_eq_getElem hi, List.getElem?_map, List.getElem?_eq_getElem hi]; rfl
theorem due_floor {T t : Int} (hT : 1 ≤ T) (ht : 0 ≤ t) : dueBy T T t = t / T := by
  unfold dueBy
  by_cases c : t < T
  · rw [if_pos c, Int.ediv_eq_zero_of_lt ht c]
  · rw [if_neg c]
    have := Int.add_ediv_of_dvd_right (a := t - T) (b := T) (c := T) (Int.dvd_refl T)
    rw [show t - T + T = t from by omega, Int.ediv_self (by omega)] at this
    omega
theorem demand_srcs {l : List S49} (h : Mach l0 l1 l2 idle crit sw swE sems hor l) (fits : Adm.load l0 crit sw l 0 ≤ 4294967296) {t : Int} (ht : 0 ≤ t) :
    demand (l.map (src l0 sw)).length (cy (l.map (src l0 sw))) (pe (l.map (src l0 sw))) (dl (l.map (src l0 sw))) t ≤ t := by
  have b := baker h fits ht (held := 0) (.inl rfl)
  rw [Int.add_zero, ← sm_list] at b
  refine Int.le_trans (Int.le_of_eq ?_) b
  unfold demand
  rw [List.length_map]
  refine sm_congr fun i hi => ?_
  show dueBy (dl (l.map (src l0 sw)) i) (pe (l.map (src l0 sw)) i) t * cy (l.map (src l0 sw)) i = _
  unfold dl pe cy
  rw [srcs_rd l hi]
  have p := (h.task _ (rd_mem l hi)).period
  show dueBy (rd_T49 l i).f0 (rd_T49 l i).f0 t * Adm.most l0 sw 0 (rd_T49 l i) = _
  rw [due_floor p.1 ht]
theorem adm_end {l : List S49} (h : Mach l0 l1 l2 idle crit sw swE sems hor l) (fits : Adm.load l0 crit sw l 0 ≤ 4294967296) {t : Int} (h0 : 0 ≤ t) (h1 : t ≤ 1048576) {k : Nat} (hk : 2000000 < k) :
    dormouselaw28_DemandAdmitted.j2 k (l.map (src l0 sw)) t (!rightB (l.map (src l0 sw))) = some true := by
  obtain ⟨k, rfl⟩ : ∃ q, k = q + 1 := ⟨k - 1, by omega⟩
  simp only [dormouselaw28_DemandAdmitted.j2]
  by_cases g : RightL (l.map (src l0 sw))
  · have d := demand_srcs h fits h0
    rw [rightB_yes g, if_neg (by simp), answers_yes (by omega), Option.bind_some, if_pos rfl, demand_some _ (by omega) (by omega), Option.bind_some, dem_yes g, if_pos d, Dm.fits_some _ (by omega), Option.bind_some, busy_some' _ (by omega), Option.bind_some, bus_yes g]
    have f := fits_of (D := dl (l.map (src l0 sw))) (busyOf_is (l.map (src l0 sw))) (fun t h1 h2 => demand_srcs h fits (by omega))
    by_cases p : 0 < busyOf (l.map (src l0 sw))
    · rw [fitsB_yes ⟨g, f.2 p⟩, decide_eq_true (by omega)]; rfl
    · rw [fitsB_no (fun x => p (f.1 x.2)), decide_eq_false (by omega)]; rfl
  · rw [rightB_no g, if_pos (by trivial), answers_yes (by omega), Option.bind_some]
theorem adm_loop (T : TableOk l0 l1 l2 idle crit sw swE sems hor) (l : List S49) (hn : l.length ≤ 8) (t : Int) (ht : 0 ≤ t ∧ t ≤ 4294967295) (d : Nat) : ∀ (i k : Nat), i + d = l.length → 2000100 + d < k → (∀ j : Nat, j < i → TaskOk l2.length sems hor (rd_T49 l j)) →
    dormouselaw28_DemandAdmitted.l0 k l t ((l.take i).map (src l0 sw)) i l0 l1 l2 idle crit sw swE sems hor = some true := by
  have hd := head_of T
  have hnd : l2.length ≤ 1000 := by have := T.head; unfold Head at this; omega
  induction d with
  | zero =>
    intro i k hi hk h1
    obtain ⟨k, rfl⟩ : ∃ q, k = q + 1 := ⟨k - 1, by omega⟩
    have h : Mach l0 l1 l2 idle crit sw swE sems hor l := ⟨T, by omega, fun u hu => by
      obtain ⟨j, hj, rfl⟩ := List.getElem_of_mem hu
      have := h1 j (by omega)
      unfold rd_T49 at this
      rw [Int.toNat_natCast, List.getD_eq_getElem?_getD, List.getElem?_eq_getElem hj] at this
      exact this⟩
    have m1 := Int.emod_nonneg t (show (1048576 : Int) ≠ 0 by omega)
    have m2 := Int.emod_lt_of_pos t (show (0 : Int) < 1048576 by omega)
    simp only [dormouselaw28_DemandAdmitted.l0]
    rw [if_neg (by omega), Adm.fits_some h (by omega), Option.bind_some, List.take_of_length_le (by omega), Int.tmod_eq_emod_of_nonneg ht.1, Adm.w64 (n := t % 1048576) (by omega) (by omega)]
    by_cases f : Adm.load l0 crit sw l 0 ≤ 4294967296
    · rw [if_pos (decide_eq_true f), rright_some _ (by omega), Option.bind_some]
      exact adm_end h f m1 (by omega) (by omega)
    · rw [if_neg (by simpa using f)]
      obtain ⟨k, rfl⟩ : ∃ q, k = q + 1 := ⟨k - 1, by omega⟩
      simp only [dormouselaw28_DemandAdmitted.j2]
      rw [if_pos (by trivial), answers_yes (by omega), Option.bind_some]
  | succ d ih =>
    intro i k hi hk h1
    obtain ⟨k, rfl⟩ : ∃ q, k = q + 1 := ⟨k - 1, by omega⟩
    simp only [dormouselaw28_DemandAdmitted.l0]
    rw [if_pos (by omega), if_pos (by omega), task_some _ hnd (by omega) (by omega), Option.bind_some]
    by_cases c : TaskOk l2.length sems hor (rd_T49 l i)
    · have len : ((l.take i).map (src l0 sw)).length ≤ 8 := by rw [List.length_map, List.length_take]; omega
      rw [if_pos (taskB_yes c), quanta_some T c, Option.bind_some, if_pos (by omega), Adm.w64 (n := (i : Int) + 1) (by omega) (by omega)]
      have ih := ih (i + 1) k (by omega) (by omega) (fun j hj => by
        rcases Nat.lt_or_ge j i with h | h
        · exact h1 j h
        · obtain rfl : j = i := by omega
          exact c)
      have e : (l.take (i + 1)).map (src l0 sw) = (l.take i).map (src l0 sw) ++ [src l0 sw (rd_T49 l i)] := by
        rw [List.take_succ_eq_append_getElem (by omega), List.map_append]
        unfold rd_T49
        rw [Int.toNat_natCast, List.getD_eq_getElem?_getD, List.getElem?_eq_getElem (by omega)]; rfl
      rw [e, show ((i + 1 : Nat) : Int) = (i : Int) + 1 from by omega] at ih
      exact ih
    · rw [taskB_no c, if_neg (by simp), answers_yes (by omega), Option.bind_some]
theorem adm_pure (l : List S49) (t : Int) (ht : 0 ≤ t ∧ t ≤ 4294967295) {k : Nat} (hk : 2100000 < k) : dormouselaw28_DemandAdmitted.f k l0 l1 l2 idle crit sw swE sems hor l t = some true := by
  unfold dormouselaw28_DemandAdmitted.f dormouseref01_Table.f
  obtain ⟨k, rfl⟩ : ∃ q, k = q + 1 := ⟨k - 1, by omega⟩
  rw [Option.bind_some]
  by_cases T : TableOk l0 l1 l2 idle crit sw swE sems hor
  · rw [if_pos (by simp [tableB, T])]
    simp only [dormouselaw28_DemandAdmitted.j0]
    by_cases c : (l.length : Int) > 8
    · rw [if_pos (decide_eq_true c), answers_yes (by omega), Option.bind_some]
    · rw [if_neg (by simpa using c)]
      have := adm_loop T l (by omega) t ht l.length 0 k (by omega) (by omega) (fun j hj => by omega)
      exact this
  · rw [if_neg (by simp [tableB, T])]
    simp only [dormouselaw28_DemandAdmitted.j0]
    rw [if_pos (by trivial), answers_yes (by omega), Option.bind_some]
end
theorem admitted_calls {w : World} (x : Plat) (cs : List Value) (h : kPlat.K w x cs) (_ok : True) (y : List S49) (v : Value) (h1 : (Kd.slice 49 k49).K w y [v]) (_ok1 : True) (a : Int) (ha : (Lit.int .u32 a).wf = true) :
    Calls Try.prog 9 #[.agg cs.toArray, v, .int .u32 a] w fun e w' => e = .returned (.bool true) ∧ Below w.heap.size w w' := by
  obtain ⟨A0, c0, A1, c1, A2, c2, rfl, ⟨g0, r0⟩, ⟨g1, r1⟩, ⟨g2, r2⟩⟩ := plat_open h
  obtain ⟨A3, c3, e3, l3, r3⟩ := h1
  obtain rfl := (List.cons.inj e3).1
  obtain ⟨k, hk⟩ := great
  exact dormouselaw28_DemandAdmitted.calls k A0 c0 _ A1 c1 _ A2 c2 _ _ _ _ _ _ _ A3 c3 _ a true w r0 g0 r1 g1 r2 g2 r3 l3 (adm_pure y a (bd_u32 ha) hk)
end Go.Proofs.Ytdjmcjfdkcckoaa.Law
