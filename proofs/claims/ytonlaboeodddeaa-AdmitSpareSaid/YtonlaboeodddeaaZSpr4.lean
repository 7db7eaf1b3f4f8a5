/- What level is left over when tasks take less than they may. Conditions: none. -/
import Derived.Test.YtonlaboeodddeaaZSpr3
import Derived.Deep.RegionHeld3
import Derived.Deep.QuietTactic
import Derived.BigQuiet
import Derived.Outline
import Derived.Test.YtonlaboeodddeaaRows
import Derived.WalkKit
import Derived.ProofKit
import Derived.OpenShut
import Derived.ShutString
import Derived.ChangeOld
import Derived.Below
import Derived.SizedLaws
namespace Go.Proofs.Ytonlaboeodddeaa.Adm
open Go.RowKit Go.Proofs.Ytonlaboeodddeaa.F Go.Proofs.Ytonlaboeodddeaa.Tbl Go.Proofs.YtonlaboeodddeaaW.PrintWords Go.Proofs.YtonlaboeodddeaaW.PrintLast
section
variable {l0 : List S34} {l1 : List S55} {l2 : List S58} {idle crit sw swE sems hor : Int} {l : List S29}
/-- what all take at a level, if each takes so many cycles -/
def usedAt (l0 : List S34) (sw : Int) (n : Int) (t : S29) (u : Int) : Int := part (u * (rd_T34 l0 n).f0 + 2 * sw) t.f0
def usedOn (l0 : List S34) (sw : Int) (n : Int) : List S29 → List Int → Int
  | t :: l, u :: us => usedAt l0 sw n t u + usedOn l0 sw n l us
  | _, _ => 0
def spare (l0 : List S34) (crit sw : Int) (l : List S29) (us : List Int) : Int := pick (fun n => decide (reserve l0 crit sw l + usedOn l0 sw n l us ≤ 4294967296)) crit.toNat 1 0
theorem usedAt_bd (h : TableOk l0 l1 l2 idle crit sw swE sems hor) {t : S29} (ht : 1 ≤ t.f0) {u : Int} (hu : 0 ≤ u ∧ u ≤ 4096) {n : Int} (h0 : 0 ≤ n) (h1 : n < l0.length) :
    0 ≤ u * (rd_T34 l0 n).f0 ∧ u * (rd_T34 l0 n).f0 ≤ 1048576 ∧ 0 ≤ usedAt l0 sw n t u ∧ usedAt l0 sw n t u ≤ 4505798650626048 := by
  have c := head_of h
  have b := level_bd h h0 h1
  have m1 : 0 ≤ u * (rd_T34 l0 n).f0 := Int.mul_nonneg hu.1 (by omega)
  have m2 : u * (rd_T34 l0 n).f0 ≤ 4096 * 256 := Int.mul_le_mul hu.2 b.2 (by omega) (by omega)
  have p1 := part_nonneg (c := u * (rd_T34 l0 n).f0 + 2 * sw) (by omega) ht
  have p2 := part_le (c := u * (rd_T34 l0 n).f0 + 2 * sw) (by omega) ht
  unfold usedAt
  exact ⟨m1, by omega, p1, by omega⟩
theorem drop_us (us : List Int) {i : Nat} (h : i < us.length) : us.drop i = rd us i :: us.drop (i + 1) := by
  unfold rd
  rw [Int.toNat_natCast, List.getD_eq_getElem?_getD, List.getElem?_eq_getElem h]
  exact List.drop_eq_getElem_cons h
theorem rd_us (us : List Int) {i : Nat} (h : i < us.length) : rd us i ∈ us := by
  unfold rd
  rw [Int.toNat_natCast, List.getD_eq_getElem?_getD, List.getElem?_eq_getElem h]
  exact List.getElem_mem h
theorem spare_in (h : Mach l0 l1 l2 idle crit sw swE sems hor l) (us : List Int) (hl : l.length ≤ us.length) (hu : ∀ u ∈ us, 0 ≤ u ∧ u ≤ 4096) (n best : Int) (h0 : 0 ≤ n) (h1 : n ≤ crit) :
    ∀ (d i k : Nat) (acc : Int), i + d = l.length → d < k → 0 ≤ acc → acc + d * 4505798650626048 ≤ 4611686018427387904 →
    admit_Spare.l1 k l us best n acc l l.length i l0 l1 l2 idle crit sw swE sems hor =
      if acc + usedOn l0 sw n (l.drop i) (us.drop i) ≤ 4294967296 then admit_Spare.l0 (k - (d + 1)) l us n (n + 1) l0 l1 l2 idle crit sw swE sems hor else admit_Spare.l0 (k - (d + 1)) l us best (n + 1) l0 l1 l2 idle crit sw swE sems hor
  | 0, i, k, acc, hd, hk, ha, hb => by
    obtain ⟨k, rfl⟩ : ∃ q, k = q + 1 := ⟨k - 1, by omega⟩
    have hh := head_of h.table
    simp only [admit_Spare.l1]
    rw [if_neg (by omega), List.drop_of_length_le (by omega), w64 (n := n + 1) (by omega) (by omega)]
    simp [usedOn]
  | d + 1, i, k, acc, hd, hk, ha, hb => by
    obtain ⟨k, rfl⟩ : ∃ q, k = q + 1 := ⟨k - 1, by omega⟩
    have hi : i < l.length := by omega
    have hf := h.few
    have hh := head_of h.table
    have ht := h.task _ (rd_mem l hi)
    have b := usedAt_bd (sw := sw) h.table ht.period.1 (hu _ (rd_us us (i := i) (by omega))) h0 (by omega : n < l0.length)
    simp only [admit_Spare.l1]
    rw [if_pos (by omega), if_pos (by omega), if_pos (by omega), if_pos (by omega), if_pos h0, if_pos (by omega), w64 (n := (i : Int) + 1) (by omega) (by omega),
      w64 (n := rd us i * (rd_T34 l0 n).f0) (by omega) (by omega), w64 (n := 2 * sw) (by omega) (by omega), w64 (n := rd us i * (rd_T34 l0 n).f0 + 2 * sw) (by omega) (by omega),
      util_some ht.period.1, quanta_id (by omega) (by omega), Option.bind_some]
    rw [show part (rd us i * (rd_T34 l0 n).f0 + 2 * sw) (rd_T29 l i).f0 = usedAt l0 sw n (rd_T29 l i) (rd us i) from rfl, w64 (n := acc + usedAt l0 sw n (rd_T29 l i) (rd us i)) (by omega) (by omega)]
    have ih := spare_in h us hl hu n best h0 h1 d (i + 1) k (acc + usedAt l0 sw n (rd_T29 l i) (rd us i)) (by omega) (by omega) (by omega) (by omega)
    rw [show ((i + 1 : Nat) : Int) = (i : Int) + 1 from by omega] at ih
    rw [ih, drop_at l hi, drop_us us (i := i) (by omega), show k + 1 - (d + 1 + 1) = k - (d + 1) from by omega]
    have e : usedOn l0 sw n (rd_T29 l i :: l.drop (i + 1)) (rd us i :: us.drop (i + 1)) = usedAt l0 sw n (rd_T29 l i) (rd us i) + usedOn l0 sw n (l.drop (i + 1)) (us.drop (i + 1)) := rfl
    rw [e, Int.add_assoc]
theorem spare_loop (h : Mach l0 l1 l2 idle crit sw swE sems hor l) (us : List Int) (hl : l.length ≤ us.length) (hu : ∀ u ∈ us, 0 ≤ u ∧ u ≤ 4096) : ∀ (d : Nat) (n best : Int) (k : Nat), 1 ≤ n → n + d = crit + 1 → 1700 + 70 * d < k →
    admit_Spare.l0 k l us best n l0 l1 l2 idle crit sw swE sems hor = some (pick (fun n => decide (reserve l0 crit sw l + usedOn l0 sw n l us ≤ 4294967296)) d n best)
  | 0, n, best, k, h1, hd, hk => by
    obtain ⟨k, rfl⟩ : ∃ q, k = q + 1 := ⟨k - 1, by omega⟩
    simp only [admit_Spare.l0]
    rw [if_neg (by omega)]; rfl
  | d + 1, n, best, k, h1, hd, hk => by
    obtain ⟨k, rfl⟩ : ∃ q, k = q + 1 := ⟨k - 1, by omega⟩
    have hh := head_of h.table
    have hf := h.few
    have rb := reserve_bd h
    simp only [admit_Spare.l0]
    rw [if_pos (by omega), reserve_some h (by omega), Option.bind_some]
    have e := spare_in h us hl hu n best (by omega) (by omega) l.length 0 k (reserve l0 crit sw l) (by omega) (by omega) rb.1 (by omega)
    rw [show ((0 : Nat) : Int) = 0 from rfl, List.drop_zero, List.drop_zero] at e
    rw [e]
    unfold pick
    by_cases c : reserve l0 crit sw l + usedOn l0 sw n l us ≤ 4294967296
    · rw [if_pos c, if_pos (decide_eq_true c)]; exact spare_loop h us hl hu d (n + 1) n _ (by omega) (by omega) (by omega)
    · rw [if_neg c, if_neg (by simpa using c)]; exact spare_loop h us hl hu d (n + 1) best _ (by omega) (by omega) (by omega)
theorem spare_some (h : Mach l0 l1 l2 idle crit sw swE sems hor l) (us : List Int) (hl : l.length ≤ us.length) (hu : ∀ u ∈ us, 0 ≤ u ∧ u ≤ 4096) {k : Nat} (hk : 2100 < k) : admit_Spare.f k l0 l1 l2 idle crit sw swE sems hor l us = some (spare l0 crit sw l us) := by
  have hh := head_of h.table
  unfold admit_Spare.f
  exact spare_loop h us hl hu crit.toNat 1 0 k (by omega) (by omega) (by omega)
theorem rspare_in (h : Mach l0 l1 l2 idle crit sw swE sems hor l) (us : List Int) (hl : l.length ≤ us.length) (hu : ∀ u ∈ us, 0 ≤ u ∧ u ≤ 4096) (n best : Int) (h0 : 0 ≤ n) (h1 : n ≤ crit) :
    ∀ (d i k : Nat) (acc : Int), i + d = l.length → d < k → 0 ≤ acc → acc + d * 4505798650626048 ≤ 4611686018427387904 →
    dormouseref09_Spare.l1 k l us best n acc i l0 l1 l2 idle crit sw swE sems hor =
      if acc + usedOn l0 sw n (l.drop i) (us.drop i) ≤ 4294967296 then dormouseref09_Spare.l0 (k - (d + 1)) l us n (n + 1) l0 l1 l2 idle crit sw swE sems hor else dormouseref09_Spare.l0 (k - (d + 1)) l us best (n + 1) l0 l1 l2 idle crit sw swE sems hor
  | 0, i, k, acc, hd, hk, ha, hb => by
    obtain ⟨k, rfl⟩ : ∃ q, k = q + 1 := ⟨k - 1, by omega⟩
    have hh := head_of h.table
    simp only [dormouseref09_Spare.l1]
    rw [if_neg (by omega), List.drop_of_length_le (by omega), w64 (n := n + 1) (by omega) (by omega)]
    simp [usedOn]
  | d + 1, i, k, acc, hd, hk, ha, hb => by
    obtain ⟨k, rfl⟩ : ∃ q, k = q + 1 := ⟨k - 1, by omega⟩
    have hi : i < l.length := by omega
    have hf := h.few
    have hh := head_of h.table
    have ht := h.task _ (rd_mem l hi)
    have b := usedAt_bd (sw := sw) h.table ht.period.1 (hu _ (rd_us us (i := i) (by omega))) h0 (by omega : n < l0.length)
    simp only [dormouseref09_Spare.l1]
    rw [if_pos (by omega), if_pos (by omega), if_pos (by omega), if_pos h0, if_pos (by omega), w64 (n := (i : Int) + 1) (by omega) (by omega),
      w64 (n := rd us i * (rd_T34 l0 n).f0) (by omega) (by omega), w64 (n := 2 * sw) (by omega) (by omega), w64 (n := rd us i * (rd_T34 l0 n).f0 + 2 * sw) (by omega) (by omega),
      ref_util ht.period.1 (by omega) (by omega), Option.bind_some]
    rw [show part (rd us i * (rd_T34 l0 n).f0 + 2 * sw) (rd_T29 l i).f0 = usedAt l0 sw n (rd_T29 l i) (rd us i) from rfl, w64 (n := acc + usedAt l0 sw n (rd_T29 l i) (rd us i)) (by omega) (by omega)]
    have ih := rspare_in h us hl hu n best h0 h1 d (i + 1) k (acc + usedAt l0 sw n (rd_T29 l i) (rd us i)) (by omega) (by omega) (by omega) (by omega)
    rw [show ((i + 1 : Nat) : Int) = (i : Int) + 1 from by omega] at ih
    rw [ih, drop_at l hi, drop_us us (i := i) (by omega), show k + 1 - (d + 1 + 1) = k - (d + 1) from by omega]
    have e : usedOn l0 sw n (rd_T29 l i :: l.drop (i + 1)) (rd us i :: us.drop (i + 1)) = usedAt l0 sw n (rd_T29 l i) (rd us i) + usedOn l0 sw n (l.drop (i + 1)) (us.drop (i + 1)) := rfl
    rw [e, Int.add_assoc]
theorem rspare_loop (h : Mach l0 l1 l2 idle crit sw swE sems hor l) (us : List Int) (hl : l.length ≤ us.length) (hu : ∀ u ∈ us, 0 ≤ u ∧ u ≤ 4096) : ∀ (d : Nat) (n best : Int) (k : Nat), 1 ≤ n → n + d = crit + 1 → 1700 + 70 * d < k →
    dormouseref09_Spare.l0 k l us best n l0 l1 l2 idle crit sw swE sems hor = some (pick (fun n => decide (reserve l0 crit sw l + usedOn l0 sw n l us ≤ 4294967296)) d n best)
  | 0, n, best, k, h1, hd, hk => by
    obtain ⟨k, rfl⟩ : ∃ q, k = q + 1 := ⟨k - 1, by omega⟩
    simp only [dormouseref09_Spare.l0]
    rw [if_neg (by omega)]; rfl
  | d + 1, n, best, k, h1, hd, hk => by
    obtain ⟨k, rfl⟩ : ∃ q, k = q + 1 := ⟨k - 1, by omega⟩
    have hh := head_of h.table
    have hf := h.few
    have rb := reserve_bd h
    simp only [dormouseref09_Spare.l0]
    rw [if_pos (by omega), rreserve_some h (by omega), Option.bind_some]
    have e := rspare_in h us hl hu n best (by omega) (by omega) l.length 0 k (reserve l0 crit sw l) (by omega) (by omega) rb.1 (by omega)
    rw [show ((0 : Nat) : Int) = 0 from rfl, List.drop_zero, List.drop_zero] at e
    rw [e]
    unfold pick
    by_cases c : reserve l0 crit sw l + usedOn l0 sw n l us ≤ 4294967296
    · rw [if_pos c, if_pos (decide_eq_true c)]; exact rspare_loop h us hl hu d (n + 1) n _ (by omega) (by omega) (by omega)
    · rw [if_neg c, if_neg (by simpa using c)]; exact rspare_loop h us hl hu d (n + 1) best _ (by omega) (by omega) (by omega)
theorem rspare_some (h : Mach l0 l1 l2 idle crit sw swE sems hor l) (us : List Int) (hl : l.length ≤ us.length) (hu : ∀ u ∈ us, 0 ≤ u ∧ u ≤ 4096) {k : Nat} (hk : 2100 < k) : dormouseref09_Spare.f k l0 l1 l2 idle crit sw swE sems hor l us = some (spare l0 crit sw l us) := by
  have hh := head_of h.table
  unfold dormouseref09_Spare.f
  exact rspare_loop h us hl hu crit.toNat 1 0 k (by omega) (by omega) (by omega)
/-- if each takes all that it may have -/
theorem usedOn_all (h : TableOk l0 l1 l2 idle crit sw swE sems hor) {n : Int} (h0 : 0 ≤ n) (h1 : n < l0.length) : ∀ l : List S29, usedOn l0 sw n l (l.map (·.f1)) = sumOf (partOf l0 sw n) l
  | [] => rfl
  | t :: l => by
    have ih := usedOn_all h h0 h1 l
    rw [sumOf_cons, ← ih]
    show usedAt l0 sw n t t.f1 + _ = _
    unfold usedAt partOf most
    rw [if_pos ⟨h0, h1⟩]
theorem spare_all (h : Mach l0 l1 l2 idle crit sw swE sems hor l) : spare l0 crit sw l (l.map (·.f1)) = slowest l0 crit sw l := by
  have hh := head_of h.table
  unfold spare slowest
  refine pick_congr _ _ _ fun i h0 h1 => ?_
  rw [usedOn_all h.table (by omega) (by omega)]; rfl
theorem usedOn_less (h : TableOk l0 l1 l2 idle crit sw swE sems hor) {n : Int} (h0 : 0 ≤ n) (h1 : n < l0.length) : ∀ (l : List S29) (us : List Int), (∀ t ∈ l, 1 ≤ t.f0) → us.length = l.length → (∀ i : Nat, i < l.length → rd us i ≤ (rd_T29 l i).f1) → usedOn l0 sw n l us ≤ sumOf (partOf l0 sw n) l
  | [], us, _, _, _ => by cases us <;> exact Int.le_refl _
  | t :: l, [], _, hl, _ => by simp at hl
  | t :: l, u :: us, hp, hl, hle => by
    have ih := usedOn_less h h0 h1 l us (fun t ht => hp t (by simp [ht])) (by simpa using hl) (fun i hi => by
      have := hle (i + 1) (by simp; omega)
      simpa [rd, rd_T29] using this)
    have h2 := hle 0 (by simp)
    have h2 : u ≤ t.f1 := by simpa [rd, rd_T29] using h2
    have b := level_bd h h0 h1
    have m := Int.mul_le_mul_of_nonneg_right (c := (rd_T34 l0 n).f0) h2 (by omega)
    have p := part_mono' (a := u * (rd_T34 l0 n).f0 + 2 * sw) (b := t.f1 * (rd_T34 l0 n).f0 + 2 * sw) (t := t.f0) (by omega) (hp t (by simp))
    rw [sumOf_cons]
    show usedAt l0 sw n t u + _ ≤ _
    unfold usedAt partOf most
    rw [if_pos ⟨h0, h1⟩]
    unfold partOf most at ih
    omega
theorem pick_le {g g' : Int → Bool} : ∀ (d : Nat) (n b b' : Int), b ≤ b' → b' < n → (∀ i, n ≤ i → i < n + d → g i = true → g' i = true) → pick g d n b ≤ pick g' d n b'
  | 0, n, b, b', h, _, _ => h
  | d + 1, n, b, b', h, hn, hg => by
    unfold pick
    refine pick_le d (n + 1) _ _ ?_ ?_ (fun i h1 h2 => hg i (by omega) (by omega))
    · by_cases c : g n = true
      · rw [if_pos c, if_pos (hg n (by omega) (by omega) c)]; exact Int.le_refl _
      · rw [if_neg c]; split <;> omega
    · split <;> omega
theorem spare_less (h : Mach l0 l1 l2 idle crit sw swE sems hor l) (us : List Int) (hl : us.length = l.length) (hle : ∀ i : Nat, i < l.length → rd us i ≤ (rd_T29 l i).f1) : slowest l0 crit sw l ≤ spare l0 crit sw l us := by
  have hh := head_of h.table
  unfold spare slowest
  refine pick_le _ _ _ _ (Int.le_refl _) (by omega) fun i h0 h1 hg => ?_
  have u := usedOn_less (sw := sw) h.table (n := i) (by omega) (by omega) l us (fun t ht => (h.task t ht).period.1) hl hle
  have := of_decide_eq_true hg
  unfold load at this
  exact decide_eq_true (by omega)
end
end Go.Proofs.Ytonlaboeodddeaa.Adm
namespace Go.Proofs.Ytonlaboeodddeaa.Opn
open Go.RowKit Go.Proofs.Ytonlaboeodddeaa.F Go.Proofs.YtonlaboeodddeaaW.PrintWords Go.Proofs.YtonlaboeodddeaaW.PrintLast Go.Proofs.YtonlaboeodddeaaW.PrintMore
instance : Inhabited S29 := ⟨z29⟩
theorem oTask : Opens Try.prog 29 k29 (fun _ => True) :=
  opens_imp (opens_iso (f := fun x : S29 => (x.f0, x.f1, x.f2, x.f3)) (fun x => ⟨x.1, x.2.1, x.2.2.1, x.2.2.2⟩) (fun _ => rfl) (opens_struct Try.underlying29 (by kernel_rfl)
    (opensF_cons rfl (by kernel_rfl) oAny (opensF_cons rfl (by kernel_rfl) oAny (opensF_cons rfl (by kernel_rfl) (opens_slice Try.underlying27 (by kernel_rfl) oAny) (opensF_one rfl (by kernel_rfl) (opens_slice Try.underlying27 (by kernel_rfl) oAny))))))) (fun _ _ => trivial)
theorem oTasks : Opens Try.prog 31 (Kd.slice 29 k29) (fun _ => True) := opens_imp (opens_slice Try.underlying31 (by kernel_rfl) oTask) (fun _ _ => trivial)
end Go.Proofs.Ytonlaboeodddeaa.Opn
namespace Go.Proofs.Ytonlaboeodddeaa.Law
open Go.RowKit Go.Proofs.Ytonlaboeodddeaa.F Go.Proofs.Ytonlaboeodddeaa.Tbl Go.Proofs.Ytonlaboeodddeaa.Adm Go.Proofs.Ytonlaboeodddeaa.Hw Go.Proofs.Ytonlaboeodddeaa.Opn Go.Proofs.YtonlaboeodddeaaW.PrintWords Go.Proofs.YtonlaboeodddeaaW.PrintLast Go.Proofs.YtonlaboeodddeaaW.PrintMore
set_option linter.unusedVariables false
set_option linter.unusedSimpArgs false
attribute [local go_sem] max2_int min2_int max_two min_two max_three min_three max_four min_four
theorem oUsed : Opens Try.prog 45 (Kd.slice 46 (Kd.int .u16)) (fun xs => ∀ x ∈ xs, (Lit.int .u16 x).wf = true) := opens_slice Try.underlying45 (by kernel_rfl) (opens_int Try.underlying46)
def usedL (us : List Int) (n : Nat) : List Int := (List.range n).map (fun k : Nat => (rd us (k : Int)) % 4097)
def mostL (l : List S29) (us : List Int) (n : Nat) : List Int := (List.range n).map (fun k : Nat => min (rd us (k : Int) % 4097) (rd_T29 l (k : Int)).f1)
def allL (l : List S29) (n : Nat) : List Int := (List.range n).map (fun k : Nat => (rd_T29 l (k : Int)).f1)
theorem usedL_succ (us : List Int) (n : Nat) : usedL us (n + 1) = usedL us n ++ [(rd us (n : Int)) % 4097] := by simp [usedL, List.range_succ]
theorem mostL_succ (l : List S29) (us : List Int) (n : Nat) : mostL l us (n + 1) = mostL l us n ++ [min (rd us (n : Int) % 4097) (rd_T29 l (n : Int)).f1] := by simp [mostL, List.range_succ]
theorem allL_succ (l : List S29) (n : Nat) : allL l (n + 1) = allL l n ++ [(rd_T29 l (n : Int)).f1] := by simp [allL, List.range_succ]
theorem usedL_len (us : List Int) (n : Nat) : (usedL us n).length = n := by simp [usedL]
theorem mostL_len (l : List S29) (us : List Int) (n : Nat) : (mostL l us n).length = n := by simp [mostL]
theorem allL_len (l : List S29) (n : Nat) : (allL l n).length = n := by simp [allL]
theorem rd_range (f : Nat → Int) {n i : Nat} (h : i < n) : rd ((List.range n).map f) (i : Int) = f i := by
  unfold rd; rw [Int.toNat_natCast]
  first
    | rw [List.getD_eq_getElem?_getD]; simp [h]
    | simp [h]
theorem used_in {u : Int} (h : 0 ≤ u) : 0 ≤ u % 4097 ∧ u % 4097 ≤ 4096 := by
  omega
theorem rd_used {us : List Int} (hu : ∀ x ∈ us, (Lit.int .u16 x).wf = true) {i : Nat} (h : i < us.length) : 0 ≤ rd us (i : Int) ∧ rd us (i : Int) ≤ 65535 := by
  have := hu _ (rd_us us h)
  simp [Lit.wf, IntKind.min, IntKind.max, IntKind.signed, IntKind.bits] at this
  omega
theorem usedL_in {us : List Int} (hu : ∀ x ∈ us, (Lit.int .u16 x).wf = true) {n : Nat} (h : n ≤ us.length) : ∀ x ∈ usedL us n, 0 ≤ x ∧ x ≤ 4096 := by
  intro x hx
  simp only [usedL, List.mem_map, List.mem_range] at hx
  obtain ⟨k, hk, rfl⟩ := hx
  exact used_in (rd_used hu (by omega)).1
section
variable {l0 : List S34} {l1 : List S55} {l2 : List S58} {idle crit sw swE sems hor : Int} {l : List S29}
theorem task_f1 (h : Mach l0 l1 l2 idle crit sw swE sems hor l) {k : Nat} (hk : k < l.length) : 0 ≤ (rd_T29 l (k : Int)).f1 ∧ (rd_T29 l (k : Int)).f1 ≤ 4096 := by
  have := (h.task _ (rd_mem l hk)).cycles
  omega
theorem mostL_in (h : Mach l0 l1 l2 idle crit sw swE sems hor l) {us : List Int} (hu : ∀ x ∈ us, (Lit.int .u16 x).wf = true) (hl : l.length ≤ us.length) : ∀ x ∈ mostL l us l.length, 0 ≤ x ∧ x ≤ 4096 := by
  intro x hx
  simp only [mostL, List.mem_map, List.mem_range] at hx
  obtain ⟨k, hk, rfl⟩ := hx
  have a := used_in (rd_used hu (show k < us.length by omega)).1
  have b := task_f1 h hk
  omega
theorem allL_in (h : Mach l0 l1 l2 idle crit sw swE sems hor l) : ∀ x ∈ allL l l.length, 0 ≤ x ∧ x ≤ 4096 := by
  intro x hx
  simp only [allL, List.mem_map, List.mem_range] at hx
  obtain ⟨k, hk, rfl⟩ := hx
  exact task_f1 h hk
theorem allL_eq : allL l l.length = l.map (·.f1) := by
  refine List.ext_getElem (by simp [allL]) fun i h1 h2 => ?_
  simp [allL] at h1 ⊢
  unfold rd_T29
  rw [Int.toNat_natCast, List.getD_eq_getElem?_getD, List.getElem?_eq_getElem h1]; rfl
theorem most_less (h : Mach l0 l1 l2 idle crit sw swE sems hor l) {us : List Int} : Adm.slowest l0 crit sw l ≤ Adm.spare l0 crit sw l (mostL l us l.length) :=
  spare_less h _ (mostL_len l us _) (fun i hi => by
    unfold mostL
    rw [rd_range _ hi]
    exact Int.min_le_right _ _)
end
set_option maxHeartbeats 6400000 in
set_option maxRecDepth 100000 in
theorem spare_walk {w : World} (x : Plat) (cs : List Value) (h : kPlat.K w x cs) (_ok : True) (l : List S29) (v : Value) (h1 : (Kd.slice 29 k29).K w l [v]) (_ok1 : True) (us : List Int) (v2 : Value) (h2 : (Kd.slice 46 (Kd.int .u16)).K w us [v2]) (hus : ∀ x ∈ us, (Lit.int .u16 x).wf = true) :
    Calls Try.prog 10 #[.agg cs.toArray, v, v2] w fun e w' => e = .returned (.bool true) ∧ Below w.heap.size w w' := by
  obtain ⟨A0, c0, A1, c1, A2, c2, rfl, ⟨g0, r0⟩, ⟨g1, r1⟩, ⟨g2, r2⟩⟩ := plat_open h
  obtain ⟨A3, c3, e3, g3, r3⟩ := h1
  obtain rfl := (List.cons.inj e3).1
  obtain ⟨A4, c4, e4, g4, r4⟩ := h2
  obtain rfl := (List.cons.inj e4).1
  clear h e3 e4
  obtain ⟨l0, l1, l2, idle, crit, sw, swE, sems, hor⟩ := x
  dsimp only at *
  have P := PM.start (idle := idle) (crit := crit) (sw := sw) (swE := swE) (sems := sems) (hor := hor) g0 r0 g1 r1 g2 r2
  clear r0 r1 r2 g0 g1 g2
  have HU := Aside0.mk hus
  clear hus
  go_enter Try.func10, Try.ntmps10
  go_upto_region 1 with (fail)
  generalize w.alloc (.cells #[.slice A0 l0.length c0, .slice A1 l1.length c1, .slice A2 l2.length c2, .int .i64 idle, .int .i64 crit, .int .i64 sw, .int .i64 swE, .int .i64 sems, .int .i64 hor] 26 (0, 0)) = w0 at P ⊢
  have GT := Aside0.mk (good_some (l0 := l0) (l1 := l1) (l2 := l2) (idle := idle) (crit := crit) (sw := sw) (swE := swE) (sems := sems) (hor := hor) l (show 1400 < 1401 by decide))
  obtain ⟨x0, x1, x2, x3, x4, x5, x6, x7, x8⟩ := P.xp
  go_wp2_with fail
  clear x0 x1 x2 x3 x4 x5 x6 x7 x8
  by_cases hg : Mach l0 l1 l2 idle crit sw swE sems hor l
  case neg =>
    rw [goodB_no hg] at GT
    refine (dormouselaw10_good.calls 1401 A0 c0 l0 A1 c1 l1 A2 c2 l2 idle crit sw swE sems hor A3 c3 l false _ P.R0 P.g0 P.R1 P.g1 P.R2 P.g2 (Kd.C_below r3 P.hb) g3 GT.out).mono ?_; rintro e w1 ⟨rfl, hb⟩
    replace P := P.step hb
    clear hb
    clear hg GT
    go_wp2_with fail
    refine (dormouselaw10_answers.calls true _ rfl).mono ?_; rintro e w3 ⟨rfl, hb⟩
    replace P := P.step hb
    clear hb
    go_wp2_with fail
    go_ret
    exact ⟨rfl, P.hb⟩
  case pos =>
    rw [goodB_yes hg] at GT
    refine (dormouselaw10_good.calls 1401 A0 c0 l0 A1 c1 l1 A2 c2 l2 idle crit sw swE sems hor A3 c3 l true _ P.R0 P.g0 P.R1 P.g1 P.R2 P.g2 (Kd.C_below r3 P.hb) g3 GT.out).mono ?_; rintro e w1 ⟨rfl, hb⟩
    replace P := P.step hb
    clear hb
    have HG := Aside0.mk hg
    have few := hg.few
    clear hg GT
    by_cases z : us.length < l.length
    case pos =>
      have z1 : decide (us.length < l.length) = true := decide_eq_true z
      clear z
      go_wp2_with fail
      refine (dormouselaw10_answers.calls true _ rfl).mono ?_; rintro e w3 ⟨rfl, hb⟩
      replace P := P.step hb
      clear hb
      go_wp2_with fail
      go_ret
      exact ⟨rfl, P.hb⟩
    case neg =>
      have z1 : decide (us.length < l.length) = false := decide_eq_false z
      have Z : Aside0 (l.length ≤ us.length) := ⟨by omega⟩
      clear z
      go_wp2_with fail
      try go_wp2_with fail
      clear z1
      have PB := P
      have hz := blk_lt P.bp
      have HZ := Aside0.mk hz
      clear hz P
      go_loopw [7, 8, 9, 10] (fun v7 v8 v9 v10 wr => ∃ i : Nat, v10 = .int .i64 (i : Int) ∧ i ≤ l.length ∧ T3 w1.heap.size 3 w1 wr v7 v8 v9 (usedL us i) (mostL l us i) (allL l i)) (fun _ _ _ v10 _ => l.length - (intOf v10).toNat)
      case atStart => exact ⟨0, by first | rfl | simp, by omega, T3.nil _⟩
      case round =>
        obtain ⟨i, rfl, hi1, HT⟩ := hrel
        have P := PB.step HT.hb
        have HTT := Aside0.mk HT
        clear HT
        by_cases hlt : i < l.length
        case pos =>
          have dl : decide ((i : Int) < (l.length : Int)) = true := decide_eq_true (by omega)
          have dl2 : decide (i < l.length) = true := decide_eq_true hlt
          obtain ⟨au, eu, xu⟩ := Kd.at_int (Kd.C_below r4 P.hb) (i : Int) (by omega) (by have := Z.out; omega)
          cases eu
          obtain ⟨al, B2, d2, B3, d3, ea, y0, y1, y2, y3, _⟩ := at_T29 (Kd.C_below r3 PB.hb) (i : Int) (by omega) (by omega)
          cases ea
          clear y0 y2 y3
          simp only [Int.toNat_natCast] at xu y1
          have hr := rd_used HU.out (show i < us.length by have := Z.out; omega)
          have hm := used_in hr.1
          have f1 := task_f1 HG.out hlt
          have U1 := Aside0.mk (usedL_succ us i)
          have U2 := Aside0.mk (mostL_succ l us i)
          have U3 := Aside0.mk (allL_succ l i)
          generalize rd us (i : Int) = u at xu hr hm U1 U2
          generalize (rd_T29 l (i : Int)).f1 = q at y1 f1 U2 U3
          have hw1 : IntKind.i64.wrap u = u := IntWalk.i64_in _ ⟨by omega, by omega⟩
          have hq1 : ((i : Int) < (us.length : Int)) = True := eq_true (by have := Z.out; omega)
          have hq2 : ((i : Int) < (l.length : Int)) = True := eq_true (by omega)
          have hq3 : (i < us.length) = True := eq_true (by have := Z.out; omega)
          have hq4 : (i < l.length) = True := eq_true hlt
          go_upto_region 8 with (fail)
          clear xu hw1 hq1 hq3
          have HSC : Aside0 (∀ W, Below w1.heap.size w1 W → W.cell? ⟨(al.add (i * 4)).block, (al.add (i * 4)).off + 1, none⟩ = some (.int .i64 q)) := ⟨fun W hb => pw_cell_below hb y1⟩
          clear y1
          have HTD := Aside0.mk (HTT.out.below ((Below.refl wr.heap.size wr).drew) (HTT.out.hb.size))
          refine start_ (n := 25) (S := fun w' => w'.cell? ⟨(al.add (i * 4)).block, (al.add (i * 4)).off + 1, none⟩ = some (.int .i64 q)) (ds := []) #[false, false, false, false, false, false, false, false, false, false, false, false, false, false, false, false, false, false, false, false, false, false, false, false, false] (by kernel_rfl) rfl rfl (HSC.out _ HTD.out.hb) (fun hHeld => ?_)
          clear HTT P
          generalize wr.drew = wd at HTD hHeld ⊢
          refine pure_ (i := 0) (N := some 37) (v := ?_) (a' := ?_) #[true, false, false, false, false, false, false, false, false, false, false, false, false, false, false, false, false, false, false, false, false, false, false, false, false] rfl rfl (by kernel_rfl) (fun _ _ _ h => h) (Or.inl ⟨by rfl, ?_⟩) ?_ ?_
          rotate_left
          · intro w'
            go_simp
            with_reducible rfl
          rotate_left
          · simp only [Act.put, List.setIfInBounds_toArray, List.set_cons_zero, List.set_cons_succ]
            rfl
          refine pure_ (i := 1) (N := some 38) (v := ?_) (a' := ?_) #[true, true, false, false, false, false, false, false, false, false, false, false, false, false, false, false, false, false, false, false, false, false, false, false, false] rfl rfl (by kernel_rfl) (fun _ _ _ h => h) (Or.inl ⟨by rfl, ?_⟩) ?_ ?_
          rotate_left
          · intro w'
            go_simp
            with_reducible rfl
          rotate_left
          · simp only [Act.put, List.setIfInBounds_toArray, List.set_cons_zero, List.set_cons_succ]
            rfl
          refine pure_ (i := 4) (N := some 41) (v := ?_) (a' := ?_) #[true, true, false, false, true, false, false, false, false, false, false, false, false, false, false, false, false, false, false, false, false, false, false, false, false] rfl rfl (by kernel_rfl) (fun _ _ _ h => h) (Or.inl ⟨by rfl, ?_⟩) ?_ ?_
          rotate_left
          · intro w'
            go_simp
            with_reducible rfl
          rotate_left
          · simp only [Act.put, List.setIfInBounds_toArray, List.set_cons_zero, List.set_cons_succ]
            rfl
          refine pure_ (i := 5) (N := some 42) (v := ?_) (a' := ?_) #[true, true, false, false, true, true, false, false, false, false, false, false, false, false, false, false, false, false, false, false, false, false, false, false, false] rfl rfl (by kernel_rfl) (fun _ _ _ h => h) (Or.inl ⟨by rfl, ?_⟩) ?_ ?_
          rotate_left
          · intro w'
            go_simp
            with_reducible rfl
          rotate_left
          · simp only [Act.put, List.setIfInBounds_toArray, List.set_cons_zero, List.set_cons_succ]
            rfl
          refine pure_ (i := 6) (N := some 43) (v := ?_) (a' := ?_) #[true, true, false, false, true, true, true, false, false, false, false, false, false, false, false, false, false, false, false, false, false, false, false, false, false] rfl rfl (by kernel_rfl) (fun _ _ _ h => h) (Or.inl ⟨by rfl, ?_⟩) ?_ ?_
          rotate_left
          · intro w'
            go_simp
            with_reducible rfl
          rotate_left
          · simp only [Act.put, List.setIfInBounds_toArray, List.set_cons_zero, List.set_cons_succ]
            rfl
          refine pure_ (i := 7) (N := some 44) (v := ?_) (a' := ?_) #[true, true, false, false, true, true, true, true, false, false, false, false, false, false, false, false, false, false, false, false, false, false, false, false, false] rfl rfl (by kernel_rfl) (fun _ _ _ h => h) (Or.inl ⟨by rfl, ?_⟩) ?_ ?_
          rotate_left
          · intro w'
            go_simp
            with_reducible rfl
          rotate_left
          · simp only [Act.put, List.setIfInBounds_toArray, List.set_cons_zero, List.set_cons_succ]
            rfl
          refine pure_ (i := 8) (N := some 45) (v := ?_) (a' := ?_) #[true, true, false, false, true, true, true, true, true, false, false, false, false, false, false, false, false, false, false, false, false, false, false, false, false] rfl rfl (by kernel_rfl) (fun _ _ _ h => h) (Or.inl ⟨by rfl, ?_⟩) ?_ ?_
          rotate_left
          · intro w'
            go_simp
            with_reducible rfl
          rotate_left
          · simp only [Act.put, List.setIfInBounds_toArray, List.set_cons_zero, List.set_cons_succ]
            rfl
          refine pure_ (i := 9) (N := some 46) (v := ?_) (a' := ?_) #[true, true, false, false, true, true, true, true, true, true, false, false, false, false, false, false, false, false, false, false, false, false, false, false, false] rfl rfl (by kernel_rfl) (fun _ _ _ h => h) (Or.inl ⟨by rfl, ?_⟩) ?_ ?_
          rotate_left
          · intro w'
            go_simp
            with_reducible rfl
          rotate_left
          · simp only [Act.put, List.setIfInBounds_toArray, List.set_cons_zero, List.set_cons_succ]
            rfl
          refine take_ (i := 10) (N := some 47) (v := ?_) (a' := ?_) #[true, true, false, false, true, true, true, true, true, true, true, false, false, false, false, false, false, false, false, false, false, false, false, false, false] rfl rfl (by kernel_rfl) (fun _ _ _ h => h) (Or.inl ⟨by rfl, ?_⟩) hHeld ?_ ?_
          rotate_left
          · intro w' s0
            go_simp
            with_reducible rfl
          rotate_left
          · simp only [Act.put, List.setIfInBounds_toArray, List.set_cons_zero, List.set_cons_succ]
            rfl
          refine pure_ (i := 14) (N := some 51) (v := ?_) (a' := ?_) #[true, true, false, false, true, true, true, true, true, true, true, false, false, false, true, false, false, false, false, false, false, false, false, false, false] rfl rfl (by kernel_rfl) (fun _ _ _ h => h) (Or.inl ⟨by rfl, ?_⟩) ?_ ?_
          rotate_left
          · intro w'
            go_simp
            with_reducible rfl
          rotate_left
          · simp only [Act.put, List.setIfInBounds_toArray, List.set_cons_zero, List.set_cons_succ]
            rfl
          refine pure_ (i := 15) (N := some 52) (v := ?_) (a' := ?_) #[true, true, false, false, true, true, true, true, true, true, true, false, false, false, true, true, false, false, false, false, false, false, false, false, false] rfl rfl (by kernel_rfl) (fun _ _ _ h => h) (Or.inl ⟨by rfl, ?_⟩) ?_ ?_
          rotate_left
          · intro w'
            go_simp
            with_reducible rfl
          rotate_left
          · simp only [Act.put, List.setIfInBounds_toArray, List.set_cons_zero, List.set_cons_succ]
            rfl
          refine pure_ (i := 16) (N := some 53) (v := ?_) (a' := ?_) #[true, true, false, false, true, true, true, true, true, true, true, false, false, false, true, true, true, false, false, false, false, false, false, false, false] rfl rfl (by kernel_rfl) (fun _ _ _ h => h) (Or.inl ⟨by rfl, ?_⟩) ?_ ?_
          rotate_left
          · intro w'
            go_simp
            with_reducible rfl
          rotate_left
          · simp only [Act.put, List.setIfInBounds_toArray, List.set_cons_zero, List.set_cons_succ]
            rfl
          refine pure_ (i := 17) (N := some 54) (v := ?_) (a' := ?_) #[true, true, false, false, true, true, true, true, true, true, true, false, false, false, true, true, true, true, false, false, false, false, false, false, false] rfl rfl (by kernel_rfl) (fun _ _ _ h => h) (Or.inl ⟨by rfl, ?_⟩) ?_ ?_
          rotate_left
          · intro w'
            go_simp
            with_reducible rfl
          rotate_left
          · simp only [Act.put, List.setIfInBounds_toArray, List.set_cons_zero, List.set_cons_succ]
            rfl
          refine pure_ (i := 18) (N := some 55) (v := ?_) (a' := ?_) #[true, true, false, false, true, true, true, true, true, true, true, false, false, false, true, true, true, true, true, false, false, false, false, false, false] rfl rfl (by kernel_rfl) (fun _ _ _ h => h) (Or.inl ⟨by rfl, ?_⟩) ?_ ?_
          rotate_left
          · intro w'
            go_simp
            with_reducible rfl
          rotate_left
          · simp only [Act.put, List.setIfInBounds_toArray, List.set_cons_zero, List.set_cons_succ]
            rfl
          refine take_ (i := 19) (N := some 56) (v := ?_) (a' := ?_) #[true, true, false, false, true, true, true, true, true, true, true, false, false, false, true, true, true, true, true, true, false, false, false, false, false] rfl rfl (by kernel_rfl) (fun _ _ _ h => h) (Or.inl ⟨by rfl, ?_⟩) hHeld ?_ ?_
          rotate_left
          · intro w' s0
            go_simp
            with_reducible rfl
          rotate_left
          · simp only [Act.put, List.setIfInBounds_toArray, List.set_cons_zero, List.set_cons_succ]
            rfl
          refine pure_ (i := 11) (N := some 48) (v := ?_) (a' := ?_) #[true, true, false, false, true, true, true, true, true, true, true, true, false, false, true, true, true, true, true, true, false, false, false, false, false] rfl rfl (by kernel_rfl) (fun _ _ _ h => h) (Or.inl ⟨by rfl, ?_⟩) ?_ ?_
          rotate_left
          · intro w'
            go_simp
            with_reducible rfl
          rotate_left
          · simp only [Act.put, List.setIfInBounds_toArray, List.set_cons_zero, List.set_cons_succ]
            rfl
          have hl1 := usedL_len us i
          have hl2 := mostL_len l us i
          have hl3 := allL_len l i
          have HLN : Aside0 (i ≤ 64) := ⟨by omega⟩
          refine join_ (σ := Nat × Nat × Nat × Value × Value × Value) 3 #[true, true, true, true, true, true, true, true, true, true, true, true, true, true, true, true, true, true, true, true, true, true, false, false, false] (fun qq => [(39, .slice (some ⟨qq.1, 0, none⟩) 1 1), (49, .slice (some ⟨qq.2.1, 0, none⟩) 1 1), (57, .slice (some ⟨qq.2.2.1, 0, none⟩) 1 1), (40, qq.2.2.2.1), (50, qq.2.2.2.2.1), (58, qq.2.2.2.2.2)]) (fun qq W => T3 w1.heap.size 3 w1 W qq.2.2.2.1 qq.2.2.2.2.1 qq.2.2.2.2.2 (usedL us i ++ [u % 4097]) (mostL l us i ++ [if q < u % 4097 then q else u % 4097]) (allL l i ++ [q]) ∧ True) ?_ ?_
          · skip
            rintro qq W ⟨hT, _⟩
            refine norm_ (a' := ?_) ?_ ?_
            rotate_left
            · simp only [putAll, Act.put, List.setIfInBounds_toArray, List.set_cons_zero, List.set_cons_succ]
              rfl
            refine pure_ (i := 22) (N := some 7) (v := ?_) (a' := ?_) #[true, true, true, true, true, true, true, true, true, true, true, true, true, true, true, true, true, true, true, true, true, true, true, false, false] rfl rfl (by kernel_rfl) (fun _ _ _ h => h) (Or.inl ⟨by rfl, ?_⟩) ?_ ?_
            rotate_left
            · intro w'
              go_simp
              with_reducible rfl
            rotate_left
            · simp only [Act.put, List.setIfInBounds_toArray, List.set_cons_zero, List.set_cons_succ]
              rfl
            refine pure_ (i := 23) (N := some 8) (v := ?_) (a' := ?_) #[true, true, true, true, true, true, true, true, true, true, true, true, true, true, true, true, true, true, true, true, true, true, true, true, false] rfl rfl (by kernel_rfl) (fun _ _ _ h => h) (Or.inl ⟨by rfl, ?_⟩) ?_ ?_
            rotate_left
            · intro w'
              go_simp
              with_reducible rfl
            rotate_left
            · simp only [Act.put, List.setIfInBounds_toArray, List.set_cons_zero, List.set_cons_succ]
              rfl
            refine pure_ (i := 24) (N := some 9) (v := ?_) (a' := ?_) #[true, true, true, true, true, true, true, true, true, true, true, true, true, true, true, true, true, true, true, true, true, true, true, true, true] rfl rfl (by kernel_rfl) (fun _ _ _ h => h) (Or.inl ⟨by rfl, ?_⟩) ?_ ?_
            rotate_left
            · intro w'
              go_simp
              with_reducible rfl
            rotate_left
            · simp only [Act.put, List.setIfInBounds_toArray, List.set_cons_zero, List.set_cons_succ]
              rfl
            refine done_ (by kernel_rfl) ?_
            have HMN : (if q < u % 4097 then q else u % 4097) = min (u % 4097) q := by rw [Int.min_def]; split <;> split <;> omega
            rw [HMN] at hT
            rw [← U1.out, ← U2.out, ← U3.out] at hT
            have HTF := Aside0.mk hT
            clear hT HMN
            go_wp2_with fail
            try go_wp2_with fail
            go_roundw
            case rel => exact ⟨i + 1, by first | rfl | simp, by omega, HTF.out⟩
            case measure => simp [intOf]; omega
          intro Habc3_
          have Habc3 := Aside0.mk Habc3_
          clear Habc3_
          refine join_ (σ := Nat × Nat × Nat × Value × Value × Value) 4 #[true, true, true, true, true, true, true, true, true, true, true, true, true, true, true, true, true, true, true, true, true, false, false, false, false] (fun qq => [(39, .slice (some ⟨qq.1, 0, none⟩) 1 1), (49, .slice (some ⟨qq.2.1, 0, none⟩) 1 1), (57, .slice (some ⟨qq.2.2.1, 0, none⟩) 1 1), (40, qq.2.2.2.1), (50, qq.2.2.2.2.1)]) (fun qq W => T3 w1.heap.size 3 w1 W qq.2.2.2.1 qq.2.2.2.2.1 u9 (usedL us i ++ [u % 4097]) (mostL l us i ++ [if q < u % 4097 then q else u % 4097]) (allL l i) ∧ Bx 3 W qq.2.2.2.1 qq.2.2.2.2.1 u9 qq.2.2.1 (q) ∧ True) ?_ ?_
          · skip
            rintro qq W ⟨hT, bc, _⟩
            have hs := hT.hb.size
            refine norm_ (a' := ?_) ?_ ?_
            rotate_left
            · simp only [putAll, Act.put, List.setIfInBounds_toArray, List.set_cons_zero, List.set_cons_succ]
              rfl
            refine wpAnyLast_ready (rs := [21]) (by kernel_rfl) (by simp) (AllReadyL.cons rfl (by simp) (fun K hK => ?_) AllReadyL.nil)
            · skip
              refine stp_int hT.rot.rot (by rfl) (.tmp 51) (.tmp 57) 27 _ 8 rfl Try.underlying27 info3 rfl rfl _ rfl bc.rot.rot hs (by omega) (by omega) ?_
              intro v' wA hT' hG
              refine hK.out _ _ (HSC.out _ hT'.hb) (fun _ => ?_)
              clear hK K
              have h := Habc3.out (qq.1, qq.2.1, qq.2.2.1, qq.2.2.2.1, qq.2.2.2.2.1, v') _ ⟨hT'.rot, True.intro⟩
              simp only [putAll, Act.put, List.setIfInBounds_toArray, List.set_cons_zero, List.set_cons_succ] at h ⊢
              exact h
          intro Habc2_
          have Habc2 := Aside0.mk Habc2_
          clear Habc2_
          refine join_ (σ := Nat × Nat × Nat × Value × Value × Value) 5 #[true, true, true, true, true, true, true, true, true, true, true, true, true, false, true, true, true, true, true, true, true, false, false, false, false] (fun qq => [(39, .slice (some ⟨qq.1, 0, none⟩) 1 1), (49, .slice (some ⟨qq.2.1, 0, none⟩) 1 1), (57, .slice (some ⟨qq.2.2.1, 0, none⟩) 1 1), (40, qq.2.2.2.1)]) (fun qq W => T3 w1.heap.size 3 w1 W qq.2.2.2.1 u8 u9 (usedL us i ++ [u % 4097]) (mostL l us i) (allL l i) ∧ Bx 3 W qq.2.2.2.1 u8 u9 qq.2.1 (if q < u % 4097 then q else u % 4097) ∧ Bx 3 W qq.2.2.2.1 u8 u9 qq.2.2.1 (q) ∧ True) ?_ ?_
          · skip
            rintro qq W ⟨hT, bb, bc, _⟩
            have hs := hT.hb.size
            refine norm_ (a' := ?_) ?_ ?_
            rotate_left
            · simp only [putAll, Act.put, List.setIfInBounds_toArray, List.set_cons_zero, List.set_cons_succ]
              rfl
            refine wpAnyLast_ready (rs := [13]) (by kernel_rfl) (by simp) (AllReadyL.cons rfl (by simp) (fun K hK => ?_) AllReadyL.nil)
            · skip
              refine stp_int hT.rot (by rfl) (.tmp 41) (.tmp 49) 27 _ 8 rfl Try.underlying27 info3 rfl rfl _ rfl bb.rot hs (by omega) (by omega) ?_
              intro v' wA hT' hG
              refine hK.out _ _ (HSC.out _ hT'.hb) (fun _ => ?_)
              clear hK K
              have h := Habc2.out (qq.1, qq.2.1, qq.2.2.1, qq.2.2.2.1, v', qq.2.2.2.2.2) _ ⟨hT'.rot.rot, (bc.rot.app hG).rot.rot, True.intro⟩
              simp only [putAll, Act.put, List.setIfInBounds_toArray, List.set_cons_zero, List.set_cons_succ] at h ⊢
              exact h
          intro Habc1_
          have Habc1 := Aside0.mk Habc1_
          clear Habc1_
          refine join_ (σ := Nat × Nat × Nat × Value × Value × Value) 5 #[true, true, true, true, true, true, true, true, true, true, true, true, true, true, true, true, true, true, true, true, false, false, false, false, false] (fun qq => [(39, .slice (some ⟨qq.1, 0, none⟩) 1 1), (49, .slice (some ⟨qq.2.1, 0, none⟩) 1 1), (40, qq.2.2.2.1), (50, qq.2.2.2.2.1)]) (fun qq W => T3 w1.heap.size 3 w1 W qq.2.2.2.1 qq.2.2.2.2.1 u9 (usedL us i ++ [u % 4097]) (mostL l us i ++ [if q < u % 4097 then q else u % 4097]) (allL l i) ∧ True) ?_ ?_
          · skip
            rintro qq W ⟨hT, _⟩
            have hs := hT.hb.size
            refine norm_ (a' := ?_) ?_ ?_
            rotate_left
            · simp only [putAll, Act.put, List.setIfInBounds_toArray, List.set_cons_zero, List.set_cons_succ]
              rfl
            refine wpAnyLast_ready (rs := [20]) (by kernel_rfl) (by simp) (AllReadyL.cons rfl (by simp) (fun K hK => ?_) AllReadyL.nil)
            · go_simp
              have hT2 := hT.alloc hs (.cells #[.int .i64 (q)] 3 (0, 0))
              refine hK.out _ _ (HSC.out _ hT2.hb) (fun _ => ?_)
              clear hK K
              have h := Habc2.out (qq.1, qq.2.1, W.heap.size, qq.2.2.2.1, qq.2.2.2.2.1, qq.2.2.2.2.2) _ ⟨hT2, hT.box (q), True.intro⟩
              simp only [putAll, Act.put, List.setIfInBounds_toArray, List.set_cons_zero, List.set_cons_succ] at h ⊢
              exact h
          intro Hab2_
          have Hab2 := Aside0.mk Hab2_
          clear Hab2_
          refine join_ (σ := Nat × Nat × Nat × Value × Value × Value) 6 #[true, true, true, false, true, true, true, true, true, true, true, true, true, false, true, true, true, true, true, true, true, false, false, false, false] (fun qq => [(39, .slice (some ⟨qq.1, 0, none⟩) 1 1), (49, .slice (some ⟨qq.2.1, 0, none⟩) 1 1), (57, .slice (some ⟨qq.2.2.1, 0, none⟩) 1 1)]) (fun qq W => T3 w1.heap.size 3 w1 W u7 u8 u9 (usedL us i) (mostL l us i) (allL l i) ∧ Bx 3 W u7 u8 u9 qq.1 (u % 4097) ∧ Bx 3 W u7 u8 u9 qq.2.1 (if q < u % 4097 then q else u % 4097) ∧ Bx 3 W u7 u8 u9 qq.2.2.1 (q) ∧ True) ?_ ?_
          · skip
            rintro qq W ⟨hT, ba, bb, bc, _⟩
            have hs := hT.hb.size
            refine norm_ (a' := ?_) ?_ ?_
            rotate_left
            · simp only [putAll, Act.put, List.setIfInBounds_toArray, List.set_cons_zero, List.set_cons_succ]
              rfl
            refine wpAnyLast_ready (rs := [3]) (by kernel_rfl) (by simp) (AllReadyL.cons rfl (by simp) (fun K hK => ?_) AllReadyL.nil)
            · skip
              refine stp_int hT (by rfl) (.tmp 37) (.tmp 39) 27 _ 8 rfl Try.underlying27 info3 rfl rfl _ rfl ba hs (by omega) (by omega) ?_
              intro v' wA hT' hG
              refine hK.out _ _ (HSC.out _ hT'.hb) (fun _ => ?_)
              clear hK K
              have h := Habc1.out (qq.1, qq.2.1, qq.2.2.1, v', qq.2.2.2.2.1, qq.2.2.2.2.2) _ ⟨hT', (bb.app hG), (bc.app hG), True.intro⟩
              simp only [putAll, Act.put, List.setIfInBounds_toArray, List.set_cons_zero, List.set_cons_succ] at h ⊢
              exact h
          intro Habc0_
          have Habc0 := Aside0.mk Habc0_
          clear Habc0_
          refine join_ (σ := Nat × Nat × Nat × Value × Value × Value) 6 #[true, true, true, true, true, true, true, true, true, true, true, true, true, false, true, true, true, true, true, true, false, false, false, false, false] (fun qq => [(39, .slice (some ⟨qq.1, 0, none⟩) 1 1), (49, .slice (some ⟨qq.2.1, 0, none⟩) 1 1), (40, qq.2.2.2.1)]) (fun qq W => T3 w1.heap.size 3 w1 W qq.2.2.2.1 u8 u9 (usedL us i ++ [u % 4097]) (mostL l us i) (allL l i) ∧ Bx 3 W qq.2.2.2.1 u8 u9 qq.2.1 (if q < u % 4097 then q else u % 4097) ∧ True) ?_ ?_
          · skip
            rintro qq W ⟨hT, bb, _⟩
            have hs := hT.hb.size
            refine norm_ (a' := ?_) ?_ ?_
            rotate_left
            · simp only [putAll, Act.put, List.setIfInBounds_toArray, List.set_cons_zero, List.set_cons_succ]
              rfl
            refine wpAnyLast_ready (rs := [13, 20]) (by kernel_rfl) (by simp) (AllReadyL.cons rfl (by simp) (fun K hK => ?_) (AllReadyL.cons rfl (by simp) (fun K hK => ?_) AllReadyL.nil))
            · skip
              refine stp_int hT.rot (by rfl) (.tmp 41) (.tmp 49) 27 _ 8 rfl Try.underlying27 info3 rfl rfl _ rfl bb.rot hs (by omega) (by omega) ?_
              intro v' wA hT' hG
              refine hK.out _ _ (HSC.out _ hT'.hb) (fun _ => ?_)
              clear hK K
              have h := Hab2.out (qq.1, qq.2.1, qq.2.2.1, qq.2.2.2.1, v', qq.2.2.2.2.2) _ ⟨hT'.rot.rot, True.intro⟩
              simp only [putAll, Act.put, List.setIfInBounds_toArray, List.set_cons_zero, List.set_cons_succ] at h ⊢
              exact h
            · go_simp
              have hT2 := hT.alloc hs (.cells #[.int .i64 (q)] 3 (0, 0))
              refine hK.out _ _ (HSC.out _ hT2.hb) (fun _ => ?_)
              clear hK K
              have h := Habc1.out (qq.1, qq.2.1, W.heap.size, qq.2.2.2.1, qq.2.2.2.2.1, qq.2.2.2.2.2) _ ⟨hT2, bb.alloc _, hT.box (q), True.intro⟩
              simp only [putAll, Act.put, List.setIfInBounds_toArray, List.set_cons_zero, List.set_cons_succ] at h ⊢
              exact h
          intro Hab1_
          have Hab1 := Aside0.mk Hab1_
          clear Hab1_
          refine join_ (σ := Nat × Nat × Nat × Value × Value × Value) 6 #[true, true, true, true, true, true, true, true, true, true, true, true, false, false, true, true, true, true, true, true, true, false, false, false, false] (fun qq => [(39, .slice (some ⟨qq.1, 0, none⟩) 1 1), (57, .slice (some ⟨qq.2.2.1, 0, none⟩) 1 1), (40, qq.2.2.2.1)]) (fun qq W => T3 w1.heap.size 3 w1 W qq.2.2.2.1 u8 u9 (usedL us i ++ [u % 4097]) (mostL l us i) (allL l i) ∧ Bx 3 W qq.2.2.2.1 u8 u9 qq.2.2.1 (q) ∧ True) ?_ ?_
          · skip
            rintro qq W ⟨hT, bc, _⟩
            have hs := hT.hb.size
            refine norm_ (a' := ?_) ?_ ?_
            rotate_left
            · simp only [putAll, Act.put, List.setIfInBounds_toArray, List.set_cons_zero, List.set_cons_succ]
              rfl
            refine wpAnyLast_ready (rs := [12]) (by kernel_rfl) (by simp) (AllReadyL.cons rfl (by simp) (fun K hK => ?_) AllReadyL.nil)
            · go_simp
              have hT2 := hT.alloc hs (.cells #[.int .i64 (if q < u % 4097 then q else u % 4097)] 3 (0, 0))
              refine hK.out _ _ (HSC.out _ hT2.hb) (fun _ => ?_)
              clear hK K
              have h := Habc1.out (qq.1, W.heap.size, qq.2.2.1, qq.2.2.2.1, qq.2.2.2.2.1, qq.2.2.2.2.2) _ ⟨hT2, hT.box (if q < u % 4097 then q else u % 4097), bc.alloc _, True.intro⟩
              simp only [putAll, Act.put, List.setIfInBounds_toArray, List.set_cons_zero, List.set_cons_succ] at h ⊢
              exact h
          intro Hac1_
          have Hac1 := Aside0.mk Hac1_
          clear Hac1_
          refine join_ (σ := Nat × Nat × Nat × Value × Value × Value) 7 #[true, true, true, false, true, true, true, true, true, true, true, true, true, false, true, true, true, true, true, true, false, false, false, false, false] (fun qq => [(39, .slice (some ⟨qq.1, 0, none⟩) 1 1), (49, .slice (some ⟨qq.2.1, 0, none⟩) 1 1)]) (fun qq W => T3 w1.heap.size 3 w1 W u7 u8 u9 (usedL us i) (mostL l us i) (allL l i) ∧ Bx 3 W u7 u8 u9 qq.1 (u % 4097) ∧ Bx 3 W u7 u8 u9 qq.2.1 (if q < u % 4097 then q else u % 4097) ∧ True) ?_ ?_
          · skip
            rintro qq W ⟨hT, ba, bb, _⟩
            have hs := hT.hb.size
            refine norm_ (a' := ?_) ?_ ?_
            rotate_left
            · simp only [putAll, Act.put, List.setIfInBounds_toArray, List.set_cons_zero, List.set_cons_succ]
              rfl
            refine wpAnyLast_ready (rs := [3, 20]) (by kernel_rfl) (by simp) (AllReadyL.cons rfl (by simp) (fun K hK => ?_) (AllReadyL.cons rfl (by simp) (fun K hK => ?_) AllReadyL.nil))
            · skip
              refine stp_int hT (by rfl) (.tmp 37) (.tmp 39) 27 _ 8 rfl Try.underlying27 info3 rfl rfl _ rfl ba hs (by omega) (by omega) ?_
              intro v' wA hT' hG
              refine hK.out _ _ (HSC.out _ hT'.hb) (fun _ => ?_)
              clear hK K
              have h := Hab1.out (qq.1, qq.2.1, qq.2.2.1, v', qq.2.2.2.2.1, qq.2.2.2.2.2) _ ⟨hT', (bb.app hG), True.intro⟩
              simp only [putAll, Act.put, List.setIfInBounds_toArray, List.set_cons_zero, List.set_cons_succ] at h ⊢
              exact h
            · go_simp
              have hT2 := hT.alloc hs (.cells #[.int .i64 (q)] 3 (0, 0))
              refine hK.out _ _ (HSC.out _ hT2.hb) (fun _ => ?_)
              clear hK K
              have h := Habc0.out (qq.1, qq.2.1, W.heap.size, qq.2.2.2.1, qq.2.2.2.2.1, qq.2.2.2.2.2) _ ⟨hT2, ba.alloc _, bb.alloc _, hT.box (q), True.intro⟩
              simp only [putAll, Act.put, List.setIfInBounds_toArray, List.set_cons_zero, List.set_cons_succ] at h ⊢
              exact h
          intro Hab0_
          have Hab0 := Aside0.mk Hab0_
          clear Hab0_
          refine join_ (σ := Nat × Nat × Nat × Value × Value × Value) 7 #[true, true, true, false, true, true, true, true, true, true, true, true, false, false, true, true, true, true, true, true, true, false, false, false, false] (fun qq => [(39, .slice (some ⟨qq.1, 0, none⟩) 1 1), (57, .slice (some ⟨qq.2.2.1, 0, none⟩) 1 1)]) (fun qq W => T3 w1.heap.size 3 w1 W u7 u8 u9 (usedL us i) (mostL l us i) (allL l i) ∧ Bx 3 W u7 u8 u9 qq.1 (u % 4097) ∧ Bx 3 W u7 u8 u9 qq.2.2.1 (q) ∧ True) ?_ ?_
          · skip
            rintro qq W ⟨hT, ba, bc, _⟩
            have hs := hT.hb.size
            refine norm_ (a' := ?_) ?_ ?_
            rotate_left
            · simp only [putAll, Act.put, List.setIfInBounds_toArray, List.set_cons_zero, List.set_cons_succ]
              rfl
            refine wpAnyLast_ready (rs := [3, 12]) (by kernel_rfl) (by simp) (AllReadyL.cons rfl (by simp) (fun K hK => ?_) (AllReadyL.cons rfl (by simp) (fun K hK => ?_) AllReadyL.nil))
            · skip
              refine stp_int hT (by rfl) (.tmp 37) (.tmp 39) 27 _ 8 rfl Try.underlying27 info3 rfl rfl _ rfl ba hs (by omega) (by omega) ?_
              intro v' wA hT' hG
              refine hK.out _ _ (HSC.out _ hT'.hb) (fun _ => ?_)
              clear hK K
              have h := Hac1.out (qq.1, qq.2.1, qq.2.2.1, v', qq.2.2.2.2.1, qq.2.2.2.2.2) _ ⟨hT', (bc.app hG), True.intro⟩
              simp only [putAll, Act.put, List.setIfInBounds_toArray, List.set_cons_zero, List.set_cons_succ] at h ⊢
              exact h
            · go_simp
              have hT2 := hT.alloc hs (.cells #[.int .i64 (if q < u % 4097 then q else u % 4097)] 3 (0, 0))
              refine hK.out _ _ (HSC.out _ hT2.hb) (fun _ => ?_)
              clear hK K
              have h := Habc0.out (qq.1, W.heap.size, qq.2.2.1, qq.2.2.2.1, qq.2.2.2.2.1, qq.2.2.2.2.2) _ ⟨hT2, ba.alloc _, hT.box (if q < u % 4097 then q else u % 4097), bc.alloc _, True.intro⟩
              simp only [putAll, Act.put, List.setIfInBounds_toArray, List.set_cons_zero, List.set_cons_succ] at h ⊢
              exact h
          intro Hac0_
          have Hac0 := Aside0.mk Hac0_
          clear Hac0_
          refine join_ (σ := Nat × Nat × Nat × Value × Value × Value) 7 #[true, true, false, false, true, true, true, true, true, true, true, true, true, false, true, true, true, true, true, true, true, false, false, false, false] (fun qq => [(49, .slice (some ⟨qq.2.1, 0, none⟩) 1 1), (57, .slice (some ⟨qq.2.2.1, 0, none⟩) 1 1)]) (fun qq W => T3 w1.heap.size 3 w1 W u7 u8 u9 (usedL us i) (mostL l us i) (allL l i) ∧ Bx 3 W u7 u8 u9 qq.2.1 (if q < u % 4097 then q else u % 4097) ∧ Bx 3 W u7 u8 u9 qq.2.2.1 (q) ∧ True) ?_ ?_
          · skip
            rintro qq W ⟨hT, bb, bc, _⟩
            have hs := hT.hb.size
            refine norm_ (a' := ?_) ?_ ?_
            rotate_left
            · simp only [putAll, Act.put, List.setIfInBounds_toArray, List.set_cons_zero, List.set_cons_succ]
              rfl
            refine wpAnyLast_ready (rs := [2]) (by kernel_rfl) (by simp) (AllReadyL.cons rfl (by simp) (fun K hK => ?_) AllReadyL.nil)
            · go_simp
              have hT2 := hT.alloc hs (.cells #[.int .i64 (u % 4097)] 3 (0, 0))
              refine hK.out _ _ (HSC.out _ hT2.hb) (fun _ => ?_)
              clear hK K
              have h := Habc0.out (W.heap.size, qq.2.1, qq.2.2.1, qq.2.2.2.1, qq.2.2.2.2.1, qq.2.2.2.2.2) _ ⟨hT2, hT.box (u % 4097), bb.alloc _, bc.alloc _, True.intro⟩
              simp only [putAll, Act.put, List.setIfInBounds_toArray, List.set_cons_zero, List.set_cons_succ] at h ⊢
              exact h
          intro Hbc0_
          have Hbc0 := Aside0.mk Hbc0_
          clear Hbc0_
          refine join_ (σ := Nat × Nat × Nat × Value × Value × Value) 7 #[true, true, true, true, true, true, true, true, true, true, true, true, false, false, true, true, true, true, true, true, false, false, false, false, false] (fun qq => [(39, .slice (some ⟨qq.1, 0, none⟩) 1 1), (40, qq.2.2.2.1)]) (fun qq W => T3 w1.heap.size 3 w1 W qq.2.2.2.1 u8 u9 (usedL us i ++ [u % 4097]) (mostL l us i) (allL l i) ∧ True) ?_ ?_
          · skip
            rintro qq W ⟨hT, _⟩
            have hs := hT.hb.size
            refine norm_ (a' := ?_) ?_ ?_
            rotate_left
            · simp only [putAll, Act.put, List.setIfInBounds_toArray, List.set_cons_zero, List.set_cons_succ]
              rfl
            refine wpAnyLast_ready (rs := [12, 20]) (by kernel_rfl) (by simp) (AllReadyL.cons rfl (by simp) (fun K hK => ?_) (AllReadyL.cons rfl (by simp) (fun K hK => ?_) AllReadyL.nil))
            · go_simp
              have hT2 := hT.alloc hs (.cells #[.int .i64 (if q < u % 4097 then q else u % 4097)] 3 (0, 0))
              refine hK.out _ _ (HSC.out _ hT2.hb) (fun _ => ?_)
              clear hK K
              have h := Hab1.out (qq.1, W.heap.size, qq.2.2.1, qq.2.2.2.1, qq.2.2.2.2.1, qq.2.2.2.2.2) _ ⟨hT2, hT.box (if q < u % 4097 then q else u % 4097), True.intro⟩
              simp only [putAll, Act.put, List.setIfInBounds_toArray, List.set_cons_zero, List.set_cons_succ] at h ⊢
              exact h
            · go_simp
              have hT2 := hT.alloc hs (.cells #[.int .i64 (q)] 3 (0, 0))
              refine hK.out _ _ (HSC.out _ hT2.hb) (fun _ => ?_)
              clear hK K
              have h := Hac1.out (qq.1, qq.2.1, W.heap.size, qq.2.2.2.1, qq.2.2.2.2.1, qq.2.2.2.2.2) _ ⟨hT2, hT.box (q), True.intro⟩
              simp only [putAll, Act.put, List.setIfInBounds_toArray, List.set_cons_zero, List.set_cons_succ] at h ⊢
              exact h
          intro Ha1_
          have Ha1 := Aside0.mk Ha1_
          clear Ha1_
          refine join_ (σ := Nat × Nat × Nat × Value × Value × Value) 8 #[true, true, true, false, true, true, true, true, true, true, true, true, false, false, true, true, true, true, true, true, false, false, false, false, false] (fun qq => [(39, .slice (some ⟨qq.1, 0, none⟩) 1 1)]) (fun qq W => T3 w1.heap.size 3 w1 W u7 u8 u9 (usedL us i) (mostL l us i) (allL l i) ∧ Bx 3 W u7 u8 u9 qq.1 (u % 4097) ∧ True) ?_ ?_
          · skip
            rintro qq W ⟨hT, ba, _⟩
            have hs := hT.hb.size
            refine norm_ (a' := ?_) ?_ ?_
            rotate_left
            · simp only [putAll, Act.put, List.setIfInBounds_toArray, List.set_cons_zero, List.set_cons_succ]
              rfl
            refine wpAnyLast_ready (rs := [3, 12, 20]) (by kernel_rfl) (by simp) (AllReadyL.cons rfl (by simp) (fun K hK => ?_) (AllReadyL.cons rfl (by simp) (fun K hK => ?_) (AllReadyL.cons rfl (by simp) (fun K hK => ?_) AllReadyL.nil)))
            · skip
              refine stp_int hT (by rfl) (.tmp 37) (.tmp 39) 27 _ 8 rfl Try.underlying27 info3 rfl rfl _ rfl ba hs (by omega) (by omega) ?_
              intro v' wA hT' hG
              refine hK.out _ _ (HSC.out _ hT'.hb) (fun _ => ?_)
              clear hK K
              have h := Ha1.out (qq.1, qq.2.1, qq.2.2.1, v', qq.2.2.2.2.1, qq.2.2.2.2.2) _ ⟨hT', True.intro⟩
              simp only [putAll, Act.put, List.setIfInBounds_toArray, List.set_cons_zero, List.set_cons_succ] at h ⊢
              exact h
            · go_simp
              have hT2 := hT.alloc hs (.cells #[.int .i64 (if q < u % 4097 then q else u % 4097)] 3 (0, 0))
              refine hK.out _ _ (HSC.out _ hT2.hb) (fun _ => ?_)
              clear hK K
              have h := Hab0.out (qq.1, W.heap.size, qq.2.2.1, qq.2.2.2.1, qq.2.2.2.2.1, qq.2.2.2.2.2) _ ⟨hT2, ba.alloc _, hT.box (if q < u % 4097 then q else u % 4097), True.intro⟩
              simp only [putAll, Act.put, List.setIfInBounds_toArray, List.set_cons_zero, List.set_cons_succ] at h ⊢
              exact h
            · go_simp
              have hT2 := hT.alloc hs (.cells #[.int .i64 (q)] 3 (0, 0))
              refine hK.out _ _ (HSC.out _ hT2.hb) (fun _ => ?_)
              clear hK K
              have h := Hac0.out (qq.1, qq.2.1, W.heap.size, qq.2.2.2.1, qq.2.2.2.2.1, qq.2.2.2.2.2) _ ⟨hT2, ba.alloc _, hT.box (q), True.intro⟩
              simp only [putAll, Act.put, List.setIfInBounds_toArray, List.set_cons_zero, List.set_cons_succ] at h ⊢
              exact h
          intro Ha0_
          have Ha0 := Aside0.mk Ha0_
          clear Ha0_
          refine join_ (σ := Nat × Nat × Nat × Value × Value × Value) 8 #[true, true, false, false, true, true, true, true, true, true, true, true, true, false, true, true, true, true, true, true, false, false, false, false, false] (fun qq => [(49, .slice (some ⟨qq.2.1, 0, none⟩) 1 1)]) (fun qq W => T3 w1.heap.size 3 w1 W u7 u8 u9 (usedL us i) (mostL l us i) (allL l i) ∧ Bx 3 W u7 u8 u9 qq.2.1 (if q < u % 4097 then q else u % 4097) ∧ True) ?_ ?_
          · skip
            rintro qq W ⟨hT, bb, _⟩
            have hs := hT.hb.size
            refine norm_ (a' := ?_) ?_ ?_
            rotate_left
            · simp only [putAll, Act.put, List.setIfInBounds_toArray, List.set_cons_zero, List.set_cons_succ]
              rfl
            refine wpAnyLast_ready (rs := [2, 20]) (by kernel_rfl) (by simp) (AllReadyL.cons rfl (by simp) (fun K hK => ?_) (AllReadyL.cons rfl (by simp) (fun K hK => ?_) AllReadyL.nil))
            · go_simp
              have hT2 := hT.alloc hs (.cells #[.int .i64 (u % 4097)] 3 (0, 0))
              refine hK.out _ _ (HSC.out _ hT2.hb) (fun _ => ?_)
              clear hK K
              have h := Hab0.out (W.heap.size, qq.2.1, qq.2.2.1, qq.2.2.2.1, qq.2.2.2.2.1, qq.2.2.2.2.2) _ ⟨hT2, hT.box (u % 4097), bb.alloc _, True.intro⟩
              simp only [putAll, Act.put, List.setIfInBounds_toArray, List.set_cons_zero, List.set_cons_succ] at h ⊢
              exact h
            · go_simp
              have hT2 := hT.alloc hs (.cells #[.int .i64 (q)] 3 (0, 0))
              refine hK.out _ _ (HSC.out _ hT2.hb) (fun _ => ?_)
              clear hK K
              have h := Hbc0.out (qq.1, qq.2.1, W.heap.size, qq.2.2.2.1, qq.2.2.2.2.1, qq.2.2.2.2.2) _ ⟨hT2, bb.alloc _, hT.box (q), True.intro⟩
              simp only [putAll, Act.put, List.setIfInBounds_toArray, List.set_cons_zero, List.set_cons_succ] at h ⊢
              exact h
          intro Hb0_
          have Hb0 := Aside0.mk Hb0_
          clear Hb0_
          refine join_ (σ := Nat × Nat × Nat × Value × Value × Value) 8 #[true, true, false, false, true, true, true, true, true, true, true, true, false, false, true, true, true, true, true, true, true, false, false, false, false] (fun qq => [(57, .slice (some ⟨qq.2.2.1, 0, none⟩) 1 1)]) (fun qq W => T3 w1.heap.size 3 w1 W u7 u8 u9 (usedL us i) (mostL l us i) (allL l i) ∧ Bx 3 W u7 u8 u9 qq.2.2.1 (q) ∧ True) ?_ ?_
          · skip
            rintro qq W ⟨hT, bc, _⟩
            have hs := hT.hb.size
            refine norm_ (a' := ?_) ?_ ?_
            rotate_left
            · simp only [putAll, Act.put, List.setIfInBounds_toArray, List.set_cons_zero, List.set_cons_succ]
              rfl
            refine wpAnyLast_ready (rs := [2, 12]) (by kernel_rfl) (by simp) (AllReadyL.cons rfl (by simp) (fun K hK => ?_) (AllReadyL.cons rfl (by simp) (fun K hK => ?_) AllReadyL.nil))
            · go_simp
              have hT2 := hT.alloc hs (.cells #[.int .i64 (u % 4097)] 3 (0, 0))
              refine hK.out _ _ (HSC.out _ hT2.hb) (fun _ => ?_)
              clear hK K
              have h := Hac0.out (W.heap.size, qq.2.1, qq.2.2.1, qq.2.2.2.1, qq.2.2.2.2.1, qq.2.2.2.2.2) _ ⟨hT2, hT.box (u % 4097), bc.alloc _, True.intro⟩
              simp only [putAll, Act.put, List.setIfInBounds_toArray, List.set_cons_zero, List.set_cons_succ] at h ⊢
              exact h
            · go_simp
              have hT2 := hT.alloc hs (.cells #[.int .i64 (if q < u % 4097 then q else u % 4097)] 3 (0, 0))
              refine hK.out _ _ (HSC.out _ hT2.hb) (fun _ => ?_)
              clear hK K
              have h := Hbc0.out (qq.1, W.heap.size, qq.2.2.1, qq.2.2.2.1, qq.2.2.2.2.1, qq.2.2.2.2.2) _ ⟨hT2, hT.box (if q < u % 4097 then q else u % 4097), bc.alloc _, True.intro⟩
              simp only [putAll, Act.put, List.setIfInBounds_toArray, List.set_cons_zero, List.set_cons_succ] at h ⊢
              exact h
          intro Hc0_
          have Hc0 := Aside0.mk Hc0_
          clear Hc0_
          have hT := HTD.out
          have hs := hT.hb.size
          refine wpAnyLast_ready (rs := [2, 12, 20]) (by kernel_rfl) (by simp) (AllReadyL.cons rfl (by simp) (fun K hK => ?_) (AllReadyL.cons rfl (by simp) (fun K hK => ?_) (AllReadyL.cons rfl (by simp) (fun K hK => ?_) AllReadyL.nil)))
          · go_simp
            have hT2 := hT.alloc hs (.cells #[.int .i64 (u % 4097)] 3 (0, 0))
            refine hK.out _ _ (HSC.out _ hT2.hb) (fun _ => ?_)
            clear hK K
            have h := Ha0.out (wd.heap.size, 0, 0, undef, undef, undef) _ ⟨hT2, hT.box (u % 4097), True.intro⟩
            simp only [putAll, Act.put, List.setIfInBounds_toArray, List.set_cons_zero, List.set_cons_succ] at h ⊢
            exact h
          · go_simp
            have hT2 := hT.alloc hs (.cells #[.int .i64 (if q < u % 4097 then q else u % 4097)] 3 (0, 0))
            refine hK.out _ _ (HSC.out _ hT2.hb) (fun _ => ?_)
            clear hK K
            have h := Hb0.out (0, wd.heap.size, 0, undef, undef, undef) _ ⟨hT2, hT.box (if q < u % 4097 then q else u % 4097), True.intro⟩
            simp only [putAll, Act.put, List.setIfInBounds_toArray, List.set_cons_zero, List.set_cons_succ] at h ⊢
            exact h
          · go_simp
            have hT2 := hT.alloc hs (.cells #[.int .i64 (q)] 3 (0, 0))
            refine hK.out _ _ (HSC.out _ hT2.hb) (fun _ => ?_)
            clear hK K
            have h := Hc0.out (0, 0, wd.heap.size, undef, undef, undef) _ ⟨hT2, hT.box (q), True.intro⟩
            simp only [putAll, Act.put, List.setIfInBounds_toArray, List.set_cons_zero, List.set_cons_succ] at h ⊢
            exact h
        case neg =>
          have dl : decide ((i : Int) < (l.length : Int)) = false := decide_eq_false (by omega)
          have dl2 : decide (i < l.length) = false := decide_eq_false hlt
          obtain rfl : i = l.length := by omega
          clear hlt hi1
          obtain ⟨A7_, c7_, e7, hc7, C7⟩ := HTT.out.form (by rw [usedL_len]; omega)
          subst e7
          have HC7 := Aside0.mk C7
          have HK7 := Aside0.mk hc7
          clear C7 hc7
          obtain ⟨A8_, c8_, e8, hc8, C8⟩ := HTT.out.rot.form (by rw [mostL_len]; omega)
          subst e8
          have HC8 := Aside0.mk C8
          have HK8 := Aside0.mk hc8
          clear C8 hc8
          obtain ⟨A9_, c9_, e9, hc9, C9⟩ := HTT.out.rot.rot.form (by rw [allL_len]; omega)
          subst e9
          have HC9 := Aside0.mk C9
          have HK9 := Aside0.mk hc9
          clear C9 hc9
          clear HTT
          have E1 := Aside0.mk (spare_some HG.out (mostL l us l.length) (by rw [mostL_len]; exact Nat.le_refl _) (mostL_in HG.out HU.out Z.out) (show 2100 < 2101 by decide))
          have E2 := Aside0.mk (rspare_some HG.out (mostL l us l.length) (by rw [mostL_len]; exact Nat.le_refl _) (mostL_in HG.out HU.out Z.out) (show 2100 < 2101 by decide))
          have E3 := Aside0.mk (spare_some HG.out (usedL us l.length) (by rw [usedL_len]; exact Nat.le_refl _) (usedL_in HU.out Z.out) (show 2100 < 2101 by decide))
          have E4 := Aside0.mk (rspare_some HG.out (usedL us l.length) (by rw [usedL_len]; exact Nat.le_refl _) (usedL_in HU.out Z.out) (show 2100 < 2101 by decide))
          have E5_ := spare_some HG.out (allL l l.length) (by rw [allL_len]; exact Nat.le_refl _) (allL_in HG.out) (show 2100 < 2101 by decide)
          have E5 : Aside0 (admit_Spare.f 2101 l0 l1 l2 idle crit sw swE sems hor l (allL l l.length) = some (Adm.slowest l0 crit sw l)) := ⟨by rw [E5_]; rw [show Adm.spare l0 crit sw l (allL l l.length) = Adm.slowest l0 crit sw l from by rw [allL_eq]; exact spare_all HG.out]⟩
          clear E5_
          have E6 : Aside0 (admit_Slowest.f 2101 l0 l1 l2 idle crit sw swE sems hor l = some (Adm.slowest l0 crit sw l)) := ⟨slowest_some HG.out (by omega)⟩
          have HR := Aside0.mk (most_less HG.out (us := us))
          generalize usedL us l.length = m7 at HC7 HK7 E3 E4 ⊢
          generalize mostL l us l.length = m8 at HC8 HK8 E1 E2 HR ⊢
          generalize allL l l.length = m9 at HC9 HK9 E5 ⊢
          generalize Adm.spare l0 crit sw l m8 = t8 at E1 E2 HR
          generalize Adm.spare l0 crit sw l m7 = t7 at E3 E4
          generalize Adm.slowest l0 crit sw l = t9 at E5 E6 HR
          clear HZ few
          obtain ⟨x0, x1, x2, x3, x4, x5, x6, x7, x8⟩ := P.xp
          go_wp2_with fail
          try go_wp2_with fail
          clear x0 x1 x2 x3 x4 x5 x6 x7 x8
          clear dl dl2 PB
          refine (admit_Spare.calls 2101 A0 c0 l0 A1 c1 l1 A2 c2 l2 idle crit sw swE sems hor _ c3 l A8_ c8_ m8 _ _ P.R0 P.g0 P.R1 P.g1 P.R2 P.g2 (Kd.C_below r3 P.hb) g3 HC8.out HK8.out E1.out).mono ?_; rintro e w2 ⟨rfl, hb⟩
          replace P := P.step hb
          replace HC7 := Aside0.mk (Kd.C_below HC7.out hb); replace HC8 := Aside0.mk (Kd.C_below HC8.out hb); replace HC9 := Aside0.mk (Kd.C_below HC9.out hb)
          clear hb
          go_wp2_with fail
          obtain ⟨x0, x1, x2, x3, x4, x5, x6, x7, x8⟩ := P.xp
          have dm : decide (t9 ≤ t8) = true := decide_eq_true HR.out
          have dm0 : t9 ≤ t8 := HR.out
          go_region_held3 (fun w' => w'.cell? ⟨w.heap.size, 0, none⟩ = some (.slice A0 l0.length c0) ∧ w'.cell? ⟨w.heap.size, 1, none⟩ = some (.slice A1 l1.length c1) ∧ w'.cell? ⟨w.heap.size, 2, none⟩ = some (.slice A2 l2.length c2) ∧ w'.cell? ⟨w.heap.size, 3, none⟩ = some (.int .i64 idle) ∧ w'.cell? ⟨w.heap.size, 4, none⟩ = some (.int .i64 crit) ∧ w'.cell? ⟨w.heap.size, 5, none⟩ = some (.int .i64 sw) ∧ w'.cell? ⟨w.heap.size, 6, none⟩ = some (.int .i64 swE) ∧ w'.cell? ⟨w.heap.size, 7, none⟩ = some (.int .i64 sems) ∧ w'.cell? ⟨w.heap.size, 8, none⟩ = some (.int .i64 hor)) (first | exact ⟨x0, x1, x2, x3, x4, x5, x6, x7, x8⟩)
            (first
              | (go_at_call 12; (with_reducible refine (dormouselaw10_answers.calls true _ rfl).mono ?_); rintro e w20 ⟨rfl, hb⟩; replace hb := below_undrew hb; replace P := P.step hb; replace HC7 := Aside0.mk (Kd.C_below HC7.out hb); replace HC8 := Aside0.mk (Kd.C_below HC8.out hb); replace HC9 := Aside0.mk (Kd.C_below HC9.out hb); clear hb x0 x1 x2 x3 x4 x5 x6 x7 x8; obtain ⟨x0, x1, x2, x3, x4, x5, x6, x7, x8⟩ := P.xp)
              | (go_at_call 25; (with_reducible refine (admit_Spare.calls 2101 A0 c0 l0 A1 c1 l1 A2 c2 l2 idle crit sw swE sems hor _ c3 l A7_ c7_ m7 _ _ P.R0 P.g0 P.R1 P.g1 P.R2 P.g2 (Kd.C_below r3 P.hb) g3 HC7.out HK7.out E3.out).mono ?_); rintro e w21 ⟨rfl, hb⟩; replace P := P.step hb; replace HC7 := Aside0.mk (Kd.C_below HC7.out hb); replace HC8 := Aside0.mk (Kd.C_below HC8.out hb); replace HC9 := Aside0.mk (Kd.C_below HC9.out hb); clear hb x0 x1 x2 x3 x4 x5 x6 x7 x8; obtain ⟨x0, x1, x2, x3, x4, x5, x6, x7, x8⟩ := P.xp)
              | (go_at_call 25; (with_reducible refine (admit_Spare.calls 2101 A0 c0 l0 A1 c1 l1 A2 c2 l2 idle crit sw swE sems hor _ c3 l A9_ c9_ m9 _ _ P.R0 P.g0 P.R1 P.g1 P.R2 P.g2 (Kd.C_below r3 P.hb) g3 HC9.out HK9.out E5.out).mono ?_); rintro e w22 ⟨rfl, hb⟩; replace P := P.step hb; replace HC7 := Aside0.mk (Kd.C_below HC7.out hb); replace HC8 := Aside0.mk (Kd.C_below HC8.out hb); replace HC9 := Aside0.mk (Kd.C_below HC9.out hb); clear hb x0 x1 x2 x3 x4 x5 x6 x7 x8; obtain ⟨x0, x1, x2, x3, x4, x5, x6, x7, x8⟩ := P.xp)
              | (go_at_call 26; (with_reducible refine (dormouseref09_Spare.calls 2101 A0 c0 l0 A1 c1 l1 A2 c2 l2 idle crit sw swE sems hor _ c3 l A7_ c7_ m7 _ _ P.R0 P.g0 P.R1 P.g1 P.R2 P.g2 (Kd.C_below r3 P.hb) g3 HC7.out HK7.out E4.out).mono ?_); rintro e w23 ⟨rfl, hb⟩; replace P := P.step hb; replace HC7 := Aside0.mk (Kd.C_below HC7.out hb); replace HC8 := Aside0.mk (Kd.C_below HC8.out hb); replace HC9 := Aside0.mk (Kd.C_below HC9.out hb); clear hb x0 x1 x2 x3 x4 x5 x6 x7 x8; obtain ⟨x0, x1, x2, x3, x4, x5, x6, x7, x8⟩ := P.xp)
              | (go_at_call 26; (with_reducible refine (dormouseref09_Spare.calls 2101 A0 c0 l0 A1 c1 l1 A2 c2 l2 idle crit sw swE sems hor _ c3 l A8_ c8_ m8 _ _ P.R0 P.g0 P.R1 P.g1 P.R2 P.g2 (Kd.C_below r3 P.hb) g3 HC8.out HK8.out E2.out).mono ?_); rintro e w24 ⟨rfl, hb⟩; replace P := P.step hb; replace HC7 := Aside0.mk (Kd.C_below HC7.out hb); replace HC8 := Aside0.mk (Kd.C_below HC8.out hb); replace HC9 := Aside0.mk (Kd.C_below HC9.out hb); clear hb x0 x1 x2 x3 x4 x5 x6 x7 x8; obtain ⟨x0, x1, x2, x3, x4, x5, x6, x7, x8⟩ := P.xp)
              | (go_at_call 23; (with_reducible refine (admit_Slowest.calls 2101 A0 c0 l0 A1 c1 l1 A2 c2 l2 idle crit sw swE sems hor _ c3 l _ _ P.R0 P.g0 P.R1 P.g1 P.R2 P.g2 (Kd.C_below r3 P.hb) g3 E6.out).mono ?_); rintro e w25 ⟨rfl, hb⟩; replace P := P.step hb; replace HC7 := Aside0.mk (Kd.C_below HC7.out hb); replace HC8 := Aside0.mk (Kd.C_below HC8.out hb); replace HC9 := Aside0.mk (Kd.C_below HC9.out hb); clear hb x0 x1 x2 x3 x4 x5 x6 x7 x8; obtain ⟨x0, x1, x2, x3, x4, x5, x6, x7, x8⟩ := P.xp))
          clear x0 x1 x2 x3 x4 x5 x6 x7 x8
          go_wp2_with fail
          go_ret
          exact ⟨by simp [dm0], P.hb⟩
end Go.Proofs.Ytonlaboeodddeaa.Law
namespace Go.Proofs.Ytonlaboeodddeaa.admitSpare
open Go.ChangeShapes Go.WideShapes Go.ChangeAt Go.RowKit Go.Proofs.Ytonlaboeodddeaa.Opn
set_option linter.unusedVariables false
theorem own : ownKnob Try.prog.godebug = none := by kernel_rfl
theorem laidOut : laidOutB Try.prog = true := by kernel_rfl
set_option maxRecDepth 100000 in
theorem lifted (os : Os) (started : os.Started) (H : Type) (enc : TypeId × Value → H) :
    ReturnsInHanded {} Try.checked os 10 .any (Rows.admitSpareSpec.pre6 enc Try.prog Try.f10 Rows.admitSpareRow.domain false) (Rows.admitSpareSpec.post enc Try.prog Try.f10 false true false false) := by
  refine returnsInHanded_of_change_sized (C := Try.checked) own started (by kernel_rfl) Try.func10
    (ChangeSpec.witness6 (enc := enc) (C := Try.checked) false ⟨#[], #[.agg #[.slice none 0 0, .slice none 0 0, .slice none 0 0, .int .i64 0, .int .i64 0, .int .i64 0, .int .i64 0, .int .i64 0, .int .i64 0], .slice none 0 0, .slice none 0 0], []⟩ 8 (by kernel_rfl) (by kernel_rfl) (by kernel_rfl) (by kernel_rfl)) ?_
  intro W base args ds gs before hval0 hW hcnd hsz0 _
  have hval : ∀ (j : Nat) t v, Try.f10.params[j]? = some t → args[j]? = some v → Value.okWide Try.prog W .any base t v := hval0
  have hW' := hW
  obtain ⟨p, q, hA0, hV, rfl, hfz, hnd⟩ := hW
  have hA : DataW.TrodAll enc Try.prog W 0 (fun _ => true) true Try.f10.params.toList args.toList ds p := hA0
  rw [Try.params10] at hA hval
  obtain ⟨v0, vs0, d0, ds0, p0, q0, hargs, rfl, rfl, h0, r0⟩ := trodAll_cons hA
  obtain ⟨v1, vs1, d1, ds1, p1, q1, rfl, rfl, rfl, h1, r1⟩ := trodAll_cons r0
  obtain ⟨v2, vs2, d2, ds2, p2, q2, rfl, rfl, rfl, h2, r2⟩ := trodAll_cons r1
  obtain ⟨rfl, rfl, rfl⟩ := trodAll_nil r2
  obtain rfl : args = #[v0, v1, v2] := by cases args; simp_all
  obtain ⟨rfl, rfl⟩ := trodVars_none hV
  have k0 := h0
  have lt0 : ∀ x ∈ p0, x.block < W.heap.size := by obtain ⟨m, hm⟩ := k0; exact DataW.trod_lt m _ _ _ hm
  obtain ⟨x0, g0, ok0⟩ := Opens.get oPlat h0
  obtain ⟨cs0, rfl, e0⟩ := agg_of Try.underlying26 (hval 0 26 v0 rfl rfl)
  rw [e0] at g0
  have k1 := h1
  have lt1 : ∀ x ∈ p1, x.block < W.heap.size := by obtain ⟨m, hm⟩ := k1; exact DataW.trod_lt m _ _ _ hm
  obtain ⟨x1, g1, ok1⟩ := Opens.get oTasks h1
  rw [slice_of Try.underlying31 (hval 1 31 v1 rfl rfl)] at g1
  have k2 := h2
  have lt2 : ∀ x ∈ p2, x.block < W.heap.size := by obtain ⟨m, hm⟩ := k2; exact DataW.trod_lt m _ _ _ hm
  obtain ⟨x2, g2, ok2⟩ := Opens.get Law.oUsed h2
  rw [slice_of Try.underlying45 (hval 2 45 v2 rfl rfl)] at g2
  clear hA0 hval0 hsz0
  refine (Law.spare_walk (w := W) x0 cs0 g0 ok0 x1 v1 g1 ok1 x2 v2 g2 ok2).mono fun e W' ⟨he, bel⟩ => ?_
  subst he
  exact ⟨_, rfl, _, _, _, [], _, [], hW', trodAll_mk1 (shut_bool Try.underlying4 _), (trodAll_cons_mk (Below.trod laidOut (by kernel_rfl) (of_decide_eq_true (by kernel_rfl)) k0 bel lt0) (trodAll_cons_mk (Below.trod laidOut (by kernel_rfl) (of_decide_eq_true (by kernel_rfl)) k1 bel lt1) (trodAll_cons_mk (Below.trod laidOut (by kernel_rfl) (of_decide_eq_true (by kernel_rfl)) k2 bel lt2) trodAll_mk0))), rfl, bel.frame _, fun h => by cases h⟩
theorem over : Rows.admitSpareRow.holds Try.pinned (OpenSpec.ofChange Rows.admitSpareSpec) :=
  OpenClaim.holds_of_wide 10 Try.f10 rfl rfl rfl rfl rfl rfl rfl ⟨rfl, rfl, rfl, rfl, rfl⟩ rfl rfl rfl rfl rfl (by kernel_rfl) Try.func10 (by kernel_rfl)
    (of_decide_eq_true (by kernel_rfl)) (by unfold Func.isWrapper; first | (rw [if_pos (by decide +kernel)]; kernel_rfl) | (rw [if_neg (by decide +kernel)]; exact ⟨rfl, rfl⟩))
    (fun os started H enc _ => lifted os started H enc)
theorem proved : Rows.AdmitSpareSaid := over
end Go.Proofs.Ytonlaboeodddeaa.admitSpare
namespace Go.Proofs.Ytonlaboeodddeaa
/-- The row, under a short name, for the claim. -/
theorem admitSpare_holds : Rows.AdmitSpareSaid := admitSpare.proved
end Go.Proofs.Ytonlaboeodddeaa
