/- The works of sources, if all come at once: the document's are the program's; together they have the demand. -/
import Derived.Test.YtdjmcjfdkcckoaaDr
import Derived.Test.YtdjmcjfdkcckoaaG1
import Derived.Test.YtdjmcjfdkcckoaaG3
namespace Go.Proofs.Ytdjmcjfdkcckoaa.Dm
set_option linter.unusedVariables false
open Go.RowKit Go.Proofs.Ytdjmcjfdkcckoaa.F Go.Proofs.Ytdjmcjfdkcckoaa.Edf Go.Proofs.Ytdjmcjfdkcckoaa.Dem Go.Proofs.YtdjmcjfdkcckoaaW.PrintWords Go.Proofs.YtdjmcjfdkcckoaaW.PrintLast
/-- the m-th work of a source -/
def work (l : List S36) (i m : Nat) : S31 := ⟨m * pe l i, m * pe l i + dl l i, cy l i⟩
def ws1 (l : List S36) (i m : Nat) : List S31 := (List.range m).map (work l i)
def nd (l : List S36) (t : Int) (i : Nat) : Nat := (dueBy (dl l i) (pe l i) t).toNat
def wsAll (l : List S36) (t : Int) : Nat → List S31
  | 0 => []
  | i + 1 => wsAll l t i ++ ws1 l i (nd l t i)
theorem ws1_succ (l : List S36) (i m : Nat) : ws1 l i (m + 1) = ws1 l i m ++ [work l i m] := by
  unfold ws1; rw [List.range_succ, List.map_append]; rfl
theorem ws1_len (l : List S36) (i m : Nat) : (ws1 l i m).length = m := by simp [ws1]
theorem wsAll_succ (l : List S36) (t : Int) (i : Nat) : wsAll l t (i + 1) = wsAll l t i ++ ws1 l i (nd l t i) := rfl
theorem wsAll_mono (l : List S36) (t : Int) : ∀ (d i : Nat), (wsAll l t i).length ≤ (wsAll l t (i + d)).length
  | 0, i => Nat.le_refl _
  | d + 1, i => by
    have := wsAll_mono l t d i
    rw [show i + (d + 1) = i + d + 1 from rfl, wsAll_succ, List.length_append]; omega
noncomputable def worksOf (l : List S36) (t : Int) : List S31 := if rightB l = true then (if (wsAll l t l.length).length ≤ 32 then wsAll l t l.length else []) else []
theorem worksOf_no {l : List S36} (h : ¬ RightL l) (t : Int) : worksOf l t = [] := by unfold worksOf; rw [if_neg (by rw [rightB_no h]; simp)]
theorem worksOf_yes {l : List S36} (h : RightL l) {t : Int} (hn : (wsAll l t l.length).length ≤ 32) : worksOf l t = wsAll l t l.length := by unfold worksOf; rw [if_pos (rightB_yes h), if_pos hn]
theorem worksOf_many {l : List S36} (h : RightL l) {t : Int} (hn : 32 < (wsAll l t l.length).length) : worksOf l t = [] := by unfold worksOf; rw [if_pos (rightB_yes h), if_neg (by omega)]
theorem worksOf_len (l : List S36) (t : Int) : (worksOf l t).length ≤ 32 := by
  unfold worksOf; split
  · split
    · assumption
    · simp
  · simp
theorem nd_cast {l : List S36} (h : RightL l) (t : Int) {i : Nat} (hi : i < l.length) : ((nd l t i : Nat) : Int) = dueBy (dl l i) (pe l i) t := by
  unfold nd; rw [Int.toNat_of_nonneg (due_nonneg (h.per i hi).1)]
theorem nd_iff {l : List S36} (h : RightL l) {t : Int} {i m : Nat} (hi : i < l.length) : m < nd l t i ↔ m * pe l i + dl l i ≤ t := by
  have c := nd_cast h t hi
  have p := h.per i hi
  have n0 : (0 : Int) ≤ m * pe l i := Int.mul_nonneg (by omega) (by omega)
  unfold dueBy at c
  by_cases z : t < dl l i
  · rw [if_pos z] at c; omega
  · rw [if_neg z] at c
    have b := div_bd (a := t - dl l i) p.1
    constructor
    · intro hm
      have := Int.mul_le_mul_of_nonneg_right (a := (m : Int)) (b := (t - dl l i) / pe l i) (c := pe l i) (by omega) (by omega)
      omega
    · intro hm
      have := le_div' (a := t - dl l i) (q := (m : Int)) p.1 (by omega)
      omega
/-! ### the program's -/
theorem count_loop' {l : List S36} (h : RightL l) {t : Int} (ht : t ≤ 2097152) (d : Nat) : ∀ (i k : Nat), i + d = l.length → d < k →
    demand_Works.l0 k l t (wsAll l t i).length l l.length i = if (wsAll l t l.length).length ≤ 32 then demand_Works.l1 (k - (d + 1)) t ([] : List S31) l l.length 0 else some [] := by
  have lb : ∀ i, i ≤ l.length → (wsAll l t i).length ≤ i * 2097153 := by
    intro i
    induction i with
    | zero => intro _; simp [wsAll]
    | succ i ih =>
      intro hi
      have ih := ih (by omega)
      have c := nd_cast h t (show i < l.length by omega)
      have b := due_bd (t := t) (h.per i (by omega)).1 (h.dead i (by omega)).1
      rw [wsAll_succ, List.length_append, ws1_len]; omega
  induction d with
  | zero =>
    intro i k hi hk
    obtain ⟨k, rfl⟩ : ∃ q, k = q + 1 := ⟨k - 1, by omega⟩
    obtain rfl : i = l.length := by omega
    simp only [demand_Works.l0]
    rw [if_neg (by omega)]
    by_cases z : (wsAll l t l.length).length ≤ 32
    · rw [if_neg (by omega), if_pos z]; rfl
    · rw [if_pos (by omega), if_neg z]
  | succ d ih =>
    intro i k hi hk
    obtain ⟨k, rfl⟩ : ∃ q, k = q + 1 := ⟨k - 1, by omega⟩
    have f := h.few
    have e1 : (rd_T36 l i).f0 = cy l i := rfl
    have e2 : (rd_T36 l i).f1 = pe l i := rfl
    have e3 : (rd_T36 l i).f2 = dl l i := rfl
    have lb1 := lb i (by omega)
    have b := due_bd (t := t) (h.per i (by omega)).1 (h.dead i (by omega)).1
    simp only [demand_Works.l0]
    rw [if_pos (by omega), if_pos (by omega), if_pos (by omega), e1, e2, e3, due_some (h.per i (by omega)).1 (h.dead i (by omega)).1 (by omega), Option.bind_some, w64 (n := (i : Int) + 1) (by omega) (by omega), w64 (by omega) (by omega), ← nd_cast h t (by omega)]
    have ih := ih (i + 1) k (by omega) (by omega)
    rw [show ((i + 1 : Nat) : Int) = (i : Int) + 1 from by omega, wsAll_succ, List.length_append, ws1_len, show (((wsAll l t i).length + nd l t i : Nat) : Int) = ((wsAll l t i).length : Int) + (nd l t i : Int) from by omega] at ih
    rw [show k + 1 - (d + 1 + 1) = k - (d + 1) from by omega]
    exact ih
theorem build_in {l : List S36} (h : RightL l) {t : Int} (ht : t ≤ 2097152) {i : Nat} (hi : i < l.length) (acc : List S31) (hl : acc.length + nd l t i ≤ 32) (d : Nat) : ∀ (k m : Nat), m + d = nd l t i → d < k →
    demand_Works.l2 k t (acc ++ ws1 l i m) l l.length i (nd l t i) m (cy l i) (pe l i) (dl l i) = demand_Works.l1 (k - (d + 1)) t (acc ++ ws1 l i (nd l t i)) l l.length ((i : Int) + 1) := by
  have f := h.few
  have p := h.per i hi
  have q := h.dead i hi
  induction d with
  | zero =>
    intro k m hm hk
    obtain ⟨k, rfl⟩ : ∃ q, k = q + 1 := ⟨k - 1, by omega⟩
    obtain rfl : m = nd l t i := by omega
    simp only [demand_Works.l2]
    rw [if_neg (by omega), w64 (n := (i : Int) + 1) (by omega) (by omega)]; rfl
  | succ d ih =>
    intro k m hm hk
    obtain ⟨k, rfl⟩ : ∃ q, k = q + 1 := ⟨k - 1, by omega⟩
    have hle := (nd_iff h hi (t := t) (m := m)).1 (by omega)
    have n0 : (0 : Int) ≤ m * pe l i := Int.mul_nonneg (by omega) (by omega)
    simp only [demand_Works.l2]
    rw [if_pos (by omega), if_pos (by rw [List.length_append, ws1_len]; omega), w64 (n := (m : Int) * pe l i) (by omega) (by omega), w64 (n := (m : Int) * pe l i + dl l i) (by omega) (by omega), w64 (n := (m : Int) + 1) (by omega) (by omega)]
    have ih := ih k (m + 1) (by omega) (by omega)
    rw [ws1_succ, ← List.append_assoc, show ((m + 1 : Nat) : Int) = (m : Int) + 1 from by omega] at ih
    rw [show k + 1 - (d + 1 + 1) = k - (d + 1) from by omega]
    exact ih
theorem build_loop {l : List S36} (h : RightL l) {t : Int} (ht : t ≤ 2097152) (hn : (wsAll l t l.length).length ≤ 32) (d : Nat) : ∀ (i k : Nat), i + d = l.length → 40 * d < k →
    demand_Works.l1 k t (wsAll l t i) l l.length i = some (wsAll l t l.length) := by
  induction d with
  | zero =>
    intro i k hi hk
    obtain ⟨k, rfl⟩ : ∃ q, k = q + 1 := ⟨k - 1, by omega⟩
    obtain rfl : i = l.length := by omega
    simp only [demand_Works.l1]
    rw [if_neg (by omega)]
  | succ d ih =>
    intro i k hi hk
    obtain ⟨k, rfl⟩ : ∃ q, k = q + 1 := ⟨k - 1, by omega⟩
    have f := h.few
    have e1 : (rd_T36 l i).f0 = cy l i := rfl
    have e2 : (rd_T36 l i).f1 = pe l i := rfl
    have e3 : (rd_T36 l i).f2 = dl l i := rfl
    have mono := wsAll_mono l t d (i + 1)
    rw [show i + 1 + d = l.length from by omega, wsAll_succ, List.length_append, ws1_len] at mono
    simp only [demand_Works.l1]
    rw [if_pos (by omega), if_pos (by omega), if_pos (by omega), e1, e2, e3, due_some (h.per i (by omega)).1 (h.dead i (by omega)).1 (by omega), Option.bind_some, ← nd_cast h t (by omega)]
    have e := build_in h ht (show i < l.length by omega) (wsAll l t i) (by omega) (nd l t i) k 0 (by omega) (by omega)
    rw [show ws1 l i 0 = [] from rfl, List.append_nil, show ((0 : Nat) : Int) = 0 from rfl, ← wsAll_succ] at e
    rw [e]
    have ih := ih (i + 1) (k - (nd l t i + 1)) (by omega) (by omega)
    rw [show ((i + 1 : Nat) : Int) = (i : Int) + 1 from by omega] at ih
    exact ih
theorem works_some (l : List S36) {t : Int} (ht : t ≤ 2097152) {k : Nat} (hk : 400 < k) : demand_Works.f k l t = some (worksOf l t) := by
  unfold demand_Works.f
  rw [right_some l (by omega), Option.bind_some]
  by_cases c : RightL l
  · have f := c.few
    rw [if_pos (rightB_yes c)]
    have e := count_loop' c ht l.length 0 k (by omega) (by omega)
    rw [show (((wsAll l t 0).length : Nat) : Int) = 0 from rfl, show ((0 : Nat) : Int) = 0 from rfl] at e
    rw [e]
    by_cases z : (wsAll l t l.length).length ≤ 32
    · rw [if_pos z, worksOf_yes c z]
      exact build_loop c ht z l.length 0 _ (by omega) (by omega)
    · rw [if_neg z, worksOf_many c (by omega)]
  · rw [if_neg (by rw [rightB_no c]; simp), worksOf_no c]
/-! ### the document's -/
theorem rbuild_in {l : List S36} (h : RightL l) {t : Int} (ht : t ≤ 2097152) {i : Nat} (hi : i < l.length) (K : Nat)
    (next : ∀ k : Nat, K ≤ k → (wsAll l t (i + 1)).length ≤ 32 → dormouseref28_Works.l0 k l t (wsAll l t (i + 1)) ((i : Int) + 1) = some (worksOf l t)) (e : Nat) :
    ∀ (k m : Nat), m ≤ nd l t i → (wsAll l t i).length + m ≤ 32 → 33 ≤ (wsAll l t i).length + m + e → K + e < k →
    dormouseref28_Works.l1 k l t (wsAll l t i ++ ws1 l i m) i (m * pe l i) = some (worksOf l t) := by
  have f := h.few
  have p := h.per i hi
  have q := h.dead i hi
  induction e with
  | zero => intro k m _ h1 h2; omega
  | succ e ih =>
    intro k m hm h1 h2 hk
    obtain ⟨k, rfl⟩ : ∃ q, k = q + 1 := ⟨k - 1, by omega⟩
    have e1 : (rd_T36 l i).f0 = cy l i := rfl
    have e2 : (rd_T36 l i).f1 = pe l i := rfl
    have e3 : (rd_T36 l i).f2 = dl l i := rfl
    have n0 : (0 : Int) ≤ m * pe l i := Int.mul_nonneg (by omega) (by omega)
    have n1 : (m : Int) * pe l i ≤ 32 * 16384 := Int.mul_le_mul (by omega) p.2 (by omega) (by omega)
    simp only [dormouseref28_Works.l1]
    rw [if_pos (by omega), if_pos (by omega), e1, e2, e3, w64 (n := (m : Int) * pe l i + dl l i) (by omega) (by omega)]
    by_cases c : (m : Int) * pe l i + dl l i ≤ t
    · have hlt := (nd_iff h hi).2 c
      rw [if_pos c, if_pos (by rw [List.length_append, ws1_len]; omega), Option.bind_some]
      rw [show (⟨(m : Int) * pe l i, (m : Int) * pe l i + dl l i, cy l i⟩ : S31) = work l i m from rfl, List.append_assoc, ← ws1_succ]
      by_cases z : (((wsAll l t i ++ ws1 l i (m + 1)).length : Nat) : Int) > 32
      · rw [if_pos z]
        rw [List.length_append, ws1_len] at z
        have mono := wsAll_mono l t (l.length - (i + 1)) (i + 1)
        rw [show i + 1 + (l.length - (i + 1)) = l.length from by omega, wsAll_succ, List.length_append, ws1_len] at mono
        rw [worksOf_many h (by omega)]
      · rw [if_neg z]
        rw [List.length_append, ws1_len] at z
        have em := mul_succ' m (pe l i)
        rw [w64 (n := (m : Int) * pe l i + pe l i) (by omega) (by omega), ← em]
        exact ih k (m + 1) (by omega) (by omega) (by omega) (by omega)
    · rw [if_neg c, w64 (n := (i : Int) + 1) (by omega) (by omega)]
      have : m = nd l t i := by
        rcases Nat.lt_or_ge m (nd l t i) with x | x
        · exact absurd ((nd_iff h hi).1 x) c
        · omega
      rw [this, ← wsAll_succ]
      exact next k (by omega) (by rw [wsAll_succ, List.length_append, ws1_len]; omega)
theorem rbuild_loop {l : List S36} (h : RightL l) {t : Int} (ht : t ≤ 2097152) (d : Nat) : ∀ (i k : Nat), i + d = l.length → 40 * d + 30 ≤ k → (wsAll l t i).length ≤ 32 →
    dormouseref28_Works.l0 k l t (wsAll l t i) i = some (worksOf l t) := by
  induction d with
  | zero =>
    intro i k hi hk hn
    obtain ⟨k, rfl⟩ : ∃ q, k = q + 1 := ⟨k - 1, by omega⟩
    obtain ⟨k, rfl⟩ : ∃ q, k = q + 1 := ⟨k - 1, by omega⟩
    obtain rfl : i = l.length := by omega
    simp only [dormouseref28_Works.l0, dormouseref28_Works.j1]
    rw [if_neg (by omega), if_neg (by simp), worksOf_yes h hn]
  | succ d ih =>
    intro i k hi hk hn
    obtain ⟨k, rfl⟩ : ∃ q, k = q + 1 := ⟨k - 1, by omega⟩
    obtain ⟨k, rfl⟩ : ∃ q, k = q + 1 := ⟨k - 1, by omega⟩
    have f := h.few
    simp only [dormouseref28_Works.l0]
    rw [if_pos (by omega), rright_some l (by omega), Option.bind_some]
    simp only [dormouseref28_Works.j1]
    rw [if_pos (rightB_yes h)]
    have e := rbuild_in h ht (show i < l.length by omega) (40 * d + 30) (fun k hk hn => by
      have := ih (i + 1) k (by omega) hk hn
      rw [show ((i + 1 : Nat) : Int) = (i : Int) + 1 from by omega] at this
      exact this) 33 k 0 (by omega) (by omega) (by omega) (by omega)
    rw [show ws1 l i 0 = [] from rfl, List.append_nil, show ((0 : Nat) : Int) * pe l i = 0 from by simp] at e
    exact e
theorem rworks_some (l : List S36) {t : Int} (ht : t ≤ 2097152) {k : Nat} (hk : 400 < k) : dormouseref28_Works.f k l t = some (worksOf l t) := by
  unfold dormouseref28_Works.f
  by_cases c : RightL l
  · have f := c.few
    exact rbuild_loop c ht l.length 0 k (by omega) (by omega) (by simp [wsAll])
  · obtain ⟨k, rfl⟩ : ∃ q, k = q + 1 := ⟨k - 1, by omega⟩
    obtain ⟨k, rfl⟩ : ∃ q, k = q + 1 := ⟨k - 1, by omega⟩
    simp only [dormouseref28_Works.l0]
    rw [rright_some l (by omega), worksOf_no c]
    split
    · rw [Option.bind_some]; simp only [dormouseref28_Works.j1]; rw [if_neg (by rw [rightB_no c]; simp)]
    · simp only [dormouseref28_Works.j1]; rw [if_neg (by simp)]
theorem same_loop (a : List S31) (hn : a.length ≤ 1000) (d : Nat) : ∀ (i k : Nat), i + d = a.length → d < k → dormouselaw28_sameWorks.l0 k a a i = some true := by
  induction d with
  | zero =>
    intro i k hi hk
    obtain ⟨k, rfl⟩ : ∃ q, k = q + 1 := ⟨k - 1, by omega⟩
    simp only [dormouselaw28_sameWorks.l0]
    rw [if_neg (by omega)]
  | succ d ih =>
    intro i k hi hk
    obtain ⟨k, rfl⟩ : ∃ q, k = q + 1 := ⟨k - 1, by omega⟩
    simp only [dormouselaw28_sameWorks.l0]
    rw [if_pos (by omega), if_pos (by omega), if_pos (by omega), if_neg (by simp), w64 (n := (i : Int) + 1) (by omega) (by omega)]
    have := ih (i + 1) k (by omega) (by omega)
    rw [show ((i + 1 : Nat) : Int) = (i : Int) + 1 from by omega] at this
    exact this
theorem same_some (a : List S31) (hn : a.length ≤ 1000) {k : Nat} (hk : 1001 < k) : dormouselaw28_sameWorks.f k a a = some true := by
  unfold dormouselaw28_sameWorks.f
  rw [if_pos rfl]
  exact same_loop a hn a.length 0 k (by omega) (by omega)
/-! ### together they have the demand -/
def cycles (a : List S31) : Int := (a.map (·.f2)).sum
theorem cycles_append (a b : List S31) : cycles (a ++ b) = cycles a + cycles b := by simp [cycles]
theorem cycles_ws1 (l : List S36) (i : Nat) : ∀ m : Nat, cycles (ws1 l i m) = m * cy l i
  | 0 => by simp [ws1, cycles]
  | m + 1 => by
    rw [ws1_succ, cycles_append, cycles_ws1 l i m]
    have : cycles [work l i m] = cy l i := by simp [cycles, work]
    rw [this, mul_succ']
theorem cycles_all {l : List S36} (h : RightL l) (t : Int) : ∀ i, i ≤ l.length → cycles (wsAll l t i) = sm i (fun i => dueBy (dl l i) (pe l i) t * cy l i)
  | 0, _ => rfl
  | i + 1, hi => by
    rw [wsAll_succ, cycles_append, cycles_ws1, cycles_all h t i (by omega), nd_cast h t (by omega)]; rfl
theorem works_demand {l : List S36} {t : Int} (hne : worksOf l t ≠ []) : cycles (worksOf l t) = dem l t := by
  by_cases c : RightL l
  · by_cases z : (wsAll l t l.length).length ≤ 32
    · rw [worksOf_yes c z, dem_yes c, cycles_all c t _ (Nat.le_refl _)]; rfl
    · exact absurd (worksOf_many c (by omega)) hne
  · exact absurd (worksOf_no c t) hne
/-- the works lie within their time -/
theorem ws1_in {l : List S36} (h : RightL l) {t : Int} {i : Nat} (hi : i < l.length) {x : S31} (hx : x ∈ ws1 l i (nd l t i)) : 0 ≤ x.f0 ∧ x.f0 + 1 ≤ x.f1 ∧ x.f1 ≤ t ∧ 0 ≤ x.f2 ∧ x.f2 ≤ 4096 := by
  unfold ws1 at hx
  obtain ⟨m, hm, rfl⟩ := List.mem_map.1 hx
  have hm := List.mem_range.1 hm
  have := (nd_iff h hi).1 hm
  have p := h.per i hi; have q := h.dead i hi; have c := h.cyc i hi
  have n0 : (0 : Int) ≤ m * pe l i := Int.mul_nonneg (by omega) (by omega)
  unfold work
  simp only []
  omega
theorem wsAll_in {l : List S36} (h : RightL l) {t : Int} {x : S31} : ∀ i, i ≤ l.length → x ∈ wsAll l t i → 0 ≤ x.f0 ∧ x.f0 + 1 ≤ x.f1 ∧ x.f1 ≤ t ∧ 0 ≤ x.f2 ∧ x.f2 ≤ 4096
  | 0, _, hx => by simp [wsAll] at hx
  | i + 1, hi, hx => by
    rw [wsAll_succ, List.mem_append] at hx
    rcases hx with hx | hx
    · exact wsAll_in h i (by omega) hx
    · exact ws1_in h (by omega) hx
theorem works_in {l : List S36} {t : Int} {x : S31} (hx : x ∈ worksOf l t) : 0 ≤ x.f0 ∧ x.f0 + 1 ≤ x.f1 ∧ x.f1 ≤ t ∧ 0 ≤ x.f2 ∧ x.f2 ≤ 4096 := by
  by_cases c : RightL l
  · by_cases z : (wsAll l t l.length).length ≤ 32
    · rw [worksOf_yes c z] at hx; exact wsAll_in c _ (Nat.le_refl _) hx
    · rw [worksOf_many c (by omega)] at hx; cases hx
  · rw [worksOf_no c] at hx; cases hx
end Go.Proofs.Ytdjmcjfdkcckoaa.Dm
