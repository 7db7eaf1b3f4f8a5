/- How much sources ask for: demand's functions and the document's, as plain mathematics over the told functions. -/
import Derived.Test.YtdjmcjfdkcckoaaDem
import Derived.Test.YtdjmcjfdkcckoaaG0
namespace Go.Proofs.Ytdjmcjfdkcckoaa.Dm
open Go.RowKit Go.Proofs.Ytdjmcjfdkcckoaa.F Go.Proofs.Ytdjmcjfdkcckoaa.Edf Go.Proofs.Ytdjmcjfdkcckoaa.Dem Go.Proofs.YtdjmcjfdkcckoaaW.PrintWords Go.Proofs.YtdjmcjfdkcckoaaW.PrintLast
theorem w64 {n : Int} (h0 : -9223372036854775808 ≤ n) (h1 : n ≤ 9223372036854775807) : wrap64 n = n := by unfold wrap64; omega
def cy (l : List S36) (i : Nat) : Int := (rd_T36 l i).f0
def pe (l : List S36) (i : Nat) : Int := (rd_T36 l i).f1
def dl (l : List S36) (i : Nat) : Int := (rd_T36 l i).f2
structure RightL (l : List S36) : Prop where
  few : l.length ≤ 8
  cyc : ∀ i : Nat, i < l.length → 0 ≤ cy l i ∧ cy l i ≤ 4096
  per : ∀ i : Nat, i < l.length → 1 ≤ pe l i ∧ pe l i ≤ 16384
  dead : ∀ i : Nat, i < l.length → 1 ≤ dl l i ∧ dl l i ≤ 16384
open Classical in
noncomputable def rightB (l : List S36) : Bool := decide (RightL l)
theorem rightB_no {l : List S36} (h : ¬ RightL l) : rightB l = false := by simp [rightB, h]
theorem rightB_yes {l : List S36} (h : RightL l) : rightB l = true := by simp [rightB, h]
theorem RightL.ok {l : List S36} (h : RightL l) : Ok l.length (cy l) (pe l) (dl l) := ⟨fun i hi => by have := h.cyc i hi; omega, h.per, h.dead⟩
theorem within_some (a b c : Int) : demand_within.f a b c = some (decide (b ≤ a ∧ a ≤ c)) := by
  unfold demand_within.f
  by_cases h : a ≥ b
  · rw [if_pos h]; simp; intro h2; omega
  · rw [if_neg h]; simp; omega
theorem right_loop (l : List S36) (h8 : l.length ≤ 8) : ∀ (d i k : Nat), i + d = l.length → d < k → (∀ j : Nat, j < i → (0 ≤ cy l j ∧ cy l j ≤ 4096) ∧ (1 ≤ pe l j ∧ pe l j ≤ 16384) ∧ (1 ≤ dl l j ∧ dl l j ≤ 16384)) →
    demand_right.l0 k l l.length i = some (rightB l)
  | 0, i, k, hi, hk, hj => by
    obtain ⟨k, rfl⟩ : ∃ q, k = q + 1 := ⟨k - 1, by omega⟩
    simp only [demand_right.l0]
    rw [if_neg (by omega), rightB_yes ⟨h8, fun j h => (hj j (by omega)).1, fun j h => (hj j (by omega)).2.1, fun j h => (hj j (by omega)).2.2⟩]
  | d + 1, i, k, hi, hk, hj => by
    obtain ⟨k, rfl⟩ : ∃ q, k = q + 1 := ⟨k - 1, by omega⟩
    simp only [demand_right.l0]
    rw [if_pos (by omega), if_pos (by omega), if_pos (by omega), within_some, Option.bind_some]
    have e1 : (rd_T36 l i).f0 = cy l i := rfl
    have e2 : (rd_T36 l i).f1 = pe l i := rfl
    have e3 : (rd_T36 l i).f2 = dl l i := rfl
    rw [e1]
    by_cases c1 : 0 ≤ cy l i ∧ cy l i ≤ 4096
    · rw [if_pos (decide_eq_true c1), within_some, Option.bind_some, e2]
      by_cases c2 : 1 ≤ pe l i ∧ pe l i ≤ 16384
      · rw [if_pos (decide_eq_true c2), within_some, Option.bind_some, e3]
        by_cases c3 : 1 ≤ dl l i ∧ dl l i ≤ 16384
        · rw [if_pos (decide_eq_true c3), w64 (n := (i : Int) + 1) (by omega) (by omega)]
          have := right_loop l h8 d (i + 1) k (by omega) (by omega) (fun j h => by
            rcases Nat.lt_or_ge j i with h | h
            · exact hj j h
            · obtain rfl : j = i := by omega
              exact ⟨c1, c2, c3⟩)
          rw [show ((i + 1 : Nat) : Int) = (i : Int) + 1 from by omega] at this
          exact this
        · rw [if_neg (by simpa using c3), rightB_no (fun x => c3 (x.dead i (by omega)))]
      · rw [if_neg (by simpa using c2), rightB_no (fun x => c2 (x.per i (by omega)))]
    · rw [if_neg (by simpa using c1), rightB_no (fun x => c1 (x.cyc i (by omega)))]
theorem right_some (l : List S36) {k : Nat} (hk : 9 < k) : demand_right.f k l = some (rightB l) := by
  unfold demand_right.f
  by_cases c : (l.length : Int) > 8
  · rw [if_pos c, rightB_no (fun x => by have := x.few; omega)]
  · rw [if_neg c]
    have := right_loop l (by omega) l.length 0 k (by omega) (by omega) (fun j h => by omega)
    rw [show ((0 : Nat) : Int) = 0 from rfl] at this
    exact this
theorem rright_loop (l : List S36) (h8 : l.length ≤ 8) : ∀ (d i k : Nat), i + d = l.length → d < k → (∀ j : Nat, j < i → (0 ≤ cy l j ∧ cy l j ≤ 4096) ∧ (1 ≤ pe l j ∧ pe l j ≤ 16384) ∧ (1 ≤ dl l j ∧ dl l j ≤ 16384)) →
    dormouseref28_Right.l0 k l i = some (rightB l)
  | 0, i, k, hi, hk, hj => by
    obtain ⟨k, rfl⟩ : ∃ q, k = q + 1 := ⟨k - 1, by omega⟩
    simp only [dormouseref28_Right.l0]
    rw [if_neg (by omega), rightB_yes ⟨h8, fun j h => (hj j (by omega)).1, fun j h => (hj j (by omega)).2.1, fun j h => (hj j (by omega)).2.2⟩]
  | d + 1, i, k, hi, hk, hj => by
    obtain ⟨k, rfl⟩ : ∃ q, k = q + 1 := ⟨k - 1, by omega⟩
    simp only [dormouseref28_Right.l0]
    have e1 : (rd_T36 l i).f0 = cy l i := rfl
    have e2 : (rd_T36 l i).f1 = pe l i := rfl
    have e3 : (rd_T36 l i).f2 = dl l i := rfl
    rw [if_pos (by omega), if_pos (by omega), e1, e2, e3]
    by_cases c1 : cy l i < 0
    · rw [if_pos c1, rightB_no (fun x => by have := x.cyc i (by omega); omega)]
    rw [if_neg c1]
    by_cases c2 : cy l i > 4096
    · rw [if_pos c2, rightB_no (fun x => by have := x.cyc i (by omega); omega)]
    rw [if_neg c2]
    by_cases c3 : pe l i < 1
    · rw [if_pos c3, rightB_no (fun x => by have := x.per i (by omega); omega)]
    rw [if_neg c3]
    by_cases c4 : pe l i > 16384
    · rw [if_pos c4, rightB_no (fun x => by have := x.per i (by omega); omega)]
    rw [if_neg c4]
    by_cases c5 : dl l i < 1
    · rw [if_pos c5, rightB_no (fun x => by have := x.dead i (by omega); omega)]
    rw [if_neg c5]
    by_cases c6 : dl l i > 16384
    · rw [if_pos c6, rightB_no (fun x => by have := x.dead i (by omega); omega)]
    rw [if_neg c6, w64 (n := (i : Int) + 1) (by omega) (by omega)]
    have := rright_loop l h8 d (i + 1) k (by omega) (by omega) (fun j h => by
      rcases Nat.lt_or_ge j i with h | h
      · exact hj j h
      · obtain rfl : j = i := by omega
        omega)
    rw [show ((i + 1 : Nat) : Int) = (i : Int) + 1 from by omega] at this
    exact this
theorem rright_some (l : List S36) {k : Nat} (hk : 9 < k) : dormouseref28_Right.f k l = some (rightB l) := by
  unfold dormouseref28_Right.f
  by_cases c : (l.length : Int) > 8
  · rw [if_pos c, rightB_no (fun x => by have := x.few; omega)]
  · rw [if_neg c]
    have := rright_loop l (by omega) l.length 0 k (by omega) (by omega) (fun j h => by omega)
    rw [show ((0 : Nat) : Int) = 0 from rfl] at this
    exact this
/-! ### the demand -/
theorem due_some {c T D t : Int} (hT : 1 ≤ T) (hD : 1 ≤ D) (ht : t ≤ 9223372036854775807) : demand_due.f c T D t = some (dueBy D T t) := by
  unfold demand_due.f dueBy
  by_cases h : t < D
  · rw [if_pos h, if_pos h]
  · rw [if_neg h, if_neg h, if_neg (by omega), w64 (n := t - D) (by omega) (by omega), Int.tdiv_eq_ediv_of_nonneg (by omega)]
    have a := Int.ediv_nonneg (show 0 ≤ t - D by omega) (show 0 ≤ T by omega)
    have b := Int.ediv_le_self T (show 0 ≤ t - D by omega)
    rw [w64 (n := (t - D) / T) (by omega) (by omega), w64 (by omega) (by omega)]
theorem due_bd {D T t : Int} (hT : 1 ≤ T) (hD : 1 ≤ D) : 0 ≤ dueBy D T t ∧ (dueBy D T t ≤ t ∨ dueBy D T t = 0) := by
  refine ⟨due_nonneg hT, ?_⟩
  unfold dueBy
  by_cases h : t < D
  · rw [if_pos h]; exact .inr rfl
  · rw [if_neg h]
    have b := Int.ediv_le_self T (show 0 ≤ t - D by omega)
    left; omega
theorem sm_bd {f : Nat → Int} {B : Int} : ∀ {n : Nat}, (∀ i, i < n → 0 ≤ f i ∧ f i ≤ B) → 0 ≤ sm n f ∧ sm n f ≤ n * B
  | 0, _ => by simp [sm]
  | n + 1, h => by
    have a := sm_bd (n := n) (fun i hi => h i (by omega))
    have b := h n (by omega)
    have e : ((n + 1 : Nat) : Int) * B = n * B + B := by rw [show ((n + 1 : Nat) : Int) = (n : Int) + 1 from by omega, Int.add_mul]; omega
    show 0 ≤ sm n f + f n ∧ sm n f + f n ≤ _
    omega
theorem dterm_bd {l : List S36} (h : RightL l) {t : Int} (ht : t ≤ 2097152) {i : Nat} (hi : i < l.length) : 0 ≤ dueBy (dl l i) (pe l i) t * cy l i ∧ dueBy (dl l i) (pe l i) t * cy l i ≤ 8589934592 := by
  have a := due_bd (t := t) (h.per i hi).1 (h.dead i hi).1
  have c := h.cyc i hi
  have m1 := Int.mul_nonneg a.1 c.1
  have m2 : dueBy (dl l i) (pe l i) t * cy l i ≤ 2097152 * 4096 := Int.mul_le_mul (by omega) c.2 c.1 (by omega)
  omega
theorem demand_bd {l : List S36} (h : RightL l) {t : Int} (ht : t ≤ 2097152) {n : Nat} (hn : n ≤ l.length) : 0 ≤ sm n (fun i => dueBy (dl l i) (pe l i) t * cy l i) ∧ sm n (fun i => dueBy (dl l i) (pe l i) t * cy l i) ≤ 68719476736 := by
  have a := sm_bd (f := fun i => dueBy (dl l i) (pe l i) t * cy l i) (B := 8589934592) (n := n) (fun i hi => dterm_bd h ht (by omega))
  have := h.few
  have b : (n : Int) * 8589934592 ≤ 8 * 8589934592 := Int.mul_le_mul_of_nonneg_right (by omega) (by omega)
  omega
theorem demand_loop {l : List S36} (h : RightL l) {t : Int} (ht : t ≤ 2097152) : ∀ (d i k : Nat), i + d = l.length → d < k →
    demand_Demand.l0 k t (sm i (fun i => dueBy (dl l i) (pe l i) t * cy l i)) l l.length i = some (demand l.length (cy l) (pe l) (dl l) t)
  | 0, i, k, hi, hk => by
    obtain ⟨k, rfl⟩ : ∃ q, k = q + 1 := ⟨k - 1, by omega⟩
    obtain rfl : i = l.length := by omega
    simp only [demand_Demand.l0]
    rw [if_neg (by omega)]; rfl
  | d + 1, i, k, hi, hk => by
    obtain ⟨k, rfl⟩ : ∃ q, k = q + 1 := ⟨k - 1, by omega⟩
    have f := h.few
    simp only [demand_Demand.l0]
    have e1 : (rd_T36 l i).f0 = cy l i := rfl
    have e2 : (rd_T36 l i).f1 = pe l i := rfl
    have e3 : (rd_T36 l i).f2 = dl l i := rfl
    rw [if_pos (by omega), if_pos (by omega), if_pos (by omega), e1, e2, e3, due_some (h.per i (by omega)).1 (h.dead i (by omega)).1 (by omega), Option.bind_some]
    have a := dterm_bd h ht (show i < l.length by omega)
    have b := demand_bd h ht (show i ≤ l.length by omega)
    rw [w64 (n := dueBy (dl l i) (pe l i) t * cy l i) (by omega) (by omega), w64 (n := sm i (fun i => dueBy (dl l i) (pe l i) t * cy l i) + dueBy (dl l i) (pe l i) t * cy l i) (by omega) (by omega), w64 (n := (i : Int) + 1) (by omega) (by omega)]
    have ih := demand_loop h ht d (i + 1) k (by omega) (by omega)
    rw [show ((i + 1 : Nat) : Int) = (i : Int) + 1 from by omega] at ih
    exact ih
noncomputable def dem (l : List S36) (t : Int) : Int := if rightB l = true then demand l.length (cy l) (pe l) (dl l) t else 0
theorem dem_yes {l : List S36} (h : RightL l) (t : Int) : dem l t = demand l.length (cy l) (pe l) (dl l) t := by unfold dem; rw [if_pos (rightB_yes h)]
theorem demand_some (l : List S36) {t : Int} (ht : t ≤ 2097152) {k : Nat} (hk : 20 < k) : demand_Demand.f k l t = some (dem l t) := by
  unfold demand_Demand.f dem
  rw [right_some l (by omega), Option.bind_some]
  by_cases c : RightL l
  · rw [if_pos (rightB_yes c), if_pos (rightB_yes c)]
    have := demand_loop c ht l.length 0 k (by omega) (by have := c.few; omega)
    exact this
  · rw [if_neg (by rw [rightB_no c]; simp), if_neg (by rw [rightB_no c]; simp)]
/-! ### how long the CPU may be busy -/
theorem aterm_bd {l : List S36} (h : RightL l) {t : Int} (h0 : 0 ≤ t) (ht : t ≤ 2097152) {i : Nat} (hi : i < l.length) : 0 ≤ came (pe l i) t ∧ came (pe l i) t ≤ 4194304 ∧ 0 ≤ came (pe l i) t * cy l i ∧ came (pe l i) t * cy l i ≤ 17179869184 := by
  have a := came_nonneg (h.per i hi).1 h0
  have p := h.per i hi
  have b : came (pe l i) t ≤ t + pe l i - 1 := Int.ediv_le_self _ (by omega)
  have c := h.cyc i hi
  have m1 := Int.mul_nonneg a c.1
  have m2 : came (pe l i) t * cy l i ≤ 4194304 * 4096 := Int.mul_le_mul (by omega) c.2 c.1 (by omega)
  omega
theorem asked_bd {l : List S36} (h : RightL l) {t : Int} (h0 : 0 ≤ t) (ht : t ≤ 2097152) {n : Nat} (hn : n ≤ l.length) : 0 ≤ sm n (fun i => came (pe l i) t * cy l i) ∧ sm n (fun i => came (pe l i) t * cy l i) ≤ 137438953472 := by
  have a := sm_bd (f := fun i => came (pe l i) t * cy l i) (B := 17179869184) (n := n) (fun i hi => (aterm_bd h h0 ht (by omega)).2.2)
  have := h.few
  have b : (n : Int) * 17179869184 ≤ 8 * 17179869184 := Int.mul_le_mul_of_nonneg_right (by omega) (by omega)
  omega
theorem asked_loop {l : List S36} (h : RightL l) {t : Int} (h0 : 0 ≤ t) (ht : t ≤ 2097152) : ∀ (d i k : Nat), i + d = l.length → d < k →
    demand_asked.l0 k t (sm i (fun i => came (pe l i) t * cy l i)) l l.length i = some (asked l.length (cy l) (pe l) t)
  | 0, i, k, hi, hk => by
    obtain ⟨k, rfl⟩ : ∃ q, k = q + 1 := ⟨k - 1, by omega⟩
    obtain rfl : i = l.length := by omega
    simp only [demand_asked.l0]
    rw [if_neg (by omega)]; rfl
  | d + 1, i, k, hi, hk => by
    obtain ⟨k, rfl⟩ : ∃ q, k = q + 1 := ⟨k - 1, by omega⟩
    have f := h.few
    have p := h.per i (by omega)
    simp only [demand_asked.l0]
    have e1 : (rd_T36 l i).f0 = cy l i := rfl
    have e2 : (rd_T36 l i).f1 = pe l i := rfl
    have a := aterm_bd h h0 ht (show i < l.length by omega)
    have b := asked_bd h h0 ht (show i ≤ l.length by omega)
    rw [if_pos (by omega), if_pos (by omega), if_pos (by omega), e1, e2, if_neg (by omega), w64 (n := t + pe l i) (by omega) (by omega), w64 (n := t + pe l i - 1) (by omega) (by omega), Int.tdiv_eq_ediv_of_nonneg (by omega)]
    rw [show (t + pe l i - 1) / pe l i = came (pe l i) t from rfl, w64 (n := came (pe l i) t) (by omega) (by omega), w64 (n := came (pe l i) t * cy l i) (by omega) (by omega), w64 (n := sm i (fun i => came (pe l i) t * cy l i) + came (pe l i) t * cy l i) (by omega) (by omega), w64 (n := (i : Int) + 1) (by omega) (by omega)]
    have ih := asked_loop h h0 ht d (i + 1) k (by omega) (by omega)
    rw [show ((i + 1 : Nat) : Int) = (i : Int) + 1 from by omega] at ih
    exact ih
theorem asked_some {l : List S36} (h : RightL l) {t : Int} (h0 : 0 ≤ t) (ht : t ≤ 2097152) {k : Nat} (hk : 10 < k) : demand_asked.f k l t = some (asked l.length (cy l) (pe l) t) := by
  unfold demand_asked.f
  exact asked_loop h h0 ht l.length 0 k (by omega) (by have := h.few; omega)
noncomputable def busyOf (l : List S36) : Int := Classical.choose (busy_some (cy l) (pe l) l.length)
theorem busyOf_is (l : List S36) : IsBusy l.length (cy l) (pe l) (busyOf l) := Classical.choose_spec (busy_some (cy l) (pe l) l.length)
theorem busyOf_eq {l : List S36} {b : Int} (h : IsBusy l.length (cy l) (pe l) b) : b = busyOf l := busy_unique h (busyOf_is l)
theorem busyOf_bd (l : List S36) : 0 ≤ busyOf l ∧ busyOf l ≤ 16384 := by have := (busyOf_is l).at_it; omega
noncomputable def bus (l : List S36) : Int := if rightB l = true then busyOf l else 0
theorem bus_bd (l : List S36) : 0 ≤ bus l ∧ bus l ≤ 16384 := by have := busyOf_bd l; unfold bus; split <;> omega
theorem bus_yes {l : List S36} (h : RightL l) : bus l = busyOf l := by unfold bus; rw [if_pos (rightB_yes h)]
theorem bus_no {l : List S36} (h : ¬ RightL l) : bus l = 0 := by unfold bus; rw [if_neg (by rw [rightB_no h]; simp)]
theorem busy_loop {l : List S36} (h : RightL l) : ∀ (d k : Nat) (t : Int), 1 ≤ t → t ≤ 137438953472 → 16384 < t + d → 12 + d < k → (∀ s : Int, 1 ≤ s → s < t → s < asked l.length (cy l) (pe l) s) →
    demand_Busy.l0 k l t = some (busyOf l)
  | 0, k, t, h1, h2, hd, hk, hb => by
    obtain ⟨k, rfl⟩ : ∃ q, k = q + 1 := ⟨k - 1, by omega⟩
    simp only [demand_Busy.l0]
    rw [if_neg (by omega), ← busyOf_eq (b := 0) ⟨fun s h1 h2 => hb s h1 (by omega), .inl rfl⟩]
  | d + 1, k, t, h1, h2, hd, hk, hb => by
    obtain ⟨k, rfl⟩ : ∃ q, k = q + 1 := ⟨k - 1, by omega⟩
    simp only [demand_Busy.l0]
    by_cases c : t ≤ 16384
    · rw [if_pos c, asked_some h (by omega) (by omega) (by omega), Option.bind_some]
      by_cases c2 : asked l.length (cy l) (pe l) t ≤ t
      · rw [if_pos c2, ← busyOf_eq (b := t) ⟨fun s h1 h2 => hb s h1 (by omega), .inr ⟨h1, c, c2⟩⟩]
      · rw [if_neg c2]
        have ab := asked_bd h (t := t) (by omega) (by omega) (Nat.le_refl _)
        refine busy_loop h d k _ (by omega) ab.2 (by omega) (by omega) fun s hs1 hs2 => ?_
        rcases Int.lt_or_le s t with x | x
        · exact hb s hs1 x
        · have := asked_mono h.ok (s := t) (t := s) x
          omega
    · rw [if_neg c, ← busyOf_eq (b := 0) ⟨fun s h1 h2 => hb s h1 (by omega), .inl rfl⟩]
theorem busy_some' (l : List S36) {k : Nat} (hk : 16500 < k) : demand_Busy.f k l = some (bus l) := by
  unfold demand_Busy.f
  rw [right_some l (by omega), Option.bind_some]
  by_cases c : RightL l
  · rw [if_pos (rightB_yes c), bus_yes c]
    exact busy_loop c 16384 k 1 (by omega) (by omega) (by omega) (by omega) (fun s h1 h2 => by omega)
  · rw [if_neg (by rw [rightB_no c]; simp), bus_no c]
/-! ### do they fit -/
def FitsL (l : List S36) : Prop := RightL l ∧ FitsP l.length (cy l) (pe l) (dl l)
open Classical in
noncomputable def fitsB (l : List S36) : Bool := decide (FitsL l)
theorem fitsB_no {l : List S36} (h : ¬ FitsL l) : fitsB l = false := by simp [fitsB, h]
theorem fitsB_yes {l : List S36} (h : FitsL l) : fitsB l = true := by simp [fitsB, h]
theorem fitsB_iff {l : List S36} : fitsB l = true ↔ FitsL l := by simp [fitsB]
/-- they fit just if no deadline asks for too much -/
theorem fits_iff {l : List S36} (h : RightL l) (hb : 1 ≤ busyOf l) : FitsL l ↔ ∀ i, i < l.length → ∀ m : Nat, dl l i + m * pe l i ≤ busyOf l → demand l.length (cy l) (pe l) (dl l) (dl l i + m * pe l i) ≤ dl l i + m * pe l i := by
  constructor
  · rintro ⟨_, b, hb1, h1, hd⟩ i hi m hm
    rw [busyOf_eq hb1] at hd
    have p := h.per i hi; have q := h.dead i hi
    have : 0 ≤ (m : Int) * pe l i := Int.mul_nonneg (by omega) (by omega)
    exact hd _ (by omega) hm
  · intro hd
    refine ⟨h, busyOf l, busyOf_is l, hb, fun t h1 h2 => ?_⟩
    have := fits_at_deadlines h.ok (b := busyOf l) hd t.toNat (by omega)
    rw [show (t.toNat : Int) = t from by omega] at this
    exact this
theorem mul_le_of {m j : Nat} {p : Int} (hp : 1 ≤ p) (h : m ≤ j) : (m : Int) * p ≤ (j : Int) * p := Int.mul_le_mul_of_nonneg_right (by omega) (by omega)
theorem mul_succ' (m : Nat) (p : Int) : ((m + 1 : Nat) : Int) * p = m * p + p := by rw [show ((m + 1 : Nat) : Int) = (m : Int) + 1 from by omega, Int.add_mul]; omega
theorem fits_inner {l : List S36} (h : RightL l) (hb : 1 ≤ busyOf l) (i : Nat) (hi : i < l.length) (K : Nat) (hK : 30 ≤ K)
    (next : ∀ k : Nat, K ≤ k → (∀ m : Nat, dl l i + m * pe l i ≤ busyOf l → demand l.length (cy l) (pe l) (dl l) (dl l i + m * pe l i) ≤ dl l i + m * pe l i) → demand_Fits.l0 k l (busyOf l) l l.length ((i : Int) + 1) = some (fitsB l)) (d : Nat) :
    ∀ (k m : Nat), busyOf l < dl l i + m * pe l i + d → K + d < k → (∀ j : Nat, j < m → demand l.length (cy l) (pe l) (dl l) (dl l i + j * pe l i) ≤ dl l i + j * pe l i) →
    dl l i + m * pe l i ≤ 40000 → demand_Fits.l1 k l (busyOf l) (dl l i + m * pe l i) l l.length i (cy l i) (pe l i) (dl l i) = some (fitsB l) := by
  have f := h.few
  have p := h.per i hi
  have bb := busyOf_bd l
  have out : ∀ (k m : Nat), K ≤ k → dl l i + m * pe l i > busyOf l → (∀ j : Nat, j < m → demand l.length (cy l) (pe l) (dl l) (dl l i + j * pe l i) ≤ dl l i + j * pe l i) → demand_Fits.l0 k l (busyOf l) l l.length (wrap64 ((i : Int) + 1)) = some (fitsB l) := by
    intro k m hk hm hj
    rw [w64 (n := (i : Int) + 1) (by omega) (by omega)]
    refine next k hk fun j hjb => hj j ?_
    rcases Nat.lt_or_ge j m with x | x
    · exact x
    · exfalso
      have := mul_le_of p.1 x
      omega
  induction d with
  | zero =>
    intro k m hd hk hm ht
    obtain ⟨k, rfl⟩ : ∃ q, k = q + 1 := ⟨k - 1, by omega⟩
    simp only [demand_Fits.l1]
    rw [if_pos (by omega)]
    exact out k m (by omega) (by omega) hm
  | succ d ih =>
    intro k m hd hk hm ht
    obtain ⟨k, rfl⟩ : ∃ q, k = q + 1 := ⟨k - 1, by omega⟩
    simp only [demand_Fits.l1]
    by_cases c : dl l i + m * pe l i > busyOf l
    · rw [if_pos c]
      exact out k m (by omega) c hm
    · rw [if_neg c, demand_some l (by omega) (by omega), Option.bind_some, dem_yes h]
      by_cases c2 : demand l.length (cy l) (pe l) (dl l) (dl l i + m * pe l i) > dl l i + m * pe l i
      · rw [if_pos c2, fitsB_no fun x => by have := (fits_iff h hb).1 x i hi m (by omega); omega]
      · have em := mul_succ' m (pe l i)
        have n0 : 0 ≤ (m : Int) * pe l i := Int.mul_nonneg (by omega) (by omega)
        have q0 := h.dead i hi
        rw [if_neg c2, w64 (n := dl l i + m * pe l i + pe l i) (by omega) (by omega)]
        have ih := ih k (m + 1) (by omega) (by omega) (fun j hj => by
          rcases Nat.lt_or_ge j m with x | x
          · exact hm j x
          · obtain rfl : j = m := by omega
            omega) (by omega)
        rw [em, ← Int.add_assoc] at ih
        exact ih
theorem fits_loop {l : List S36} (h : RightL l) (hb : 1 ≤ busyOf l) (d : Nat) : ∀ (i k : Nat), i + d = l.length → d * 16400 + 17000 ≤ k → (∀ j, j < i → ∀ m : Nat, dl l j + m * pe l j ≤ busyOf l → demand l.length (cy l) (pe l) (dl l) (dl l j + m * pe l j) ≤ dl l j + m * pe l j) →
    demand_Fits.l0 k l (busyOf l) l l.length i = some (fitsB l) := by
  induction d with
  | zero =>
    intro i k hi hk hj
    obtain ⟨k, rfl⟩ : ∃ q, k = q + 1 := ⟨k - 1, by omega⟩
    simp only [demand_Fits.l0]
    rw [if_neg (by omega), fitsB_yes ((fits_iff h hb).2 fun j h => hj j (by omega))]
  | succ d ih =>
    intro i k hi hk hj
    obtain ⟨k, rfl⟩ : ∃ q, k = q + 1 := ⟨k - 1, by omega⟩
    have q := h.dead i (by omega)
    have bb := busyOf_bd l
    have ih := fits_inner h hb i (by omega) (d * 16400 + 17000) (by omega) (fun k hk hm => by
      have := ih (i + 1) k (by omega) hk (fun j h => by
        rcases Nat.lt_or_ge j i with x | x
        · exact hj j x
        · obtain rfl : j = i := by omega
          exact hm)
      rw [show ((i + 1 : Nat) : Int) = (i : Int) + 1 from by omega] at this
      exact this) 16384 k 0 (by omega) (by omega) (fun j h => by omega) (by omega)
    simp only [demand_Fits.l0]
    rw [if_pos (by omega), if_pos (by omega), if_pos (by omega)]
    rw [show ((0 : Nat) : Int) * pe l i = 0 from by simp, Int.add_zero] at ih
    exact ih
theorem fits_some (l : List S36) {k : Nat} (hk : 160000 < k) : demand_Fits.f k l = some (fitsB l) := by
  unfold demand_Fits.f
  rw [busy_some' l (by omega), Option.bind_some]
  have bb := busyOf_bd l
  by_cases c : RightL l
  · rw [bus_yes c]
    by_cases z : busyOf l = 0
    · rw [if_pos z, fitsB_no]
      rintro ⟨_, b, hb, h1, _⟩
      have := busyOf_eq hb; omega
    · rw [if_neg z]
      have f := c.few
      have := fits_loop c (by omega) l.length 0 k (by omega) (by omega) (fun j h => by omega)
      exact this
  · rw [if_pos (bus_no c), fitsB_no (fun x => c x.1)]
end Go.Proofs.Ytdjmcjfdkcckoaa.Dm
