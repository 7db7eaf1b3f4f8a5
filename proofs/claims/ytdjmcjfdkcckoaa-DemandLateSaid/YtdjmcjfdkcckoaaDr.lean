/- The document's demand, busy time, answer whether sources fit, and works, are the program's. -/
import Derived.Test.YtdjmcjfdkcckoaaDm
import Derived.Test.YtdjmcjfdkcckoaaG2
namespace Go.Proofs.Ytdjmcjfdkcckoaa.Dm
open Go.RowKit Go.Proofs.Ytdjmcjfdkcckoaa.F Go.Proofs.Ytdjmcjfdkcckoaa.Edf Go.Proofs.Ytdjmcjfdkcckoaa.Dem Go.Proofs.YtdjmcjfdkcckoaaW.PrintWords Go.Proofs.YtdjmcjfdkcckoaaW.PrintLast
theorem count_loop {c T D t : Int} (hT : 1 ≤ T) (hT2 : T ≤ 16384) (hD : 1 ≤ D) (hD2 : D ≤ 16384) (ht : t ≤ 2097152) (d : Nat) : ∀ (k m : Nat), t < D + m * T + d → d < k → (m = 0 ∨ D + (m - 1) * T ≤ t) →
    dormouseref28_Count.l0 k t m (D + m * T) c T D = some (dueBy D T t) := by
  have fin : ∀ m : Nat, t < D + m * T → (m = 0 ∨ D + (m - 1) * T ≤ t) → (m : Int) = dueBy D T t := by
    intro m h1 h2
    unfold dueBy
    by_cases z : m = 0
    · subst z; rw [if_pos (by simpa using h1)]; rfl
    · have h2 := h2.resolve_left z
      have nn : 0 ≤ ((m : Int) - 1) * T := Int.mul_nonneg (by omega) (by omega)
      rw [if_neg (by omega)]
      have e : (t - D) / T = (m : Int) - 1 := div_uni hT (by omega) (by rw [show (m : Int) - 1 + 1 = m from by omega]; omega)
      omega
  induction d with
  | zero =>
    intro k m h1 hk h2
    obtain ⟨k, rfl⟩ : ∃ q, k = q + 1 := ⟨k - 1, by omega⟩
    simp only [dormouseref28_Count.l0]
    rw [if_neg (by omega), fin m (by omega) h2]
  | succ d ih =>
    intro k m h1 hk h2
    obtain ⟨k, rfl⟩ : ∃ q, k = q + 1 := ⟨k - 1, by omega⟩
    simp only [dormouseref28_Count.l0]
    by_cases c1 : D + m * T ≤ t
    · have em := mul_succ' m T
      have n0 : (0 : Int) ≤ m * T := Int.mul_nonneg (by omega) (by omega)
      have hm : (m : Int) ≤ m * T := by have := Int.mul_le_mul_of_nonneg_left (a := 1) (b := T) (c := (m : Int)) hT (by omega); omega
      rw [if_pos c1, w64 (n := (m : Int) + 1) (by omega) (by omega), w64 (n := D + m * T + T) (by omega) (by omega)]
      have ih := ih k (m + 1) (by omega) (by omega) (.inr (by rw [show ((m + 1 : Nat) : Int) - 1 = (m : Int) from by omega]; exact c1))
      rw [em, ← Int.add_assoc, show ((m + 1 : Nat) : Int) = (m : Int) + 1 from by omega] at ih
      exact ih
    · rw [if_neg c1, fin m (by omega) h2]
theorem count_some {c T D t : Int} (hT : 1 ≤ T) (hT2 : T ≤ 16384) (hD : 1 ≤ D) (hD2 : D ≤ 16384) (ht : t ≤ 2097152) {k : Nat} (hk : 2097160 < k) : dormouseref28_Count.f k c T D t = some (dueBy D T t) := by
  unfold dormouseref28_Count.f
  have := count_loop (c := c) hT hT2 hD hD2 ht t.toNat k 0 (by simp; omega) (by omega) (.inl rfl)
  rw [show D + ((0 : Nat) : Int) * T = D from by simp] at this
  exact this
theorem rdemand_loop {l : List S36} (h : RightL l) {t : Int} (ht : t ≤ 2097152) (d : Nat) : ∀ (i k : Nat), i + d = l.length → 2097170 + d < k →
    dormouseref28_Demand.l0 k l t (sm i (fun i => dueBy (dl l i) (pe l i) t * cy l i)) i = some (demand l.length (cy l) (pe l) (dl l) t) := by
  induction d with
  | zero =>
    intro i k hi hk
    obtain ⟨k, rfl⟩ : ∃ q, k = q + 1 := ⟨k - 1, by omega⟩
    obtain rfl : i = l.length := by omega
    simp only [dormouseref28_Demand.l0]
    rw [if_neg (by omega)]; rfl
  | succ d ih =>
    intro i k hi hk
    obtain ⟨k, rfl⟩ : ∃ q, k = q + 1 := ⟨k - 1, by omega⟩
    have f := h.few
    simp only [dormouseref28_Demand.l0]
    have e1 : (rd_T36 l i).f0 = cy l i := rfl
    have e2 : (rd_T36 l i).f1 = pe l i := rfl
    have e3 : (rd_T36 l i).f2 = dl l i := rfl
    have p := h.per i (by omega); have q := h.dead i (by omega)
    rw [if_pos (by omega), rright_some l (by omega), Option.bind_some, if_pos (rightB_yes h), if_pos (by omega), e1, e2, e3, count_some p.1 p.2 q.1 q.2 ht (by omega), Option.bind_some]
    have a := dterm_bd h ht (show i < l.length by omega)
    have b := demand_bd h ht (show i ≤ l.length by omega)
    rw [w64 (n := dueBy (dl l i) (pe l i) t * cy l i) (by omega) (by omega), w64 (n := sm i (fun i => dueBy (dl l i) (pe l i) t * cy l i) + dueBy (dl l i) (pe l i) t * cy l i) (by omega) (by omega), w64 (n := (i : Int) + 1) (by omega) (by omega)]
    have ih := ih (i + 1) k (by omega) (by omega)
    rw [show ((i + 1 : Nat) : Int) = (i : Int) + 1 from by omega] at ih
    exact ih
theorem rdemand_some (l : List S36) {t : Int} (ht : t ≤ 2097152) {k : Nat} (hk : 2097190 < k) : dormouseref28_Demand.f k l t = some (dem l t) := by
  unfold dormouseref28_Demand.f dem
  by_cases c : RightL l
  · rw [if_pos (rightB_yes c)]
    have := rdemand_loop c ht l.length 0 k (by omega) (by have := c.few; omega)
    exact this
  · rw [if_neg (by rw [rightB_no c]; simp)]
    obtain ⟨k, rfl⟩ : ∃ q, k = q + 1 := ⟨k - 1, by omega⟩
    simp only [dormouseref28_Demand.l0]
    by_cases z : (0 : Int) < (l.length : Int)
    · rw [if_pos z, rright_some l (by omega), Option.bind_some, if_neg (by rw [rightB_no c]; simp)]
    · rw [if_neg z]
/-! ### busy -/
/-- what came, when the works of the first i sources at one more moment are counted -/
def came1 (l : List S36) (t : Int) (i : Nat) : Int := asked l.length (cy l) (pe l) (t - 1) + (sm i (fun j => came (pe l j) t * cy l j) - sm i (fun j => came (pe l j) (t - 1) * cy l j))
theorem rbusy_in {l : List S36} (h : RightL l) {t : Int} (h1 : 1 ≤ t) (h2 : t ≤ 16384) (d : Nat) : ∀ (i k : Nat), i + d = l.length → d < k →
    dormouseref28_Busy.l1 k l (came1 l t i) t i = if asked l.length (cy l) (pe l) t ≤ t then some t else dormouseref28_Busy.l0 (k - (d + 1)) l (asked l.length (cy l) (pe l) t) (t + 1) := by
  induction d with
  | zero =>
    intro i k hi hk
    obtain ⟨k, rfl⟩ : ∃ q, k = q + 1 := ⟨k - 1, by omega⟩
    obtain rfl : i = l.length := by omega
    simp only [dormouseref28_Busy.l1]
    have e : came1 l t l.length = asked l.length (cy l) (pe l) t := by
      have : asked l.length (cy l) (pe l) (t - 1) = sm l.length (fun j => came (pe l j) (t - 1) * cy l j) := rfl
      have : asked l.length (cy l) (pe l) t = sm l.length (fun j => came (pe l j) t * cy l j) := rfl
      unfold came1; omega
    rw [if_neg (by omega), e, w64 (n := t + 1) (by omega) (by omega)]; rfl
  | succ d ih =>
    intro i k hi hk
    obtain ⟨k, rfl⟩ : ∃ q, k = q + 1 := ⟨k - 1, by omega⟩
    have f := h.few
    have p := h.per i (by omega)
    have c := h.cyc i (by omega)
    have e1 : (rd_T36 l i).f0 = cy l i := rfl
    have e2 : (rd_T36 l i).f1 = pe l i := rfl
    have b1 := asked_bd h (t := t) (by omega) (by omega) (show i ≤ l.length by omega)
    have b2 := asked_bd h (t := t - 1) (by omega) (by omega) (show i ≤ l.length by omega)
    have b3 := asked_bd h (t := t - 1) (by omega) (by omega) (Nat.le_refl l.length)
    have b4 : asked l.length (cy l) (pe l) (t - 1) = sm l.length (fun j => came (pe l j) (t - 1) * cy l j) := rfl
    have st := came_step (T := pe l i) (t := t - 1) p.1
    rw [show t - 1 + 1 = t from by omega] at st
    have nx : came1 l t (i + 1) = came1 l t i + (came (pe l i) t * cy l i - came (pe l i) (t - 1) * cy l i) := by
      have x1 : sm (i + 1) (fun j => came (pe l j) t * cy l j) = sm i (fun j => came (pe l j) t * cy l j) + came (pe l i) t * cy l i := rfl
      have x2 : sm (i + 1) (fun j => came (pe l j) (t - 1) * cy l j) = sm i (fun j => came (pe l j) (t - 1) * cy l j) + came (pe l i) (t - 1) * cy l i := rfl
      unfold came1; omega
    simp only [dormouseref28_Busy.l1]
    rw [if_pos (by omega), if_pos (by omega), e1, e2, if_neg (by omega), w64 (n := t - 1) (by omega) (by omega), w64 (n := (i : Int) + 1) (by omega) (by omega), Int.tmod_eq_emod_of_nonneg (by omega)]
    have ih := ih (i + 1) k (by omega) (by omega)
    rw [show ((i + 1 : Nat) : Int) = (i : Int) + 1 from by omega, nx] at ih
    rw [show k + 1 - (d + 1 + 1) = k - (d + 1) from by omega]
    have bc : -200000000000 ≤ came1 l t i ∧ came1 l t i ≤ 300000000000 := by unfold came1; omega
    by_cases z : (t - 1) % pe l i = 0
    · rw [if_pos z] at st
      rw [if_pos z, w64 (n := came1 l t i + cy l i) (by omega) (by omega)]
      rw [st, Int.add_mul, Int.one_mul] at ih
      rw [show came (pe l i) (t - 1) * cy l i + cy l i - came (pe l i) (t - 1) * cy l i = cy l i from by omega] at ih
      exact ih
    · rw [if_neg z] at st
      rw [if_neg z]
      rw [st, Int.add_zero, Int.sub_self, Int.add_zero] at ih
      exact ih
theorem rbusy_loop {l : List S36} (h : RightL l) (d : Nat) : ∀ (k : Nat) (t : Int), 1 ≤ t → t ≤ 16385 → t + d = 16385 → 20 + 12 * d < k → (∀ s : Int, 1 ≤ s → s < t → s < asked l.length (cy l) (pe l) s) →
    dormouseref28_Busy.l0 k l (asked l.length (cy l) (pe l) (t - 1)) t = some (busyOf l) := by
  induction d with
  | zero =>
    intro k t h1 h2 hd hk hb
    obtain ⟨k, rfl⟩ : ∃ q, k = q + 1 := ⟨k - 1, by omega⟩
    obtain ⟨k, rfl⟩ : ∃ q, k = q + 1 := ⟨k - 1, by omega⟩
    simp only [dormouseref28_Busy.l0, dormouseref28_Busy.j1]
    rw [if_neg (by omega), if_neg (by simp), ← busyOf_eq (b := 0) ⟨fun s h1 h2 => hb s h1 (by omega), .inl rfl⟩]
  | succ d ih =>
    intro k t h1 h2 hd hk hb
    obtain ⟨k, rfl⟩ : ∃ q, k = q + 1 := ⟨k - 1, by omega⟩
    obtain ⟨k, rfl⟩ : ∃ q, k = q + 1 := ⟨k - 1, by omega⟩
    have f := h.few
    simp only [dormouseref28_Busy.l0]
    rw [if_pos (by omega), rright_some l (by omega), Option.bind_some]
    simp only [dormouseref28_Busy.j1]
    rw [if_pos (rightB_yes h)]
    have e := rbusy_in h h1 (by omega) l.length 0 k (by omega) (by omega)
    rw [show came1 l t 0 = asked l.length (cy l) (pe l) (t - 1) from by unfold came1; show _ + ((0 : Int) - 0) = _; omega, show ((0 : Nat) : Int) = 0 from rfl] at e
    rw [e]
    by_cases c2 : asked l.length (cy l) (pe l) t ≤ t
    · rw [if_pos c2, ← busyOf_eq (b := t) ⟨fun s h1 h2 => hb s h1 (by omega), .inr ⟨h1, by omega, c2⟩⟩]
    · rw [if_neg c2]
      have ih := ih (k - (l.length + 1)) (t + 1) (by omega) (by omega) (by omega) (by omega) (fun s hs1 hs2 => by
        rcases Int.lt_or_le s t with x | x
        · exact hb s hs1 x
        · obtain rfl : s = t := by omega
          omega)
      rw [show t + 1 - 1 = t from by omega] at ih
      exact ih
theorem rbusy_some (l : List S36) {k : Nat} (hk : 200000 < k) : dormouseref28_Busy.f k l = some (bus l) := by
  unfold dormouseref28_Busy.f
  by_cases c : RightL l
  · rw [bus_yes c]
    have := rbusy_loop c 16384 k 1 (by omega) (by omega) (by omega) (by omega) (fun s h1 h2 => by omega)
    have z : asked l.length (cy l) (pe l) (1 - 1) = 0 := sm_nul fun i hi => by
      show came (pe l i) (1 - 1) * cy l i = 0
      rw [show (1 : Int) - 1 = 0 from rfl, came_zero (c.per i hi).1, Int.zero_mul]
    rw [z] at this
    exact this
  · obtain ⟨k, rfl⟩ : ∃ q, k = q + 1 := ⟨k - 1, by omega⟩
    obtain ⟨k, rfl⟩ : ∃ q, k = q + 1 := ⟨k - 1, by omega⟩
    simp only [dormouseref28_Busy.l0]
    rw [if_pos (by omega), rright_some l (by omega), Option.bind_some]
    simp only [dormouseref28_Busy.j1]
    rw [if_neg (by rw [rightB_no c]; simp), bus_no c]
/-! ### fits -/
def due1 (l : List S36) (t : Int) (i : Nat) : Int := demand l.length (cy l) (pe l) (dl l) (t - 1) + (sm i (fun j => dueBy (dl l j) (pe l j) t * cy l j) - sm i (fun j => dueBy (dl l j) (pe l j) (t - 1) * cy l j))
theorem rfits_in {l : List S36} (h : RightL l) {b t : Int} (h1 : 1 ≤ t) (h2 : t ≤ 16384) (d : Nat) : ∀ (i k : Nat), i + d = l.length → d < k →
    dormouseref28_Fits.l1 k l b (due1 l t i) t i = if demand l.length (cy l) (pe l) (dl l) t > t then some false else dormouseref28_Fits.l0 (k - (d + 1)) l b (demand l.length (cy l) (pe l) (dl l) t) (t + 1) := by
  induction d with
  | zero =>
    intro i k hi hk
    obtain ⟨k, rfl⟩ : ∃ q, k = q + 1 := ⟨k - 1, by omega⟩
    obtain rfl : i = l.length := by omega
    simp only [dormouseref28_Fits.l1]
    have e : due1 l t l.length = demand l.length (cy l) (pe l) (dl l) t := by
      have : demand l.length (cy l) (pe l) (dl l) (t - 1) = sm l.length (fun j => dueBy (dl l j) (pe l j) (t - 1) * cy l j) := rfl
      have : demand l.length (cy l) (pe l) (dl l) t = sm l.length (fun j => dueBy (dl l j) (pe l j) t * cy l j) := rfl
      unfold due1; omega
    rw [if_neg (by omega), e, w64 (n := t + 1) (by omega) (by omega)]; rfl
  | succ d ih =>
    intro i k hi hk
    obtain ⟨k, rfl⟩ : ∃ q, k = q + 1 := ⟨k - 1, by omega⟩
    have f := h.few
    have p := h.per i (by omega)
    have q := h.dead i (by omega)
    have c := h.cyc i (by omega)
    have e1 : (rd_T36 l i).f0 = cy l i := rfl
    have e2 : (rd_T36 l i).f1 = pe l i := rfl
    have e3 : (rd_T36 l i).f2 = dl l i := rfl
    have b1 := demand_bd h (t := t) (by omega) (show i ≤ l.length by omega)
    have b2 := demand_bd h (t := t - 1) (by omega) (show i ≤ l.length by omega)
    have b3 := demand_bd h (t := t - 1) (by omega) (Nat.le_refl l.length)
    have b4 : demand l.length (cy l) (pe l) (dl l) (t - 1) = sm l.length (fun j => dueBy (dl l j) (pe l j) (t - 1) * cy l j) := rfl
    have st := due_step (D := dl l i) (T := pe l i) (t := t - 1) p.1
    rw [show t - 1 + 1 = t from by omega] at st
    have nx : due1 l t (i + 1) = due1 l t i + (dueBy (dl l i) (pe l i) t * cy l i - dueBy (dl l i) (pe l i) (t - 1) * cy l i) := by
      have x1 : sm (i + 1) (fun j => dueBy (dl l j) (pe l j) t * cy l j) = sm i (fun j => dueBy (dl l j) (pe l j) t * cy l j) + dueBy (dl l i) (pe l i) t * cy l i := rfl
      have x2 : sm (i + 1) (fun j => dueBy (dl l j) (pe l j) (t - 1) * cy l j) = sm i (fun j => dueBy (dl l j) (pe l j) (t - 1) * cy l j) + dueBy (dl l i) (pe l i) (t - 1) * cy l i := rfl
      unfold due1; omega
    have bc : -200000000000 ≤ due1 l t i ∧ due1 l t i ≤ 300000000000 := by unfold due1; omega
    simp only [dormouseref28_Fits.l1]
    rw [if_pos (by omega), if_pos (by omega), e1, e2, e3, w64 (n := (i : Int) + 1) (by omega) (by omega)]
    have ih := ih (i + 1) k (by omega) (by omega)
    rw [show ((i + 1 : Nat) : Int) = (i : Int) + 1 from by omega, nx] at ih
    rw [show k + 1 - (d + 1 + 1) = k - (d + 1) from by omega]
    have same : dueBy (dl l i) (pe l i) t = dueBy (dl l i) (pe l i) (t - 1) → dormouseref28_Fits.l1 k l b (due1 l t i) t ((i : Int) + 1) = if demand l.length (cy l) (pe l) (dl l) t > t then some false else dormouseref28_Fits.l0 (k - (d + 1)) l b (demand l.length (cy l) (pe l) (dl l) t) (t + 1) := by
      intro e
      rw [e, Int.sub_self, Int.add_zero] at ih
      exact ih
    by_cases g : t ≥ dl l i
    · rw [if_pos g, if_neg (by omega), w64 (n := t - dl l i) (by omega) (by omega), Int.tmod_eq_emod_of_nonneg (by omega)]
      by_cases z : (t - dl l i) % pe l i = 0
      · rw [if_pos ⟨g, z⟩] at st
        rw [if_pos z, w64 (n := due1 l t i + cy l i) (by omega) (by omega)]
        rw [st, Int.add_mul, Int.one_mul] at ih
        rw [show dueBy (dl l i) (pe l i) (t - 1) * cy l i + cy l i - dueBy (dl l i) (pe l i) (t - 1) * cy l i = cy l i from by omega] at ih
        exact ih
      · rw [if_neg (fun x => z x.2), Int.add_zero] at st
        rw [if_neg z]
        exact same st
    · rw [if_neg (fun x => g x.1), Int.add_zero] at st
      rw [if_neg g]
      exact same st
theorem rfits_loop {l : List S36} (h : RightL l) (hb : 1 ≤ busyOf l) (d : Nat) : ∀ (k : Nat) (t : Int), 1 ≤ t → t ≤ busyOf l + 1 → t + d = busyOf l + 1 → 20 + 12 * d < k → (∀ s : Int, 1 ≤ s → s < t → demand l.length (cy l) (pe l) (dl l) s ≤ s) →
    dormouseref28_Fits.l0 k l (busyOf l) (demand l.length (cy l) (pe l) (dl l) (t - 1)) t = some (fitsB l) := by
  induction d with
  | zero =>
    intro k t h1 h2 hd hk hm
    obtain ⟨k, rfl⟩ : ∃ q, k = q + 1 := ⟨k - 1, by omega⟩
    simp only [dormouseref28_Fits.l0]
    rw [if_neg (by omega), fitsB_yes ⟨h, busyOf l, busyOf_is l, hb, fun s a b => hm s a (by omega)⟩, decide_eq_true (by omega)]
  | succ d ih =>
    intro k t h1 h2 hd hk hm
    obtain ⟨k, rfl⟩ : ∃ q, k = q + 1 := ⟨k - 1, by omega⟩
    have f := h.few
    have bb := busyOf_bd l
    simp only [dormouseref28_Fits.l0]
    rw [if_pos (by omega)]
    have e := rfits_in (b := busyOf l) h h1 (by omega) l.length 0 k (by omega) (by omega)
    rw [show due1 l t 0 = demand l.length (cy l) (pe l) (dl l) (t - 1) from by unfold due1; show _ + ((0 : Int) - 0) = _; omega, show ((0 : Nat) : Int) = 0 from rfl] at e
    rw [e]
    by_cases c2 : demand l.length (cy l) (pe l) (dl l) t > t
    · rw [if_pos c2, fitsB_no]
      rintro ⟨_, b, hb1, _, hd2⟩
      have := hd2 t h1 (by rw [busyOf_eq hb1]; omega)
      omega
    · rw [if_neg c2]
      have ih := ih (k - (l.length + 1)) (t + 1) (by omega) (by omega) (by omega) (by omega) (fun s hs1 hs2 => by
        rcases Int.lt_or_le s t with x | x
        · exact hm s hs1 x
        · obtain rfl : s = t := by omega
          omega)
      rw [show t + 1 - 1 = t from by omega] at ih
      exact ih
theorem rfits_some (l : List S36) {k : Nat} (hk : 200100 < k) : dormouseref28_Fits.f k l = some (fitsB l) := by
  unfold dormouseref28_Fits.f
  rw [rbusy_some l (by omega), Option.bind_some]
  have bb := busyOf_bd l
  have none : bus l = 0 → dormouseref28_Fits.l0 k l (bus l) 0 1 = some false := by
    intro e
    obtain ⟨k, rfl⟩ : ∃ q, k = q + 1 := ⟨k - 1, by omega⟩
    simp only [dormouseref28_Fits.l0]
    rw [e, if_neg (by omega)]; rfl
  by_cases c : RightL l
  · by_cases z : busyOf l = 0
    · rw [none (by rw [bus_yes c]; exact z), fitsB_no]
      rintro ⟨_, b, hb, h1, _⟩
      have := busyOf_eq hb; omega
    · rw [bus_yes c]
      have := rfits_loop c (by omega) (busyOf l).toNat k 1 (by omega) (by omega) (by omega) (by omega) (fun s h1 h2 => by omega)
      have e : demand l.length (cy l) (pe l) (dl l) (1 - 1) = 0 := sm_nul fun i hi => by
        show dueBy (dl l i) (pe l i) (1 - 1) * cy l i = 0
        rw [due_zero (by have := (c.dead i hi).1; omega), Int.zero_mul]
      rw [e] at this
      exact this
  · rw [none (bus_no c), fitsB_no (fun x => c x.1)]
end Go.Proofs.Ytdjmcjfdkcckoaa.Dm
