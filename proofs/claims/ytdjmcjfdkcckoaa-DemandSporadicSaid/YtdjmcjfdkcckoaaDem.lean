/- How much sources ask for, as plain mathematics: n sources of cycles C, periods T, deadlines D. -/
import Derived.Test.YtdjmcjfdkcckoaaEdf
namespace Go.Proofs.Ytdjmcjfdkcckoaa.Dem
set_option linter.unusedVariables false
open Go.Proofs.Ytdjmcjfdkcckoaa.Edf

/-- how many works of a source have their deadlines up to t -/
def dueBy (D T t : Int) : Int := if t < D then 0 else (t - D) / T + 1
/-- how many come ahead of t -/
def came (T t : Int) : Int := (t + T - 1) / T
def asked (n : Nat) (C T : Nat → Int) (t : Int) : Int := sm n (fun i => came (T i) t * C i)
def demand (n : Nat) (C T D : Nat → Int) (t : Int) : Int := sm n (fun i => dueBy (D i) (T i) t * C i)

theorem div_lt' {a T q : Int} (hT : 1 ≤ T) (h : a < (q + 1) * T) : a / T ≤ q := by
  have := Int.ediv_lt_of_lt_mul (show 0 < T by omega) h; omega
theorem le_div' {a T q : Int} (hT : 1 ≤ T) (h : q * T ≤ a) : q ≤ a / T := Int.le_ediv_of_mul_le (by omega) h
theorem div_bd {a T : Int} (hT : 1 ≤ T) : a / T * T ≤ a ∧ a < (a / T + 1) * T := by
  have h1 := Int.ediv_mul_le a (show T ≠ 0 by omega)
  have h2 := Int.lt_ediv_add_one_mul_self a (show 0 < T by omega)
  exact ⟨h1, h2⟩
theorem div_uni {a T q : Int} (hT : 1 ≤ T) (h1 : q * T ≤ a) (h2 : a < (q + 1) * T) : a / T = q := by
  have := div_lt' hT h2; have := le_div' hT h1; omega

theorem came_nonneg {T t : Int} (hT : 1 ≤ T) (ht : 0 ≤ t) : 0 ≤ came T t := Int.ediv_nonneg (by omega) (by omega)
theorem came_mono {T s t : Int} (hT : 1 ≤ T) (h : s ≤ t) : came T s ≤ came T t := by
  unfold came
  have := div_bd (a := s + T - 1) hT
  exact le_div' hT (by omega)
theorem came_zero {T : Int} (hT : 1 ≤ T) : came T 0 = 0 := by
  unfold came; exact div_uni hT (by omega) (by simp; omega)
/-- one more comes just where the time is a multiple of the period -/
theorem came_step {T t : Int} (hT : 1 ≤ T) : came T (t + 1) = came T t + if t % T = 0 then 1 else 0 := by
  unfold came
  have hq := Int.mul_ediv_add_emod t T
  have hm := Int.emod_nonneg t (show T ≠ 0 by omega)
  have hl := Int.emod_lt_of_pos t (show 0 < T by omega)
  have hc : T * (t / T) = (t / T) * T := Int.mul_comm _ _
  by_cases h : t % T = 0
  · rw [if_pos h]
    have e1 : (t + T - 1) / T = t / T := div_uni hT (by omega) (by rw [Int.add_mul, Int.one_mul]; omega)
    have e2 : (t + 1 + T - 1) / T = t / T + 1 := div_uni hT (by rw [Int.add_mul, Int.one_mul]; omega) (by rw [Int.add_mul, Int.add_mul, Int.one_mul]; omega)
    omega
  · rw [if_neg h]
    have e1 : (t + T - 1) / T = t / T + 1 := div_uni hT (by rw [Int.add_mul, Int.one_mul]; omega) (by rw [Int.add_mul, Int.add_mul, Int.one_mul]; omega)
    have e2 : (t + 1 + T - 1) / T = t / T + 1 := div_uni hT (by rw [Int.add_mul, Int.one_mul]; omega) (by rw [Int.add_mul, Int.add_mul, Int.one_mul]; omega)
    omega
theorem due_nonneg {D T t : Int} (hT : 1 ≤ T) : 0 ≤ dueBy D T t := by
  unfold dueBy; split
  · omega
  · have := Int.ediv_nonneg (show 0 ≤ t - D by omega) (show 0 ≤ T by omega); omega
theorem due_mono {D T s t : Int} (hT : 1 ≤ T) (h : s ≤ t) : dueBy D T s ≤ dueBy D T t := by
  have := due_nonneg (D := D) (t := t) hT
  unfold dueBy at *
  by_cases h1 : s < D
  · rw [if_pos h1]; exact this
  · rw [if_neg h1, if_neg (by omega)]
    have := div_bd (a := s - D) hT
    have := le_div' (a := t - D) (q := (s - D) / T) hT (by omega)
    omega
theorem due_later {D D' T t : Int} (hT : 1 ≤ T) (h : D ≤ D') : dueBy D' T t ≤ dueBy D T t := by
  have := due_nonneg (D := D) (t := t) hT
  unfold dueBy at *
  by_cases h1 : t < D'
  · rw [if_pos h1]; exact this
  · rw [if_neg h1, if_neg (by omega)]
    have := div_bd (a := t - D') hT
    have := le_div' (a := t - D) (q := (t - D') / T) hT (by omega)
    omega
theorem due_step {D T t : Int} (hT : 1 ≤ T) : dueBy D T (t + 1) = dueBy D T t + if D ≤ t + 1 ∧ (t + 1 - D) % T = 0 then 1 else 0 := by
  unfold dueBy
  by_cases h1 : t + 1 < D
  · rw [if_pos h1, if_pos (by omega), if_neg (by omega)]; rfl
  · rw [if_neg h1]
    have c := came_step (T := T) (t := t + 1 - D) hT
    have e1 : came T (t + 1 - D + 1) = (t + 1 - D) / T + 1 := by
      unfold came
      rw [show t + 1 - D + 1 + T - 1 = (t + 1 - D) + T from by omega, Int.add_ediv_of_dvd_right (Int.dvd_refl T), Int.ediv_self (by omega)]
    by_cases h2 : t < D
    · rw [if_pos h2]
      obtain rfl : D = t + 1 := by omega
      rw [show t + 1 - (t + 1) = 0 from by omega]
      simp
    · rw [if_neg h2]
      have e2 : came T (t + 1 - D) = (t - D) / T + 1 := by
        unfold came
        rw [show t + 1 - D + T - 1 = (t - D) + T from by omega, Int.add_ediv_of_dvd_right (Int.dvd_refl T), Int.ediv_self (by omega)]
      rw [e1, e2] at c
      by_cases h3 : (t + 1 - D) % T = 0
      · rw [if_pos h3] at c; rw [if_pos ⟨by omega, h3⟩]; omega
      · rw [if_neg h3] at c; rw [if_neg (fun x => h3 x.2)]; omega
/-- what has its deadline behind L came ahead of L, or is as if all began at L -/
theorem due_split {D T t L : Int} (hT : 1 ≤ T) (hL : 0 ≤ L) (hD : 0 ≤ D) : dueBy D T t ≤ came T L + dueBy D T (t - L) := by
  have cn := came_nonneg hT hL
  have b := div_bd (a := L + T - 1) hT
  unfold dueBy
  by_cases h1 : t < D
  · rw [if_pos h1, if_pos (by omega)]; omega
  · rw [if_neg h1]
    unfold came at *
    by_cases h2 : t - L < D
    · rw [if_pos h2]
      have := div_lt' (a := t - D) (q := (L + T - 1) / T - 1) hT (by rw [show (L + T - 1) / T - 1 + 1 = (L + T - 1) / T from by omega]; have := b.2; rw [Int.add_mul, Int.one_mul] at this; omega)
      omega
    · rw [if_neg h2]
      have b2 := div_bd (a := t - L - D) hT
      have := div_lt' (a := t - D) (q := (L + T - 1) / T + (t - L - D) / T) hT (by
        have h3 := b.2; have h4 := b2.2
        rw [Int.add_mul, Int.one_mul] at h3 h4
        rw [Int.add_mul, Int.add_mul, Int.one_mul]
        omega)
      omega
theorem due_zero {D T t : Int} (h : t < D) : dueBy D T t = 0 := by unfold dueBy; rw [if_pos h]

section
variable {n : Nat} {C T D : Nat → Int}
structure Ok (n : Nat) (C T D : Nat → Int) : Prop where
  cyc : ∀ i, i < n → 0 ≤ C i ∧ C i ≤ 1048576
  per : ∀ i, i < n → 1 ≤ T i ∧ T i ≤ 16384
  dl : ∀ i, i < n → 1 ≤ D i ∧ D i ≤ 16384
theorem asked_mono (h : Ok n C T D) {s t : Int} (hst : s ≤ t) : asked n C T s ≤ asked n C T t :=
  sm_le fun i hi => Int.mul_le_mul_of_nonneg_right (came_mono (h.per i hi).1 hst) (h.cyc i hi).1
theorem demand_mono (h : Ok n C T D) {s t : Int} (hst : s ≤ t) : demand n C T D s ≤ demand n C T D t :=
  sm_le fun i hi => Int.mul_le_mul_of_nonneg_right (due_mono (h.per i hi).1 hst) (h.cyc i hi).1
theorem asked_nonneg (h : Ok n C T D) {t : Int} (ht : 0 ≤ t) : 0 ≤ asked n C T t := sm_nonneg fun i hi => Int.mul_nonneg (came_nonneg (h.per i hi).1 ht) (h.cyc i hi).1
theorem demand_nonneg (h : Ok n C T D) {t : Int} : 0 ≤ demand n C T D t := sm_nonneg fun i hi => Int.mul_nonneg (due_nonneg (h.per i hi).1) (h.cyc i hi).1
/-- how long the CPU may be busy at once: the first moment at which all that came is done; 0: it is too late -/
structure IsBusy (n : Nat) (C T : Nat → Int) (b : Int) : Prop where
  before : ∀ s : Int, 1 ≤ s → s < b ∨ (b = 0 ∧ s ≤ 16384) → s < asked n C T s
  at_it : b = 0 ∨ (1 ≤ b ∧ b ≤ 16384 ∧ asked n C T b ≤ b)
theorem busy_unique {a b : Int} (ha : IsBusy n C T a) (hb : IsBusy n C T b) : a = b := by
  apply Classical.byContradiction
  intro h
  have x := ha.at_it; have y := hb.at_it
  rcases x with x | x <;> rcases y with y | y
  · omega
  · have := ha.before b y.1 (.inr ⟨x, y.2.1⟩); omega
  · have := hb.before a x.1 (.inr ⟨y, x.2.1⟩); omega
  · rcases Int.lt_or_le a b with l | l
    · have := hb.before a x.1 (.inl l); omega
    · have := ha.before b y.1 (.inl (by omega)); omega
/-- do they fit? -/
def FitsP (n : Nat) (C T D : Nat → Int) : Prop := ∃ b : Int, IsBusy n C T b ∧ 1 ≤ b ∧ ∀ t : Int, 1 ≤ t → t ≤ b → demand n C T D t ≤ t
/-- looking at the deadlines is enough -/
theorem fits_at_deadlines (h : Ok n C T D) {b : Int} (hd : ∀ i, i < n → ∀ k : Nat, D i + k * T i ≤ b → demand n C T D (D i + k * T i) ≤ D i + k * T i) : ∀ t : Nat, (t : Int) ≤ b → demand n C T D t ≤ t
  | 0, _ => by
    have : demand n C T D (0 : Nat) = 0 := sm_nul fun i hi => by rw [due_zero (by have := (h.dl i hi).1; omega), Int.zero_mul]
    omega
  | t + 1, ht => by
    have ih := fits_at_deadlines h hd t (by omega)
    by_cases c : ∃ i, i < n ∧ D i ≤ (t : Int) + 1 ∧ ((t : Int) + 1 - D i) % T i = 0
    · obtain ⟨i, hi, h1, h2⟩ := c
      have hT := (h.per i hi).1
      have q := Int.mul_ediv_add_emod ((t : Int) + 1 - D i) (T i)
      have qn := Int.ediv_nonneg (show 0 ≤ (t : Int) + 1 - D i by omega) (show 0 ≤ T i by omega)
      have e : D i + ((((t : Int) + 1 - D i) / T i).toNat : Int) * T i = ((t + 1 : Nat) : Int) := by
        rw [Int.toNat_of_nonneg qn, Int.mul_comm]; omega
      have := hd i hi (((t : Int) + 1 - D i) / T i).toNat (by rw [e]; exact ht)
      rw [e] at this
      exact this
    · have e : demand n C T D ((t + 1 : Nat) : Int) = demand n C T D (t : Int) := sm_congr fun i hi => by
        show dueBy (D i) (T i) ((t + 1 : Nat) : Int) * C i = dueBy (D i) (T i) (t : Int) * C i
        rw [show ((t + 1 : Nat) : Int) = (t : Int) + 1 from by omega, due_step (h.per i hi).1, if_neg (fun x => c ⟨i, hi, x.1, x.2⟩), Int.add_zero]
      rw [e]; omega
/-- the theorem of Baruah, Rosier and Howell -/
theorem fits_all (h : Ok n C T D) (hf : FitsP n C T D) : ∀ (m : Nat) (t : Int), t ≤ m → 0 ≤ t → demand n C T D t ≤ t := by
  obtain ⟨b, hb, b1, hd⟩ := hf
  intro m
  induction m with
  | zero =>
    intro t ht h0
    obtain rfl : t = 0 := by omega
    have : demand n C T D 0 = 0 := sm_nul fun i hi => by rw [due_zero (by have := (h.dl i hi).1; omega), Int.zero_mul]
    omega
  | succ m ih =>
    intro t ht h0
    by_cases c : t ≤ b
    · by_cases c0 : 1 ≤ t
      · exact hd t c0 c
      · exact ih t (by omega) h0
    · have a := ih (t - b) (by omega) (by omega)
      have s : demand n C T D t ≤ asked n C T b + demand n C T D (t - b) := by
        unfold demand asked
        rw [← sm_add]
        refine sm_le fun i hi => ?_
        have := Int.mul_le_mul_of_nonneg_right (due_split (D := D i) (t := t) (h.per i hi).1 (show 0 ≤ b by omega) (by have := (h.dl i hi).1; omega)) (h.cyc i hi).1
        rw [Int.add_mul] at this
        exact this
      have := hb.at_it
      omega
/-- more is never asked for: then they fit just if the CPU is not busy too long -/
theorem fits_of {b : Int} (hb : IsBusy n C T b) (hd : ∀ t : Int, 1 ≤ t → t ≤ 16384 → demand n C T D t ≤ t) : FitsP n C T D ↔ 0 < b := by
  constructor
  · rintro ⟨x, hx, h1, _⟩
    have := busy_unique hb hx; omega
  · intro h
    exact ⟨b, hb, by omega, fun t h1 h2 => hd t h1 (by have := hb.at_it; omega)⟩
theorem busy_some (C T : Nat → Int) (n : Nat) : ∃ b, IsBusy n C T b := by
  have key : ∀ m : Nat, m ≤ 16384 → (∃ b : Int, 1 ≤ b ∧ b ≤ m ∧ IsBusy n C T b) ∨ ∀ s : Int, 1 ≤ s → s ≤ m → s < asked n C T s := by
    intro m
    induction m with
    | zero => intro _; right; intro s a b; omega
    | succ m ih =>
      intro hm
      rcases ih (by omega) with ⟨b, h1, h2, h3⟩ | h
      · exact .inl ⟨b, h1, by omega, h3⟩
      · by_cases c : asked n C T ((m + 1 : Nat) : Int) ≤ ((m + 1 : Nat) : Int)
        · left
          exact ⟨((m + 1 : Nat) : Int), by omega, by omega, ⟨fun s hs hl => h s hs (by omega), .inr ⟨by omega, by omega, c⟩⟩⟩
        · right
          intro s hs hl
          by_cases e : s = ((m + 1 : Nat) : Int)
          · rw [e]; omega
          · exact h s hs (by omega)
  rcases key 16384 (by omega) with ⟨b, _, _, h⟩ | h
  · exact ⟨b, h⟩
  · exact ⟨0, ⟨fun s hs hl => h s hs (by omega), .inl rfl⟩⟩
/-- some moment at which all that came is done -/
theorem busy_pos {b : Int} (hb : IsBusy n C T b) {t : Int} (h1 : 1 ≤ t) (h2 : t ≤ 16384) (h3 : asked n C T t ≤ t) : 1 ≤ b ∧ b ≤ t := by
  rcases hb.at_it with x | x
  · have := hb.before t h1 (.inr ⟨x, h2⟩); omega
  · rcases Int.lt_or_le t b with l | l
    · have := hb.before t h1 (.inl l); omega
    · omega
/-- later deadlines, fewer cycles -/
theorem fits_longer (h : Ok n C T D) {C' D' : Nat → Int} (h' : Ok n C' T D') (hC : ∀ i, i < n → C' i ≤ C i) (hD : ∀ i, i < n → D i ≤ D' i) (hf : FitsP n C T D) : FitsP n C' T D' := by
  obtain ⟨b, hb, b1, hd⟩ := hf
  obtain ⟨b', hb'⟩ := busy_some C' T n
  have ha : ∀ t : Int, 0 ≤ t → asked n C' T t ≤ asked n C T t := fun t ht => sm_le fun i hi => Int.mul_le_mul_of_nonneg_left (hC i hi) (came_nonneg (h.per i hi).1 ht)
  have x := hb.at_it
  have y := busy_pos hb' b1 (by omega) (by have := ha b (by omega); omega)
  refine ⟨b', hb', y.1, fun t h1 h2 => ?_⟩
  have z := hd t h1 (by omega)
  have : demand n C' T D' t ≤ demand n C T D t := sm_le fun i hi => Int.mul_le_mul (due_later (h.per i hi).1 (hD i hi)) (hC i hi) (h'.cyc i hi).1 (due_nonneg (h.per i hi).1)
  omega
end
end Go.Proofs.Ytdjmcjfdkcckoaa.Dem
