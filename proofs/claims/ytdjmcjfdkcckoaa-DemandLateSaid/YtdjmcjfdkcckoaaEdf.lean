/- Plain EDF, quantum by quantum, as plain mathematics: n works with releases r, deadlines d, cycles c. -/
namespace Go.Proofs.Ytdjmcjfdkcckoaa.Edf
set_option linter.unusedVariables false

/-! ### sums over the first n numbers -/
def sm : Nat → (Nat → Int) → Int
  | 0, _ => 0
  | n + 1, f => sm n f + f n
theorem sm_congr {f g : Nat → Int} : ∀ {n : Nat}, (∀ i, i < n → f i = g i) → sm n f = sm n g
  | 0, _ => rfl
  | n + 1, h => by
    have a := sm_congr (n := n) (fun i hi => h i (by omega))
    have b := h n (by omega)
    show sm n f + f n = sm n g + g n
    omega
theorem sm_le {f g : Nat → Int} : ∀ {n : Nat}, (∀ i, i < n → f i ≤ g i) → sm n f ≤ sm n g
  | 0, _ => Int.le_refl _
  | n + 1, h => by
    have a := sm_le (n := n) (fun i hi => h i (by omega))
    have b := h n (by omega)
    show sm n f + f n ≤ sm n g + g n
    omega
theorem sm_zero (n : Nat) : sm n (fun _ => 0) = 0 := by
  induction n with
  | zero => rfl
  | succ n ih => show sm n _ + 0 = 0; omega
theorem sm_nonneg {f : Nat → Int} {n : Nat} (h : ∀ i, i < n → 0 ≤ f i) : 0 ≤ sm n f := by
  have := sm_le (f := fun _ => 0) (g := f) (n := n) h
  rw [sm_zero] at this; exact this
theorem sm_nul {f : Nat → Int} {n : Nat} (h : ∀ i, i < n → f i = 0) : sm n f = 0 := by
  rw [sm_congr (g := fun _ => 0) h, sm_zero]
theorem sm_add (f g : Nat → Int) : ∀ n : Nat, sm n (fun i => f i + g i) = sm n f + sm n g
  | 0 => rfl
  | n + 1 => by
    have a := sm_add f g n
    show sm n _ + (f n + g n) = (sm n f + f n) + (sm n g + g n)
    omega
theorem sm_sub (f g : Nat → Int) : ∀ n : Nat, sm n (fun i => f i - g i) = sm n f - sm n g
  | 0 => rfl
  | n + 1 => by
    have a := sm_sub f g n
    show sm n _ + (f n - g n) = (sm n f + f n) - (sm n g + g n)
    omega
/-- one place alone -/
theorem sm_one (b : Nat) (x : Int) : ∀ n : Nat, sm n (fun i => if i = b then x else 0) = if b < n then x else 0
  | 0 => rfl
  | n + 1 => by
    have a := sm_one b x n
    show sm n _ + (if n = b then x else 0) = _
    rw [a]
    by_cases h : n = b
    · rw [if_pos h, if_neg (by omega), if_pos (by omega)]; omega
    · rw [if_neg h]
      by_cases h2 : b < n
      · rw [if_pos h2, if_pos (by omega)]; omega
      · rw [if_neg h2, if_neg (by omega)]; omega
theorem sm_ge {f : Nat → Int} {n b : Nat} (h : ∀ i, i < n → 0 ≤ f i) (hb : b < n) : f b ≤ sm n f := by
  have a := sm_le (f := fun i => if i = b then f b else 0) (g := f) (n := n) (fun i hi => by
    show (if i = b then f b else 0) ≤ f i
    split
    · rename_i e; rw [e]; exact Int.le_refl _
    · exact h i hi)
  rw [sm_one, if_pos hb] at a; exact a
theorem sm_pos {f : Nat → Int} {n : Nat} (h : 0 < sm n f) : ∃ i, i < n ∧ 0 < f i := by
  apply Classical.byContradiction
  intro hn
  have := sm_le (f := f) (g := fun _ => 0) (n := n) (fun i hi => by
    show f i ≤ 0
    rcases Int.lt_or_le 0 (f i) with h | h
    · exact absurd ⟨i, hi, h⟩ hn
    · exact h)
  rw [sm_zero] at this; omega
theorem sm_swap (f : Nat → Nat → Int) (m : Nat) : ∀ n : Nat, sm n (fun i => sm m (fun j => f i j)) = sm m (fun j => sm n (fun i => f i j))
  | 0 => by show 0 = sm m (fun _ => 0); rw [sm_zero]
  | n + 1 => by
    have a := sm_swap f m n
    show sm n _ + sm m (fun j => f n j) = sm m (fun j => sm n (fun i => f i j) + f n j)
    rw [sm_add, a]

section
variable (n : Nat) (r d c : Nat → Int)

/-- is work i waiting at moment t, if so much of each is left? -/
def Ready (left : Nat → Int) (t : Int) (i : Nat) : Prop := i < n ∧ 0 < left i ∧ r i ≤ t

/-- is i ahead of j? -/
def Ahead (i j : Nat) : Prop := d i < d j ∨ (d i = d j ∧ i < j)

/-- b is the one whose turn it is -/
def IsBest (left : Nat → Int) (t : Int) (b : Nat) : Prop :=
  Ready n r left t b ∧ ∀ i, Ready n r left t i → i ≠ b → Ahead d b i

theorem best_unique {left : Nat → Int} {t : Int} {a b : Nat} (ha : IsBest n r d left t a) (hb : IsBest n r d left t b) : a = b := by
  apply Classical.byContradiction
  intro h
  have h1 := ha.2 b hb.1 (fun e => h e.symm)
  have h2 := hb.2 a ha.1 h
  unfold Ahead at h1 h2
  omega

theorem best_exists {left : Nat → Int} {t : Int} (h : ∃ i, Ready n r left t i) : ∃ b, IsBest n r d left t b := by
  have key : ∀ m, m ≤ n → (∃ i, i < m ∧ Ready n r left t i) →
      ∃ b, b < m ∧ Ready n r left t b ∧ ∀ i, i < m → Ready n r left t i → i ≠ b → Ahead d b i := by
    intro m
    induction m with
    | zero => intro _ ⟨i, h, _⟩; omega
    | succ m ih =>
      intro hm hex
      by_cases hm1 : ∃ i, i < m ∧ Ready n r left t i
      · obtain ⟨b, hb, hr, hall⟩ := ih (by omega) hm1
        by_cases hmr : Ready n r left t m ∧ d m < d b
        · refine ⟨m, by omega, hmr.1, ?_⟩
          intro i hi hri hne
          by_cases hib : i = b
          · subst hib; left; exact hmr.2
          · have := hall i (by omega) hri hib
            unfold Ahead at *
            omega
        · refine ⟨b, by omega, hr, ?_⟩
          intro i hi hri hne
          by_cases him : i = m
          · subst him
            have : ¬ d i < d b := fun h => hmr ⟨hri, h⟩
            unfold Ahead; omega
          · exact hall i (by omega) hri hne
      · obtain ⟨i, hi, hri⟩ := hex
        have him : i = m := by
          apply Classical.byContradiction
          intro hne
          exact hm1 ⟨i, by omega, hri⟩
        subst him
        refine ⟨i, by omega, hri, ?_⟩
        intro j hj hrj hne
        exact absurd ⟨j, by omega, hrj⟩ hm1
  obtain ⟨i, hi⟩ := h
  obtain ⟨b, hb, hr, hall⟩ := key n (Nat.le_refl n) ⟨i, hi.1, hi⟩
  exact ⟨b, hr, fun i hi hne => hall i hi.1 hi hne⟩

open Classical in
/-- whose turn it is -/
noncomputable def best (left : Nat → Int) (t : Int) : Option Nat :=
  if h : ∃ b, IsBest n r d left t b then some (Classical.choose h) else none

theorem best_some {left : Nat → Int} {t : Int} {b : Nat} : best n r d left t = some b ↔ IsBest n r d left t b := by
  unfold best
  constructor
  · intro h
    split at h
    · rename_i hex
      have := Classical.choose_spec hex
      simp only [Option.some.injEq] at h
      rw [h] at this; exact this
    · cases h
  · intro h
    have hex : ∃ b, IsBest n r d left t b := ⟨b, h⟩
    rw [dif_pos hex]
    congr 1
    exact best_unique n r d (Classical.choose_spec hex) h

theorem best_none {left : Nat → Int} {t : Int} : best n r d left t = none ↔ ∀ i, ¬ Ready n r left t i := by
  constructor
  · intro h i hi
    obtain ⟨b, hb⟩ := best_exists n r d ⟨i, hi⟩
    rw [(best_some n r d).2 hb] at h
    cases h
  · intro h
    cases hb : best n r d left t with
    | none => rfl
    | some b => exact absurd ((best_some n r d).1 hb).1 (h b)

/-- what is left of each behind t quanta -/
noncomputable def left : Nat → Nat → Int
  | 0 => c
  | t + 1 => fun i => if best n r d (left t) t = some i then left t i - 1 else left t i

/-- when each was done, as far as it is known behind t quanta -/
noncomputable def done : Nat → Nat → Int
  | 0 => r
  | t + 1 => fun i => if best n r d (left n r d c t) t = some i then (t : Int) + 1 else done t i

/-- whose turn quantum t is -/
noncomputable def turn (t : Nat) : Option Nat := best n r d (left n r d c t) t
theorem left_succ (t i : Nat) : left n r d c (t + 1) i = if turn n r d c t = some i then left n r d c t i - 1 else left n r d c t i := rfl
theorem done_succ (t i : Nat) : done n r d c (t + 1) i = if turn n r d c t = some i then (t : Int) + 1 else done n r d c t i := rfl
theorem turn_ready {t b : Nat} (h : turn n r d c t = some b) : Ready n r (left n r d c t) t b := ((best_some n r d).1 h).1
theorem turn_ahead {t b : Nat} (h : turn n r d c t = some b) (i : Nat) (hi : Ready n r (left n r d c t) t i) (hne : i ≠ b) : Ahead d b i := ((best_some n r d).1 h).2 i hi hne
theorem turn_of {t i : Nat} (h : Ready n r (left n r d c t) t i) : ∃ b, turn n r d c t = some b := by
  cases hb : turn n r d c t with
  | some b => exact ⟨b, rfl⟩
  | none => exact absurd h ((best_none n r d).1 hb i)
end

section
variable {n : Nat} {r d c : Nat → Int}
theorem left_nonneg (hc : ∀ i, i < n → 0 ≤ c i) : ∀ (t i : Nat), i < n → 0 ≤ left n r d c t i
  | 0, i, hi => hc i hi
  | t + 1, i, hi => by
    have a := left_nonneg hc t i hi
    rw [left_succ]
    split
    · rename_i h; have := (turn_ready n r d c h).2.1; omega
    · exact a
theorem left_step (t i : Nat) : left n r d c (t + 1) i ≤ left n r d c t i := by
  rw [left_succ]; split <;> omega
theorem left_mono {s t : Nat} (h : s ≤ t) (i : Nat) : left n r d c t i ≤ left n r d c s i := by
  obtain ⟨k, rfl⟩ := Nat.le.dest h
  induction k with
  | zero => exact Int.le_refl _
  | succ k ih => have := left_step (n := n) (r := r) (d := d) (c := c) (s + k) i; have := ih (by omega); rw [show s + (k + 1) = s + k + 1 from by omega]; omega
theorem left_le (t i : Nat) : left n r d c t i ≤ c i := left_mono (Nat.zero_le t) i
/-- nothing of it is done ahead of its release -/
theorem left_future : ∀ (t i : Nat), (t : Int) ≤ r i → left n r d c t i = c i
  | 0, _, _ => rfl
  | t + 1, i, h => by
    have a := left_future t i (by omega)
    rw [left_succ, if_neg, a]
    intro e
    have := (turn_ready n r d c e).2.2
    omega
/-- when each was done -/
theorem done_said : ∀ (t i : Nat), (left n r d c t i = c i ∧ done n r d c t i = r i) ∨
    ∃ s : Nat, s < t ∧ done n r d c t i = (s : Int) + 1 ∧ turn n r d c s = some i ∧ left n r d c (s + 1) i = left n r d c t i
  | 0, i => .inl ⟨rfl, rfl⟩
  | t + 1, i => by
    by_cases h : turn n r d c t = some i
    · right
      exact ⟨t, by omega, by rw [done_succ, if_pos h], h, rfl⟩
    · rw [left_succ, done_succ, if_neg h, if_neg h]
      rcases done_said t i with a | ⟨s, h1, h2, h3, h4⟩
      · exact .inl a
      · exact .inr ⟨s, by omega, h2, h3, h4⟩
theorem done_ge (t i : Nat) : r i ≤ done n r d c t i := by
  rcases done_said (n := n) (r := r) (d := d) (c := c) t i with a | ⟨s, h1, h2, h3, h4⟩
  · omega
  · have := (turn_ready n r d c h3).2.2; omega
/-- what has ended behind t quanta ended by T just if nothing of it was left then -/
theorem done_le (hc : ∀ i, i < n → 0 ≤ c i) {t i : Nat} (hi : i < n) (hpos : 0 < c i) (h0 : left n r d c t i = 0) (T : Nat) (hT : T ≤ t) :
    done n r d c t i ≤ T ↔ left n r d c T i = 0 := by
  rcases done_said (n := n) (r := r) (d := d) (c := c) t i with a | ⟨s, h1, h2, h3, h4⟩
  · omega
  · rw [h2]
    have nn := left_nonneg (r := r) (d := d) hc T i hi
    constructor
    · intro h
      have := left_mono (n := n) (r := r) (d := d) (c := c) (show s + 1 ≤ T by omega) i
      omega
    · intro h
      apply Classical.byContradiction
      intro hh
      have := left_mono (n := n) (r := r) (d := d) (c := c) (show T ≤ s by omega) i
      have := (turn_ready n r d c h3).2.1
      omega
theorem done_at {t i : Nat} (hpos : 0 < c i) (h0 : left n r d c t i = 0) : ∃ s : Nat, s < t ∧ done n r d c t i = (s : Int) + 1 ∧ turn n r d c s = some i ∧ left n r d c (s + 1) i = 0 := by
  rcases done_said (n := n) (r := r) (d := d) (c := c) t i with a | ⟨s, h1, h2, h3, h4⟩
  · omega
  · exact ⟨s, h1, h2, h3, by omega⟩
theorem done_zero (hc : ∀ i, i < n → 0 ≤ c i) {t i : Nat} (hi : i < n) (h : c i = 0) : done n r d c t i = r i := by
  rcases done_said (n := n) (r := r) (d := d) (c := c) t i with a | ⟨s, h1, h2, h3, h4⟩
  · exact a.2
  · have := (turn_ready n r d c h3).2.1
    have := left_le (n := n) (r := r) (d := d) (c := c) s i
    omega
/-- behind the end nothing turns -/
theorem done_stays {t : Nat} (h : ∀ i, i < n → left n r d c t i = 0) (k : Nat) : (∀ i, left n r d c (t + k) i = left n r d c t i) ∧ ∀ i, done n r d c (t + k) i = done n r d c t i := by
  induction k with
  | zero => exact ⟨fun _ => rfl, fun _ => rfl⟩
  | succ k ih =>
    have none : ∀ i, ¬ turn n r d c (t + k) = some i := by
      intro i e
      have e := turn_ready n r d c e
      have := ih.1 i
      have := h i e.1
      have := e.2.1
      omega
    exact ⟨fun i => by rw [show t + (k + 1) = t + k + 1 from rfl, left_succ, if_neg (none i)]; exact ih.1 i,
      fun i => by rw [show t + (k + 1) = t + k + 1 from rfl, done_succ, if_neg (none i)]; exact ih.2 i⟩

/-! ### a class of works -/
open Classical
/-- of a class: all of f -/
noncomputable def of (n : Nat) (P : Nat → Prop) (f : Nat → Int) : Int := sm n (fun i => if P i then f i else 0)
theorem of_le {P : Nat → Prop} {f g : Nat → Int} (h : ∀ i, i < n → P i → f i ≤ g i) : of n P f ≤ of n P g := by
  unfold of
  refine sm_le fun i hi => ?_
  by_cases hp : P i
  · rw [if_pos hp, if_pos hp]; exact h i hi hp
  · rw [if_neg hp, if_neg hp]; exact Int.le_refl _
theorem of_congr {P Q : Nat → Prop} {f g : Nat → Int} (h : ∀ i, i < n → (P i ↔ Q i)) (h2 : ∀ i, i < n → P i → f i = g i) : of n P f = of n Q g := by
  unfold of
  refine sm_congr fun i hi => ?_
  by_cases hp : P i
  · rw [if_pos hp, if_pos ((h i hi).1 hp)]; exact h2 i hi hp
  · rw [if_neg hp, if_neg (fun x => hp ((h i hi).2 x))]
theorem of_sub {P Q : Nat → Prop} {f : Nat → Int} (h : ∀ i, i < n → P i → Q i ∨ f i ≤ 0) (h2 : ∀ i, i < n → 0 ≤ f i) : of n P f ≤ of n Q f := by
  unfold of
  refine sm_le fun i hi => ?_
  have := h2 i hi
  by_cases hp : P i
  · rw [if_pos hp]
    by_cases hq : Q i
    · rw [if_pos hq]; exact Int.le_refl _
    · rw [if_neg hq]; have := (h i hi hp).resolve_left hq; omega
  · rw [if_neg hp]; split <;> omega
theorem of_nonneg {P : Nat → Prop} {f : Nat → Int} (h : ∀ i, i < n → P i → 0 ≤ f i) : 0 ≤ of n P f := by
  unfold of
  refine sm_nonneg fun i hi => ?_
  show 0 ≤ if P i then f i else 0
  split
  · rename_i hp; exact h i hi hp
  · exact Int.le_refl _
theorem of_ge {P : Nat → Prop} {f : Nat → Int} (h : ∀ i, i < n → 0 ≤ f i) {b : Nat} (hb : b < n) (hp : P b) : f b ≤ of n P f := by
  unfold of
  have := sm_ge (f := fun i => if P i then f i else 0) (n := n) (fun i hi => by
    show 0 ≤ if P i then f i else 0
    have := h i hi
    split <;> omega) hb
  simp only [if_pos hp] at this
  exact this
theorem of_pos {P : Nat → Prop} {f : Nat → Int} (h : 0 < of n P f) : ∃ i, i < n ∧ P i ∧ 0 < f i := by
  obtain ⟨i, hi, h1⟩ := sm_pos h
  by_cases hp : P i
  · rw [if_pos hp] at h1; exact ⟨i, hi, hp, h1⟩
  · rw [if_neg hp] at h1; omega
/-- one quantum takes one cycle of one work -/
theorem of_step (P : Nat → Prop) (t : Nat) : of n P (left n r d c (t + 1)) = of n P (left n r d c t) - (if ∃ b, turn n r d c t = some b ∧ P b then 1 else 0) := by
  by_cases h : ∃ b, turn n r d c t = some b ∧ P b
  · rw [if_pos h]
    obtain ⟨b, hb, hp⟩ := h
    have hbn := (turn_ready n r d c hb).1
    unfold of
    have e := sm_sub (fun i => if P i then left n r d c t i else 0) (fun i => if i = b then 1 else 0) n
    rw [sm_one, if_pos hbn] at e
    rw [← e]
    refine sm_congr fun i hi => ?_
    show (if P i then left n r d c (t + 1) i else 0) = _
    rw [left_succ, hb]
    by_cases hib : i = b
    · subst hib; rw [if_pos hp, if_pos rfl, if_pos hp, if_pos rfl]
    · rw [if_neg (show ¬ some b = some i from fun x => hib (Option.some.inj x).symm), if_neg hib]; omega
  · rw [if_neg h]
    rw [Int.sub_zero]
    refine of_congr (fun _ _ => Iff.rfl) (fun i hi hp => ?_)
    rw [left_succ, if_neg (fun x => h ⟨i, x, hp⟩)]
/-- no quantum that a class could use is used by another one -/
def Closed (n : Nat) (d : Nat → Int) (P : Nat → Prop) : Prop := ∀ i j, i < n → j < n → P j → Ahead d i j → P i
theorem closed_turn {P : Nat → Prop} (hP : Closed n d P) {t i : Nat} (h : Ready n r (left n r d c t) t i) (hp : P i) : ∃ b, turn n r d c t = some b ∧ P b := by
  obtain ⟨b, hb⟩ := turn_of n r d c h
  refine ⟨b, hb, ?_⟩
  by_cases e : i = b
  · rw [← e]; exact hp
  · exact hP b i (turn_ready n r d c hb).1 h.1 hp (turn_ahead n r d c hb i h e)

/-! ### the criterion -/
/-- what must be done between two moments -/
noncomputable def dem (n : Nat) (r d c : Nat → Int) (a b : Int) : Int := of n (fun i => a ≤ r i ∧ d i ≤ b) c
/-- of works that fit, all with deadlines up to D are done by D -/
theorem fits_left (hc : ∀ i, i < n → 0 ≤ c i) (hr : ∀ i, i < n → 0 ≤ r i) (D : Nat) (hf : ∀ a : Nat, a ≤ D → dem n r d c a D ≤ (D : Int) - a) :
    ∀ t : Nat, t ≤ D → of n (fun i => d i ≤ D) (left n r d c t) ≤ (D : Int) - t
  | 0, _ => by
    have h := hf 0 (by omega)
    have e : of n (fun i => d i ≤ D) (left n r d c 0) = dem n r d c (0 : Nat) D := of_congr (fun i hi => by have := hr i hi; constructor <;> intro h <;> omega) (fun _ _ _ => rfl)
    rw [e]; exact h
  | t + 1, ht => by
    have ih := fits_left hc hr D hf t (by omega)
    have e := of_step (n := n) (r := r) (d := d) (c := c) (fun i => d i ≤ D) t
    by_cases h : ∃ b, turn n r d c t = some b ∧ d b ≤ D
    · rw [if_pos h] at e; omega
    · rw [if_neg h] at e
      have nr : ∀ i, i < n → d i ≤ D → left n r d c t i ≤ 0 ∨ (t : Int) + 1 ≤ r i := by
        intro i hi hd
        rcases Int.lt_or_le 0 (left n r d c t i) with h1 | h1
        · right
          rcases Int.lt_or_le (t : Int) (r i) with h2 | h2
          · omega
          · exact absurd (closed_turn (P := fun i => d i ≤ D) (fun a b _ _ hb hab => by unfold Ahead at hab; show d a ≤ D; have : d b ≤ D := hb; omega) ⟨hi, h1, h2⟩ hd) h
        · exact .inl h1
      have h2 := hf (t + 1) ht
      have h3 : of n (fun i => d i ≤ D) (left n r d c t) ≤ dem n r d c (t + 1 : Nat) D := by
        refine Int.le_trans (of_sub (Q := fun i => ((t + 1 : Nat) : Int) ≤ r i ∧ d i ≤ D) (fun i hi hd => ?_) (fun i hi => left_nonneg hc t i hi)) (of_le fun i _ _ => left_le t i)
        rcases nr i hi hd with h | h
        · exact .inr h
        · exact .inl ⟨by omega, hd⟩
      omega
/-- between two moments at which all of a class is done, there were as many quanta -/
theorem met_dem (hc : ∀ i, i < n → 0 ≤ c i) (a : Nat) (b : Nat) (hab : a ≤ b) (hm : ∀ i, i < n → (a : Int) ≤ r i → d i ≤ b → left n r d c b i = 0) : dem n r d c a b ≤ (b : Int) - a := by
  have key : ∀ k : Nat, dem n r d c a b - k ≤ of n (fun i => (a : Int) ≤ r i ∧ d i ≤ b) (left n r d c (a + k)) := by
    intro k
    induction k with
    | zero =>
      have : dem n r d c a b = of n (fun i => (a : Int) ≤ r i ∧ d i ≤ b) (left n r d c (a + 0)) := of_congr (fun _ _ => Iff.rfl) (fun i _ h => (left_future a i h.1).symm)
      omega
    | succ k ih =>
      have e := of_step (n := n) (r := r) (d := d) (c := c) (fun i => (a : Int) ≤ r i ∧ d i ≤ b) (a + k)
      rw [show a + (k + 1) = a + k + 1 from rfl, e]
      split <;> omega
  obtain ⟨k, rfl⟩ := Nat.le.dest hab
  have h := key k
  have z : of n (fun i => (a : Int) ≤ r i ∧ d i ≤ (a + k : Nat)) (left n r d c (a + k)) = 0 := sm_nul fun i hi => by
    split
    · rename_i hp; exact hm i hi hp.1 hp.2
    · rfl
  omega

/-! ### less work is done no later -/
/-- what waits of a class at moment t -/
noncomputable def pend (n : Nat) (r d c : Nat → Int) (P : Nat → Prop) (t : Nat) : Int := of n (fun i => P i ∧ r i ≤ t) (left n r d c t)
/-- what waits of it behind that quantum -/
noncomputable def rest (n : Nat) (r d c : Nat → Int) (P : Nat → Prop) (t : Nat) : Int := of n (fun i => P i ∧ r i ≤ t) (left n r d c (t + 1))
theorem rest_eq (hc : ∀ i, i < n → 0 ≤ c i) {P : Nat → Prop} (hP : Closed n d P) (t : Nat) : rest n r d c P t = pend n r d c P t - if 0 < pend n r d c P t then 1 else 0 := by
  unfold rest
  rw [of_step]
  show pend n r d c P t - _ = _
  congr 1
  by_cases h : 0 < pend n r d c P t
  · rw [if_pos h]
    obtain ⟨i, hi, hp, h1⟩ := of_pos h
    obtain ⟨b, hb, hpb⟩ := closed_turn hP ⟨hi, h1, hp.2⟩ hp.1
    rw [if_pos ⟨b, hb, hpb, (turn_ready n r d c hb).2.2⟩]
  · rw [if_neg h, if_neg]
    rintro ⟨b, hb, hpb⟩
    have hr := turn_ready n r d c hb
    have := of_ge (P := fun i => P i ∧ r i ≤ t) (f := left n r d c t) (fun i hi => left_nonneg hc t i hi) hr.1 hpb
    have := hr.2.1
    unfold pend at h
    omega
theorem pend_succ (P : Nat → Prop) (t : Nat) : pend n r d c P (t + 1) = rest n r d c P t + of n (fun i => P i ∧ r i = (t : Int) + 1) c := by
  unfold pend rest of
  rw [← sm_add]
  refine sm_congr fun i hi => ?_
  by_cases hp : P i
  · by_cases h1 : r i ≤ (t : Int)
    · rw [if_pos ⟨hp, by omega⟩, if_pos ⟨hp, h1⟩, if_neg (by omega)]; omega
    · by_cases h2 : r i = (t : Int) + 1
      · rw [if_pos ⟨hp, by omega⟩, if_neg (by omega), if_pos ⟨hp, h2⟩, left_future (t + 1) i (by omega)]; omega
      · rw [if_neg (by omega), if_neg (by omega), if_neg (by omega)]; rfl
  · rw [if_neg (by simp [hp]), if_neg (by simp [hp]), if_neg (by simp [hp])]; rfl
theorem pend_zero (P : Nat → Prop) : pend n r d c P 0 = of n (fun i => P i ∧ r i ≤ (0 : Nat)) c := rfl
end
/-- less of each: no more waits -/
theorem pend_le {n : Nat} {r d d' c c' : Nat → Int} (hc : ∀ i, i < n → 0 ≤ c i) (hc' : ∀ i, i < n → 0 ≤ c' i) (hle : ∀ i, i < n → c' i ≤ c i) {P : Nat → Prop} (hP : Closed n d P) (hP' : Closed n d' P) :
    ∀ t : Nat, pend n r d' c' P t ≤ pend n r d c P t
  | 0 => of_le fun i hi _ => hle i hi
  | t + 1 => by
    have ih := pend_le (r := r) hc hc' hle hP hP' t
    have a : of n (fun i => P i ∧ r i = (t : Int) + 1) c' ≤ of n (fun i => P i ∧ r i = (t : Int) + 1) c := of_le fun i hi _ => hle i hi
    rw [pend_succ, pend_succ, rest_eq hc hP, rest_eq hc' hP']
    split <;> split <;> omega
theorem rest_le {n : Nat} {r d d' c c' : Nat → Int} (hc : ∀ i, i < n → 0 ≤ c i) (hc' : ∀ i, i < n → 0 ≤ c' i) (hle : ∀ i, i < n → c' i ≤ c i) {P : Nat → Prop} (hP : Closed n d P) (hP' : Closed n d' P) (t : Nat) :
    rest n r d' c' P t ≤ rest n r d c P t := by
  have := pend_le (r := r) hc hc' hle hP hP' t
  rw [rest_eq hc hP, rest_eq hc' hP']
  split <;> split <;> omega
/-- SimLess -/
theorem less_done {n : Nat} {r d c c' : Nat → Int} (hc : ∀ i, i < n → 0 ≤ c i) (hc' : ∀ i, i < n → 0 ≤ c' i) (hle : ∀ i, i < n → c' i ≤ c i) {t j : Nat} (hj : j < n) (h0 : left n r d c t j = 0) :
    left n r d c' t j = 0 ∧ done n r d c' t j ≤ done n r d c t j := by
  have h1 := left_nonneg (r := r) (d := d) hc' t j hj
  by_cases z : c' j = 0
  · refine ⟨by have := left_le (n := n) (r := r) (d := d) (c := c') t j; omega, ?_⟩
    rw [done_zero hc' hj z]; exact done_ge t j
  have hjc := hc' j hj
  have hl := hle j hj
  obtain ⟨s, hs, hd, hturn, hleft⟩ := done_at (show 0 < c j by omega) h0
  have cl : Closed n d (fun i => i = j ∨ Ahead d i j) := by
    intro a b _ _ hb hab
    rcases hb with rfl | hb
    · exact .inr hab
    · right; unfold Ahead at *; omega
  have hrj := (turn_ready n r d c hturn).2.2
  have r0 : rest n r d c (fun i => i = j ∨ Ahead d i j) s ≤ 0 := by
    rcases Int.lt_or_le 0 (rest n r d c (fun i => i = j ∨ Ahead d i j) s) with h | h
    · exfalso
      obtain ⟨i, hi, hp, hpos⟩ := of_pos h
      by_cases e : i = j
      · subst e; omega
      · have hm := left_step (n := n) (r := r) (d := d) (c := c) s i
        have hr : Ready n r (left n r d c s) s i := ⟨hi, by omega, hp.2⟩
        have := turn_ahead n r d c hturn i hr e
        have := hp.1.resolve_left e
        unfold Ahead at *; omega
    · exact h
  have r1 := rest_le (r := r) hc hc' hle cl cl s
  have r2 := of_ge (P := fun i => (i = j ∨ Ahead d i j) ∧ r i ≤ s) (f := left n r d c' (s + 1)) (fun i hi => left_nonneg hc' (s + 1) i hi) hj ⟨.inl rfl, hrj⟩
  have e0 : left n r d c' (s + 1) j = 0 := by
    have := left_nonneg (r := r) (d := d) hc' (s + 1) j hj
    unfold rest at r1 r0
    simp only [] at r1 r0 r2
    omega
  have et : left n r d c' t j = 0 := by
    have := left_mono (n := n) (r := r) (d := d) (c := c') (show s + 1 ≤ t by omega) j
    omega
  refine ⟨et, ?_⟩
  have := (done_le hc' hj (show 0 < c' j by omega) et (s + 1) (by omega)).2 e0
  omega
/-- SimBusy: how much waits, whatever the deadlines -/
theorem all_same {n : Nat} {r d d' c : Nat → Int} (hc : ∀ i, i < n → 0 ≤ c i) (t : Nat) : of n (fun _ => True) (left n r d' c t) = of n (fun _ => True) (left n r d c t) := by
  induction t with
  | zero => rfl
  | succ t ih =>
    have cl : ∀ d : Nat → Int, Closed n d (fun _ => True) := fun _ _ _ _ _ _ _ => trivial
    have a := pend_le (r := r) hc hc (fun _ _ => Int.le_refl _) (cl d) (cl d') t
    have b := pend_le (r := r) hc hc (fun _ _ => Int.le_refl _) (cl d') (cl d) t
    have key : ∀ d : Nat → Int, of n (fun _ => True) (left n r d c (t + 1)) = of n (fun _ => True) (left n r d c t) - if 0 < pend n r d c (fun _ => True) t then 1 else 0 := by
      intro d
      rw [of_step]
      congr 1
      by_cases h : 0 < pend n r d c (fun _ => True) t
      · rw [if_pos h]
        obtain ⟨i, hi, hp, h1⟩ := of_pos h
        obtain ⟨b, hb⟩ := turn_of n r d c ⟨hi, h1, hp.2⟩
        rw [if_pos ⟨b, hb, trivial⟩]
      · rw [if_neg h, if_neg]
        rintro ⟨b, hb, _⟩
        have hr := turn_ready n r d c hb
        have := of_ge (P := fun i => True ∧ r i ≤ t) (f := left n r d c t) (fun i hi => left_nonneg hc t i hi) hr.1 ⟨trivial, hr.2.2⟩
        have := hr.2.1
        unfold pend at h
        simp only [] at h
        omega
    rw [key, key, ih, show pend n r d' c (fun _ => True) t = pend n r d c (fun _ => True) t from by omega]
/-- all is done in the end -/
theorem all_done {n : Nat} {r d c : Nat → Int} (hc : ∀ i, i < n → 0 ≤ c i) (R : Nat) (hr : ∀ i, i < n → r i ≤ R) (k : Nat) : of n (fun _ => True) (left n r d c (R + k)) ≤ 0 ∨ of n (fun _ => True) (left n r d c (R + k)) ≤ of n (fun _ => True) c - k := by
  induction k with
  | zero => right; have := of_le (n := n) (P := fun _ => True) (f := left n r d c (R + 0)) (g := c) (fun i _ _ => left_le (R + 0) i); omega
  | succ k ih =>
    rw [show R + (k + 1) = R + k + 1 from rfl, of_step]
    by_cases h : 0 < of n (fun _ => True) (left n r d c (R + k))
    · obtain ⟨i, hi, _, h1⟩ := of_pos h
      obtain ⟨b, hb⟩ := turn_of n r d c ⟨hi, h1, by have := hr i hi; omega⟩
      rw [if_pos ⟨b, hb, trivial⟩]
      omega
    · left; split <;> omega
theorem zero_of_all {n : Nat} {r d c : Nat → Int} (hc : ∀ i, i < n → 0 ≤ c i) {t : Nat} : of n (fun _ => True) (left n r d c t) ≤ 0 ↔ ∀ i, i < n → left n r d c t i = 0 := by
  constructor
  · intro h i hi
    have := of_ge (P := fun _ => True) (f := left n r d c t) (fun i hi => left_nonneg hc t i hi) hi trivial
    have := left_nonneg (r := r) (d := d) hc t i hi
    omega
  · intro h
    have : of n (fun _ => True) (left n r d c t) = 0 := sm_nul fun i hi => by rw [if_pos trivial]; exact h i hi
    omega
end Go.Proofs.Ytdjmcjfdkcckoaa.Edf
