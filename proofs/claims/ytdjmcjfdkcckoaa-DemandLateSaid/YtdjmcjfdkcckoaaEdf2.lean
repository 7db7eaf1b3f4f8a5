/- Plain EDF: from event to event; the criterion; the best of all ways. -/
import Derived.Test.YtdjmcjfdkcckoaaEdf
namespace Go.Proofs.Ytdjmcjfdkcckoaa.Edf
set_option linter.unusedVariables false
section
variable {n : Nat} {r d c : Nat → Int}
/-- as long as nobody waits, and nobody comes, nothing turns -/
theorem idle_run {t : Nat} (h0 : ∀ i, ¬ Ready n r (left n r d c t) t i) (m : Nat) (hm : ∀ i, i < n → (t : Int) < r i → (t : Int) + m ≤ r i) : ∀ s : Nat, s ≤ m → (∀ i, left n r d c (t + s) i = left n r d c t i) ∧ ∀ i, done n r d c (t + s) i = done n r d c t i := by
  intro s
  induction s with
  | zero => intro _; exact ⟨fun _ => rfl, fun _ => rfl⟩
  | succ s ih =>
    intro hs
    have ih := ih (by omega)
    have none : ∀ i, ¬ turn n r d c (t + s) = some i := by
      intro i e
      have e := turn_ready n r d c e
      have hl := ih.1 i
      have h1 := e.1; have h2 := e.2.1; have h3 := e.2.2
      rcases Int.lt_or_le (t : Int) (r i) with x | x
      · have := hm i h1 x; omega
      · exact h0 i ⟨h1, by omega, x⟩
    exact ⟨fun i => by rw [show t + (s + 1) = t + s + 1 from rfl, left_succ, if_neg (none i)]; exact ih.1 i,
      fun i => by rw [show t + (s + 1) = t + s + 1 from rfl, done_succ, if_neg (none i)]; exact ih.2 i⟩
/-- whose turn it is goes on till it is done, or somebody comes -/
theorem best_run {t b : Nat} (h0 : turn n r d c t = some b) (m : Nat) (hl : (m : Int) ≤ left n r d c t b) (hm : ∀ i, i < n → (t : Int) < r i → (t : Int) + m ≤ r i) : ∀ s : Nat, s ≤ m →
    (∀ i, left n r d c (t + s) i = if i = b then left n r d c t b - s else left n r d c t i) ∧ ∀ i, done n r d c (t + s) i = if i = b ∧ 0 < s then (t : Int) + s else done n r d c t i := by
  intro s
  induction s with
  | zero => intro _; exact ⟨fun i => by show left n r d c t i = _; split <;> simp_all, fun i => by rw [if_neg (by omega)]; rfl⟩
  | succ s ih =>
    intro hs
    have ih := ih (by omega)
    have hb := turn_ready n r d c h0
    have tn : turn n r d c (t + s) = some b := by
      refine (best_some n r d).2 ⟨⟨hb.1, ?_, ?_⟩, fun i hi hne => ?_⟩
      · rw [ih.1 b, if_pos rfl]; omega
      · have := hb.2.2; omega
      · have h1 := hi.1; have h2 := hi.2.1; have h3 := hi.2.2
        rw [ih.1 i, if_neg hne] at h2
        rcases Int.lt_or_le (t : Int) (r i) with x | x
        · have := hm i h1 x; omega
        · exact turn_ahead n r d c h0 i ⟨h1, h2, x⟩ hne
    refine ⟨fun i => ?_, fun i => ?_⟩
    · rw [show t + (s + 1) = t + s + 1 from rfl, left_succ, tn, ih.1 i]
      by_cases e : i = b
      · subst e; rw [if_pos rfl, if_pos rfl, if_pos rfl]; omega
      · rw [if_neg (fun x => e (Option.some.inj x).symm), if_neg e, if_neg e]
    · rw [show t + (s + 1) = t + s + 1 from rfl, done_succ, tn, ih.2 i]
      by_cases e : i = b
      · subst e; rw [if_pos rfl, if_pos ⟨rfl, by omega⟩]; omega
      · rw [if_neg (fun x => e (Option.some.inj x).symm), if_neg (fun x => e x.1), if_neg (fun x => e x.1)]
open Classical
/-- works that may be -/
structure OkW (n : Nat) (r d c : Nat → Int) : Prop where
  rel : ∀ i, i < n → 0 ≤ r i ∧ r i ≤ 16384
  cyc : ∀ i, i < n → 0 ≤ c i ∧ c i ≤ 16384
  dead : ∀ i, i < n → r i ≤ d i ∧ d i ≤ 32768
  few : n ≤ 32
theorem OkW.cn (h : OkW n r d c) : ∀ i, i < n → 0 ≤ c i := fun i hi => (h.cyc i hi).1
/-- when all is done at the latest -/
theorem ended (h : OkW n r d c) : ∀ i, i < n → left n r d c 540672 i = 0 := by
  have a := all_done (r := r) (d := d) h.cn 16384 (fun i hi => (h.rel i hi).2) 524288
  have t : of n (fun _ => True) c ≤ 524288 := by
    have e : of n (fun _ => True) c = sm n c := sm_congr fun i _ => if_pos trivial
    have key : ∀ m, m ≤ n → sm m c ≤ m * 16384 := by
      intro m
      induction m with
      | zero => intro _; simp [sm]
      | succ m ih =>
        intro hm
        have ih := ih (by omega)
        have := (h.cyc m (by omega)).2
        show sm m _ + c m ≤ _
        omega
    have k1 := key n (Nat.le_refl _)
    have := h.few
    omega
  refine (zero_of_all h.cn).1 ?_
  rw [show (540672 : Nat) = 16384 + 524288 from rfl]
  rcases a with a | a <;> omega
noncomputable def when (n : Nat) (r d c : Nat → Int) (i : Nat) : Int := done n r d c 540672 i
def LateP (n : Nat) (r d c : Nat → Int) : Prop := ∃ i, i < n ∧ d i < when n r d c i
def FitsP (n : Nat) (r d c : Nat → Int) : Prop := ∀ i, i < n → ∀ j, j < n → r i ≤ d j → dem n r d c (r i) (d j) ≤ d j - r i
/-- the criterion -/
theorem fits_late (h : OkW n r d c) (hf : FitsP n r d c) : ¬ LateP n r d c := by
  rintro ⟨j, hj, hlate⟩
  have hd := h.dead j hj
  have hr := h.rel j hj
  obtain ⟨D, hD⟩ : ∃ D : Nat, d j = D := ⟨(d j).toNat, by omega⟩
  have key : ∀ k : Nat, k ≤ D → dem n r d c ((D - k : Nat) : Int) D ≤ k := by
    intro k
    induction k with
    | zero =>
      intro _
      by_cases e : ∃ i, i < n ∧ r i = D ∧ d i ≤ D
      · obtain ⟨i, hi, e1, e2⟩ := e
        have := hf i hi j hj (by omega)
        rw [e1, hD] at this
        simpa using this
      · have : dem n r d c ((D - 0 : Nat) : Int) D = 0 := sm_nul fun i hi => by
          rw [if_neg]
          rintro ⟨h1, h2⟩
          exact e ⟨i, hi, by have := (h.dead i hi).1; omega, h2⟩
        omega
    | succ k ih =>
      intro hk
      have ih := ih (by omega)
      by_cases e : ∃ i, i < n ∧ r i = ((D - (k + 1) : Nat) : Int) ∧ d i ≤ D
      · obtain ⟨i, hi, e1, e2⟩ := e
        have := hf i hi j hj (by omega)
        rw [e1, hD] at this
        omega
      · have : dem n r d c ((D - (k + 1) : Nat) : Int) D = dem n r d c ((D - k : Nat) : Int) D := of_congr (fun i hi => ⟨fun x => ⟨by
            rcases Int.lt_or_le (r i) ((D - k : Nat) : Int) with y | y
            · exact absurd ⟨i, hi, by omega, x.2⟩ e
            · exact y, x.2⟩, fun x => ⟨by omega, x.2⟩⟩) (fun _ _ _ => rfl)
        omega
  have fl := fits_left (r := r) (d := d) (c := c) h.cn (fun i hi => (h.rel i hi).1) D (fun a ha => by
    have := key (D - a) (by omega)
    rw [show D - (D - a) = a from by omega] at this
    omega) D (Nat.le_refl _)
  have l0 := of_ge (P := fun i => d i ≤ D) (f := left n r d c D) (fun i hi => left_nonneg h.cn D i hi) hj (by omega)
  have l1 := left_nonneg (r := r) (d := d) h.cn D j hj
  have e0 := ended h j hj
  by_cases z : c j = 0
  · have := done_zero (r := r) (d := d) h.cn (t := 540672) hj z
    unfold when at hlate; omega
  · have := (done_le (r := r) (d := d) h.cn hj (by have := h.cn j hj; omega) e0 D (by omega)).2 (by omega)
    unfold when at hlate; omega
theorem late_fits (h : OkW n r d c) (hl : ¬ LateP n r d c) : FitsP n r d c := by
  intro i hi j hj hij
  have hr := h.rel i hi
  have hd := h.dead j hj
  have := met_dem (n := n) (r := r) (d := d) (c := c) h.cn (r i).toNat (d j).toNat (by omega) (fun m hm h1 h2 => by
    have e0 := ended h m hm
    have nn := left_nonneg (r := r) (d := d) h.cn (d j).toNat m hm
    by_cases z : c m = 0
    · have := left_le (n := n) (r := r) (d := d) (c := c) (d j).toNat m; omega
    · refine (done_le (r := r) (d := d) h.cn hm (by have := h.cn m hm; omega) e0 (d j).toNat (by omega)).1 ?_
      rcases Int.lt_or_le (d m) (when n r d c m) with x | x
      · exact absurd ⟨m, hm, x⟩ hl
      · unfold when at x; omega)
  rw [Int.toNat_of_nonneg hr.1, Int.toNat_of_nonneg (by omega)] at this
  exact this
theorem criterion (h : OkW n r d c) : FitsP n r d c ↔ ¬ LateP n r d c := ⟨fits_late h, late_fits h⟩
/-! ### the best of all ways -/
/-- so many quanta in which a way serves i, between its release and its deadline, among the first t -/
def served (r d : Nat → Int) (way : Nat → Int) : Nat → Nat → Int
  | 0, _ => 0
  | t + 1, i => served r d way t i + if way t = i ∧ r i ≤ t ∧ (t : Int) < d i then 1 else 0
theorem served_dem {way : Nat → Int} (a b : Nat) (hab : a ≤ b) : ∀ t : Nat, of n (fun i => (a : Int) ≤ r i ∧ d i ≤ b) (served r d way t) ≤ if t ≤ a then 0 else if t ≤ b then (t : Int) - a else (b : Int) - a
  | 0 => by
    have : of n (fun i => (a : Int) ≤ r i ∧ d i ≤ b) (served r d way 0) = 0 := sm_nul fun i hi => by split <;> rfl
    rw [this]; split
    · exact Int.le_refl _
    · split <;> omega
  | t + 1 => by
    have ih := served_dem (way := way) a b hab t
    have step : of n (fun i => (a : Int) ≤ r i ∧ d i ≤ b) (served r d way (t + 1)) ≤ of n (fun i => (a : Int) ≤ r i ∧ d i ≤ b) (served r d way t) + if a ≤ t ∧ t < b then 1 else 0 := by
      have e : of n (fun i => (a : Int) ≤ r i ∧ d i ≤ b) (served r d way (t + 1)) ≤ of n (fun i => (a : Int) ≤ r i ∧ d i ≤ b) (served r d way t) + sm n (fun i => if i = (way t).toNat then (if a ≤ t ∧ t < b then 1 else 0) else 0) := by
        unfold of
        rw [← sm_add]
        refine sm_le fun i hi => ?_
        by_cases hp : (a : Int) ≤ r i ∧ d i ≤ b
        · rw [if_pos hp, if_pos hp]
          show served r d way t i + (if way t = i ∧ r i ≤ t ∧ (t : Int) < d i then 1 else 0) ≤ _
          by_cases hq : way t = i ∧ r i ≤ t ∧ (t : Int) < d i
          · rw [if_pos hq, if_pos (by omega), if_pos (by omega)]; exact Int.le_refl _
          · rw [if_neg hq]; split
            · split <;> omega
            · omega
        · rw [if_neg hp, if_neg hp]; split
          · split <;> omega
          · omega
      refine Int.le_trans e ?_
      rw [sm_one]
      by_cases hc : a ≤ t ∧ t < b
      · rw [if_pos hc]; split <;> omega
      · rw [if_neg hc]; split <;> omega
    by_cases h1 : a ≤ t ∧ t < b
    · rw [if_pos h1] at step
      rw [if_neg (show ¬ t + 1 ≤ a by omega), if_pos (show t + 1 ≤ b by omega)]
      by_cases h2 : t ≤ a
      · rw [if_pos h2] at ih; omega
      · rw [if_neg h2, if_pos (show t ≤ b by omega)] at ih; omega
    · rw [if_neg h1] at step
      by_cases h2 : t + 1 ≤ a
      · rw [if_pos h2]; rw [if_pos (show t ≤ a by omega)] at ih; omega
      · rw [if_neg h2, if_neg (show ¬ t + 1 ≤ b by omega)]
        by_cases h3 : t ≤ a
        · rw [if_pos h3] at ih; omega
        · rw [if_neg h3] at ih
          by_cases h4 : t ≤ b
          · rw [if_pos h4] at ih; omega
          · rw [if_neg h4] at ih; omega
theorem served_nonneg (way : Nat → Int) : ∀ t i, 0 ≤ served r d way t i
  | 0, _ => Int.le_refl _
  | t + 1, i => by have := served_nonneg way t i; show 0 ≤ served r d way t i + _; split <;> omega
/-- Dertouzos -/
theorem best_of_all (h : OkW n r d c) {way : Nat → Int} {T : Nat} (hs : ∀ i, i < n → c i ≤ served r d way T i) : ¬ LateP n r d c := by
  refine fits_late h fun i hi j hj hij => ?_
  have hr := h.rel i hi
  have hd := h.dead j hj
  have a := of_le (n := n) (P := fun m => r i ≤ r m ∧ d m ≤ d j) (f := c) (g := served r d way T) (fun m hm _ => hs m hm)
  have b := served_dem (n := n) (r := r) (d := d) (way := way) (r i).toNat (d j).toNat (by omega) T
  rw [Int.toNat_of_nonneg hr.1, Int.toNat_of_nonneg (show 0 ≤ d j by omega)] at b
  refine Int.le_trans (Int.le_trans a b) ?_
  split
  · omega
  · split <;> omega
/-! ### the last moment, whatever the deadlines -/
theorem last_iff (h : OkW n r d c) {T : Nat} (hT : T ≤ 540672) : (∀ i, i < n → 0 < c i → when n r d c i ≤ T) ↔ of n (fun _ => True) (left n r d c T) ≤ 0 := by
  rw [zero_of_all h.cn]
  constructor
  · intro hw i hi
    have := left_nonneg (r := r) (d := d) h.cn T i hi
    by_cases z : c i = 0
    · have := left_le (n := n) (r := r) (d := d) (c := c) T i; omega
    · have cp : 0 < c i := by have := h.cn i hi; omega
      exact (done_le (r := r) (d := d) h.cn hi cp (ended h i hi) T hT).1 (hw i hi cp)
  · intro hl i hi cp
    exact (done_le (r := r) (d := d) h.cn hi cp (ended h i hi) T hT).2 (hl i hi)
theorem when_bd (h : OkW n r d c) {i : Nat} (hi : i < n) : 0 ≤ when n r d c i ∧ when n r d c i ≤ 540672 := by
  have g := done_ge (n := n) (r := r) (d := d) (c := c) 540672 i
  have hr := h.rel i hi
  refine ⟨by unfold when; omega, ?_⟩
  by_cases z : c i = 0
  · have := done_zero (r := r) (d := d) h.cn (t := 540672) hi z; unfold when; omega
  · have := (done_le (r := r) (d := d) h.cn hi (by have := h.cn i hi; omega) (ended h i hi) 540672 (Nat.le_refl _)).2 (ended h i hi)
    unfold when; exact this
end
end Go.Proofs.Ytdjmcjfdkcckoaa.Edf
