/- Fewer tasks, tasks in another order, slower levels, the slowest level that would do: as plain mathematics. -/
import Derived.Test.YtonlaboeodddeaaAdm
namespace Go.Proofs.Ytonlaboeodddeaa.Adm
open Go.RowKit Go.Proofs.Ytonlaboeodddeaa.F Go.Proofs.Ytonlaboeodddeaa.Tbl Go.Proofs.YtonlaboeodddeaaW.PrintWords Go.Proofs.YtonlaboeodddeaaW.PrintLast
section
variable {l0 : List S34} {l1 : List S55} {l2 : List S58} {idle crit sw swE sems hor : Int} {l m : List S29}
theorem mach_sub (h : Mach l0 l1 l2 idle crit sw swE sems hor l) (hs : ∀ t ∈ m, t ∈ l) (hl : m.length ≤ 64) : Mach l0 l1 l2 idle crit sw swE sems hor m :=
  ⟨h.table, hl, fun t ht => h.task t (hs t ht)⟩
theorem mach_period (h : Mach l0 l1 l2 idle crit sw swE sems hor l) {t : S29} (ht : t ∈ l) : 1 ≤ t.f0 ∧ t.f0 ≤ 16384 := by
  have a := (h.task t ht).period; have b := head_of h.table; omega
theorem part_mono' {a b t : Int} (h : a ≤ b) (ht : 1 ≤ t) : part a t ≤ part b t := by
  unfold part; exact Int.ediv_le_ediv (by omega) (by omega)
theorem block_sub (h : Mach l0 l1 l2 idle crit sw swE sems hor l) (hs : ∀ t ∈ m, t ∈ l) {period : Int} (hp : period < 1099511627776) : block l0 crit sw m period ≤ block l0 crit sw l period := by
  have a := longest_sub (l := l) (m := m) hp hs
  have b := slow_bd h.table
  have c := Int.mul_le_mul_of_nonneg_right (c := slow l0 crit) a (by omega)
  unfold block; omega
theorem reserve_sub (h : Mach l0 l1 l2 idle crit sw swE sems hor l) (hs : ∀ t ∈ m, t ∈ l) : reserve l0 crit sw m ≤ reserve l0 crit sw l := by
  unfold reserve
  refine reserveOn_le (reserve_bd h).1 fun t ht => ?_
  have p := mach_period h (hs t ht)
  have a := block_sub h hs (period := t.f0) (by omega)
  have b := part_mono' a p.1
  have c := reserveOn_ge (l0 := l0) (crit := crit) (sw := sw) (l := l) (hs t ht)
  omega
theorem sumOf_sub {f : S29 → Int} (h : m.Sublist l) (h0 : ∀ t ∈ l, 0 ≤ f t) : sumOf f m ≤ sumOf f l := by
  induction h with
  | slnil => exact Int.le_refl _
  | cons t _ ih => have := ih (fun t ht => h0 t (by simp [ht])); have := h0 t (by simp); rw [sumOf_cons]; omega
  | cons_cons t _ ih => have := ih (fun t ht => h0 t (by simp [ht])); rw [sumOf_cons, sumOf_cons]; omega
theorem load_sub (h : Mach l0 l1 l2 idle crit sw swE sems hor l) (hs : m.Sublist l) (level : Int) : load l0 crit sw m level ≤ load l0 crit sw l level := by
  have a := reserve_sub h (m := m) (fun t ht => hs.subset ht)
  have b := sumOf_sub (f := partOf l0 sw level) hs (fun t ht => (partOf_bd h.table (h.task t ht) level).1)
  unfold load; omega
theorem sumOf_perm {f : S29 → Int} (h : m.Perm l) : sumOf f m = sumOf f l := by
  induction h with
  | nil => rfl
  | cons t _ ih => rw [sumOf_cons, sumOf_cons, ih]
  | swap a b l => rw [sumOf_cons, sumOf_cons, sumOf_cons, sumOf_cons]; omega
  | trans _ _ a b => rw [a, b]
theorem mach_perm (h : Mach l0 l1 l2 idle crit sw swE sems hor l) (hp : m.Perm l) : Mach l0 l1 l2 idle crit sw swE sems hor m :=
  mach_sub h (fun t ht => hp.subset ht) (by rw [hp.length_eq]; exact h.few)
theorem reserve_perm (h : Mach l0 l1 l2 idle crit sw swE sems hor l) (hp : m.Perm l) : reserve l0 crit sw m = reserve l0 crit sw l := by
  have a := reserve_sub h (m := m) (fun t ht => hp.subset ht)
  have b := reserve_sub (mach_perm h hp) (m := l) (fun t ht => hp.symm.subset ht)
  omega
theorem load_perm (h : Mach l0 l1 l2 idle crit sw swE sems hor l) (hp : m.Perm l) (level : Int) : load l0 crit sw m level = load l0 crit sw l level := by
  unfold load; rw [reserve_perm h hp, sumOf_perm hp]
/-- a slower level takes no less -/
theorem most_slower (h : TableOk l0 l1 l2 idle crit sw swE sems hor) {t : S29} (ht : TaskOk l2.length sems hor t) {i j : Int} (h0 : 0 ≤ i) (hij : i ≤ j) (hj : j < l0.length) : most l0 sw i t ≤ most l0 sw j t := by
  have r := rises h (j - i).toNat i h0 (by omega)
  rw [show i + ((j - i).toNat : Int) = j from by omega] at r
  have c := ht.cycles
  have := Int.mul_le_mul_of_nonneg_left (c := t.f1) r (by omega)
  unfold most; rw [if_pos (by omega), if_pos (by omega)]; omega
theorem load_slower (h : Mach l0 l1 l2 idle crit sw swE sems hor l) {i j : Int} (h0 : 0 ≤ i) (hij : i ≤ j) (hj : j < l0.length) : load l0 crit sw l i ≤ load l0 crit sw l j := by
  have a := sumOf_le (f := partOf l0 sw i) (g := partOf l0 sw j) (l := l) (fun t ht => part_mono' (most_slower h.table (h.task t ht) h0 hij hj) (h.task t ht).period.1)
  unfold load; omega

/-! ### the last level that would do -/
def pick (g : Int → Bool) : Nat → Int → Int → Int
  | 0, _, best => best
  | d + 1, n, best => pick g d (n + 1) (if g n = true then n else best)
theorem pick_spec (g : Int → Bool) : ∀ (d : Nat) (n best : Int), pick g d n best = best ∨ (n ≤ pick g d n best ∧ pick g d n best < n + d ∧ g (pick g d n best) = true)
  | 0, n, best => .inl rfl
  | d + 1, n, best => by
    have ih := pick_spec g d (n + 1) (if g n = true then n else best)
    unfold pick
    rcases ih with e | ⟨e1, e2, e3⟩
    · by_cases c : g n = true
      · rw [if_pos c] at e ⊢; right; rw [e]; exact ⟨by omega, by omega, c⟩
      · rw [if_neg c] at e ⊢; left; exact e
    · exact .inr ⟨by omega, by omega, e3⟩
theorem pick_mono {g g' : Int → Bool} (hg : ∀ i, g i = true → g' i = true) : ∀ (d : Nat) (n b b' : Int), b ≤ b' → b' < n → pick g d n b ≤ pick g' d n b'
  | 0, n, b, b', h, _ => h
  | d + 1, n, b, b', h, hn => by
    unfold pick
    refine pick_mono hg d (n + 1) _ _ ?_ ?_
    · by_cases c : g n = true
      · rw [if_pos c, if_pos (hg n c)]; exact Int.le_refl _
      · rw [if_neg c]; split <;> omega
    · split <;> omega
theorem pick_congr {g g' : Int → Bool} : ∀ (d : Nat) (n b : Int), (∀ i, n ≤ i → i < n + d → g i = g' i) → pick g d n b = pick g' d n b
  | 0, _, _, _ => rfl
  | d + 1, n, b, h => by
    unfold pick
    rw [h n (by omega) (by omega)]
    exact pick_congr d (n + 1) _ (fun i h1 h2 => h i (by omega) (by omega))
def slowest (l0 : List S34) (crit sw : Int) (l : List S29) : Int := pick (fun n => decide (load l0 crit sw l n ≤ 4294967296)) crit.toNat 1 0
theorem slowest_spec (h : Mach l0 l1 l2 idle crit sw swE sems hor l) : 0 ≤ slowest l0 crit sw l ∧ slowest l0 crit sw l ≤ crit ∧ (slowest l0 crit sw l = 0 ∨ load l0 crit sw l (slowest l0 crit sw l) ≤ 4294967296) := by
  have hd := head_of h.table
  have p := pick_spec (fun n => decide (load l0 crit sw l n ≤ 4294967296)) crit.toNat 1 0
  unfold slowest
  rcases p with e | ⟨e1, e2, e3⟩
  · rw [e]; exact ⟨by omega, by omega, .inl rfl⟩
  · exact ⟨by omega, by omega, .inr (of_decide_eq_true e3)⟩
theorem slow_loop (h : Mach l0 l1 l2 idle crit sw swE sems hor l) : ∀ (d : Nat) (n best : Int) (k : Nat), 1 ≤ n → n + d = crit + 1 → 1700 + d < k →
    admit_Slowest.l0 k l best n l0 l1 l2 idle crit sw swE sems hor = some (pick (fun n => decide (load l0 crit sw l n ≤ 4294967296)) d n best)
  | 0, n, best, k, h1, hd, hk => by
    obtain ⟨k, rfl⟩ : ∃ q, k = q + 1 := ⟨k - 1, by omega⟩
    simp only [admit_Slowest.l0]
    rw [if_neg (by omega)]; rfl
  | d + 1, n, best, k, h1, hd, hk => by
    obtain ⟨k, rfl⟩ : ∃ q, k = q + 1 := ⟨k - 1, by omega⟩
    have hh := head_of h.table
    simp only [admit_Slowest.l0]
    rw [if_pos (by omega), load_some h n (by omega), Option.bind_some, w64 (n := n + 1) (by omega) (by omega)]
    unfold pick
    by_cases c : load l0 crit sw l n ≤ 4294967296
    · rw [if_pos c, if_pos (decide_eq_true c)]; exact slow_loop h d (n + 1) n k (by omega) (by omega) (by omega)
    · rw [if_neg c, if_neg (by simpa using c)]; exact slow_loop h d (n + 1) best k (by omega) (by omega) (by omega)
theorem slowest_some (h : Mach l0 l1 l2 idle crit sw swE sems hor l) {k : Nat} (hk : 1800 < k) : admit_Slowest.f k l0 l1 l2 idle crit sw swE sems hor l = some (slowest l0 crit sw l) := by
  have hh := head_of h.table
  unfold admit_Slowest.f
  exact slow_loop h crit.toNat 1 0 k (by omega) (by omega) (by omega)
theorem slowest_perm (h : Mach l0 l1 l2 idle crit sw swE sems hor l) (hp : m.Perm l) : slowest l0 crit sw m = slowest l0 crit sw l := by
  unfold slowest
  rw [show (fun n => decide (load l0 crit sw m n ≤ 4294967296)) = (fun n => decide (load l0 crit sw l n ≤ 4294967296)) from funext fun n => by rw [load_perm h hp]]
/-! ### Baker's test -/
theorem baker (h : Mach l0 l1 l2 idle crit sw swE sems hor l) (fits : load l0 crit sw l 0 ≤ 4294967296) {t : Int} (ht : 0 ≤ t) {held : Int} (hheld : held = 0 ∨ ∃ u ∈ l, u.f0 ≤ t ∧ held = block l0 crit sw l u.f0) :
    sumOf (fun u => t / u.f0 * most l0 sw 0 u) l + held ≤ t := by
  have a : sumOf (fun u => t / u.f0 * most l0 sw 0 u) l * 4294967296 ≤ t * sumOf (partOf l0 sw 0) l := by
    have key : ∀ m : List S29, (∀ u ∈ m, u ∈ l) → sumOf (fun u => t / u.f0 * most l0 sw 0 u) m * 4294967296 ≤ t * sumOf (partOf l0 sw 0) m := by
      intro m
      induction m with
      | nil => intro _; simp [sumOf]
      | cons u m ih =>
        intro hm
        have ih := ih (fun v hv => hm v (by simp [hv]))
        have hu := h.task u (hm u (by simp))
        rw [sumOf_cons, sumOf_cons, Int.add_mul, Int.mul_add]
        have lo := part_lo (most l0 sw 0 u) u.f0 hu.period.1
        have pn := (partOf_bd h.table hu (sw := sw) 0).1
        have q := Int.ediv_nonneg ht (show 0 ≤ u.f0 by have := hu.period; omega)
        have q2 := Int.ediv_mul_le t (show u.f0 ≠ 0 by have := hu.period; omega)
        have s1 : t / u.f0 * (most l0 sw 0 u * 4294967296) ≤ t / u.f0 * (part (most l0 sw 0 u) u.f0 * u.f0) := Int.mul_le_mul_of_nonneg_left lo q
        have s2 : t / u.f0 * u.f0 * partOf l0 sw 0 u ≤ t * partOf l0 sw 0 u := Int.mul_le_mul_of_nonneg_right q2 pn
        have e1 : t / u.f0 * (part (most l0 sw 0 u) u.f0 * u.f0) = t / u.f0 * u.f0 * partOf l0 sw 0 u := by
          unfold partOf; rw [Int.mul_comm (part (most l0 sw 0 u) u.f0) u.f0, Int.mul_assoc]
        rw [Int.mul_assoc]
        omega
    exact key l (fun _ h => h)
  have b : held * 4294967296 ≤ t * reserve l0 crit sw l := by
    have rn := (reserve_bd h).1
    rcases hheld with e | ⟨u, hu, h1, e⟩
    · rw [e]; have := Int.mul_nonneg ht rn; omega
    · have p := (h.task u hu).period
      have r := reserveOn_ge (l0 := l0) (crit := crit) (sw := sw) (l := l) hu
      have lo := part_lo (block l0 crit sw l u.f0) u.f0 p.1
      have s1 : part (block l0 crit sw l u.f0) u.f0 * u.f0 ≤ reserve l0 crit sw l * u.f0 := Int.mul_le_mul_of_nonneg_right r (by omega)
      have s2 : reserve l0 crit sw l * u.f0 ≤ reserve l0 crit sw l * t := Int.mul_le_mul_of_nonneg_left h1 rn
      rw [e, Int.mul_comm t]; omega
  have c : t * load l0 crit sw l 0 ≤ t * 4294967296 := Int.mul_le_mul_of_nonneg_left fits ht
  unfold load at c
  rw [Int.mul_add] at c
  have d : (sumOf (fun u => t / u.f0 * most l0 sw 0 u) l + held) * 4294967296 ≤ t * 4294967296 := by rw [Int.add_mul]; omega
  omega
end
end Go.Proofs.Ytonlaboeodddeaa.Adm
