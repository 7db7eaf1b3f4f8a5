/- How much may be done: admit's functions and the document's, as plain mathematics over the told functions. -/
import Derived.Test.YtdjmcjfdkcckoaaTblS
import Derived.Test.YtdjmcjfdkcckoaaG1
import Derived.Test.YtdjmcjfdkcckoaaG2
namespace Go.Proofs.Ytdjmcjfdkcckoaa.Adm
open Go.RowKit Go.Proofs.Ytdjmcjfdkcckoaa.F Go.Proofs.Ytdjmcjfdkcckoaa.Tbl Go.Proofs.YtdjmcjfdkcckoaaW.PrintWords Go.Proofs.YtdjmcjfdkcckoaaW.PrintLast

theorem w64 {n : Int} (h0 : -9223372036854775808 ≤ n) (h1 : n ≤ 9223372036854775807) : wrap64 n = n := by unfold wrap64; omega

theorem bd_i64 {n : Int} (h : (Lit.int .i64 n).wf = true) : -9223372036854775808 ≤ n ∧ n ≤ 9223372036854775807 := by
  simp [Lit.wf, IntKind.min, IntKind.max, IntKind.signed, IntKind.bits] at h; omega
theorem bd_i32 {n : Int} (h : (Lit.int .i32 n).wf = true) : -2147483648 ≤ n ∧ n ≤ 2147483647 := by
  simp [Lit.wf, IntKind.min, IntKind.max, IntKind.signed, IntKind.bits] at h; omega
theorem bd_u32 {n : Int} (h : (Lit.int .u32 n).wf = true) : 0 ≤ n ∧ n ≤ 4294967295 := by
  simp [Lit.wf, IntKind.min, IntKind.max, IntKind.signed, IntKind.bits] at h; omega

/-- so many quanta as a part of a period, rounded up -/
def part (c t : Int) : Int := (c * 4294967296 + t - 1) / t

/-- a number brought into the range of quanta -/
def quanta (c : Int) : Int := if c < 0 then 0 else if 536870912 < c then 536870912 else c

theorem quanta_bd (c : Int) : 0 ≤ quanta c ∧ quanta c ≤ 536870912 := by unfold quanta; split <;> (try split) <;> omega
theorem quanta_id {c : Int} (h0 : 0 ≤ c) (h1 : c ≤ 536870912) : quanta c = c := by unfold quanta; rw [if_neg (by omega), if_neg (by omega)]
theorem quanta_mono {a b : Int} (h : a ≤ b) : quanta a ≤ quanta b := by unfold quanta; split <;> split <;> (try split) <;> (try split) <;> omega

theorem ceil_eq {n t : Int} (ht : 1 ≤ t) : n / t + (if n % t = 0 then 0 else 1) = (n + t - 1) / t := by
  have h1 := Int.emod_nonneg n (show t ≠ 0 by omega)
  have h2 := Int.emod_lt_of_pos n (show 0 < t by omega)
  have h3 : n = t * (n / t) + n % t := (Int.mul_ediv_add_emod n t).symm
  have h4 : (n + t - 1) / t = (n % t + t - 1) / t + n / t := by
    have : n + t - 1 = (n % t + t - 1) + t * (n / t) := by omega
    rw [this, Int.add_mul_ediv_left _ _ (show t ≠ 0 by omega)]
  rw [h4]
  by_cases hz : n % t = 0
  · have e : (0 + t - 1) / t = 0 := Int.ediv_eq_zero_of_lt (by omega) (by omega)
    rw [if_pos hz, hz, e]; omega
  · have e : (n % t - 1) / t = 0 := Int.ediv_eq_zero_of_lt (by omega) (by omega)
    rw [if_neg hz]
    have : n % t + t - 1 = (n % t - 1) + t * 1 := by omega
    rw [this, Int.add_mul_ediv_left _ _ (show t ≠ 0 by omega), e]; omega

theorem part_lo (c t : Int) (ht : 1 ≤ t) : c * 4294967296 ≤ part c t * t := by
  unfold part
  have h1 := Int.emod_nonneg (c * 4294967296 + t - 1) (show t ≠ 0 by omega)
  have h2 := Int.emod_lt_of_pos (c * 4294967296 + t - 1) (show 0 < t by omega)
  have h3 := Int.mul_ediv_add_emod (c * 4294967296 + t - 1) t
  rw [Int.mul_comm] at h3
  omega
theorem part_hi (c t : Int) (ht : 1 ≤ t) : part c t * t < c * 4294967296 + t := by
  unfold part
  have h1 := Int.emod_nonneg (c * 4294967296 + t - 1) (show t ≠ 0 by omega)
  have h2 := Int.emod_lt_of_pos (c * 4294967296 + t - 1) (show 0 < t by omega)
  have h3 := Int.mul_ediv_add_emod (c * 4294967296 + t - 1) t
  rw [Int.mul_comm] at h3
  omega
theorem part_nonneg {c t : Int} (hc : 0 ≤ c) (ht : 1 ≤ t) : 0 ≤ part c t := Int.ediv_nonneg (by omega) (by omega)
theorem part_le {c t : Int} (hc : 0 ≤ c) (ht : 1 ≤ t) : part c t ≤ c * 4294967296 := by
  unfold part
  apply Int.le_of_lt_add_one
  apply Int.ediv_lt_of_lt_mul (by omega)
  have : (c * 4294967296 + 1) * t = c * 4294967296 * t + t := by rw [Int.add_mul]; omega
  have h2 : c * 4294967296 * 1 ≤ c * 4294967296 * t := Int.mul_le_mul_of_nonneg_left ht (by omega)
  omega
theorem part_unique {c t u : Int} (ht : 1 ≤ t) (h0 : c * 4294967296 ≤ u * t) (h1 : u * t < c * 4294967296 + t) : part c t = u := by
  have a := part_lo c t ht
  have b := part_hi c t ht
  apply Classical.byContradiction
  intro hne
  rcases Int.lt_or_gt_of_ne hne with h | h
  · have : (part c t + 1) * t ≤ u * t := Int.mul_le_mul_of_nonneg_right (by omega) (by omega)
    rw [Int.add_mul] at this; omega
  · have : (u + 1) * t ≤ part c t * t := Int.mul_le_mul_of_nonneg_right (by omega) (by omega)
    rw [Int.add_mul] at this; omega
theorem part_mono {a b t : Int} (h : a ≤ b) (ht : 1 ≤ t) : part a t ≤ part b t := by
  unfold part
  exact Int.ediv_le_ediv (by omega) (by omega)
theorem part_anti {c s t : Int} (hc : 0 ≤ c) (hs : 1 ≤ s) (h : s ≤ t) : part c t ≤ part c s := by
  have a := part_lo c s hs
  have b := part_hi c t (by omega)
  have p := part_nonneg hc hs
  have q : part c s * s ≤ part c s * t := Int.mul_le_mul_of_nonneg_left h p
  apply Classical.byContradiction
  intro hne
  have : (part c s + 1) * t ≤ part c t * t := Int.mul_le_mul_of_nonneg_right (by omega) (by omega)
  rw [Int.add_mul] at this; omega

theorem clamp_quanta (c : Int) : fix_clamp_int.f c 0 536870912 = some (quanta c) := by
  unfold fix_clamp_int.f quanta mn mx
  congr 1
  (repeat' split) <;> omega

theorem util_some {c t : Int} (ht : 1 ≤ t) : fix_Util.f c t = some (part (quanta c) t) := by
  have hb := quanta_bd c
  unfold fix_Util.f
  rw [if_neg (by omega), clamp_quanta, Option.bind_some, if_neg (by omega)]
  rw [w64 (n := quanta c * 4294967296) (by omega) (by omega)]
  have hn : 0 ≤ quanta c * 4294967296 := by omega
  rw [Int.tdiv_eq_ediv_of_nonneg hn, Int.tmod_eq_emod_of_nonneg hn]
  have h1 := Int.emod_nonneg (quanta c * 4294967296) (show t ≠ 0 by omega)
  have h5 := Int.ediv_nonneg hn (show 0 ≤ t by omega)
  have h6 := Int.ediv_le_self t hn
  have hm : mn (quanta c * 4294967296 % t) 1 = if quanta c * 4294967296 % t = 0 then 0 else 1 := by
    unfold mn; split <;> split <;> omega
  rw [w64 (n := quanta c * 4294967296 / t) (by omega) (by omega), hm]
  have hle : (if quanta c * 4294967296 % t = 0 then (0 : Int) else 1) ≤ 1 ∧ 0 ≤ (if quanta c * 4294967296 % t = 0 then (0 : Int) else 1) := by split <;> omega
  rw [w64 (by omega) (by omega), ceil_eq ht]
  rfl
theorem util_none {c t : Int} (ht : t < 1) : fix_Util.f c t = some 1099511627776 := by unfold fix_Util.f; rw [if_pos ht]


theorem mn_le (a b : Int) : mn a b ≤ a ∧ mn a b ≤ b := by unfold mn; split <;> omega
theorem mn_cases (a b : Int) : mn a b = a ∨ mn a b = b := by unfold mn; split <;> simp
theorem mx_ge (a b : Int) : a ≤ mx a b ∧ b ≤ mx a b := by unfold mx; split <;> omega
theorem mx_cases (a b : Int) : mx a b = a ∨ mx a b = b := by unfold mx; split <;> simp
theorem mx_le {a b c : Int} (h0 : a ≤ c) (h1 : b ≤ c) : mx a b ≤ c := by unfold mx; split <;> omega

/-- A list from an index on begins with what stands there. -/
theorem drop_at (l : List S49) {i : Nat} (h : i < l.length) : l.drop i = rd_T49 l i :: l.drop (i + 1) := by
  unfold rd_T49
  rw [Int.toNat_natCast, List.getD_eq_getElem?_getD, List.getElem?_eq_getElem h]
  exact List.drop_eq_getElem_cons h
theorem rd_mem (l : List S49) {i : Nat} (h : i < l.length) : rd_T49 l i ∈ l := by
  unfold rd_T49
  rw [Int.toNat_natCast, List.getD_eq_getElem?_getD, List.getElem?_eq_getElem h]
  exact List.getElem_mem h

/-! ### who uses what, and the ceilings -/
def uses (t : S49) (s : Int) : Bool := decide (0 ≤ s ∧ s < t.f2.length ∧ 0 < rd t.f2 s)
theorem uses_some (t : S49) (s : Int) : task_Uses.f t.f0 t.f1 t.f2 t.f3 s = some (uses t s) := by
  unfold task_Uses.f uses
  by_cases h0 : 0 ≤ s
  · by_cases h1 : s < t.f2.length
    · rw [if_pos h0, if_pos h1, if_pos h0]; simp [h0, h1]
    · rw [if_pos h0, if_neg h1]; simp [h1]
  · rw [if_neg h0]; simp [h0]
def ceil (l : List S49) (s : Int) : Int := l.foldr (fun t m => if uses t s = true then mn t.f0 m else m) 1099511627776
theorem ceil_cons (t : S49) (l : List S49) (s : Int) : ceil (t :: l) s = if uses t s = true then mn t.f0 (ceil l s) else ceil l s := rfl
theorem ceil_never (l : List S49) (s : Int) : ceil l s ≤ 1099511627776 := by
  induction l with
  | nil => exact Int.le_refl _
  | cons t l ih => rw [ceil_cons]; have := mn_le t.f0 (ceil l s); split <;> omega
theorem ceil_le {l : List S49} {s c : Int} (hc : c < 1099511627776) : ceil l s ≤ c ↔ ∃ t ∈ l, uses t s = true ∧ t.f0 ≤ c := by
  induction l with
  | nil => simp [ceil]; omega
  | cons t l ih =>
    rw [ceil_cons]
    by_cases h : uses t s = true
    · rw [if_pos h]
      constructor
      · intro hle
        rcases mn_cases t.f0 (ceil l s) with e | e
        · exact ⟨t, by simp, h, by omega⟩
        · obtain ⟨u, hu, h1, h2⟩ := ih.1 (by omega)
          exact ⟨u, by simp [hu], h1, h2⟩
      · rintro ⟨u, hu, h1, h2⟩
        have := mn_le t.f0 (ceil l s)
        rcases List.mem_cons.1 hu with rfl | hu
        · omega
        · have := ih.2 ⟨u, hu, h1, h2⟩; omega
    · rw [if_neg h]
      rw [ih]
      constructor
      · rintro ⟨u, hu, h1, h2⟩; exact ⟨u, by simp [hu], h1, h2⟩
      · rintro ⟨u, hu, h1, h2⟩
        rcases List.mem_cons.1 hu with rfl | hu
        · exact absurd h1 h
        · exact ⟨u, hu, h1, h2⟩
theorem ceil_loop (l : List S49) (s : Int) (hn : l.length ≤ 1000) : ∀ (d k : Nat) (i : Nat) (acc : Int), i + d = l.length → d < k → acc ≤ 1099511627776 →
    task_Ceiling.l0 k s acc l l.length i = some (mn acc (ceil (l.drop i) s))
  | 0, k, i, acc, h, hk, ha => by
    obtain ⟨k, rfl⟩ : ∃ m, k = m + 1 := ⟨k - 1, by omega⟩
    simp only [task_Ceiling.l0]
    rw [if_neg (by omega), List.drop_of_length_le (by omega)]
    congr 1; unfold ceil mn; simp; omega
  | d + 1, k, i, acc, h, hk, ha => by
    obtain ⟨k, rfl⟩ : ∃ m, k = m + 1 := ⟨k - 1, by omega⟩
    have hi : i < l.length := by omega
    simp only [task_Ceiling.l0]
    rw [if_pos (by omega), if_pos (by omega), if_pos (by omega), uses_some, Option.bind_some, w64 (n := (i : Int) + 1) (by omega) (by omega)]
    rw [drop_at l hi, ceil_cons]
    by_cases u : uses (rd_T49 l i) s = true
    · rw [if_pos u, if_pos u]
      have := ceil_loop l s hn d k (i + 1) (mn acc (rd_T49 l i).f0) (by omega) (by omega) (by have := mn_le acc (rd_T49 l i).f0; omega)
      rw [show ((i + 1 : Nat) : Int) = (i : Int) + 1 from by omega] at this
      rw [this]; congr 1; unfold mn; (repeat' split) <;> omega
    · rw [if_neg u, if_neg u]
      have := ceil_loop l s hn d k (i + 1) acc (by omega) (by omega) ha
      rw [show ((i + 1 : Nat) : Int) = (i : Int) + 1 from by omega] at this
      exact this
theorem ceil_some (l : List S49) (s : Int) (hn : l.length ≤ 1000) {k : Nat} (hk : l.length < k) : task_Ceiling.f k l s = some (ceil l s) := by
  unfold task_Ceiling.f
  have := ceil_loop l s hn l.length k 0 1099511627776 (by omega) hk (by omega)
  rw [show ((0 : Nat) : Int) = 0 from rfl] at this
  rw [this, List.drop_zero]; congr 1
  have := ceil_never l s; unfold mn; split <;> omega

/-! ### the longest hold-up -/
/-- may a task of a greater period hold up one of a period by s? -/
def holds (l : List S49) (period : Int) (t : S49) (s : Int) : Prop := period < t.f0 ∧ uses t s = true ∧ ceil l s ≤ period
instance (l : List S49) (period : Int) (t : S49) (s : Int) : Decidable (holds l period t s) := by unfold holds; exact inferInstance
def step (l : List S49) (period : Int) (t : S49) (m s : Int) : Int := if holds l period t s then mx m (rd t.f2 s) else m
def inner (l : List S49) (period : Int) (t : S49) : Int → Nat → Nat → Int
  | m, _, 0 => m
  | m, j, d + 1 => inner l period t (step l period t m j) (j + 1) d
def outer (l : List S49) (period : Int) : Int → List S49 → Int
  | m, [] => m
  | m, t :: ts => outer l period (inner l period t m 0 t.f2.length) ts
def longest (l : List S49) (period : Int) : Int := outer l period 0 l
theorem inner_ge (l : List S49) (period : Int) (t : S49) : ∀ (d j : Nat) (m : Int), m ≤ inner l period t m j d ∧ ∀ s : Nat, j ≤ s → s < j + d → holds l period t s → rd t.f2 s ≤ inner l period t m j d
  | 0, j, m => ⟨Int.le_refl _, fun s h0 h1 => by omega⟩
  | d + 1, j, m => by
    have ih := inner_ge l period t d (j + 1) (step l period t m j)
    have hs : m ≤ step l period t m j := by unfold step; have := mx_ge m (rd t.f2 j); split <;> omega
    refine ⟨by unfold inner; omega, fun s h0 h1 hh => ?_⟩
    unfold inner
    by_cases e : s = j
    · subst e
      have : rd t.f2 s ≤ step l period t m s := by unfold step; rw [if_pos hh]; exact (mx_ge _ _).2
      omega
    · exact ih.2 s (by omega) (by omega) hh
theorem inner_of (l : List S49) (period : Int) (t : S49) : ∀ (d j : Nat) (m : Int), inner l period t m j d = m ∨ ∃ s : Nat, s < j + d ∧ holds l period t s ∧ inner l period t m j d = rd t.f2 s
  | 0, j, m => .inl rfl
  | d + 1, j, m => by
    unfold inner
    rcases inner_of l period t d (j + 1) (step l period t m j) with h | ⟨s, h0, h1, h2⟩
    · rw [h]
      unfold step
      split
      · rename_i hh
        rcases mx_cases m (rd t.f2 j) with e | e
        · exact .inl e
        · exact .inr ⟨j, by omega, hh, e⟩
      · exact .inl rfl
    · exact .inr ⟨s, by omega, h1, h2⟩
theorem outer_ge (l : List S49) (period : Int) : ∀ (ts : List S49) (m : Int), m ≤ outer l period m ts ∧ ∀ t ∈ ts, ∀ s : Nat, s < t.f2.length → holds l period t s → rd t.f2 s ≤ outer l period m ts
  | [], m => ⟨Int.le_refl _, fun t h => by cases h⟩
  | t :: ts, m => by
    have ih := outer_ge l period ts (inner l period t m 0 t.f2.length)
    have hi := inner_ge l period t t.f2.length 0 m
    refine ⟨by unfold outer; omega, fun u hu s hs hh => ?_⟩
    unfold outer
    rcases List.mem_cons.1 hu with rfl | hu
    · have := hi.2 s (by omega) (by omega) hh; omega
    · exact ih.2 u hu s hs hh
theorem outer_of (l : List S49) (period : Int) : ∀ (ts : List S49) (m : Int), outer l period m ts = m ∨ ∃ t ∈ ts, ∃ s : Nat, s < t.f2.length ∧ holds l period t s ∧ outer l period m ts = rd t.f2 s
  | [], m => .inl rfl
  | t :: ts, m => by
    unfold outer
    rcases outer_of l period ts (inner l period t m 0 t.f2.length) with h | ⟨u, hu, s, h0, h1, h2⟩
    · rw [h]
      rcases inner_of l period t t.f2.length 0 m with e | ⟨s, h0, h1, h2⟩
      · exact .inl e
      · exact .inr ⟨t, by simp, s, by omega, h1, h2⟩
    · exact .inr ⟨u, by simp [hu], s, h0, h1, h2⟩
theorem longest_nonneg (l : List S49) (period : Int) : 0 ≤ longest l period := (outer_ge l period l 0).1
theorem longest_ge {l : List S49} {period : Int} {t : S49} (ht : t ∈ l) {s : Nat} (hs : s < t.f2.length) (h : holds l period t s) : rd t.f2 s ≤ longest l period := (outer_ge l period l 0).2 t ht s hs h
theorem longest_of (l : List S49) (period : Int) : longest l period = 0 ∨ ∃ t ∈ l, ∃ s : Nat, s < t.f2.length ∧ holds l period t s ∧ longest l period = rd t.f2 s := outer_of l period l 0
/-- Fewer tasks hold up no longer. -/
theorem longest_sub {l m : List S49} {period : Int} (hp : period < 1099511627776) (h : ∀ t ∈ m, t ∈ l) : longest m period ≤ longest l period := by
  rcases longest_of m period with e | ⟨t, ht, s, hs, ⟨h1, h2, h3⟩, e⟩
  · rw [e]; exact longest_nonneg l period
  · rw [e]
    refine longest_ge (h t ht) hs ⟨h1, h2, ?_⟩
    obtain ⟨u, hu, h4⟩ := (ceil_le hp).1 h3
    exact (ceil_le hp).2 ⟨u, h u hu, h4⟩
section
variable (l : List S49) (period : Int)
theorem inner_loop (hn : l.length ≤ 1000) (t : S49) (ht : t.f2.length ≤ 1000) (xs : List S49) (n i : Int) : ∀ (d j : Nat) (k : Nat) (m : Int), j + d = t.f2.length → 1002 + d < k →
    admit_longest.l1 k l period m xs n i t.f2.length j t.f0 t.f1 t.f2 t.f3 = admit_longest.l0 (k - (d + 1)) l period (inner l period t m j d) xs n (wrap64 (i + 1))
  | 0, j, k, m, h, hk => by
    obtain ⟨k, rfl⟩ : ∃ q, k = q + 1 := ⟨k - 1, by omega⟩
    simp only [admit_longest.l1]
    rw [if_neg (by omega)]; rfl
  | d + 1, j, k, m, h, hk => by
    obtain ⟨k, rfl⟩ : ∃ q, k = q + 1 := ⟨k - 1, by omega⟩
    have ih := fun m => inner_loop hn t ht xs n i d (j + 1) k m (by omega) (by omega)
    rw [show ((j + 1 : Nat) : Int) = (j : Int) + 1 from by omega] at ih
    have hk' : k + 1 - (d + 1 + 1) = k - (d + 1) := by omega
    rw [hk']
    simp only [admit_longest.l1]
    rw [if_pos (by omega), w64 (n := (j : Int) + 1) (by omega) (by omega)]
    have hin : inner l period t m j (d + 1) = inner l period t (step l period t m j) (j + 1) d := rfl
    rw [hin]
    by_cases h1 : t.f0 > period
    · rw [if_pos h1, uses_some, Option.bind_some]
      by_cases h2 : uses t j = true
      · rw [if_pos h2, ceil_some l j hn (by omega), Option.bind_some]
        by_cases h3 : ceil l j ≤ period
        · rw [if_pos h3, if_pos (by omega), if_pos (by omega), ih]
          have : step l period t m j = mx m (rd t.f2 j) := by unfold step; rw [if_pos ⟨h1, h2, h3⟩]
          rw [this]
        · rw [if_neg h3, ih]
          have : step l period t m j = m := by unfold step; rw [if_neg (fun x => h3 x.2.2)]
          rw [this]
      · rw [if_neg h2, ih]
        have : step l period t m j = m := by unfold step; rw [if_neg (fun x => h2 x.2.1)]
        rw [this]
    · rw [if_neg h1, ih]
      have : step l period t m j = m := by unfold step; rw [if_neg (fun x => h1 x.1)]
      rw [this]
theorem outer_loop (hn : l.length ≤ 1000) (hs : ∀ t ∈ l, t.f2.length ≤ 3) : ∀ (d i : Nat) (k : Nat) (m : Int), i + d = l.length → 1010 + 5 * d < k →
    admit_longest.l0 k l period m l l.length i = some (outer l period m (l.drop i))
  | 0, i, k, m, h, hk => by
    obtain ⟨k, rfl⟩ : ∃ q, k = q + 1 := ⟨k - 1, by omega⟩
    simp only [admit_longest.l0]
    rw [if_neg (by omega), List.drop_of_length_le (by omega)]; rfl
  | d + 1, i, k, m, h, hk => by
    obtain ⟨k, rfl⟩ : ∃ q, k = q + 1 := ⟨k - 1, by omega⟩
    have hi : i < l.length := by omega
    have h3 := hs _ (rd_mem l hi)
    simp only [admit_longest.l0]
    rw [if_pos (by omega), if_pos (by omega), if_pos (by omega)]
    have e := inner_loop l period hn (rd_T49 l i) (by omega) l l.length i (rd_T49 l i).f2.length 0 k m (by omega) (by omega)
    rw [show ((0 : Nat) : Int) = 0 from rfl] at e
    rw [e, w64 (n := (i : Int) + 1) (by omega) (by omega)]
    have ih := outer_loop hn hs d (i + 1) (k - ((rd_T49 l i).f2.length + 1)) (inner l period (rd_T49 l i) m 0 (rd_T49 l i).f2.length) (by omega) (by omega)
    rw [show ((i + 1 : Nat) : Int) = (i : Int) + 1 from by omega] at ih
    rw [ih, drop_at l hi]; rfl
end
theorem longest_some {l0 : List S63} {l1 : List S66} {l2 : List S69} {idle crit sw swE sems hor : Int} (l : List S49) (period : Int) (hn : l.length ≤ 64) (hs : ∀ t ∈ l, t.f2.length ≤ 3) {k : Nat} (hk : 1400 < k) :
    admit_longest.f k l0 l1 l2 idle crit sw swE sems hor l period = some (longest l period) := by
  unfold admit_longest.f
  have := outer_loop l period (by omega) hs l.length 0 k 0 (by omega) (by omega)
  rw [show ((0 : Nat) : Int) = 0 from rfl, List.drop_zero] at this
  exact this

/-! ### tasks that may be; the hold-up, the reserve, parts, the load -/
structure TaskOk (nd : Nat) (sems hor : Int) (t : S49) : Prop where
  period : 1 ≤ t.f0 ∧ t.f0 ≤ hor
  cycles : 1 ≤ t.f1 ∧ t.f1 ≤ 4096
  secs : (t.f2.length : Int) ≤ sems
  sec : ∀ i : Int, 0 ≤ i → i < t.f2.length → 0 ≤ rd t.f2 i ∧ rd t.f2 i ≤ t.f1
  dev : ∀ i : Int, 0 ≤ i → i < t.f3.length → 0 ≤ rd t.f3 i ∧ rd t.f3 i < nd
  rising : ∀ i : Int, 0 < i → i < t.f3.length → rd t.f3 (i - 1) < rd t.f3 i
structure Mach (l0 : List S63) (l1 : List S66) (l2 : List S69) (idle crit sw swE sems hor : Int) (l : List S49) : Prop where
  table : TableOk l0 l1 l2 idle crit sw swE sems hor
  few : l.length ≤ 64
  task : ∀ t ∈ l, TaskOk l2.length sems hor t
section
variable {l0 : List S63} {l1 : List S66} {l2 : List S69} {idle crit sw swE sems hor : Int} {l : List S49}
/-- the slowest level's quanta -/
def slow (l0 : List S63) (crit : Int) : Int := (rd_T63 l0 crit).f0
def block (l0 : List S63) (crit sw : Int) (l : List S49) (period : Int) : Int := longest l period * slow l0 crit + mx (slow l0 crit) sw
def reserveOn (l0 : List S63) (crit sw : Int) (l : List S49) (ts : List S49) : Int := ts.foldr (fun t m => mx (part (block l0 crit sw l t.f0) t.f0) m) 0
def reserve (l0 : List S63) (crit sw : Int) (l : List S49) : Int := reserveOn l0 crit sw l l
def most (l0 : List S63) (sw : Int) (level : Int) (t : S49) : Int := if 0 ≤ level ∧ level < l0.length then t.f1 * (rd_T63 l0 level).f0 + 2 * sw else 0
def partOf (l0 : List S63) (sw : Int) (level : Int) (t : S49) : Int := part (most l0 sw level t) t.f0
def sumOf (f : S49 → Int) (l : List S49) : Int := (l.map f).sum
def load (l0 : List S63) (crit sw : Int) (l : List S49) (level : Int) : Int := reserve l0 crit sw l + sumOf (partOf l0 sw level) l
theorem sumOf_cons (f : S49 → Int) (t : S49) (l : List S49) : sumOf f (t :: l) = f t + sumOf f l := by simp [sumOf]
theorem sumOf_bd {f : S49 → Int} {B : Int} : ∀ {l : List S49}, (∀ t ∈ l, 0 ≤ f t ∧ f t ≤ B) → 0 ≤ sumOf f l ∧ sumOf f l ≤ l.length * B
  | [], _ => by simp [sumOf]
  | t :: l, h => by
    have a := h t (by simp)
    have b := sumOf_bd (l := l) (fun u hu => h u (by simp [hu]))
    rw [sumOf_cons]
    have e : ((t :: l).length : Int) * B = l.length * B + B := by
      simp only [List.length_cons]; rw [show ((l.length + 1 : Nat) : Int) = (l.length : Int) + 1 from by omega, Int.add_mul]; omega
    omega
theorem sumOf_le {f g : S49 → Int} : ∀ {l : List S49}, (∀ t ∈ l, f t ≤ g t) → sumOf f l ≤ sumOf g l
  | [], _ => by simp [sumOf]
  | t :: l, h => by
    have a := h t (by simp)
    have b := sumOf_le (l := l) (fun u hu => h u (by simp [hu]))
    rw [sumOf_cons, sumOf_cons]; omega

theorem head_of (h : TableOk l0 l1 l2 idle crit sw swE sems hor) : 1 ≤ (l0.length : Int) ∧ (l0.length : Int) ≤ 4 ∧ 0 ≤ crit ∧ crit < l0.length ∧ 0 ≤ sw ∧ sw ≤ 256 ∧ 0 ≤ sems ∧ sems ≤ 3 ∧ 1 ≤ hor ∧ hor ≤ 16384 := by
  have := h.head; unfold Head at this; omega
theorem level_bd (h : TableOk l0 l1 l2 idle crit sw swE sems hor) {n : Int} (h0 : 0 ≤ n) (h1 : n < l0.length) : 1 ≤ (rd_T63 l0 n).f0 ∧ (rd_T63 l0 n).f0 ≤ 256 := by
  have := (h.levels n h0 h1).1; omega
theorem slow_bd (h : TableOk l0 l1 l2 idle crit sw swE sems hor) : 1 ≤ slow l0 crit ∧ slow l0 crit ≤ 256 := by
  have := head_of h; exact level_bd h (by omega) (by omega)
theorem rises (h : TableOk l0 l1 l2 idle crit sw swE sems hor) : ∀ (d : Nat) (i : Int), 0 ≤ i → i + d < l0.length → (rd_T63 l0 i).f0 ≤ (rd_T63 l0 (i + d)).f0
  | 0, i, _, _ => by simp
  | d + 1, i, h0, h1 => by
    have := rises h d i h0 (by omega)
    have hl := (h.levels (i + (d + 1 : Nat)) (by omega) (by omega)).2.1 (by omega)
    rw [show i + ((d + 1 : Nat) : Int) - 1 = i + (d : Int) from by omega] at hl
    omega
theorem TaskOk.sem {t : S49} {nd : Nat} {sems hor : Int} (ht : TaskOk nd sems hor t) (hs : sems ≤ 3) : t.f2.length ≤ 3 := by have := ht.secs; omega
theorem longest_bd (h : Mach l0 l1 l2 idle crit sw swE sems hor l) (period : Int) : 0 ≤ longest l period ∧ longest l period ≤ 4096 := by
  refine ⟨longest_nonneg l period, ?_⟩
  rcases longest_of l period with e | ⟨t, ht, s, hs, _, e⟩
  · omega
  · have a := (h.task t ht).sec s (by omega) (by omega)
    have b := (h.task t ht).cycles
    omega
theorem block_bd (h : Mach l0 l1 l2 idle crit sw swE sems hor l) (period : Int) : 1 ≤ block l0 crit sw l period ∧ block l0 crit sw l period ≤ 1048832 := by
  have a := longest_bd h period
  have b := slow_bd h.table
  have c := head_of h.table
  have m1 : 0 ≤ longest l period * slow l0 crit := Int.mul_nonneg a.1 (by omega)
  have m2 : longest l period * slow l0 crit ≤ 4096 * 256 := Int.mul_le_mul a.2 b.2 (by omega) (by omega)
  have d := mx_ge (slow l0 crit) sw
  have e := mx_le (c := 256) b.2 (show sw ≤ 256 by omega)
  unfold block; omega
theorem most_bd (h : TableOk l0 l1 l2 idle crit sw swE sems hor) {t : S49} (ht : TaskOk l2.length sems hor t) (level : Int) : 0 ≤ most l0 sw level t ∧ most l0 sw level t ≤ 1049088 := by
  have c := head_of h
  unfold most
  split
  · rename_i hl
    have b := level_bd h hl.1 hl.2
    have y := ht.cycles
    have m1 : 0 ≤ t.f1 * (rd_T63 l0 level).f0 := Int.mul_nonneg (by omega) (by omega)
    have m2 : t.f1 * (rd_T63 l0 level).f0 ≤ 4096 * 256 := Int.mul_le_mul y.2 b.2 (by omega) (by omega)
    omega
  · omega
theorem partOf_bd (h : TableOk l0 l1 l2 idle crit sw swE sems hor) {t : S49} (ht : TaskOk l2.length sems hor t) (level : Int) : 0 ≤ partOf l0 sw level t ∧ partOf l0 sw level t ≤ 4505798650626048 := by
  have a := most_bd h ht level
  have b := part_nonneg a.1 ht.period.1
  have c := part_le a.1 ht.period.1
  unfold partOf; omega
theorem reserveOn_cons (t : S49) (ts : List S49) : reserveOn l0 crit sw l (t :: ts) = mx (part (block l0 crit sw l t.f0) t.f0) (reserveOn l0 crit sw l ts) := rfl
theorem reserveOn_bd (h : Mach l0 l1 l2 idle crit sw swE sems hor l) : ∀ {ts : List S49}, (∀ t ∈ ts, t ∈ l) → 0 ≤ reserveOn l0 crit sw l ts ∧ reserveOn l0 crit sw l ts ≤ 4504699138998272
  | [], _ => by simp [reserveOn]
  | t :: ts, hs => by
    have ih := reserveOn_bd h (ts := ts) (fun u hu => hs u (by simp [hu]))
    have ht := (h.task t (hs t (by simp))).period
    have a := block_bd h t.f0
    have b := part_nonneg (show 0 ≤ block l0 crit sw l t.f0 by omega) ht.1
    have c := part_le (show 0 ≤ block l0 crit sw l t.f0 by omega) ht.1
    have d := mx_ge (part (block l0 crit sw l t.f0) t.f0) (reserveOn l0 crit sw l ts)
    rw [reserveOn_cons]
    exact ⟨by omega, mx_le (by omega) ih.2⟩
theorem reserve_bd (h : Mach l0 l1 l2 idle crit sw swE sems hor l) : 0 ≤ reserve l0 crit sw l ∧ reserve l0 crit sw l ≤ 4504699138998272 := reserveOn_bd h (fun _ h => h)
theorem reserveOn_ge {ts : List S49} {t : S49} (ht : t ∈ ts) : part (block l0 crit sw l t.f0) t.f0 ≤ reserveOn l0 crit sw l ts := by
  induction ts with
  | nil => cases ht
  | cons u ts ih =>
    rw [reserveOn_cons]
    have := mx_ge (part (block l0 crit sw l u.f0) u.f0) (reserveOn l0 crit sw l ts)
    rcases List.mem_cons.1 ht with rfl | ht
    · omega
    · have := ih ht; omega
theorem reserveOn_le {ts : List S49} {B : Int} (h0 : 0 ≤ B) (h : ∀ t ∈ ts, part (block l0 crit sw l t.f0) t.f0 ≤ B) : reserveOn l0 crit sw l ts ≤ B := by
  induction ts with
  | nil => exact h0
  | cons u ts ih => rw [reserveOn_cons]; exact mx_le (h u (by simp)) (ih (fun t ht => h t (by simp [ht])))
theorem load_bd (h : Mach l0 l1 l2 idle crit sw swE sems hor l) (level : Int) : 0 ≤ load l0 crit sw l level ∧ load l0 crit sw l level ≤ 300000000000000000 := by
  have a := reserve_bd h
  have b := sumOf_bd (f := partOf l0 sw level) (l := l) (fun t ht => partOf_bd h.table (h.task t ht) level)
  have c : (l.length : Int) * 4505798650626048 ≤ 64 * 4505798650626048 := Int.mul_le_mul_of_nonneg_right (by have := h.few; omega) (by omega)
  unfold load; omega

/-! ### what the program tells -/
theorem block_some (h : Mach l0 l1 l2 idle crit sw swE sems hor l) (period : Int) {k : Nat} (hk : 1400 < k) : admit_Block.f k l0 l1 l2 idle crit sw swE sems hor l period = some (block l0 crit sw l period) := by
  have c := head_of h.table
  have a := longest_bd h period
  have b := slow_bd h.table
  have d := block_bd h period
  have m1 : 0 ≤ longest l period * slow l0 crit := Int.mul_nonneg a.1 (by omega)
  have m2 : longest l period * slow l0 crit ≤ 4096 * 256 := Int.mul_le_mul a.2 b.2 (by omega) (by omega)
  unfold admit_Block.f
  rw [if_pos (by omega), if_pos (by omega), longest_some l period h.few (fun t ht => (h.task t ht).sem (by omega)) hk, Option.bind_some]
  have e : (rd_T63 l0 crit).f0 = slow l0 crit := rfl
  rw [e, w64 (n := longest l period * slow l0 crit) (by omega) (by omega)]
  unfold block at d ⊢
  rw [w64 (by omega) (by omega)]
theorem quanta_some (h : TableOk l0 l1 l2 idle crit sw swE sems hor) {t : S49} (ht : TaskOk l2.length sems hor t) (level : Int) : admit_Quanta.f l0 l1 l2 idle crit sw swE sems hor t.f0 t.f1 t.f2 t.f3 level = some (most l0 sw level t) := by
  have c := head_of h
  unfold admit_Quanta.f most
  by_cases h0 : level < 0
  · rw [if_pos h0, if_neg (by omega)]
  · by_cases h1 : level ≥ l0.length
    · rw [if_neg h0, if_pos h1, if_neg (by omega)]
    · rw [if_neg h0, if_neg h1, if_pos (by omega), if_pos (by omega), if_pos (by omega)]
      have b := level_bd h (show 0 ≤ level by omega) (show level < l0.length by omega)
      have y := ht.cycles
      have m1 : 0 ≤ t.f1 * (rd_T63 l0 level).f0 := Int.mul_nonneg (by omega) (by omega)
      have m2 : t.f1 * (rd_T63 l0 level).f0 ≤ 4096 * 256 := Int.mul_le_mul y.2 b.2 (by omega) (by omega)
      rw [w64 (n := t.f1 * (rd_T63 l0 level).f0) (by omega) (by omega), w64 (n := 2 * sw) (by omega) (by omega), w64 (by omega) (by omega)]
theorem part_some (h : TableOk l0 l1 l2 idle crit sw swE sems hor) {t : S49} (ht : TaskOk l2.length sems hor t) (level : Int) : admit_Part.f l0 l1 l2 idle crit sw swE sems hor t.f0 t.f1 t.f2 t.f3 level = some (partOf l0 sw level t) := by
  have a := most_bd h ht level
  unfold admit_Part.f
  rw [quanta_some h ht, Option.bind_some, util_some ht.period.1, quanta_id a.1 (by omega)]; rfl
theorem reserve_loop (h : Mach l0 l1 l2 idle crit sw swE sems hor l) : ∀ (d i k : Nat) (acc : Int), i + d = l.length → 1500 + d < k →
    admit_Reserve.l0 k l acc l l.length i l0 l1 l2 idle crit sw swE sems hor = some (mx acc (reserveOn l0 crit sw l (l.drop i))) ∨ acc < 0
  | 0, i, k, acc, hd, hk => by
    obtain ⟨k, rfl⟩ : ∃ q, k = q + 1 := ⟨k - 1, by omega⟩
    simp only [admit_Reserve.l0]
    rw [if_neg (by omega), List.drop_of_length_le (by omega)]
    by_cases ha : acc < 0
    · exact .inr ha
    · left; congr 1; unfold reserveOn mx; simp; omega
  | d + 1, i, k, acc, hd, hk => by
    by_cases ha : acc < 0
    · exact .inr ha
    left
    obtain ⟨k, rfl⟩ : ∃ q, k = q + 1 := ⟨k - 1, by omega⟩
    have hi : i < l.length := by omega
    have hf := h.few
    have ht := (h.task _ (rd_mem l hi)).period
    have b := block_bd h (rd_T49 l i).f0
    simp only [admit_Reserve.l0]
    rw [if_pos (by omega), if_pos (by omega), if_pos (by omega), block_some h _ (by omega), Option.bind_some, util_some ht.1, Option.bind_some, quanta_id (by omega) (by omega), w64 (n := (i : Int) + 1) (by omega) (by omega)]
    have ih := reserve_loop h d (i + 1) k (mx acc (part (block l0 crit sw l (rd_T49 l i).f0) (rd_T49 l i).f0)) (by omega) (by omega)
    rw [show ((i + 1 : Nat) : Int) = (i : Int) + 1 from by omega] at ih
    have hm := mx_ge acc (part (block l0 crit sw l (rd_T49 l i).f0) (rd_T49 l i).f0)
    rcases ih with ih | ih
    · rw [ih, drop_at l hi, reserveOn_cons]; congr 1; unfold mx; (repeat' split) <;> omega
    · omega
theorem reserve_some (h : Mach l0 l1 l2 idle crit sw swE sems hor l) {k : Nat} (hk : 1600 < k) : admit_Reserve.f k l0 l1 l2 idle crit sw swE sems hor l = some (reserve l0 crit sw l) := by
  unfold admit_Reserve.f
  have hf := h.few
  have := reserve_loop h l.length 0 k 0 (by omega) (by omega)
  rw [show ((0 : Nat) : Int) = 0 from rfl, List.drop_zero] at this
  rcases this with e | e
  · rw [e]; congr 1; have := (reserve_bd h).1; unfold reserve at this ⊢; unfold mx; split <;> omega
  · omega
theorem load_loop (h : Mach l0 l1 l2 idle crit sw swE sems hor l) (level : Int) : ∀ (d i k : Nat) (acc : Int), i + d = l.length → d < k → 0 ≤ acc → acc + d * 4505798650626048 ≤ 4611686018427387904 →
    admit_Load.l0 k level acc l l.length i l0 l1 l2 idle crit sw swE sems hor = some (acc + sumOf (partOf l0 sw level) (l.drop i))
  | 0, i, k, acc, hd, hk, h0, h1 => by
    obtain ⟨k, rfl⟩ : ∃ q, k = q + 1 := ⟨k - 1, by omega⟩
    simp only [admit_Load.l0]
    rw [if_neg (by omega), List.drop_of_length_le (by omega)]
    simp [sumOf]
  | d + 1, i, k, acc, hd, hk, h0, h1 => by
    obtain ⟨k, rfl⟩ : ∃ q, k = q + 1 := ⟨k - 1, by omega⟩
    have hi : i < l.length := by omega
    have hf := h.few
    have ht := h.task _ (rd_mem l hi)
    have b := partOf_bd h.table ht level
    simp only [admit_Load.l0]
    rw [if_pos (by omega), if_pos (by omega), if_pos (by omega), part_some h.table ht, Option.bind_some, w64 (n := (i : Int) + 1) (by omega) (by omega), w64 (n := acc + partOf l0 sw level (rd_T49 l i)) (by omega) (by omega)]
    have ih := load_loop h level d (i + 1) k (acc + partOf l0 sw level (rd_T49 l i)) (by omega) (by omega) (by omega) (by omega)
    rw [show ((i + 1 : Nat) : Int) = (i : Int) + 1 from by omega] at ih
    rw [ih, drop_at l hi, sumOf_cons]; congr 1; omega
theorem load_some (h : Mach l0 l1 l2 idle crit sw swE sems hor l) (level : Int) {k : Nat} (hk : 1600 < k) : admit_Load.f k l0 l1 l2 idle crit sw swE sems hor l level = some (load l0 crit sw l level) := by
  have hf := h.few
  have a := reserve_bd h
  unfold admit_Load.f
  rw [reserve_some h hk, Option.bind_some]
  have := load_loop h level l.length 0 k (reserve l0 crit sw l) (by omega) (by omega) a.1 (by omega)
  rw [show ((0 : Nat) : Int) = 0 from rfl, List.drop_zero] at this
  exact this
theorem fits_some (h : Mach l0 l1 l2 idle crit sw swE sems hor l) {k : Nat} (hk : 1600 < k) : admit_Fits.f k l0 l1 l2 idle crit sw swE sems hor l = some (decide (load l0 crit sw l 0 ≤ 4294967296)) := by
  unfold admit_Fits.f; rw [load_some h 0 hk, Option.bind_some]
end
end Go.Proofs.Ytdjmcjfdkcckoaa.Adm
