/- The parts of two are together what the part of both is, or one unit more. Conditions: none. -/
import Derived.Test.YtlengdappojlbaaPFixSumx1
namespace Go.Proofs.Ytlengdappojlbaa.Pure
open Go.RowKit Go.Proofs.Ytlengdappojlbaa.PFixSum Go.Proofs.YtlengdappojlbaaW.PrintWords Go.Proofs.YtlengdappojlbaaW.PrintLast

theorem w64 {n : Int} (h0 : -9223372036854775808 ≤ n) (h1 : n ≤ 9223372036854775807) : wrap64 n = n := by unfold wrap64; omega

theorem bd_i64 {n : Int} (h : (Lit.int .i64 n).wf = true) : -9223372036854775808 ≤ n ∧ n ≤ 9223372036854775807 := by
  simp [Lit.wf, IntKind.min, IntKind.max, IntKind.signed, IntKind.bits] at h; omega
theorem bd_i32 {n : Int} (h : (Lit.int .i32 n).wf = true) : -2147483648 ≤ n ∧ n ≤ 2147483647 := by
  simp [Lit.wf, IntKind.min, IntKind.max, IntKind.signed, IntKind.bits] at h; omega
theorem bd_u32 {n : Int} (h : (Lit.int .u32 n).wf = true) : 0 ≤ n ∧ n ≤ 4294967295 := by
  simp [Lit.wf, IntKind.min, IntKind.max, IntKind.signed, IntKind.bits] at h; omega

/-- so many quanta as a part of a period, rounded up -/
def part (c t : Int) : Int := (c * 4294967296 + t - 1) / t

/-- a number brought into the range of quanta -/
def quanta (c : Int) : Int := if c < 0 then 0 else if 536870912 < c then 536870912 else c

theorem quanta_bd (c : Int) : 0 ≤ quanta c ∧ quanta c ≤ 536870912 := by unfold quanta; split <;> (try split) <;> omega
theorem quanta_id {c : Int} (h0 : 0 ≤ c) (h1 : c ≤ 536870912) : quanta c = c := by unfold quanta; rw [if_neg (by omega), if_neg (by omega)]
theorem quanta_mono {a b : Int} (h : a ≤ b) : quanta a ≤ quanta b := by unfold quanta; split <;> split <;> (try split) <;> (try split) <;> omega

theorem ceil_eq {n t : Int} (ht : 1 ≤ t) : n / t + (if n % t = 0 then 0 else 1) = (n + t - 1) / t := by
  have h1 := Int.emod_nonneg n (show t ≠ 0 by omega)
  have h2 := Int.emod_lt_of_pos n (show 0 < t by omega)
  have h3 : n = t * (n / t) + n % t := (Int.mul_ediv_add_emod n t).symm
  have h4 : (n + t - 1) / t = (n % t + t - 1) / t + n / t := by
    have : n + t - 1 = (n % t + t - 1) + t * (n / t) := by omega
    rw [this, Int.add_mul_ediv_left _ _ (show t ≠ 0 by omega)]
  rw [h4]
  by_cases hz : n % t = 0
  · have e : (0 + t - 1) / t = 0 := Int.ediv_eq_zero_of_lt (by omega) (by omega)
    rw [if_pos hz, hz, e]; omega
  · have e : (n % t - 1) / t = 0 := Int.ediv_eq_zero_of_lt (by omega) (by omega)
    rw [if_neg hz]
    have : n % t + t - 1 = (n % t - 1) + t * 1 := by omega
    rw [this, Int.add_mul_ediv_left _ _ (show t ≠ 0 by omega), e]; omega

theorem part_lo (c t : Int) (ht : 1 ≤ t) : c * 4294967296 ≤ part c t * t := by
  unfold part
  have h1 := Int.emod_nonneg (c * 4294967296 + t - 1) (show t ≠ 0 by omega)
  have h2 := Int.emod_lt_of_pos (c * 4294967296 + t - 1) (show 0 < t by omega)
  have h3 := Int.mul_ediv_add_emod (c * 4294967296 + t - 1) t
  rw [Int.mul_comm] at h3
  omega
theorem part_hi (c t : Int) (ht : 1 ≤ t) : part c t * t < c * 4294967296 + t := by
  unfold part
  have h1 := Int.emod_nonneg (c * 4294967296 + t - 1) (show t ≠ 0 by omega)
  have h2 := Int.emod_lt_of_pos (c * 4294967296 + t - 1) (show 0 < t by omega)
  have h3 := Int.mul_ediv_add_emod (c * 4294967296 + t - 1) t
  rw [Int.mul_comm] at h3
  omega
theorem part_nonneg {c t : Int} (hc : 0 ≤ c) (ht : 1 ≤ t) : 0 ≤ part c t := Int.ediv_nonneg (by omega) (by omega)
theorem part_le {c t : Int} (hc : 0 ≤ c) (ht : 1 ≤ t) : part c t ≤ c * 4294967296 := by
  unfold part
  apply Int.le_of_lt_add_one
  apply Int.ediv_lt_of_lt_mul (by omega)
  have : (c * 4294967296 + 1) * t = c * 4294967296 * t + t := by rw [Int.add_mul]; omega
  have h2 : c * 4294967296 * 1 ≤ c * 4294967296 * t := Int.mul_le_mul_of_nonneg_left ht (by omega)
  omega
theorem part_unique {c t u : Int} (ht : 1 ≤ t) (h0 : c * 4294967296 ≤ u * t) (h1 : u * t < c * 4294967296 + t) : part c t = u := by
  have a := part_lo c t ht
  have b := part_hi c t ht
  apply Classical.byContradiction
  intro hne
  rcases Int.lt_or_gt_of_ne hne with h | h
  · have : (part c t + 1) * t ≤ u * t := Int.mul_le_mul_of_nonneg_right (by omega) (by omega)
    rw [Int.add_mul] at this; omega
  · have : (u + 1) * t ≤ part c t * t := Int.mul_le_mul_of_nonneg_right (by omega) (by omega)
    rw [Int.add_mul] at this; omega
theorem part_mono {a b t : Int} (h : a ≤ b) (ht : 1 ≤ t) : part a t ≤ part b t := by
  unfold part
  exact Int.ediv_le_ediv (by omega) (by omega)
theorem part_anti {c s t : Int} (hc : 0 ≤ c) (hs : 1 ≤ s) (h : s ≤ t) : part c t ≤ part c s := by
  have a := part_lo c s hs
  have b := part_hi c t (by omega)
  have p := part_nonneg hc hs
  have q : part c s * s ≤ part c s * t := Int.mul_le_mul_of_nonneg_left h p
  apply Classical.byContradiction
  intro hne
  have : (part c s + 1) * t ≤ part c t * t := Int.mul_le_mul_of_nonneg_right (by omega) (by omega)
  rw [Int.add_mul] at this; omega

theorem clamp_quanta (c : Int) : fix_clamp_int.f c 0 536870912 = some (quanta c) := by
  unfold fix_clamp_int.f quanta mn mx
  congr 1
  (repeat' split) <;> omega

theorem util_some {c t : Int} (ht : 1 ≤ t) : fix_Util.f c t = some (part (quanta c) t) := by
  have hb := quanta_bd c
  unfold fix_Util.f
  rw [if_neg (by omega), clamp_quanta, Option.bind_some, if_neg (by omega)]
  rw [w64 (n := quanta c * 4294967296) (by omega) (by omega)]
  have hn : 0 ≤ quanta c * 4294967296 := by omega
  rw [Int.tdiv_eq_ediv_of_nonneg hn, Int.tmod_eq_emod_of_nonneg hn]
  have h1 := Int.emod_nonneg (quanta c * 4294967296) (show t ≠ 0 by omega)
  have h5 := Int.ediv_nonneg hn (show 0 ≤ t by omega)
  have h6 := Int.ediv_le_self t hn
  have hm : mn (quanta c * 4294967296 % t) 1 = if quanta c * 4294967296 % t = 0 then 0 else 1 := by
    unfold mn; split <;> split <;> omega
  rw [w64 (n := quanta c * 4294967296 / t) (by omega) (by omega), hm]
  have hle : (if quanta c * 4294967296 % t = 0 then (0 : Int) else 1) ≤ 1 ∧ 0 ≤ (if quanta c * 4294967296 % t = 0 then (0 : Int) else 1) := by split <;> omega
  rw [w64 (by omega) (by omega), ceil_eq ht]
  rfl
theorem util_none {c t : Int} (ht : t < 1) : fix_Util.f c t = some 1099511627776 := by unfold fix_Util.f; rw [if_pos ht]

theorem answers_yes : dormouselaw01_answers.f = some true := by decide +kernel

theorem FixSum : dormouselaw01_FixSum.Pure := by
  intro a b c ha hb hc
  have ha := bd_u32 ha
  have hb := bd_u32 hb
  have hc := bd_u32 hc
  unfold dormouselaw01_FixSum.f
  rw [answers_yes, Int.tmod_eq_emod_of_nonneg ha.1, Int.tmod_eq_emod_of_nonneg hb.1]
  rw [w64 (n := a % 268435456) (by omega) (by omega), w64 (n := b % 268435456) (by omega) (by omega), w64 (n := c) (by omega) (by omega), w64 (n := c + 1) (by omega) (by omega), w64 (n := a % 268435456 + b % 268435456) (by omega) (by omega)]
  obtain ⟨x, hx⟩ : ∃ x, x = a % 268435456 := ⟨_, rfl⟩
  obtain ⟨y, hy⟩ : ∃ y, y = b % 268435456 := ⟨_, rfl⟩
  obtain ⟨t, ht⟩ : ∃ t, t = c + 1 := ⟨_, rfl⟩
  rw [← hx, ← hy, ← ht]
  have ht0 : 1 ≤ t := by omega
  rw [util_some ht0, util_some ht0, util_some ht0, quanta_id (by omega) (by omega), quanta_id (by omega) (by omega), quanta_id (by omega) (by omega)]
  simp only [Option.bind_some, if_true]
  have x1 := part_lo x t ht0
  have x2 := part_hi x t ht0
  have y1 := part_lo y t ht0
  have y2 := part_hi y t ht0
  have z1 := part_lo (x + y) t ht0
  have z2 := part_hi (x + y) t ht0
  have x3 := part_nonneg (show 0 ≤ x by omega) ht0
  have x4 := part_le (show 0 ≤ x by omega) ht0
  have y3 := part_nonneg (show 0 ≤ y by omega) ht0
  have y4 := part_le (show 0 ≤ y by omega) ht0
  have z3 := part_nonneg (show 0 ≤ x + y by omega) ht0
  have z4 := part_le (show 0 ≤ x + y by omega) ht0
  rw [w64 (n := part x t + part y t) (by omega) (by omega), w64 (n := part x t + part y t - part (x + y) t) (by omega) (by omega)]
  have d : part x t + part y t - part (x + y) t = 0 ∨ part x t + part y t - part (x + y) t = 1 := by
    obtain ⟨d, hd⟩ : ∃ d, d = part x t + part y t - part (x + y) t := ⟨_, rfl⟩
    rw [← hd]
    have e : d * t = part x t * t + part y t * t - part (x + y) t * t := by rw [hd, Int.sub_mul, Int.add_mul]
    have lo : -1 < d := by
      apply Classical.byContradiction; intro h
      have : d * t ≤ (-1) * t := Int.mul_le_mul_of_nonneg_right (by omega) (by omega)
      omega
    have hi : d < 2 := by
      apply Classical.byContradiction; intro h
      have : 2 * t ≤ d * t := Int.mul_le_mul_of_nonneg_right (by omega) (by omega)
      omega
    omega
  rcases d with d | d
  · rw [if_pos d]
  · rw [if_neg (by omega), d]; rfl

end Go.Proofs.Ytlengdappojlbaa.Pure
