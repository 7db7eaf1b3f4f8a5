/- The program's Util and the reference's are the same for every two numbers. Conditions: none. -/
import Derived.Test.YtlengdappojlbaaPFixUtilx1
namespace Go.Proofs.Ytlengdappojlbaa.Pure
open Go.RowKit Go.Proofs.Ytlengdappojlbaa.PFixUtil Go.Proofs.YtlengdappojlbaaW.PrintWords Go.Proofs.YtlengdappojlbaaW.PrintLast

theorem w64 {n : Int} (h0 : -9223372036854775808 ≤ n) (h1 : n ≤ 9223372036854775807) : wrap64 n = n := by unfold wrap64; omega

theorem bd_i64 {n : Int} (h : (Lit.int .i64 n).wf = true) : -9223372036854775808 ≤ n ∧ n ≤ 9223372036854775807 := by
  simp [Lit.wf, IntKind.min, IntKind.max, IntKind.signed, IntKind.bits] at h; omega
theorem bd_i32 {n : Int} (h : (Lit.int .i32 n).wf = true) : -2147483648 ≤ n ∧ n ≤ 2147483647 := by
  simp [Lit.wf, IntKind.min, IntKind.max, IntKind.signed, IntKind.bits] at h; omega
theorem bd_u32 {n : Int} (h : (Lit.int .u32 n).wf = true) : 0 ≤ n ∧ n ≤ 4294967295 := by
  simp [Lit.wf, IntKind.min, IntKind.max, IntKind.signed, IntKind.bits] at h; omega

/-- so many quanta as a part of a period, rounded up -/
def part (c t : Int) : Int := (c * 4294967296 + t - 1) / t

/-- a number brought into the range of quanta -/
def quanta (c : Int) : Int := if c < 0 then 0 else if 536870912 < c then 536870912 else c

theorem quanta_bd (c : Int) : 0 ≤ quanta c ∧ quanta c ≤ 536870912 := by unfold quanta; split <;> (try split) <;> omega
theorem quanta_id {c : Int} (h0 : 0 ≤ c) (h1 : c ≤ 536870912) : quanta c = c := by unfold quanta; rw [if_neg (by omega), if_neg (by omega)]
theorem quanta_mono {a b : Int} (h : a ≤ b) : quanta a ≤ quanta b := by unfold quanta; split <;> split <;> (try split) <;> (try split) <;> omega

theorem ceil_eq {n t : Int} (ht : 1 ≤ t) : n / t + (if n % t = 0 then 0 else 1) = (n + t - 1) / t := by
  have h1 := Int.emod_nonneg n (show t ≠ 0 by omega)
  have h2 := Int.emod_lt_of_pos n (show 0 < t by omega)
  have h3 : n = t * (n / t) + n % t := (Int.mul_ediv_add_emod n t).symm
  have h4 : (n + t - 1) / t = (n % t + t - 1) / t + n / t := by
    have : n + t - 1 = (n % t + t - 1) + t * (n / t) := by omega
    rw [this, Int.add_mul_ediv_left _ _ (show t ≠ 0 by omega)]
  rw [h4]
  by_cases hz : n % t = 0
  · have e : (0 + t - 1) / t = 0 := Int.ediv_eq_zero_of_lt (by omega) (by omega)
    rw [if_pos hz, hz, e]; omega
  · have e : (n % t - 1) / t = 0 := Int.ediv_eq_zero_of_lt (by omega) (by omega)
    rw [if_neg hz]
    have : n % t + t - 1 = (n % t - 1) + t * 1 := by omega
    rw [this, Int.add_mul_ediv_left _ _ (show t ≠ 0 by omega), e]; omega

theorem part_lo (c t : Int) (ht : 1 ≤ t) : c * 4294967296 ≤ part c t * t := by
  unfold part
  have h1 := Int.emod_nonneg (c * 4294967296 + t - 1) (show t ≠ 0 by omega)
  have h2 := Int.emod_lt_of_pos (c * 4294967296 + t - 1) (show 0 < t by omega)
  have h3 := Int.mul_ediv_add_emod (c * 4294967296 + t - 1) t
  rw [Int.mul_comm] at h3
  omega
theorem part_hi (c t : Int) (ht : 1 ≤ t) : part c t * t < c * 4294967296 + t := by
  unfold part
  have h1 := Int.emod_nonneg (c * 4294967296 + t - 1) (show t ≠ 0 by omega)
  have h2 := Int.emod_lt_of_pos (c * 4294967296 + t - 1) (show 0 < t by omega)
  have h3 := Int.mul_ediv_add_emod (c * 4294967296 + t - 1) t
  rw [Int.mul_comm] at h3
  omega
theorem part_nonneg {c t : Int} (hc : 0 ≤ c) (ht : 1 ≤ t) : 0 ≤ part c t := Int.ediv_nonneg (by omega) (by omega)
theorem part_le {c t : Int} (hc : 0 ≤ c) (ht : 1 ≤ t) : part c t ≤ c * 4294967296 := by
  unfold part
  apply Int.le_of_lt_add_one
  apply Int.ediv_lt_of_lt_mul (by omega)
  have : (c * 4294967296 + 1) * t = c * 4294967296 * t + t := by rw [Int.add_mul]; omega
  have h2 : c * 4294967296 * 1 ≤ c * 4294967296 * t := Int.mul_le_mul_of_nonneg_left ht (by omega)
  omega
theorem part_unique {c t u : Int} (ht : 1 ≤ t) (h0 : c * 4294967296 ≤ u * t) (h1 : u * t < c * 4294967296 + t) : part c t = u := by
  have a := part_lo c t ht
  have b := part_hi c t ht
  apply Classical.byContradiction
  intro hne
  rcases Int.lt_or_gt_of_ne hne with h | h
  · have : (part c t + 1) * t ≤ u * t := Int.mul_le_mul_of_nonneg_right (by omega) (by omega)
    rw [Int.add_mul] at this; omega
  · have : (u + 1) * t ≤ part c t * t := Int.mul_le_mul_of_nonneg_right (by omega) (by omega)
    rw [Int.add_mul] at this; omega
theorem part_mono {a b t : Int} (h : a ≤ b) (ht : 1 ≤ t) : part a t ≤ part b t := by
  unfold part
  exact Int.ediv_le_ediv (by omega) (by omega)
theorem part_anti {c s t : Int} (hc : 0 ≤ c) (hs : 1 ≤ s) (h : s ≤ t) : part c t ≤ part c s := by
  have a := part_lo c s hs
  have b := part_hi c t (by omega)
  have p := part_nonneg hc hs
  have q : part c s * s ≤ part c s * t := Int.mul_le_mul_of_nonneg_left h p
  apply Classical.byContradiction
  intro hne
  have : (part c s + 1) * t ≤ part c t * t := Int.mul_le_mul_of_nonneg_right (by omega) (by omega)
  rw [Int.add_mul] at this; omega

theorem clamp_quanta (c : Int) : fix_clamp_int.f c 0 536870912 = some (quanta c) := by
  unfold fix_clamp_int.f quanta mn mx
  congr 1
  (repeat' split) <;> omega

theorem util_some {c t : Int} (ht : 1 ≤ t) : fix_Util.f c t = some (part (quanta c) t) := by
  have hb := quanta_bd c
  unfold fix_Util.f
  rw [if_neg (by omega), clamp_quanta, Option.bind_some, if_neg (by omega)]
  rw [w64 (n := quanta c * 4294967296) (by omega) (by omega)]
  have hn : 0 ≤ quanta c * 4294967296 := by omega
  rw [Int.tdiv_eq_ediv_of_nonneg hn, Int.tmod_eq_emod_of_nonneg hn]
  have h1 := Int.emod_nonneg (quanta c * 4294967296) (show t ≠ 0 by omega)
  have h5 := Int.ediv_nonneg hn (show 0 ≤ t by omega)
  have h6 := Int.ediv_le_self t hn
  have hm : mn (quanta c * 4294967296 % t) 1 = if quanta c * 4294967296 % t = 0 then 0 else 1 := by
    unfold mn; split <;> split <;> omega
  rw [w64 (n := quanta c * 4294967296 / t) (by omega) (by omega), hm]
  have hle : (if quanta c * 4294967296 % t = 0 then (0 : Int) else 1) ≤ 1 ∧ 0 ≤ (if quanta c * 4294967296 % t = 0 then (0 : Int) else 1) := by split <;> omega
  rw [w64 (by omega) (by omega), ceil_eq ht]
  rfl
theorem util_none {c t : Int} (ht : t < 1) : fix_Util.f c t = some 1099511627776 := by unfold fix_Util.f; rw [if_pos ht]

theorem answers_yes : dormouselaw01_answers.f = some true := by decide +kernel

theorem ref_clamp (n a b : Int) (h : a ≤ b) : dormouseref01_clamp.f n a b = some (mn (mx n a) b) := by
  unfold dormouseref01_clamp.f mn mx
  by_cases h1 : n < a
  · rw [if_pos h1]; congr 1; rw [if_pos h1, if_neg (by omega)]
  · rw [if_neg h1, if_neg h1]
    by_cases h2 : n > b
    · rw [if_pos h2, if_pos h2]
    · rw [if_neg h2, if_neg h2]

theorem FixUtil : dormouselaw01_FixUtil.Pure := by
  intro c t hc ht
  unfold dormouselaw01_FixUtil.f
  rw [answers_yes, Option.bind_some, if_pos rfl]
  by_cases h : t < 1
  · rw [util_none h]; unfold dormouseref01_Util.f; rw [if_pos h]; rfl
  · have h1 : 1 ≤ t := by omega
    rw [util_some h1]
    have hb := quanta_bd c
    have hq : mn (mx c 0) 536870912 = quanta c := by have := clamp_quanta c; unfold fix_clamp_int.f at this; exact Option.some.inj this
    have hr : dormouseref01_Util.f c t = some (part (quanta c) t) := by
      unfold dormouseref01_Util.f
      rw [if_neg (by omega), ref_clamp _ _ _ (by omega), hq, Option.bind_some, if_neg (by omega)]
      rw [w64 (n := quanta c * 4294967296) (by omega) (by omega)]
      have hn : 0 ≤ quanta c * 4294967296 := by omega
      rw [Int.tdiv_eq_ediv_of_nonneg hn, Int.tmod_eq_emod_of_nonneg hn]
      have h5 := Int.ediv_nonneg hn (show 0 ≤ t by omega)
      have h6 := Int.ediv_le_self t hn
      have e := ceil_eq (n := quanta c * 4294967296) h1
      rw [w64 (n := quanta c * 4294967296 / t) (by omega) (by omega), w64 (by omega) (by omega)]
      unfold part
      rw [← e]
      by_cases hz : quanta c * 4294967296 % t = 0
      · rw [if_pos hz, if_pos hz]; simp
      · rw [if_neg hz, if_neg hz]
    rw [hr]; simp

end Go.Proofs.Ytlengdappojlbaa.Pure
