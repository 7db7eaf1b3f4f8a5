/- A part is enough for its quanta in each period, and one unit less is not (the walk). Conditions: none. -/
import Derived.Test.YtlengdappojlbaaPFixSumx1
namespace Go.Proofs.Ytlengdappojlbaa.HEnough
open Go.RowKit Go.Proofs.Ytlengdappojlbaa.PFixSum Go.Proofs.YtlengdappojlbaaW.PrintWords Go.Proofs.YtlengdappojlbaaW.PrintLast Go.Proofs.YtlengdappojlbaaW.PrintMore
attribute [local go_sem] max2_int min2_int max_two min_two max_three min_three max_four min_four

theorem w64 {n : Int} (h0 : -9223372036854775808 ≤ n) (h1 : n ≤ 9223372036854775807) : wrap64 n = n := by unfold wrap64; omega

theorem bd_i64 {n : Int} (h : (Lit.int .i64 n).wf = true) : -9223372036854775808 ≤ n ∧ n ≤ 9223372036854775807 := by
  simp [Lit.wf, IntKind.min, IntKind.max, IntKind.signed, IntKind.bits] at h; omega
theorem bd_i32 {n : Int} (h : (Lit.int .i32 n).wf = true) : -2147483648 ≤ n ∧ n ≤ 2147483647 := by
  simp [Lit.wf, IntKind.min, IntKind.max, IntKind.signed, IntKind.bits] at h; omega
theorem bd_u32 {n : Int} (h : (Lit.int .u32 n).wf = true) : 0 ≤ n ∧ n ≤ 4294967295 := by
  simp [Lit.wf, IntKind.min, IntKind.max, IntKind.signed, IntKind.bits] at h; omega

/-- so many quanta as a part of a period, rounded up -/
def part (c t : Int) : Int := (c * 4294967296 + t - 1) / t

/-- a number brought into the range of quanta -/
def quanta (c : Int) : Int := if c < 0 then 0 else if 536870912 < c then 536870912 else c

theorem quanta_bd (c : Int) : 0 ≤ quanta c ∧ quanta c ≤ 536870912 := by unfold quanta; split <;> (try split) <;> omega
theorem quanta_id {c : Int} (h0 : 0 ≤ c) (h1 : c ≤ 536870912) : quanta c = c := by unfold quanta; rw [if_neg (by omega), if_neg (by omega)]
theorem quanta_mono {a b : Int} (h : a ≤ b) : quanta a ≤ quanta b := by unfold quanta; split <;> split <;> (try split) <;> (try split) <;> omega

theorem ceil_eq {n t : Int} (ht : 1 ≤ t) : n / t + (if n % t = 0 then 0 else 1) = (n + t - 1) / t := by
  have h1 := Int.emod_nonneg n (show t ≠ 0 by omega)
  have h2 := Int.emod_lt_of_pos n (show 0 < t by omega)
  have h3 : n = t * (n / t) + n % t := (Int.mul_ediv_add_emod n t).symm
  have h4 : (n + t - 1) / t = (n % t + t - 1) / t + n / t := by
    have : n + t - 1 = (n % t + t - 1) + t * (n / t) := by omega
    rw [this, Int.add_mul_ediv_left _ _ (show t ≠ 0 by omega)]
  rw [h4]
  by_cases hz : n % t = 0
  · have e : (0 + t - 1) / t = 0 := Int.ediv_eq_zero_of_lt (by omega) (by omega)
    rw [if_pos hz, hz, e]; omega
  · have e : (n % t - 1) / t = 0 := Int.ediv_eq_zero_of_lt (by omega) (by omega)
    rw [if_neg hz]
    have : n % t + t - 1 = (n % t - 1) + t * 1 := by omega
    rw [this, Int.add_mul_ediv_left _ _ (show t ≠ 0 by omega), e]; omega

theorem part_lo (c t : Int) (ht : 1 ≤ t) : c * 4294967296 ≤ part c t * t := by
  unfold part
  have h1 := Int.emod_nonneg (c * 4294967296 + t - 1) (show t ≠ 0 by omega)
  have h2 := Int.emod_lt_of_pos (c * 4294967296 + t - 1) (show 0 < t by omega)
  have h3 := Int.mul_ediv_add_emod (c * 4294967296 + t - 1) t
  rw [Int.mul_comm] at h3
  omega
theorem part_hi (c t : Int) (ht : 1 ≤ t) : part c t * t < c * 4294967296 + t := by
  unfold part
  have h1 := Int.emod_nonneg (c * 4294967296 + t - 1) (show t ≠ 0 by omega)
  have h2 := Int.emod_lt_of_pos (c * 4294967296 + t - 1) (show 0 < t by omega)
  have h3 := Int.mul_ediv_add_emod (c * 4294967296 + t - 1) t
  rw [Int.mul_comm] at h3
  omega
theorem part_nonneg {c t : Int} (hc : 0 ≤ c) (ht : 1 ≤ t) : 0 ≤ part c t := Int.ediv_nonneg (by omega) (by omega)
theorem part_le {c t : Int} (hc : 0 ≤ c) (ht : 1 ≤ t) : part c t ≤ c * 4294967296 := by
  unfold part
  apply Int.le_of_lt_add_one
  apply Int.ediv_lt_of_lt_mul (by omega)
  have : (c * 4294967296 + 1) * t = c * 4294967296 * t + t := by rw [Int.add_mul]; omega
  have h2 : c * 4294967296 * 1 ≤ c * 4294967296 * t := Int.mul_le_mul_of_nonneg_left ht (by omega)
  omega
theorem part_unique {c t u : Int} (ht : 1 ≤ t) (h0 : c * 4294967296 ≤ u * t) (h1 : u * t < c * 4294967296 + t) : part c t = u := by
  have a := part_lo c t ht
  have b := part_hi c t ht
  apply Classical.byContradiction
  intro hne
  rcases Int.lt_or_gt_of_ne hne with h | h
  · have : (part c t + 1) * t ≤ u * t := Int.mul_le_mul_of_nonneg_right (by omega) (by omega)
    rw [Int.add_mul] at this; omega
  · have : (u + 1) * t ≤ part c t * t := Int.mul_le_mul_of_nonneg_right (by omega) (by omega)
    rw [Int.add_mul] at this; omega
theorem part_mono {a b t : Int} (h : a ≤ b) (ht : 1 ≤ t) : part a t ≤ part b t := by
  unfold part
  exact Int.ediv_le_ediv (by omega) (by omega)
theorem part_anti {c s t : Int} (hc : 0 ≤ c) (hs : 1 ≤ s) (h : s ≤ t) : part c t ≤ part c s := by
  have a := part_lo c s hs
  have b := part_hi c t (by omega)
  have p := part_nonneg hc hs
  have q : part c s * s ≤ part c s * t := Int.mul_le_mul_of_nonneg_left h p
  apply Classical.byContradiction
  intro hne
  have : (part c s + 1) * t ≤ part c t * t := Int.mul_le_mul_of_nonneg_right (by omega) (by omega)
  rw [Int.add_mul] at this; omega

theorem clamp_quanta (c : Int) : fix_clamp_int.f c 0 536870912 = some (quanta c) := by
  unfold fix_clamp_int.f quanta mn mx
  congr 1
  (repeat' split) <;> omega

theorem util_some {c t : Int} (ht : 1 ≤ t) : fix_Util.f c t = some (part (quanta c) t) := by
  have hb := quanta_bd c
  unfold fix_Util.f
  rw [if_neg (by omega), clamp_quanta, Option.bind_some, if_neg (by omega)]
  rw [w64 (n := quanta c * 4294967296) (by omega) (by omega)]
  have hn : 0 ≤ quanta c * 4294967296 := by omega
  rw [Int.tdiv_eq_ediv_of_nonneg hn, Int.tmod_eq_emod_of_nonneg hn]
  have h1 := Int.emod_nonneg (quanta c * 4294967296) (show t ≠ 0 by omega)
  have h5 := Int.ediv_nonneg hn (show 0 ≤ t by omega)
  have h6 := Int.ediv_le_self t hn
  have hm : mn (quanta c * 4294967296 % t) 1 = if quanta c * 4294967296 % t = 0 then 0 else 1 := by
    unfold mn; split <;> split <;> omega
  rw [w64 (n := quanta c * 4294967296 / t) (by omega) (by omega), hm]
  have hle : (if quanta c * 4294967296 % t = 0 then (0 : Int) else 1) ≤ 1 ∧ 0 ≤ (if quanta c * 4294967296 % t = 0 then (0 : Int) else 1) := by split <;> omega
  rw [w64 (by omega) (by omega), ceil_eq ht]
  rfl
theorem util_none {c t : Int} (ht : t < 1) : fix_Util.f c t = some 1099511627776 := by unfold fix_Util.f; rw [if_pos ht]

theorem bdr {w W w2 : World} (h : Below w.heap.size w W) (k : Drawn0 W w2) : Below w.heap.size w w2 := by obtain ⟨n, rfl⟩ := k.out; exact pw_below_drewN h n

set_option maxHeartbeats 800000 in
theorem enough_calls (a b : Int) (w : World) (h0 : 0 ≤ a) (h1 : a ≤ 4294967295) (h2 : 0 ≤ b) (h3 : b ≤ 4294967295) :
    Calls Try.prog 6 #[.int .u32 a, .int .u32 b] w fun e w' => e = .returned (.bool true) ∧ Below w.heap.size w w' := by
  have hc0 : 0 ≤ a % 536870913 ∧ a % 536870913 ≤ 536870912 := by omega
  have ht0 : 1 ≤ b % 536870912 + 1 ∧ b % 536870912 + 1 ≤ 536870912 := by omega
  go_enter Try.func6, Try.ntmps6
  go_wp2_with fail
  obtain ⟨c, hc⟩ : ∃ c, c = a % 536870913 := ⟨_, rfl⟩
  obtain ⟨t, ht⟩ : ∃ t, t = b % 536870912 + 1 := ⟨_, rfl⟩
  rw [← hc] at hc0 ⊢
  rw [← ht] at ht0 ⊢
  clear hc ht
  obtain ⟨c0, c1⟩ := hc0
  obtain ⟨t0, t1⟩ := ht0
  have hu := util_some (c := c) t0
  rw [quanta_id c0 c1] at hu
  refine (fix_Util.calls _ _ _ _ hu).mono ?_; rintro e w1 ⟨rfl, hb1⟩
  have p1 := part_lo c t t0
  have p2 := part_hi c t t0
  have p3 := part_nonneg c0 t0
  have p4 := part_le c0 t0
  have p5 : 0 ≤ part c t * t := Int.mul_nonneg p3 (by omega)
  have p6 : (part c t - 1) * t = part c t * t - t := by rw [Int.sub_mul]; omega
  have hz : part c t = 0 ↔ c = 0 := by
    constructor
    · intro h; rw [h] at p1; omega
    · intro h; omega
  have q1 : part c t ≤ 2305843009213693952 := by omega
  have q2 : part c t * t ≤ 2305843009750564864 := by omega
  have q3 : c * 4294967296 ≤ 2305843009213693952 := by omega
  have q4 : (part c t - 1) * t < c * 4294967296 := by omega
  have q5 : -536870912 ≤ (part c t - 1) * t := by omega
  have q6 : (part c t - 1) * t ≤ 2305843009750564864 := by omega
  clear hu
  generalize part c t = u at *
  clear p6 p2
  by_cases hzz : c = 0
  · have hu0 : u = 0 := hz.2 hzz
    clear hz
    subst hzz hu0
    go_wp2_with fail
    refine (dormouselaw01_answers.calls true _ (by decide +kernel)).mono ?_; rintro e w2 ⟨rfl, hb2⟩
    go_wp2_with fail
    go_ret
    exact ⟨by simp, below_step hb1 hb2⟩
  · have hu1 : ¬ u = 0 := fun h => hzz (hz.1 h)
    have e1 : (u == 0) = false := beq_eq_false_iff_ne.2 hu1
    have e2 : (c == 0) = false := beq_eq_false_iff_ne.2 hzz
    clear hz hu1 hzz
    go_wp2_with fail
    refine (dormouselaw01_answers.calls true _ (by decide +kernel)).mono ?_; rintro e w2 ⟨rfl, hb2⟩
    go_wp2_with fail
    go_ret
    exact ⟨by simp, below_step hb1 hb2⟩
end Go.Proofs.Ytlengdappojlbaa.HEnough
