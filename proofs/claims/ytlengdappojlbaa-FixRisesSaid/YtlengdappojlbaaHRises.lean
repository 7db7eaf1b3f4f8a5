/- More quanta are no less a part, and of a longer period they are no greater one (the walk). Conditions: none. -/
import Derived.Test.YtlengdappojlbaaPFixSumx1

namespace Go.Proofs.Ytlengdappojlbaa.HRises
open Go.RowKit Go.Proofs.Ytlengdappojlbaa.PFixSum Go.Proofs.YtlengdappojlbaaW.PrintWords Go.Proofs.YtlengdappojlbaaW.PrintLast Go.Proofs.YtlengdappojlbaaW.PrintMore
attribute [local go_sem] max2_int min2_int max_two min_two max_three min_three max_four min_four

theorem w64 {n : Int} (h0 : -9223372036854775808 ≤ n) (h1 : n ≤ 9223372036854775807) : wrap64 n = n := by unfold wrap64; omega

theorem bd_i64 {n : Int} (h : (Lit.int .i64 n).wf = true) : -9223372036854775808 ≤ n ∧ n ≤ 9223372036854775807 := by
  simp [Lit.wf, IntKind.min, IntKind.max, IntKind.signed, IntKind.bits] at h; omega
theorem bd_i32 {n : Int} (h : (Lit.int .i32 n).wf = true) : -2147483648 ≤ n ∧ n ≤ 2147483647 := by
  simp [Lit.wf, IntKind.min, IntKind.max, IntKind.signed, IntKind.bits] at h; omega
theorem bd_u32 {n : Int} (h : (Lit.int .u32 n).wf = true) : 0 ≤ n ∧ n ≤ 4294967295 := by
  simp [Lit.wf, IntKind.min, IntKind.max, IntKind.signed, IntKind.bits] at h; omega

/-- so many quanta as a part of a period, rounded up -/
def part (c t : Int) : Int := (c * 4294967296 + t - 1) / t

/-- a number brought into the range of quanta -/
def quanta (c : Int) : Int := if c < 0 then 0 else if 536870912 < c then 536870912 else c

theorem quanta_bd (c : Int) : 0 ≤ quanta c ∧ quanta c ≤ 536870912 := by unfold quanta; split <;> (try split) <;> omega
theorem quanta_id {c : Int} (h0 : 0 ≤ c) (h1 : c ≤ 536870912) : quanta c = c := by unfold quanta; rw [if_neg (by omega), if_neg (by omega)]
theorem quanta_mono {a b : Int} (h : a ≤ b) : quanta a ≤ quanta b := by unfold quanta; split <;> split <;> (try split) <;> (try split) <;> omega

theorem ceil_eq {n t : Int} (ht : 1 ≤ t) : n / t + (if n % t = 0 then 0 else 1) = (n + t - 1) / t := by
  have h1 := Int.emod_nonneg n (show t ≠ 0 by omega)
  have h2 := Int.emod_lt_of_pos n (show 0 < t by omega)
  have h3 : n = t * (n / t) + n % t := (Int.mul_ediv_add_emod n t).symm
  have h4 : (n + t - 1) / t = (n % t + t - 1) / t + n / t := by
    have : n + t - 1 = (n % t + t - 1) + t * (n / t) := by omega
    rw [this, Int.add_mul_ediv_left _ _ (show t ≠ 0 by omega)]
  rw [h4]
  by_cases hz : n % t = 0
  · have e : (0 + t - 1) / t = 0 := Int.ediv_eq_zero_of_lt (by omega) (by omega)
    rw [if_pos hz, hz, e]; omega
  · have e : (n % t - 1) / t = 0 := Int.ediv_eq_zero_of_lt (by omega) (by omega)
    rw [if_neg hz]
    have : n % t + t - 1 = (n % t - 1) + t * 1 := by omega
    rw [this, Int.add_mul_ediv_left _ _ (show t ≠ 0 by omega), e]; omega

theorem part_lo (c t : Int) (ht : 1 ≤ t) : c * 4294967296 ≤ part c t * t := by
  unfold part
  have h1 := Int.emod_nonneg (c * 4294967296 + t - 1) (show t ≠ 0 by omega)
  have h2 := Int.emod_lt_of_pos (c * 4294967296 + t - 1) (show 0 < t by omega)
  have h3 := Int.mul_ediv_add_emod (c * 4294967296 + t - 1) t
  rw [Int.mul_comm] at h3
  omega
theorem part_hi (c t : Int) (ht : 1 ≤ t) : part c t * t < c * 4294967296 + t := by
  unfold part
  have h1 := Int.emod_nonneg (c * 4294967296 + t - 1) (show t ≠ 0 by omega)
  have h2 := Int.emod_lt_of_pos (c * 4294967296 + t - 1) (show 0 < t by omega)
  have h3 := Int.mul_ediv_add_emod (c * 4294967296 + t - 1) t
  rw [Int.mul_comm] at h3
  omega
theorem part_nonneg {c t : Int} (hc : 0 ≤ c) (ht : 1 ≤ t) : 0 ≤ part c t := Int.ediv_nonneg (by omega) (by omega)
theorem part_le {c t : Int} (hc : 0 ≤ c) (ht : 1 ≤ t) : part c t ≤ c * 4294967296 := by
  unfold part
  apply Int.le_of_lt_add_one
  apply Int.ediv_lt_of_lt_mul (by omega)
  have : (c * 4294967296 + 1) * t = c * 4294967296 * t + t := by rw [Int.add_mul]; omega
  have h2 : c * 4294967296 * 1 ≤ c * 4294967296 * t := Int.mul_le_mul_of_nonneg_left ht (by omega)
  omega
theorem part_unique {c t u : Int} (ht : 1 ≤ t) (h0 : c * 4294967296 ≤ u * t) (h1 : u * t < c * 4294967296 + t) : part c t = u := by
  have a := part_lo c t ht
  have b := part_hi c t ht
  apply Classical.byContradiction
  intro hne
  rcases Int.lt_or_gt_of_ne hne with h | h
  · have : (part c t + 1) * t ≤ u * t := Int.mul_le_mul_of_nonneg_right (by omega) (by omega)
    rw [Int.add_mul] at this; omega
  · have : (u + 1) * t ≤ part c t * t := Int.mul_le_mul_of_nonneg_right (by omega) (by omega)
    rw [Int.add_mul] at this; omega
theorem part_mono {a b t : Int} (h : a ≤ b) (ht : 1 ≤ t) : part a t ≤ part b t := by
  unfold part
  exact Int.ediv_le_ediv (by omega) (by omega)
theorem part_anti {c s t : Int} (hc : 0 ≤ c) (hs : 1 ≤ s) (h : s ≤ t) : part c t ≤ part c s := by
  have a := part_lo c s hs
  have b := part_hi c t (by omega)
  have p := part_nonneg hc hs
  have q : part c s * s ≤ part c s * t := Int.mul_le_mul_of_nonneg_left h p
  apply Classical.byContradiction
  intro hne
  have : (part c s + 1) * t ≤ part c t * t := Int.mul_le_mul_of_nonneg_right (by omega) (by omega)
  rw [Int.add_mul] at this; omega

theorem clamp_quanta (c : Int) : fix_clamp_int.f c 0 536870912 = some (quanta c) := by
  unfold fix_clamp_int.f quanta mn mx
  congr 1
  (repeat' split) <;> omega

theorem util_some {c t : Int} (ht : 1 ≤ t) : fix_Util.f c t = some (part (quanta c) t) := by
  have hb := quanta_bd c
  unfold fix_Util.f
  rw [if_neg (by omega), clamp_quanta, Option.bind_some, if_neg (by omega)]
  rw [w64 (n := quanta c * 4294967296) (by omega) (by omega)]
  have hn : 0 ≤ quanta c * 4294967296 := by omega
  rw [Int.tdiv_eq_ediv_of_nonneg hn, Int.tmod_eq_emod_of_nonneg hn]
  have h1 := Int.emod_nonneg (quanta c * 4294967296) (show t ≠ 0 by omega)
  have h5 := Int.ediv_nonneg hn (show 0 ≤ t by omega)
  have h6 := Int.ediv_le_self t hn
  have hm : mn (quanta c * 4294967296 % t) 1 = if quanta c * 4294967296 % t = 0 then 0 else 1 := by
    unfold mn; split <;> split <;> omega
  rw [w64 (n := quanta c * 4294967296 / t) (by omega) (by omega), hm]
  have hle : (if quanta c * 4294967296 % t = 0 then (0 : Int) else 1) ≤ 1 ∧ 0 ≤ (if quanta c * 4294967296 % t = 0 then (0 : Int) else 1) := by split <;> omega
  rw [w64 (by omega) (by omega), ceil_eq ht]
  rfl
theorem util_none {c t : Int} (ht : t < 1) : fix_Util.f c t = some 1099511627776 := by unfold fix_Util.f; rw [if_pos ht]

theorem bdr {w W w2 : World} (h : Below w.heap.size w W) (k : Drawn0 W w2) : Below w.heap.size w w2 := by obtain ⟨n, rfl⟩ := k.out; exact pw_below_drewN h n

theorem has_util (c t : Int) : ∃ u, fix_Util.f c t = some u := by
  by_cases h : t < 1
  · exact ⟨_, util_none h⟩
  · exact ⟨_, util_some (by omega)⟩
theorem more_util {a b t u v : Int} (h : a ≤ b) (h1 : fix_Util.f a t = some u) (h2 : fix_Util.f b t = some v) : u ≤ v := by
  by_cases ht : t < 1
  · rw [util_none ht] at h1 h2; cases h1; cases h2; exact Int.le_refl _
  · rw [util_some (by omega)] at h1 h2; cases h1; cases h2; exact part_mono (quanta_mono h) (by omega)
theorem longer_util {a s t u v : Int} (h : s ≤ t) (h1 : fix_Util.f a s = some u) (h2 : fix_Util.f a t = some v) : s < 1 ∨ v ≤ u := by
  by_cases ht : s < 1
  · exact Or.inl ht
  · rw [util_some (by omega)] at h1 h2; cases h1; cases h2; exact Or.inr (part_anti (quanta_bd a).1 (by omega) h)

set_option maxHeartbeats 1600000 in
theorem rises_calls (a b s t : Int) (w : World) :
    Calls Try.prog 8 #[.int .i64 a, .int .i64 b, .int .i64 s, .int .i64 t] w fun e w' => e = .returned (.bool true) ∧ Below w.heap.size w w' := by
  by_cases hab : b < a
  · by_cases hst : t < s
    · skip
      obtain ⟨u1, h1⟩ : ∃ u, fix_Util.f b s = some u := has_util _ _
      obtain ⟨u2, h2⟩ : ∃ u, fix_Util.f a s = some u := has_util _ _
      obtain ⟨u3, h3⟩ : ∃ u, fix_Util.f b t = some u := has_util _ _
      have f1 : u1 ≤ u2 := more_util (by omega) h1 h2
      have F2 : Aside0 (t < 1 ∨ u1 ≤ u3) := Aside0.mk (longer_util (by omega) h3 h1)
      have H1 := Aside0.mk h1
      have H2 := Aside0.mk h2
      have H3 := Aside0.mk h3
      clear h1 h2 h3
      by_cases hp : t < 1
      · go_enter Try.func8, Try.ntmps8
        go_wp2_with fail
        refine (dormouselaw01_answers.calls true _ (by decide +kernel)).mono ?_; rintro e w1 ⟨rfl, hb1⟩
        go_wp2_with fail
        refine (fix_Util.calls _ _ _ _ H1.out).mono ?_; rintro e w2 ⟨rfl, hb2⟩
        go_wp2_with fail
        refine (fix_Util.calls _ _ _ _ H2.out).mono ?_; rintro e w3 ⟨rfl, hb3⟩
        go_wp2_with fail
        go_ret
        exact ⟨by simp, below_step (below_step hb1 hb2) hb3⟩
      · have f2 : u1 ≤ u3 := by rcases F2.out with h | h <;> omega
        go_enter Try.func8, Try.ntmps8
        go_wp2_with fail
        refine (dormouselaw01_answers.calls true _ (by decide +kernel)).mono ?_; rintro e w1 ⟨rfl, hb1⟩
        go_wp2_with fail
        refine (fix_Util.calls _ _ _ _ H1.out).mono ?_; rintro e w2 ⟨rfl, hb2⟩
        go_wp2_with fail
        refine (fix_Util.calls _ _ _ _ H2.out).mono ?_; rintro e w3 ⟨rfl, hb3⟩
        go_wp2_with fail
        refine (fix_Util.calls _ _ _ _ H3.out).mono ?_; rintro e w4 ⟨rfl, hb4⟩
        go_wp2_with fail
        refine (fix_Util.calls _ _ _ _ H1.out).mono ?_; rintro e w5 ⟨rfl, hb5⟩
        go_wp2_with fail
        go_ret
        exact ⟨by simp, below_step (below_step (below_step (below_step hb1 hb2) hb3) hb4) hb5⟩
    · skip
      obtain ⟨u1, h1⟩ : ∃ u, fix_Util.f b t = some u := has_util _ _
      obtain ⟨u2, h2⟩ : ∃ u, fix_Util.f a t = some u := has_util _ _
      obtain ⟨u3, h3⟩ : ∃ u, fix_Util.f b s = some u := has_util _ _
      have f1 : u1 ≤ u2 := more_util (by omega) h1 h2
      have F2 : Aside0 (s < 1 ∨ u1 ≤ u3) := Aside0.mk (longer_util (by omega) h3 h1)
      have H1 := Aside0.mk h1
      have H2 := Aside0.mk h2
      have H3 := Aside0.mk h3
      clear h1 h2 h3
      by_cases hp : s < 1
      · go_enter Try.func8, Try.ntmps8
        go_wp2_with fail
        refine (dormouselaw01_answers.calls true _ (by decide +kernel)).mono ?_; rintro e w1 ⟨rfl, hb1⟩
        go_wp2_with fail
        refine (fix_Util.calls _ _ _ _ H1.out).mono ?_; rintro e w2 ⟨rfl, hb2⟩
        go_wp2_with fail
        refine (fix_Util.calls _ _ _ _ H2.out).mono ?_; rintro e w3 ⟨rfl, hb3⟩
        go_wp2_with fail
        go_ret
        exact ⟨by simp, below_step (below_step hb1 hb2) hb3⟩
      · have f2 : u1 ≤ u3 := by rcases F2.out with h | h <;> omega
        go_enter Try.func8, Try.ntmps8
        go_wp2_with fail
        refine (dormouselaw01_answers.calls true _ (by decide +kernel)).mono ?_; rintro e w1 ⟨rfl, hb1⟩
        go_wp2_with fail
        refine (fix_Util.calls _ _ _ _ H1.out).mono ?_; rintro e w2 ⟨rfl, hb2⟩
        go_wp2_with fail
        refine (fix_Util.calls _ _ _ _ H2.out).mono ?_; rintro e w3 ⟨rfl, hb3⟩
        go_wp2_with fail
        refine (fix_Util.calls _ _ _ _ H3.out).mono ?_; rintro e w4 ⟨rfl, hb4⟩
        go_wp2_with fail
        refine (fix_Util.calls _ _ _ _ H1.out).mono ?_; rintro e w5 ⟨rfl, hb5⟩
        go_wp2_with fail
        go_ret
        exact ⟨by simp, below_step (below_step (below_step (below_step hb1 hb2) hb3) hb4) hb5⟩
  · by_cases hst : t < s
    · skip
      obtain ⟨u1, h1⟩ : ∃ u, fix_Util.f a s = some u := has_util _ _
      obtain ⟨u2, h2⟩ : ∃ u, fix_Util.f b s = some u := has_util _ _
      obtain ⟨u3, h3⟩ : ∃ u, fix_Util.f a t = some u := has_util _ _
      have f1 : u1 ≤ u2 := more_util (by omega) h1 h2
      have F2 : Aside0 (t < 1 ∨ u1 ≤ u3) := Aside0.mk (longer_util (by omega) h3 h1)
      have H1 := Aside0.mk h1
      have H2 := Aside0.mk h2
      have H3 := Aside0.mk h3
      clear h1 h2 h3
      by_cases hp : t < 1
      · go_enter Try.func8, Try.ntmps8
        go_wp2_with fail
        refine (dormouselaw01_answers.calls true _ (by decide +kernel)).mono ?_; rintro e w1 ⟨rfl, hb1⟩
        go_wp2_with fail
        refine (fix_Util.calls _ _ _ _ H1.out).mono ?_; rintro e w2 ⟨rfl, hb2⟩
        go_wp2_with fail
        refine (fix_Util.calls _ _ _ _ H2.out).mono ?_; rintro e w3 ⟨rfl, hb3⟩
        go_wp2_with fail
        go_ret
        exact ⟨by simp, below_step (below_step hb1 hb2) hb3⟩
      · have f2 : u1 ≤ u3 := by rcases F2.out with h | h <;> omega
        go_enter Try.func8, Try.ntmps8
        go_wp2_with fail
        refine (dormouselaw01_answers.calls true _ (by decide +kernel)).mono ?_; rintro e w1 ⟨rfl, hb1⟩
        go_wp2_with fail
        refine (fix_Util.calls _ _ _ _ H1.out).mono ?_; rintro e w2 ⟨rfl, hb2⟩
        go_wp2_with fail
        refine (fix_Util.calls _ _ _ _ H2.out).mono ?_; rintro e w3 ⟨rfl, hb3⟩
        go_wp2_with fail
        refine (fix_Util.calls _ _ _ _ H3.out).mono ?_; rintro e w4 ⟨rfl, hb4⟩
        go_wp2_with fail
        refine (fix_Util.calls _ _ _ _ H1.out).mono ?_; rintro e w5 ⟨rfl, hb5⟩
        go_wp2_with fail
        go_ret
        exact ⟨by simp, below_step (below_step (below_step (below_step hb1 hb2) hb3) hb4) hb5⟩
    · skip
      obtain ⟨u1, h1⟩ : ∃ u, fix_Util.f a t = some u := has_util _ _
      obtain ⟨u2, h2⟩ : ∃ u, fix_Util.f b t = some u := has_util _ _
      obtain ⟨u3, h3⟩ : ∃ u, fix_Util.f a s = some u := has_util _ _
      have f1 : u1 ≤ u2 := more_util (by omega) h1 h2
      have F2 : Aside0 (s < 1 ∨ u1 ≤ u3) := Aside0.mk (longer_util (by omega) h3 h1)
      have H1 := Aside0.mk h1
      have H2 := Aside0.mk h2
      have H3 := Aside0.mk h3
      clear h1 h2 h3
      by_cases hp : s < 1
      · go_enter Try.func8, Try.ntmps8
        go_wp2_with fail
        refine (dormouselaw01_answers.calls true _ (by decide +kernel)).mono ?_; rintro e w1 ⟨rfl, hb1⟩
        go_wp2_with fail
        refine (fix_Util.calls _ _ _ _ H1.out).mono ?_; rintro e w2 ⟨rfl, hb2⟩
        go_wp2_with fail
        refine (fix_Util.calls _ _ _ _ H2.out).mono ?_; rintro e w3 ⟨rfl, hb3⟩
        go_wp2_with fail
        go_ret
        exact ⟨by simp, below_step (below_step hb1 hb2) hb3⟩
      · have f2 : u1 ≤ u3 := by rcases F2.out with h | h <;> omega
        go_enter Try.func8, Try.ntmps8
        go_wp2_with fail
        refine (dormouselaw01_answers.calls true _ (by decide +kernel)).mono ?_; rintro e w1 ⟨rfl, hb1⟩
        go_wp2_with fail
        refine (fix_Util.calls _ _ _ _ H1.out).mono ?_; rintro e w2 ⟨rfl, hb2⟩
        go_wp2_with fail
        refine (fix_Util.calls _ _ _ _ H2.out).mono ?_; rintro e w3 ⟨rfl, hb3⟩
        go_wp2_with fail
        refine (fix_Util.calls _ _ _ _ H3.out).mono ?_; rintro e w4 ⟨rfl, hb4⟩
        go_wp2_with fail
        refine (fix_Util.calls _ _ _ _ H1.out).mono ?_; rintro e w5 ⟨rfl, hb5⟩
        go_wp2_with fail
        go_ret
        exact ⟨by simp, below_step (below_step (below_step (below_step hb1 hb2) hb3) hb4) hb5⟩
end Go.Proofs.Ytlengdappojlbaa.HRises
