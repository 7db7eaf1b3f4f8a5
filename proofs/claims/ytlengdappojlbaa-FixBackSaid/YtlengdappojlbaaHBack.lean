/- Whole quanta, and what is less than one more, are rounded down to themselves (the walk). Conditions: none. -/
import Derived.Test.YtlengdappojlbaaPFixSumx1
namespace Go.Proofs.Ytlengdappojlbaa.HBack
open Go.RowKit Go.Proofs.Ytlengdappojlbaa.PFixSum Go.Proofs.YtlengdappojlbaaW.PrintWords Go.Proofs.YtlengdappojlbaaW.PrintLast Go.Proofs.YtlengdappojlbaaW.PrintMore
attribute [local go_sem] max2_int min2_int max_two min_two max_three min_three max_four min_four

theorem w64 {n : Int} (h0 : -9223372036854775808 ≤ n) (h1 : n ≤ 9223372036854775807) : wrap64 n = n := by unfold wrap64; omega
theorem bdr {w W w2 : World} (h : Below w.heap.size w W) (k : Drawn0 W w2) : Below w.heap.size w w2 := by obtain ⟨n, rfl⟩ := k.out; exact pw_below_drewN h n
theorem half {a : Int} (h0 : -2147483648 ≤ a) (h1 : a ≤ 2147483647) : -1073741824 ≤ Int.tdiv a 2 ∧ Int.tdiv a 2 ≤ 1073741823 := by
  by_cases h : 0 ≤ a
  · rw [Int.tdiv_eq_ediv_of_nonneg h]; omega
  · have e : a = -(-a) := by omega
    rw [e, Int.neg_tdiv, Int.tdiv_eq_ediv_of_nonneg (by omega)]; omega
theorem whole_of {n : Int} (h0 : -1073741824 ≤ n) (h1 : n ≤ 1073741823) : fix_Whole.f n = some (n * 4294967296) := by
  unfold fix_Whole.f fix_clamp_int.f mn mx
  rw [if_neg (by omega), if_neg (by omega), Option.bind_some, w64 (by omega) (by omega)]
theorem floor_of {n b x : Int} (hx : x = n * 4294967296 + b) (h0 : 0 ≤ b) (h1 : b ≤ 4294967295) : fix_Floor.f x = some n := by
  unfold fix_Floor.f; congr 1; omega

set_option maxHeartbeats 800000 in
theorem back_calls (a b : Int) (w : World) (h0 : -2147483648 ≤ a) (h1 : a ≤ 2147483647) (h2 : 0 ≤ b) (h3 : b ≤ 4294967295) :
    Calls Try.prog 9 #[.int .i32 a, .int .u32 b] w fun e w' => e = .returned (.bool true) ∧ Below w.heap.size w w' := by
  have hh := half h0 h1
  obtain ⟨m0, m1⟩ := hh
  go_enter Try.func9, Try.ntmps9
  go_wp2_with fail
  refine (dormouselaw01_answers.calls true _ (by decide +kernel)).mono ?_; rintro e w1 ⟨rfl, hb1⟩
  go_wp2_with fail
  refine (fix_Whole.calls _ _ _ (whole_of m0 m1)).mono ?_; rintro e w2 ⟨rfl, hb2⟩
  go_wp2_with fail
  refine (fix_Floor.calls _ _ _ (floor_of (n := a.tdiv 2) (b := 0) (by omega) (by omega) (by omega))).mono ?_; rintro e w3 ⟨rfl, hb3⟩
  go_wp2_with fail
  refine (fix_Whole.calls _ _ _ (whole_of m0 m1)).mono ?_; rintro e w4 ⟨rfl, hb4⟩
  go_wp2_with fail
  refine (fix_Floor.calls _ _ _ (floor_of (n := a.tdiv 2) (b := b) (by omega) (by omega) (by omega))).mono ?_; rintro e w5 ⟨rfl, hb5⟩
  go_wp2_with fail
  go_ret
  exact ⟨by simp, bdr (below_step (bdr (below_step hb1 hb2) hb3) hb4) hb5⟩
end Go.Proofs.Ytlengdappojlbaa.HBack
