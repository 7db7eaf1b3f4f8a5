/- A job ends behind just as many cycles as it takes, or as its task may have, if that is less: Finished in the first case, Cut in the second one. Conditions: none. -/
import Derived.Test.YtijlfnjfjmhdiaaPJobEndsx1
namespace Go.Proofs.Ytijlfnjfjmhdiaa.Pure
open Go.RowKit Go.Proofs.Ytijlfnjfjmhdiaa.PJobEnds Go.Proofs.YtijlfnjfjmhdiaaW.PrintWords Go.Proofs.YtijlfnjfjmhdiaaW.PrintLast

theorem w64 {n : Int} (h0 : -9223372036854775808 ≤ n) (h1 : n ≤ 9223372036854775807) : wrap64 n = n := by unfold wrap64; omega
theorem bd_u16 {n : Int} (h : (Lit.int .u16 n).wf = true) : 0 ≤ n ∧ n ≤ 65535 := by
  simp [Lit.wf, IntKind.min, IntKind.max, IntKind.signed, IntKind.bits] at h; omega
theorem answers_yes : dormouselaw11_answers.f = some true := by decide +kernel

theorem ends_loop (c x a : Int) (hc : 1 ≤ c) (hc1 : c ≤ 4096) (hx : 1 ≤ x) (hx1 : x ≤ 65536) (d : Nat) : ∀ (k : Nat) (i : Int), 1 ≤ i → i ≤ c → i ≤ x → mn c x - i = d → d < k →
    dormouselaw11_JobEnds.l0 k c x i a 0 5 (c - (i - 1)) (x - (i - 1)) false = some true := by
  have hm : mn c x ≤ c ∧ mn c x ≤ x ∧ (mn c x = c ∨ mn c x = x) := by unfold mn; split <;> omega
  induction d with
  | zero =>
    intro k i h0 h1 h2 hd hk
    obtain ⟨k, rfl⟩ : ∃ m, k = m + 1 := ⟨k - 1, by omega⟩
    simp only [dormouselaw11_JobEnds.l0]
    rw [if_neg (by omega)]
    unfold job_Step.f
    rw [w64 (n := x - (i - 1) - 1) (by omega) (by omega), w64 (n := c - (i - 1) - 1) (by omega) (by omega)]
    by_cases h : x ≤ c
    · rw [if_pos (by omega)]
      simp only [Option.bind_some]
      rw [answers_yes]
      simp [h]
    · rw [if_neg (by omega), if_pos (by omega)]
      simp only [Option.bind_some]
      rw [answers_yes]
      simp [h]; omega
  | succ d ih =>
    intro k i h0 h1 h2 hd hk
    obtain ⟨k, rfl⟩ : ∃ m, k = m + 1 := ⟨k - 1, by omega⟩
    simp only [dormouselaw11_JobEnds.l0]
    rw [if_pos (by omega)]
    have e : job_Step.f a 0 5 (c - (i - 1)) (x - (i - 1)) false = some (a, 0, 5, c - (i + 1 - 1), x - (i + 1 - 1), false, 0) := by
      unfold job_Step.f
      rw [w64 (n := x - (i - 1) - 1) (by omega) (by omega), w64 (n := c - (i - 1) - 1) (by omega) (by omega), if_neg (by omega), if_neg (by omega)]
      rw [show x - (i - 1) - 1 = x - (i + 1 - 1) from by omega, show c - (i - 1) - 1 = c - (i + 1 - 1) from by omega]
    rw [e]
    simp only [Option.bind_some, if_true]
    rw [w64 (n := i + 1) (by omega) (by omega)]
    exact ih k (i + 1) (by omega) (by omega) (by omega) (by omega) (by omega)

theorem near_some (n : Int) : ∃ b, dormouselaw11_near.f 2 [n] = some b := by
  unfold dormouselaw11_near.f
  simp only [dormouselaw11_near.l0]
  have e : rd [n] 0 = n := rfl
  rw [if_pos (by simp), if_pos (by omega), w64 (n := 0 + 1) (by omega) (by omega), e]
  by_cases h1 : n < -1073741824
  · exact ⟨false, by rw [if_pos h1]⟩
  · by_cases h2 : n > 1073741824
    · exact ⟨false, by rw [if_neg h1, if_pos h2]⟩
    · exact ⟨true, by rw [if_neg h1, if_neg h2, if_neg (by simp)]⟩

theorem JobEnds : dormouselaw11_JobEnds.Pure := by
  intro m r n hm hr _
  have hm := bd_u16 hm
  have hr := bd_u16 hr
  obtain ⟨b, hb⟩ := near_some n
  refine ⟨5000, ?_⟩
  unfold dormouselaw11_JobEnds.f
  have hb' : dormouselaw11_near.f 5000 [n] = some b := by
    have key : ∀ j, dormouselaw11_near.f (2 + j) [n] = some b := by
      intro j
      induction j with
      | zero => exact hb
      | succ j ih => exact dormouselaw11_near.mono _ _ _ ih
    exact key 4998
  rw [hb', Option.bind_some]
  cases b with
  | false => rw [if_neg (by decide), answers_yes]; rfl
  | true =>
    rw [if_pos rfl, Int.tmod_eq_emod_of_nonneg hm.1]
    rw [w64 (n := m % 4096) (by omega) (by omega), w64 (n := m % 4096 + 1) (by omega) (by omega), w64 (n := r) (by omega) (by omega), w64 (n := r + 1) (by omega) (by omega)]
    unfold job_New.f
    simp only [Option.bind_some]
    rw [w64 (n := 0 + 5) (by omega) (by omega)]
    have hmn : mn (m % 4096 + 1) (r + 1) ≤ m % 4096 + 1 ∧ 1 ≤ mn (m % 4096 + 1) (r + 1) := by unfold mn; split <;> omega
    have := ends_loop (m % 4096 + 1) (r + 1) n (by omega) (by omega) (by omega) (by omega) (mn (m % 4096 + 1) (r + 1) - 1).toNat 5000 1 (by omega) (by omega) (by omega) (by omega) (by omega)
    simpa using this

end Go.Proofs.Ytijlfnjfjmhdiaa.Pure
