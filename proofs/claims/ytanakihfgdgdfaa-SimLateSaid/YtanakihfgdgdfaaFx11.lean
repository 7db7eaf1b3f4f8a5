-- Told by the kit's print.py out of this seat's translation, for this session's own texts (not a PRINTED file).
import Derived.Test.YtanakihfgdgdfaaFx0
namespace Go.Proofs.Ytanakihfgdgdfaa.F
open Go.RowKit Go.Proofs.YtanakihfgdgdfaaW.PrintWords Go.Proofs.YtanakihfgdgdfaaW.PrintLast Go.Proofs.YtanakihfgdgdfaaW.PrintMore
attribute [local go_sem] max2_int min2_int max_two min_two max_three min_three max_four min_four   -- for this text's walks alone
set_option linter.unusedVariables false
set_option linter.unusedSimpArgs false

/-! ### dormouseref25_Right: function 20 -/
def dormouseref25_Right.l0 : Nat → List (S32) → Int → Option (Bool)
  | 0, _, _ => none
  | k + 1, x0, x3 => if x3 < (x0.length : Int) then (if 0 ≤ x3 then (if ((rd_T32 x0 x3).f0) < 0 then (some false) else (if ((rd_T32 x0 x3).f0) > 16384 then (some false) else (if ((rd_T32 x0 x3).f2) < 0 then (some false) else (if ((rd_T32 x0 x3).f2) > 16384 then (some false) else (if ((rd_T32 x0 x3).f1) < ((rd_T32 x0 x3).f0) then (some false) else (if ((rd_T32 x0 x3).f1) > 32768 then (some false) else (dormouseref25_Right.l0 k x0 (wrap64 (x3 + 1))))))))) else (none)) else (some true)
def dormouseref25_Right.f (k : Nat) (l0 : List (S32)) : Option (Bool) := if (l0.length : Int) > 32 then (some false) else (dormouseref25_Right.l0 k l0 0)
theorem dormouseref25_Right.mono_l : ∀ k, (∀ y0 y1, LeO (dormouseref25_Right.l0 k y0 y1) (dormouseref25_Right.l0 (k + 1) y0 y1))
  | 0 => fun _ _ r h => by simp [dormouseref25_Right.l0] at h
  | k + 1 => by
    have ih0 := dormouseref25_Right.mono_l k
    · intro y0 y1
      unfold dormouseref25_Right.l0
      repeat' first
      | (with_reducible exact ih0 _ _)
      | (with_reducible exact LeO.refl _)
      | (with_reducible exact LeO.none _)
      | (with_reducible refine LeO.ite ?_ ?_)
      | (with_reducible refine LeO.bind ?_ (fun _ => ?_))
      | exact ih0 _ _
      | exact LeO.none _
      | refine LeO.ite ?_ ?_
      | refine LeO.bind ?_ (fun _ => ?_)
theorem dormouseref25_Right.mono : ∀ a0 k, LeO (dormouseref25_Right.f k a0) (dormouseref25_Right.f (k + 1) a0) := by
  intro a0 k
  have ih0 := dormouseref25_Right.mono_l k
  unfold dormouseref25_Right.f
  repeat' first
      | (with_reducible exact ih0 _ _)
      | (with_reducible exact LeO.refl _)
      | (with_reducible exact LeO.none _)
      | (with_reducible refine LeO.ite ?_ ?_)
      | (with_reducible refine LeO.bind ?_ (fun _ => ?_))
      | exact ih0 _ _
      | exact LeO.none _
      | refine LeO.ite ?_ ?_
      | refine LeO.bind ?_ (fun _ => ?_)
set_option maxHeartbeats 8000000 in
set_option maxRecDepth 100000 in
theorem dormouseref25_Right.calls (k : Nat) (A0 : Option Addr) (c0 : Nat) (l0 : List (S32)) (r : Bool) (w : World) (hr0 : Kd.C k32 w A0 l0.length l0) (hc0 : l0.length ≤ c0) (h : dormouseref25_Right.f k l0 = some r) :
    Calls Try.prog 20 #[.slice A0 l0.length c0] w fun e w' => e = .returned (.bool r) ∧ Drawn0 w w' := by
  have HR0 := Aside0.mk hr0
  have HC0 := Aside0.mk hc0
  clear hr0 hc0
  have H : (if (l0.length : Int) > 32 then (some false) else (dormouseref25_Right.l0 k l0 0)) = some r := h
  clear h
  by_cases c2 : (l0.length : Int) > 32
  · rw [if_pos c2] at H
    have c2b0 : decide (32 < (l0.length : Int)) = true := decide_eq_true c2
    have c2b1 : decide (32 < l0.length) = true := decide_eq_true (by omega)
    clear c2
    obtain rfl := Option.some.inj H
    go_enter Try.func20, Try.ntmps20
    go_wp2
    repeat (go_quiet (fail); try go_wp2)
    go_ret
    exact ⟨by first | rfl | (simp; done) | (simp [*]; done), by repeat (first | exact Drawn0.refl _ | apply Drawn0.step)⟩
  · rw [if_neg c2] at H
    have c2b0 : decide (32 < (l0.length : Int)) = false := decide_eq_false c2
    have c2b1 : decide (32 < l0.length) = false := decide_eq_false (by omega)
    clear c2
    have H' := Aside0.mk H
    clear H
    go_enter Try.func20, Try.ntmps20
    go_wp2
    repeat (go_quiet (fail); try go_wp2)
    go_loopg [3] k (fun kq v3 w' => ∃ (x3_1 : Int), v3 = .int .i64 x3_1 ∧ Aside0 (dormouseref25_Right.l0 kq l0 x3_1 = some r) ∧ Aside0 (kq ≤ k) ∧ Drawn0 w w')
    case atStart => exact ⟨(0), (by first | rfl | (simp; done) | (simp [*]; done)), H', ⟨Nat.le_refl _⟩, by repeat (first | exact Drawn0.refl _ | apply Drawn0.step)⟩
    case round =>
      clear H'
      try clear c2
      try clear c2b0
      try clear c2b1
      try clear p2
      obtain ⟨x3_1, rfl, HA, HK1, ⟨m1, rfl⟩⟩ := hrel
      cases gk with
      | zero => exact absurd HA.out (by simp [dormouseref25_Right.l0])
      | succ k1 =>
        have H := HA.out
        clear HA
        simp only [dormouseref25_Right.l0] at H
        by_cases c3 : x3_1 < (l0.length : Int)
        · rw [if_pos c3] at H
          have c3b0 : decide (x3_1 < (l0.length : Int)) = true := decide_eq_true c3
          clear c3
          by_cases c4 : 0 ≤ x3_1
          · rw [if_pos c4] at H
            have c4b0 : decide (0 ≤ x3_1) = true := decide_eq_true c4
            clear c4
            by_cases c5 : ((rd_T32 l0 x3_1).f0) < 0
            · rw [if_pos c5] at H
              have c5b0 : decide (((rd_T32 l0 x3_1).f0) < 0) = true := decide_eq_true c5
              clear c5
              obtain rfl := Option.some.inj H
              have p164 : 0 ≤ (x3_1 : Int) := of_decide_eq_true (by first | (with_reducible assumption) | assumption)
              have q164 : x3_1 < (l0.length : Int) := of_decide_eq_true (by first | (with_reducible assumption) | assumption)
              obtain ⟨ad164, e164, hx164_0, hx164_1, hx164_2⟩ := at_T32 HR0.out x3_1 p164 q164
              cases e164
              replace p164 := eq_true p164
              replace q164 := eq_true q164
              go_wp2
              repeat (go_quiet (fail); try go_wp2)
              go_ret
              exact ⟨by first | rfl | (simp; done) | (simp [*]; done), by repeat (first | exact Drawn0.refl _ | apply Drawn0.step)⟩
            · rw [if_neg c5] at H
              have c5b0 : decide (((rd_T32 l0 x3_1).f0) < 0) = false := decide_eq_false c5
              clear c5
              by_cases c6 : ((rd_T32 l0 x3_1).f0) > 16384
              · rw [if_pos c6] at H
                have c6b0 : decide (16384 < ((rd_T32 l0 x3_1).f0)) = true := decide_eq_true c6
                clear c6
                obtain rfl := Option.some.inj H
                have p164 : 0 ≤ (x3_1 : Int) := of_decide_eq_true (by first | (with_reducible assumption) | assumption)
                have q164 : x3_1 < (l0.length : Int) := of_decide_eq_true (by first | (with_reducible assumption) | assumption)
                obtain ⟨ad164, e164, hx164_0, hx164_1, hx164_2⟩ := at_T32 HR0.out x3_1 p164 q164
                cases e164
                replace p164 := eq_true p164
                replace q164 := eq_true q164
                have p165 : 0 ≤ (x3_1 : Int) := of_decide_eq_true (by first | (with_reducible assumption) | assumption)
                have q165 : x3_1 < (l0.length : Int) := of_decide_eq_true (by first | (with_reducible assumption) | assumption)
                obtain ⟨ad165, e165, hx165_0, hx165_1, hx165_2⟩ := at_T32 HR0.out x3_1 p165 q165
                obtain rfl : ad164 = ad165 := (by injection e165)
                replace p165 := eq_true p165
                replace q165 := eq_true q165
                go_wp2
                repeat (go_quiet (fail); try go_wp2)
                go_ret
                exact ⟨by first | rfl | (simp; done) | (simp [*]; done), by repeat (first | exact Drawn0.refl _ | apply Drawn0.step)⟩
              · rw [if_neg c6] at H
                have c6b0 : decide (16384 < ((rd_T32 l0 x3_1).f0)) = false := decide_eq_false c6
                clear c6
                by_cases c7 : ((rd_T32 l0 x3_1).f2) < 0
                · rw [if_pos c7] at H
                  have c7b0 : decide (((rd_T32 l0 x3_1).f2) < 0) = true := decide_eq_true c7
                  clear c7
                  obtain rfl := Option.some.inj H
                  have p164 : 0 ≤ (x3_1 : Int) := of_decide_eq_true (by first | (with_reducible assumption) | assumption)
                  have q164 : x3_1 < (l0.length : Int) := of_decide_eq_true (by first | (with_reducible assumption) | assumption)
                  obtain ⟨ad164, e164, hx164_0, hx164_1, hx164_2⟩ := at_T32 HR0.out x3_1 p164 q164
                  cases e164
                  replace p164 := eq_true p164
                  replace q164 := eq_true q164
                  have p165 : 0 ≤ (x3_1 : Int) := of_decide_eq_true (by first | (with_reducible assumption) | assumption)
                  have q165 : x3_1 < (l0.length : Int) := of_decide_eq_true (by first | (with_reducible assumption) | assumption)
                  obtain ⟨ad165, e165, hx165_0, hx165_1, hx165_2⟩ := at_T32 HR0.out x3_1 p165 q165
                  obtain rfl : ad164 = ad165 := (by injection e165)
                  replace p165 := eq_true p165
                  replace q165 := eq_true q165
                  have p166 : 0 ≤ (x3_1 : Int) := of_decide_eq_true (by first | (with_reducible assumption) | assumption)
                  have q166 : x3_1 < (l0.length : Int) := of_decide_eq_true (by first | (with_reducible assumption) | assumption)
                  obtain ⟨ad166, e166, hx166_0, hx166_1, hx166_2⟩ := at_T32 HR0.out x3_1 p166 q166
                  obtain rfl : ad164 = ad166 := (by injection e166)
                  replace p166 := eq_true p166
                  replace q166 := eq_true q166
                  go_wp2
                  repeat (go_quiet (fail); try go_wp2)
                  go_ret
                  exact ⟨by first | rfl | (simp; done) | (simp [*]; done), by repeat (first | exact Drawn0.refl _ | apply Drawn0.step)⟩
                · rw [if_neg c7] at H
                  have c7b0 : decide (((rd_T32 l0 x3_1).f2) < 0) = false := decide_eq_false c7
                  clear c7
                  by_cases c8 : ((rd_T32 l0 x3_1).f2) > 16384
                  · rw [if_pos c8] at H
                    have c8b0 : decide (16384 < ((rd_T32 l0 x3_1).f2)) = true := decide_eq_true c8
                    clear c8
                    obtain rfl := Option.some.inj H
                    have p164 : 0 ≤ (x3_1 : Int) := of_decide_eq_true (by first | (with_reducible assumption) | assumption)
                    have q164 : x3_1 < (l0.length : Int) := of_decide_eq_true (by first | (with_reducible assumption) | assumption)
                    obtain ⟨ad164, e164, hx164_0, hx164_1, hx164_2⟩ := at_T32 HR0.out x3_1 p164 q164
                    cases e164
                    replace p164 := eq_true p164
                    replace q164 := eq_true q164
                    have p165 : 0 ≤ (x3_1 : Int) := of_decide_eq_true (by first | (with_reducible assumption) | assumption)
                    have q165 : x3_1 < (l0.length : Int) := of_decide_eq_true (by first | (with_reducible assumption) | assumption)
                    obtain ⟨ad165, e165, hx165_0, hx165_1, hx165_2⟩ := at_T32 HR0.out x3_1 p165 q165
                    obtain rfl : ad164 = ad165 := (by injection e165)
                    replace p165 := eq_true p165
                    replace q165 := eq_true q165
                    have p166 : 0 ≤ (x3_1 : Int) := of_decide_eq_true (by first | (with_reducible assumption) | assumption)
                    have q166 : x3_1 < (l0.length : Int) := of_decide_eq_true (by first | (with_reducible assumption) | assumption)
                    obtain ⟨ad166, e166, hx166_0, hx166_1, hx166_2⟩ := at_T32 HR0.out x3_1 p166 q166
                    obtain rfl : ad164 = ad166 := (by injection e166)
                    replace p166 := eq_true p166
                    replace q166 := eq_true q166
                    have p167 : 0 ≤ (x3_1 : Int) := of_decide_eq_true (by first | (with_reducible assumption) | assumption)
                    have q167 : x3_1 < (l0.length : Int) := of_decide_eq_true (by first | (with_reducible assumption) | assumption)
                    obtain ⟨ad167, e167, hx167_0, hx167_1, hx167_2⟩ := at_T32 HR0.out x3_1 p167 q167
                    obtain rfl : ad164 = ad167 := (by injection e167)
                    replace p167 := eq_true p167
                    replace q167 := eq_true q167
                    go_wp2
                    repeat (go_quiet (fail); try go_wp2)
                    go_ret
                    exact ⟨by first | rfl | (simp; done) | (simp [*]; done), by repeat (first | exact Drawn0.refl _ | apply Drawn0.step)⟩
                  · rw [if_neg c8] at H
                    have c8b0 : decide (16384 < ((rd_T32 l0 x3_1).f2)) = false := decide_eq_false c8
                    clear c8
                    by_cases c9 : ((rd_T32 l0 x3_1).f1) < ((rd_T32 l0 x3_1).f0)
                    · rw [if_pos c9] at H
                      have c9b0 : decide (((rd_T32 l0 x3_1).f1) < ((rd_T32 l0 x3_1).f0)) = true := decide_eq_true c9
                      clear c9
                      obtain rfl := Option.some.inj H
                      have p164 : 0 ≤ (x3_1 : Int) := of_decide_eq_true (by first | (with_reducible assumption) | assumption)
                      have q164 : x3_1 < (l0.length : Int) := of_decide_eq_true (by first | (with_reducible assumption) | assumption)
                      obtain ⟨ad164, e164, hx164_0, hx164_1, hx164_2⟩ := at_T32 HR0.out x3_1 p164 q164
                      cases e164
                      replace p164 := eq_true p164
                      replace q164 := eq_true q164
                      have p165 : 0 ≤ (x3_1 : Int) := of_decide_eq_true (by first | (with_reducible assumption) | assumption)
                      have q165 : x3_1 < (l0.length : Int) := of_decide_eq_true (by first | (with_reducible assumption) | assumption)
                      obtain ⟨ad165, e165, hx165_0, hx165_1, hx165_2⟩ := at_T32 HR0.out x3_1 p165 q165
                      obtain rfl : ad164 = ad165 := (by injection e165)
                      replace p165 := eq_true p165
                      replace q165 := eq_true q165
                      have p166 : 0 ≤ (x3_1 : Int) := of_decide_eq_true (by first | (with_reducible assumption) | assumption)
                      have q166 : x3_1 < (l0.length : Int) := of_decide_eq_true (by first | (with_reducible assumption) | assumption)
                      obtain ⟨ad166, e166, hx166_0, hx166_1, hx166_2⟩ := at_T32 HR0.out x3_1 p166 q166
                      obtain rfl : ad164 = ad166 := (by injection e166)
                      replace p166 := eq_true p166
                      replace q166 := eq_true q166
                      have p167 : 0 ≤ (x3_1 : Int) := of_decide_eq_true (by first | (with_reducible assumption) | assumption)
                      have q167 : x3_1 < (l0.length : Int) := of_decide_eq_true (by first | (with_reducible assumption) | assumption)
                      obtain ⟨ad167, e167, hx167_0, hx167_1, hx167_2⟩ := at_T32 HR0.out x3_1 p167 q167
                      obtain rfl : ad164 = ad167 := (by injection e167)
                      replace p167 := eq_true p167
                      replace q167 := eq_true q167
                      have p168 : 0 ≤ (x3_1 : Int) := of_decide_eq_true (by first | (with_reducible assumption) | assumption)
                      have q168 : x3_1 < (l0.length : Int) := of_decide_eq_true (by first | (with_reducible assumption) | assumption)
                      obtain ⟨ad168, e168, hx168_0, hx168_1, hx168_2⟩ := at_T32 HR0.out x3_1 p168 q168
                      obtain rfl : ad164 = ad168 := (by injection e168)
                      replace p168 := eq_true p168
                      replace q168 := eq_true q168
                      have p169 : 0 ≤ (x3_1 : Int) := of_decide_eq_true (by first | (with_reducible assumption) | assumption)
                      have q169 : x3_1 < (l0.length : Int) := of_decide_eq_true (by first | (with_reducible assumption) | assumption)
                      obtain ⟨ad169, e169, hx169_0, hx169_1, hx169_2⟩ := at_T32 HR0.out x3_1 p169 q169
                      obtain rfl : ad164 = ad169 := (by injection e169)
                      replace p169 := eq_true p169
                      replace q169 := eq_true q169
                      go_wp2
                      repeat (go_quiet (fail); try go_wp2)
                      go_ret
                      exact ⟨by first | rfl | (simp; done) | (simp [*]; done), by repeat (first | exact Drawn0.refl _ | apply Drawn0.step)⟩
                    · rw [if_neg c9] at H
                      have c9b0 : decide (((rd_T32 l0 x3_1).f1) < ((rd_T32 l0 x3_1).f0)) = false := decide_eq_false c9
                      clear c9
                      by_cases c10 : ((rd_T32 l0 x3_1).f1) > 32768
                      · rw [if_pos c10] at H
                        have c10b0 : decide (32768 < ((rd_T32 l0 x3_1).f1)) = true := decide_eq_true c10
                        clear c10
                        obtain rfl := Option.some.inj H
                        have p164 : 0 ≤ (x3_1 : Int) := of_decide_eq_true (by first | (with_reducible assumption) | assumption)
                        have q164 : x3_1 < (l0.length : Int) := of_decide_eq_true (by first | (with_reducible assumption) | assumption)
                        obtain ⟨ad164, e164, hx164_0, hx164_1, hx164_2⟩ := at_T32 HR0.out x3_1 p164 q164
                        cases e164
                        replace p164 := eq_true p164
                        replace q164 := eq_true q164
                        have p165 : 0 ≤ (x3_1 : Int) := of_decide_eq_true (by first | (with_reducible assumption) | assumption)
                        have q165 : x3_1 < (l0.length : Int) := of_decide_eq_true (by first | (with_reducible assumption) | assumption)
                        obtain ⟨ad165, e165, hx165_0, hx165_1, hx165_2⟩ := at_T32 HR0.out x3_1 p165 q165
                        obtain rfl : ad164 = ad165 := (by injection e165)
                        replace p165 := eq_true p165
                        replace q165 := eq_true q165
                        have p166 : 0 ≤ (x3_1 : Int) := of_decide_eq_true (by first | (with_reducible assumption) | assumption)
                        have q166 : x3_1 < (l0.length : Int) := of_decide_eq_true (by first | (with_reducible assumption) | assumption)
                        obtain ⟨ad166, e166, hx166_0, hx166_1, hx166_2⟩ := at_T32 HR0.out x3_1 p166 q166
                        obtain rfl : ad164 = ad166 := (by injection e166)
                        replace p166 := eq_true p166
                        replace q166 := eq_true q166
                        have p167 : 0 ≤ (x3_1 : Int) := of_decide_eq_true (by first | (with_reducible assumption) | assumption)
                        have q167 : x3_1 < (l0.length : Int) := of_decide_eq_true (by first | (with_reducible assumption) | assumption)
                        obtain ⟨ad167, e167, hx167_0, hx167_1, hx167_2⟩ := at_T32 HR0.out x3_1 p167 q167
                        obtain rfl : ad164 = ad167 := (by injection e167)
                        replace p167 := eq_true p167
                        replace q167 := eq_true q167
                        have p168 : 0 ≤ (x3_1 : Int) := of_decide_eq_true (by first | (with_reducible assumption) | assumption)
                        have q168 : x3_1 < (l0.length : Int) := of_decide_eq_true (by first | (with_reducible assumption) | assumption)
                        obtain ⟨ad168, e168, hx168_0, hx168_1, hx168_2⟩ := at_T32 HR0.out x3_1 p168 q168
                        obtain rfl : ad164 = ad168 := (by injection e168)
                        replace p168 := eq_true p168
                        replace q168 := eq_true q168
                        have p169 : 0 ≤ (x3_1 : Int) := of_decide_eq_true (by first | (with_reducible assumption) | assumption)
                        have q169 : x3_1 < (l0.length : Int) := of_decide_eq_true (by first | (with_reducible assumption) | assumption)
                        obtain ⟨ad169, e169, hx169_0, hx169_1, hx169_2⟩ := at_T32 HR0.out x3_1 p169 q169
                        obtain rfl : ad164 = ad169 := (by injection e169)
                        replace p169 := eq_true p169
                        replace q169 := eq_true q169
                        have p170 : 0 ≤ (x3_1 : Int) := of_decide_eq_true (by first | (with_reducible assumption) | assumption)
                        have q170 : x3_1 < (l0.length : Int) := of_decide_eq_true (by first | (with_reducible assumption) | assumption)
                        obtain ⟨ad170, e170, hx170_0, hx170_1, hx170_2⟩ := at_T32 HR0.out x3_1 p170 q170
                        obtain rfl : ad164 = ad170 := (by injection e170)
                        replace p170 := eq_true p170
                        replace q170 := eq_true q170
                        go_wp2
                        repeat (go_quiet (fail); try go_wp2)
                        go_ret
                        exact ⟨by first | rfl | (simp; done) | (simp [*]; done), by repeat (first | exact Drawn0.refl _ | apply Drawn0.step)⟩
                      · rw [if_neg c10] at H
                        have c10b0 : decide (32768 < ((rd_T32 l0 x3_1).f1)) = false := decide_eq_false c10
                        clear c10
                        have H' := Aside0.mk H
                        clear H
                        have p164 : 0 ≤ (x3_1 : Int) := of_decide_eq_true (by first | (with_reducible assumption) | assumption)
                        have q164 : x3_1 < (l0.length : Int) := of_decide_eq_true (by first | (with_reducible assumption) | assumption)
                        obtain ⟨ad164, e164, hx164_0, hx164_1, hx164_2⟩ := at_T32 HR0.out x3_1 p164 q164
                        cases e164
                        replace p164 := eq_true p164
                        replace q164 := eq_true q164
                        have p165 : 0 ≤ (x3_1 : Int) := of_decide_eq_true (by first | (with_reducible assumption) | assumption)
                        have q165 : x3_1 < (l0.length : Int) := of_decide_eq_true (by first | (with_reducible assumption) | assumption)
                        obtain ⟨ad165, e165, hx165_0, hx165_1, hx165_2⟩ := at_T32 HR0.out x3_1 p165 q165
                        obtain rfl : ad164 = ad165 := (by injection e165)
                        replace p165 := eq_true p165
                        replace q165 := eq_true q165
                        have p166 : 0 ≤ (x3_1 : Int) := of_decide_eq_true (by first | (with_reducible assumption) | assumption)
                        have q166 : x3_1 < (l0.length : Int) := of_decide_eq_true (by first | (with_reducible assumption) | assumption)
                        obtain ⟨ad166, e166, hx166_0, hx166_1, hx166_2⟩ := at_T32 HR0.out x3_1 p166 q166
                        obtain rfl : ad164 = ad166 := (by injection e166)
                        replace p166 := eq_true p166
                        replace q166 := eq_true q166
                        have p167 : 0 ≤ (x3_1 : Int) := of_decide_eq_true (by first | (with_reducible assumption) | assumption)
                        have q167 : x3_1 < (l0.length : Int) := of_decide_eq_true (by first | (with_reducible assumption) | assumption)
                        obtain ⟨ad167, e167, hx167_0, hx167_1, hx167_2⟩ := at_T32 HR0.out x3_1 p167 q167
                        obtain rfl : ad164 = ad167 := (by injection e167)
                        replace p167 := eq_true p167
                        replace q167 := eq_true q167
                        have p168 : 0 ≤ (x3_1 : Int) := of_decide_eq_true (by first | (with_reducible assumption) | assumption)
                        have q168 : x3_1 < (l0.length : Int) := of_decide_eq_true (by first | (with_reducible assumption) | assumption)
                        obtain ⟨ad168, e168, hx168_0, hx168_1, hx168_2⟩ := at_T32 HR0.out x3_1 p168 q168
                        obtain rfl : ad164 = ad168 := (by injection e168)
                        replace p168 := eq_true p168
                        replace q168 := eq_true q168
                        have p169 : 0 ≤ (x3_1 : Int) := of_decide_eq_true (by first | (with_reducible assumption) | assumption)
                        have q169 : x3_1 < (l0.length : Int) := of_decide_eq_true (by first | (with_reducible assumption) | assumption)
                        obtain ⟨ad169, e169, hx169_0, hx169_1, hx169_2⟩ := at_T32 HR0.out x3_1 p169 q169
                        obtain rfl : ad164 = ad169 := (by injection e169)
                        replace p169 := eq_true p169
                        replace q169 := eq_true q169
                        have p170 : 0 ≤ (x3_1 : Int) := of_decide_eq_true (by first | (with_reducible assumption) | assumption)
                        have q170 : x3_1 < (l0.length : Int) := of_decide_eq_true (by first | (with_reducible assumption) | assumption)
                        obtain ⟨ad170, e170, hx170_0, hx170_1, hx170_2⟩ := at_T32 HR0.out x3_1 p170 q170
                        obtain rfl : ad164 = ad170 := (by injection e170)
                        replace p170 := eq_true p170
                        replace q170 := eq_true q170
                        go_wp2
                        repeat (go_quiet (fail); try go_wp2)
                        go_roundg k1
                        case measure => have := HK1.out; omega
                        case rel => exact ⟨(wrap64 (x3_1 + 1)), (by first | rfl | (simp; done) | (simp [*]; done)), H', ⟨by have := HK1.out; omega⟩, by repeat (first | exact Drawn0.refl _ | apply Drawn0.step)⟩
          · rw [if_neg c4] at H
            exact absurd H (by simp)
        · rw [if_neg c3] at H
          have c3b0 : decide (x3_1 < (l0.length : Int)) = false := decide_eq_false c3
          clear c3
          obtain rfl := Option.some.inj H
          go_wp2
          repeat (go_quiet (fail); try go_wp2)
          go_ret
          exact ⟨by first | rfl | (simp; done) | (simp [*]; done), by repeat (first | exact Drawn0.refl _ | apply Drawn0.step)⟩

end Go.Proofs.Ytanakihfgdgdfaa.F
