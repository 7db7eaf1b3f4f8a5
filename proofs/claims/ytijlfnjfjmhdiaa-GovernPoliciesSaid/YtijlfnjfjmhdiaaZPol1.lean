/- Part 1 of the law's texts: what its row hangs on. -/
import Derived.Test.YtijlfnjfjmhdiaaZPol0
import Derived.Test.YtijlfnjfjmhdiaaProg
import Derived.Below
import Derived.Deep.Draws
import Derived.Deep.AppendLies
import Derived.Maps.AppendAt
import Derived.OwnWalk
import Derived.Laws.BytesArg
import Derived.Laws.MakeOwn
import Derived.Laws.OwnMore
import Derived.Deep.OwnRows
import Derived.Tactics
import Derived.Lib.ConvBytes
import Derived.Laws.Slices
import Derived.WalkKit
import Derived.KernelRfl
import Derived.RowKit3
import Derived.Deep.LoopGhost
import Derived.Deep.QuietTactic
import Derived.BigQuiet
import Derived.WideLaws
import Derived.Deep.DeepCutAuto
import Derived.Deep.CutBlock
import Derived.Deep.RegionHeld3
import Derived.Laws.Rows
import Derived.Lib.AppendStr
import Derived.ArgAppend
import Derived.Laws.IdiomCopy
import Derived.OrdersHeld
import Derived.Laws.BitsLemmas
import Derived.RowKit
import Derived.Deep.Slices
import Derived.ChangeSame
import Derived.ChangeOld
import Derived.Carry
namespace Go.Proofs.Ytijlfnjfjmhdiaa.F
open Go.RowKit Go.Proofs.YtijlfnjfjmhdiaaW.PrintWords Go.Proofs.YtijlfnjfjmhdiaaW.PrintLast Go.Proofs.YtijlfnjfjmhdiaaW.PrintMore
attribute [local go_sem] max2_int min2_int max_two min_two max_three min_three max_four min_four   -- for this text's walks alone
set_option linter.unusedVariables false
set_option linter.unusedSimpArgs false
def errW : Option Int → Value
  | none => .nilIface
  | some c => .iface 0 (.int .i64 c)
theorem errW_none : errW none = .nilIface := rfl
theorem errW_some (c : Int) : errW (some c) = .iface 0 (.int .i64 c) := rfl
structure S45 where
  f0 : Int
  f1 : Int
def z45 : S45 := ⟨(0 : Int), (0 : Int)⟩
def k45 : Kd S45 := Kd.iso (Kd.pair (Kd.int .i64) (Kd.int .i64)) (fun x : S45 => (x.f0, x.f1))
theorem k45_open {w : World} {x : S45} {cs : List Value} (h : k45.K w x cs) : cs = [.int .i64 x.f0, .int .i64 x.f1] := by
  obtain ⟨_, _, rfl, rfl, rfl⟩ := h
  exact rfl
theorem k45_mk (w : World) (x : S45)  : k45.K w x [.int .i64 x.f0, .int .i64 x.f1] := ⟨[.int .i64 x.f0], [.int .i64 x.f1], rfl, rfl, rfl⟩
def rd_T45 (xs : List S45) (i : Int) : S45 := xs.getD i.toNat z45
theorem at_T45 {w : World} {A : Option Addr} {n : Nat} {xs : List S45} (h : Kd.C k45 w A n xs) (i : Int) (h0 : 0 ≤ i) (h1 : i < n) : ∃ ad , A = some ad ∧ w.cell? (ad.add (i.toNat * 2)) = some (.int .i64 (rd_T45 xs i).f0) ∧ w.cell? ⟨(ad.add (i.toNat * 2)).block, (ad.add (i.toNat * 2)).off + 1, none⟩ = some (.int .i64 (rd_T45 xs i).f1) := by
  obtain ⟨ad, c, e, _, hK, hc0⟩ := Kd.C_get h z45 i h0 h1
  have hc : ∀ j u, c[j]? = some u → w.cell? (ad.add (i.toNat * 2 + j)) = some u := hc0
  obtain rfl := k45_open hK
  exact ⟨ad, e, hc 0 _ rfl, by rw [← add_field _ _ 1 (by omega)]; exact hc 1 _ rfl⟩
structure S59 where
  f0 : Int
  f1 : Int
  f2 : Int
  f3 : Int
  f4 : Int
  f5 : Int
def z59 : S59 := ⟨(0 : Int), (0 : Int), (0 : Int), (0 : Int), (0 : Int), (0 : Int)⟩
def k59 : Kd S59 := Kd.iso (Kd.pair (Kd.int .i64) (Kd.pair (Kd.int .i64) (Kd.pair (Kd.int .i64) (Kd.pair (Kd.int .i64) (Kd.pair (Kd.int .i64) (Kd.int .i64)))))) (fun x : S59 => (x.f0, x.f1, x.f2, x.f3, x.f4, x.f5))
theorem k59_open {w : World} {x : S59} {cs : List Value} (h : k59.K w x cs) : cs = [.int .i64 x.f0, .int .i64 x.f1, .int .i64 x.f2, .int .i64 x.f3, .int .i64 x.f4, .int .i64 x.f5] := by
  obtain ⟨_, _, rfl, rfl, ⟨_, _, rfl, rfl, ⟨_, _, rfl, rfl, ⟨_, _, rfl, rfl, ⟨_, _, rfl, rfl, rfl⟩⟩⟩⟩⟩ := h
  exact rfl
def rd_T59 (xs : List S59) (i : Int) : S59 := xs.getD i.toNat z59
theorem at_T59 {w : World} {A : Option Addr} {n : Nat} {xs : List S59} (h : Kd.C k59 w A n xs) (i : Int) (h0 : 0 ≤ i) (h1 : i < n) : ∃ ad , A = some ad ∧ w.cell? (ad.add (i.toNat * 6)) = some (.int .i64 (rd_T59 xs i).f0) ∧ w.cell? ⟨(ad.add (i.toNat * 6)).block, (ad.add (i.toNat * 6)).off + 1, none⟩ = some (.int .i64 (rd_T59 xs i).f1) ∧ w.cell? ⟨(ad.add (i.toNat * 6)).block, (ad.add (i.toNat * 6)).off + 2, none⟩ = some (.int .i64 (rd_T59 xs i).f2) ∧ w.cell? ⟨(ad.add (i.toNat * 6)).block, (ad.add (i.toNat * 6)).off + 3, none⟩ = some (.int .i64 (rd_T59 xs i).f3) ∧ w.cell? ⟨(ad.add (i.toNat * 6)).block, (ad.add (i.toNat * 6)).off + 4, none⟩ = some (.int .i64 (rd_T59 xs i).f4) ∧ w.cell? ⟨(ad.add (i.toNat * 6)).block, (ad.add (i.toNat * 6)).off + 5, none⟩ = some (.int .i64 (rd_T59 xs i).f5) := by
  obtain ⟨ad, c, e, _, hK, hc0⟩ := Kd.C_get h z59 i h0 h1
  have hc : ∀ j u, c[j]? = some u → w.cell? (ad.add (i.toNat * 6 + j)) = some u := hc0
  obtain rfl := k59_open hK
  exact ⟨ad, e, hc 0 _ rfl, by rw [← add_field _ _ 1 (by omega)]; exact hc 1 _ rfl, by rw [← add_field _ _ 2 (by omega)]; exact hc 2 _ rfl, by rw [← add_field _ _ 3 (by omega)]; exact hc 3 _ rfl, by rw [← add_field _ _ 4 (by omega)]; exact hc 4 _ rfl, by rw [← add_field _ _ 5 (by omega)]; exact hc 5 _ rfl⟩
structure S62 where
  f0 : Int
  f1 : Int
  f2 : Int
  f3 : Int
  f4 : Int
  f5 : Int
  f6 : Int
def z62 : S62 := ⟨(0 : Int), (0 : Int), (0 : Int), (0 : Int), (0 : Int), (0 : Int), (0 : Int)⟩
def k62 : Kd S62 := Kd.iso (Kd.pair (Kd.int .i64) (Kd.pair (Kd.int .i64) (Kd.pair (Kd.int .i64) (Kd.pair (Kd.int .i64) (Kd.pair (Kd.int .i64) (Kd.pair (Kd.int .i64) (Kd.int .i64))))))) (fun x : S62 => (x.f0, x.f1, x.f2, x.f3, x.f4, x.f5, x.f6))
theorem k62_open {w : World} {x : S62} {cs : List Value} (h : k62.K w x cs) : cs = [.int .i64 x.f0, .int .i64 x.f1, .int .i64 x.f2, .int .i64 x.f3, .int .i64 x.f4, .int .i64 x.f5, .int .i64 x.f6] := by
  obtain ⟨_, _, rfl, rfl, ⟨_, _, rfl, rfl, ⟨_, _, rfl, rfl, ⟨_, _, rfl, rfl, ⟨_, _, rfl, rfl, ⟨_, _, rfl, rfl, rfl⟩⟩⟩⟩⟩⟩ := h
  exact rfl
def rd_T62 (xs : List S62) (i : Int) : S62 := xs.getD i.toNat z62
theorem at_T62 {w : World} {A : Option Addr} {n : Nat} {xs : List S62} (h : Kd.C k62 w A n xs) (i : Int) (h0 : 0 ≤ i) (h1 : i < n) : ∃ ad , A = some ad ∧ w.cell? (ad.add (i.toNat * 7)) = some (.int .i64 (rd_T62 xs i).f0) ∧ w.cell? ⟨(ad.add (i.toNat * 7)).block, (ad.add (i.toNat * 7)).off + 1, none⟩ = some (.int .i64 (rd_T62 xs i).f1) ∧ w.cell? ⟨(ad.add (i.toNat * 7)).block, (ad.add (i.toNat * 7)).off + 2, none⟩ = some (.int .i64 (rd_T62 xs i).f2) ∧ w.cell? ⟨(ad.add (i.toNat * 7)).block, (ad.add (i.toNat * 7)).off + 3, none⟩ = some (.int .i64 (rd_T62 xs i).f3) ∧ w.cell? ⟨(ad.add (i.toNat * 7)).block, (ad.add (i.toNat * 7)).off + 4, none⟩ = some (.int .i64 (rd_T62 xs i).f4) ∧ w.cell? ⟨(ad.add (i.toNat * 7)).block, (ad.add (i.toNat * 7)).off + 5, none⟩ = some (.int .i64 (rd_T62 xs i).f5) ∧ w.cell? ⟨(ad.add (i.toNat * 7)).block, (ad.add (i.toNat * 7)).off + 6, none⟩ = some (.int .i64 (rd_T62 xs i).f6) := by
  obtain ⟨ad, c, e, _, hK, hc0⟩ := Kd.C_get h z62 i h0 h1
  have hc : ∀ j u, c[j]? = some u → w.cell? (ad.add (i.toNat * 7 + j)) = some u := hc0
  obtain rfl := k62_open hK
  exact ⟨ad, e, hc 0 _ rfl, by rw [← add_field _ _ 1 (by omega)]; exact hc 1 _ rfl, by rw [← add_field _ _ 2 (by omega)]; exact hc 2 _ rfl, by rw [← add_field _ _ 3 (by omega)]; exact hc 3 _ rfl, by rw [← add_field _ _ 4 (by omega)]; exact hc 4 _ rfl, by rw [← add_field _ _ 5 (by omega)]; exact hc 5 _ rfl, by rw [← add_field _ _ 6 (by omega)]; exact hc 6 _ rfl⟩
end Go.Proofs.Ytijlfnjfjmhdiaa.F
namespace Go.Proofs.Ytijlfnjfjmhdiaa.F
open Go.RowKit Go.Proofs.YtijlfnjfjmhdiaaW.PrintWords Go.Proofs.YtijlfnjfjmhdiaaW.PrintLast Go.Proofs.YtijlfnjfjmhdiaaW.PrintMore
attribute [local go_sem] max2_int min2_int max_two min_two max_three min_three max_four min_four   -- for this text's walks alone
set_option linter.unusedVariables false
set_option linter.unusedSimpArgs false
def dormouseref01_away.f (a0 : Int) (a1 : Int) (a2 : Int) (a3 : Int) (a4 : Int) (a5 : Int) (a6 : Int) : Option (Bool) := if a0 < 0 then (some false) else (if a0 > 256 then (some false) else (if a1 < 0 then (some false) else (if a1 > 256 then (some false) else (if a2 < 0 then (some false) else (if a2 > 65536 then (some false) else (if a3 < 0 then (some false) else (if a3 > 65536 then (some false) else (if a5 < 0 then (some false) else (if a5 > 65536 then (some false) else (if a4 < 0 then (some false) else (if a4 > a5 then (some false) else (if a6 ≥ (wrap64 (a0 + a1)) then (if a6 ≥ 1 then (if a6 ≤ 16384 then (some (decide ((wrap64 ((wrap64 (a2 + a3)) + (wrap64 (a4 * (wrap64 ((wrap64 (a6 - a0)) - a1)))))) ≤ (wrap64 (a5 * a6))))) else (some false)) else (some false)) else (some false)))))))))))))
set_option maxHeartbeats 8000000 in
set_option maxRecDepth 100000 in
theorem dormouseref01_away.calls (a0 : Int) (a1 : Int) (a2 : Int) (a3 : Int) (a4 : Int) (a5 : Int) (a6 : Int) (r : Bool) (w : World) (h : dormouseref01_away.f a0 a1 a2 a3 a4 a5 a6 = some r) :
    Calls Try.prog 31 #[.int .i64 a0, .int .i64 a1, .int .i64 a2, .int .i64 a3, .int .i64 a4, .int .i64 a5, .int .i64 a6] w fun e w' => e = .returned (.bool r) ∧ Drawn0 w w' := by
  have H : (if a0 < 0 then (some false) else (if a0 > 256 then (some false) else (if a1 < 0 then (some false) else (if a1 > 256 then (some false) else (if a2 < 0 then (some false) else (if a2 > 65536 then (some false) else (if a3 < 0 then (some false) else (if a3 > 65536 then (some false) else (if a5 < 0 then (some false) else (if a5 > 65536 then (some false) else (if a4 < 0 then (some false) else (if a4 > a5 then (some false) else (if a6 ≥ (wrap64 (a0 + a1)) then (if a6 ≥ 1 then (if a6 ≤ 16384 then (some (decide ((wrap64 ((wrap64 (a2 + a3)) + (wrap64 (a4 * (wrap64 ((wrap64 (a6 - a0)) - a1)))))) ≤ (wrap64 (a5 * a6))))) else (some false)) else (some false)) else (some false)))))))))))))) = some r := h
  clear h
  by_cases c8 : a0 < 0
  · rw [if_pos c8] at H
    have c8b0 : decide (a0 < 0) = true := decide_eq_true c8
    clear c8
    obtain rfl := Option.some.inj H
    go_enter Try.func31, Try.ntmps31
    go_wp2
    go_ret
    exact ⟨by first | rfl | (simp; done) | (simp [*]; done), by repeat (first | exact Drawn0.refl _ | apply Drawn0.step)⟩
  · rw [if_neg c8] at H
    have c8b0 : decide (a0 < 0) = false := decide_eq_false c8
    clear c8
    by_cases c9 : a0 > 256
    · rw [if_pos c9] at H
      have c9b0 : decide (256 < a0) = true := decide_eq_true c9
      clear c9
      obtain rfl := Option.some.inj H
      go_enter Try.func31, Try.ntmps31
      go_wp2
      go_ret
      exact ⟨by first | rfl | (simp; done) | (simp [*]; done), by repeat (first | exact Drawn0.refl _ | apply Drawn0.step)⟩
    · rw [if_neg c9] at H
      have c9b0 : decide (256 < a0) = false := decide_eq_false c9
      clear c9
      by_cases c10 : a1 < 0
      · rw [if_pos c10] at H
        have c10b0 : decide (a1 < 0) = true := decide_eq_true c10
        clear c10
        obtain rfl := Option.some.inj H
        go_enter Try.func31, Try.ntmps31
        go_wp2
        go_ret
        exact ⟨by first | rfl | (simp; done) | (simp [*]; done), by repeat (first | exact Drawn0.refl _ | apply Drawn0.step)⟩
      · rw [if_neg c10] at H
        have c10b0 : decide (a1 < 0) = false := decide_eq_false c10
        clear c10
        by_cases c11 : a1 > 256
        · rw [if_pos c11] at H
          have c11b0 : decide (256 < a1) = true := decide_eq_true c11
          clear c11
          obtain rfl := Option.some.inj H
          go_enter Try.func31, Try.ntmps31
          go_wp2
          go_ret
          exact ⟨by first | rfl | (simp; done) | (simp [*]; done), by repeat (first | exact Drawn0.refl _ | apply Drawn0.step)⟩
        · rw [if_neg c11] at H
          have c11b0 : decide (256 < a1) = false := decide_eq_false c11
          clear c11
          by_cases c12 : a2 < 0
          · rw [if_pos c12] at H
            have c12b0 : decide (a2 < 0) = true := decide_eq_true c12
            clear c12
            obtain rfl := Option.some.inj H
            go_enter Try.func31, Try.ntmps31
            go_wp2
            go_ret
            exact ⟨by first | rfl | (simp; done) | (simp [*]; done), by repeat (first | exact Drawn0.refl _ | apply Drawn0.step)⟩
          · rw [if_neg c12] at H
            have c12b0 : decide (a2 < 0) = false := decide_eq_false c12
            clear c12
            by_cases c13 : a2 > 65536
            · rw [if_pos c13] at H
              have c13b0 : decide (65536 < a2) = true := decide_eq_true c13
              clear c13
              obtain rfl := Option.some.inj H
              go_enter Try.func31, Try.ntmps31
              go_wp2
              go_ret
              exact ⟨by first | rfl | (simp; done) | (simp [*]; done), by repeat (first | exact Drawn0.refl _ | apply Drawn0.step)⟩
            · rw [if_neg c13] at H
              have c13b0 : decide (65536 < a2) = false := decide_eq_false c13
              clear c13
              by_cases c14 : a3 < 0
              · rw [if_pos c14] at H
                have c14b0 : decide (a3 < 0) = true := decide_eq_true c14
                clear c14
                obtain rfl := Option.some.inj H
                go_enter Try.func31, Try.ntmps31
                go_wp2
                go_ret
                exact ⟨by first | rfl | (simp; done) | (simp [*]; done), by repeat (first | exact Drawn0.refl _ | apply Drawn0.step)⟩
              · rw [if_neg c14] at H
                have c14b0 : decide (a3 < 0) = false := decide_eq_false c14
                clear c14
                by_cases c15 : a3 > 65536
                · rw [if_pos c15] at H
                  have c15b0 : decide (65536 < a3) = true := decide_eq_true c15
                  clear c15
                  obtain rfl := Option.some.inj H
                  go_enter Try.func31, Try.ntmps31
                  go_wp2
                  go_ret
                  exact ⟨by first | rfl | (simp; done) | (simp [*]; done), by repeat (first | exact Drawn0.refl _ | apply Drawn0.step)⟩
                · rw [if_neg c15] at H
                  have c15b0 : decide (65536 < a3) = false := decide_eq_false c15
                  clear c15
                  by_cases c16 : a5 < 0
                  · rw [if_pos c16] at H
                    have c16b0 : decide (a5 < 0) = true := decide_eq_true c16
                    clear c16
                    obtain rfl := Option.some.inj H
                    go_enter Try.func31, Try.ntmps31
                    go_wp2
                    go_ret
                    exact ⟨by first | rfl | (simp; done) | (simp [*]; done), by repeat (first | exact Drawn0.refl _ | apply Drawn0.step)⟩
                  · rw [if_neg c16] at H
                    have c16b0 : decide (a5 < 0) = false := decide_eq_false c16
                    clear c16
                    by_cases c17 : a5 > 65536
                    · rw [if_pos c17] at H
                      have c17b0 : decide (65536 < a5) = true := decide_eq_true c17
                      clear c17
                      obtain rfl := Option.some.inj H
                      go_enter Try.func31, Try.ntmps31
                      go_wp2
                      go_ret
                      exact ⟨by first | rfl | (simp; done) | (simp [*]; done), by repeat (first | exact Drawn0.refl _ | apply Drawn0.step)⟩
                    · rw [if_neg c17] at H
                      have c17b0 : decide (65536 < a5) = false := decide_eq_false c17
                      clear c17
                      by_cases c18 : a4 < 0
                      · rw [if_pos c18] at H
                        have c18b0 : decide (a4 < 0) = true := decide_eq_true c18
                        clear c18
                        obtain rfl := Option.some.inj H
                        go_enter Try.func31, Try.ntmps31
                        go_wp2
                        go_ret
                        exact ⟨by first | rfl | (simp; done) | (simp [*]; done), by repeat (first | exact Drawn0.refl _ | apply Drawn0.step)⟩
                      · rw [if_neg c18] at H
                        have c18b0 : decide (a4 < 0) = false := decide_eq_false c18
                        clear c18
                        by_cases c19 : a4 > a5
                        · rw [if_pos c19] at H
                          have c19b0 : decide (a5 < a4) = true := decide_eq_true c19
                          clear c19
                          obtain rfl := Option.some.inj H
                          go_enter Try.func31, Try.ntmps31
                          go_wp2
                          go_ret
                          exact ⟨by first | rfl | (simp; done) | (simp [*]; done), by repeat (first | exact Drawn0.refl _ | apply Drawn0.step)⟩
                        · rw [if_neg c19] at H
                          have c19b0 : decide (a5 < a4) = false := decide_eq_false c19
                          clear c19
                          by_cases c20 : a6 ≥ (wrap64 (a0 + a1))
                          · rw [if_pos c20] at H
                            have c20b0 : decide ((wrap64 (a0 + a1)) ≤ a6) = true := decide_eq_true c20
                            clear c20
                            by_cases c21 : a6 ≥ 1
                            · rw [if_pos c21] at H
                              have c21b0 : decide (1 ≤ a6) = true := decide_eq_true c21
                              clear c21
                              by_cases c22 : a6 ≤ 16384
                              · rw [if_pos c22] at H
                                have c22b0 : decide (a6 ≤ 16384) = true := decide_eq_true c22
                                clear c22
                                obtain rfl := Option.some.inj H
                                go_enter Try.func31, Try.ntmps31
                                go_wp2
                                go_ret
                                exact ⟨by first | rfl | (simp; done) | (simp [*]; done), by repeat (first | exact Drawn0.refl _ | apply Drawn0.step)⟩
                              · rw [if_neg c22] at H
                                have c22b0 : decide (a6 ≤ 16384) = false := decide_eq_false c22
                                clear c22
                                obtain rfl := Option.some.inj H
                                go_enter Try.func31, Try.ntmps31
                                go_wp2
                                go_ret
                                exact ⟨by first | rfl | (simp; done) | (simp [*]; done), by repeat (first | exact Drawn0.refl _ | apply Drawn0.step)⟩
                            · rw [if_neg c21] at H
                              have c21b0 : decide (1 ≤ a6) = false := decide_eq_false c21
                              clear c21
                              obtain rfl := Option.some.inj H
                              go_enter Try.func31, Try.ntmps31
                              go_wp2
                              go_ret
                              exact ⟨by first | rfl | (simp; done) | (simp [*]; done), by repeat (first | exact Drawn0.refl _ | apply Drawn0.step)⟩
                          · rw [if_neg c20] at H
                            have c20b0 : decide ((wrap64 (a0 + a1)) ≤ a6) = false := decide_eq_false c20
                            clear c20
                            obtain rfl := Option.some.inj H
                            go_enter Try.func31, Try.ntmps31
                            go_wp2
                            go_ret
                            exact ⟨by first | rfl | (simp; done) | (simp [*]; done), by repeat (first | exact Drawn0.refl _ | apply Drawn0.step)⟩
end Go.Proofs.Ytijlfnjfjmhdiaa.F
namespace Go.Proofs.Ytijlfnjfjmhdiaa.F
open Go.RowKit Go.Proofs.YtijlfnjfjmhdiaaW.PrintWords Go.Proofs.YtijlfnjfjmhdiaaW.PrintLast Go.Proofs.YtijlfnjfjmhdiaaW.PrintMore
attribute [local go_sem] max2_int min2_int max_two min_two max_three min_three max_four min_four   -- for this text's walks alone
set_option linter.unusedVariables false
set_option linter.unusedSimpArgs false
def dormouseref01_Sleep.f (a0_0 : Int) (a0_1 : Int) (a0_2 : Int) (a0_3 : Int) (a0_4 : Int) (a0_5 : Int) (a1 : Int) : Option (Bool) := (dormouseref01_away.f a0_1 a0_2 a0_3 a0_4 a0_0 a1 a0_5).bind fun t123 => (some t123)
set_option maxHeartbeats 8000000 in
set_option maxRecDepth 100000 in
theorem dormouseref01_Sleep.calls (a0_0 : Int) (a0_1 : Int) (a0_2 : Int) (a0_3 : Int) (a0_4 : Int) (a0_5 : Int) (a1 : Int) (r : Bool) (w : World) (h : dormouseref01_Sleep.f a0_0 a0_1 a0_2 a0_3 a0_4 a0_5 a1 = some r) :
    Calls Try.prog 27 #[.agg #[.int .i64 a0_0, .int .i64 a0_1, .int .i64 a0_2, .int .i64 a0_3, .int .i64 a0_4, .int .i64 a0_5], .int .i64 a1] w fun e w' => e = .returned (.bool r) ∧ Below w.heap.size w w' := by
  have hu59 := Try.underlying59
  have HB := Aside0.mk (Below.refl w.heap.size w)
  have H : ((dormouseref01_away.f a0_1 a0_2 a0_3 a0_4 a0_0 a1 a0_5).bind fun t123 => (some t123)) = some r := h
  clear h
  replace H := Option.bind_eq_some_iff.mp H
  obtain ⟨t123, A30, H⟩ := H
  replace H : (some t123) = some r := H
  have A3 := Aside0.mk A30
  clear A30
  obtain rfl := Option.some.inj H
  go_enter Try.func27, Try.ntmps27
  go_wp2_with (first | ((with_reducible refine gate_dst (N := 2) rfl ?_); refine box_event ?hg (N := 2) ?hd (cs := #[.int .i64 a0_0, .int .i64 a0_1, .int .i64 a0_2, .int .i64 a0_3, .int .i64 a0_4, .int .i64 a0_5]) (t := 59) ?hr ?_; (case hd => rfl); (case hg => rfl); (case hr => first | (go_simp; done) | (go_simp; rfl)); intro gb122 hg w4 hbox hb; have n0_ := Aside0.mk (below_step (by repeat (first | (with_reducible first | exact HB.out | apply below_alloc | apply pw_below_drewN | apply below_drew1) | exact HB.out)) hb); have n1_ := Aside0.mk (hbox); have n2_ := Aside0.mk ((by rw [hg]; exact (below_size (by repeat (first | (with_reducible first | exact HB.out | apply below_alloc | apply pw_below_drewN | apply below_drew1) | exact HB.out))) : w.heap.size ≤ gb122)); have n3_ := Aside0.mk ((by rw [hg]; exact (below_size (by repeat (first | (with_reducible first | exact HB.out | apply below_alloc | apply pw_below_drewN | apply below_drew1) | exact HB.out))) : w.heap.size ≤ gb122)); clear HB; have HB := n0_; have BK122 := n1_; have GW122 := n2_; have GE122 := n3_; clear n0_ n1_ n2_ n3_; clear hb hbox hg; have hcz5_0 : w4.cell? ⟨gb122, 0, none⟩ = some (.int .i64 a0_0) := (blk_cell BK122.out 0).trans rfl; have hcz5_1 : w4.cell? ⟨gb122, 1, none⟩ = some (.int .i64 a0_1) := (blk_cell BK122.out 1).trans rfl; have hcz5_2 : w4.cell? ⟨gb122, 2, none⟩ = some (.int .i64 a0_2) := (blk_cell BK122.out 2).trans rfl; have hcz5_3 : w4.cell? ⟨gb122, 3, none⟩ = some (.int .i64 a0_3) := (blk_cell BK122.out 3).trans rfl; have hcz5_4 : w4.cell? ⟨gb122, 4, none⟩ = some (.int .i64 a0_4) := (blk_cell BK122.out 4).trans rfl; have hcz5_5 : w4.cell? ⟨gb122, 5, none⟩ = some (.int .i64 a0_5) := (blk_cell BK122.out 5).trans rfl; have hfz5_0 := blk_frozen BK122.out 0; have hfz5_1 := blk_frozen BK122.out 1; have hfz5_2 := blk_frozen BK122.out 2; have hfz5_3 := blk_frozen BK122.out 3; have hfz5_4 := blk_frozen BK122.out 4; have hfz5_5 := blk_frozen BK122.out 5) | ((with_reducible refine gate_callee (f := 31) rfl ?_); refine goesL_ (some 18) rfl rfl Try.func31 (by kernel_rfl) rfl #[.int .i64 a0_1, .int .i64 a0_2, .int .i64 a0_3, .int .i64 a0_4, .int .i64 a0_0, .int .i64 a1, .int .i64 a0_5] rfl (by (try simp only [List.map_toArray, List.map_cons, List.map_nil]); first | done | rfl | (simp only [List.length_drop, List.length_take]; rfl)) ?_; (with_reducible refine (dormouseref01_away.calls a0_1 a0_2 a0_3 a0_4 a0_0 a1 a0_5 t123 _ A3.out).mono ?_); rintro e w' ⟨rfl, ⟨nd, rfl⟩⟩; refine ⟨_, rfl, ?_⟩))
  go_ret
  exact ⟨by first | rfl | (simp [errW_none, errW_some] <;> rfl) | (simp [*, errW_none, errW_some] <;> rfl), by repeat (first | (with_reducible first | exact HB.out | apply below_alloc | apply pw_below_drewN | apply below_drew1 | refine below_set ?_ GE122.out) | exact HB.out)⟩
def dormouseref01_Device.f (a0_0 : Int) (a0_1 : Int) (a0_2 : Int) (a0_3 : Int) (a0_4 : Int) (a0_5 : Int) (a0_6 : Int) : Option (Bool) := (dormouseref01_away.f a0_2 a0_3 a0_4 a0_5 a0_1 a0_0 a0_6).bind fun t125 => (some t125)
set_option maxHeartbeats 8000000 in
set_option maxRecDepth 100000 in
theorem dormouseref01_Device.calls (a0_0 : Int) (a0_1 : Int) (a0_2 : Int) (a0_3 : Int) (a0_4 : Int) (a0_5 : Int) (a0_6 : Int) (r : Bool) (w : World) (h : dormouseref01_Device.f a0_0 a0_1 a0_2 a0_3 a0_4 a0_5 a0_6 = some r) :
    Calls Try.prog 28 #[.agg #[.int .i64 a0_0, .int .i64 a0_1, .int .i64 a0_2, .int .i64 a0_3, .int .i64 a0_4, .int .i64 a0_5, .int .i64 a0_6]] w fun e w' => e = .returned (.bool r) ∧ Below w.heap.size w w' := by
  have hu62 := Try.underlying62
  have HB := Aside0.mk (Below.refl w.heap.size w)
  have H : ((dormouseref01_away.f a0_2 a0_3 a0_4 a0_5 a0_1 a0_0 a0_6).bind fun t125 => (some t125)) = some r := h
  clear h
  replace H := Option.bind_eq_some_iff.mp H
  obtain ⟨t125, A20, H⟩ := H
  replace H : (some t125) = some r := H
  have A2 := Aside0.mk A20
  clear A20
  obtain rfl := Option.some.inj H
  go_enter Try.func28, Try.ntmps28
  go_wp2_with (first | ((with_reducible refine gate_dst (N := 1) rfl ?_); refine box_event ?hg (N := 1) ?hd (cs := #[.int .i64 a0_0, .int .i64 a0_1, .int .i64 a0_2, .int .i64 a0_3, .int .i64 a0_4, .int .i64 a0_5, .int .i64 a0_6]) (t := 62) ?hr ?_; (case hd => rfl); (case hg => rfl); (case hr => first | (go_simp; done) | (go_simp; rfl)); intro gb124 hg w3 hbox hb; have n0_ := Aside0.mk (below_step (by repeat (first | (with_reducible first | exact HB.out | apply below_alloc | apply pw_below_drewN | apply below_drew1) | exact HB.out)) hb); have n1_ := Aside0.mk (hbox); have n2_ := Aside0.mk ((by rw [hg]; exact (below_size (by repeat (first | (with_reducible first | exact HB.out | apply below_alloc | apply pw_below_drewN | apply below_drew1) | exact HB.out))) : w.heap.size ≤ gb124)); have n3_ := Aside0.mk ((by rw [hg]; exact (below_size (by repeat (first | (with_reducible first | exact HB.out | apply below_alloc | apply pw_below_drewN | apply below_drew1) | exact HB.out))) : w.heap.size ≤ gb124)); clear HB; have HB := n0_; have BK124 := n1_; have GW124 := n2_; have GE124 := n3_; clear n0_ n1_ n2_ n3_; clear hb hbox hg; have hcz4_0 : w3.cell? ⟨gb124, 0, none⟩ = some (.int .i64 a0_0) := (blk_cell BK124.out 0).trans rfl; have hcz4_1 : w3.cell? ⟨gb124, 1, none⟩ = some (.int .i64 a0_1) := (blk_cell BK124.out 1).trans rfl; have hcz4_2 : w3.cell? ⟨gb124, 2, none⟩ = some (.int .i64 a0_2) := (blk_cell BK124.out 2).trans rfl; have hcz4_3 : w3.cell? ⟨gb124, 3, none⟩ = some (.int .i64 a0_3) := (blk_cell BK124.out 3).trans rfl; have hcz4_4 : w3.cell? ⟨gb124, 4, none⟩ = some (.int .i64 a0_4) := (blk_cell BK124.out 4).trans rfl; have hcz4_5 : w3.cell? ⟨gb124, 5, none⟩ = some (.int .i64 a0_5) := (blk_cell BK124.out 5).trans rfl; have hcz4_6 : w3.cell? ⟨gb124, 6, none⟩ = some (.int .i64 a0_6) := (blk_cell BK124.out 6).trans rfl; have hfz4_0 := blk_frozen BK124.out 0; have hfz4_1 := blk_frozen BK124.out 1; have hfz4_2 := blk_frozen BK124.out 2; have hfz4_3 := blk_frozen BK124.out 3; have hfz4_4 := blk_frozen BK124.out 4; have hfz4_5 := blk_frozen BK124.out 5; have hfz4_6 := blk_frozen BK124.out 6) | ((with_reducible refine gate_callee (f := 31) rfl ?_); refine goesL_ (some 17) rfl rfl Try.func31 (by kernel_rfl) rfl #[.int .i64 a0_2, .int .i64 a0_3, .int .i64 a0_4, .int .i64 a0_5, .int .i64 a0_1, .int .i64 a0_0, .int .i64 a0_6] rfl (by (try simp only [List.map_toArray, List.map_cons, List.map_nil]); first | done | rfl | (simp only [List.length_drop, List.length_take]; rfl)) ?_; (with_reducible refine (dormouseref01_away.calls a0_2 a0_3 a0_4 a0_5 a0_1 a0_0 a0_6 t125 _ A2.out).mono ?_); rintro e w' ⟨rfl, ⟨nd, rfl⟩⟩; refine ⟨_, rfl, ?_⟩))
  go_ret
  exact ⟨by first | rfl | (simp [errW_none, errW_some] <;> rfl) | (simp [*, errW_none, errW_some] <;> rfl), by repeat (first | (with_reducible first | exact HB.out | apply below_alloc | apply pw_below_drewN | apply below_drew1 | refine below_set ?_ GE124.out) | exact HB.out)⟩
end Go.Proofs.Ytijlfnjfjmhdiaa.F
namespace Go.Proofs.Ytijlfnjfjmhdiaa.Tbl
open Go.RowKit Go.Proofs.Ytijlfnjfjmhdiaa.F Go.Proofs.YtijlfnjfjmhdiaaW.PrintWords Go.Proofs.YtijlfnjfjmhdiaaW.PrintLast Go.Proofs.YtijlfnjfjmhdiaaW.PrintMore
attribute [local go_sem] max2_int min2_int max_two min_two max_three min_three max_four min_four
/-- The plain numbers of a machine. -/
def Head (n0 n1 n2 : Nat) (idle crit sw swE sems hor : Int) : Prop :=
  1 ≤ (n0 : Int) ∧ (n0 : Int) ≤ 4 ∧ 0 ≤ idle ∧ idle ≤ 65536 ∧ 0 ≤ crit ∧ crit < n0 ∧ 0 ≤ sw ∧ sw ≤ 256 ∧ 0 ≤ swE ∧ swE ≤ 65536 ∧
  (n1 : Int) ≤ 3 ∧ (n2 : Int) ≤ 3 ∧ 0 ≤ sems ∧ sems ≤ 3 ∧ 1 ≤ hor ∧ hor ≤ 16384
/-- Level i is right. -/
def LevelOk (ls : List S45) (idle crit : Int) (i : Int) : Prop :=
  (1 ≤ (rd_T45 ls i).f0 ∧ (rd_T45 ls i).f0 ≤ 256 ∧ 0 ≤ (rd_T45 ls i).f1 ∧ (rd_T45 ls i).f1 ≤ 65536) ∧ (0 < i → (rd_T45 ls (i - 1)).f0 < (rd_T45 ls i).f0) ∧
  (0 < i → i ≤ crit → (rd_T45 ls i).f1 - (rd_T45 ls i).f0 * idle ≤ (rd_T45 ls (i - 1)).f1 - (rd_T45 ls (i - 1)).f0 * idle)
/-- May something be away so? -/
def AwayOk (down up downE upE off on even : Int) : Prop :=
  0 ≤ down ∧ down ≤ 256 ∧ 0 ≤ up ∧ up ≤ 256 ∧ 0 ≤ downE ∧ downE ≤ 65536 ∧ 0 ≤ upE ∧ upE ≤ 65536 ∧ 0 ≤ on ∧ on ≤ 65536 ∧ 0 ≤ off ∧ off ≤ on ∧ down + up ≤ even ∧ 1 ≤ even ∧ even ≤ 16384 ∧
  downE + upE + off * (even - down - up) ≤ on * even
def SleepOk (s : S59) (idle : Int) : Prop := AwayOk s.f1 s.f2 s.f3 s.f4 s.f0 idle s.f5
def DeviceOk (d : S62) : Prop := AwayOk d.f2 d.f3 d.f4 d.f5 d.f1 d.f0 d.f6
structure TableOk (ls : List S45) (ss : List S59) (ds : List S62) (idle crit sw swE sems hor : Int) : Prop where
  head : Head ls.length ss.length ds.length idle crit sw swE sems hor
  levels : ∀ i : Int, 0 ≤ i → i < ls.length → LevelOk ls idle crit i
  sleeps : ∀ i : Int, 0 ≤ i → i < ss.length → SleepOk (rd_T59 ss i) idle
  devices : ∀ i : Int, 0 ≤ i → i < ds.length → DeviceOk (rd_T62 ds i)
open Classical in
noncomputable def tableB (ls : List S45) (ss : List S59) (ds : List S62) (idle crit sw swE sems hor : Int) : Bool := decide (TableOk ls ss ds idle crit sw swE sems hor)
theorem tableB_no {ls ss ds idle crit sw swE sems hor} (h : ¬ TableOk ls ss ds idle crit sw swE sems hor) : Ending.returned (Value.bool false) = Ending.returned (Value.bool (tableB ls ss ds idle crit sw swE sems hor)) := by
  simp [tableB, h]
theorem tableB_yes {ls ss ds idle crit sw swE sems hor} (h : TableOk ls ss ds idle crit sw swE sems hor) : Ending.returned (Value.bool true) = Ending.returned (Value.bool (tableB ls ss ds idle crit sw swE sems hor)) := by
  simp [tableB, h]
theorem tableB_head {ls ss ds idle crit sw swE sems hor} (h : ¬ Head ls.length ss.length ds.length idle crit sw swE sems hor) : Ending.returned (Value.bool false) = Ending.returned (Value.bool (tableB ls ss ds idle crit sw swE sems hor)) :=
  tableB_no (fun x => h x.head)
theorem tableB_level {ls ss ds idle crit sw swE sems hor} {i : Int} (h0 : Aside0 (0 ≤ i)) (h1 : Aside0 (i < (ls.length : Int))) (h : ¬ LevelOk ls idle crit i) : Ending.returned (Value.bool false) = Ending.returned (Value.bool (tableB ls ss ds idle crit sw swE sems hor)) :=
  tableB_no (fun x => h (x.levels i h0.out h1.out))
theorem badw {w w0 wr wq : World} (h : Below w.heap.size w w0) (h' : Below w0.heap.size w0 wr) (hq : Below wr.heap.size wr wq) (n : Nat) : Below w.heap.size w (wq.drewN n) := pw_below_drewN (below_step (below_step h h') hq) n
theorem nextw {w0 wr wq : World} (h' : Below w0.heap.size w0 wr) (hq : Below wr.heap.size wr wq) (n : Nat) : Below w0.heap.size w0 (wq.drewN n) := pw_below_drewN (below_step h' hq) n
section
variable {ls : List S45} {idle crit i P E P' E' : Int}
theorem bad0 (hP : P = (rd_T45 ls i).f0) (_ : E = (rd_T45 ls i).f1) (h : P < 1) : ¬ LevelOk ls idle crit i := fun x => by have := x.1.1; omega
theorem bad1 (hP : P = (rd_T45 ls i).f0) (_ : E = (rd_T45 ls i).f1) (h : 256 < P) : ¬ LevelOk ls idle crit i := fun x => by have := x.1.2.1; omega
theorem bad2 (_ : P = (rd_T45 ls i).f0) (hE : E = (rd_T45 ls i).f1) (h : E < 0) : ¬ LevelOk ls idle crit i := fun x => by have := x.1.2.2.1; omega
theorem bad3 (_ : P = (rd_T45 ls i).f0) (hE : E = (rd_T45 ls i).f1) (h : 65536 < E) : ¬ LevelOk ls idle crit i := fun x => by have := x.1.2.2.2; omega
theorem bad4 (hP : P = (rd_T45 ls i).f0) (hP' : P' = (rd_T45 ls (i - 1)).f0) (hi : 0 < i) (h : P ≤ P') : ¬ LevelOk ls idle crit i := fun x => by have := x.2.1 hi; omega
theorem bad6 (hP : P = (rd_T45 ls i).f0) (hE : E = (rd_T45 ls i).f1) (hP' : P' = (rd_T45 ls (i - 1)).f0) (hE' : E' = (rd_T45 ls (i - 1)).f1) (hi : 0 < i) (hc : i ≤ crit) (h : E' - P' * idle < E - P * idle) : ¬ LevelOk ls idle crit i :=
  fun x => by have := x.2.2 hi hc; rw [← hP, ← hE, ← hP', ← hE'] at this; omega
theorem ok_level (hP : P = (rd_T45 ls i).f0) (hE : E = (rd_T45 ls i).f1) (h1 : 1 ≤ P) (h2 : P ≤ 256) (h3 : 0 ≤ E) (h4 : E ≤ 65536) (h5 : 0 < i → (rd_T45 ls (i - 1)).f0 < (rd_T45 ls i).f0)
    (h6 : 0 < i → i ≤ crit → (rd_T45 ls i).f1 - (rd_T45 ls i).f0 * idle ≤ (rd_T45 ls (i - 1)).f1 - (rd_T45 ls (i - 1)).f0 * idle) : LevelOk ls idle crit i := by
  subst hP hE; exact ⟨⟨h1, h2, h3, h4⟩, h5, h6⟩
theorem levels_next (h : ∀ j : Int, 0 ≤ j → j < i → LevelOk ls idle crit j) (hn : LevelOk ls idle crit i) : ∀ j : Int, 0 ≤ j → j < i + 1 → LevelOk ls idle crit j := by
  intro j h0 h1
  by_cases e : j = i
  · subst e; exact hn
  · exact h j h0 (by omega)
theorem prod_bd {a b : Int} (h0 : 0 ≤ a) (h1 : a ≤ 256) (h2 : 0 ≤ b) (h3 : b ≤ 65536) : 0 ≤ a * b ∧ a * b ≤ 16777216 := by
  refine ⟨Int.mul_nonneg h0 h2, ?_⟩
  have : a * b ≤ 256 * 65536 := Int.mul_le_mul h1 h3 h2 (by omega)
  omega
end
theorem w64 {n : Int} (h0 : -9223372036854775808 ≤ n) (h1 : n ≤ 9223372036854775807) : wrap64 n = n := by unfold wrap64; omega
theorem away_yes {down up downE upE off on even : Int} (h : AwayOk down up downE upE off on even) : dormouseref01_away.f down up downE upE off on even = some true := by
  obtain ⟨a0, a1, a2, a3, a4, a5, a6, a7, a8, a9, a10, a11, a12, a13, a14, a15⟩ := h
  unfold dormouseref01_away.f
  rw [if_neg (by omega), if_neg (by omega), if_neg (by omega), if_neg (by omega), if_neg (by omega), if_neg (by omega), if_neg (by omega), if_neg (by omega), if_neg (by omega), if_neg (by omega), if_neg (by omega), if_neg (by omega)]
  rw [w64 (n := down + up) (by omega) (by omega), if_pos (by omega), if_pos (by omega), if_pos (by omega)]
  rw [w64 (n := even - down) (by omega) (by omega), w64 (n := even - down - up) (by omega) (by omega), w64 (n := downE + upE) (by omega) (by omega)]
  have m1 : 0 ≤ off * (even - down - up) ∧ off * (even - down - up) ≤ 65536 * 16384 := ⟨Int.mul_nonneg a10 (by omega), Int.mul_le_mul (by omega) (by omega) (by omega) (by omega)⟩
  have m2 : 0 ≤ on * even ∧ on * even ≤ 65536 * 16384 := ⟨Int.mul_nonneg a8 (by omega), Int.mul_le_mul (by omega) (by omega) (by omega) (by omega)⟩
  rw [w64 (n := off * (even - down - up)) (by omega) (by omega), w64 (n := on * even) (by omega) (by omega), w64 (n := downE + upE + off * (even - down - up)) (by omega) (by omega)]
  rw [decide_eq_true a15]
theorem away_no {down up downE upE off on even : Int} (h : ¬ AwayOk down up downE upE off on even) : dormouseref01_away.f down up downE upE off on even = some false := by
  unfold dormouseref01_away.f
  by_cases b0 : down < 0
  · rw [if_pos b0]
  rw [if_neg b0]
  by_cases b1 : down > 256
  · rw [if_pos b1]
  rw [if_neg b1]
  by_cases b2 : up < 0
  · rw [if_pos b2]
  rw [if_neg b2]
  by_cases b3 : up > 256
  · rw [if_pos b3]
  rw [if_neg b3]
  by_cases b4 : downE < 0
  · rw [if_pos b4]
  rw [if_neg b4]
  by_cases b5 : downE > 65536
  · rw [if_pos b5]
  rw [if_neg b5]
  by_cases b6 : upE < 0
  · rw [if_pos b6]
  rw [if_neg b6]
  by_cases b7 : upE > 65536
  · rw [if_pos b7]
  rw [if_neg b7]
  by_cases b8 : on < 0
  · rw [if_pos b8]
  rw [if_neg b8]
  by_cases b9 : on > 65536
  · rw [if_pos b9]
  rw [if_neg b9]
  by_cases b10 : off < 0
  · rw [if_pos b10]
  rw [if_neg b10]
  by_cases b11 : off > on
  · rw [if_pos b11]
  rw [if_neg b11]
  rw [w64 (n := down + up) (by omega) (by omega)]
  by_cases b12 : even ≥ down + up
  case neg => rw [if_neg b12]
  rw [if_pos b12]
  by_cases b13 : even ≥ 1
  case neg => rw [if_neg b13]
  rw [if_pos b13]
  by_cases b14 : even ≤ 16384
  case neg => rw [if_neg b14]
  rw [if_pos b14]
  rw [w64 (n := even - down) (by omega) (by omega), w64 (n := even - down - up) (by omega) (by omega), w64 (n := downE + upE) (by omega) (by omega)]
  have m1 : 0 ≤ off * (even - down - up) ∧ off * (even - down - up) ≤ 65536 * 16384 := ⟨Int.mul_nonneg (by omega) (by omega), Int.mul_le_mul (by omega) (by omega) (by omega) (by omega)⟩
  have m2 : 0 ≤ on * even ∧ on * even ≤ 65536 * 16384 := ⟨Int.mul_nonneg (by omega) (by omega), Int.mul_le_mul (by omega) (by omega) (by omega) (by omega)⟩
  rw [w64 (n := off * (even - down - up)) (by omega) (by omega), w64 (n := on * even) (by omega) (by omega), w64 (n := downE + upE + off * (even - down - up)) (by omega) (by omega)]
  rw [decide_eq_false]
  intro hh
  exact h ⟨by omega, by omega, by omega, by omega, by omega, by omega, by omega, by omega, by omega, by omega, by omega, by omega, by omega, by omega, by omega, hh⟩
theorem sleep_yes {s : S59} {idle : Int} (h : SleepOk s idle) : dormouseref01_Sleep.f s.f0 s.f1 s.f2 s.f3 s.f4 s.f5 idle = some true := by
  unfold dormouseref01_Sleep.f; rw [away_yes h]; rfl
theorem sleep_no {s : S59} {idle : Int} (h : ¬ SleepOk s idle) : dormouseref01_Sleep.f s.f0 s.f1 s.f2 s.f3 s.f4 s.f5 idle = some false := by
  unfold dormouseref01_Sleep.f; rw [away_no h]; rfl
theorem device_yes {s : S62} (h : DeviceOk s) : dormouseref01_Device.f s.f0 s.f1 s.f2 s.f3 s.f4 s.f5 s.f6 = some true := by
  unfold dormouseref01_Device.f; rw [away_yes h]; rfl
theorem device_no {s : S62} (h : ¬ DeviceOk s) : dormouseref01_Device.f s.f0 s.f1 s.f2 s.f3 s.f4 s.f5 s.f6 = some false := by
  unfold dormouseref01_Device.f; rw [away_no h]; rfl
theorem tableB_sleep {ls ss ds idle crit sw swE sems hor} {i : Int} {s : S59} (hs : s = rd_T59 ss i) (h0 : 0 ≤ i) (h1 : i < (ss.length : Int)) (h : ¬ SleepOk s idle) : Ending.returned (Value.bool false) = Ending.returned (Value.bool (tableB ls ss ds idle crit sw swE sems hor)) :=
  tableB_no (fun x => h (by rw [hs]; exact x.sleeps i h0 h1))
theorem tableB_device {ls ss ds idle crit sw swE sems hor} {i : Int} {s : S62} (hs : s = rd_T62 ds i) (h0 : 0 ≤ i) (h1 : i < (ds.length : Int)) (h : ¬ DeviceOk s) : Ending.returned (Value.bool false) = Ending.returned (Value.bool (tableB ls ss ds idle crit sw swE sems hor)) :=
  tableB_no (fun x => h (by rw [hs]; exact x.devices i h0 h1))
theorem next_one {p : Int → Prop} {i : Int} (h : ∀ j : Int, 0 ≤ j → j < i → p j) (hn : p i) : ∀ j : Int, 0 ≤ j → j < i + 1 → p j := by
  intro j h0 h1
  by_cases e : j = i
  · subst e; exact hn
  · exact h j h0 (by omega)
theorem tail_w {w w1 wr w2 W : World} (h1 : Below w.heap.size w w1) (h : Below w1.heap.size w1 wr) (hd : Below wr.heap.size wr w2) (hb : Below w2.heap.size w2 W) : Below w.heap.size w W := below_step (below_step (below_step h1 h) hd) hb
theorem tail_w1 {w1 wr w2 W : World} (h : Below w1.heap.size w1 wr) (hd : Below wr.heap.size wr w2) (hb : Below w2.heap.size w2 W) : Below w1.heap.size w1 W := below_step (below_step h hd) hb
end Go.Proofs.Ytijlfnjfjmhdiaa.Tbl
namespace Go.Proofs.Ytijlfnjfjmhdiaa.F
open Go.RowKit Go.Proofs.YtijlfnjfjmhdiaaW.PrintWords Go.Proofs.YtijlfnjfjmhdiaaW.PrintLast Go.Proofs.YtijlfnjfjmhdiaaW.PrintMore
attribute [local go_sem] max2_int min2_int max_two min_two max_three min_three max_four min_four   -- for this text's walks alone
set_option linter.unusedVariables false
set_option linter.unusedSimpArgs false
def govern_limit.j0 : Nat → Int → Int → Bool → List (S45) → List (S59) → List (S62) → Int → Int → Int → Int → Int → Int → Option (Int)
  | 0, _, _, _, _, _, _, _, _, _, _, _, _ => none
  | k + 1, x2, x7, x8, x140000, x140001, x140002, x140003, x140004, x140005, x140006, x140007, x140008 => if x8 = true then (some (mn (mx x2 0) x140004)) else (if x7 = 2 then (some x140004) else (some 0))
def govern_limit.f (k : Nat) (l0_0 : List (S45)) (l0_1 : List (S59)) (l0_2 : List (S62)) (a0_3 : Int) (a0_4 : Int) (a0_5 : Int) (a0_6 : Int) (a0_7 : Int) (a0_8 : Int) (a1 : Int) (a2 : Int) : Option (Int) := if a1 = 1 then (govern_limit.j0 k a2 a1 (a1 == 1) l0_0 l0_1 l0_2 a0_3 a0_4 a0_5 a0_6 a0_7 a0_8) else (govern_limit.j0 k a2 a1 (a1 == 3) l0_0 l0_1 l0_2 a0_3 a0_4 a0_5 a0_6 a0_7 a0_8)
set_option maxHeartbeats 8000000 in
set_option maxRecDepth 100000 in
theorem govern_limit.calls (k : Nat) (A0_0 : Option Addr) (c0_0 : Nat) (l0_0 : List (S45)) (A0_1 : Option Addr) (c0_1 : Nat) (l0_1 : List (S59)) (A0_2 : Option Addr) (c0_2 : Nat) (l0_2 : List (S62)) (a0_3 : Int) (a0_4 : Int) (a0_5 : Int) (a0_6 : Int) (a0_7 : Int) (a0_8 : Int) (a1 : Int) (a2 : Int) (r : Int) (w : World) (hr0_0 : Kd.C k45 w A0_0 l0_0.length l0_0) (hc0_0 : l0_0.length ≤ c0_0) (hr0_1 : Kd.C k59 w A0_1 l0_1.length l0_1) (hc0_1 : l0_1.length ≤ c0_1) (hr0_2 : Kd.C k62 w A0_2 l0_2.length l0_2) (hc0_2 : l0_2.length ≤ c0_2) (h : govern_limit.f k l0_0 l0_1 l0_2 a0_3 a0_4 a0_5 a0_6 a0_7 a0_8 a1 a2 = some r) :
    Calls Try.prog 29 #[.agg #[.slice A0_0 l0_0.length c0_0, .slice A0_1 l0_1.length c0_1, .slice A0_2 l0_2.length c0_2, .int .i64 a0_3, .int .i64 a0_4, .int .i64 a0_5, .int .i64 a0_6, .int .i64 a0_7, .int .i64 a0_8], .int .i64 a1, .int .i64 a2] w fun e w' => e = .returned (.int .i64 r) ∧ Below w.heap.size w w' := by
  have hu38 := Try.underlying38
  have HR0_0 := Aside0.mk hr0_0
  have HC0_0 := Aside0.mk hc0_0
  clear hr0_0 hc0_0
  have HR0_1 := Aside0.mk hr0_1
  have HC0_1 := Aside0.mk hc0_1
  clear hr0_1 hc0_1
  have HR0_2 := Aside0.mk hr0_2
  have HC0_2 := Aside0.mk hc0_2
  clear hr0_2 hc0_2
  have HB := Aside0.mk (Below.refl w.heap.size w)
  have H : (if a1 = 1 then (govern_limit.j0 k a2 a1 (a1 == 1) l0_0 l0_1 l0_2 a0_3 a0_4 a0_5 a0_6 a0_7 a0_8) else (govern_limit.j0 k a2 a1 (a1 == 3) l0_0 l0_1 l0_2 a0_3 a0_4 a0_5 a0_6 a0_7 a0_8)) = some r := h
  clear h
  have HC4 := Aside0.mk H
  clear H
  go_enter Try.func29, Try.ntmps29
  go_upto_if 8 with (first | ((with_reducible refine gate_dst (N := 3) rfl ?_); refine box_event ?hg (N := 3) ?hd (cs := #[.slice A0_0 l0_0.length c0_0, .slice A0_1 l0_1.length c0_1, .slice A0_2 l0_2.length c0_2, .int .i64 a0_3, .int .i64 a0_4, .int .i64 a0_5, .int .i64 a0_6, .int .i64 a0_7, .int .i64 a0_8]) (t := 38) ?hr ?_; (case hd => rfl); (case hg => rfl); (case hr => first | (go_simp; done) | (go_simp; rfl)); intro gb139 hg w5 hbox hb; have n0_ := Aside0.mk (below_step (by repeat (first | (with_reducible first | exact HB.out | apply below_alloc | apply pw_below_drewN | apply below_drew1) | exact HB.out)) hb); have n1_ := Aside0.mk (hbox); have n2_ := Aside0.mk ((by rw [hg]; exact (below_size (by repeat (first | (with_reducible first | exact HB.out | apply below_alloc | apply pw_below_drewN | apply below_drew1) | exact HB.out))) : w.heap.size ≤ gb139)); have n3_ := Aside0.mk ((by rw [hg]; exact (below_size (by repeat (first | (with_reducible first | exact HB.out | apply below_alloc | apply pw_below_drewN | apply below_drew1) | exact HB.out))) : w.heap.size ≤ gb139)); clear HB; have HB := n0_; have BK139 := n1_; have GW139 := n2_; have GE139 := n3_; clear n0_ n1_ n2_ n3_; clear hb hbox hg))
  (try simp only [Act.put, List.setIfInBounds_toArray, List.set_cons_zero, List.set_cons_succ])
  go_cut [8] (fun v8 wc => ∃ (kq : Nat) (x8_3 : Bool), v8 = .bool x8_3 ∧ Aside0 (govern_limit.j0 kq a2 a1 x8_3 l0_0 l0_1 l0_2 a0_3 a0_4 a0_5 a0_6 a0_7 a0_8 = some r) ∧ Aside0 (kq ≤ k) ∧ Aside0 (wc.heap[gb139]? = some (.cells #[(.slice A0_0 l0_0.length c0_0), (.slice A0_1 l0_1.length c0_1), (.slice A0_2 l0_2.length c0_2), .int .i64 a0_3, .int .i64 a0_4, .int .i64 a0_5, .int .i64 a0_6, .int .i64 a0_7, .int .i64 a0_8] 38 (0, 0))) ∧ Aside0 (Below w.heap.size w wc))
  case first =>
    have H := HC4.out
    clear HC4
    by_cases c6 : a1 = 1
    · rw [if_pos c6] at H
      have c6b0 : (a1 == 1) = true := beq_iff_eq.mpr c6
      have c6b1 : (a1 != 1) = false := bne_eq_false_iff_eq.mpr c6
      clear c6
      (first | rw [c6b0] | (simp only [i64_w, i32_w]; rw [c6b0]) | skip)
      have H' := Aside0.mk H
      clear H
      go_wp2
      go_meet
      case rel => exact ⟨_, ((a1 == 1)), (by first | rfl | (simp; done) | (simp [*]; done)), H', ⟨by first | omega | exact Nat.le_refl _⟩, ⟨by (with_reducible repeat (first | refine blk_drewN ?_ _ | refine blk_drew ?_ | refine blk_alloc ?_ _)); exact BK139.out⟩, ⟨by repeat (first | (with_reducible first | exact HB.out | apply below_alloc | apply pw_below_drewN | apply below_drew1 | refine below_set ?_ GE139.out) | exact HB.out)⟩⟩
    · rw [if_neg c6] at H
      have c6b0 : (a1 == 1) = false := beq_eq_false_iff_ne.mpr c6
      have c6b1 : (a1 != 1) = true := bne_iff_ne.mpr c6
      (first | rw [c6b0] | (simp only [i64_w, i32_w]; rw [c6b0]) | skip)
      have H' := Aside0.mk H
      clear H
      go_wp2
      go_meet
      case rel => exact ⟨_, ((a1 == 3)), (by first | rfl | (simp; done) | (simp [*]; done)), H', ⟨by first | omega | exact Nat.le_refl _⟩, ⟨by (with_reducible repeat (first | refine blk_drewN ?_ _ | refine blk_drew ?_ | refine blk_alloc ?_ _)); exact BK139.out⟩, ⟨by repeat (first | (with_reducible first | exact HB.out | apply below_alloc | apply pw_below_drewN | apply below_drew1 | refine below_set ?_ GE139.out) | exact HB.out)⟩⟩
  case rest =>
    clear HC4
    try clear c2
    try clear p2
    try clear c6
    try clear c6b0
    try clear c6b1
    obtain ⟨kq, x8_3, rfl, HA, HJ3, BK139, HB⟩ := hcut
    cases kq with
    | zero => exact absurd HA.out (by simp [govern_limit.j0])
    | succ kj3 =>
      have H := HA.out
      clear HA
      simp only [govern_limit.j0] at H
      by_cases c7 : x8_3 = true
      · subst c7
        have H1 : (some (mn (mx a2 0) a0_4)) = some r := by rw [if_pos rfl] at H; exact H
        clear H
        have H := H1
        clear H1
        obtain ⟨ji8, hji8⟩ : ∃ j_ : Int, (mx a2 0) = j_ := ⟨_, rfl⟩
        replace H : (some (mn (ji8) a0_4)) = some r := by first | (rw [hji8] at H; exact H) | (simp only [hji8] at H ⊢; exact H)
        have hji8_ : (if a2 < 0 then 0 else a2) = ji8 := hji8
        obtain ⟨ji9, hji9⟩ : ∃ j_ : Int, (mn (ji8) a0_4) = j_ := ⟨_, rfl⟩
        replace H : (some ji9) = some r := by first | (rw [hji9] at H; exact H) | (simp only [hji9] at H ⊢; exact H)
        have hji9_ : (if a0_4 < (ji8) then a0_4 else (ji8)) = ji9 := hji9
        obtain rfl := Option.some.inj H
        have hcz10_0 : wc.cell? ⟨gb139, 0, none⟩ = some (.slice A0_0 l0_0.length c0_0) := (blk_cell BK139.out 0).trans rfl
        have hcz10_1 : wc.cell? ⟨gb139, 1, none⟩ = some (.slice A0_1 l0_1.length c0_1) := (blk_cell BK139.out 1).trans rfl
        have hcz10_2 : wc.cell? ⟨gb139, 2, none⟩ = some (.slice A0_2 l0_2.length c0_2) := (blk_cell BK139.out 2).trans rfl
        have hcz10_3 : wc.cell? ⟨gb139, 3, none⟩ = some (.int .i64 a0_3) := (blk_cell BK139.out 3).trans rfl
        have hcz10_4 : wc.cell? ⟨gb139, 4, none⟩ = some (.int .i64 a0_4) := (blk_cell BK139.out 4).trans rfl
        have hcz10_5 : wc.cell? ⟨gb139, 5, none⟩ = some (.int .i64 a0_5) := (blk_cell BK139.out 5).trans rfl
        have hcz10_6 : wc.cell? ⟨gb139, 6, none⟩ = some (.int .i64 a0_6) := (blk_cell BK139.out 6).trans rfl
        have hcz10_7 : wc.cell? ⟨gb139, 7, none⟩ = some (.int .i64 a0_7) := (blk_cell BK139.out 7).trans rfl
        have hcz10_8 : wc.cell? ⟨gb139, 8, none⟩ = some (.int .i64 a0_8) := (blk_cell BK139.out 8).trans rfl
        have hfz10_0 := blk_frozen BK139.out 0
        have hfz10_1 := blk_frozen BK139.out 1
        have hfz10_2 := blk_frozen BK139.out 2
        have hfz10_3 := blk_frozen BK139.out 3
        have hfz10_4 := blk_frozen BK139.out 4
        have hfz10_5 := blk_frozen BK139.out 5
        have hfz10_6 := blk_frozen BK139.out 6
        have hfz10_7 := blk_frozen BK139.out 7
        have hfz10_8 := blk_frozen BK139.out 8
        go_wp2
        go_ret
        exact ⟨by first | rfl | (simp [errW_none, errW_some] <;> rfl) | (simp only [← hji8, ← hji9]; first | rfl | (simp [errW_none, errW_some] <;> rfl)) | (simp [*, errW_none, errW_some] <;> rfl), by repeat (first | (with_reducible first | exact HB.out | apply below_alloc | apply pw_below_drewN | apply below_drew1 | refine below_set ?_ GE139.out) | exact HB.out)⟩
      · replace c7 := Bool.eq_false_iff.mpr c7
        subst c7
        have H1 : (if a1 = 2 then (some a0_4) else (some 0)) = some r := by rw [if_neg (show ¬ (false = true) by decide)] at H; exact H
        clear H
        have H := H1
        clear H1
        by_cases c11 : a1 = 2
        · rw [if_pos c11] at H
          have c11b0 : (a1 == 2) = true := beq_iff_eq.mpr c11
          have c11b1 : (a1 != 2) = false := bne_eq_false_iff_eq.mpr c11
          clear c11
          obtain rfl := Option.some.inj H
          have hcz12_0 : wc.cell? ⟨gb139, 0, none⟩ = some (.slice A0_0 l0_0.length c0_0) := (blk_cell BK139.out 0).trans rfl
          have hcz12_1 : wc.cell? ⟨gb139, 1, none⟩ = some (.slice A0_1 l0_1.length c0_1) := (blk_cell BK139.out 1).trans rfl
          have hcz12_2 : wc.cell? ⟨gb139, 2, none⟩ = some (.slice A0_2 l0_2.length c0_2) := (blk_cell BK139.out 2).trans rfl
          have hcz12_3 : wc.cell? ⟨gb139, 3, none⟩ = some (.int .i64 a0_3) := (blk_cell BK139.out 3).trans rfl
          have hcz12_4 : wc.cell? ⟨gb139, 4, none⟩ = some (.int .i64 a0_4) := (blk_cell BK139.out 4).trans rfl
          have hcz12_5 : wc.cell? ⟨gb139, 5, none⟩ = some (.int .i64 a0_5) := (blk_cell BK139.out 5).trans rfl
          have hcz12_6 : wc.cell? ⟨gb139, 6, none⟩ = some (.int .i64 a0_6) := (blk_cell BK139.out 6).trans rfl
          have hcz12_7 : wc.cell? ⟨gb139, 7, none⟩ = some (.int .i64 a0_7) := (blk_cell BK139.out 7).trans rfl
          have hcz12_8 : wc.cell? ⟨gb139, 8, none⟩ = some (.int .i64 a0_8) := (blk_cell BK139.out 8).trans rfl
          have hfz12_0 := blk_frozen BK139.out 0
          have hfz12_1 := blk_frozen BK139.out 1
          have hfz12_2 := blk_frozen BK139.out 2
          have hfz12_3 := blk_frozen BK139.out 3
          have hfz12_4 := blk_frozen BK139.out 4
          have hfz12_5 := blk_frozen BK139.out 5
          have hfz12_6 := blk_frozen BK139.out 6
          have hfz12_7 := blk_frozen BK139.out 7
          have hfz12_8 := blk_frozen BK139.out 8
          go_wp2
          go_ret
          exact ⟨by first | rfl | (simp [errW_none, errW_some] <;> rfl) | (simp [*, errW_none, errW_some] <;> rfl), by repeat (first | (with_reducible first | exact HB.out | apply below_alloc | apply pw_below_drewN | apply below_drew1 | refine below_set ?_ GE139.out) | exact HB.out)⟩
        · rw [if_neg c11] at H
          have c11b0 : (a1 == 2) = false := beq_eq_false_iff_ne.mpr c11
          have c11b1 : (a1 != 2) = true := bne_iff_ne.mpr c11
          obtain rfl := Option.some.inj H
          go_wp2
          go_ret
          exact ⟨by first | rfl | (simp [errW_none, errW_some] <;> rfl) | (simp [*, errW_none, errW_some] <;> rfl), by repeat (first | (with_reducible first | exact HB.out | apply below_alloc | apply pw_below_drewN | apply below_drew1 | refine below_set ?_ GE139.out) | exact HB.out)⟩
end Go.Proofs.Ytijlfnjfjmhdiaa.F
namespace Go.Proofs.Ytijlfnjfjmhdiaa.F
open Go.RowKit Go.Proofs.YtijlfnjfjmhdiaaW.PrintWords Go.Proofs.YtijlfnjfjmhdiaaW.PrintLast Go.Proofs.YtijlfnjfjmhdiaaW.PrintMore
attribute [local go_sem] max2_int min2_int max_two min_two max_three min_three max_four min_four   -- for this text's walks alone
set_option linter.unusedVariables false
set_option linter.unusedSimpArgs false
def fix_clamp_int.f (a0 : Int) (a1 : Int) (a2 : Int) : Option (Int) := some (mn (mx a0 a1) a2)
set_option maxHeartbeats 8000000 in
set_option maxRecDepth 100000 in
theorem fix_clamp_int.calls (a0 : Int) (a1 : Int) (a2 : Int) (r : Int) (w : World) (h : fix_clamp_int.f a0 a1 a2 = some r) :
    Calls Try.prog 32 #[.int .i64 a0, .int .i64 a1, .int .i64 a2] w fun e w' => e = .returned (.int .i64 r) ∧ Below w.heap.size w w' := by
  have HB := Aside0.mk (Below.refl w.heap.size w)
  have H : (some (mn (mx a0 a1) a2)) = some r := h
  clear h
  obtain ⟨ji4, hji4⟩ : ∃ j_ : Int, (mx a0 a1) = j_ := ⟨_, rfl⟩
  replace H : (some (mn (ji4) a2)) = some r := by first | (rw [hji4] at H; exact H) | (simp only [hji4] at H ⊢; exact H)
  have hji4_ : (if a0 < a1 then a1 else a0) = ji4 := hji4
  obtain ⟨ji5, hji5⟩ : ∃ j_ : Int, (mn (ji4) a2) = j_ := ⟨_, rfl⟩
  replace H : (some ji5) = some r := by first | (rw [hji5] at H; exact H) | (simp only [hji5] at H ⊢; exact H)
  have hji5_ : (if a2 < (ji4) then a2 else (ji4)) = ji5 := hji5
  obtain rfl := Option.some.inj H
  go_enter Try.func32, Try.ntmps32
  go_wp2
  go_ret
  exact ⟨by first | rfl | (simp [errW_none, errW_some] <;> rfl) | (simp only [← hji4, ← hji5]; first | rfl | (simp [errW_none, errW_some] <;> rfl)) | (simp [*, errW_none, errW_some] <;> rfl), by repeat (first | (with_reducible first | exact HB.out | apply below_alloc | apply pw_below_drewN | apply below_drew1) | exact HB.out)⟩
def fix_Whole.f (a0 : Int) : Option (Int) := (fix_clamp_int.f a0 (-1073741824) 1073741824).bind fun t140 => (some (wrap64 (t140 * 4294967296)))
set_option maxHeartbeats 8000000 in
set_option maxRecDepth 100000 in
theorem fix_Whole.calls (a0 : Int) (r : Int) (w : World) (h : fix_Whole.f a0 = some r) :
    Calls Try.prog 30 #[.int .i64 a0] w fun e w' => e = .returned (.int .i64 r) ∧ Below w.heap.size w w' := by
  have HB := Aside0.mk (Below.refl w.heap.size w)
  have H : ((fix_clamp_int.f a0 (-1073741824) 1073741824).bind fun t140 => (some (wrap64 (t140 * 4294967296)))) = some r := h
  clear h
  replace H := Option.bind_eq_some_iff.mp H
  obtain ⟨t140, A20, H⟩ := H
  replace H : (some (wrap64 (t140 * 4294967296))) = some r := H
  have A2 := Aside0.mk A20
  clear A20
  obtain rfl := Option.some.inj H
  go_enter Try.func30, Try.ntmps30
  go_wp2_with (first | ((with_reducible refine gate_callee (f := 32) rfl ?_); refine goesL_ (some 4) rfl rfl Try.func32 (by kernel_rfl) rfl #[.int .i64 a0, .int .i64 (-1073741824), .int .i64 1073741824] rfl (by (try simp only [List.map_toArray, List.map_cons, List.map_nil]); first | done | rfl | (simp only [List.length_drop, List.length_take]; rfl)) ?_; (with_reducible refine (fix_clamp_int.calls a0 (-1073741824) 1073741824 t140 _ A2.out).mono ?_); rintro e w3 ⟨rfl, hb⟩; refine ⟨_, rfl, ?_⟩; have n0_ := Aside0.mk (below_step (by repeat (first | (with_reducible first | exact HB.out | apply below_alloc | apply pw_below_drewN | apply below_drew1) | exact HB.out)) hb); clear HB; have HB := n0_; clear n0_; (try clear hb); (try clear hb2); (try clear hk); (try clear hi)))
  go_ret
  exact ⟨by first | rfl | (simp [errW_none, errW_some] <;> rfl) | (simp [*, errW_none, errW_some] <;> rfl), by repeat (first | (with_reducible first | exact HB.out | apply below_alloc | apply pw_below_drewN | apply below_drew1) | exact HB.out)⟩
end Go.Proofs.Ytijlfnjfjmhdiaa.F
namespace Go.Proofs.Ytijlfnjfjmhdiaa.F
open Go.RowKit Go.Proofs.YtijlfnjfjmhdiaaW.PrintWords Go.Proofs.YtijlfnjfjmhdiaaW.PrintLast Go.Proofs.YtijlfnjfjmhdiaaW.PrintMore
attribute [local go_sem] max2_int min2_int max_two min_two max_three min_three max_four min_four   -- for this text's walks alone
set_option linter.unusedVariables false
set_option linter.unusedSimpArgs false
def govern_Choose.l0 : Nat → Int → Int → Int → Int → List (S45) → List (S59) → List (S62) → Int → Int → Int → Int → Int → Int → Option (Int)
  | 0, _, _, _, _, _, _, _, _, _, _, _, _, _ => none
  | k + 1, x3, x4, x5, x13, x142000, x142001, x142002, x142003, x142004, x142005, x142006, x142007, x142008 => if x13 > 0 then (if 0 ≤ x13 then (if x13 < (x142000.length : Int) then (if 0 < (x142000.length : Int) then (if x13 = x5 then ((fix_Whole.f (wrap64 (x3 * (wrap64 (((rd_T45 x142000 x13).f0) - ((rd_T45 x142000 0).f0)))))).bind fun t145 => (if t145 ≤ x4 then (some x13) else (govern_Choose.l0 k x3 x4 x5 (wrap64 (x13 - 1)) x142000 x142001 x142002 x142003 x142004 x142005 x142006 x142007 x142008))) else ((fix_Whole.f (wrap64 ((wrap64 (x3 * (wrap64 (((rd_T45 x142000 x13).f0) - ((rd_T45 x142000 0).f0))))) + x142005))).bind fun t146 => (if t146 ≤ x4 then (some x13) else (govern_Choose.l0 k x3 x4 x5 (wrap64 (x13 - 1)) x142000 x142001 x142002 x142003 x142004 x142005 x142006 x142007 x142008)))) else (none)) else (none)) else (none)) else (some 0)
def govern_Choose.f (k : Nat) (l0_0 : List (S45)) (l0_1 : List (S59)) (l0_2 : List (S62)) (a0_3 : Int) (a0_4 : Int) (a0_5 : Int) (a0_6 : Int) (a0_7 : Int) (a0_8 : Int) (a1 : Int) (a2 : Int) (a3 : Int) (a4 : Int) (a5 : Int) : Option (Int) := (govern_limit.f k l0_0 l0_1 l0_2 a0_3 a0_4 a0_5 a0_6 a0_7 a0_8 a1 a2).bind fun t142 => (govern_Choose.l0 k a3 a4 a5 t142 l0_0 l0_1 l0_2 a0_3 a0_4 a0_5 a0_6 a0_7 a0_8)
set_option maxHeartbeats 8000000 in
set_option maxRecDepth 100000 in
theorem govern_Choose.calls (k : Nat) (A0_0 : Option Addr) (c0_0 : Nat) (l0_0 : List (S45)) (A0_1 : Option Addr) (c0_1 : Nat) (l0_1 : List (S59)) (A0_2 : Option Addr) (c0_2 : Nat) (l0_2 : List (S62)) (a0_3 : Int) (a0_4 : Int) (a0_5 : Int) (a0_6 : Int) (a0_7 : Int) (a0_8 : Int) (a1 : Int) (a2 : Int) (a3 : Int) (a4 : Int) (a5 : Int) (r : Int) (w : World) (hr0_0 : Kd.C k45 w A0_0 l0_0.length l0_0) (hc0_0 : l0_0.length ≤ c0_0) (hr0_1 : Kd.C k59 w A0_1 l0_1.length l0_1) (hc0_1 : l0_1.length ≤ c0_1) (hr0_2 : Kd.C k62 w A0_2 l0_2.length l0_2) (hc0_2 : l0_2.length ≤ c0_2) (h : govern_Choose.f k l0_0 l0_1 l0_2 a0_3 a0_4 a0_5 a0_6 a0_7 a0_8 a1 a2 a3 a4 a5 = some r) :
    Calls Try.prog 24 #[.agg #[.slice A0_0 l0_0.length c0_0, .slice A0_1 l0_1.length c0_1, .slice A0_2 l0_2.length c0_2, .int .i64 a0_3, .int .i64 a0_4, .int .i64 a0_5, .int .i64 a0_6, .int .i64 a0_7, .int .i64 a0_8], .int .i64 a1, .int .i64 a2, .int .i64 a3, .int .i64 a4, .int .i64 a5] w fun e w' => e = .returned (.int .i64 r) ∧ Below w.heap.size w w' := by
  have hu38 := Try.underlying38
  have HR0_0 := Aside0.mk hr0_0
  have HC0_0 := Aside0.mk hc0_0
  clear hr0_0 hc0_0
  have HR0_1 := Aside0.mk hr0_1
  have HC0_1 := Aside0.mk hc0_1
  clear hr0_1 hc0_1
  have HR0_2 := Aside0.mk hr0_2
  have HC0_2 := Aside0.mk hc0_2
  clear hr0_2 hc0_2
  have HB := Aside0.mk (Below.refl w.heap.size w)
  have H : ((govern_limit.f k l0_0 l0_1 l0_2 a0_3 a0_4 a0_5 a0_6 a0_7 a0_8 a1 a2).bind fun t142 => (govern_Choose.l0 k a3 a4 a5 t142 l0_0 l0_1 l0_2 a0_3 a0_4 a0_5 a0_6 a0_7 a0_8)) = some r := h
  clear h
  replace H := Option.bind_eq_some_iff.mp H
  obtain ⟨t142, A70, H⟩ := H
  replace H : (govern_Choose.l0 k a3 a4 a5 t142 l0_0 l0_1 l0_2 a0_3 a0_4 a0_5 a0_6 a0_7 a0_8) = some r := H
  have A7 := Aside0.mk A70
  clear A70
  have H' := Aside0.mk H
  clear H
  go_enter Try.func24, Try.ntmps24
  go_wp2_with (first | ((with_reducible refine gate_dst (N := 6) rfl ?_); refine box_event ?hg (N := 6) ?hd (cs := #[.slice A0_0 l0_0.length c0_0, .slice A0_1 l0_1.length c0_1, .slice A0_2 l0_2.length c0_2, .int .i64 a0_3, .int .i64 a0_4, .int .i64 a0_5, .int .i64 a0_6, .int .i64 a0_7, .int .i64 a0_8]) (t := 38) ?hr ?_; (case hd => rfl); (case hg => rfl); (case hr => first | (go_simp; done) | (go_simp; rfl)); intro gb141 hg w8 hbox hb; have n0_ := Aside0.mk (below_step (by repeat (first | (with_reducible first | exact HB.out | apply below_alloc | apply pw_below_drewN | apply below_drew1) | exact HB.out)) hb); have n1_ := Aside0.mk (hbox); have n2_ := Aside0.mk ((by rw [hg]; exact (below_size (by repeat (first | (with_reducible first | exact HB.out | apply below_alloc | apply pw_below_drewN | apply below_drew1) | exact HB.out))) : w.heap.size ≤ gb141)); have n3_ := Aside0.mk ((by rw [hg]; exact (below_size (by repeat (first | (with_reducible first | exact HB.out | apply below_alloc | apply pw_below_drewN | apply below_drew1) | exact HB.out))) : w.heap.size ≤ gb141)); clear HB; have HB := n0_; have BK141 := n1_; have GW141 := n2_; have GE141 := n3_; clear n0_ n1_ n2_ n3_; clear hb hbox hg; have hcz9_0 : w8.cell? ⟨gb141, 0, none⟩ = some (.slice A0_0 l0_0.length c0_0) := (blk_cell BK141.out 0).trans rfl; have hcz9_1 : w8.cell? ⟨gb141, 1, none⟩ = some (.slice A0_1 l0_1.length c0_1) := (blk_cell BK141.out 1).trans rfl; have hcz9_2 : w8.cell? ⟨gb141, 2, none⟩ = some (.slice A0_2 l0_2.length c0_2) := (blk_cell BK141.out 2).trans rfl; have hcz9_3 : w8.cell? ⟨gb141, 3, none⟩ = some (.int .i64 a0_3) := (blk_cell BK141.out 3).trans rfl; have hcz9_4 : w8.cell? ⟨gb141, 4, none⟩ = some (.int .i64 a0_4) := (blk_cell BK141.out 4).trans rfl; have hcz9_5 : w8.cell? ⟨gb141, 5, none⟩ = some (.int .i64 a0_5) := (blk_cell BK141.out 5).trans rfl; have hcz9_6 : w8.cell? ⟨gb141, 6, none⟩ = some (.int .i64 a0_6) := (blk_cell BK141.out 6).trans rfl; have hcz9_7 : w8.cell? ⟨gb141, 7, none⟩ = some (.int .i64 a0_7) := (blk_cell BK141.out 7).trans rfl; have hcz9_8 : w8.cell? ⟨gb141, 8, none⟩ = some (.int .i64 a0_8) := (blk_cell BK141.out 8).trans rfl; have hfz9_0 := blk_frozen BK141.out 0; have hfz9_1 := blk_frozen BK141.out 1; have hfz9_2 := blk_frozen BK141.out 2; have hfz9_3 := blk_frozen BK141.out 3; have hfz9_4 := blk_frozen BK141.out 4; have hfz9_5 := blk_frozen BK141.out 5; have hfz9_6 := blk_frozen BK141.out 6; have hfz9_7 := blk_frozen BK141.out 7; have hfz9_8 := blk_frozen BK141.out 8) | (go_at_call 29; (with_reducible refine (govern_limit.calls k _ _ l0_0 _ _ l0_1 _ _ l0_2 a0_3 a0_4 a0_5 a0_6 a0_7 a0_8 a1 a2 t142 _ ?side1 ?side2 ?side3 ?side4 ?side5 ?side6 A7.out).mono ?_); (case side1 => repeat (first | exact (Kd.C_below HR0_0.out HB.out) | (with_reducible refine Kd.C_alloc ?_ _) | (with_reducible refine Kd.C_drewN ?_ _) | (with_reducible refine Kd.C_drew ?_))); (case side2 => exact HC0_0.out); (case side3 => repeat (first | exact (Kd.C_below HR0_1.out HB.out) | (with_reducible refine Kd.C_alloc ?_ _) | (with_reducible refine Kd.C_drewN ?_ _) | (with_reducible refine Kd.C_drew ?_))); (case side4 => exact HC0_1.out); (case side5 => repeat (first | exact (Kd.C_below HR0_2.out HB.out) | (with_reducible refine Kd.C_alloc ?_ _) | (with_reducible refine Kd.C_drewN ?_ _) | (with_reducible refine Kd.C_drew ?_))); (case side6 => exact HC0_2.out); rintro e w10 ⟨rfl, hb⟩; have n0_ := Aside0.mk (blk_below (g := gb141) (o := .cells #[.slice A0_0 l0_0.length c0_0, .slice A0_1 l0_1.length c0_1, .slice A0_2 l0_2.length c0_2, .int .i64 a0_3, .int .i64 a0_4, .int .i64 a0_5, .int .i64 a0_6, .int .i64 a0_7, .int .i64 a0_8] 38 (0, 0)) (by (with_reducible repeat (first | refine blk_drewN ?_ _ | refine blk_drew ?_ | refine blk_alloc ?_ _)); exact BK141.out) hb); have n1_ := Aside0.mk (below_step (by repeat (first | (with_reducible first | exact HB.out | apply below_alloc | apply pw_below_drewN | apply below_drew1 | refine below_set ?_ GE141.out) | exact HB.out)) hb); clear BK141; clear HB; have BK141 := n0_; have HB := n1_; clear n0_ n1_; (try clear hb); (try clear hb2); (try clear hk); (try clear hi)))
  repeat (go_quiet (first | ((with_reducible refine gate_dst (N := 6) rfl ?_); refine box_event ?hg (N := 6) ?hd (cs := #[.slice A0_0 l0_0.length c0_0, .slice A0_1 l0_1.length c0_1, .slice A0_2 l0_2.length c0_2, .int .i64 a0_3, .int .i64 a0_4, .int .i64 a0_5, .int .i64 a0_6, .int .i64 a0_7, .int .i64 a0_8]) (t := 38) ?hr ?_; (case hd => rfl); (case hg => rfl); (case hr => first | (go_simp; done) | (go_simp; rfl)); intro gb141 hg w8 hbox hb; have n0_ := Aside0.mk (below_step (by repeat (first | (with_reducible first | exact HB.out | apply below_alloc | apply pw_below_drewN | apply below_drew1) | exact HB.out)) hb); have n1_ := Aside0.mk (hbox); have n2_ := Aside0.mk ((by rw [hg]; exact (below_size (by repeat (first | (with_reducible first | exact HB.out | apply below_alloc | apply pw_below_drewN | apply below_drew1) | exact HB.out))) : w.heap.size ≤ gb141)); have n3_ := Aside0.mk ((by rw [hg]; exact (below_size (by repeat (first | (with_reducible first | exact HB.out | apply below_alloc | apply pw_below_drewN | apply below_drew1) | exact HB.out))) : w.heap.size ≤ gb141)); clear HB; have HB := n0_; have BK141 := n1_; have GW141 := n2_; have GE141 := n3_; clear n0_ n1_ n2_ n3_; clear hb hbox hg; have hcz9_0 : w8.cell? ⟨gb141, 0, none⟩ = some (.slice A0_0 l0_0.length c0_0) := (blk_cell BK141.out 0).trans rfl; have hcz9_1 : w8.cell? ⟨gb141, 1, none⟩ = some (.slice A0_1 l0_1.length c0_1) := (blk_cell BK141.out 1).trans rfl; have hcz9_2 : w8.cell? ⟨gb141, 2, none⟩ = some (.slice A0_2 l0_2.length c0_2) := (blk_cell BK141.out 2).trans rfl; have hcz9_3 : w8.cell? ⟨gb141, 3, none⟩ = some (.int .i64 a0_3) := (blk_cell BK141.out 3).trans rfl; have hcz9_4 : w8.cell? ⟨gb141, 4, none⟩ = some (.int .i64 a0_4) := (blk_cell BK141.out 4).trans rfl; have hcz9_5 : w8.cell? ⟨gb141, 5, none⟩ = some (.int .i64 a0_5) := (blk_cell BK141.out 5).trans rfl; have hcz9_6 : w8.cell? ⟨gb141, 6, none⟩ = some (.int .i64 a0_6) := (blk_cell BK141.out 6).trans rfl; have hcz9_7 : w8.cell? ⟨gb141, 7, none⟩ = some (.int .i64 a0_7) := (blk_cell BK141.out 7).trans rfl; have hcz9_8 : w8.cell? ⟨gb141, 8, none⟩ = some (.int .i64 a0_8) := (blk_cell BK141.out 8).trans rfl; have hfz9_0 := blk_frozen BK141.out 0; have hfz9_1 := blk_frozen BK141.out 1; have hfz9_2 := blk_frozen BK141.out 2; have hfz9_3 := blk_frozen BK141.out 3; have hfz9_4 := blk_frozen BK141.out 4; have hfz9_5 := blk_frozen BK141.out 5; have hfz9_6 := blk_frozen BK141.out 6; have hfz9_7 := blk_frozen BK141.out 7; have hfz9_8 := blk_frozen BK141.out 8) | (go_at_call 29; (with_reducible refine (govern_limit.calls k _ _ l0_0 _ _ l0_1 _ _ l0_2 a0_3 a0_4 a0_5 a0_6 a0_7 a0_8 a1 a2 t142 _ ?side1 ?side2 ?side3 ?side4 ?side5 ?side6 A7.out).mono ?_); (case side1 => repeat (first | exact (Kd.C_below HR0_0.out HB.out) | (with_reducible refine Kd.C_alloc ?_ _) | (with_reducible refine Kd.C_drewN ?_ _) | (with_reducible refine Kd.C_drew ?_))); (case side2 => exact HC0_0.out); (case side3 => repeat (first | exact (Kd.C_below HR0_1.out HB.out) | (with_reducible refine Kd.C_alloc ?_ _) | (with_reducible refine Kd.C_drewN ?_ _) | (with_reducible refine Kd.C_drew ?_))); (case side4 => exact HC0_1.out); (case side5 => repeat (first | exact (Kd.C_below HR0_2.out HB.out) | (with_reducible refine Kd.C_alloc ?_ _) | (with_reducible refine Kd.C_drewN ?_ _) | (with_reducible refine Kd.C_drew ?_))); (case side6 => exact HC0_2.out); rintro e w10 ⟨rfl, hb⟩; have n0_ := Aside0.mk (blk_below (g := gb141) (o := .cells #[.slice A0_0 l0_0.length c0_0, .slice A0_1 l0_1.length c0_1, .slice A0_2 l0_2.length c0_2, .int .i64 a0_3, .int .i64 a0_4, .int .i64 a0_5, .int .i64 a0_6, .int .i64 a0_7, .int .i64 a0_8] 38 (0, 0)) (by (with_reducible repeat (first | refine blk_drewN ?_ _ | refine blk_drew ?_ | refine blk_alloc ?_ _)); exact BK141.out) hb); have n1_ := Aside0.mk (below_step (by repeat (first | (with_reducible first | exact HB.out | apply below_alloc | apply pw_below_drewN | apply below_drew1 | refine below_set ?_ GE141.out) | exact HB.out)) hb); clear BK141; clear HB; have BK141 := n0_; have HB := n1_; clear n0_ n1_; (try clear hb); (try clear hb2); (try clear hk); (try clear hi))); try go_wp2_with (first | ((with_reducible refine gate_dst (N := 6) rfl ?_); refine box_event ?hg (N := 6) ?hd (cs := #[.slice A0_0 l0_0.length c0_0, .slice A0_1 l0_1.length c0_1, .slice A0_2 l0_2.length c0_2, .int .i64 a0_3, .int .i64 a0_4, .int .i64 a0_5, .int .i64 a0_6, .int .i64 a0_7, .int .i64 a0_8]) (t := 38) ?hr ?_; (case hd => rfl); (case hg => rfl); (case hr => first | (go_simp; done) | (go_simp; rfl)); intro gb141 hg w8 hbox hb; have n0_ := Aside0.mk (below_step (by repeat (first | (with_reducible first | exact HB.out | apply below_alloc | apply pw_below_drewN | apply below_drew1) | exact HB.out)) hb); have n1_ := Aside0.mk (hbox); have n2_ := Aside0.mk ((by rw [hg]; exact (below_size (by repeat (first | (with_reducible first | exact HB.out | apply below_alloc | apply pw_below_drewN | apply below_drew1) | exact HB.out))) : w.heap.size ≤ gb141)); have n3_ := Aside0.mk ((by rw [hg]; exact (below_size (by repeat (first | (with_reducible first | exact HB.out | apply below_alloc | apply pw_below_drewN | apply below_drew1) | exact HB.out))) : w.heap.size ≤ gb141)); clear HB; have HB := n0_; have BK141 := n1_; have GW141 := n2_; have GE141 := n3_; clear n0_ n1_ n2_ n3_; clear hb hbox hg; have hcz9_0 : w8.cell? ⟨gb141, 0, none⟩ = some (.slice A0_0 l0_0.length c0_0) := (blk_cell BK141.out 0).trans rfl; have hcz9_1 : w8.cell? ⟨gb141, 1, none⟩ = some (.slice A0_1 l0_1.length c0_1) := (blk_cell BK141.out 1).trans rfl; have hcz9_2 : w8.cell? ⟨gb141, 2, none⟩ = some (.slice A0_2 l0_2.length c0_2) := (blk_cell BK141.out 2).trans rfl; have hcz9_3 : w8.cell? ⟨gb141, 3, none⟩ = some (.int .i64 a0_3) := (blk_cell BK141.out 3).trans rfl; have hcz9_4 : w8.cell? ⟨gb141, 4, none⟩ = some (.int .i64 a0_4) := (blk_cell BK141.out 4).trans rfl; have hcz9_5 : w8.cell? ⟨gb141, 5, none⟩ = some (.int .i64 a0_5) := (blk_cell BK141.out 5).trans rfl; have hcz9_6 : w8.cell? ⟨gb141, 6, none⟩ = some (.int .i64 a0_6) := (blk_cell BK141.out 6).trans rfl; have hcz9_7 : w8.cell? ⟨gb141, 7, none⟩ = some (.int .i64 a0_7) := (blk_cell BK141.out 7).trans rfl; have hcz9_8 : w8.cell? ⟨gb141, 8, none⟩ = some (.int .i64 a0_8) := (blk_cell BK141.out 8).trans rfl; have hfz9_0 := blk_frozen BK141.out 0; have hfz9_1 := blk_frozen BK141.out 1; have hfz9_2 := blk_frozen BK141.out 2; have hfz9_3 := blk_frozen BK141.out 3; have hfz9_4 := blk_frozen BK141.out 4; have hfz9_5 := blk_frozen BK141.out 5; have hfz9_6 := blk_frozen BK141.out 6; have hfz9_7 := blk_frozen BK141.out 7; have hfz9_8 := blk_frozen BK141.out 8) | (go_at_call 29; (with_reducible refine (govern_limit.calls k _ _ l0_0 _ _ l0_1 _ _ l0_2 a0_3 a0_4 a0_5 a0_6 a0_7 a0_8 a1 a2 t142 _ ?side1 ?side2 ?side3 ?side4 ?side5 ?side6 A7.out).mono ?_); (case side1 => repeat (first | exact (Kd.C_below HR0_0.out HB.out) | (with_reducible refine Kd.C_alloc ?_ _) | (with_reducible refine Kd.C_drewN ?_ _) | (with_reducible refine Kd.C_drew ?_))); (case side2 => exact HC0_0.out); (case side3 => repeat (first | exact (Kd.C_below HR0_1.out HB.out) | (with_reducible refine Kd.C_alloc ?_ _) | (with_reducible refine Kd.C_drewN ?_ _) | (with_reducible refine Kd.C_drew ?_))); (case side4 => exact HC0_1.out); (case side5 => repeat (first | exact (Kd.C_below HR0_2.out HB.out) | (with_reducible refine Kd.C_alloc ?_ _) | (with_reducible refine Kd.C_drewN ?_ _) | (with_reducible refine Kd.C_drew ?_))); (case side6 => exact HC0_2.out); rintro e w10 ⟨rfl, hb⟩; have n0_ := Aside0.mk (blk_below (g := gb141) (o := .cells #[.slice A0_0 l0_0.length c0_0, .slice A0_1 l0_1.length c0_1, .slice A0_2 l0_2.length c0_2, .int .i64 a0_3, .int .i64 a0_4, .int .i64 a0_5, .int .i64 a0_6, .int .i64 a0_7, .int .i64 a0_8] 38 (0, 0)) (by (with_reducible repeat (first | refine blk_drewN ?_ _ | refine blk_drew ?_ | refine blk_alloc ?_ _)); exact BK141.out) hb); have n1_ := Aside0.mk (below_step (by repeat (first | (with_reducible first | exact HB.out | apply below_alloc | apply pw_below_drewN | apply below_drew1 | refine below_set ?_ GE141.out) | exact HB.out)) hb); clear BK141; clear HB; have BK141 := n0_; have HB := n1_; clear n0_ n1_; (try clear hb); (try clear hb2); (try clear hk); (try clear hi))))
  go_loopg [13] k (fun kq v13 w' => ∃ (x13_1 : Int), v13 = .int .i64 x13_1 ∧ Aside0 (govern_Choose.l0 kq a3 a4 a5 x13_1 l0_0 l0_1 l0_2 a0_3 a0_4 a0_5 a0_6 a0_7 a0_8 = some r) ∧ Aside0 (kq ≤ k) ∧ Aside0 (w'.heap[gb141]? = some (.cells #[(.slice A0_0 l0_0.length c0_0), (.slice A0_1 l0_1.length c0_1), (.slice A0_2 l0_2.length c0_2), .int .i64 a0_3, .int .i64 a0_4, .int .i64 a0_5, .int .i64 a0_6, .int .i64 a0_7, .int .i64 a0_8] 38 (0, 0))) ∧ Aside0 (Below w.heap.size w w'))
  case atStart => exact ⟨(t142), (by first | rfl | (simp; done) | (simp [*]; done)), H', ⟨Nat.le_refl _⟩, ⟨by (with_reducible repeat (first | refine blk_drewN ?_ _ | refine blk_drew ?_ | refine blk_alloc ?_ _)); exact BK141.out⟩, ⟨by repeat (first | (with_reducible first | exact HB.out | apply below_alloc | apply pw_below_drewN | apply below_drew1 | refine below_set ?_ GE141.out) | exact HB.out)⟩⟩
  case round =>
    clear H'
    try clear c2
    try clear p2
    try clear hcz9_0
    try clear hcz9_1
    try clear hcz9_2
    try clear hcz9_3
    try clear hcz9_4
    try clear hcz9_5
    try clear hcz9_6
    try clear hcz9_7
    try clear hcz9_8
    try clear hfz9_0
    try clear hfz9_1
    try clear hfz9_2
    try clear hfz9_3
    try clear hfz9_4
    try clear hfz9_5
    try clear hfz9_6
    try clear hfz9_7
    try clear hfz9_8
    obtain ⟨x13_1, rfl, HA, HK1, BK141, HB⟩ := hrel
    cases gk with
    | zero => exact absurd HA.out (by simp [govern_Choose.l0])
    | succ k1 =>
      have H := HA.out
      clear HA
      simp only [govern_Choose.l0] at H
      by_cases c11 : x13_1 > 0
      · rw [if_pos c11] at H
        have c11b0 : decide (0 < x13_1) = true := decide_eq_true c11
        clear c11
        by_cases c12 : 0 ≤ x13_1
        · rw [if_pos c12] at H
          have c12b0 : decide (0 ≤ x13_1) = true := decide_eq_true c12
          clear c12
          by_cases c13 : x13_1 < (l0_0.length : Int)
          · rw [if_pos c13] at H
            have c13b0 : decide (x13_1 < (l0_0.length : Int)) = true := decide_eq_true c13
            clear c13
            by_cases c14 : 0 < (l0_0.length : Int)
            · rw [if_pos c14] at H
              have c14b0 : decide (0 < (l0_0.length : Int)) = true := decide_eq_true c14
              have c14b1 : decide (0 < l0_0.length) = true := decide_eq_true (by omega)
              clear c14
              by_cases c15 : x13_1 = a5
              · rw [if_pos c15] at H
                have c15b0 : (x13_1 == a5) = true := beq_iff_eq.mpr c15
                have c15b1 : (x13_1 != a5) = false := bne_eq_false_iff_eq.mpr c15
                clear c15
                replace H := Option.bind_eq_some_iff.mp H
                obtain ⟨t145, A160, H⟩ := H
                replace H : (if t145 ≤ a4 then (some x13_1) else (govern_Choose.l0 k1 a3 a4 a5 (wrap64 (x13_1 - 1)) l0_0 l0_1 l0_2 a0_3 a0_4 a0_5 a0_6 a0_7 a0_8)) = some r := H
                have A16 := Aside0.mk A160
                clear A160
                by_cases c17 : t145 ≤ a4
                · rw [if_pos c17] at H
                  have c17b0 : decide (t145 ≤ a4) = true := decide_eq_true c17
                  clear c17
                  obtain rfl := Option.some.inj H
                  have hcz18_0 : wr.cell? ⟨gb141, 0, none⟩ = some (.slice A0_0 l0_0.length c0_0) := (blk_cell BK141.out 0).trans rfl
                  have hcz18_1 : wr.cell? ⟨gb141, 1, none⟩ = some (.slice A0_1 l0_1.length c0_1) := (blk_cell BK141.out 1).trans rfl
                  have hcz18_2 : wr.cell? ⟨gb141, 2, none⟩ = some (.slice A0_2 l0_2.length c0_2) := (blk_cell BK141.out 2).trans rfl
                  have hcz18_3 : wr.cell? ⟨gb141, 3, none⟩ = some (.int .i64 a0_3) := (blk_cell BK141.out 3).trans rfl
                  have hcz18_4 : wr.cell? ⟨gb141, 4, none⟩ = some (.int .i64 a0_4) := (blk_cell BK141.out 4).trans rfl
                  have hcz18_5 : wr.cell? ⟨gb141, 5, none⟩ = some (.int .i64 a0_5) := (blk_cell BK141.out 5).trans rfl
                  have hcz18_6 : wr.cell? ⟨gb141, 6, none⟩ = some (.int .i64 a0_6) := (blk_cell BK141.out 6).trans rfl
                  have hcz18_7 : wr.cell? ⟨gb141, 7, none⟩ = some (.int .i64 a0_7) := (blk_cell BK141.out 7).trans rfl
                  have hcz18_8 : wr.cell? ⟨gb141, 8, none⟩ = some (.int .i64 a0_8) := (blk_cell BK141.out 8).trans rfl
                  have hfz18_0 := blk_frozen BK141.out 0
                  have hfz18_1 := blk_frozen BK141.out 1
                  have hfz18_2 := blk_frozen BK141.out 2
                  have hfz18_3 := blk_frozen BK141.out 3
                  have hfz18_4 := blk_frozen BK141.out 4
                  have hfz18_5 := blk_frozen BK141.out 5
                  have hfz18_6 := blk_frozen BK141.out 6
                  have hfz18_7 := blk_frozen BK141.out 7
                  have hfz18_8 := blk_frozen BK141.out 8
                  have p143 : 0 ≤ (x13_1 : Int) := of_decide_eq_true (by first | (with_reducible assumption) | assumption)
                  have q143 : x13_1 < (l0_0.length : Int) := of_decide_eq_true (by first | (with_reducible assumption) | assumption)
                  obtain ⟨ad143, e143, hx143_0, hx143_1⟩ := at_T45 HR0_0.out x13_1 p143 q143
                  cases e143
                  replace hx143_0 := (HB.out.cell (World.block_lt_of_cell? w _ hx143_0)).trans hx143_0
                  replace hx143_1 := (HB.out.cell (World.block_lt_of_cell? w _ hx143_1)).trans hx143_1
                  replace p143 := eq_true p143
                  replace q143 := eq_true q143
                  have p144 : 0 ≤ (0 : Int) := (by omega)
                  have q144 : 0 < (l0_0.length : Int) := of_decide_eq_true (by first | (with_reducible assumption) | assumption)
                  obtain ⟨ad144, e144, hx144_0, hx144_1⟩ := at_T45 HR0_0.out 0 p144 q144
                  obtain rfl : ad143 = ad144 := (by injection e144)
                  have qi144 : (0 < l0_0.length) = True := eq_true (by omega)
                  (try rw [show ((0 : Int)).toNat = 0 from rfl] at hx144_0)
                  (try rw [show 0 * 2 = 0 from rfl] at hx144_0)
                  (try rw [Addr.add_zero'] at hx144_0)
                  (try rw [show ((0 : Int)).toNat = 0 from rfl] at hx144_1)
                  (try rw [show 0 * 2 = 0 from rfl] at hx144_1)
                  (try rw [Addr.add_zero'] at hx144_1)
                  replace hx144_0 := (HB.out.cell (World.block_lt_of_cell? w _ hx144_0)).trans hx144_0
                  replace hx144_1 := (HB.out.cell (World.block_lt_of_cell? w _ hx144_1)).trans hx144_1
                  replace p144 := eq_true p144
                  replace q144 := eq_true q144
                  go_wp2_with (first | (go_at_call 30; (with_reducible refine (fix_Whole.calls (wrap64 (a3 * (wrap64 (((rd_T45 l0_0 x13_1).f0) - ((rd_T45 l0_0 0).f0))))) t145 _ A16.out).mono ?_); rintro e w19 ⟨rfl, hb⟩; have n0_ := Aside0.mk (blk_below (g := gb141) (o := .cells #[.slice (some ad143) l0_0.length c0_0, .slice A0_1 l0_1.length c0_1, .slice A0_2 l0_2.length c0_2, .int .i64 a0_3, .int .i64 a0_4, .int .i64 a0_5, .int .i64 a0_6, .int .i64 a0_7, .int .i64 a0_8] 38 (0, 0)) (by (with_reducible repeat (first | refine blk_drewN ?_ _ | refine blk_drew ?_ | refine blk_alloc ?_ _)); exact BK141.out) hb); have n1_ := Aside0.mk (below_step (by repeat (first | (with_reducible first | exact HB.out | apply below_alloc | apply pw_below_drewN | apply below_drew1 | refine below_set ?_ GE141.out) | exact HB.out)) hb); clear BK141; clear HB; have BK141 := n0_; have HB := n1_; clear n0_ n1_; (try clear hb); (try clear hb2); (try clear hk); (try clear hi)))
                  repeat (go_quiet (first | (go_at_call 30; (with_reducible refine (fix_Whole.calls (wrap64 (a3 * (wrap64 (((rd_T45 l0_0 x13_1).f0) - ((rd_T45 l0_0 0).f0))))) t145 _ A16.out).mono ?_); rintro e w19 ⟨rfl, hb⟩; have n0_ := Aside0.mk (blk_below (g := gb141) (o := .cells #[.slice (some ad143) l0_0.length c0_0, .slice A0_1 l0_1.length c0_1, .slice A0_2 l0_2.length c0_2, .int .i64 a0_3, .int .i64 a0_4, .int .i64 a0_5, .int .i64 a0_6, .int .i64 a0_7, .int .i64 a0_8] 38 (0, 0)) (by (with_reducible repeat (first | refine blk_drewN ?_ _ | refine blk_drew ?_ | refine blk_alloc ?_ _)); exact BK141.out) hb); have n1_ := Aside0.mk (below_step (by repeat (first | (with_reducible first | exact HB.out | apply below_alloc | apply pw_below_drewN | apply below_drew1 | refine below_set ?_ GE141.out) | exact HB.out)) hb); clear BK141; clear HB; have BK141 := n0_; have HB := n1_; clear n0_ n1_; (try clear hb); (try clear hb2); (try clear hk); (try clear hi))); try go_wp2_with (first | (go_at_call 30; (with_reducible refine (fix_Whole.calls (wrap64 (a3 * (wrap64 (((rd_T45 l0_0 x13_1).f0) - ((rd_T45 l0_0 0).f0))))) t145 _ A16.out).mono ?_); rintro e w19 ⟨rfl, hb⟩; have n0_ := Aside0.mk (blk_below (g := gb141) (o := .cells #[.slice (some ad143) l0_0.length c0_0, .slice A0_1 l0_1.length c0_1, .slice A0_2 l0_2.length c0_2, .int .i64 a0_3, .int .i64 a0_4, .int .i64 a0_5, .int .i64 a0_6, .int .i64 a0_7, .int .i64 a0_8] 38 (0, 0)) (by (with_reducible repeat (first | refine blk_drewN ?_ _ | refine blk_drew ?_ | refine blk_alloc ?_ _)); exact BK141.out) hb); have n1_ := Aside0.mk (below_step (by repeat (first | (with_reducible first | exact HB.out | apply below_alloc | apply pw_below_drewN | apply below_drew1 | refine below_set ?_ GE141.out) | exact HB.out)) hb); clear BK141; clear HB; have BK141 := n0_; have HB := n1_; clear n0_ n1_; (try clear hb); (try clear hb2); (try clear hk); (try clear hi))))
                  go_ret
                  exact ⟨by first | rfl | (simp [errW_none, errW_some] <;> rfl) | (simp [*, errW_none, errW_some] <;> rfl), by repeat (first | (with_reducible first | exact HB.out | apply below_alloc | apply pw_below_drewN | apply below_drew1 | refine below_set ?_ GE141.out) | exact HB.out)⟩
                · rw [if_neg c17] at H
                  have c17b0 : decide (t145 ≤ a4) = false := decide_eq_false c17
                  clear c17
                  have H' := Aside0.mk H
                  clear H
                  have hcz20_0 : wr.cell? ⟨gb141, 0, none⟩ = some (.slice A0_0 l0_0.length c0_0) := (blk_cell BK141.out 0).trans rfl
                  have hcz20_1 : wr.cell? ⟨gb141, 1, none⟩ = some (.slice A0_1 l0_1.length c0_1) := (blk_cell BK141.out 1).trans rfl
                  have hcz20_2 : wr.cell? ⟨gb141, 2, none⟩ = some (.slice A0_2 l0_2.length c0_2) := (blk_cell BK141.out 2).trans rfl
                  have hcz20_3 : wr.cell? ⟨gb141, 3, none⟩ = some (.int .i64 a0_3) := (blk_cell BK141.out 3).trans rfl
                  have hcz20_4 : wr.cell? ⟨gb141, 4, none⟩ = some (.int .i64 a0_4) := (blk_cell BK141.out 4).trans rfl
                  have hcz20_5 : wr.cell? ⟨gb141, 5, none⟩ = some (.int .i64 a0_5) := (blk_cell BK141.out 5).trans rfl
                  have hcz20_6 : wr.cell? ⟨gb141, 6, none⟩ = some (.int .i64 a0_6) := (blk_cell BK141.out 6).trans rfl
                  have hcz20_7 : wr.cell? ⟨gb141, 7, none⟩ = some (.int .i64 a0_7) := (blk_cell BK141.out 7).trans rfl
                  have hcz20_8 : wr.cell? ⟨gb141, 8, none⟩ = some (.int .i64 a0_8) := (blk_cell BK141.out 8).trans rfl
                  have hfz20_0 := blk_frozen BK141.out 0
                  have hfz20_1 := blk_frozen BK141.out 1
                  have hfz20_2 := blk_frozen BK141.out 2
                  have hfz20_3 := blk_frozen BK141.out 3
                  have hfz20_4 := blk_frozen BK141.out 4
                  have hfz20_5 := blk_frozen BK141.out 5
                  have hfz20_6 := blk_frozen BK141.out 6
                  have hfz20_7 := blk_frozen BK141.out 7
                  have hfz20_8 := blk_frozen BK141.out 8
                  have p143 : 0 ≤ (x13_1 : Int) := of_decide_eq_true (by first | (with_reducible assumption) | assumption)
                  have q143 : x13_1 < (l0_0.length : Int) := of_decide_eq_true (by first | (with_reducible assumption) | assumption)
                  obtain ⟨ad143, e143, hx143_0, hx143_1⟩ := at_T45 HR0_0.out x13_1 p143 q143
                  cases e143
                  replace hx143_0 := (HB.out.cell (World.block_lt_of_cell? w _ hx143_0)).trans hx143_0
                  replace hx143_1 := (HB.out.cell (World.block_lt_of_cell? w _ hx143_1)).trans hx143_1
                  replace p143 := eq_true p143
                  replace q143 := eq_true q143
                  have p144 : 0 ≤ (0 : Int) := (by omega)
                  have q144 : 0 < (l0_0.length : Int) := of_decide_eq_true (by first | (with_reducible assumption) | assumption)
                  obtain ⟨ad144, e144, hx144_0, hx144_1⟩ := at_T45 HR0_0.out 0 p144 q144
                  obtain rfl : ad143 = ad144 := (by injection e144)
                  have qi144 : (0 < l0_0.length) = True := eq_true (by omega)
                  (try rw [show ((0 : Int)).toNat = 0 from rfl] at hx144_0)
                  (try rw [show 0 * 2 = 0 from rfl] at hx144_0)
                  (try rw [Addr.add_zero'] at hx144_0)
                  (try rw [show ((0 : Int)).toNat = 0 from rfl] at hx144_1)
                  (try rw [show 0 * 2 = 0 from rfl] at hx144_1)
                  (try rw [Addr.add_zero'] at hx144_1)
                  replace hx144_0 := (HB.out.cell (World.block_lt_of_cell? w _ hx144_0)).trans hx144_0
                  replace hx144_1 := (HB.out.cell (World.block_lt_of_cell? w _ hx144_1)).trans hx144_1
                  replace p144 := eq_true p144
                  replace q144 := eq_true q144
                  go_wp2_with (first | (go_at_call 30; (with_reducible refine (fix_Whole.calls (wrap64 (a3 * (wrap64 (((rd_T45 l0_0 x13_1).f0) - ((rd_T45 l0_0 0).f0))))) t145 _ A16.out).mono ?_); rintro e w21 ⟨rfl, hb⟩; have n0_ := Aside0.mk (blk_below (g := gb141) (o := .cells #[.slice (some ad143) l0_0.length c0_0, .slice A0_1 l0_1.length c0_1, .slice A0_2 l0_2.length c0_2, .int .i64 a0_3, .int .i64 a0_4, .int .i64 a0_5, .int .i64 a0_6, .int .i64 a0_7, .int .i64 a0_8] 38 (0, 0)) (by (with_reducible repeat (first | refine blk_drewN ?_ _ | refine blk_drew ?_ | refine blk_alloc ?_ _)); exact BK141.out) hb); have n1_ := Aside0.mk (below_step (by repeat (first | (with_reducible first | exact HB.out | apply below_alloc | apply pw_below_drewN | apply below_drew1 | refine below_set ?_ GE141.out) | exact HB.out)) hb); clear BK141; clear HB; have BK141 := n0_; have HB := n1_; clear n0_ n1_; (try clear hb); (try clear hb2); (try clear hk); (try clear hi)))
                  repeat (go_quiet (first | (go_at_call 30; (with_reducible refine (fix_Whole.calls (wrap64 (a3 * (wrap64 (((rd_T45 l0_0 x13_1).f0) - ((rd_T45 l0_0 0).f0))))) t145 _ A16.out).mono ?_); rintro e w21 ⟨rfl, hb⟩; have n0_ := Aside0.mk (blk_below (g := gb141) (o := .cells #[.slice (some ad143) l0_0.length c0_0, .slice A0_1 l0_1.length c0_1, .slice A0_2 l0_2.length c0_2, .int .i64 a0_3, .int .i64 a0_4, .int .i64 a0_5, .int .i64 a0_6, .int .i64 a0_7, .int .i64 a0_8] 38 (0, 0)) (by (with_reducible repeat (first | refine blk_drewN ?_ _ | refine blk_drew ?_ | refine blk_alloc ?_ _)); exact BK141.out) hb); have n1_ := Aside0.mk (below_step (by repeat (first | (with_reducible first | exact HB.out | apply below_alloc | apply pw_below_drewN | apply below_drew1 | refine below_set ?_ GE141.out) | exact HB.out)) hb); clear BK141; clear HB; have BK141 := n0_; have HB := n1_; clear n0_ n1_; (try clear hb); (try clear hb2); (try clear hk); (try clear hi))); try go_wp2_with (first | (go_at_call 30; (with_reducible refine (fix_Whole.calls (wrap64 (a3 * (wrap64 (((rd_T45 l0_0 x13_1).f0) - ((rd_T45 l0_0 0).f0))))) t145 _ A16.out).mono ?_); rintro e w21 ⟨rfl, hb⟩; have n0_ := Aside0.mk (blk_below (g := gb141) (o := .cells #[.slice (some ad143) l0_0.length c0_0, .slice A0_1 l0_1.length c0_1, .slice A0_2 l0_2.length c0_2, .int .i64 a0_3, .int .i64 a0_4, .int .i64 a0_5, .int .i64 a0_6, .int .i64 a0_7, .int .i64 a0_8] 38 (0, 0)) (by (with_reducible repeat (first | refine blk_drewN ?_ _ | refine blk_drew ?_ | refine blk_alloc ?_ _)); exact BK141.out) hb); have n1_ := Aside0.mk (below_step (by repeat (first | (with_reducible first | exact HB.out | apply below_alloc | apply pw_below_drewN | apply below_drew1 | refine below_set ?_ GE141.out) | exact HB.out)) hb); clear BK141; clear HB; have BK141 := n0_; have HB := n1_; clear n0_ n1_; (try clear hb); (try clear hb2); (try clear hk); (try clear hi))))
                  go_roundg k1
                  case measure => have := HK1.out; omega
                  case rel => exact ⟨(wrap64 (x13_1 - 1)), (by first | rfl | (simp; done) | (simp [*]; done)), H', ⟨by have := HK1.out; omega⟩, ⟨by (with_reducible repeat (first | refine blk_drewN ?_ _ | refine blk_drew ?_ | refine blk_alloc ?_ _)); exact BK141.out⟩, ⟨by repeat (first | (with_reducible first | exact HB.out | apply below_alloc | apply pw_below_drewN | apply below_drew1 | refine below_set ?_ GE141.out) | exact HB.out)⟩⟩
              · rw [if_neg c15] at H
                have c15b0 : (x13_1 == a5) = false := beq_eq_false_iff_ne.mpr c15
                have c15b1 : (x13_1 != a5) = true := bne_iff_ne.mpr c15
                replace H := Option.bind_eq_some_iff.mp H
                obtain ⟨t146, A220, H⟩ := H
                replace H : (if t146 ≤ a4 then (some x13_1) else (govern_Choose.l0 k1 a3 a4 a5 (wrap64 (x13_1 - 1)) l0_0 l0_1 l0_2 a0_3 a0_4 a0_5 a0_6 a0_7 a0_8)) = some r := H
                have A22 := Aside0.mk A220
                clear A220
                by_cases c23 : t146 ≤ a4
                · rw [if_pos c23] at H
                  have c23b0 : decide (t146 ≤ a4) = true := decide_eq_true c23
                  clear c23
                  obtain rfl := Option.some.inj H
                  have hcz24_0 : wr.cell? ⟨gb141, 0, none⟩ = some (.slice A0_0 l0_0.length c0_0) := (blk_cell BK141.out 0).trans rfl
                  have hcz24_1 : wr.cell? ⟨gb141, 1, none⟩ = some (.slice A0_1 l0_1.length c0_1) := (blk_cell BK141.out 1).trans rfl
                  have hcz24_2 : wr.cell? ⟨gb141, 2, none⟩ = some (.slice A0_2 l0_2.length c0_2) := (blk_cell BK141.out 2).trans rfl
                  have hcz24_3 : wr.cell? ⟨gb141, 3, none⟩ = some (.int .i64 a0_3) := (blk_cell BK141.out 3).trans rfl
                  have hcz24_4 : wr.cell? ⟨gb141, 4, none⟩ = some (.int .i64 a0_4) := (blk_cell BK141.out 4).trans rfl
                  have hcz24_5 : wr.cell? ⟨gb141, 5, none⟩ = some (.int .i64 a0_5) := (blk_cell BK141.out 5).trans rfl
                  have hcz24_6 : wr.cell? ⟨gb141, 6, none⟩ = some (.int .i64 a0_6) := (blk_cell BK141.out 6).trans rfl
                  have hcz24_7 : wr.cell? ⟨gb141, 7, none⟩ = some (.int .i64 a0_7) := (blk_cell BK141.out 7).trans rfl
                  have hcz24_8 : wr.cell? ⟨gb141, 8, none⟩ = some (.int .i64 a0_8) := (blk_cell BK141.out 8).trans rfl
                  have hfz24_0 := blk_frozen BK141.out 0
                  have hfz24_1 := blk_frozen BK141.out 1
                  have hfz24_2 := blk_frozen BK141.out 2
                  have hfz24_3 := blk_frozen BK141.out 3
                  have hfz24_4 := blk_frozen BK141.out 4
                  have hfz24_5 := blk_frozen BK141.out 5
                  have hfz24_6 := blk_frozen BK141.out 6
                  have hfz24_7 := blk_frozen BK141.out 7
                  have hfz24_8 := blk_frozen BK141.out 8
                  have p143 : 0 ≤ (x13_1 : Int) := of_decide_eq_true (by first | (with_reducible assumption) | assumption)
                  have q143 : x13_1 < (l0_0.length : Int) := of_decide_eq_true (by first | (with_reducible assumption) | assumption)
                  obtain ⟨ad143, e143, hx143_0, hx143_1⟩ := at_T45 HR0_0.out x13_1 p143 q143
                  cases e143
                  replace hx143_0 := (HB.out.cell (World.block_lt_of_cell? w _ hx143_0)).trans hx143_0
                  replace hx143_1 := (HB.out.cell (World.block_lt_of_cell? w _ hx143_1)).trans hx143_1
                  replace p143 := eq_true p143
                  replace q143 := eq_true q143
                  have p144 : 0 ≤ (0 : Int) := (by omega)
                  have q144 : 0 < (l0_0.length : Int) := of_decide_eq_true (by first | (with_reducible assumption) | assumption)
                  obtain ⟨ad144, e144, hx144_0, hx144_1⟩ := at_T45 HR0_0.out 0 p144 q144
                  obtain rfl : ad143 = ad144 := (by injection e144)
                  have qi144 : (0 < l0_0.length) = True := eq_true (by omega)
                  (try rw [show ((0 : Int)).toNat = 0 from rfl] at hx144_0)
                  (try rw [show 0 * 2 = 0 from rfl] at hx144_0)
                  (try rw [Addr.add_zero'] at hx144_0)
                  (try rw [show ((0 : Int)).toNat = 0 from rfl] at hx144_1)
                  (try rw [show 0 * 2 = 0 from rfl] at hx144_1)
                  (try rw [Addr.add_zero'] at hx144_1)
                  replace hx144_0 := (HB.out.cell (World.block_lt_of_cell? w _ hx144_0)).trans hx144_0
                  replace hx144_1 := (HB.out.cell (World.block_lt_of_cell? w _ hx144_1)).trans hx144_1
                  replace p144 := eq_true p144
                  replace q144 := eq_true q144
                  go_wp2_with (first | (go_at_call 30; (with_reducible refine (fix_Whole.calls (wrap64 ((wrap64 (a3 * (wrap64 (((rd_T45 l0_0 x13_1).f0) - ((rd_T45 l0_0 0).f0))))) + a0_5)) t146 _ A22.out).mono ?_); rintro e w25 ⟨rfl, hb⟩; have n0_ := Aside0.mk (blk_below (g := gb141) (o := .cells #[.slice (some ad143) l0_0.length c0_0, .slice A0_1 l0_1.length c0_1, .slice A0_2 l0_2.length c0_2, .int .i64 a0_3, .int .i64 a0_4, .int .i64 a0_5, .int .i64 a0_6, .int .i64 a0_7, .int .i64 a0_8] 38 (0, 0)) (by (with_reducible repeat (first | refine blk_drewN ?_ _ | refine blk_drew ?_ | refine blk_alloc ?_ _)); exact BK141.out) hb); have n1_ := Aside0.mk (below_step (by repeat (first | (with_reducible first | exact HB.out | apply below_alloc | apply pw_below_drewN | apply below_drew1 | refine below_set ?_ GE141.out) | exact HB.out)) hb); clear BK141; clear HB; have BK141 := n0_; have HB := n1_; clear n0_ n1_; (try clear hb); (try clear hb2); (try clear hk); (try clear hi)))
                  repeat (go_quiet (first | (go_at_call 30; (with_reducible refine (fix_Whole.calls (wrap64 ((wrap64 (a3 * (wrap64 (((rd_T45 l0_0 x13_1).f0) - ((rd_T45 l0_0 0).f0))))) + a0_5)) t146 _ A22.out).mono ?_); rintro e w25 ⟨rfl, hb⟩; have n0_ := Aside0.mk (blk_below (g := gb141) (o := .cells #[.slice (some ad143) l0_0.length c0_0, .slice A0_1 l0_1.length c0_1, .slice A0_2 l0_2.length c0_2, .int .i64 a0_3, .int .i64 a0_4, .int .i64 a0_5, .int .i64 a0_6, .int .i64 a0_7, .int .i64 a0_8] 38 (0, 0)) (by (with_reducible repeat (first | refine blk_drewN ?_ _ | refine blk_drew ?_ | refine blk_alloc ?_ _)); exact BK141.out) hb); have n1_ := Aside0.mk (below_step (by repeat (first | (with_reducible first | exact HB.out | apply below_alloc | apply pw_below_drewN | apply below_drew1 | refine below_set ?_ GE141.out) | exact HB.out)) hb); clear BK141; clear HB; have BK141 := n0_; have HB := n1_; clear n0_ n1_; (try clear hb); (try clear hb2); (try clear hk); (try clear hi))); try go_wp2_with (first | (go_at_call 30; (with_reducible refine (fix_Whole.calls (wrap64 ((wrap64 (a3 * (wrap64 (((rd_T45 l0_0 x13_1).f0) - ((rd_T45 l0_0 0).f0))))) + a0_5)) t146 _ A22.out).mono ?_); rintro e w25 ⟨rfl, hb⟩; have n0_ := Aside0.mk (blk_below (g := gb141) (o := .cells #[.slice (some ad143) l0_0.length c0_0, .slice A0_1 l0_1.length c0_1, .slice A0_2 l0_2.length c0_2, .int .i64 a0_3, .int .i64 a0_4, .int .i64 a0_5, .int .i64 a0_6, .int .i64 a0_7, .int .i64 a0_8] 38 (0, 0)) (by (with_reducible repeat (first | refine blk_drewN ?_ _ | refine blk_drew ?_ | refine blk_alloc ?_ _)); exact BK141.out) hb); have n1_ := Aside0.mk (below_step (by repeat (first | (with_reducible first | exact HB.out | apply below_alloc | apply pw_below_drewN | apply below_drew1 | refine below_set ?_ GE141.out) | exact HB.out)) hb); clear BK141; clear HB; have BK141 := n0_; have HB := n1_; clear n0_ n1_; (try clear hb); (try clear hb2); (try clear hk); (try clear hi))))
                  go_ret
                  exact ⟨by first | rfl | (simp [errW_none, errW_some] <;> rfl) | (simp [*, errW_none, errW_some] <;> rfl), by repeat (first | (with_reducible first | exact HB.out | apply below_alloc | apply pw_below_drewN | apply below_drew1 | refine below_set ?_ GE141.out) | exact HB.out)⟩
                · rw [if_neg c23] at H
                  have c23b0 : decide (t146 ≤ a4) = false := decide_eq_false c23
                  clear c23
                  have H' := Aside0.mk H
                  clear H
                  have hcz26_0 : wr.cell? ⟨gb141, 0, none⟩ = some (.slice A0_0 l0_0.length c0_0) := (blk_cell BK141.out 0).trans rfl
                  have hcz26_1 : wr.cell? ⟨gb141, 1, none⟩ = some (.slice A0_1 l0_1.length c0_1) := (blk_cell BK141.out 1).trans rfl
                  have hcz26_2 : wr.cell? ⟨gb141, 2, none⟩ = some (.slice A0_2 l0_2.length c0_2) := (blk_cell BK141.out 2).trans rfl
                  have hcz26_3 : wr.cell? ⟨gb141, 3, none⟩ = some (.int .i64 a0_3) := (blk_cell BK141.out 3).trans rfl
                  have hcz26_4 : wr.cell? ⟨gb141, 4, none⟩ = some (.int .i64 a0_4) := (blk_cell BK141.out 4).trans rfl
                  have hcz26_5 : wr.cell? ⟨gb141, 5, none⟩ = some (.int .i64 a0_5) := (blk_cell BK141.out 5).trans rfl
                  have hcz26_6 : wr.cell? ⟨gb141, 6, none⟩ = some (.int .i64 a0_6) := (blk_cell BK141.out 6).trans rfl
                  have hcz26_7 : wr.cell? ⟨gb141, 7, none⟩ = some (.int .i64 a0_7) := (blk_cell BK141.out 7).trans rfl
                  have hcz26_8 : wr.cell? ⟨gb141, 8, none⟩ = some (.int .i64 a0_8) := (blk_cell BK141.out 8).trans rfl
                  have hfz26_0 := blk_frozen BK141.out 0
                  have hfz26_1 := blk_frozen BK141.out 1
                  have hfz26_2 := blk_frozen BK141.out 2
                  have hfz26_3 := blk_frozen BK141.out 3
                  have hfz26_4 := blk_frozen BK141.out 4
                  have hfz26_5 := blk_frozen BK141.out 5
                  have hfz26_6 := blk_frozen BK141.out 6
                  have hfz26_7 := blk_frozen BK141.out 7
                  have hfz26_8 := blk_frozen BK141.out 8
                  have p143 : 0 ≤ (x13_1 : Int) := of_decide_eq_true (by first | (with_reducible assumption) | assumption)
                  have q143 : x13_1 < (l0_0.length : Int) := of_decide_eq_true (by first | (with_reducible assumption) | assumption)
                  obtain ⟨ad143, e143, hx143_0, hx143_1⟩ := at_T45 HR0_0.out x13_1 p143 q143
                  cases e143
                  replace hx143_0 := (HB.out.cell (World.block_lt_of_cell? w _ hx143_0)).trans hx143_0
                  replace hx143_1 := (HB.out.cell (World.block_lt_of_cell? w _ hx143_1)).trans hx143_1
                  replace p143 := eq_true p143
                  replace q143 := eq_true q143
                  have p144 : 0 ≤ (0 : Int) := (by omega)
                  have q144 : 0 < (l0_0.length : Int) := of_decide_eq_true (by first | (with_reducible assumption) | assumption)
                  obtain ⟨ad144, e144, hx144_0, hx144_1⟩ := at_T45 HR0_0.out 0 p144 q144
                  obtain rfl : ad143 = ad144 := (by injection e144)
                  have qi144 : (0 < l0_0.length) = True := eq_true (by omega)
                  (try rw [show ((0 : Int)).toNat = 0 from rfl] at hx144_0)
                  (try rw [show 0 * 2 = 0 from rfl] at hx144_0)
                  (try rw [Addr.add_zero'] at hx144_0)
                  (try rw [show ((0 : Int)).toNat = 0 from rfl] at hx144_1)
                  (try rw [show 0 * 2 = 0 from rfl] at hx144_1)
                  (try rw [Addr.add_zero'] at hx144_1)
                  replace hx144_0 := (HB.out.cell (World.block_lt_of_cell? w _ hx144_0)).trans hx144_0
                  replace hx144_1 := (HB.out.cell (World.block_lt_of_cell? w _ hx144_1)).trans hx144_1
                  replace p144 := eq_true p144
                  replace q144 := eq_true q144
                  go_wp2_with (first | (go_at_call 30; (with_reducible refine (fix_Whole.calls (wrap64 ((wrap64 (a3 * (wrap64 (((rd_T45 l0_0 x13_1).f0) - ((rd_T45 l0_0 0).f0))))) + a0_5)) t146 _ A22.out).mono ?_); rintro e w27 ⟨rfl, hb⟩; have n0_ := Aside0.mk (blk_below (g := gb141) (o := .cells #[.slice (some ad143) l0_0.length c0_0, .slice A0_1 l0_1.length c0_1, .slice A0_2 l0_2.length c0_2, .int .i64 a0_3, .int .i64 a0_4, .int .i64 a0_5, .int .i64 a0_6, .int .i64 a0_7, .int .i64 a0_8] 38 (0, 0)) (by (with_reducible repeat (first | refine blk_drewN ?_ _ | refine blk_drew ?_ | refine blk_alloc ?_ _)); exact BK141.out) hb); have n1_ := Aside0.mk (below_step (by repeat (first | (with_reducible first | exact HB.out | apply below_alloc | apply pw_below_drewN | apply below_drew1 | refine below_set ?_ GE141.out) | exact HB.out)) hb); clear BK141; clear HB; have BK141 := n0_; have HB := n1_; clear n0_ n1_; (try clear hb); (try clear hb2); (try clear hk); (try clear hi)))
                  repeat (go_quiet (first | (go_at_call 30; (with_reducible refine (fix_Whole.calls (wrap64 ((wrap64 (a3 * (wrap64 (((rd_T45 l0_0 x13_1).f0) - ((rd_T45 l0_0 0).f0))))) + a0_5)) t146 _ A22.out).mono ?_); rintro e w27 ⟨rfl, hb⟩; have n0_ := Aside0.mk (blk_below (g := gb141) (o := .cells #[.slice (some ad143) l0_0.length c0_0, .slice A0_1 l0_1.length c0_1, .slice A0_2 l0_2.length c0_2, .int .i64 a0_3, .int .i64 a0_4, .int .i64 a0_5, .int .i64 a0_6, .int .i64 a0_7, .int .i64 a0_8] 38 (0, 0)) (by (with_reducible repeat (first | refine blk_drewN ?_ _ | refine blk_drew ?_ | refine blk_alloc ?_ _)); exact BK141.out) hb); have n1_ := Aside0.mk (below_step (by repeat (first | (with_reducible first | exact HB.out | apply below_alloc | apply pw_below_drewN | apply below_drew1 | refine below_set ?_ GE141.out) | exact HB.out)) hb); clear BK141; clear HB; have BK141 := n0_; have HB := n1_; clear n0_ n1_; (try clear hb); (try clear hb2); (try clear hk); (try clear hi))); try go_wp2_with (first | (go_at_call 30; (with_reducible refine (fix_Whole.calls (wrap64 ((wrap64 (a3 * (wrap64 (((rd_T45 l0_0 x13_1).f0) - ((rd_T45 l0_0 0).f0))))) + a0_5)) t146 _ A22.out).mono ?_); rintro e w27 ⟨rfl, hb⟩; have n0_ := Aside0.mk (blk_below (g := gb141) (o := .cells #[.slice (some ad143) l0_0.length c0_0, .slice A0_1 l0_1.length c0_1, .slice A0_2 l0_2.length c0_2, .int .i64 a0_3, .int .i64 a0_4, .int .i64 a0_5, .int .i64 a0_6, .int .i64 a0_7, .int .i64 a0_8] 38 (0, 0)) (by (with_reducible repeat (first | refine blk_drewN ?_ _ | refine blk_drew ?_ | refine blk_alloc ?_ _)); exact BK141.out) hb); have n1_ := Aside0.mk (below_step (by repeat (first | (with_reducible first | exact HB.out | apply below_alloc | apply pw_below_drewN | apply below_drew1 | refine below_set ?_ GE141.out) | exact HB.out)) hb); clear BK141; clear HB; have BK141 := n0_; have HB := n1_; clear n0_ n1_; (try clear hb); (try clear hb2); (try clear hk); (try clear hi))))
                  go_roundg k1
                  case measure => have := HK1.out; omega
                  case rel => exact ⟨(wrap64 (x13_1 - 1)), (by first | rfl | (simp; done) | (simp [*]; done)), H', ⟨by have := HK1.out; omega⟩, ⟨by (with_reducible repeat (first | refine blk_drewN ?_ _ | refine blk_drew ?_ | refine blk_alloc ?_ _)); exact BK141.out⟩, ⟨by repeat (first | (with_reducible first | exact HB.out | apply below_alloc | apply pw_below_drewN | apply below_drew1 | refine below_set ?_ GE141.out) | exact HB.out)⟩⟩
            · rw [if_neg c14] at H
              exact absurd H (by simp)
          · rw [if_neg c13] at H
            exact absurd H (by simp)
        · rw [if_neg c12] at H
          exact absurd H (by simp)
      · rw [if_neg c11] at H
        have c11b0 : decide (0 < x13_1) = false := decide_eq_false c11
        clear c11
        obtain rfl := Option.some.inj H
        go_wp2
        repeat (go_quiet (fail); try go_wp2)
        go_ret
        exact ⟨by first | rfl | (simp [errW_none, errW_some] <;> rfl) | (simp [*, errW_none, errW_some] <;> rfl), by repeat (first | (with_reducible first | exact HB.out | apply below_alloc | apply pw_below_drewN | apply below_drew1 | refine below_set ?_ GE141.out) | exact HB.out)⟩
end Go.Proofs.Ytijlfnjfjmhdiaa.F
namespace Go.Proofs.Ytijlfnjfjmhdiaa.F
open Go.RowKit Go.Proofs.YtijlfnjfjmhdiaaW.PrintWords Go.Proofs.YtijlfnjfjmhdiaaW.PrintLast Go.Proofs.YtijlfnjfjmhdiaaW.PrintMore
attribute [local go_sem] max2_int min2_int max_two min_two max_three min_three max_four min_four   -- for this text's walks alone
set_option linter.unusedVariables false
set_option linter.unusedSimpArgs false
def dormouselaw16_choose.f (k : Nat) (l0_0 : List (S45)) (l0_1 : List (S59)) (l0_2 : List (S62)) (a0_3 : Int) (a0_4 : Int) (a0_5 : Int) (a0_6 : Int) (a0_7 : Int) (a0_8 : Int) (a1_0 : Int) (a1_1 : Int) (a1_2 : Int) (a1_3 : Int) (a1_4 : Int) : Option (Int) := (govern_Choose.f k l0_0 l0_1 l0_2 a0_3 a0_4 a0_5 a0_6 a0_7 a0_8 a1_0 a1_1 a1_2 a1_3 a1_4).bind fun t157 => (some t157)
set_option maxHeartbeats 8000000 in
set_option maxRecDepth 100000 in
theorem dormouselaw16_choose.calls (k : Nat) (A0_0 : Option Addr) (c0_0 : Nat) (l0_0 : List (S45)) (A0_1 : Option Addr) (c0_1 : Nat) (l0_1 : List (S59)) (A0_2 : Option Addr) (c0_2 : Nat) (l0_2 : List (S62)) (a0_3 : Int) (a0_4 : Int) (a0_5 : Int) (a0_6 : Int) (a0_7 : Int) (a0_8 : Int) (a1_0 : Int) (a1_1 : Int) (a1_2 : Int) (a1_3 : Int) (a1_4 : Int) (r : Int) (w : World) (hr0_0 : Kd.C k45 w A0_0 l0_0.length l0_0) (hc0_0 : l0_0.length ≤ c0_0) (hr0_1 : Kd.C k59 w A0_1 l0_1.length l0_1) (hc0_1 : l0_1.length ≤ c0_1) (hr0_2 : Kd.C k62 w A0_2 l0_2.length l0_2) (hc0_2 : l0_2.length ≤ c0_2) (h : dormouselaw16_choose.f k l0_0 l0_1 l0_2 a0_3 a0_4 a0_5 a0_6 a0_7 a0_8 a1_0 a1_1 a1_2 a1_3 a1_4 = some r) :
    Calls Try.prog 16 #[.agg #[.slice A0_0 l0_0.length c0_0, .slice A0_1 l0_1.length c0_1, .slice A0_2 l0_2.length c0_2, .int .i64 a0_3, .int .i64 a0_4, .int .i64 a0_5, .int .i64 a0_6, .int .i64 a0_7, .int .i64 a0_8], .agg #[.int .i64 a1_0, .int .i64 a1_1, .int .i64 a1_2, .int .i64 a1_3, .int .i64 a1_4]] w fun e w' => e = .returned (.int .i64 r) ∧ Below w.heap.size w w' := by
  have hu38 := Try.underlying38
  have hu40 := Try.underlying40
  have HR0_0 := Aside0.mk hr0_0
  have HC0_0 := Aside0.mk hc0_0
  clear hr0_0 hc0_0
  have HR0_1 := Aside0.mk hr0_1
  have HC0_1 := Aside0.mk hc0_1
  clear hr0_1 hc0_1
  have HR0_2 := Aside0.mk hr0_2
  have HC0_2 := Aside0.mk hc0_2
  clear hr0_2 hc0_2
  have HB := Aside0.mk (Below.refl w.heap.size w)
  have H : ((govern_Choose.f k l0_0 l0_1 l0_2 a0_3 a0_4 a0_5 a0_6 a0_7 a0_8 a1_0 a1_1 a1_2 a1_3 a1_4).bind fun t157 => (some t157)) = some r := h
  clear h
  replace H := Option.bind_eq_some_iff.mp H
  obtain ⟨t157, A30, H⟩ := H
  replace H : (some t157) = some r := H
  have A3 := Aside0.mk A30
  clear A30
  obtain rfl := Option.some.inj H
  go_enter Try.func16, Try.ntmps16
  go_wp2_with (first | ((with_reducible refine gate_dst (N := 2) rfl ?_); refine box_event ?hg (N := 2) ?hd (cs := #[.slice A0_0 l0_0.length c0_0, .slice A0_1 l0_1.length c0_1, .slice A0_2 l0_2.length c0_2, .int .i64 a0_3, .int .i64 a0_4, .int .i64 a0_5, .int .i64 a0_6, .int .i64 a0_7, .int .i64 a0_8]) (t := 38) ?hr ?_; (case hd => rfl); (case hg => rfl); (case hr => first | (go_simp; done) | (go_simp; rfl)); intro gb155 hg w4 hbox hb; have n0_ := Aside0.mk (below_step (by repeat (first | (with_reducible first | exact HB.out | apply below_alloc | apply pw_below_drewN | apply below_drew1) | exact HB.out)) hb); have n1_ := Aside0.mk (hbox); have n2_ := Aside0.mk ((by rw [hg]; exact (below_size (by repeat (first | (with_reducible first | exact HB.out | apply below_alloc | apply pw_below_drewN | apply below_drew1) | exact HB.out))) : w.heap.size ≤ gb155)); have n3_ := Aside0.mk ((by rw [hg]; exact (below_size (by repeat (first | (with_reducible first | exact HB.out | apply below_alloc | apply pw_below_drewN | apply below_drew1) | exact HB.out))) : w.heap.size ≤ gb155)); clear HB; have HB := n0_; have BK155 := n1_; have GW155 := n2_; have GE155 := n3_; clear n0_ n1_ n2_ n3_; clear hb hbox hg) | ((with_reducible refine gate_dst (N := 3) rfl ?_); refine box_event ?hg (N := 3) ?hd (cs := #[.int .i64 a1_0, .int .i64 a1_1, .int .i64 a1_2, .int .i64 a1_3, .int .i64 a1_4]) (t := 40) ?hr ?_; (case hd => rfl); (case hg => rfl); (case hr => first | (go_simp; done) | (go_simp; rfl)); intro gb156 hg w5 hbox hb; have n0_ := Aside0.mk (blk_below (g := gb155) (o := .cells #[.slice A0_0 l0_0.length c0_0, .slice A0_1 l0_1.length c0_1, .slice A0_2 l0_2.length c0_2, .int .i64 a0_3, .int .i64 a0_4, .int .i64 a0_5, .int .i64 a0_6, .int .i64 a0_7, .int .i64 a0_8] 38 (0, 0)) (by (with_reducible repeat (first | refine blk_drewN ?_ _ | refine blk_drew ?_ | refine blk_alloc ?_ _)); exact BK155.out) hb); have n1_ := Aside0.mk (below_step (by repeat (first | (with_reducible first | exact HB.out | apply below_alloc | apply pw_below_drewN | apply below_drew1 | refine below_set ?_ GE155.out) | exact HB.out)) hb); have n2_ := Aside0.mk (hbox); have n3_ := Aside0.mk ((by rw [hg]; exact (below_size (by repeat (first | (with_reducible first | exact HB.out | apply below_alloc | apply pw_below_drewN | apply below_drew1 | refine below_set ?_ GE155.out) | exact HB.out))) : w.heap.size ≤ gb156)); have n4_ := Aside0.mk ((by rw [hg]; exact (below_size (by repeat (first | (with_reducible first | exact HB.out | apply below_alloc | apply pw_below_drewN | apply below_drew1 | refine below_set ?_ GE155.out) | exact HB.out))) : w.heap.size ≤ gb156)); have n5_ := Aside0.mk ((by rw [hg]; exact Nat.ne_of_lt (blk_lt (g := gb155) (o := .cells #[.slice A0_0 l0_0.length c0_0, .slice A0_1 l0_1.length c0_1, .slice A0_2 l0_2.length c0_2, .int .i64 a0_3, .int .i64 a0_4, .int .i64 a0_5, .int .i64 a0_6, .int .i64 a0_7, .int .i64 a0_8] 38 (0, 0)) (by (with_reducible repeat (first | refine blk_drewN ?_ _ | refine blk_drew ?_ | refine blk_alloc ?_ _)); exact BK155.out)) : gb155 ≠ gb156)); have n6_ := Aside0.mk ((by rw [hg]; exact Nat.ne_of_gt (blk_lt (g := gb155) (o := .cells #[.slice A0_0 l0_0.length c0_0, .slice A0_1 l0_1.length c0_1, .slice A0_2 l0_2.length c0_2, .int .i64 a0_3, .int .i64 a0_4, .int .i64 a0_5, .int .i64 a0_6, .int .i64 a0_7, .int .i64 a0_8] 38 (0, 0)) (by (with_reducible repeat (first | refine blk_drewN ?_ _ | refine blk_drew ?_ | refine blk_alloc ?_ _)); exact BK155.out)) : gb156 ≠ gb155)); clear BK155; clear HB; have BK155 := n0_; have HB := n1_; have BK156 := n2_; have GW156 := n3_; have GE156 := n4_; have NB155_156 := n5_; have NB156_155 := n6_; clear n0_ n1_ n2_ n3_ n4_ n5_ n6_; clear hb hbox hg; have hnb6 := NB155_156.out; have hnc6 := NB156_155.out; have hcz7_0 : w5.cell? ⟨gb155, 0, none⟩ = some (.slice A0_0 l0_0.length c0_0) := (blk_cell BK155.out 0).trans rfl; have hcz7_1 : w5.cell? ⟨gb155, 1, none⟩ = some (.slice A0_1 l0_1.length c0_1) := (blk_cell BK155.out 1).trans rfl; have hcz7_2 : w5.cell? ⟨gb155, 2, none⟩ = some (.slice A0_2 l0_2.length c0_2) := (blk_cell BK155.out 2).trans rfl; have hcz7_3 : w5.cell? ⟨gb155, 3, none⟩ = some (.int .i64 a0_3) := (blk_cell BK155.out 3).trans rfl; have hcz7_4 : w5.cell? ⟨gb155, 4, none⟩ = some (.int .i64 a0_4) := (blk_cell BK155.out 4).trans rfl; have hcz7_5 : w5.cell? ⟨gb155, 5, none⟩ = some (.int .i64 a0_5) := (blk_cell BK155.out 5).trans rfl; have hcz7_6 : w5.cell? ⟨gb155, 6, none⟩ = some (.int .i64 a0_6) := (blk_cell BK155.out 6).trans rfl; have hcz7_7 : w5.cell? ⟨gb155, 7, none⟩ = some (.int .i64 a0_7) := (blk_cell BK155.out 7).trans rfl; have hcz7_8 : w5.cell? ⟨gb155, 8, none⟩ = some (.int .i64 a0_8) := (blk_cell BK155.out 8).trans rfl; have hfz7_0 := blk_frozen BK155.out 0; have hfz7_1 := blk_frozen BK155.out 1; have hfz7_2 := blk_frozen BK155.out 2; have hfz7_3 := blk_frozen BK155.out 3; have hfz7_4 := blk_frozen BK155.out 4; have hfz7_5 := blk_frozen BK155.out 5; have hfz7_6 := blk_frozen BK155.out 6; have hfz7_7 := blk_frozen BK155.out 7; have hfz7_8 := blk_frozen BK155.out 8; have hcz8_0 : w5.cell? ⟨gb156, 0, none⟩ = some (.int .i64 a1_0) := (blk_cell BK156.out 0).trans rfl; have hcz8_1 : w5.cell? ⟨gb156, 1, none⟩ = some (.int .i64 a1_1) := (blk_cell BK156.out 1).trans rfl; have hcz8_2 : w5.cell? ⟨gb156, 2, none⟩ = some (.int .i64 a1_2) := (blk_cell BK156.out 2).trans rfl; have hcz8_3 : w5.cell? ⟨gb156, 3, none⟩ = some (.int .i64 a1_3) := (blk_cell BK156.out 3).trans rfl; have hcz8_4 : w5.cell? ⟨gb156, 4, none⟩ = some (.int .i64 a1_4) := (blk_cell BK156.out 4).trans rfl; have hfz8_0 := blk_frozen BK156.out 0; have hfz8_1 := blk_frozen BK156.out 1; have hfz8_2 := blk_frozen BK156.out 2; have hfz8_3 := blk_frozen BK156.out 3; have hfz8_4 := blk_frozen BK156.out 4) | ((with_reducible refine gate_callee (f := 24) rfl ?_); refine goesL_ (some 16) rfl rfl Try.func24 (by kernel_rfl) rfl #[.agg #[.slice A0_0 l0_0.length c0_0, .slice A0_1 l0_1.length c0_1, .slice A0_2 l0_2.length c0_2, .int .i64 a0_3, .int .i64 a0_4, .int .i64 a0_5, .int .i64 a0_6, .int .i64 a0_7, .int .i64 a0_8], .int .i64 a1_0, .int .i64 a1_1, .int .i64 a1_2, .int .i64 a1_3, .int .i64 a1_4] rfl (by (try simp only [List.map_toArray, List.map_cons, List.map_nil]); first | done | rfl | (simp only [List.length_drop, List.length_take]; rfl)) ?_; (with_reducible refine (govern_Choose.calls k _ _ l0_0 _ _ l0_1 _ _ l0_2 a0_3 a0_4 a0_5 a0_6 a0_7 a0_8 a1_0 a1_1 a1_2 a1_3 a1_4 t157 _ ?side1 ?side2 ?side3 ?side4 ?side5 ?side6 A3.out).mono ?_); (case side1 => repeat (first | exact (Kd.C_below HR0_0.out HB.out) | (with_reducible refine Kd.C_alloc ?_ _) | (with_reducible refine Kd.C_drewN ?_ _) | (with_reducible refine Kd.C_drew ?_))); (case side2 => exact HC0_0.out); (case side3 => repeat (first | exact (Kd.C_below HR0_1.out HB.out) | (with_reducible refine Kd.C_alloc ?_ _) | (with_reducible refine Kd.C_drewN ?_ _) | (with_reducible refine Kd.C_drew ?_))); (case side4 => exact HC0_1.out); (case side5 => repeat (first | exact (Kd.C_below HR0_2.out HB.out) | (with_reducible refine Kd.C_alloc ?_ _) | (with_reducible refine Kd.C_drewN ?_ _) | (with_reducible refine Kd.C_drew ?_))); (case side6 => exact HC0_2.out); rintro e w9 ⟨rfl, hb⟩; refine ⟨_, rfl, ?_⟩; have n0_ := Aside0.mk (blk_below (g := gb155) (o := .cells #[.slice A0_0 l0_0.length c0_0, .slice A0_1 l0_1.length c0_1, .slice A0_2 l0_2.length c0_2, .int .i64 a0_3, .int .i64 a0_4, .int .i64 a0_5, .int .i64 a0_6, .int .i64 a0_7, .int .i64 a0_8] 38 (0, 0)) (by (with_reducible repeat (first | refine blk_drewN ?_ _ | refine blk_drew ?_ | refine blk_alloc ?_ _)); exact BK155.out) hb); have n1_ := Aside0.mk (blk_below (g := gb156) (o := .cells #[.int .i64 a1_0, .int .i64 a1_1, .int .i64 a1_2, .int .i64 a1_3, .int .i64 a1_4] 40 (0, 0)) (by (with_reducible repeat (first | refine blk_drewN ?_ _ | refine blk_drew ?_ | refine blk_alloc ?_ _)); exact BK156.out) hb); have n2_ := Aside0.mk (below_step (by repeat (first | (with_reducible first | exact HB.out | apply below_alloc | apply pw_below_drewN | apply below_drew1 | refine below_set ?_ GE155.out | refine below_set ?_ GE156.out) | exact HB.out)) hb); clear BK155; clear BK156; clear HB; have BK155 := n0_; have BK156 := n1_; have HB := n2_; clear n0_ n1_ n2_; (try clear hb); (try clear hb2); (try clear hk); (try clear hi)))
  go_ret
  exact ⟨by first | rfl | (simp [errW_none, errW_some] <;> rfl) | (simp [*, errW_none, errW_some] <;> rfl), by repeat (first | (with_reducible first | exact HB.out | apply below_alloc | apply pw_below_drewN | apply below_drew1 | refine below_set ?_ GE155.out | refine below_set ?_ GE156.out) | exact HB.out)⟩
end Go.Proofs.Ytijlfnjfjmhdiaa.F
namespace Go.Proofs.Ytijlfnjfjmhdiaa.F
open Go.RowKit Go.Proofs.YtijlfnjfjmhdiaaW.PrintWords Go.Proofs.YtijlfnjfjmhdiaaW.PrintLast Go.Proofs.YtijlfnjfjmhdiaaW.PrintMore
attribute [local go_sem] max2_int min2_int max_two min_two max_three min_three max_four min_four   -- for this text's walks alone
set_option linter.unusedVariables false
set_option linter.unusedSimpArgs false
def dormouseref01_Max.f (a0 : Int) (a1 : Int) : Option (Int) := if a0 > a1 then (some a0) else (some a1)
set_option maxHeartbeats 8000000 in
set_option maxRecDepth 100000 in
theorem dormouseref01_Max.calls (a0 : Int) (a1 : Int) (r : Int) (w : World) (h : dormouseref01_Max.f a0 a1 = some r) :
    Calls Try.prog 19 #[.int .i64 a0, .int .i64 a1] w fun e w' => e = .returned (.int .i64 r) ∧ Drawn0 w w' := by
  have H : (if a0 > a1 then (some a0) else (some a1)) = some r := h
  clear h
  by_cases c3 : a0 > a1
  · rw [if_pos c3] at H
    have c3b0 : decide (a1 < a0) = true := decide_eq_true c3
    clear c3
    obtain rfl := Option.some.inj H
    go_enter Try.func19, Try.ntmps19
    go_wp2
    go_ret
    exact ⟨by first | rfl | (simp; done) | (simp [*]; done), by repeat (first | exact Drawn0.refl _ | apply Drawn0.step)⟩
  · rw [if_neg c3] at H
    have c3b0 : decide (a1 < a0) = false := decide_eq_false c3
    clear c3
    obtain rfl := Option.some.inj H
    go_enter Try.func19, Try.ntmps19
    go_wp2
    go_ret
    exact ⟨by first | rfl | (simp; done) | (simp [*]; done), by repeat (first | exact Drawn0.refl _ | apply Drawn0.step)⟩
end Go.Proofs.Ytijlfnjfjmhdiaa.F
namespace Go.Proofs.Ytijlfnjfjmhdiaa.Gov
open Go.RowKit Go.Proofs.Ytijlfnjfjmhdiaa.F Go.Proofs.Ytijlfnjfjmhdiaa.Tbl Go.Proofs.YtijlfnjfjmhdiaaW.PrintWords Go.Proofs.YtijlfnjfjmhdiaaW.PrintLast
/-- The last number up to N, from 1 on, that is all right; 0: none is. -/
def pick (ok : Int → Bool) : Nat → Int
  | 0 => 0
  | n + 1 => if ok ((n : Int) + 1) = true then (n : Int) + 1 else pick ok n
theorem pick_bd (ok : Int → Bool) : ∀ N : Nat, 0 ≤ pick ok N ∧ pick ok N ≤ N
  | 0 => by simp [pick]
  | n + 1 => by
    have := pick_bd ok n
    unfold pick
    split <;> omega
theorem pick_ok (ok : Int → Bool) : ∀ N : Nat, pick ok N = 0 ∨ ok (pick ok N) = true
  | 0 => .inl rfl
  | n + 1 => by
    unfold pick
    split
    · rename_i h; exact .inr h
    · exact pick_ok ok n
theorem pick_ge {ok : Int → Bool} {N : Nat} {m : Int} (h0 : 0 < m) (h : m ≤ N) (hm : ok m = true) : m ≤ pick ok N := by
  induction N with
  | zero => omega
  | succ n ih =>
    unfold pick
    by_cases e : ok ((n : Int) + 1) = true
    · rw [if_pos e]; omega
    · rw [if_neg e]
      apply ih
      by_cases e2 : m = (n : Int) + 1
      · subst e2; exact absurd hm e
      · omega
theorem pick_mono {ok ok' : Int → Bool} {N N' : Nat} (hN : N ≤ N') (h : ∀ m : Int, 0 < m → m ≤ N → ok m = true → ok' m = true) : pick ok N ≤ pick ok' N' := by
  rcases pick_ok ok N with h0 | h0
  · rw [h0]; exact (pick_bd ok' N').1
  · by_cases hz : pick ok N = 0
    · rw [hz]; exact (pick_bd ok' N').1
    · have hb := pick_bd ok N
      exact pick_ge (by omega) (by omega) (h _ (by omega) hb.2 h0)
section
variable {l0 : List S45} {l1 : List S59} {l2 : List S62} {idle crit sw swE sems hor : Int}
/-- what level n costs more than the first one, for so many cycles, from a level on -/
def cost (l0 : List S45) (sw left level n : Int) : Int := left * ((rd_T45 l0 n).f0 - (rd_T45 l0 0).f0) + if n = level then 0 else sw
def fits (l0 : List S45) (sw left slack level : Int) (n : Int) : Bool := decide (cost l0 sw left level n * 4294967296 ≤ slack)
theorem rises (h : TableOk l0 l1 l2 idle crit sw swE sems hor) : ∀ (d : Nat) (i : Int), 0 ≤ i → i + d < l0.length → (rd_T45 l0 i).f0 ≤ (rd_T45 l0 (i + d)).f0
  | 0, i, _, _ => by simp
  | d + 1, i, h0, h1 => by
    have := rises h d i h0 (by omega)
    have hl := (h.levels (i + (d + 1 : Nat)) (by omega) (by omega)).2.1 (by omega)
    rw [show i + ((d + 1 : Nat) : Int) - 1 = i + (d : Int) from by omega] at hl
    omega
theorem above (h : TableOk l0 l1 l2 idle crit sw swE sems hor) {n : Int} (h0 : 0 ≤ n) (h1 : n < l0.length) : 0 ≤ (rd_T45 l0 n).f0 - (rd_T45 l0 0).f0 ∧ (rd_T45 l0 n).f0 - (rd_T45 l0 0).f0 ≤ 255 := by
  have a := rises h n.toNat 0 (by omega) (by omega)
  rw [show (0 : Int) + (n.toNat : Int) = n from by omega] at a
  have b := (h.levels n h0 h1).1
  have c := (h.levels 0 (by omega) (by omega)).1
  omega
theorem cost_bd (h : TableOk l0 l1 l2 idle crit sw swE sems hor) {left level n : Int} (hl0 : 0 ≤ left) (hl1 : left ≤ 8192) (h0 : 0 ≤ n) (h1 : n < l0.length) :
    0 ≤ left * ((rd_T45 l0 n).f0 - (rd_T45 l0 0).f0) ∧ left * ((rd_T45 l0 n).f0 - (rd_T45 l0 0).f0) ≤ 2088960 ∧ 0 ≤ cost l0 sw left level n ∧ cost l0 sw left level n ≤ 2089216 := by
  have a := above h h0 h1
  have m0 : 0 ≤ left * ((rd_T45 l0 n).f0 - (rd_T45 l0 0).f0) := Int.mul_nonneg hl0 a.1
  have m1 : left * ((rd_T45 l0 n).f0 - (rd_T45 l0 0).f0) ≤ 8192 * 255 := Int.mul_le_mul hl1 a.2 a.1 (by omega)
  have hs := h.head
  unfold Head at hs
  unfold cost
  split <;> omega
theorem whole_some {n : Int} (h0 : 0 ≤ n) (h1 : n ≤ 1073741824) : fix_Whole.f n = some (n * 4294967296) := by
  unfold fix_Whole.f fix_clamp_int.f mn mx
  rw [if_neg (by omega), if_neg (by omega), Option.bind_some, w64 (by omega) (by omega)]
/-- the slowest level that a policy lets be -/
def limit (crit policy static : Int) : Int := if policy = 1 ∨ policy = 3 then mn (mx static 0) crit else if policy = 2 then crit else 0
theorem limit_bd (hc : 0 ≤ crit) (policy static : Int) : 0 ≤ limit crit policy static ∧ limit crit policy static ≤ crit := by
  unfold limit mn mx; (repeat' split) <;> omega
theorem limit_some (policy static : Int) (k : Nat) : govern_limit.f (k + 1) l0 l1 l2 idle crit sw swE sems hor policy static = some (limit crit policy static) := by
  unfold govern_limit.f
  simp only [govern_limit.j0]
  unfold limit
  by_cases h1 : policy = 1
  · rw [if_pos h1, if_pos (by simp [h1]), if_pos (.inl h1)]
  · rw [if_neg h1]
    by_cases h3 : policy = 3
    · rw [if_pos (by simp [h3]), if_pos (.inr h3)]
    · rw [if_neg (by simp [h3]), if_neg (show ¬ (policy = 1 ∨ policy = 3) by omega)]
      by_cases h2 : policy = 2
      · rw [if_pos h2, if_pos h2]
      · rw [if_neg h2, if_neg h2]
theorem down_some (h : TableOk l0 l1 l2 idle crit sw swE sems hor) {left slack level : Int} (hl0 : 0 ≤ left) (hl1 : left ≤ 8192) :
    ∀ (N : Nat), (N : Int) < l0.length → ∀ k, N < k → govern_Choose.l0 k left slack level N l0 l1 l2 idle crit sw swE sems hor = some (pick (fits l0 sw left slack level) N) := by
  have hh := h.head
  unfold Head at hh
  intro N
  induction N with
  | zero =>
    intro _ k hk
    obtain ⟨k, rfl⟩ : ∃ m, k = m + 1 := ⟨k - 1, by omega⟩
    simp only [govern_Choose.l0]
    rw [if_neg (by omega)]; rfl
  | succ n ih =>
    intro hN k hk
    obtain ⟨k, rfl⟩ : ∃ m, k = m + 1 := ⟨k - 1, by omega⟩
    have ih' := ih (by omega) k (by omega)
    have c := cost_bd h (level := level) hl0 hl1 (show 0 ≤ ((n + 1 : Nat) : Int) by omega) hN
    have a := above h (show 0 ≤ ((n + 1 : Nat) : Int) by omega) hN
    simp only [govern_Choose.l0]
    rw [if_pos (by omega), if_pos (by omega), if_pos (by omega), if_pos (by omega)]
    rw [w64 (n := (rd_T45 l0 ((n + 1 : Nat) : Int)).f0 - (rd_T45 l0 0).f0) (by omega) (by omega), w64 (n := left * ((rd_T45 l0 ((n + 1 : Nat) : Int)).f0 - (rd_T45 l0 0).f0)) (by omega) (by omega)]
    rw [w64 (n := ((n + 1 : Nat) : Int) - 1) (by omega) (by omega), show ((n + 1 : Nat) : Int) - 1 = (n : Int) from by omega, ih']
    have hp : pick (fits l0 sw left slack level) (n + 1) = if fits l0 sw left slack level ((n + 1 : Nat) : Int) = true then ((n + 1 : Nat) : Int) else pick (fits l0 sw left slack level) n := by
      conv => lhs; unfold pick
      rfl
    rw [hp]
    unfold fits
    by_cases e : ((n + 1 : Nat) : Int) = level
    · have ce : cost l0 sw left level ((n + 1 : Nat) : Int) = left * ((rd_T45 l0 ((n + 1 : Nat) : Int)).f0 - (rd_T45 l0 0).f0) := by unfold cost; rw [if_pos e]; omega
      rw [if_pos e, whole_some (by omega) (by omega), Option.bind_some, ← ce]
      by_cases f : cost l0 sw left level ((n + 1 : Nat) : Int) * 4294967296 ≤ slack
      · rw [if_pos f, if_pos (by simpa using f)]
      · rw [if_neg f, if_neg (by simpa using f)]
    · have ce : cost l0 sw left level ((n + 1 : Nat) : Int) = left * ((rd_T45 l0 ((n + 1 : Nat) : Int)).f0 - (rd_T45 l0 0).f0) + sw := by unfold cost; rw [if_neg e]
      rw [if_neg e, w64 (by omega) (by omega), whole_some (by omega) (by omega), Option.bind_some, ← ce]
      by_cases f : cost l0 sw left level ((n + 1 : Nat) : Int) * 4294967296 ≤ slack
      · rw [if_pos f, if_pos (by simpa using f)]
      · rw [if_neg f, if_neg (by simpa using f)]
/-- What Choose tells. -/
def fast (l0 : List S45) (crit sw policy static left slack level : Int) : Int := pick (fits l0 sw left slack level) (limit crit policy static).toNat
theorem choose_some (h : TableOk l0 l1 l2 idle crit sw swE sems hor) (policy static : Int) {left slack level : Int} (hl0 : 0 ≤ left) (hl1 : left ≤ 8192) :
    dormouselaw16_choose.f 10 l0 l1 l2 idle crit sw swE sems hor policy static left slack level = some (fast l0 crit sw policy static left slack level) := by
  have hh := h.head
  unfold Head at hh
  have a := limit_bd (show 0 ≤ crit by omega) policy static
  unfold dormouselaw16_choose.f govern_Choose.f
  rw [limit_some, Option.bind_some]
  have := down_some h hl0 hl1 (slack := slack) (level := level) (limit crit policy static).toNat (by omega) 10 (by omega)
  rw [show (((limit crit policy static).toNat : Nat) : Int) = limit crit policy static from by omega] at this
  rw [this, Option.bind_some]; rfl
theorem max_some (a b : Int) : dormouseref01_Max.f a b = some (mx a b) := by unfold dormouseref01_Max.f mx; (repeat' split) <;> first | rfl | (congr 1; omega) | (exfalso; omega)
end
end Go.Proofs.Ytijlfnjfjmhdiaa.Gov
namespace Go.Proofs.Ytijlfnjfjmhdiaa.Opn
open Go.RowKit Go.ChangeShapes Go.WideShapes Go.Deep Go.Proofs.YtijlfnjfjmhdiaaW.PrintWords Go.Proofs.YtijlfnjfjmhdiaaW.PrintLast
/-- What reads as data of type t has cells of the kind d, and is all right. -/
def Opens (P : Program) (t : TypeId) {α : Type} (d : Kd α) (ok : α → Prop) : Prop :=
  ∀ (H : Type) (enc : TypeId × Value → H) (w : World) (base : Nat) (spare : Nat → Bool) (held : Bool) (fuel : Nat) (cs : List Value) (x : DataW H × List MemPlace),
    DataW.trod enc P w base spare held fuel t cs = some x → ∃ a : α, d.K w a cs ∧ ok a
/-- Fields in line, from an offset on. -/
def OpensF (P : Program) (fs : List Field) (o : Nat) {α : Type} (d : Kd α) (ok : α → Prop) : Prop :=
  ∀ (H : Type) (enc : TypeId × Value → H) (w : World) (base : Nat) (spare : Nat → Bool) (held : Bool) (fuel : Nat) (cs : List Value),
    cs.length = o + d.sz → (∀ f ∈ fs, ∃ x, DataW.trod enc P w base spare held fuel f.type ((cs.drop f.offset).take (P.cellsOf f.type)) = some x) → ∃ a : α, d.K w a (cs.drop o) ∧ ok a
section
variable {P : Program} {t e : TypeId} {α β : Type}
theorem opens_int {k : IntKind} (ht : P.underlying t = some (.int k)) : Opens P t (Kd.int k) (fun n => (Lit.int k n).wf = true) := by
  intro H enc w base spare held fuel cs x h
  obtain ⟨n, rfl, _, hw⟩ := DataW.trod_int ht h
  exact ⟨n, rfl, hw⟩
theorem opens_slice {d : Kd α} {ok : α → Prop} [Inhabited α] (ht : P.underlying t = some (.slice e)) (hc : P.cellsOf e = d.sz) (he : Opens P e d ok) :
    Opens P t (Kd.slice e d) (fun xs => ∀ x ∈ xs, ok x) := by
  intro H enc w base spare held fuel cs x h
  rcases open_slice ht h with ⟨rfl, _⟩ | ⟨a, len, cap, m, n, D, Pl, rfl, hb, hl, hm, hmm, rfl, hx⟩
  · exact ⟨[], ⟨none, 0, rfl, Nat.le_refl _, rfl, by simp, fun h => absurd h (Nat.lt_irrefl _)⟩, fun x hx => by cases hx⟩
  · have hlm : len ≤ m := by rw [hmm]; split <;> omega
    have each : ∀ i, i < len → ∃ v : α, (∃ cs', w.cells? base (a.add (i * P.cellsOf e)) (P.cellsOf e) = some cs' ∧ d.K w v cs') ∧ ok v := by
      intro i hi
      obtain ⟨cs', h1, h2⟩ := hx i (by omega)
      obtain ⟨v, hv, hok⟩ := he H enc w base spare held n cs' _ h2
      exact ⟨v, ⟨cs', h1, hv⟩, hok⟩
    obtain ⟨V, hV⟩ := choose_lt each
    refine ⟨(List.range len).map V, ⟨some a, cap, by simp, by simpa using hl, by simp, ?_, fun _ => ⟨a, rfl, ?_⟩⟩, ?_⟩
    · have : cap ≤ maxLen := hm
      unfold maxLen at this
      simp; omega
    · intro j p hj
      have hjl : j < len := by
        have := (List.getElem?_eq_some_iff.1 hj).1
        simpa using this
      have hp : p = V j := by
        rw [List.getElem?_map, List.getElem?_range hjl] at hj
        simpa using hj.symm
      subst hp
      obtain ⟨⟨cs', h1, h2⟩, _⟩ := hV j hjl
      obtain ⟨_, hlen, hcell⟩ := World.cells?_some h1
      refine ⟨cs', by rw [hlen, hc], h2, fun i u hu => ?_⟩
      have hi : i < P.cellsOf e := by
        have := (List.getElem?_eq_some_iff.1 hu).1
        omega
      have := hcell i hi
      rw [Go.Deep.add_add] at this
      rw [hc] at this
      rw [this, hu]
    · intro x hx
      obtain ⟨i, hi, rfl⟩ := List.mem_map.1 hx
      exact (hV i (List.mem_range.1 hi)).2
theorem opensF_one {f : Field} {o : Nat} {d : Kd α} {ok : α → Prop} (ho : f.offset = o) (hc : P.cellsOf f.type = d.sz) (h : Opens P f.type d ok) : OpensF P [f] o d ok := by
  intro H enc w base spare held fuel cs hl hx
  obtain ⟨x, hx⟩ := hx f (by simp)
  have e : (cs.drop f.offset).take (P.cellsOf f.type) = cs.drop o := by
    rw [ho, hc]; apply List.take_of_length_le; simp; omega
  rw [e] at hx
  exact h H enc w base spare held fuel _ x hx
theorem opensF_cons {f : Field} {fs : List Field} {o : Nat} {d : Kd α} {ok : α → Prop} {d' : Kd β} {ok' : β → Prop} (ho : f.offset = o) (hc : P.cellsOf f.type = d.sz) (h : Opens P f.type d ok)
    (hs : OpensF P fs (o + d.sz) d' ok') : OpensF P (f :: fs) o (Kd.pair d d') (fun x => ok x.1 ∧ ok' x.2) := by
  intro H enc w base spare held fuel cs hl hx
  have hl' : cs.length = o + d.sz + d'.sz := by
    have : (Kd.pair d d').sz = d.sz + d'.sz := rfl
    omega
  obtain ⟨b, hb, hob⟩ := hs H enc w base spare held fuel cs hl' (fun f' hf' => hx f' (List.mem_cons_of_mem _ hf'))
  obtain ⟨x, hx⟩ := hx f (by simp)
  rw [ho, hc] at hx
  obtain ⟨a, ha, hoa⟩ := h H enc w base spare held fuel _ x hx
  refine ⟨(a, b), ⟨(cs.drop o).take d.sz, cs.drop (o + d.sz), ?_, ha, hb⟩, hoa, hob⟩
  rw [← List.drop_drop, List.take_append_drop]
theorem opens_struct {fs : Array Field} {d : Kd α} {ok : α → Prop} (ht : P.underlying t = some (.struct fs)) (hc : P.cellsOf t = d.sz) (h : OpensF P fs.toList 0 d ok) : Opens P t d ok := by
  intro H enc w base spare held fuel cs x hx
  obtain ⟨xs, n, _, _, hl, hlen, hf⟩ := DataW.trod_struct ht hx
  have := h H enc w base spare held n cs (by rw [hl, hc]; omega) (fun f hfm => by
    obtain ⟨i, hi⟩ := List.getElem?_of_mem hfm
    have hi' : fs[i]? = some f := by simpa using hi
    have h1 := hf i f hi'
    have hil : i < xs.length := by
      rw [hlen]
      have := (List.getElem?_eq_some_iff.1 hi).1
      simpa using this
    rw [List.getElem?_eq_getElem hil] at h1
    exact ⟨_, h1⟩)
  simpa using this
theorem opens_iso {d : Kd α} {ok : α → Prop} {f : β → α} (g : α → β) (hfg : ∀ x, f (g x) = x) (h : Opens P t d ok) : Opens P t (Kd.iso d f) (fun x => ok (f x)) := by
  intro H enc w base spare held fuel cs x hx
  obtain ⟨a, ha, hok⟩ := h H enc w base spare held fuel cs x hx
  refine ⟨g a, ?_, by show ok (f (g a)); rw [hfg]; exact hok⟩
  show d.K w (f (g a)) cs
  rw [hfg]; exact ha
theorem opens_imp {d : Kd α} {ok ok' : α → Prop} (h : Opens P t d ok) (hi : ∀ x, ok x → ok' x) : Opens P t d ok' := by
  intro H enc w base spare held fuel cs x hx
  obtain ⟨a, ha, hok⟩ := h H enc w base spare held fuel cs x hx
  exact ⟨a, ha, hi _ hok⟩
/-- An argument: its cells. -/
theorem Opens.get {d : Kd α} {ok : α → Prop} (h : Opens P t d ok) {H : Type} {enc : TypeId × Value → H} {w : World} {base : Nat} {spare : Nat → Bool} {held : Bool} {v : Value} {x : DataW H} {ps : List MemPlace}
    (hv : DataW.Trod enc P w base spare held t v x ps) : ∃ a : α, d.K w a v.cells.toList ∧ ok a := by
  obtain ⟨fuel, hf⟩ := hv
  exact h H enc w base spare held fuel _ _ hf
/-- An argument that is a struct is its cells. -/
theorem agg_of {fs : Array Field} {w : World} {r : Reach} {base : Nat} {v : Value} (ht : P.underlying t = some (.struct fs)) (h : Value.okWide P w r base t v) : ∃ cs : List Value, v = .agg cs.toArray ∧ v.cells.toList = cs := by
  unfold Value.okWide at h
  rw [ht] at h
  obtain ⟨cs, rfl, _, _⟩ := h
  exact ⟨cs.toList, by simp, by simp [Value.cells]⟩
end
end Go.Proofs.Ytijlfnjfjmhdiaa.Opn
namespace Go.Proofs.Ytijlfnjfjmhdiaa.Opn
open Go.RowKit Go.ChangeShapes Go.WideShapes Go.Deep Go.Proofs.YtijlfnjfjmhdiaaW.PrintWords Go.Proofs.YtijlfnjfjmhdiaaW.PrintLast Go.Proofs.Ytijlfnjfjmhdiaa.F
instance : Inhabited S45 := ⟨z45⟩
instance : Inhabited S59 := ⟨z59⟩
instance : Inhabited S62 := ⟨z62⟩
theorem oInt : Opens Try.prog 3 (Kd.int .i64) (fun n => (Lit.int .i64 n).wf = true) := opens_int Try.underlying3
theorem oAny : Opens Try.prog 3 (Kd.int .i64) (fun _ => True) := opens_imp oInt (fun _ _ => trivial)
theorem oLevel : Opens Try.prog 45 k45 (fun _ => True) :=
  opens_imp (opens_iso (f := fun x : S45 => (x.f0, x.f1)) (fun x => ⟨x.1, x.2⟩) (fun _ => rfl) (opens_struct Try.underlying45 (by kernel_rfl) (opensF_cons rfl (by kernel_rfl) oAny (opensF_one rfl (by kernel_rfl) oAny)))) (fun _ _ => trivial)
theorem oSleep : Opens Try.prog 59 k59 (fun _ => True) :=
  opens_imp (opens_iso (f := fun x : S59 => (x.f0, x.f1, x.f2, x.f3, x.f4, x.f5)) (fun x => ⟨x.1, x.2.1, x.2.2.1, x.2.2.2.1, x.2.2.2.2.1, x.2.2.2.2.2⟩) (fun _ => rfl) (opens_struct Try.underlying59 (by kernel_rfl)
    (opensF_cons rfl (by kernel_rfl) oAny (opensF_cons rfl (by kernel_rfl) oAny (opensF_cons rfl (by kernel_rfl) oAny (opensF_cons rfl (by kernel_rfl) oAny (opensF_cons rfl (by kernel_rfl) oAny (opensF_one rfl (by kernel_rfl) oAny)))))))) (fun _ _ => trivial)
theorem oDevice : Opens Try.prog 62 k62 (fun _ => True) :=
  opens_imp (opens_iso (f := fun x : S62 => (x.f0, x.f1, x.f2, x.f3, x.f4, x.f5, x.f6)) (fun x => ⟨x.1, x.2.1, x.2.2.1, x.2.2.2.1, x.2.2.2.2.1, x.2.2.2.2.2.1, x.2.2.2.2.2.2⟩) (fun _ => rfl) (opens_struct Try.underlying62 (by kernel_rfl)
    (opensF_cons rfl (by kernel_rfl) oAny (opensF_cons rfl (by kernel_rfl) oAny (opensF_cons rfl (by kernel_rfl) oAny (opensF_cons rfl (by kernel_rfl) oAny (opensF_cons rfl (by kernel_rfl) oAny (opensF_cons rfl (by kernel_rfl) oAny (opensF_one rfl (by kernel_rfl) oAny))))))))) (fun _ _ => trivial)
abbrev Plat := List S45 × List S59 × List S62 × Int × Int × Int × Int × Int × Int
def kPlat : Kd Plat := Kd.pair (Kd.slice 45 k45) (Kd.pair (Kd.slice 59 k59) (Kd.pair (Kd.slice 62 k62) (Kd.pair (Kd.int .i64) (Kd.pair (Kd.int .i64) (Kd.pair (Kd.int .i64) (Kd.pair (Kd.int .i64) (Kd.pair (Kd.int .i64) (Kd.int .i64))))))))
theorem oPlat : Opens Try.prog 38 kPlat (fun _ => True) :=
  opens_imp (opens_struct (d := kPlat) Try.underlying38 (by kernel_rfl)
    (opensF_cons rfl (by kernel_rfl) (opens_slice Try.underlying34 (by kernel_rfl) oLevel) (opensF_cons rfl (by kernel_rfl) (opens_slice Try.underlying35 (by kernel_rfl) oSleep) (opensF_cons rfl (by kernel_rfl) (opens_slice Try.underlying36 (by kernel_rfl) oDevice)
    (opensF_cons rfl (by kernel_rfl) oAny (opensF_cons rfl (by kernel_rfl) oAny (opensF_cons rfl (by kernel_rfl) oAny (opensF_cons rfl (by kernel_rfl) oAny (opensF_cons rfl (by kernel_rfl) oAny (opensF_one rfl (by kernel_rfl) oAny)))))))))) (fun _ _ => trivial)
theorem plat_open {w : World} {x : Plat} {cs : List Value} (h : kPlat.K w x cs) : ∃ (A0 : Option Addr) (c0 : Nat) (A1 : Option Addr) (c1 : Nat) (A2 : Option Addr) (c2 : Nat),
    cs = [.slice A0 x.1.length c0, .slice A1 x.2.1.length c1, .slice A2 x.2.2.1.length c2, .int .i64 x.2.2.2.1, .int .i64 x.2.2.2.2.1, .int .i64 x.2.2.2.2.2.1, .int .i64 x.2.2.2.2.2.2.1, .int .i64 x.2.2.2.2.2.2.2.1, .int .i64 x.2.2.2.2.2.2.2.2] ∧
    (x.1.length ≤ c0 ∧ Kd.C k45 w A0 x.1.length x.1) ∧ (x.2.1.length ≤ c1 ∧ Kd.C k59 w A1 x.2.1.length x.2.1) ∧ (x.2.2.1.length ≤ c2 ∧ Kd.C k62 w A2 x.2.2.1.length x.2.2.1) := by
  obtain ⟨_, _, rfl, ⟨A0, c0, rfl, l0, h0⟩, _, _, rfl, ⟨A1, c1, rfl, l1, h1⟩, _, _, rfl, ⟨A2, c2, rfl, l2, h2⟩, _, _, rfl, e3, _, _, rfl, e4, _, _, rfl, e5, _, _, rfl, e6, _, _, rfl, e7, e8⟩ := h
  cases e3; cases e4; cases e5; cases e6; cases e7; cases e8
  exact ⟨A0, c0, A1, c1, A2, c2, rfl, ⟨l0, h0⟩, ⟨l1, h1⟩, ⟨l2, h2⟩⟩
end Go.Proofs.Ytijlfnjfjmhdiaa.Opn
