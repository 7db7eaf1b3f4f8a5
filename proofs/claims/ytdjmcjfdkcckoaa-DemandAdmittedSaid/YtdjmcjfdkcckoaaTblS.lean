/- Which machines the reference takes for right: its Table, walked. -/
import Derived.Test.YtdjmcjfdkcckoaaFx0
import Derived.Test.YtdjmcjfdkcckoaaG0
namespace Go.Proofs.Ytdjmcjfdkcckoaa.Tbl
open Go.RowKit Go.Proofs.Ytdjmcjfdkcckoaa.F Go.Proofs.YtdjmcjfdkcckoaaW.PrintWords Go.Proofs.YtdjmcjfdkcckoaaW.PrintLast Go.Proofs.YtdjmcjfdkcckoaaW.PrintMore
attribute [local go_sem] max2_int min2_int max_two min_two max_three min_three max_four min_four

/-- The plain numbers of a machine. -/
def Head (n0 n1 n2 : Nat) (idle crit sw swE sems hor : Int) : Prop :=
  1 ≤ (n0 : Int) ∧ (n0 : Int) ≤ 4 ∧ 0 ≤ idle ∧ idle ≤ 65536 ∧ 0 ≤ crit ∧ crit < n0 ∧ 0 ≤ sw ∧ sw ≤ 256 ∧ 0 ≤ swE ∧ swE ≤ 65536 ∧
  (n1 : Int) ≤ 3 ∧ (n2 : Int) ≤ 3 ∧ 0 ≤ sems ∧ sems ≤ 3 ∧ 1 ≤ hor ∧ hor ≤ 16384
/-- Level i is right. -/
def LevelOk (ls : List S63) (idle crit : Int) (i : Int) : Prop :=
  (1 ≤ (rd_T63 ls i).f0 ∧ (rd_T63 ls i).f0 ≤ 256 ∧ 0 ≤ (rd_T63 ls i).f1 ∧ (rd_T63 ls i).f1 ≤ 65536) ∧ (0 < i → (rd_T63 ls (i - 1)).f0 < (rd_T63 ls i).f0) ∧
  (0 < i → i ≤ crit → (rd_T63 ls i).f1 - (rd_T63 ls i).f0 * idle ≤ (rd_T63 ls (i - 1)).f1 - (rd_T63 ls (i - 1)).f0 * idle)
/-- May something be away so? -/
def AwayOk (down up downE upE off on even : Int) : Prop :=
  0 ≤ down ∧ down ≤ 256 ∧ 0 ≤ up ∧ up ≤ 256 ∧ 0 ≤ downE ∧ downE ≤ 65536 ∧ 0 ≤ upE ∧ upE ≤ 65536 ∧ 0 ≤ on ∧ on ≤ 65536 ∧ 0 ≤ off ∧ off ≤ on ∧ down + up ≤ even ∧ 1 ≤ even ∧ even ≤ 16384 ∧
  downE + upE + off * (even - down - up) ≤ on * even
def SleepOk (s : S66) (idle : Int) : Prop := AwayOk s.f1 s.f2 s.f3 s.f4 s.f0 idle s.f5
def DeviceOk (d : S69) : Prop := AwayOk d.f2 d.f3 d.f4 d.f5 d.f1 d.f0 d.f6
structure TableOk (ls : List S63) (ss : List S66) (ds : List S69) (idle crit sw swE sems hor : Int) : Prop where
  head : Head ls.length ss.length ds.length idle crit sw swE sems hor
  levels : ∀ i : Int, 0 ≤ i → i < ls.length → LevelOk ls idle crit i
  sleeps : ∀ i : Int, 0 ≤ i → i < ss.length → SleepOk (rd_T66 ss i) idle
  devices : ∀ i : Int, 0 ≤ i → i < ds.length → DeviceOk (rd_T69 ds i)
open Classical in
noncomputable def tableB (ls : List S63) (ss : List S66) (ds : List S69) (idle crit sw swE sems hor : Int) : Bool := decide (TableOk ls ss ds idle crit sw swE sems hor)
theorem tableB_no {ls ss ds idle crit sw swE sems hor} (h : ¬ TableOk ls ss ds idle crit sw swE sems hor) : Ending.returned (Value.bool false) = Ending.returned (Value.bool (tableB ls ss ds idle crit sw swE sems hor)) := by
  simp [tableB, h]
theorem tableB_yes {ls ss ds idle crit sw swE sems hor} (h : TableOk ls ss ds idle crit sw swE sems hor) : Ending.returned (Value.bool true) = Ending.returned (Value.bool (tableB ls ss ds idle crit sw swE sems hor)) := by
  simp [tableB, h]
theorem tableB_head {ls ss ds idle crit sw swE sems hor} (h : ¬ Head ls.length ss.length ds.length idle crit sw swE sems hor) : Ending.returned (Value.bool false) = Ending.returned (Value.bool (tableB ls ss ds idle crit sw swE sems hor)) :=
  tableB_no (fun x => h x.head)

theorem tableB_level {ls ss ds idle crit sw swE sems hor} {i : Int} (h0 : Aside0 (0 ≤ i)) (h1 : Aside0 (i < (ls.length : Int))) (h : ¬ LevelOk ls idle crit i) : Ending.returned (Value.bool false) = Ending.returned (Value.bool (tableB ls ss ds idle crit sw swE sems hor)) :=
  tableB_no (fun x => h (x.levels i h0.out h1.out))
theorem badw {w w0 wr wq : World} (h : Below w.heap.size w w0) (h' : Below w0.heap.size w0 wr) (hq : Below wr.heap.size wr wq) (n : Nat) : Below w.heap.size w (wq.drewN n) := pw_below_drewN (below_step (below_step h h') hq) n
theorem nextw {w0 wr wq : World} (h' : Below w0.heap.size w0 wr) (hq : Below wr.heap.size wr wq) (n : Nat) : Below w0.heap.size w0 (wq.drewN n) := pw_below_drewN (below_step h' hq) n
section
variable {ls : List S63} {idle crit i P E P' E' : Int}
theorem bad0 (hP : P = (rd_T63 ls i).f0) (_ : E = (rd_T63 ls i).f1) (h : P < 1) : ¬ LevelOk ls idle crit i := fun x => by have := x.1.1; omega
theorem bad1 (hP : P = (rd_T63 ls i).f0) (_ : E = (rd_T63 ls i).f1) (h : 256 < P) : ¬ LevelOk ls idle crit i := fun x => by have := x.1.2.1; omega
theorem bad2 (_ : P = (rd_T63 ls i).f0) (hE : E = (rd_T63 ls i).f1) (h : E < 0) : ¬ LevelOk ls idle crit i := fun x => by have := x.1.2.2.1; omega
theorem bad3 (_ : P = (rd_T63 ls i).f0) (hE : E = (rd_T63 ls i).f1) (h : 65536 < E) : ¬ LevelOk ls idle crit i := fun x => by have := x.1.2.2.2; omega
theorem bad4 (hP : P = (rd_T63 ls i).f0) (hP' : P' = (rd_T63 ls (i - 1)).f0) (hi : 0 < i) (h : P ≤ P') : ¬ LevelOk ls idle crit i := fun x => by have := x.2.1 hi; omega
theorem bad6 (hP : P = (rd_T63 ls i).f0) (hE : E = (rd_T63 ls i).f1) (hP' : P' = (rd_T63 ls (i - 1)).f0) (hE' : E' = (rd_T63 ls (i - 1)).f1) (hi : 0 < i) (hc : i ≤ crit) (h : E' - P' * idle < E - P * idle) : ¬ LevelOk ls idle crit i :=
  fun x => by have := x.2.2 hi hc; rw [← hP, ← hE, ← hP', ← hE'] at this; omega
theorem ok_level (hP : P = (rd_T63 ls i).f0) (hE : E = (rd_T63 ls i).f1) (h1 : 1 ≤ P) (h2 : P ≤ 256) (h3 : 0 ≤ E) (h4 : E ≤ 65536) (h5 : 0 < i → (rd_T63 ls (i - 1)).f0 < (rd_T63 ls i).f0)
    (h6 : 0 < i → i ≤ crit → (rd_T63 ls i).f1 - (rd_T63 ls i).f0 * idle ≤ (rd_T63 ls (i - 1)).f1 - (rd_T63 ls (i - 1)).f0 * idle) : LevelOk ls idle crit i := by
  subst hP hE; exact ⟨⟨h1, h2, h3, h4⟩, h5, h6⟩
theorem levels_next (h : ∀ j : Int, 0 ≤ j → j < i → LevelOk ls idle crit j) (hn : LevelOk ls idle crit i) : ∀ j : Int, 0 ≤ j → j < i + 1 → LevelOk ls idle crit j := by
  intro j h0 h1
  by_cases e : j = i
  · subst e; exact hn
  · exact h j h0 (by omega)
theorem prod_bd {a b : Int} (h0 : 0 ≤ a) (h1 : a ≤ 256) (h2 : 0 ≤ b) (h3 : b ≤ 65536) : 0 ≤ a * b ∧ a * b ≤ 16777216 := by
  refine ⟨Int.mul_nonneg h0 h2, ?_⟩
  have : a * b ≤ 256 * 65536 := Int.mul_le_mul h1 h3 h2 (by omega)
  omega
end

theorem w64 {n : Int} (h0 : -9223372036854775808 ≤ n) (h1 : n ≤ 9223372036854775807) : wrap64 n = n := by unfold wrap64; omega
theorem away_yes {down up downE upE off on even : Int} (h : AwayOk down up downE upE off on even) : dormouseref01_away.f down up downE upE off on even = some true := by
  obtain ⟨a0, a1, a2, a3, a4, a5, a6, a7, a8, a9, a10, a11, a12, a13, a14, a15⟩ := h
  unfold dormouseref01_away.f
  rw [if_neg (by omega), if_neg (by omega), if_neg (by omega), if_neg (by omega), if_neg (by omega), if_neg (by omega), if_neg (by omega), if_neg (by omega), if_neg (by omega), if_neg (by omega), if_neg (by omega), if_neg (by omega)]
  rw [w64 (n := down + up) (by omega) (by omega), if_pos (by omega), if_pos (by omega), if_pos (by omega)]
  rw [w64 (n := even - down) (by omega) (by omega), w64 (n := even - down - up) (by omega) (by omega), w64 (n := downE + upE) (by omega) (by omega)]
  have m1 : 0 ≤ off * (even - down - up) ∧ off * (even - down - up) ≤ 65536 * 16384 := ⟨Int.mul_nonneg a10 (by omega), Int.mul_le_mul (by omega) (by omega) (by omega) (by omega)⟩
  have m2 : 0 ≤ on * even ∧ on * even ≤ 65536 * 16384 := ⟨Int.mul_nonneg a8 (by omega), Int.mul_le_mul (by omega) (by omega) (by omega) (by omega)⟩
  rw [w64 (n := off * (even - down - up)) (by omega) (by omega), w64 (n := on * even) (by omega) (by omega), w64 (n := downE + upE + off * (even - down - up)) (by omega) (by omega)]
  rw [decide_eq_true a15]
theorem away_no {down up downE upE off on even : Int} (h : ¬ AwayOk down up downE upE off on even) : dormouseref01_away.f down up downE upE off on even = some false := by
  unfold dormouseref01_away.f
  by_cases b0 : down < 0
  · rw [if_pos b0]
  rw [if_neg b0]
  by_cases b1 : down > 256
  · rw [if_pos b1]
  rw [if_neg b1]
  by_cases b2 : up < 0
  · rw [if_pos b2]
  rw [if_neg b2]
  by_cases b3 : up > 256
  · rw [if_pos b3]
  rw [if_neg b3]
  by_cases b4 : downE < 0
  · rw [if_pos b4]
  rw [if_neg b4]
  by_cases b5 : downE > 65536
  · rw [if_pos b5]
  rw [if_neg b5]
  by_cases b6 : upE < 0
  · rw [if_pos b6]
  rw [if_neg b6]
  by_cases b7 : upE > 65536
  · rw [if_pos b7]
  rw [if_neg b7]
  by_cases b8 : on < 0
  · rw [if_pos b8]
  rw [if_neg b8]
  by_cases b9 : on > 65536
  · rw [if_pos b9]
  rw [if_neg b9]
  by_cases b10 : off < 0
  · rw [if_pos b10]
  rw [if_neg b10]
  by_cases b11 : off > on
  · rw [if_pos b11]
  rw [if_neg b11]
  rw [w64 (n := down + up) (by omega) (by omega)]
  by_cases b12 : even ≥ down + up
  case neg => rw [if_neg b12]
  rw [if_pos b12]
  by_cases b13 : even ≥ 1
  case neg => rw [if_neg b13]
  rw [if_pos b13]
  by_cases b14 : even ≤ 16384
  case neg => rw [if_neg b14]
  rw [if_pos b14]
  rw [w64 (n := even - down) (by omega) (by omega), w64 (n := even - down - up) (by omega) (by omega), w64 (n := downE + upE) (by omega) (by omega)]
  have m1 : 0 ≤ off * (even - down - up) ∧ off * (even - down - up) ≤ 65536 * 16384 := ⟨Int.mul_nonneg (by omega) (by omega), Int.mul_le_mul (by omega) (by omega) (by omega) (by omega)⟩
  have m2 : 0 ≤ on * even ∧ on * even ≤ 65536 * 16384 := ⟨Int.mul_nonneg (by omega) (by omega), Int.mul_le_mul (by omega) (by omega) (by omega) (by omega)⟩
  rw [w64 (n := off * (even - down - up)) (by omega) (by omega), w64 (n := on * even) (by omega) (by omega), w64 (n := downE + upE + off * (even - down - up)) (by omega) (by omega)]
  rw [decide_eq_false]
  intro hh
  exact h ⟨by omega, by omega, by omega, by omega, by omega, by omega, by omega, by omega, by omega, by omega, by omega, by omega, by omega, by omega, by omega, hh⟩
theorem sleep_yes {s : S66} {idle : Int} (h : SleepOk s idle) : dormouseref01_Sleep.f s.f0 s.f1 s.f2 s.f3 s.f4 s.f5 idle = some true := by
  unfold dormouseref01_Sleep.f; rw [away_yes h]; rfl
theorem sleep_no {s : S66} {idle : Int} (h : ¬ SleepOk s idle) : dormouseref01_Sleep.f s.f0 s.f1 s.f2 s.f3 s.f4 s.f5 idle = some false := by
  unfold dormouseref01_Sleep.f; rw [away_no h]; rfl
theorem device_yes {s : S69} (h : DeviceOk s) : dormouseref01_Device.f s.f0 s.f1 s.f2 s.f3 s.f4 s.f5 s.f6 = some true := by
  unfold dormouseref01_Device.f; rw [away_yes h]; rfl
theorem device_no {s : S69} (h : ¬ DeviceOk s) : dormouseref01_Device.f s.f0 s.f1 s.f2 s.f3 s.f4 s.f5 s.f6 = some false := by
  unfold dormouseref01_Device.f; rw [away_no h]; rfl
theorem tableB_sleep {ls ss ds idle crit sw swE sems hor} {i : Int} {s : S66} (hs : s = rd_T66 ss i) (h0 : 0 ≤ i) (h1 : i < (ss.length : Int)) (h : ¬ SleepOk s idle) : Ending.returned (Value.bool false) = Ending.returned (Value.bool (tableB ls ss ds idle crit sw swE sems hor)) :=
  tableB_no (fun x => h (by rw [hs]; exact x.sleeps i h0 h1))
theorem tableB_device {ls ss ds idle crit sw swE sems hor} {i : Int} {s : S69} (hs : s = rd_T69 ds i) (h0 : 0 ≤ i) (h1 : i < (ds.length : Int)) (h : ¬ DeviceOk s) : Ending.returned (Value.bool false) = Ending.returned (Value.bool (tableB ls ss ds idle crit sw swE sems hor)) :=
  tableB_no (fun x => h (by rw [hs]; exact x.devices i h0 h1))
theorem next_one {p : Int → Prop} {i : Int} (h : ∀ j : Int, 0 ≤ j → j < i → p j) (hn : p i) : ∀ j : Int, 0 ≤ j → j < i + 1 → p j := by
  intro j h0 h1
  by_cases e : j = i
  · subst e; exact hn
  · exact h j h0 (by omega)
theorem tail_w {w w1 wr w2 W : World} (h1 : Below w.heap.size w w1) (h : Below w1.heap.size w1 wr) (hd : Below wr.heap.size wr w2) (hb : Below w2.heap.size w2 W) : Below w.heap.size w W := below_step (below_step (below_step h1 h) hd) hb
theorem tail_w1 {w1 wr w2 W : World} (h : Below w1.heap.size w1 wr) (hd : Below wr.heap.size wr w2) (hb : Below w2.heap.size w2 W) : Below w1.heap.size w1 W := below_step (below_step h hd) hb

end Go.Proofs.Ytdjmcjfdkcckoaa.Tbl
