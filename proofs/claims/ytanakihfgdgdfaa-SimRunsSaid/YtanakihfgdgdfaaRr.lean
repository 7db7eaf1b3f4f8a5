/- The document's run, late works, demand and fit are the program's. -/
import Derived.Test.YtanakihfgdgdfaaSr
import Derived.Test.YtanakihfgdgdfaaRq
import Derived.Test.YtanakihfgdgdfaaFx10
import Derived.Test.YtanakihfgdgdfaaFx12
import Derived.Test.YtanakihfgdgdfaaFx13
import Derived.Test.YtanakihfgdgdfaaFx14
import Derived.Test.YtanakihfgdgdfaaFx15
namespace Go.Proofs.Ytanakihfgdgdfaa.Sm
open Go.RowKit Go.Proofs.Ytanakihfgdgdfaa.F Go.Proofs.Ytanakihfgdgdfaa.Edf Go.Proofs.YtanakihfgdgdfaaW.PrintWords Go.Proofs.YtanakihfgdgdfaaW.PrintLast
set_option linter.unusedVariables false
/-! ### the run -/
theorem sm_turn {n : Nat} {r d c : Nat → Int} (t : Nat) : sm n (left n r d c (t + 1)) = sm n (left n r d c t) - match turn n r d c t with | some _ => 1 | none => 0 := by
  cases e : turn n r d c t with
  | none =>
    simp only []
    rw [Int.sub_zero]
    exact sm_congr fun i _ => by rw [left_succ, e, if_neg (by simp)]
  | some b =>
    have hb := (turn_ready n r d c e).1
    simp only []
    have h := sm_sub (left n r d c t) (fun i => if i = b then 1 else 0) n
    rw [sm_one, if_pos hb] at h
    rw [← h]
    refine sm_congr fun i _ => ?_
    rw [left_succ, e]
    by_cases x : i = b
    · subst x; rw [if_pos rfl]; simp
    · rw [if_neg (fun y => x (Option.some.inj y).symm)]; simp [x]
theorem rrun_in {l : List S32} (h : RightW l) (t : Nat) (ht : t < 540672) (W : Int) (d : Nat) : ∀ (j k : Nat) (x : Int), j + d = l.length → d < k → Seen l.length (rl l) (dl l) (left l.length (rl l) (dl l) (cy l) t) t j x →
    ∃ k', k' + (d + 1) = k ∧ ((turn l.length (rl l) (dl l) (cy l) t = none ∧ dormouseref25_Run.l2 k l (lst l.length (done l.length (rl l) (dl l) (cy l) t)) (lst l.length (left l.length (rl l) (dl l) (cy l) t)) W t x j = dormouseref25_Run.l1 k' l (lst l.length (done l.length (rl l) (dl l) (cy l) t)) (lst l.length (left l.length (rl l) (dl l) (cy l) t)) W ((t : Int) + 1)) ∨
      ∃ b : Nat, turn l.length (rl l) (dl l) (cy l) t = some b ∧ dormouseref25_Run.l2 k l (lst l.length (done l.length (rl l) (dl l) (cy l) t)) (lst l.length (left l.length (rl l) (dl l) (cy l) t)) W t x j = dormouseref25_Run.l1 k' l ((lst l.length (done l.length (rl l) (dl l) (cy l) t)).set b ((t : Int) + 1)) ((lst l.length (left l.length (rl l) (dl l) (cy l) t)).set b (left l.length (rl l) (dl l) (cy l) t b - 1)) (wrap64 (W - 1)) ((t : Int) + 1)) := by
  have few := h.few
  induction d with
  | zero =>
    intro j k x hj hk hs
    obtain ⟨k, rfl⟩ : ∃ q, k = q + 1 := ⟨k - 1, by omega⟩
    obtain rfl : j = l.length := by omega
    refine ⟨k, rfl, ?_⟩
    simp only [dormouseref25_Run.l2]
    rw [if_neg (by omega), w64 (n := (t : Int) + 1) (by omega) (by omega)]
    rcases seen_end hs with ⟨rfl, e⟩ | ⟨b, rfl, hb, e⟩
    · exact .inl ⟨e, by rw [if_neg (by omega)]⟩
    · refine .inr ⟨b, e, ?_⟩
      have lb := left_bd h t hb
      rw [if_pos (by omega), if_pos (by omega), if_pos (by rw [lst_len]; omega), if_pos (by rw [lst_len]; omega), lst_rd hb, Int.toNat_natCast, w64 (n := left l.length (rl l) (dl l) (cy l) t b - 1) (by omega) (by omega)]
  | succ d ih =>
    intro j k x hj hk hs
    obtain ⟨k, rfl⟩ : ∃ q, k = q + 1 := ⟨k - 1, by omega⟩
    have hjl : j < l.length := by omega
    have e1 : (rd_T32 l j).f0 = rl l j := rfl
    have e2 : (rd_T32 l j).f1 = dl l j := rfl
    have lb := left_bd h t hjl
    simp only [dormouseref25_Run.l2]
    rw [if_pos (by omega), if_pos (by omega), if_pos (by rw [lst_len]; omega), lst_rd hjl, e1, e2, w64 (n := (j : Int) + 1) (by omega) (by omega)]
    have ih := fun y hy => ih (j + 1) k y (by omega) (by omega) hy
    rw [show ((j + 1 : Nat) : Int) = (j : Int) + 1 from by omega] at ih
    have go : ∀ y, Seen l.length (rl l) (dl l) (left l.length (rl l) (dl l) (cy l) t) t (j + 1) y → _ := fun y hy => ih y hy
    have up : ∀ y, (∃ k', k' + (d + 1) = k ∧ ((turn l.length (rl l) (dl l) (cy l) t = none ∧ dormouseref25_Run.l2 k l (lst l.length (done l.length (rl l) (dl l) (cy l) t)) (lst l.length (left l.length (rl l) (dl l) (cy l) t)) W t y ((j : Int) + 1) = dormouseref25_Run.l1 k' l (lst l.length (done l.length (rl l) (dl l) (cy l) t)) (lst l.length (left l.length (rl l) (dl l) (cy l) t)) W ((t : Int) + 1)) ∨
      ∃ b : Nat, turn l.length (rl l) (dl l) (cy l) t = some b ∧ dormouseref25_Run.l2 k l (lst l.length (done l.length (rl l) (dl l) (cy l) t)) (lst l.length (left l.length (rl l) (dl l) (cy l) t)) W t y ((j : Int) + 1) = dormouseref25_Run.l1 k' l ((lst l.length (done l.length (rl l) (dl l) (cy l) t)).set b ((t : Int) + 1)) ((lst l.length (left l.length (rl l) (dl l) (cy l) t)).set b (left l.length (rl l) (dl l) (cy l) t b - 1)) (wrap64 (W - 1)) ((t : Int) + 1))) →
      ∃ k', k' + (d + 1 + 1) = k + 1 ∧ ((turn l.length (rl l) (dl l) (cy l) t = none ∧ dormouseref25_Run.l2 k l (lst l.length (done l.length (rl l) (dl l) (cy l) t)) (lst l.length (left l.length (rl l) (dl l) (cy l) t)) W t y ((j : Int) + 1) = dormouseref25_Run.l1 k' l (lst l.length (done l.length (rl l) (dl l) (cy l) t)) (lst l.length (left l.length (rl l) (dl l) (cy l) t)) W ((t : Int) + 1)) ∨
      ∃ b : Nat, turn l.length (rl l) (dl l) (cy l) t = some b ∧ dormouseref25_Run.l2 k l (lst l.length (done l.length (rl l) (dl l) (cy l) t)) (lst l.length (left l.length (rl l) (dl l) (cy l) t)) W t y ((j : Int) + 1) = dormouseref25_Run.l1 k' l ((lst l.length (done l.length (rl l) (dl l) (cy l) t)).set b ((t : Int) + 1)) ((lst l.length (left l.length (rl l) (dl l) (cy l) t)).set b (left l.length (rl l) (dl l) (cy l) t b - 1)) (wrap64 (W - 1)) ((t : Int) + 1)) := by
      rintro y ⟨k', e, hh⟩
      exact ⟨k', by omega, hh⟩
    by_cases z : left l.length (rl l) (dl l) (cy l) t j > 0
    · rw [if_pos z]
      by_cases c : rl l j ≤ (t : Int)
      · have hr : Ready l.length (rl l) (left l.length (rl l) (dl l) (cy l) t) t j := ⟨hjl, z, c⟩
        rw [if_pos c]
        by_cases c2 : x < 0
        · rw [if_pos c2]; exact up _ (go j (seen_none hs c2 hr))
        · rw [if_neg c2, if_pos (by omega)]
          have hx : ∃ b : Nat, x = b ∧ b < l.length := by
            rcases hs with ⟨e, _⟩ | ⟨b, e, hb, _⟩
            · omega
            · exact ⟨b, e, by omega⟩
          obtain ⟨b, rfl, hb⟩ := hx
          rw [if_pos (by omega), show (rd_T32 l b).f1 = dl l b from rfl]
          by_cases c3 : dl l j < dl l b
          · rw [if_pos c3]; exact up _ (go j (seen_less hs hr c3))
          · rw [if_neg c3]; exact up _ (go b (seen_more hs c3))
      · rw [if_neg c]; exact up _ (go x (seen_skip hs (fun hr => c hr.2.2)))
    · rw [if_neg z]; exact up _ (go x (seen_skip hs (fun hr => z hr.2.1)))
theorem sm_bd {l : List S32} (h : RightW l) (t : Nat) : 0 ≤ sm l.length (left l.length (rl l) (dl l) (cy l) t) ∧ sm l.length (left l.length (rl l) (dl l) (cy l) t) ≤ 524288 := by
  have key : ∀ m, m ≤ l.length → 0 ≤ sm m (left l.length (rl l) (dl l) (cy l) t) ∧ sm m (left l.length (rl l) (dl l) (cy l) t) ≤ m * 16384 := by
    intro m
    induction m with
    | zero => intro _; simp [sm]
    | succ m ih =>
      intro hm
      have ih := ih (by omega)
      have := left_bd h t (show m < l.length by omega)
      show 0 ≤ sm m _ + _ ∧ sm m _ + _ ≤ _
      omega
  have := key _ (Nat.le_refl _)
  have := h.few
  omega
theorem rrun_loop {l : List S32} (h : RightW l) (m : Nat) : ∀ (t k : Nat), t + m = 540672 → 35 * m + 40 < k →
    dormouseref25_Run.l1 k l (lst l.length (done l.length (rl l) (dl l) (cy l) t)) (lst l.length (left l.length (rl l) (dl l) (cy l) t)) (sm l.length (left l.length (rl l) (dl l) (cy l) t)) t = some (doneL l) := by
  have few := h.few
  induction m with
  | zero =>
    intro t k ht hk
    obtain ⟨k, rfl⟩ : ∃ q, k = q + 1 := ⟨k - 1, by omega⟩
    obtain rfl : t = 540672 := by omega
    have z : sm l.length (left l.length (rl l) (dl l) (cy l) 540672) = 0 := sm_nul fun i hi => ended h i hi
    simp only [dormouseref25_Run.l1]
    rw [z, if_neg (by omega), at_end (Nat.le_refl _) (ended h)]
  | succ m ih =>
    intro t k ht hk
    obtain ⟨k, rfl⟩ : ∃ q, k = q + 1 := ⟨k - 1, by omega⟩
    have sb := sm_bd h t
    simp only [dormouseref25_Run.l1]
    by_cases c : sm l.length (left l.length (rl l) (dl l) (cy l) t) > 0
    · rw [if_pos c]
      have st := sm_turn (n := l.length) (r := rl l) (d := dl l) (c := cy l) t
      obtain ⟨k', ek, hh⟩ := rrun_in h t (by omega) (sm l.length (left l.length (rl l) (dl l) (cy l) t)) l.length 0 k (-1) (by omega) (by omega) (seen_start _ _ _ _ _)
      rw [show ((0 : Nat) : Int) = 0 from rfl] at hh
      have ih := ih (t + 1) k' (by omega) (by omega)
      rw [show ((t + 1 : Nat) : Int) = (t : Int) + 1 from by omega] at ih
      rcases hh with ⟨e, hh⟩ | ⟨b, e, hh⟩
      · rw [hh]
        rw [e] at st
        simp only [] at st
        rw [st, Int.sub_zero, lst_congr (f := left l.length (rl l) (dl l) (cy l) (t + 1)) (g := left l.length (rl l) (dl l) (cy l) t) (fun j _ => by rw [left_succ, e, if_neg (by simp)]), lst_congr (f := done l.length (rl l) (dl l) (cy l) (t + 1)) (g := done l.length (rl l) (dl l) (cy l) t) (fun j _ => by rw [done_succ, e, if_neg (by simp)])] at ih
        exact ih
      · rw [hh, w64 (by omega) (by omega), lst_set, lst_set]
        rw [e] at st
        simp only [] at st
        rw [st, lst_congr (f := left l.length (rl l) (dl l) (cy l) (t + 1)) (g := fun i => if i = b then left l.length (rl l) (dl l) (cy l) t b - 1 else left l.length (rl l) (dl l) (cy l) t i) (fun j _ => by
            rw [left_succ, e]
            by_cases x : j = b
            · subst x; rw [if_pos rfl, if_pos rfl]
            · rw [if_neg (fun y => x (Option.some.inj y).symm), if_neg x]),
          lst_congr (f := done l.length (rl l) (dl l) (cy l) (t + 1)) (g := fun i => if i = b then (t : Int) + 1 else done l.length (rl l) (dl l) (cy l) t i) (fun j _ => by
            rw [done_succ, e]
            by_cases x : j = b
            · subst x; rw [if_pos rfl, if_pos rfl]
            · rw [if_neg (fun y => x (Option.some.inj y).symm), if_neg x])] at ih
        exact ih
    · rw [if_neg c]
      rw [at_end (by omega) fun i hi => by
        have lb := left_bd h t hi
        have := sm_ge (f := left l.length (rl l) (dl l) (cy l) t) (n := l.length) (fun j hj => (left_bd h t hj).1) hi
        omega]
theorem rfill_loop {l : List S32} (h : RightW l) (d : Nat) : ∀ (i k : Nat), i + d = l.length → 19000000 + d < k →
    dormouseref25_Run.l0 k l (lst l.length (upto (rl l) (fun _ => 0) i)) (lst l.length (upto (cy l) (fun _ => 0) i)) (sm i (cy l)) i = some (doneL l) := by
  have few := h.few
  induction d with
  | zero =>
    intro i k hi hk
    obtain ⟨k, rfl⟩ : ∃ q, k = q + 1 := ⟨k - 1, by omega⟩
    obtain rfl : i = l.length := by omega
    simp only [dormouseref25_Run.l0]
    rw [if_neg (by omega), upto_all, upto_all]
    exact rrun_loop h 540672 0 k (by omega) (by omega)
  | succ d ih =>
    intro i k hi hk
    obtain ⟨k, rfl⟩ : ∃ q, k = q + 1 := ⟨k - 1, by omega⟩
    simp only [dormouseref25_Run.l0]
    have e1 : (rd_T32 l i).f0 = rl l i := rfl
    have e2 : (rd_T32 l i).f2 = cy l i := rfl
    have cb : 0 ≤ sm i (cy l) ∧ sm i (cy l) ≤ i * 16384 := by
      have key : ∀ m, m ≤ l.length → 0 ≤ sm m (cy l) ∧ sm m (cy l) ≤ m * 16384 := by
        intro m
        induction m with
        | zero => intro _; simp [sm]
        | succ m ih =>
          intro hm
          have ih := ih (by omega)
          have := h.cyc m (by omega)
          show 0 ≤ sm m _ + cy l m ∧ sm m _ + cy l m ≤ _
          omega
      exact key i (by omega)
    have c := h.cyc i (by omega)
    rw [if_pos (by omega), if_pos (by omega), if_pos (by rw [lst_len]; omega), if_pos (by rw [lst_len]; omega), Int.toNat_natCast, e1, e2, upto_set, upto_set, w64 (n := (i : Int) + 1) (by omega) (by omega), w64 (n := sm i (cy l) + cy l i) (by omega) (by omega)]
    have := ih (i + 1) k (by omega) (by omega)
    rwa [show ((i + 1 : Nat) : Int) = (i : Int) + 1 from by omega] at this
theorem rrun_some (l : List S32) {k : Nat} (hk : 19100000 < k) : dormouseref25_Run.f k l = some (runL l) := by
  unfold dormouseref25_Run.f
  rw [rright_some l (by omega), Option.bind_some]
  by_cases c : RightW l
  · have few := c.few
    rw [if_pos (rightB_yes c), if_pos (by omega), if_pos (by omega), runL_yes c, Int.toNat_natCast, lst_zero]
    have := rfill_loop c l.length 0 k (by omega) (by omega)
    rw [upto_none, upto_none] at this
    exact this
  · rw [if_neg (by rw [rightB_no c]; simp), runL_no c]
theorem same_loop (a : List Int) (hn : a.length ≤ 1000) (d : Nat) : ∀ (i k : Nat), i + d = a.length → d < k → dormouselaw25_same.l0 k a a i = some true := by
  induction d with
  | zero =>
    intro i k hi hk
    obtain ⟨k, rfl⟩ : ∃ q, k = q + 1 := ⟨k - 1, by omega⟩
    simp only [dormouselaw25_same.l0]
    rw [if_neg (by omega)]
  | succ d ih =>
    intro i k hi hk
    obtain ⟨k, rfl⟩ : ∃ q, k = q + 1 := ⟨k - 1, by omega⟩
    simp only [dormouselaw25_same.l0]
    rw [if_pos (by omega), if_pos (by omega), if_pos (by omega), if_pos trivial, w64 (n := (i : Int) + 1) (by omega) (by omega)]
    have := ih (i + 1) k (by omega) (by omega)
    rwa [show ((i + 1 : Nat) : Int) = (i : Int) + 1 from by omega] at this
theorem same_some (a : List Int) (hn : a.length ≤ 1000) {k : Nat} (hk : 1001 < k) : dormouselaw25_same.f k a a = some true := by
  unfold dormouselaw25_same.f
  rw [if_pos rfl]
  exact same_loop a hn a.length 0 k (by omega) (by omega)
/-! ### late -/
theorem rlate_loop {l : List S32} (h : RightW l) (d : Nat) : ∀ (i k : Nat), i + d = l.length → 50 + d < k → (∀ j, j < i → when l.length (rl l) (dl l) (cy l) j ≤ dl l j) →
    dormouseref25_Late.l0 k l (doneL l) i = some (lateB l) := by
  have few := h.few
  induction d with
  | zero =>
    intro i k hi hk hj
    obtain ⟨k, rfl⟩ : ∃ q, k = q + 1 := ⟨k - 1, by omega⟩
    simp only [dormouseref25_Late.l0]
    rw [if_neg (by rw [doneL_len]; omega), rright_some l (by omega), Option.bind_some, rightB_yes h, lateB_no]
    · rfl
    · rintro (x | ⟨j, h1, h2⟩)
      · exact x h
      · have := hj j (by omega); omega
  | succ d ih =>
    intro i k hi hk hj
    obtain ⟨k, rfl⟩ : ∃ q, k = q + 1 := ⟨k - 1, by omega⟩
    have hil : i < l.length := by omega
    simp only [dormouseref25_Late.l0]
    rw [if_pos (by rw [doneL_len]; omega), if_pos (by omega), if_pos (by omega), doneL_rd l hil, show (rd_T32 l i).f1 = dl l i from rfl]
    by_cases c : when l.length (rl l) (dl l) (cy l) i > dl l i
    · rw [if_pos c, lateB_yes (.inr ⟨i, hil, c⟩)]
    · rw [if_neg c, w64 (n := (i : Int) + 1) (by omega) (by omega)]
      have := ih (i + 1) k (by omega) (by omega) (fun j hjl => by
        rcases Nat.lt_or_ge j i with x | x
        · exact hj j x
        · obtain rfl : j = i := by omega
          omega)
      rwa [show ((i + 1 : Nat) : Int) = (i : Int) + 1 from by omega] at this
theorem rlate_some (l : List S32) {k : Nat} (hk : 19100000 < k) : dormouseref25_Late.f k l = some (lateB l) := by
  unfold dormouseref25_Late.f
  rw [rrun_some l hk, Option.bind_some]
  by_cases c : RightW l
  · rw [runL_yes c]
    exact rlate_loop c l.length 0 k (by omega) (by have := c.few; omega) (fun j h => by omega)
  · obtain ⟨k, rfl⟩ : ∃ q, k = q + 1 := ⟨k - 1, by omega⟩
    rw [runL_no c]
    simp only [dormouseref25_Late.l0]
    rw [if_neg (by simp), rright_some l (by omega), Option.bind_some, rightB_no c, lateB_yes (.inl c)]; rfl
/-! ### demand -/
open Classical in
theorem rdemand_loop {l : List S32} (h : RightW l) (a b : Int) (d : Nat) : ∀ (i k : Nat), i + d = l.length → 50 + 2 * d < k →
    dormouseref25_Demand.l0 k l a b (of i (fun i => a ≤ rl l i ∧ dl l i ≤ b) (cy l)) i = some (dem l.length (rl l) (dl l) (cy l) a b) := by
  have few := h.few
  induction d with
  | zero =>
    intro i k hi hk
    obtain ⟨k, rfl⟩ : ∃ q, k = q + 1 := ⟨k - 1, by omega⟩
    obtain ⟨k, rfl⟩ : ∃ q, k = q + 1 := ⟨k - 1, by omega⟩
    obtain rfl : i = l.length := by omega
    simp only [dormouseref25_Demand.l0, dormouseref25_Demand.j1]
    rw [if_neg (by omega), if_neg (by simp)]; rfl
  | succ d ih =>
    intro i k hi hk
    obtain ⟨k, rfl⟩ : ∃ q, k = q + 1 := ⟨k - 1, by omega⟩
    obtain ⟨k, rfl⟩ : ∃ q, k = q + 1 := ⟨k - 1, by omega⟩
    have e1 : (rd_T32 l i).f0 = rl l i := rfl
    have e2 : (rd_T32 l i).f1 = dl l i := rfl
    have e3 : (rd_T32 l i).f2 = cy l i := rfl
    have bd := dem_bd h a b (n := i) (by omega)
    have c := h.cyc i (by omega)
    have ih := ih (i + 1) k (by omega) (by omega)
    rw [of_succ, show ((i + 1 : Nat) : Int) = (i : Int) + 1 from by omega] at ih
    simp only [dormouseref25_Demand.l0]
    rw [if_pos (by omega), rright_some l (by omega), Option.bind_some]
    simp only [dormouseref25_Demand.j1]
    rw [if_pos (rightB_yes h), if_pos (by omega), if_pos (by omega), e1, e2, e3, w64 (n := (i : Int) + 1) (by omega) (by omega)]
    by_cases c1 : rl l i ≥ a
    · rw [if_pos c1]
      by_cases c2 : dl l i ≤ b
      · rw [if_pos c2, w64 (by omega) (by omega)]
        rw [if_pos ⟨c1, c2⟩] at ih
        exact ih
      · rw [if_neg c2]
        rw [if_neg (fun x => c2 x.2), Int.add_zero] at ih
        exact ih
    · rw [if_neg c1]
      rw [if_neg (fun x => c1 x.1), Int.add_zero] at ih
      exact ih
theorem rdemand_some (l : List S32) (a b : Int) {k : Nat} (hk : 120 < k) : dormouseref25_Demand.f k l a b = some (demL l a b) := by
  unfold dormouseref25_Demand.f
  by_cases c : RightW l
  · rw [demL_yes c]
    exact rdemand_loop c a b l.length 0 k (by omega) (by have := c.few; omega)
  · obtain ⟨k, rfl⟩ : ∃ q, k = q + 1 := ⟨k - 1, by omega⟩
    obtain ⟨k, rfl⟩ : ∃ q, k = q + 1 := ⟨k - 1, by omega⟩
    rw [demL_no c]
    simp only [dormouseref25_Demand.l0]
    split
    · rw [rright_some l (by omega), Option.bind_some]; simp only [dormouseref25_Demand.j1]; rw [if_neg (by rw [rightB_no c]; simp)]
    · simp only [dormouseref25_Demand.j1]; rw [if_neg (by simp)]
/-! ### fits -/
theorem rfits_in {l : List S32} (h : RightW l) (i : Nat) (hi : i < l.length) (K : Nat) (hK : 200 ≤ K)
    (next : ∀ k : Nat, K ≤ k → (∀ j, j < l.length → rl l i ≤ dl l j → dem l.length (rl l) (dl l) (cy l) (rl l i) (dl l j) ≤ dl l j - rl l i) → dormouseref25_Fits.l0 k l ((i : Int) + 1) = some (fitsB l)) (d : Nat) :
    ∀ (j k : Nat), j + d = l.length → K + d < k → (∀ m, m < j → rl l i ≤ dl l m → dem l.length (rl l) (dl l) (cy l) (rl l i) (dl l m) ≤ dl l m - rl l i) →
    dormouseref25_Fits.l1 k l i j = some (fitsB l) := by
  have few := h.few
  have hri := h.rel i hi
  induction d with
  | zero =>
    intro j k hj hk hm
    obtain ⟨k, rfl⟩ : ∃ q, k = q + 1 := ⟨k - 1, by omega⟩
    simp only [dormouseref25_Fits.l1]
    rw [if_neg (by omega), w64 (n := (i : Int) + 1) (by omega) (by omega)]
    exact next k (by omega) (fun m hml => hm m (by omega))
  | succ d ih =>
    intro j k hj hk hm
    obtain ⟨k, rfl⟩ : ∃ q, k = q + 1 := ⟨k - 1, by omega⟩
    have hjl : j < l.length := by omega
    have hdj := h.dead j hjl
    have hrj := h.rel j hjl
    simp only [dormouseref25_Fits.l1]
    rw [if_pos (by omega), if_pos (by omega), if_pos (by omega), if_pos (by omega), show (rd_T32 l j).f1 = dl l j from rfl, show (rd_T32 l i).f0 = rl l i from rfl, w64 (n := (j : Int) + 1) (by omega) (by omega)]
    have ih := fun hm => ih (j + 1) k (by omega) (by omega) hm
    rw [show ((j + 1 : Nat) : Int) = (j : Int) + 1 from by omega] at ih
    by_cases c : dl l j ≥ rl l i
    · rw [if_pos c, rdemand_some l _ _ (by omega), Option.bind_some, demL_yes h, w64 (n := dl l j - rl l i) (by omega) (by omega)]
      by_cases c2 : dem l.length (rl l) (dl l) (cy l) (rl l i) (dl l j) > dl l j - rl l i
      · rw [if_pos c2, fitsB_no fun x => by have := x.2 i hi j hjl (by omega); omega]
      · rw [if_neg c2]
        exact ih fun m hml => by
          rcases Nat.lt_or_ge m j with x | x
          · exact hm m x
          · obtain rfl : m = j := by omega
            intro y; omega
    · rw [if_neg c]
      exact ih fun m hml => by
        rcases Nat.lt_or_ge m j with x | x
        · exact hm m x
        · obtain rfl : m = j := by omega
          intro y; omega
theorem rfits_loop {l : List S32} (h : RightW l) (d : Nat) : ∀ (i k : Nat), i + d = l.length → 40 * d + 300 ≤ k → (∀ m, m < i → ∀ j, j < l.length → rl l m ≤ dl l j → dem l.length (rl l) (dl l) (cy l) (rl l m) (dl l j) ≤ dl l j - rl l m) →
    dormouseref25_Fits.l0 k l i = some (fitsB l) := by
  have few := h.few
  induction d with
  | zero =>
    intro i k hi hk hm
    obtain ⟨k, rfl⟩ : ∃ q, k = q + 1 := ⟨k - 1, by omega⟩
    obtain ⟨k, rfl⟩ : ∃ q, k = q + 1 := ⟨k - 1, by omega⟩
    simp only [dormouseref25_Fits.l0, dormouseref25_Fits.j1]
    rw [if_neg (by omega), if_neg (by simp), rright_some l (by omega), Option.bind_some, rightB_yes h, fitsB_yes ⟨h, fun m hml => hm m (by omega)⟩]
  | succ d ih =>
    intro i k hi hk hm
    obtain ⟨k, rfl⟩ : ∃ q, k = q + 1 := ⟨k - 1, by omega⟩
    obtain ⟨k, rfl⟩ : ∃ q, k = q + 1 := ⟨k - 1, by omega⟩
    have hil : i < l.length := by omega
    simp only [dormouseref25_Fits.l0]
    rw [if_pos (by omega), rright_some l (by omega), Option.bind_some]
    simp only [dormouseref25_Fits.j1]
    rw [if_pos (rightB_yes h)]
    exact rfits_in h i hil (40 * d + 300) (by omega) (fun k hk hj => by
      have := ih (i + 1) k (by omega) hk (fun m hml => by
        rcases Nat.lt_or_ge m i with x | x
        · exact hm m x
        · obtain rfl : m = i := by omega
          exact hj)
      rwa [show ((i + 1 : Nat) : Int) = (i : Int) + 1 from by omega] at this) l.length 0 k (by omega) (by omega) (fun m hml => by omega)
theorem rfits_some (l : List S32) {k : Nat} (hk : 2000 < k) : dormouseref25_Fits.f k l = some (fitsB l) := by
  unfold dormouseref25_Fits.f
  by_cases c : RightW l
  · exact rfits_loop c l.length 0 k (by omega) (by have := c.few; omega) (fun m h => by omega)
  · obtain ⟨k, rfl⟩ : ∃ q, k = q + 1 := ⟨k - 1, by omega⟩
    obtain ⟨k, rfl⟩ : ∃ q, k = q + 1 := ⟨k - 1, by omega⟩
    rw [fitsB_no (fun x => c x.1)]
    simp only [dormouseref25_Fits.l0]
    split
    · rw [rright_some l (by omega), Option.bind_some]; simp only [dormouseref25_Fits.j1]; rw [if_neg (by rw [rightB_no c]; simp), rright_some l (by omega), Option.bind_some, rightB_no c]
    · simp only [dormouseref25_Fits.j1]; rw [if_neg (by simp), rright_some l (by omega), Option.bind_some, rightB_no c]
end Go.Proofs.Ytanakihfgdgdfaa.Sm
