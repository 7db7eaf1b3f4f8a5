/- Plain EDF: sim's functions and the document's, as plain mathematics over the told functions. -/
import Derived.Test.YtdjmcjfdkcckoaaEdf2
import Derived.Test.YtdjmcjfdkcckoaaRun
namespace Go.Proofs.Ytdjmcjfdkcckoaa.Sm
open Go.RowKit Go.Proofs.Ytdjmcjfdkcckoaa.F Go.Proofs.Ytdjmcjfdkcckoaa.Edf Go.Proofs.YtdjmcjfdkcckoaaW.PrintWords Go.Proofs.YtdjmcjfdkcckoaaW.PrintLast
set_option linter.unusedVariables false
theorem w64 {n : Int} (h0 : -9223372036854775808 ≤ n) (h1 : n ≤ 9223372036854775807) : wrap64 n = n := by unfold wrap64; omega
def rl (l : List S31) (i : Nat) : Int := (rd_T31 l i).f0
def dl (l : List S31) (i : Nat) : Int := (rd_T31 l i).f1
def cy (l : List S31) (i : Nat) : Int := (rd_T31 l i).f2
def RightW (l : List S31) : Prop := OkW l.length (rl l) (dl l) (cy l)
open Classical in
noncomputable def rightB (l : List S31) : Bool := decide (RightW l)
theorem rightB_no {l : List S31} (h : ¬ RightW l) : rightB l = false := by simp [rightB, h]
theorem rightB_yes {l : List S31} (h : RightW l) : rightB l = true := by simp [rightB, h]
theorem within_some (a b c : Int) : sim_within.f a b c = some (decide (b ≤ a ∧ a ≤ c)) := by
  unfold sim_within.f
  by_cases h : a ≥ b
  · rw [if_pos h]; simp; intro h2; omega
  · rw [if_neg h]; simp; omega
theorem right_loop (l : List S31) (h8 : l.length ≤ 32) (d : Nat) : ∀ (i k : Nat), i + d = l.length → d < k → (∀ j : Nat, j < i → (0 ≤ rl l j ∧ rl l j ≤ 16384) ∧ (0 ≤ cy l j ∧ cy l j ≤ 16384) ∧ (rl l j ≤ dl l j ∧ dl l j ≤ 32768)) →
    sim_right.l0 k l l.length i = some (rightB l) := by
  induction d with
  | zero =>
    intro i k hi hk hj
    obtain ⟨k, rfl⟩ : ∃ q, k = q + 1 := ⟨k - 1, by omega⟩
    simp only [sim_right.l0]
    rw [if_neg (by omega), rightB_yes ⟨fun j h => (hj j (by omega)).1, fun j h => (hj j (by omega)).2.1, fun j h => (hj j (by omega)).2.2, h8⟩]
  | succ d ih =>
    intro i k hi hk hj
    obtain ⟨k, rfl⟩ : ∃ q, k = q + 1 := ⟨k - 1, by omega⟩
    simp only [sim_right.l0]
    have e1 : (rd_T31 l i).f0 = rl l i := rfl
    have e2 : (rd_T31 l i).f1 = dl l i := rfl
    have e3 : (rd_T31 l i).f2 = cy l i := rfl
    rw [if_pos (by omega), if_pos (by omega), if_pos (by omega), within_some, Option.bind_some, e1]
    by_cases c1 : 0 ≤ rl l i ∧ rl l i ≤ 16384
    · rw [if_pos (decide_eq_true c1), within_some, Option.bind_some, e3]
      by_cases c2 : 0 ≤ cy l i ∧ cy l i ≤ 16384
      · rw [if_pos (decide_eq_true c2), within_some, Option.bind_some, e2]
        by_cases c3 : rl l i ≤ dl l i ∧ dl l i ≤ 32768
        · rw [if_pos (decide_eq_true c3), w64 (n := (i : Int) + 1) (by omega) (by omega)]
          have := ih (i + 1) k (by omega) (by omega) (fun j h => by
            rcases Nat.lt_or_ge j i with h | h
            · exact hj j h
            · obtain rfl : j = i := by omega
              exact ⟨c1, c2, c3⟩)
          rw [show ((i + 1 : Nat) : Int) = (i : Int) + 1 from by omega] at this
          exact this
        · rw [if_neg (by simpa using c3), rightB_no (fun x => c3 (x.dead i (by omega)))]
      · rw [if_neg (by simpa using c2), rightB_no (fun x => c2 (x.cyc i (by omega)))]
    · rw [if_neg (by simpa using c1), rightB_no (fun x => c1 (x.rel i (by omega)))]
theorem right_some (l : List S31) {k : Nat} (hk : 40 < k) : sim_right.f k l = some (rightB l) := by
  unfold sim_right.f
  by_cases c : (l.length : Int) > 32
  · rw [if_pos c, rightB_no (fun x => by have := x.few; omega)]
  · rw [if_neg c]
    exact right_loop l (by omega) l.length 0 k (by omega) (by omega) (fun j h => by omega)
/-! ### lists of a function's values -/
def lst (n : Nat) (f : Nat → Int) : List Int := (List.range n).map f
theorem lst_len (n : Nat) (f : Nat → Int) : (lst n f).length = n := by simp [lst]
theorem lst_rd {n : Nat} {f : Nat → Int} {i : Nat} (hi : i < n) : rd (lst n f) i = f i := by
  unfold rd lst
  rw [Int.toNat_natCast, List.getD_eq_getElem?_getD, List.getElem?_map, List.getElem?_range hi]; rfl
theorem lst_congr {n : Nat} {f g : Nat → Int} (h : ∀ i, i < n → f i = g i) : lst n f = lst n g := List.map_congr_left fun i hi => h i (List.mem_range.1 hi)
theorem lst_set {n : Nat} {f : Nat → Int} (b : Nat) (x : Int) : (lst n f).set b x = lst n (fun i => if i = b then x else f i) := by
  apply List.ext_getElem
  · simp [lst]
  · intro i h1 h2
    simp [lst, List.getElem_set]
    by_cases e : b = i
    · rw [if_pos e, if_pos e.symm]
    · rw [if_neg e, if_neg (fun x => e x.symm)]
theorem lst_zero (n : Nat) : List.replicate n (0 : Int) = lst n (fun _ => 0) := by
  apply List.ext_getElem
  · simp [lst]
  · intro i h1 h2; simp [lst]
theorem lst_nat {n : Nat} {f : Nat → Int} {i : Int} (h0 : 0 ≤ i) (h1 : i < n) : rd (lst n f) i = f i.toNat := by
  have := lst_rd (f := f) (i := i.toNat) (n := n) (by omega)
  rwa [Int.toNat_of_nonneg h0] at this
/-! ### whose turn it is -/
/-- as far as the first j works tell -/
def Seen (n : Nat) (r d left : Nat → Int) (t : Int) (j : Nat) (x : Int) : Prop :=
  (x = -1 ∧ ∀ i, i < j → ¬ Ready n r left t i) ∨ ∃ b : Nat, x = b ∧ b < j ∧ Ready n r left t b ∧ ∀ i, i < j → Ready n r left t i → i ≠ b → Ahead d b i
theorem seen_skip {n : Nat} {r d left : Nat → Int} {t : Int} {j : Nat} {x : Int} (h : Seen n r d left t j x) (hj : ¬ Ready n r left t j) : Seen n r d left t (j + 1) x := by
  have key : ∀ i, i < j + 1 → Ready n r left t i → i < j := fun i hi hr => by
    rcases Nat.lt_or_ge i j with y | y
    · exact y
    · obtain rfl : i = j := by omega
      exact absurd hr hj
  rcases h with ⟨e, h⟩ | ⟨b, e, hb, h1, h2⟩
  · exact .inl ⟨e, fun i hi hr => h i (key i hi hr) hr⟩
  · exact .inr ⟨b, e, by omega, h1, fun i hi hr hne => h2 i (key i hi hr) hr hne⟩
theorem seen_none {n : Nat} {r d left : Nat → Int} {t : Int} {j : Nat} {x : Int} (h : Seen n r d left t j x) (hx : x < 0) (hj : Ready n r left t j) : Seen n r d left t (j + 1) j := by
  rcases h with ⟨e, h⟩ | ⟨b, e, hb, h1, h2⟩
  · refine .inr ⟨j, rfl, by omega, hj, fun i hi hr hne => absurd hr (h i (by omega))⟩
  · omega
theorem seen_less {n : Nat} {r d left : Nat → Int} {t : Int} {j b : Nat} (h : Seen n r d left t j b) (hj : Ready n r left t j) (hd : d j < d b) : Seen n r d left t (j + 1) j := by
  rcases h with ⟨e, h⟩ | ⟨b', e, hb, h1, h2⟩
  · omega
  · obtain rfl : b' = b := by omega
    refine .inr ⟨j, rfl, by omega, hj, fun i hi hr hne => ?_⟩
    by_cases e : i = b'
    · subst e; exact .inl hd
    · have := h2 i (by omega) hr e
      unfold Ahead at *; omega
theorem seen_more {n : Nat} {r d left : Nat → Int} {t : Int} {j b : Nat} (h : Seen n r d left t j b) (hd : ¬ d j < d b) : Seen n r d left t (j + 1) b := by
  rcases h with ⟨e, h⟩ | ⟨b', e, hb, h1, h2⟩
  · omega
  · obtain rfl : b' = b := by omega
    refine .inr ⟨b', rfl, by omega, h1, fun i hi hr hne => ?_⟩
    rcases Nat.lt_or_ge i j with y | y
    · exact h2 i y hr hne
    · obtain rfl : i = j := by omega
      unfold Ahead; omega
theorem seen_start (n : Nat) (r d left : Nat → Int) (t : Int) : Seen n r d left t 0 (-1) := .inl ⟨rfl, fun i hi => by omega⟩
theorem seen_end {n : Nat} {r d left : Nat → Int} {t : Int} {x : Int} (h : Seen n r d left t n x) : (x = -1 ∧ best n r d left t = none) ∨ ∃ b : Nat, x = b ∧ b < n ∧ best n r d left t = some b := by
  rcases h with ⟨e, h⟩ | ⟨b, e, hb, h1, h2⟩
  · exact .inl ⟨e, (best_none n r d).2 fun i hi => h i hi.1 hi⟩
  · exact .inr ⟨b, e, hb, (best_some n r d).2 ⟨h1, fun i hi hne => h2 i hi.1 hi hne⟩⟩
theorem first_loop (l : List S31) (hn : l.length ≤ 32) {left : Nat → Int} (hl : ∀ i, i < l.length → 0 ≤ left i) (now : Int) (d : Nat) : ∀ (j k : Nat) (x : Int), j + d = l.length → 2 * d < k → Seen l.length (rl l) (dl l) left now j x →
    ∃ y, sim_state_first.l0 k x l l.length j l (lst l.length left) now = some (y, now) ∧ Seen l.length (rl l) (dl l) left now l.length y := by
  induction d with
  | zero =>
    intro j k x hj hk hs
    obtain ⟨k, rfl⟩ : ∃ q, k = q + 1 := ⟨k - 1, by omega⟩
    obtain rfl : j = l.length := by omega
    simp only [sim_state_first.l0]
    rw [if_neg (by omega)]
    exact ⟨x, rfl, hs⟩
  | succ d ih =>
    intro j k x hj hk hs
    obtain ⟨k, rfl⟩ : ∃ q, k = q + 1 := ⟨k - 1, by omega⟩
    obtain ⟨k, rfl⟩ : ∃ q, k = q + 1 := ⟨k - 1, by omega⟩
    have hjl : j < l.length := by omega
    have e1 : (rd_T31 l j).f0 = rl l j := rfl
    have e2 : (rd_T31 l j).f1 = dl l j := rfl
    have hlj := hl j hjl
    have go : ∀ y, Seen l.length (rl l) (dl l) left now (j + 1) y → ∃ z, sim_state_first.l0 k y l l.length (wrap64 ((j : Int) + 1)) l (lst l.length left) now = some (z, now) ∧ Seen l.length (rl l) (dl l) left now l.length z := by
      intro y hy
      have := ih (j + 1) k y (by omega) (by omega) hy
      rw [w64 (by omega) (by omega)]
      rwa [show ((j + 1 : Nat) : Int) = (j : Int) + 1 from by omega] at this
    simp only [sim_state_first.l0]
    rw [if_pos (by omega), if_pos (by omega), if_pos (by omega), if_pos (by rw [lst_len]; omega), lst_rd hjl, e1, e2]
    by_cases z : left j = 0
    · rw [if_pos z]
      simp only [sim_state_first.j1]
      rw [if_pos (by trivial)]
      exact go x (seen_skip hs (fun hr => by have := hr.2.1; omega))
    · rw [if_neg z]
      simp only [sim_state_first.j1]
      by_cases c : rl l j > now
      · rw [if_pos (decide_eq_true c)]
        exact go x (seen_skip hs (fun hr => by have := hr.2.2; omega))
      · have hr : Ready l.length (rl l) left now j := ⟨hjl, by omega, by omega⟩
        rw [if_neg (by simpa using c)]
        by_cases c2 : x < 0
        · rw [if_pos c2]; exact go j (seen_none hs c2 hr)
        · rw [if_neg c2, if_pos (by omega)]
          have hx : ∃ b : Nat, x = b ∧ b < l.length := by
            rcases hs with ⟨e, _⟩ | ⟨b, e, hb, _⟩
            · omega
            · exact ⟨b, e, by omega⟩
          obtain ⟨b, rfl, hb⟩ := hx
          rw [if_pos (by omega), show (rd_T31 l b).f1 = dl l b from rfl]
          by_cases c3 : dl l j < dl l b
          · rw [if_pos c3]; exact go j (seen_less hs hr c3)
          · rw [if_neg c3]; exact go b (seen_more hs c3)
theorem first_some (l : List S31) (hn : l.length ≤ 32) {left : Nat → Int} (hl : ∀ i, i < l.length → 0 ≤ left i) (now : Int) {k : Nat} (hk : 70 < k) :
    ∃ y, sim_state_first.f k l (lst l.length left) now = some (y, now) ∧ ((y = -1 ∧ best l.length (rl l) (dl l) left now = none) ∨ ∃ b : Nat, y = b ∧ b < l.length ∧ best l.length (rl l) (dl l) left now = some b) := by
  unfold sim_state_first.f
  obtain ⟨y, e, h⟩ := first_loop l hn hl now l.length 0 k (-1) (by omega) (by omega) (seen_start _ _ _ _ _)
  exact ⟨y, e, seen_end h⟩
/-! ### when the next one comes -/
theorem coming_loop (l : List S31) (hn : l.length ≤ 32) (ls : List Int) (now : Int) (d : Nat) : ∀ (j k : Nat) (x : Int) (b : Bool), j + d = l.length → d < k →
    ((b = false ∧ x = 0 ∧ ∀ i, i < j → rl l i ≤ now) ∨ (b = true ∧ (∃ i, i < l.length ∧ rl l i = x) ∧ now < x ∧ ∀ i, i < j → now < rl l i → x ≤ rl l i)) →
    ∃ y c, sim_state_coming.l0 k x b l l.length j l ls now = some (y, c, now) ∧ ((c = false ∧ y = 0 ∧ ∀ i, i < l.length → rl l i ≤ now) ∨ (c = true ∧ (∃ i, i < l.length ∧ rl l i = y) ∧ now < y ∧ ∀ i, i < l.length → now < rl l i → y ≤ rl l i)) := by
  induction d with
  | zero =>
    intro j k x b hj hk hs
    obtain ⟨k, rfl⟩ : ∃ q, k = q + 1 := ⟨k - 1, by omega⟩
    obtain rfl : j = l.length := by omega
    simp only [sim_state_coming.l0]
    rw [if_neg (by omega)]
    exact ⟨x, b, rfl, hs⟩
  | succ d ih =>
    intro j k x b hj hk hs
    obtain ⟨k, rfl⟩ : ∃ q, k = q + 1 := ⟨k - 1, by omega⟩
    have hjl : j < l.length := by omega
    have e1 : (rd_T31 l j).f0 = rl l j := rfl
    have lt1 : ∀ i, i < j + 1 → i < j ∨ i = j := fun i hi => by omega
    simp only [sim_state_coming.l0]
    rw [if_pos (by omega), if_pos (by omega), if_pos (by omega), e1, w64 (n := (j : Int) + 1) (by omega) (by omega)]
    have go := fun y c h => ih (j + 1) k y c (by omega) (by omega) h
    rw [show ((j + 1 : Nat) : Int) = (j : Int) + 1 from by omega] at go
    by_cases c1 : rl l j > now
    · rw [if_pos c1]
      cases b with
      | true =>
        obtain ⟨_, h1, h2, h3⟩ := hs.resolve_left (fun x => by cases x.1)
        rw [if_pos rfl]
        by_cases c2 : rl l j < x
        · rw [if_pos c2]
          refine go _ _ (.inr ⟨rfl, ⟨j, hjl, rfl⟩, c1, fun i hi hr => ?_⟩)
          rcases lt1 i hi with y | y
          · have := h3 i y hr; omega
          · subst y; omega
        · rw [if_neg c2]
          refine go _ _ (.inr ⟨rfl, h1, h2, fun i hi hr => ?_⟩)
          rcases lt1 i hi with y | y
          · exact h3 i y hr
          · subst y; omega
      | false =>
        obtain ⟨_, _, h1⟩ := hs.resolve_right (fun x => by cases x.1)
        rw [if_neg (by simp)]
        refine go _ _ (.inr ⟨rfl, ⟨j, hjl, rfl⟩, c1, fun i hi hr => ?_⟩)
        rcases lt1 i hi with y | y
        · have := h1 i y; omega
        · subst y; omega
    · rw [if_neg c1]
      refine go _ _ ?_
      rcases hs with ⟨e, e0, h⟩ | ⟨e, h1, h2, h3⟩
      · refine .inl ⟨e, e0, fun i hi => ?_⟩
        rcases lt1 i hi with y | y
        · exact h i y
        · subst y; omega
      · refine .inr ⟨e, h1, h2, fun i hi hr => ?_⟩
        rcases lt1 i hi with y | y
        · exact h3 i y hr
        · subst y; omega
theorem coming_some (l : List S31) (hn : l.length ≤ 32) (ls : List Int) (now : Int) {k : Nat} (hk : 40 < k) :
    ∃ y c, sim_state_coming.f k l ls now = some (y, c, now) ∧ ((c = false ∧ y = 0 ∧ ∀ i, i < l.length → rl l i ≤ now) ∨ (c = true ∧ (∃ i, i < l.length ∧ rl l i = y) ∧ now < y ∧ ∀ i, i < l.length → now < rl l i → y ≤ rl l i)) := by
  unfold sim_state_coming.f
  exact coming_loop l hn ls now l.length 0 k 0 false (by omega) (by omega) (.inl ⟨rfl, rfl, fun i hi => by omega⟩)
/-! ### when each is done -/
noncomputable def doneL (l : List S31) : List Int := lst l.length (when l.length (rl l) (dl l) (cy l))
theorem doneL_len (l : List S31) : (doneL l).length = l.length := lst_len _ _
theorem doneL_rd (l : List S31) {i : Nat} (hi : i < l.length) : rd (doneL l) i = when l.length (rl l) (dl l) (cy l) i := lst_rd hi
theorem at_end {l : List S31} {t : Nat} (ht : t ≤ 540672) (h0 : ∀ i, i < l.length → left l.length (rl l) (dl l) (cy l) t i = 0) : lst l.length (done l.length (rl l) (dl l) (cy l) t) = doneL l := by
  obtain ⟨q, hq⟩ := Nat.le.dest ht
  refine lst_congr fun i _ => ?_
  have := (done_stays h0 q).2 i
  unfold when
  rw [← hq]
  exact this.symm
theorem left_bd {l : List S31} (h : RightW l) (t : Nat) {i : Nat} (hi : i < l.length) : 0 ≤ left l.length (rl l) (dl l) (cy l) t i ∧ left l.length (rl l) (dl l) (cy l) t i ≤ 16384 := by
  have a := left_nonneg (r := rl l) (d := dl l) h.cn t i hi
  have b := left_le (n := l.length) (r := rl l) (d := dl l) (c := cy l) t i
  have c := h.cyc i hi
  omega
theorem run_events {l : List S31} (h : RightW l) (m : Nat) : ∀ (t k : Nat), t ≤ 540672 → 540672 ≤ t + m → 100 + m < k →
    sim_Run.l1 k l (lst l.length (left l.length (rl l) (dl l) (cy l) t)) (lst l.length (done l.length (rl l) (dl l) (cy l) t)) t = some (doneL l) := by
  have few := h.few
  induction m using Nat.strongRecOn with
  | ind m ih =>
    intro t k ht hm hk
    obtain ⟨k, rfl⟩ : ∃ q, k = q + 1 := ⟨k - 1, by omega⟩
    obtain ⟨y, e1, hy⟩ := first_some l few (left := left l.length (rl l) (dl l) (cy l) t) (fun i hi => (left_bd h t hi).1) (t : Int) (k := k) (by omega)
    obtain ⟨u, b, e2, hu⟩ := coming_some l few (lst l.length (left l.length (rl l) (dl l) (cy l) t)) (t : Int) (k := k) (by omega)
    simp only [sim_Run.l1]
    rw [e1, Option.bind_some, e2, Option.bind_some]
    simp only []
    rw [if_pos ⟨trivial, trivial⟩]
    rcases hy with ⟨rfl, hb⟩ | ⟨bi, rfl, hbi, hb⟩
    · -- nobody waits
      rw [if_pos (by omega)]
      have nr := (best_none _ _ _).1 hb
      rcases hu with ⟨rfl, hu0, hu⟩ | ⟨rfl, ⟨i, hi, hiu⟩, hlt, hmin⟩
      · rw [if_neg (by simp)]
        rw [at_end ht fun i hi => by
          have lb := left_bd h t hi
          rcases Int.lt_or_le 0 (left l.length (rl l) (dl l) (cy l) t i) with x | x
          · exact absurd ⟨hi, x, hu i hi⟩ (nr i)
          · omega]
      · rw [if_pos rfl]
        have rb := h.rel i hi
        obtain ⟨s, hs⟩ : ∃ s : Nat, u = ((t + s : Nat) : Int) := ⟨(u - t).toNat, by omega⟩
        have id := idle_run (n := l.length) (r := rl l) (d := dl l) (c := cy l) nr s (fun j hj hr => by have := hmin j hj hr; omega) s (Nat.le_refl _)
        rw [hs, ← lst_congr (fun j _ => id.1 j), ← lst_congr (fun j _ => id.2 j)]
        exact ih (m - s) (by omega) (t + s) k (by omega) (by omega) (by omega)
    · -- whose turn it is goes on
      rw [if_neg (by omega)]
      have tn : turn l.length (rl l) (dl l) (cy l) t = some bi := hb
      have rd0 := turn_ready _ _ _ _ tn
      have lb := left_bd h t hbi
      have ub : 0 ≤ u ∧ u ≤ 1048576 := by
        rcases hu with ⟨_, e, _⟩ | ⟨e, ⟨i, hi, hiu⟩, hlt, _⟩
        · omega
        · have := h.rel i hi; omega
      have step : ∀ s : Nat, 1 ≤ s → (s : Int) ≤ left l.length (rl l) (dl l) (cy l) t bi → (∀ i, i < l.length → (t : Int) < rl l i → (t : Int) + s ≤ rl l i) →
          sim_Run.l1 k l (lst l.length (fun i => if i = bi then left l.length (rl l) (dl l) (cy l) t bi - s else left l.length (rl l) (dl l) (cy l) t i)) (lst l.length (fun i => if i = bi then (t : Int) + s else done l.length (rl l) (dl l) (cy l) t i)) ((t + s : Nat) : Int) = some (doneL l) := by
        intro s hs hl hr
        have br := best_run tn s hl hr
        have bs := br s (Nat.le_refl _)
        have hts : t + s ≤ 540672 := by
          rcases Nat.lt_or_ge 540672 (t + s) with x | x
          · exfalso
            have b2 := (br (540672 - t) (by omega)).1 bi
            rw [if_pos rfl, show t + (540672 - t) = 540672 from by omega, ended h bi hbi] at b2
            omega
          · exact x
        rw [← lst_congr (fun j _ => bs.1 j)]
        have e : ∀ j, j < l.length → done l.length (rl l) (dl l) (cy l) (t + s) j = if j = bi then (t : Int) + s else done l.length (rl l) (dl l) (cy l) t j := fun j _ => by
          rw [bs.2 j]
          by_cases x : j = bi
          · rw [if_pos ⟨x, by omega⟩, if_pos x]
          · rw [if_neg (fun y => x y.1), if_neg x]
        rw [← lst_congr e]
        exact ih (m - s) (by omega) (t + s) k hts (by omega) (by omega)
      have fin : sim_Run.l1 k l ((lst l.length (left l.length (rl l) (dl l) (cy l) t)).set bi 0) ((lst l.length (done l.length (rl l) (dl l) (cy l) t)).set bi ((t : Int) + left l.length (rl l) (dl l) (cy l) t bi)) ((t : Int) + left l.length (rl l) (dl l) (cy l) t bi) = some (doneL l) ∨ ∃ i, i < l.length ∧ (t : Int) < rl l i ∧ rl l i < (t : Int) + left l.length (rl l) (dl l) (cy l) t bi := by
        by_cases ex : ∃ i, i < l.length ∧ (t : Int) < rl l i ∧ rl l i < (t : Int) + left l.length (rl l) (dl l) (cy l) t bi
        · exact .inr ex
        · left
          have := step (left l.length (rl l) (dl l) (cy l) t bi).toNat (by have := rd0.2.1; omega) (by omega) (fun i hi hr => by
            rcases Int.lt_or_le (rl l i) ((t : Int) + left l.length (rl l) (dl l) (cy l) t bi) with x | x
            · exact absurd ⟨i, hi, hr, x⟩ ex
            · omega)
          rw [lst_set, lst_set]
          rw [show ((t + (left l.length (rl l) (dl l) (cy l) t bi).toNat : Nat) : Int) = (t : Int) + left l.length (rl l) (dl l) (cy l) t bi from by omega, Int.toNat_of_nonneg lb.1, Int.sub_self] at this
          exact this
      rw [if_pos]
      · rw [Int.toNat_natCast, lst_rd hbi]
        rcases hu with ⟨rfl, hu0, hu⟩ | ⟨rfl, ⟨i, hi, hiu⟩, hlt, hmin⟩
        · rw [if_neg (by simp)]
          rcases fin with f | ⟨i, hi, hr, _⟩
          · exact f
          · have := hu i hi; omega
        · rw [if_pos rfl]
          by_cases c : left l.length (rl l) (dl l) (cy l) t bi ≤ u - t
          · rw [if_pos c]
            rcases fin with f | ⟨i, hi, hr, hr2⟩
            · exact f
            · have := hmin i hi hr; omega
          · rw [if_neg c]
            have := step (u - t).toNat (by omega) (by omega) (fun i hi hr => by have := hmin i hi hr; omega)
            rw [lst_set, lst_set]
            rw [show ((t + (u - t).toNat : Nat) : Int) = (t : Int) + (u - t) from by omega, show (((u - t).toNat : Nat) : Int) = u - t from by omega] at this
            exact this
      · rw [lst_nat (i := (bi : Int)) (by omega) (by omega), Int.toNat_natCast]
        exact ⟨by omega, by omega, by omega, lb.1, by omega, ub⟩
end Go.Proofs.Ytdjmcjfdkcckoaa.Sm
