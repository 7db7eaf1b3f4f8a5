/- Chapter 25's laws but SimRuns and SimLate: what a row calls. -/
import Derived.Test.YtanakihfgdgdfaaLB
import Derived.Test.YtanakihfgdgdfaaRq
import Derived.Test.YtanakihfgdgdfaaFx18
import Derived.Test.YtanakihfgdgdfaaFx19
import Derived.Test.YtanakihfgdgdfaaFx20
import Derived.Test.YtanakihfgdgdfaaFx21
import Derived.Test.YtanakihfgdgdfaaFx22
namespace Go.Proofs.Ytanakihfgdgdfaa.Opn
open Go.RowKit Go.ChangeShapes Go.WideShapes Go.Deep Go.Proofs.Ytanakihfgdgdfaa.F Go.Proofs.YtanakihfgdgdfaaW.PrintWords Go.Proofs.YtanakihfgdgdfaaW.PrintLast Go.Proofs.YtanakihfgdgdfaaW.PrintMore
theorem oU8 : Opens Try.prog 5 (Kd.int .u8) (fun n => (Lit.int .u8 n).wf = true) := opens_int Try.underlying5
theorem oU8s : Opens Try.prog 30 (Kd.slice 5 (Kd.int .u8)) (fun xs => ∀ x ∈ xs, (Lit.int .u8 x).wf = true) := opens_slice Try.underlying30 (by kernel_rfl) oU8
end Go.Proofs.Ytanakihfgdgdfaa.Opn
namespace Go.Proofs.Ytanakihfgdgdfaa.Law
open Go.RowKit Go.Proofs.Ytanakihfgdgdfaa.F Go.Proofs.Ytanakihfgdgdfaa.Edf Go.Proofs.Ytanakihfgdgdfaa.Sm Go.Proofs.Ytanakihfgdgdfaa.Opn Go.Proofs.YtanakihfgdgdfaaW.PrintWords Go.Proofs.YtanakihfgdgdfaaW.PrintLast Go.Proofs.YtanakihfgdgdfaaW.PrintMore
set_option linter.unusedVariables false
theorem criterion_pure (l : List S32) {k : Nat} (hk : 20000000 < k) : dormouselaw25_SimCriterion.f k l = some true := by
  unfold dormouselaw25_SimCriterion.f
  rw [answers_yes (by omega), Option.bind_some, if_pos rfl, Sm.fits_some l (by omega), Option.bind_some, late_some l (by omega), Option.bind_some, fits_not_late]
  simp
/-! ### the best of all ways -/
theorem best_end {l : List S32} (h : RightW l) (way : Nat → Int) (T : Nat) (d : Nat) : ∀ (i k : Nat), i + d = l.length → 800000 + d < k → (∀ j, j < i → cy l j ≤ Edf.served (rl l) (dl l) way T j) →
    dormouselaw25_SimBest.l1 k l (lst l.length (Edf.served (rl l) (dl l) way T)) i = some true := by
  have few := h.few
  induction d with
  | zero =>
    intro i k hi hk hj
    obtain ⟨k, rfl⟩ : ∃ q, k = q + 1 := ⟨k - 1, by omega⟩
    have nl : ¬ LateL l := by
      rintro (x | x)
      · exact x h
      · exact best_of_all h (fun j hjl => hj j (by omega)) x
    simp only [dormouselaw25_SimBest.l1]
    rw [if_neg (by omega), answers_yes (by omega), Option.bind_some, if_pos rfl, late_some l (by omega), Option.bind_some, lateB_no nl]; rfl
  | succ d ih =>
    intro i k hi hk hj
    obtain ⟨k, rfl⟩ : ∃ q, k = q + 1 := ⟨k - 1, by omega⟩
    have hil : i < l.length := by omega
    simp only [dormouselaw25_SimBest.l1]
    rw [if_pos (by omega), if_pos (by omega), if_pos (by rw [lst_len]; omega), lst_rd hil, show (rd_T32 l i).f2 = cy l i from rfl]
    by_cases c : Edf.served (rl l) (dl l) way T i < cy l i
    · rw [if_pos c, answers_yes (by omega), Option.bind_some]
    · rw [if_neg c, Sm.w64 (n := (i : Int) + 1) (by omega) (by omega)]
      have := ih (i + 1) k (by omega) (by omega) (fun j hjl => by
        rcases Nat.lt_or_ge j i with x | x
        · exact hj j x
        · obtain rfl : j = i := by omega
          omega)
      rwa [show ((i + 1 : Nat) : Int) = (i : Int) + 1 from by omega] at this
theorem served_le {r d : Nat → Int} (way : Nat → Int) : ∀ t i, Edf.served r d way t i ≤ t
  | 0, _ => Int.le_refl _
  | t + 1, i => by have := served_le (r := r) (d := d) way t i; show Edf.served r d way t i + _ ≤ _; split <;> omega
theorem best_loop {l : List S32} (h : RightW l) (ws : List Int) (hw : ∀ x ∈ ws, (Lit.int .u8 x).wf = true) (d : Nat) : ∀ (t k : Nat), t ≤ 32768 → 32768 ≤ t + d → t ≤ ws.length → 900000 + 2 * d < k →
    dormouselaw25_SimBest.l0 k l ws (lst l.length (Edf.served (rl l) (dl l) (fun i => rd ws i) t)) t = some true := by
  have few := h.few
  have fin : ∀ (t k : Nat), 800100 < k → dormouselaw25_SimBest.j2 k l ws (lst l.length (Edf.served (rl l) (dl l) (fun i => rd ws i) t)) t false = some true := by
    intro t k hk
    obtain ⟨k, rfl⟩ : ∃ q, k = q + 1 := ⟨k - 1, by omega⟩
    simp only [dormouselaw25_SimBest.j2]
    rw [if_neg (by simp)]
    exact best_end h _ t l.length 0 k (by omega) (by omega) (fun j hj => by omega)
  induction d with
  | zero =>
    intro t k h1 h2 h3 hk
    obtain ⟨k, rfl⟩ : ∃ q, k = q + 1 := ⟨k - 1, by omega⟩
    simp only [dormouselaw25_SimBest.l0]
    split
    · rw [decide_eq_false (by omega)]; exact fin t k (by omega)
    · exact fin t k (by omega)
  | succ d ih =>
    intro t k h1 h2 h3 hk
    obtain ⟨k, rfl⟩ : ∃ q, k = q + 1 := ⟨k - 1, by omega⟩
    simp only [dormouselaw25_SimBest.l0]
    by_cases c : (t : Int) < (ws.length : Int)
    · rw [if_pos c]
      by_cases c2 : (t : Int) < 32768
      · rw [decide_eq_true c2]
        obtain ⟨k, rfl⟩ : ∃ q, k = q + 1 := ⟨k - 1, by omega⟩
        have htl : t < ws.length := by omega
        have eb : 0 ≤ rd ws t ∧ rd ws t ≤ 255 := by
          have m : rd ws t ∈ ws := by
            unfold rd
            rw [Int.toNat_natCast, List.getD_eq_getElem?_getD, List.getElem?_eq_getElem htl]
            exact List.getElem_mem htl
          exact bd_u8 (hw _ m)
        have next := ih (t + 1) k (by omega) (by omega) (by omega) (by omega)
        rw [show ((t + 1 : Nat) : Int) = (t : Int) + 1 from by omega] at next
        have same : (∀ i, i < l.length → ¬ (rd ws t = i ∧ rl l i ≤ t ∧ (t : Int) < dl l i)) → dormouselaw25_SimBest.l0 k l ws (lst l.length (Edf.served (rl l) (dl l) (fun i => rd ws i) t)) ((t : Int) + 1) = some true := by
          intro hn
          rw [lst_congr (f := Edf.served (rl l) (dl l) (fun i => rd ws i) (t + 1)) (g := Edf.served (rl l) (dl l) (fun i => rd ws i) t) (fun i hi => by
            show Edf.served (rl l) (dl l) (fun i => rd ws i) t i + (if rd ws t = i ∧ rl l i ≤ t ∧ (t : Int) < dl l i then 1 else 0) = _
            rw [if_neg (hn i hi), Int.add_zero])] at next
          exact next
        simp only [dormouselaw25_SimBest.j2]
        rw [if_pos (by trivial), if_pos (by omega), if_pos c, Sm.w64 (n := rd ws t) (by omega) (by omega), Sm.w64 (n := (t : Int) + 1) (by omega) (by omega)]
        by_cases c3 : rd ws t < (l.length : Int)
        · obtain ⟨b, hb⟩ : ∃ b : Nat, rd ws t = b := ⟨(rd ws t).toNat, by omega⟩
          rw [hb] at c3 ⊢
          have hbl : b < l.length := by omega
          have sl := served_le (r := rl l) (d := dl l) (fun i => rd ws i) t b
          have sn := served_nonneg (r := rl l) (d := dl l) (fun i => rd ws i) t b
          rw [if_pos c3, if_pos (by omega), show (rd_T32 l b).f0 = rl l b from rfl, show (rd_T32 l b).f1 = dl l b from rfl]
          by_cases c4 : (t : Int) ≥ rl l b
          · rw [if_pos c4]
            by_cases c5 : (t : Int) < dl l b
            · rw [if_pos c5, if_pos (by rw [lst_len]; omega), lst_rd hbl, Int.toNat_natCast, lst_set, Sm.w64 (by omega) (by omega)]
              rw [lst_congr (f := Edf.served (rl l) (dl l) (fun i => rd ws i) (t + 1)) (g := fun i => if i = b then Edf.served (rl l) (dl l) (fun i => rd ws i) t b + 1 else Edf.served (rl l) (dl l) (fun i => rd ws i) t i) (fun i hi => by
                show Edf.served (rl l) (dl l) (fun i => rd ws i) t i + (if rd ws t = i ∧ rl l i ≤ t ∧ (t : Int) < dl l i then 1 else 0) = _
                rw [hb]
                by_cases x : i = b
                · subst x; rw [if_pos ⟨rfl, c4, c5⟩, if_pos rfl]
                · rw [if_neg (fun y => x (by omega)), if_neg x, Int.add_zero])] at next
              exact next
            · rw [if_neg c5]
              exact same fun i hi x => by
                obtain rfl : i = b := by omega
                exact c5 x.2.2
          · rw [if_neg c4]
            exact same fun i hi x => by
              obtain rfl : i = b := by omega
              exact c4 x.2.1
        · rw [if_neg c3]
          exact same fun i hi x => by omega
      · rw [decide_eq_false c2]; exact fin t k (by omega)
    · rw [if_neg c]; exact fin t k (by omega)
theorem best_pure (l : List S32) (ws : List Int) (hw : ∀ x ∈ ws, (Lit.int .u8 x).wf = true) {k : Nat} (hk : 20000000 < k) : dormouselaw25_SimBest.f k l ws = some true := by
  unfold dormouselaw25_SimBest.f
  have no : dormouselaw25_SimBest.j0 k l ws true = some true := by
    obtain ⟨k, rfl⟩ : ∃ q, k = q + 1 := ⟨k - 1, by omega⟩
    simp only [dormouselaw25_SimBest.j0]; rw [if_pos (by trivial), answers_yes (by omega), Option.bind_some]
  rw [rright_some l (by omega), Option.bind_some]
  by_cases g : RightW l
  · rw [if_pos (rightB_yes g)]
    have few := g.few
    by_cases e : ((l.length : Int) == 0) = true
    · rw [e]; exact no
    · rw [show ((l.length : Int) == 0) = false from by simpa using e]
      obtain ⟨k, rfl⟩ : ∃ q, k = q + 1 := ⟨k - 1, by omega⟩
      simp only [dormouselaw25_SimBest.j0]
      rw [if_neg (by simp), if_pos (by omega), if_pos (by omega), Int.toNat_natCast, lst_zero]
      have := best_loop g ws hw 32768 0 k (by omega) (by omega) (by omega) (by omega)
      exact this
  · rw [if_neg (by rw [rightB_no g]; simp)]; exact no
/-! ### less to do -/
theorem less_end (l : List S32) (a b : List Int) (ha : a.length = l.length) (hb : b.length = l.length) (hn : l.length ≤ 32) (hle : ∀ i : Nat, i < l.length → rd b i ≤ rd a i) (d : Nat) : ∀ (i k : Nat), i + d = l.length → 200 + d < k →
    dormouselaw25_SimLess.l0 k l a b i = some true := by
  induction d with
  | zero =>
    intro i k hi hk
    obtain ⟨k, rfl⟩ : ∃ q, k = q + 1 := ⟨k - 1, by omega⟩
    simp only [dormouselaw25_SimLess.l0]
    rw [if_neg (by omega), answers_yes (by omega), Option.bind_some]
  | succ d ih =>
    intro i k hi hk
    obtain ⟨k, rfl⟩ : ∃ q, k = q + 1 := ⟨k - 1, by omega⟩
    have := hle i (by omega)
    simp only [dormouselaw25_SimLess.l0]
    rw [if_pos (by omega), if_pos (by omega), if_pos (by omega), if_pos (by omega), if_neg (by omega), Sm.w64 (n := (i : Int) + 1) (by omega) (by omega)]
    have := ih (i + 1) k (by omega) (by omega)
    rwa [show ((i + 1 : Nat) : Int) = (i : Int) + 1 from by omega] at this
theorem less_pure (l : List S32) (a b : Int) (ha : 0 ≤ a ∧ a ≤ 255) (hb : -9223372036854775808 ≤ b ∧ b ≤ 9223372036854775807) {k : Nat} (hk : 20000000 < k) : dormouselaw25_SimLess.f k l a b = some true := by
  unfold dormouselaw25_SimLess.f
  have no : dormouselaw25_SimLess.j0 k l a b true = some true := by
    obtain ⟨k, rfl⟩ : ∃ q, k = q + 1 := ⟨k - 1, by omega⟩
    simp only [dormouselaw25_SimLess.j0]; rw [if_pos (by trivial), answers_yes (by omega), Option.bind_some]
  rw [rright_some l (by omega), Option.bind_some]
  by_cases g : RightW l
  · rw [if_pos (rightB_yes g)]
    have few := g.few
    by_cases e : (l.length : Int) = 0
    · rw [if_pos e]; exact no
    · rw [if_neg e]
      by_cases c : b < 0
      · rw [decide_eq_true c]; exact no
      · rw [decide_eq_false c]
        obtain ⟨k, rfl⟩ : ∃ q, k = q + 1 := ⟨k - 1, by omega⟩
        have a1 := Int.emod_nonneg a e
        have a2 := Int.emod_lt_of_pos a (show 0 < (l.length : Int) by omega)
        obtain ⟨i, hi⟩ : ∃ i : Nat, a % (l.length : Int) = i := ⟨(a % (l.length : Int)).toNat, by omega⟩
        have hil : i < l.length := by omega
        have ci := g.cyc i hil
        simp only [dormouselaw25_SimLess.j0]
        rw [if_neg (by simp), if_neg e, Option.bind_some, if_pos (by simp; omega), Option.bind_some, Sm.w64 (n := a) (by omega) (by omega), Int.tmod_eq_emod_of_nonneg ha.1, hi, if_pos (by omega), if_pos (by omega), if_pos (by simp; omega), run_some l (by omega), Option.bind_some, List.nil_append, Int.toNat_natCast, show (rd_T32 l i).f0 = rl l i from rfl, show (rd_T32 l i).f1 = dl l i from rfl, show (rd_T32 l i).f2 = cy l i from rfl, Sm.w64 (n := cy l i - b) (by omega) (by omega)]
        have mxb : 0 ≤ mx (cy l i - b) 0 ∧ mx (cy l i - b) 0 ≤ cy l i := by unfold mx; split <;> omega
        generalize hM : (l.set i ⟨rl l i, dl l i, mx (cy l i - b) 0⟩) = M
        have hMl : M.length = l.length := by rw [← hM]; simp
        have rM : ∀ j : Nat, rd_T32 M j = if j = i then ⟨rl l i, dl l i, mx (cy l i - b) 0⟩ else rd_T32 l j := fun j => by rw [← hM, rd_set l _ j hil]
        have q0 : rl M = rl l := funext fun j => by
          unfold rl; rw [rM]
          by_cases h : j = i
          · subst h; rw [if_pos rfl]; rfl
          · rw [if_neg h]
        have q1 : dl M = dl l := funext fun j => by
          unfold dl; rw [rM]
          by_cases h : j = i
          · subst h; rw [if_pos rfl]; rfl
          · rw [if_neg h]
        have q2 : ∀ j, j < l.length → 0 ≤ cy M j ∧ cy M j ≤ cy l j := by
          intro j hj
          have := g.cyc j hj
          unfold cy; rw [rM]
          by_cases h : j = i
          · subst h; rw [if_pos rfl]; exact mxb
          · rw [if_neg h]; unfold cy at this; omega
        have gM : RightW M := ⟨fun j hj => by rw [q0]; exact g.rel j (by omega), fun j hj => by have := q2 j (by omega); have := g.cyc j (by omega); omega, fun j hj => by rw [q0, q1]; exact g.dead j (by omega), by omega⟩
        rw [run_some M (by omega), Option.bind_some, runL_yes g, runL_yes gM, if_pos (by rw [doneL_len]), doneL_len, hMl, show ((l.length : Int) != (l.length : Int)) = false from by simp]
        obtain ⟨k, rfl⟩ : ∃ q, k = q + 1 := ⟨k - 1, by omega⟩
        simp only [dormouselaw25_SimLess.j1]
        rw [if_neg (by simp)]
        refine less_end l _ _ (doneL_len l) (by rw [doneL_len, hMl]) few (fun j hj => ?_) l.length 0 k (by omega) (by omega)
        rw [doneL_rd l hj, doneL_rd M (by omega)]
        unfold when
        rw [hMl, q0, q1]
        exact (less_done g.cn (fun m hm => (q2 m hm).1) (fun m hm => (q2 m hm).2) hj (ended g j hj)).2
  · rw [if_neg (by rw [rightB_no g]; simp)]; exact no
/-! ### the last moment -/
/-- the greatest of what is done, of those that have something to do -/
def lastOf (l : List S32) (a : List Int) : Nat → Int
  | 0 => 0
  | i + 1 => if cy l i > 0 then mx (lastOf l a i) (rd a i) else lastOf l a i
theorem lastOf_le (l : List S32) (a : List Int) {T : Int} (hT : 0 ≤ T) : ∀ n : Nat, lastOf l a n ≤ T ↔ ∀ i, i < n → 0 < cy l i → rd a i ≤ T
  | 0 => ⟨fun _ i hi => by omega, fun _ => hT⟩
  | n + 1 => by
    have ih := lastOf_le l a hT n
    unfold lastOf
    by_cases c : cy l n > 0
    · rw [if_pos c]
      have e : mx (lastOf l a n) (rd a n) ≤ T ↔ lastOf l a n ≤ T ∧ rd a n ≤ T := by unfold mx; split <;> constructor <;> intro h <;> omega
      rw [e, ih]
      constructor
      · rintro ⟨h1, h2⟩ i hi hc
        rcases Nat.lt_or_ge i n with x | x
        · exact h1 i x hc
        · obtain rfl : i = n := by omega
          exact h2
      · intro h; exact ⟨fun i hi hc => h i (by omega) hc, h n (by omega) c⟩
    · rw [if_neg c, ih]
      constructor
      · intro h i hi hc
        rcases Nat.lt_or_ge i n with x | x
        · exact h i x hc
        · obtain rfl : i = n := by omega
          exact absurd hc c
      · intro h i hi hc; exact h i (by omega) hc
theorem lastOf_nonneg (l : List S32) (a : List Int) : ∀ n : Nat, 0 ≤ lastOf l a n
  | 0 => Int.le_refl _
  | n + 1 => by have := lastOf_nonneg l a n; unfold lastOf; split <;> (try unfold mx) <;> (try split) <;> omega
theorem busy_end (l : List S32) (a b : List Int) (ha : a.length = l.length) (hb : b.length = l.length) (hn : l.length ≤ 32) (hs : lastOf l a l.length = lastOf l b l.length) (d : Nat) : ∀ (i k : Nat), i + d = l.length → 200 + d < k →
    dormouselaw25_SimBusy.l1 k l a b (lastOf l a i) (lastOf l b i) i = some true := by
  induction d with
  | zero =>
    intro i k hi hk
    obtain ⟨k, rfl⟩ : ∃ q, k = q + 1 := ⟨k - 1, by omega⟩
    obtain rfl : i = l.length := by omega
    simp only [dormouselaw25_SimBusy.l1]
    rw [if_neg (by omega), answers_yes (by omega), Option.bind_some, if_pos rfl, hs]
    simp
  | succ d ih =>
    intro i k hi hk
    obtain ⟨k, rfl⟩ : ∃ q, k = q + 1 := ⟨k - 1, by omega⟩
    have ih := ih (i + 1) k (by omega) (by omega)
    rw [show ((i + 1 : Nat) : Int) = (i : Int) + 1 from by omega] at ih
    simp only [dormouselaw25_SimBusy.l1]
    rw [if_pos (by omega), if_pos (by omega), show (rd_T32 l i).f2 = cy l i from rfl, Sm.w64 (n := (i : Int) + 1) (by omega) (by omega)]
    unfold lastOf at ih
    by_cases c : cy l i > 0
    · rw [if_pos c, if_pos (by omega), if_pos (by omega)]
      rw [if_pos c, if_pos c] at ih
      exact ih
    · rw [if_neg c]
      rw [if_neg c, if_neg c] at ih
      exact ih
theorem last_same {l m : List S32} (g : RightW l) (gm : RightW m) (hl : m.length = l.length) (hr : rl m = rl l) (hc : cy m = cy l) : lastOf l (doneL l) l.length = lastOf l (doneL m) l.length := by
  have key : ∀ T : Nat, T ≤ 540672 → (lastOf l (doneL l) l.length ≤ T ↔ lastOf l (doneL m) l.length ≤ T) := by
    intro T hT
    rw [lastOf_le l _ (by omega), lastOf_le l _ (by omega)]
    have e1 := last_iff g hT
    have e2 := last_iff gm hT
    rw [hl, hr, hc, all_same g.cn (d := dl l)] at e2
    have h1 : (∀ i, i < l.length → 0 < cy l i → rd (doneL l) i ≤ T) ↔ ∀ i, i < l.length → 0 < cy l i → when l.length (rl l) (dl l) (cy l) i ≤ T :=
      ⟨fun h i hi hp => by have := h i hi hp; rwa [doneL_rd l hi] at this, fun h i hi hp => by rw [doneL_rd l hi]; exact h i hi hp⟩
    have h2 : (∀ i, i < l.length → 0 < cy l i → rd (doneL m) i ≤ T) ↔ ∀ i, i < l.length → 0 < cy l i → when l.length (rl l) (dl m) (cy l) i ≤ T := by
      constructor
      · intro h i hi hp
        have := h i hi hp
        rw [doneL_rd m (by omega), hl, hr, hc] at this
        exact this
      · intro h i hi hp
        rw [doneL_rd m (by omega), hl, hr, hc]
        exact h i hi hp
    rw [h1, h2, e1, e2]
  have b1 : lastOf l (doneL l) l.length ≤ 540672 := (lastOf_le l _ (by omega) _).2 fun i hi _ => by rw [doneL_rd l hi]; exact (when_bd g hi).2
  have b2 : lastOf l (doneL m) l.length ≤ 540672 := (lastOf_le l _ (by omega) _).2 fun i hi _ => by rw [doneL_rd m (by omega)]; exact (when_bd gm (by omega)).2
  have n1 := lastOf_nonneg l (doneL l) l.length
  have n2 := lastOf_nonneg l (doneL m) l.length
  have k1 := (key (lastOf l (doneL l) l.length).toNat (by omega)).1 (by omega)
  have k2 := (key (lastOf l (doneL m) l.length).toNat (by omega)).2 (by omega)
  omega
/-- the first i works with another list's deadlines -/
def mixW (l m : List S32) (i j : Nat) : S32 := if j < i then ⟨(rd_T32 l j).f0, (rd_T32 m j).f1, (rd_T32 l j).f2⟩ else rd_T32 l j
theorem busy_fill (l m : List S32) (hn : l.length ≤ 32) (hm : l.length ≤ m.length) (g : RightW l) {k0 : Nat} (d : Nat) : ∀ (i k : Nat) (x : List S32), i + d = l.length → 19000000 + d < k → x.length = l.length → (∀ j : Nat, j < l.length → rd_T32 x j = mixW l m i j) →
    dormouselaw25_SimBusy.l0 k l m x i = some true := by
  induction d with
  | zero =>
    intro i k x hi hk hx hj
    obtain ⟨k, rfl⟩ : ∃ q, k = q + 1 := ⟨k - 1, by omega⟩
    simp only [dormouselaw25_SimBusy.l0]
    rw [if_neg (by omega), rright_some x (by omega), Option.bind_some]
    by_cases gx : RightW x
    · rw [if_pos (rightB_yes gx), run_some l (by omega), Option.bind_some, run_some x (by omega), Option.bind_some, runL_yes g, runL_yes gx, if_pos (by rw [doneL_len]), doneL_len, hx, show ((l.length : Int) != (l.length : Int)) = false from by simp]
      obtain ⟨k, rfl⟩ : ∃ q, k = q + 1 := ⟨k - 1, by omega⟩
      simp only [dormouselaw25_SimBusy.j2]
      rw [if_neg (by simp)]
      -- the same releases and cycles, where there is a work
      have sr : ∀ j, j < l.length → rl x j = rl l j ∧ cy x j = cy l j := by
        intro j hjl
        unfold rl cy; rw [hj j hjl]; unfold mixW; rw [if_pos (by omega)]; exact ⟨rfl, rfl⟩
      have far : ∀ (y : List S32) (j : Nat), y.length ≤ j → rd_T32 y j = z32 := by
        intro y j hy
        unfold rd_T32
        rw [Int.toNat_natCast, List.getD_eq_getElem?_getD, List.getElem?_eq_none hy]; rfl
      have sr' : rl x = rl l := funext fun j => by
        rcases Nat.lt_or_ge j l.length with y | y
        · exact (sr j y).1
        · unfold rl; rw [far x j (by omega), far l j y]
      have sc' : cy x = cy l := funext fun j => by
        rcases Nat.lt_or_ge j l.length with y | y
        · exact (sr j y).2
        · unfold cy; rw [far x j (by omega), far l j y]
      have := busy_end l (doneL l) (doneL x) (doneL_len l) (by rw [doneL_len, hx]) hn (last_same g gx hx sr' sc') l.length 0 k (by omega) (by omega)
      exact this
    · rw [if_neg (by rw [rightB_no gx]; simp), answers_yes (by omega), Option.bind_some]
  | succ d ih =>
    intro i k x hi hk hx hj
    obtain ⟨k, rfl⟩ : ∃ q, k = q + 1 := ⟨k - 1, by omega⟩
    have hil : i < l.length := by omega
    simp only [dormouselaw25_SimBusy.l0]
    rw [if_pos (by omega), if_pos (by omega), if_pos (by omega), if_pos (by omega), Int.toNat_natCast, Sm.w64 (n := (i : Int) + 1) (by omega) (by omega)]
    have := ih (i + 1) k (x.set i ⟨(rd_T32 x i).f0, (rd_T32 m i).f1, (rd_T32 x i).f2⟩) (by omega) (by omega) (by simp [hx]) (fun j hjl => by
      rw [rd_set x _ j (by omega)]
      have e := hj i hil
      unfold mixW at e ⊢
      rw [if_neg (by omega)] at e
      by_cases y : j = i
      · subst y; rw [if_pos rfl, if_pos (by omega), e]
      · rw [if_neg y, hj j hjl]
        unfold mixW
        by_cases z : j < i
        · rw [if_pos z, if_pos (by omega)]
        · rw [if_neg z, if_neg (by omega)])
    rwa [show ((i + 1 : Nat) : Int) = (i : Int) + 1 from by omega] at this
theorem busy_pure (l m : List S32) {k : Nat} (hk : 20000000 < k) : dormouselaw25_SimBusy.f k l m = some true := by
  unfold dormouselaw25_SimBusy.f
  have no : dormouselaw25_SimBusy.j0 k l m true = some true := by
    obtain ⟨k, rfl⟩ : ∃ q, k = q + 1 := ⟨k - 1, by omega⟩
    simp only [dormouselaw25_SimBusy.j0]; rw [if_pos (by trivial), answers_yes (by omega), Option.bind_some]
  rw [rright_some l (by omega), Option.bind_some]
  by_cases g : RightW l
  · rw [if_pos (rightB_yes g)]
    have few := g.few
    by_cases c : (m.length : Int) < (l.length : Int)
    · rw [decide_eq_true c]; exact no
    · rw [decide_eq_false c]
      obtain ⟨k, rfl⟩ : ∃ q, k = q + 1 := ⟨k - 1, by omega⟩
      simp only [dormouselaw25_SimBusy.j0]
      rw [if_neg (by simp), Option.bind_some, if_pos (by simp; omega), List.nil_append]
      have := busy_fill (k0 := 0) l m few (by omega) g l.length 0 k l (by omega) (by omega) rfl (fun j hj => by unfold mixW; rw [if_neg (by omega)])
      exact this
  · rw [if_neg (by rw [rightB_no g]; simp)]; exact no
/-! ### one work less -/
open Classical in
theorem sm_shift (f : Nat → Int) : ∀ n, sm (n + 1) f = f 0 + sm n (fun i => f (i + 1))
  | 0 => by show (0 : Int) + f 0 = f 0 + 0; omega
  | n + 1 => by
    have := sm_shift f n
    show sm (n + 1) f + f (n + 1) = f 0 + (sm n (fun i => f (i + 1)) + f (n + 1))
    omega
theorem sm_list {f : S32 → Int} : ∀ l : List S32, sm l.length (fun i => f (rd_T32 l i)) = (l.map f).sum
  | [] => rfl
  | t :: l => by
    have ih := sm_list (f := f) l
    rw [List.length_cons, sm_shift, List.map_cons, List.sum_cons, ← ih]
    have e0 : rd_T32 (t :: l) ((0 : Nat) : Int) = t := rfl
    rw [e0]
    congr 1
theorem sum_sub {f : S32 → Int} {m l : List S32} (h : m.Sublist l) (h0 : ∀ t ∈ l, 0 ≤ f t) : (m.map f).sum ≤ (l.map f).sum := by
  induction h with
  | slnil => exact Int.le_refl _
  | cons t _ ih => have := ih (fun t ht => h0 t (by simp [ht])); have := h0 t (by simp); rw [List.map_cons, List.sum_cons]; omega
  | cons_cons t _ ih => have := ih (fun t ht => h0 t (by simp [ht])); rw [List.map_cons, List.sum_cons, List.map_cons, List.sum_cons]; omega
theorem rd_mem {l : List S32} {i : Nat} (h : i < l.length) : rd_T32 l i ∈ l := by
  unfold rd_T32
  rw [Int.toNat_natCast, List.getD_eq_getElem?_getD, List.getElem?_eq_getElem h]
  exact List.getElem_mem h
theorem mem_rd {l : List S32} {x : S32} (h : x ∈ l) : ∃ i : Nat, i < l.length ∧ rd_T32 l i = x := by
  obtain ⟨i, hi, rfl⟩ := List.getElem_of_mem h
  refine ⟨i, hi, ?_⟩
  unfold rd_T32
  rw [Int.toNat_natCast, List.getD_eq_getElem?_getD, List.getElem?_eq_getElem hi]; rfl
open Classical in
theorem dem_list (l : List S32) (a b : Int) : dem l.length (rl l) (dl l) (cy l) a b = (l.map fun x => if a ≤ x.f0 ∧ x.f1 ≤ b then x.f2 else 0).sum := by
  rw [← sm_list]
  unfold dem of
  refine sm_congr fun i _ => ?_
  by_cases h : a ≤ rl l i ∧ dl l i ≤ b
  · rw [if_pos h]; unfold rl dl at h; rw [if_pos h]; rfl
  · rw [if_neg h]; unfold rl dl at h; rw [if_neg h]
theorem fewer_fits {m l : List S32} (hs : m.Sublist l) (hf : FitsL l) : FitsL m := by
  obtain ⟨g, f⟩ := hf
  have at_ : ∀ i, i < m.length → ∃ j, j < l.length ∧ rd_T32 l j = rd_T32 m i := fun i hi => mem_rd (hs.subset (rd_mem hi))
  have gm : RightW m := by
    refine ⟨fun i hi => ?_, fun i hi => ?_, fun i hi => ?_, Nat.le_trans hs.length_le g.few⟩
    · obtain ⟨j, hj, e⟩ := at_ i hi; have := g.rel j hj; unfold rl at *; rw [e] at this; exact this
    · obtain ⟨j, hj, e⟩ := at_ i hi; have := g.cyc j hj; unfold cy at *; rw [e] at this; exact this
    · obtain ⟨j, hj, e⟩ := at_ i hi; have := g.dead j hj; unfold rl dl at *; rw [e] at this; exact this
  refine ⟨gm, fun i hi j hj hij => ?_⟩
  obtain ⟨i', hi', ei⟩ := at_ i hi
  obtain ⟨j', hj', ej⟩ := at_ j hj
  have e1 : rl l i' = rl m i := by unfold rl; rw [ei]
  have e2 : dl l j' = dl m j := by unfold dl; rw [ej]
  have h1 := f i' hi' j' hj' (by omega)
  rw [e1, e2] at h1
  refine Int.le_trans ?_ h1
  rw [dem_list, dem_list]
  refine sum_sub hs fun x hx => ?_
  obtain ⟨q, hq, e⟩ := mem_rd hx
  have := g.cyc q hq
  unfold cy at this
  rw [e] at this
  split <;> omega
theorem fewer_pure (l : List S32) (a : Int) (ha : 0 ≤ a ∧ a ≤ 255) {k : Nat} (hk : 20000000 < k) : dormouselaw25_SimFewer.f k l a = some true := by
  unfold dormouselaw25_SimFewer.f
  have no : dormouselaw25_SimFewer.j0 k l a true = some true := by
    obtain ⟨k, rfl⟩ : ∃ q, k = q + 1 := ⟨k - 1, by omega⟩
    simp only [dormouselaw25_SimFewer.j0]; rw [if_pos (by trivial), answers_yes (by omega), Option.bind_some]
  by_cases e : (l.length : Int) = 0
  · rw [if_pos e]; exact no
  · rw [if_neg e, late_some l (by omega), Option.bind_some]
    by_cases c : LateL l
    · rw [lateB_yes c]; exact no
    · rw [lateB_no c]
      have hf := (fits_late_iff l).2 c
      have few := hf.1.few
      obtain ⟨k, rfl⟩ : ∃ q, k = q + 1 := ⟨k - 1, by omega⟩
      have a1 := Int.emod_nonneg a e
      have a2 := Int.emod_lt_of_pos a (show 0 < (l.length : Int) by omega)
      have hs : (([] ++ l.take (a % (l.length : Int)).toNat) ++ l.drop (a % (l.length : Int) + 1).toNat).Sublist l := by
        have := List.eraseIdx_sublist l (a % (l.length : Int)).toNat
        rw [List.eraseIdx_eq_take_drop_succ] at this
        rw [List.nil_append, show (a % (l.length : Int) + 1).toNat = (a % (l.length : Int)).toNat + 1 from by omega]
        exact this
      have nl := (fits_late_iff _).1 (fewer_fits hs hf)
      simp only [dormouselaw25_SimFewer.j0]
      rw [if_neg (by simp), if_neg e, answers_yes (by omega), Option.bind_some, if_pos rfl, Option.bind_some, Sm.w64 (n := a) (by omega) (by omega), Int.tmod_eq_emod_of_nonneg ha.1, if_pos a1, if_pos (by omega), Option.bind_some, if_pos (by simp; omega), Option.bind_some, Sm.w64 (n := a % (l.length : Int) + 1) (by omega) (by omega), if_pos (by omega), if_pos (by omega), Option.bind_some, if_pos (by simp; omega), late_some _ (by omega), Option.bind_some, lateB_no nl]
      rfl
/-! ### the calls -/
section
variable {w : World}
theorem criterion_calls (y : List S32) (v : Value) (h1 : (Kd.slice 32 k32).K w y [v]) (_ok1 : True) :
    Calls Try.prog 5 #[v] w fun e w' => e = .returned (.bool true) ∧ Below w.heap.size w w' := by
  obtain ⟨A3, c3, e3, l3, r3⟩ := h1
  obtain rfl := (List.cons.inj e3).1
  obtain ⟨k, hk⟩ := great
  exact dormouselaw25_SimCriterion.calls k A3 c3 _ true w r3 l3 (criterion_pure y hk)
theorem best_calls (y : List S32) (v : Value) (h1 : (Kd.slice 32 k32).K w y [v]) (_ok1 : True) (z : List Int) (u : Value) (h2 : (Kd.slice 5 (Kd.int .u8)).K w z [u]) (ok2 : ∀ x ∈ z, (Lit.int .u8 x).wf = true) :
    Calls Try.prog 6 #[v, u] w fun e w' => e = .returned (.bool true) ∧ Below w.heap.size w w' := by
  obtain ⟨A3, c3, e3, l3, r3⟩ := h1
  obtain rfl := (List.cons.inj e3).1
  obtain ⟨A4, c4, e4, l4, r4⟩ := h2
  obtain rfl := (List.cons.inj e4).1
  obtain ⟨k, hk⟩ := great
  exact dormouselaw25_SimBest.calls k A3 c3 _ A4 c4 _ true w r3 l3 r4 l4 (best_pure y z ok2 hk)
theorem less_calls (y : List S32) (v : Value) (h1 : (Kd.slice 32 k32).K w y [v]) (_ok1 : True) (a : Int) (ha : (Lit.int .u8 a).wf = true) (b : Int) (hb : (Lit.int .i64 b).wf = true) :
    Calls Try.prog 7 #[v, .int .u8 a, .int .i64 b] w fun e w' => e = .returned (.bool true) ∧ Below w.heap.size w w' := by
  obtain ⟨A3, c3, e3, l3, r3⟩ := h1
  obtain rfl := (List.cons.inj e3).1
  obtain ⟨k, hk⟩ := great
  exact dormouselaw25_SimLess.calls k A3 c3 _ a b true w r3 l3 (less_pure y a b (bd_u8 ha) (bd_i64 hb) hk)
theorem busy_calls (y : List S32) (v : Value) (h1 : (Kd.slice 32 k32).K w y [v]) (_ok1 : True) (z : List S32) (u : Value) (h2 : (Kd.slice 32 k32).K w z [u]) (_ok2 : True) :
    Calls Try.prog 8 #[v, u] w fun e w' => e = .returned (.bool true) ∧ Below w.heap.size w w' := by
  obtain ⟨A3, c3, e3, l3, r3⟩ := h1
  obtain rfl := (List.cons.inj e3).1
  obtain ⟨A4, c4, e4, l4, r4⟩ := h2
  obtain rfl := (List.cons.inj e4).1
  obtain ⟨k, hk⟩ := great
  exact dormouselaw25_SimBusy.calls k A3 c3 _ A4 c4 _ true w r3 l3 r4 l4 (busy_pure y z hk)
theorem fewer_calls (y : List S32) (v : Value) (h1 : (Kd.slice 32 k32).K w y [v]) (_ok1 : True) (a : Int) (ha : (Lit.int .u8 a).wf = true) :
    Calls Try.prog 9 #[v, .int .u8 a] w fun e w' => e = .returned (.bool true) ∧ Below w.heap.size w w' := by
  obtain ⟨A3, c3, e3, l3, r3⟩ := h1
  obtain rfl := (List.cons.inj e3).1
  obtain ⟨k, hk⟩ := great
  exact dormouselaw25_SimFewer.calls k A3 c3 _ a true w r3 l3 (fewer_pure y a (bd_u8 ha) hk)
end
end Go.Proofs.Ytanakihfgdgdfaa.Law
