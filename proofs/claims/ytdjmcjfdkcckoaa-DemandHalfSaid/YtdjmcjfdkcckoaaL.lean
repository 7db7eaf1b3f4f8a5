/- Chapter 28's first laws: what a row calls. -/
import Derived.Test.YtdjmcjfdkcckoaaDw
import Derived.Test.YtdjmcjfdkcckoaaKinds
import Derived.Test.YtdjmcjfdkcckoaaFx10
import Derived.Test.YtdjmcjfdkcckoaaFx36
import Derived.Test.YtdjmcjfdkcckoaaFx37
import Derived.Test.YtdjmcjfdkcckoaaFx38
import Derived.Test.YtdjmcjfdkcckoaaFx39
import Derived.Test.YtdjmcjfdkcckoaaFx40
import Derived.Test.YtdjmcjfdkcckoaaFx41
namespace Go.Proofs.Ytdjmcjfdkcckoaa.Opn
open Go.RowKit Go.Proofs.Ytdjmcjfdkcckoaa.F Go.Proofs.YtdjmcjfdkcckoaaW.PrintWords Go.Proofs.YtdjmcjfdkcckoaaW.PrintLast Go.Proofs.YtdjmcjfdkcckoaaW.PrintMore
instance : Inhabited S36 := ⟨z36⟩
theorem oSource : Opens Try.prog 36 k36 (fun _ => True) :=
  opens_imp (opens_iso (f := fun x : S36 => (x.f0, x.f1, x.f2)) (fun x => ⟨x.1, x.2.1, x.2.2⟩) (fun _ => rfl) (opens_struct Try.underlying36 (by kernel_rfl)
    (opensF_cons rfl (by kernel_rfl) oAny (opensF_cons rfl (by kernel_rfl) oAny (opensF_one rfl (by kernel_rfl) oAny))))) (fun _ _ => trivial)
theorem oSources : Opens Try.prog 22 (Kd.slice 36 k36) (fun _ => True) := opens_imp (opens_slice Try.underlying22 (by kernel_rfl) oSource) (fun _ _ => trivial)
end Go.Proofs.Ytdjmcjfdkcckoaa.Opn
namespace Go.Proofs.Ytdjmcjfdkcckoaa.Law
open Go.RowKit Go.Proofs.Ytdjmcjfdkcckoaa.F Go.Proofs.Ytdjmcjfdkcckoaa.Edf Go.Proofs.Ytdjmcjfdkcckoaa.Dem Go.Proofs.Ytdjmcjfdkcckoaa.Dm Go.Proofs.Ytdjmcjfdkcckoaa.Opn Go.Proofs.YtdjmcjfdkcckoaaW.PrintWords Go.Proofs.YtdjmcjfdkcckoaaW.PrintLast Go.Proofs.YtdjmcjfdkcckoaaW.PrintMore
set_option linter.unusedVariables false
theorem ans60 : dormouselaw28_answers.f 60 = some true := by decide +kernel
theorem answers_yes {k : Nat} (hk : 60 ≤ k) : dormouselaw28_answers.f k = some true := by
  obtain ⟨d, rfl⟩ := Nat.le.dest hk
  clear hk
  induction d with
  | zero => exact ans60
  | succ d ih => exact dormouselaw28_answers.mono _ _ ih
theorem bd_u8 {n : Int} (h : (Lit.int .u8 n).wf = true) : 0 ≤ n ∧ n ≤ 255 := by
  simp [Lit.wf, IntKind.min, IntKind.max, IntKind.signed, IntKind.bits] at h; omega
theorem bd_u32 {n : Int} (h : (Lit.int .u32 n).wf = true) : 0 ≤ n ∧ n ≤ 4294967295 := by
  simp [Lit.wf, IntKind.min, IntKind.max, IntKind.signed, IntKind.bits] at h; omega
theorem of_pure (l : List S36) (t : Int) {k : Nat} (hk : 2100000 < k) : dormouselaw28_DemandOf.f k l t = some true := by
  unfold dormouselaw28_DemandOf.f
  by_cases c : t > 1048576
  · rw [if_pos c, answers_yes (by omega), Option.bind_some]
  · rw [if_neg c, answers_yes (by omega), Option.bind_some, if_pos rfl, demand_some l (by omega) (by omega), Option.bind_some, rdemand_some l (by omega) (by omega), Option.bind_some]
    simp
theorem busy_pure (l : List S36) {k : Nat} (hk : 2100000 < k) : dormouselaw28_DemandBusy.f k l = some true := by
  unfold dormouselaw28_DemandBusy.f
  rw [answers_yes (by omega), Option.bind_some, if_pos rfl, busy_some' l (by omega), Option.bind_some, rbusy_some l (by omega), Option.bind_some, if_pos rfl, fits_some l (by omega), Option.bind_some, rfits_some l (by omega), Option.bind_some]
  simp
theorem works_sum {t : Int} (ht : t ≤ 1048576) (l : List S36) (ws : List S31) (hw : ws = worksOf l t) (d : Nat) : ∀ (i k : Nat), i + d = ws.length → 2000 + d < k →
    dormouselaw28_DemandWorks.l0 k l t ws (cycles (ws.take i)) i = some true := by
  have len := worksOf_len l t
  rw [← hw] at len
  have cb : ∀ i, i ≤ ws.length → 0 ≤ cycles (ws.take i) ∧ cycles (ws.take i) ≤ i * 4096 := by
    intro i
    induction i with
    | zero => intro _; simp [cycles]
    | succ i ih =>
      intro hi
      have ih := ih (by omega)
      have hx := works_in (l := l) (t := t) (x := ws[i]) (by rw [← hw]; exact List.getElem_mem _)
      have e : cycles (ws.take (i + 1)) = cycles (ws.take i) + ws[i].f2 := by
        rw [List.take_succ_eq_append_getElem (by omega), cycles_append]; simp [cycles]
      rw [e]; omega
  induction d with
  | zero =>
    intro i k hi hk
    obtain ⟨k, rfl⟩ : ∃ q, k = q + 1 := ⟨k - 1, by omega⟩
    simp only [dormouselaw28_DemandWorks.l0]
    rw [if_neg (by omega), answers_yes (by omega), Option.bind_some, if_pos rfl, rworks_some l (by omega) (by omega), Option.bind_some, ← hw, same_some ws (by omega) (by omega), Option.bind_some, if_pos rfl]
    by_cases z : (ws.length : Int) = 0
    · rw [if_pos z]
    · rw [if_neg z, demand_some l (by omega) (by omega), Option.bind_some, List.take_of_length_le (by omega)]
      have : cycles ws = dem l t := by
        rw [hw]; refine works_demand fun e => z ?_
        rw [hw, e]; rfl
      rw [this]; simp
  | succ d ih =>
    intro i k hi hk
    obtain ⟨k, rfl⟩ : ∃ q, k = q + 1 := ⟨k - 1, by omega⟩
    have b1 := cb i (by omega)
    have b2 := cb (i + 1) (by omega)
    have e : cycles (ws.take (i + 1)) = cycles (ws.take i) + ws[i].f2 := by
      rw [List.take_succ_eq_append_getElem (by omega), cycles_append]; simp [cycles]
    have er : (rd_T31 ws i).f2 = ws[i].f2 := by
      unfold rd_T31
      rw [Int.toNat_natCast, List.getD_eq_getElem?_getD, List.getElem?_eq_getElem (by omega)]; rfl
    simp only [dormouselaw28_DemandWorks.l0]
    rw [if_pos (by omega), if_pos (by omega), er, ← e, w64 (n := (i : Int) + 1) (by omega) (by omega), w64 (by omega) (by omega)]
    have ih := ih (i + 1) k (by omega) (by omega)
    rw [show ((i + 1 : Nat) : Int) = (i : Int) + 1 from by omega] at ih
    exact ih
theorem works_pure (l : List S36) (t : Int) {k : Nat} (hk : 2100000 < k) : dormouselaw28_DemandWorks.f k l t = some true := by
  unfold dormouselaw28_DemandWorks.f
  by_cases c : t > 1048576
  · rw [if_pos c, answers_yes (by omega), Option.bind_some]
  · rw [if_neg c, works_some l (by omega) (by omega), Option.bind_some]
    have len := worksOf_len l t
    exact works_sum (by omega) l _ rfl (worksOf l t).length 0 k (by omega) (by omega)
theorem all_pure (l : List S36) (t : Int) (ht : 0 ≤ t ∧ t ≤ 4294967295) {k : Nat} (hk : 2100000 < k) : dormouselaw28_DemandAll.f k l t = some true := by
  unfold dormouselaw28_DemandAll.f
  have m1 := Int.emod_nonneg t (show (1048576 : Int) ≠ 0 by omega)
  have m2 := Int.emod_lt_of_pos t (show (0 : Int) < 1048576 by omega)
  rw [answers_yes (by omega), Option.bind_some, if_pos rfl, fits_some l (by omega), Option.bind_some, Int.tmod_eq_emod_of_nonneg ht.1, w64 (n := t % 1048576) (by omega) (by omega)]
  by_cases f : FitsL l
  · rw [if_pos (fitsB_yes f), demand_some l (by omega) (by omega), Option.bind_some, dem_yes f.1, decide_eq_true (fits_all f.1.ok f.2 (t % 1048576).toNat _ (by omega) m1)]
  · rw [if_neg (by rw [fitsB_no f]; simp)]
theorem longer_pure (l : List S36) (a b c : Int) (ha : 0 ≤ a ∧ a ≤ 255) (hb : 0 ≤ b ∧ b ≤ 255) (hc : 0 ≤ c ∧ c ≤ 255) {k : Nat} (hk : 2100000 < k) : dormouselaw28_DemandLonger.f k l a b c = some true := by
  unfold dormouselaw28_DemandLonger.f
  have no : dormouselaw28_DemandLonger.j0 k l a b c true = some true := by
    obtain ⟨k, rfl⟩ : ∃ q, k = q + 1 := ⟨k - 1, by omega⟩
    simp only [dormouselaw28_DemandLonger.j0]; rw [if_pos (by trivial), answers_yes (by omega), Option.bind_some]
  rw [rright_some l (by omega), Option.bind_some]
  by_cases g : RightL l
  · rw [if_pos (rightB_yes g)]
    by_cases e : (l.length : Int) = 0
    · rw [if_pos e]; exact no
    · rw [if_neg e, fits_some l (by omega), Option.bind_some]
      by_cases f : FitsL l
      · rw [fitsB_yes f]
        obtain ⟨k, rfl⟩ : ∃ q, k = q + 1 := ⟨k - 1, by omega⟩
        have few := g.few
        have a1 := Int.emod_nonneg a e
        have a2 := Int.emod_lt_of_pos a (show 0 < (l.length : Int) by omega)
        obtain ⟨i, hi⟩ : ∃ i : Nat, a % (l.length : Int) = i := ⟨(a % (l.length : Int)).toNat, by omega⟩
        have hil : i < l.length := by omega
        have c1 := g.cyc i hil
        have c2 := g.per i hil
        have c3 := g.dead i hil
        simp only [dormouselaw28_DemandLonger.j0]
        rw [if_neg (by simp), if_neg e, Option.bind_some, if_pos (by simp; omega), Option.bind_some, w64 (n := a) (by omega) (by omega), Int.tmod_eq_emod_of_nonneg ha.1, hi, if_pos (by omega), if_pos (by omega), if_pos (by simp; omega), Option.bind_some, answers_yes (by omega), Option.bind_some, if_pos rfl]
        rw [List.nil_append, Int.toNat_natCast, w64 (n := b) (by omega) (by omega), w64 (n := c) (by omega) (by omega)]
        have e0 : (rd_T36 l i).f0 = cy l i := rfl
        have e1 : (rd_T36 l i).f1 = pe l i := rfl
        have e2 : (rd_T36 l i).f2 = dl l i := rfl
        rw [e0, e1, e2, w64 (n := dl l i + b) (by omega) (by omega), w64 (n := cy l i - c) (by omega) (by omega)]
        have r1 : ∀ (m : List S36) (x : S36) (j : Nat), i < m.length → rd_T36 (m.set i x) j = if j = i then x else rd_T36 m j := by
          intro m x j him
          unfold rd_T36
          rw [Int.toNat_natCast, List.getD_eq_getElem?_getD, List.getElem?_set]
          by_cases h : i = j
          · subst h; rw [if_pos rfl, if_pos him, if_pos rfl]; rfl
          · rw [if_neg h, if_neg (fun x => h x.symm), List.getD_eq_getElem?_getD]
        have mnb : dl l i ≤ mn (dl l i + b) 16384 ∧ mn (dl l i + b) 16384 ≤ 16384 := by unfold mn; split <;> omega
        have mxb : 0 ≤ mx (cy l i - c) 0 ∧ mx (cy l i - c) 0 ≤ cy l i := by unfold mx; split <;> omega
        generalize hM : (l.set i ⟨cy l i, pe l i, mn (dl l i + b) 16384⟩) = M
        have hMl : M.length = l.length := by rw [← hM]; simp
        have rM : rd_T36 M i = ⟨cy l i, pe l i, mn (dl l i + b) 16384⟩ := by rw [← hM, r1 l _ i hil, if_pos rfl]
        rw [rM]
        generalize hM2 : (M.set i ⟨mx (cy l i - c) 0, pe l i, mn (dl l i + b) 16384⟩) = M2
        have hM2l : M2.length = l.length := by rw [← hM2]; simp [hMl]
        have rM2 : ∀ j : Nat, rd_T36 M2 j = if j = i then ⟨mx (cy l i - c) 0, pe l i, mn (dl l i + b) 16384⟩ else rd_T36 l j := by
          intro j
          rw [← hM2, r1 M _ j (by omega)]
          by_cases h : j = i
          · rw [if_pos h, if_pos h]
          · rw [if_neg h, if_neg h, ← hM, r1 l _ j hil, if_neg h]
        have q0 : ∀ j, j < l.length → 0 ≤ cy M2 j ∧ cy M2 j ≤ cy l j := by
          intro j hj
          have := g.cyc j hj
          unfold cy; rw [rM2]
          by_cases h : j = i
          · subst h; rw [if_pos rfl]; exact mxb
          · rw [if_neg h]; unfold cy at this; omega
        have q1 : ∀ j, pe M2 j = pe l j := by
          intro j
          unfold pe; rw [rM2]
          by_cases h : j = i
          · subst h; rw [if_pos rfl]; rfl
          · rw [if_neg h]
        have q2 : ∀ j, j < l.length → dl l j ≤ dl M2 j ∧ dl M2 j ≤ 16384 := by
          intro j hj
          have := g.dead j hj
          unfold dl; rw [rM2]
          by_cases h : j = i
          · subst h; rw [if_pos rfl]; exact mnb
          · rw [if_neg h]; unfold dl at this; omega
        have gM : RightL M2 := ⟨by omega, fun j hj => by have := q0 j (by omega); have := g.cyc j (by omega); omega, fun j hj => by rw [q1]; exact g.per j (by omega), fun j hj => by have := q2 j (by omega); have := g.dead j (by omega); omega⟩
        have okM := gM.ok
        rw [hM2l, show pe M2 = pe l from funext q1] at okM
        have fM := fits_longer g.ok okM (fun j hj => (q0 j hj).2) (fun j hj => (q2 j hj).1) f.2
        have : FitsL M2 := ⟨gM, by rw [hM2l, show pe M2 = pe l from funext q1]; exact fM⟩
        rw [fits_some M2 (by omega), Option.bind_some, fitsB_yes this]
      · rw [fitsB_no f]; exact no
  · rw [if_neg (by rw [rightB_no g]; simp)]; exact no
theorem half_math {x y z i j k : Int} (hx : 1 ≤ x ∧ x ≤ 16) (hy : 1 ≤ y ∧ y ≤ 16) (hz : 1 ≤ z ∧ z ≤ 16) (hi : 0 ≤ i ∧ i ≤ 16) (hj : 0 ≤ j ∧ j ≤ 16) (hk : 0 ≤ k ∧ k ≤ 16) :
    FitsL [⟨i, x, x⟩, ⟨j, y, y⟩, ⟨k, z, z⟩] ↔ i * y * z + j * x * z + k * x * y ≤ x * y * z := by
  have per : ∀ n : Nat, n < 3 → 1 ≤ pe [⟨i, x, x⟩, ⟨j, y, y⟩, ⟨k, z, z⟩] n ∧ pe [⟨i, x, x⟩, ⟨j, y, y⟩, ⟨k, z, z⟩] n ≤ 16384 := by
    intro n hn
    match n, hn with
    | 0, _ => show 1 ≤ x ∧ x ≤ 16384; omega
    | 1, _ => show 1 ≤ y ∧ y ≤ 16384; omega
    | 2, _ => show 1 ≤ z ∧ z ≤ 16384; omega
  have g : RightL [⟨i, x, x⟩, ⟨j, y, y⟩, ⟨k, z, z⟩] := by
    refine ⟨by simp, fun n hn => ?_, per, fun n hn => ?_⟩
    · match n, hn with
      | 0, _ => show 0 ≤ i ∧ i ≤ 4096; omega
      | 1, _ => show 0 ≤ j ∧ j ≤ 4096; omega
      | 2, _ => show 0 ≤ k ∧ k ≤ 4096; omega
    · match n, hn with
      | 0, _ => show 1 ≤ x ∧ x ≤ 16384; omega
      | 1, _ => show 1 ≤ y ∧ y ≤ 16384; omega
      | 2, _ => show 1 ≤ z ∧ z ≤ 16384; omega
  have dm : ∀ t, demand [(⟨i, x, x⟩ : S36), ⟨j, y, y⟩, ⟨k, z, z⟩].length (cy [⟨i, x, x⟩, ⟨j, y, y⟩, ⟨k, z, z⟩]) (pe [⟨i, x, x⟩, ⟨j, y, y⟩, ⟨k, z, z⟩]) (dl [⟨i, x, x⟩, ⟨j, y, y⟩, ⟨k, z, z⟩]) t = dueBy x x t * i + dueBy y y t * j + dueBy z z t * k := by
    intro t
    show 0 + dueBy x x t * i + dueBy y y t * j + dueBy z z t * k = _
    omega
  have am : ∀ t, asked [(⟨i, x, x⟩ : S36), ⟨j, y, y⟩, ⟨k, z, z⟩].length (cy [⟨i, x, x⟩, ⟨j, y, y⟩, ⟨k, z, z⟩]) (pe [⟨i, x, x⟩, ⟨j, y, y⟩, ⟨k, z, z⟩]) t = came x t * i + came y t * j + came z t * k := by
    intro t
    show 0 + came x t * i + came y t * j + came z t * k = _
    omega
  have xy : 1 ≤ x * y ∧ x * y ≤ 256 := by
    have a := Int.mul_le_mul hx.1 hy.1 (by omega) (by omega)
    have b := Int.mul_le_mul hx.2 hy.2 (by omega) (by omega)
    omega
  have yz : 1 ≤ y * z := by have a := Int.mul_le_mul hy.1 hz.1 (by omega) (by omega); omega
  have xz : 1 ≤ x * z := by have a := Int.mul_le_mul hx.1 hz.1 (by omega) (by omega); omega
  have xyz : 1 ≤ x * y * z ∧ x * y * z ≤ 4096 := by
    have a := Int.mul_le_mul xy.1 hz.1 (by omega) (by omega)
    have b := Int.mul_le_mul xy.2 hz.2 (by omega) (by omega)
    omega
  -- a multiple of the period
  have due_mul : ∀ p q : Int, 1 ≤ p → 1 ≤ q → dueBy p p (q * p) = q := by
    intro p q hp hq
    have := Int.mul_le_mul_of_nonneg_right (c := p) hq (by omega)
    unfold dueBy
    rw [if_neg (by omega), div_uni (q := q - 1) hp (by rw [Int.sub_mul]; omega) (by rw [show q - 1 + 1 = q from by omega]; omega)]
    omega
  have came_mul : ∀ p q : Int, 1 ≤ p → 1 ≤ q → came p (q * p) = q := by
    intro p q hp hq
    unfold came
    exact div_uni hp (by omega) (by rw [Int.add_mul]; omega)
  have ex : x * y * z = (y * z) * x := by grind
  have ey : x * y * z = (x * z) * y := by grind
  have ez : x * y * z = (x * y) * z := rfl
  constructor
  · rintro ⟨_, f⟩
    have h := fits_all g.ok f (x * y * z).toNat (x * y * z) (by omega) (by omega)
    rw [dm] at h
    have d1 : dueBy x x (x * y * z) = y * z := by rw [ex]; exact due_mul x _ hx.1 yz
    have d2 : dueBy y y (x * y * z) = x * z := by rw [ey]; exact due_mul y _ hy.1 xz
    have d3 : dueBy z z (x * y * z) = x * y := due_mul z _ hz.1 xy.1
    rw [d1, d2, d3] at h
    have e : y * z * i + x * z * j + x * y * k = i * y * z + j * x * z + k * x * y := by grind
    omega
  · intro h
    refine ⟨g, ?_⟩
    obtain ⟨b, hb⟩ := busy_some (cy [⟨i, x, x⟩, ⟨j, y, y⟩, ⟨k, z, z⟩]) (pe [⟨i, x, x⟩, ⟨j, y, y⟩, ⟨k, z, z⟩]) [(⟨i, x, x⟩ : S36), ⟨j, y, y⟩, ⟨k, z, z⟩].length
    have dle : ∀ p t : Int, 1 ≤ p → 0 ≤ t → dueBy p p t * p ≤ t := by
      intro p t hp ht
      unfold dueBy
      by_cases c : t < p
      · rw [if_pos c]; omega
      · rw [if_neg c, Int.add_mul]
        have := (div_bd (a := t - p) hp).1
        omega
    refine (fits_of hb fun t h1 h2 => ?_).2 ?_
    · rw [dm]
      have a1 := Int.mul_le_mul_of_nonneg_right (c := i * (y * z)) (dle x t hx.1 (by omega)) (Int.mul_nonneg hi.1 (by omega))
      have a2 := Int.mul_le_mul_of_nonneg_right (c := j * (x * z)) (dle y t hy.1 (by omega)) (Int.mul_nonneg hj.1 (by omega))
      have a3 := Int.mul_le_mul_of_nonneg_right (c := k * (x * y)) (dle z t hz.1 (by omega)) (Int.mul_nonneg hk.1 (by omega))
      have a4 := Int.mul_le_mul_of_nonneg_left (c := t) h (by omega)
      have key : (dueBy x x t * i + dueBy y y t * j + dueBy z z t * k) * (x * y * z) ≤ t * (x * y * z) := by
        have e1 : dueBy x x t * x * (i * (y * z)) + dueBy y y t * y * (j * (x * z)) + dueBy z z t * z * (k * (x * y)) = (dueBy x x t * i + dueBy y y t * j + dueBy z z t * k) * (x * y * z) := by grind
        have e2 : t * (i * (y * z)) + t * (j * (x * z)) + t * (k * (x * y)) = t * (i * y * z + j * x * z + k * x * y) := by grind
        omega
      exact Int.le_of_mul_le_mul_right key (by omega)
    · have c1 : came x (x * y * z) = y * z := by rw [ex]; exact came_mul x _ hx.1 yz
      have c2 : came y (x * y * z) = x * z := by rw [ey]; exact came_mul y _ hy.1 xz
      have c3 : came z (x * y * z) = x * y := came_mul z _ hz.1 xy.1
      have := busy_pos hb (t := x * y * z) xyz.1 (by omega) (by
        rw [am, c1, c2, c3]
        have e : y * z * i + x * z * j + x * y * k = i * y * z + j * x * z + k * x * y := by grind
        omega)
      omega
theorem half_pure (a b c d e f : Int) (ha : 0 ≤ a ∧ a ≤ 255) (hb : 0 ≤ b ∧ b ≤ 255) (hc : 0 ≤ c ∧ c ≤ 255) (hd : 0 ≤ d ∧ d ≤ 255) (he : 0 ≤ e ∧ e ≤ 255) (hf : 0 ≤ f ∧ f ≤ 255) {k : Nat} (hk : 2100000 < k) : dormouselaw28_DemandHalf.f k a b c d e f = some true := by
  unfold dormouselaw28_DemandHalf.f
  have m16 : ∀ n : Int, 0 ≤ n ∧ n ≤ 255 → wrap64 (Int.tmod n 16) = n % 16 ∧ 0 ≤ n % 16 ∧ n % 16 ≤ 15 := by
    intro n hn
    rw [Int.tmod_eq_emod_of_nonneg hn.1, w64 (by omega) (by omega)]; omega
  have m17 : ∀ n : Int, 0 ≤ n ∧ n ≤ 255 → wrap64 (Int.tmod n 17) = n % 17 ∧ 0 ≤ n % 17 ∧ n % 17 ≤ 16 := by
    intro n hn
    rw [Int.tmod_eq_emod_of_nonneg hn.1, w64 (by omega) (by omega)]; omega
  have w1 : ∀ n : Int, 0 ≤ n ∧ n ≤ 255 → wrap64 (wrap64 (Int.tmod n 16) + 1) = n % 16 + 1 := by
    intro n hn
    have := m16 n hn
    rw [this.1, w64 (by omega) (by omega)]
  have tri : ∀ p q r : Int, 0 ≤ p ∧ p ≤ 16 → 0 ≤ q ∧ q ≤ 16 → 0 ≤ r ∧ r ≤ 16 → wrap64 (wrap64 (p * q) * r) = p * q * r ∧ 0 ≤ p * q * r ∧ p * q * r ≤ 4096 := by
    intro p q r hp hq hr
    have a1 := Int.mul_nonneg hp.1 hq.1
    have a2 := Int.mul_nonneg a1 hr.1
    have a3 : p * q ≤ 16 * 16 := Int.mul_le_mul hp.2 hq.2 hq.1 (by omega)
    have a4 : p * q * r ≤ 256 * 16 := Int.mul_le_mul (by omega) hr.2 hr.1 (by omega)
    rw [w64 (n := p * q) (by omega) (by omega), w64 (by omega) (by omega)]; omega
  rw [answers_yes (by omega), Option.bind_some, if_pos rfl, w1 a ha, w1 b hb, w1 c hc, (m17 d hd).1, (m17 e he).1, (m17 f hf).1, fits_some _ (by omega), Option.bind_some]
  have xa := m16 a ha; have xb := m16 b hb; have xc := m16 c hc; have xd := m17 d hd; have xe := m17 e he; have xf := m17 f hf
  have t1 := tri (d % 17) (b % 16 + 1) (c % 16 + 1) (by omega) (by omega) (by omega)
  have t2 := tri (e % 17) (a % 16 + 1) (c % 16 + 1) (by omega) (by omega) (by omega)
  have t3 := tri (f % 17) (a % 16 + 1) (b % 16 + 1) (by omega) (by omega) (by omega)
  have t4 := tri (a % 16 + 1) (b % 16 + 1) (c % 16 + 1) (by omega) (by omega) (by omega)
  rw [t1.1, t2.1, t3.1, t4.1, w64 (n := d % 17 * (b % 16 + 1) * (c % 16 + 1) + e % 17 * (a % 16 + 1) * (c % 16 + 1)) (by omega) (by omega), w64 (by omega) (by omega)]
  have hm := half_math (x := a % 16 + 1) (y := b % 16 + 1) (z := c % 16 + 1) (i := d % 17) (j := e % 17) (k := f % 17) (by omega) (by omega) (by omega) (by omega) (by omega) (by omega)
  by_cases fit : FitsL [⟨d % 17, a % 16 + 1, a % 16 + 1⟩, ⟨e % 17, b % 16 + 1, b % 16 + 1⟩, ⟨f % 17, c % 16 + 1, c % 16 + 1⟩]
  · rw [fitsB_yes fit, decide_eq_true (hm.1 fit)]; rfl
  · rw [fitsB_no fit, decide_eq_false (fun h => fit (hm.2 h))]; rfl
/-! ### the calls -/
theorem great : ∃ k : Nat, 2100000 < k := ⟨_, Nat.lt_succ_self _⟩
section
variable {w : World}
theorem of_calls (y : List S36) (v : Value) (h1 : (Kd.slice 36 k36).K w y [v]) (_ok1 : True) (m : Int) (_hm : (Lit.int .i64 m).wf = true) :
    Calls Try.prog 3 #[v, .int .i64 m] w fun e w' => e = .returned (.bool true) ∧ Below w.heap.size w w' := by
  obtain ⟨A3, c3, e3, l3, r3⟩ := h1
  obtain rfl := (List.cons.inj e3).1
  obtain ⟨k, hk⟩ := great
  exact dormouselaw28_DemandOf.calls k A3 c3 _ m true w r3 l3 (of_pure y m hk)
theorem busy_calls (y : List S36) (v : Value) (h1 : (Kd.slice 36 k36).K w y [v]) (_ok1 : True) :
    Calls Try.prog 4 #[v] w fun e w' => e = .returned (.bool true) ∧ Below w.heap.size w w' := by
  obtain ⟨A3, c3, e3, l3, r3⟩ := h1
  obtain rfl := (List.cons.inj e3).1
  obtain ⟨k, hk⟩ := great
  exact dormouselaw28_DemandBusy.calls k A3 c3 _ true w r3 l3 (busy_pure y hk)
theorem works_calls (y : List S36) (v : Value) (h1 : (Kd.slice 36 k36).K w y [v]) (_ok1 : True) (m : Int) (_hm : (Lit.int .i64 m).wf = true) :
    Calls Try.prog 5 #[v, .int .i64 m] w fun e w' => e = .returned (.bool true) ∧ Below w.heap.size w w' := by
  obtain ⟨A3, c3, e3, l3, r3⟩ := h1
  obtain rfl := (List.cons.inj e3).1
  obtain ⟨k, hk⟩ := great
  exact dormouselaw28_DemandWorks.calls k A3 c3 _ m true w r3 l3 (works_pure y m hk)
theorem all_calls (y : List S36) (v : Value) (h1 : (Kd.slice 36 k36).K w y [v]) (_ok1 : True) (m : Int) (hm : (Lit.int .u32 m).wf = true) :
    Calls Try.prog 6 #[v, .int .u32 m] w fun e w' => e = .returned (.bool true) ∧ Below w.heap.size w w' := by
  obtain ⟨A3, c3, e3, l3, r3⟩ := h1
  obtain rfl := (List.cons.inj e3).1
  obtain ⟨k, hk⟩ := great
  exact dormouselaw28_DemandAll.calls k A3 c3 _ m true w r3 l3 (all_pure y m (bd_u32 hm) hk)
theorem longer_calls (y : List S36) (v : Value) (h1 : (Kd.slice 36 k36).K w y [v]) (_ok1 : True) (a : Int) (ha : (Lit.int .u8 a).wf = true) (b : Int) (hb : (Lit.int .u8 b).wf = true) (c : Int) (hc : (Lit.int .u8 c).wf = true) :
    Calls Try.prog 8 #[v, .int .u8 a, .int .u8 b, .int .u8 c] w fun e w' => e = .returned (.bool true) ∧ Below w.heap.size w w' := by
  obtain ⟨A3, c3, e3, l3, r3⟩ := h1
  obtain rfl := (List.cons.inj e3).1
  obtain ⟨k, hk⟩ := great
  exact dormouselaw28_DemandLonger.calls k A3 c3 _ a b c true w r3 l3 (longer_pure y a b c (bd_u8 ha) (bd_u8 hb) (bd_u8 hc) hk)
theorem half_calls (a : Int) (ha : (Lit.int .u8 a).wf = true) (b : Int) (hb : (Lit.int .u8 b).wf = true) (c : Int) (hc : (Lit.int .u8 c).wf = true) (d : Int) (hd : (Lit.int .u8 d).wf = true) (e : Int) (he : (Lit.int .u8 e).wf = true) (f : Int) (hf : (Lit.int .u8 f).wf = true) :
    Calls Try.prog 7 #[.int .u8 a, .int .u8 b, .int .u8 c, .int .u8 d, .int .u8 e, .int .u8 f] w fun e w' => e = .returned (.bool true) ∧ Below w.heap.size w w' := by
  obtain ⟨k, hk⟩ := great
  exact dormouselaw28_DemandHalf.calls k a b c d e f true w (half_pure a b c d e f (bd_u8 ha) (bd_u8 hb) (bd_u8 hc) (bd_u8 hd) (bd_u8 he) (bd_u8 hf) hk)
end
end Go.Proofs.Ytdjmcjfdkcckoaa.Law
