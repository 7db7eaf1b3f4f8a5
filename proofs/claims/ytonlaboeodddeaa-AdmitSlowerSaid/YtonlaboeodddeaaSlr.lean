/- AdmitSlower: at a slower level the load is no less; at the level that would do it is at most the whole. -/
import Derived.Test.YtonlaboeodddeaaGood
import Derived.Test.YtonlaboeodddeaaSub
import Derived.Test.YtonlaboeodddeaaL10
import Derived.Test.YtonlaboeodddeaaFx34
namespace Go.Proofs.Ytonlaboeodddeaa.Law
open Go.RowKit Go.Proofs.Ytonlaboeodddeaa.F Go.Proofs.Ytonlaboeodddeaa.Tbl Go.Proofs.Ytonlaboeodddeaa.Adm Go.Proofs.Ytonlaboeodddeaa.Opn Go.Proofs.YtonlaboeodddeaaW.PrintWords Go.Proofs.YtonlaboeodddeaaW.PrintLast Go.Proofs.YtonlaboeodddeaaW.PrintMore
theorem slower_pure {l0 : List S34} {l1 : List S55} {l2 : List S58} {idle crit sw swE sems hor : Int} (l : List S29) (a b : Int) (ha : 0 ≤ a ∧ a ≤ 255) (hb : 0 ≤ b ∧ b ≤ 255) : dormouselaw10_AdmitSlower.f 2000 l0 l1 l2 idle crit sw swE sems hor l a b = some true := by
  unfold dormouselaw10_AdmitSlower.f
  rw [good_some _ (by omega), Option.bind_some]
  by_cases g : Mach l0 l1 l2 idle crit sw swE sems hor l
  · have hh := head_of g.table
    have sp := slowest_spec g
    rw [if_pos (goodB_yes g), if_neg (by omega), Adm.w64 (n := a) (by omega) (by omega), Adm.w64 (n := b) (by omega) (by omega), Int.tmod_eq_emod_of_nonneg ha.1, Int.tmod_eq_emod_of_nonneg hb.1]
    have a1 := Int.emod_nonneg a (show (l0.length : Int) ≠ 0 by omega)
    have a2 := Int.emod_lt_of_pos a (show 0 < (l0.length : Int) by omega)
    have b1 := Int.emod_nonneg b (show (l0.length : Int) ≠ 0 by omega)
    have b2 := Int.emod_lt_of_pos b (show 0 < (l0.length : Int) by omega)
    have fin : ∀ i j : Int, 0 ≤ i → i ≤ j → j < l0.length → dormouselaw10_AdmitSlower.j0 2000 l i j l0 l1 l2 idle crit sw swE sems hor = some true := by
      intro i j h0 hij hj
      have := load_slower g h0 hij hj
      simp only [dormouselaw10_AdmitSlower.j0]
      rw [slowest_some g (by omega), Option.bind_some, answers_yes, Option.bind_some, if_pos rfl, load_some g i (by omega), Option.bind_some, load_some g j (by omega), Option.bind_some, if_pos this, if_pos sp.1, if_pos sp.2.1]
      by_cases z : Adm.slowest l0 crit sw l = 0
      · rw [if_pos z]
      · rw [if_neg z, load_some g _ (by omega), Option.bind_some]
        rcases sp.2.2 with h | h
        · exact absurd h z
        · rw [decide_eq_true h]
    by_cases c : a % (l0.length : Int) > b % (l0.length : Int)
    · rw [if_pos c]; exact fin _ _ b1 (by omega) a2
    · rw [if_neg c]; exact fin _ _ a1 (by omega) b2
  · rw [if_neg (by rw [goodB_no g]; simp), answers_yes, Option.bind_some]
theorem bd_u8 {n : Int} (h : (Lit.int .u8 n).wf = true) : 0 ≤ n ∧ n ≤ 255 := by
  simp [Lit.wf, IntKind.min, IntKind.max, IntKind.signed, IntKind.bits] at h; omega
theorem slower_calls {w : World} (x : Plat) (cs : List Value) (h : kPlat.K w x cs) (_ok : True) (y : List S29) (v : Value) (h1 : (Kd.slice 29 k29).K w y [v]) (_ok1 : True) (a : Int) (ha : (Lit.int .u8 a).wf = true) (b : Int) (hb : (Lit.int .u8 b).wf = true) :
    Calls Try.prog 9 #[.agg cs.toArray, v, .int .u8 a, .int .u8 b] w fun e w' => e = .returned (.bool true) ∧ Below w.heap.size w w' := by
  obtain ⟨A0, c0, A1, c1, A2, c2, rfl, ⟨g0, r0⟩, ⟨g1, r1⟩, ⟨g2, r2⟩⟩ := plat_open h
  obtain ⟨A3, c3, e3, l3, r3⟩ := h1
  obtain rfl := (List.cons.inj e3).1
  exact dormouselaw10_AdmitSlower.calls 2000 A0 c0 _ A1 c1 _ A2 c2 _ _ _ _ _ _ _ A3 c3 _ a b true w r0 g0 r1 g1 r2 g2 r3 l3 (slower_pure y a b (bd_u8 ha) (bd_u8 hb))
end Go.Proofs.Ytonlaboeodddeaa.Law
