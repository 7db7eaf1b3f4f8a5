/- AdmitLess: tasks that fit do so without any one of them. -/
import Derived.Test.YtonlaboeodddeaaGood
import Derived.Test.YtonlaboeodddeaaSub
import Derived.Test.YtonlaboeodddeaaL10
import Derived.Test.YtonlaboeodddeaaFx32
namespace Go.Proofs.Ytonlaboeodddeaa.Law
open Go.RowKit Go.Proofs.Ytonlaboeodddeaa.F Go.Proofs.Ytonlaboeodddeaa.Tbl Go.Proofs.Ytonlaboeodddeaa.Adm Go.Proofs.Ytonlaboeodddeaa.Opn Go.Proofs.YtonlaboeodddeaaW.PrintWords Go.Proofs.YtonlaboeodddeaaW.PrintLast Go.Proofs.YtonlaboeodddeaaW.PrintMore
theorem less_pure {l0 : List S34} {l1 : List S55} {l2 : List S58} {idle crit sw swE sems hor : Int} (l : List S29) (a : Int) (ha : 0 ≤ a ∧ a ≤ 255) : dormouselaw10_AdmitLess.f 2000 l0 l1 l2 idle crit sw swE sems hor l a = some true := by
  unfold dormouselaw10_AdmitLess.f
  rw [good_some _ (by omega), Option.bind_some]
  have no : dormouselaw10_AdmitLess.j0 2000 l a true l0 l1 l2 idle crit sw swE sems hor = some true := by
    simp only [dormouselaw10_AdmitLess.j0]; rw [if_pos (by trivial), answers_yes, Option.bind_some]
  by_cases g : Mach l0 l1 l2 idle crit sw swE sems hor l
  · rw [if_pos (goodB_yes g)]
    by_cases e : (l.length : Int) = 0
    · rw [if_pos e]; exact no
    · rw [if_neg e, fits_some g (by omega), Option.bind_some]
      by_cases fits : Adm.load l0 crit sw l 0 ≤ 4294967296
      · rw [decide_eq_true fits]
        have few := g.few
        have a1 := Int.emod_nonneg a e
        have a2 := Int.emod_lt_of_pos a (show 0 < (l.length : Int) by omega)
        have hs : (([] ++ l.take (a % (l.length : Int)).toNat) ++ l.drop (a % (l.length : Int) + 1).toNat).Sublist l := by
          have := List.eraseIdx_sublist l (a % (l.length : Int)).toNat
          rw [List.eraseIdx_eq_take_drop_succ] at this
          rw [List.nil_append, show (a % (l.length : Int) + 1).toNat = (a % (l.length : Int)).toNat + 1 from by omega]
          exact this
        have hm := mach_sub g (fun t ht => hs.subset ht) (by have := hs.length_le; omega)
        have ld := load_sub g hs 0
        have sp := slowest_spec hm
        have ln := hs.length_le
        simp only [dormouselaw10_AdmitLess.j0]
        rw [if_neg (by simp), if_neg e, Option.bind_some, Adm.w64 (n := a) (by omega) (by omega), Int.tmod_eq_emod_of_nonneg ha.1, if_pos a1, if_pos (by omega), Option.bind_some, if_pos (by simp; omega), Option.bind_some, Adm.w64 (n := a % (l.length : Int) + 1) (by omega) (by omega), if_pos (by omega), if_pos (by omega), Option.bind_some, if_pos (by simp; omega), Option.bind_some, answers_yes, Option.bind_some, if_pos rfl, fits_some hm (by omega), Option.bind_some, decide_eq_true (by omega), if_pos rfl, load_some hm 0 (by omega), Option.bind_some, load_some g 0 (by omega), Option.bind_some, if_pos ld, slowest_some hm (by omega), Option.bind_some]
        rw [decide_eq_true sp.1]
      · rw [decide_eq_false fits]; exact no
  · rw [if_neg (by rw [goodB_no g]; simp)]; exact no
theorem bd_u8' {n : Int} (h : (Lit.int .u8 n).wf = true) : 0 ≤ n ∧ n ≤ 255 := by
  simp [Lit.wf, IntKind.min, IntKind.max, IntKind.signed, IntKind.bits] at h; omega
theorem heapT : Kd.Heap k29 := Kd.heap_iso _ (Kd.heap_pair (Kd.heap_int _) (Kd.heap_pair (Kd.heap_int _) (Kd.heap_pair (Kd.heap_slice _ (Kd.heap_int _)) (Kd.heap_slice _ (Kd.heap_int _)))))
theorem less_calls {w : World} (x : Plat) (cs : List Value) (h : kPlat.K w x cs) (_ok : True) (y : List S29) (v : Value) (h1 : (Kd.slice 29 k29).K w y [v]) (_ok1 : True) (a : Int) (ha : (Lit.int .u8 a).wf = true) :
    Calls Try.prog 7 #[.agg cs.toArray, v, .int .u8 a] w fun e w' => e = .returned (.bool true) ∧ Below w.heap.size w w' := by
  obtain ⟨A0, c0, A1, c1, A2, c2, rfl, ⟨g0, r0⟩, ⟨g1, r1⟩, ⟨g2, r2⟩⟩ := plat_open h
  obtain ⟨A3, c3, e3, l3, r3⟩ := h1
  obtain rfl := (List.cons.inj e3).1
  exact dormouselaw10_AdmitLess.calls 2000 A0 c0 _ A1 c1 _ A2 c2 _ _ _ _ _ _ _ (fun k => k < w.heap.size) A3 c3 _ a true w r0 g0 r1 g1 r2 g2 (Kd.V_mk l3 (Kd.C_F heapT r3)) (less_pure y a (bd_u8' ha))
end Go.Proofs.Ytonlaboeodddeaa.Law
