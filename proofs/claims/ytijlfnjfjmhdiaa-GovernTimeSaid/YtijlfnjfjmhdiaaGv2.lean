/- Choose's laws over the told functions. -/
import Derived.Test.YtijlfnjfjmhdiaaLaw16
import Derived.Test.YtijlfnjfjmhdiaaFx20
import Derived.Test.YtijlfnjfjmhdiaaFx21
namespace Go.Proofs.Ytijlfnjfjmhdiaa.Law
open Go.RowKit Go.Proofs.Ytijlfnjfjmhdiaa.F Go.Proofs.Ytijlfnjfjmhdiaa.Tbl Go.Proofs.Ytijlfnjfjmhdiaa.Gov Go.Proofs.Ytijlfnjfjmhdiaa.Opn Go.Proofs.YtijlfnjfjmhdiaaW.PrintWords Go.Proofs.YtijlfnjfjmhdiaaW.PrintLast Go.Proofs.YtijlfnjfjmhdiaaW.PrintMore

section
variable {l0 : List S45} {l1 : List S59} {l2 : List S62} {idle crit sw swE sems hor : Int}
theorem goodk (k : Nat) : ∀ a b left c d, dormouselaw16_good.f k l0 l1 l2 idle crit sw swE sems hor a b left c d = dormouselaw16_good.f 1 l0 l1 l2 idle crit sw swE sems hor a b left c d := fun _ _ _ _ _ => rfl
theorem ansk (k : Nat) : dormouselaw16_answers.f k = some true := rfl
theorem choose_any (h : TableOk l0 l1 l2 idle crit sw swE sems hor) (policy static : Int) {left slack level : Int} (hl0 : 0 ≤ left) (hl1 : left ≤ 8192) :
    ∀ j, dormouselaw16_choose.f (10 + j) l0 l1 l2 idle crit sw swE sems hor policy static left slack level = some (fast l0 crit sw policy static left slack level)
  | 0 => choose_some h policy static hl0 hl1
  | j + 1 => dormouselaw16_choose.mono _ _ _ _ _ _ _ _ _ _ _ _ _ _ _ _ (choose_any h policy static hl0 hl1 j)
theorem fast_fits (_h : TableOk l0 l1 l2 idle crit sw swE sems hor) (policy static left slack level : Int) : fast l0 crit sw policy static left slack level = 0 ∨ cost l0 sw left level (fast l0 crit sw policy static left slack level) * 4294967296 ≤ slack := by
  rcases pick_ok (fits l0 sw left slack level) (limit crit policy static).toNat with e | e
  · exact .inl e
  · exact .inr (of_decide_eq_true e)

theorem more_pure (a b left slack level more : Int) (hs0 : -9223372036854775808 ≤ slack) (hm0 : 0 ≤ more) (hm1 : more ≤ 4294967295) :
    dormouselaw16_GovernMore.f 12 l0 l1 l2 idle crit sw swE sems hor a b left slack level more = some true := by
  unfold dormouselaw16_GovernMore.f
  rw [goodk]
  by_cases hg : Good l0 l1 l2 idle crit sw swE sems hor left
  · rw [good_yes hg, Option.bind_some, if_pos rfl]
    simp only [dormouselaw16_GovernMore.j0]
    by_cases hs : slack > 4611686018427387904
    · rw [if_pos (decide_eq_true hs), ansk]; rfl
    · rw [if_neg (by simpa using hs), ansk, Option.bind_some, if_pos rfl]
      obtain ⟨ht, hl0, hl1⟩ := hg
      rw [w64 (n := more) (by omega) (by omega), w64 (n := slack + more) (by omega) (by omega)]
      rw [choose_any ht a b hl0 hl1 1, Option.bind_some, choose_any ht a b hl0 hl1 1, Option.bind_some]
      rw [decide_eq_true]
      unfold fast
      refine pick_mono (Nat.le_refl _) (fun m _ _ hm => ?_)
      unfold fits at hm ⊢
      have := of_decide_eq_true hm
      exact decide_eq_true (by omega)
  · rw [good_no hg, Option.bind_some, if_neg (by decide)]
    simp only [dormouselaw16_GovernMore.j0]
    rw [if_pos trivial, ansk]; rfl

theorem time_pure (a b left slack level : Int) : dormouselaw16_GovernTime.f 12 l0 l1 l2 idle crit sw swE sems hor a b left slack level = some true := by
  unfold dormouselaw16_GovernTime.f
  rw [goodk]
  by_cases hg : Good l0 l1 l2 idle crit sw swE sems hor left
  · rw [good_yes hg, Option.bind_some, if_pos rfl]
    obtain ⟨ht, hl0, hl1⟩ := hg
    rw [choose_any ht a b hl0 hl1 2, Option.bind_some]
    have hh := ht.head
    unfold Head at hh
    have fb := fast_bd (l0 := l0) (sw := sw) (show 0 ≤ crit by omega) a b left slack level
    have ff := fast_fits ht a b left slack level
    generalize fast l0 crit sw a b left slack level = n at fb ff ⊢
    have cb := cost_bd ht (level := level) hl0 hl1 fb.1 (show n < l0.length by omega)
    have ab := above ht fb.1 (show n < l0.length by omega)
    rw [if_neg (by omega), decide_eq_false (show ¬ n > crit by omega)]
    simp only [dormouselaw16_GovernTime.j0]
    rw [if_neg (by decide), if_pos (by omega), if_pos (by omega), if_pos (by omega)]
    rw [w64 (n := (rd_T45 l0 n).f0 - (rd_T45 l0 0).f0) (by omega) (by omega), w64 (n := left * ((rd_T45 l0 n).f0 - (rd_T45 l0 0).f0)) (by omega) (by omega)]
    by_cases e : n = level
    · rw [if_pos e, ansk, Option.bind_some, if_pos rfl]
      by_cases z : n = 0
      · rw [if_pos z]
      · have ce : cost l0 sw left level n = left * ((rd_T45 l0 n).f0 - (rd_T45 l0 0).f0) := by unfold cost; rw [if_pos e]; omega
        rw [if_neg z, refwhole_some (by omega) (by omega), Option.bind_some, decide_eq_true (by omega)]
    · rw [if_neg e, ansk, Option.bind_some, if_pos rfl]
      by_cases z : n = 0
      · rw [if_pos z]
      · have ce : cost l0 sw left level n = left * ((rd_T45 l0 n).f0 - (rd_T45 l0 0).f0) + sw := by unfold cost; rw [if_neg e]
        rw [if_neg z, w64 (n := left * ((rd_T45 l0 n).f0 - (rd_T45 l0 0).f0) + sw) (by omega) (by omega), refwhole_some (by omega) (by omega), Option.bind_some, decide_eq_true (by omega)]
  · rw [good_no hg, Option.bind_some, if_neg (by decide), ansk]; rfl
end

theorem time_calls {w : World} (x : Plat) (cs : List Value) (h : kPlat.K w x cs) (_ok : True) (y : Ask) (cs1 : List Value) (h1 : kAsk.K w y cs1) (_ok1 : (Lit.int .i64 y.2.2.2.1).wf = true) :
    Calls Try.prog 5 #[.agg cs.toArray, .agg cs1.toArray] w fun e w' => e = .returned (.bool true) ∧ Below w.heap.size w w' := by
  obtain ⟨A0, c0, A1, c1, A2, c2, rfl, ⟨g0, r0⟩, ⟨g1, r1⟩, ⟨g2, r2⟩⟩ := plat_open h
  obtain rfl := ask_open h1
  exact dormouselaw16_GovernTime.calls 12 A0 c0 _ A1 c1 _ A2 c2 _ _ _ _ _ _ _ _ _ _ _ _ true w r0 g0 r1 g1 r2 g2 (time_pure _ _ _ _ _)
theorem more_calls {w : World} (x : Plat) (cs : List Value) (h : kPlat.K w x cs) (_ok : True) (y : Ask) (cs1 : List Value) (h1 : kAsk.K w y cs1) (ok1 : (Lit.int .i64 y.2.2.2.1).wf = true) (m : Int) (hm : (Lit.int .u32 m).wf = true) :
    Calls Try.prog 6 #[.agg cs.toArray, .agg cs1.toArray, .int .u32 m] w fun e w' => e = .returned (.bool true) ∧ Below w.heap.size w w' := by
  obtain ⟨A0, c0, A1, c1, A2, c2, rfl, ⟨g0, r0⟩, ⟨g1, r1⟩, ⟨g2, r2⟩⟩ := plat_open h
  obtain rfl := ask_open h1
  simp [Lit.wf, IntKind.min, IntKind.max, IntKind.signed, IntKind.bits] at ok1 hm
  exact dormouselaw16_GovernMore.calls 12 A0 c0 _ A1 c1 _ A2 c2 _ _ _ _ _ _ _ _ _ _ _ _ _ true w r0 g0 r1 g1 r2 g2 (more_pure _ _ _ _ _ _ (by omega) (by omega) (by omega))
end Go.Proofs.Ytijlfnjfjmhdiaa.Law
