/- Part 3 of the law's texts: what its row hangs on. -/
import Derived.Test.YtchlbnlhjllcbaaZRdy2
namespace Go.Proofs.Ytchlbnlhjllcbaa.F
noncomputable section
open Go.RowKit Go.Proofs.YtchlbnlhjllcbaaW.PrintWords Go.Proofs.YtchlbnlhjllcbaaW.PrintLast Go.Proofs.YtchlbnlhjllcbaaW.PrintMore
attribute [local go_sem] max2_int min2_int max_two min_two max_three min_three max_four min_four   -- for this text's walks alone
set_option linter.unusedVariables false
set_option linter.unusedSimpArgs false
mutual
def dormouseref09_Good.j0 : Nat → Bool → List (S58) → List (S68) → List (S71) → Int → Int → Int → Int → Int → Int → List (S36) → List Int → List (S38) → List (S56) → Int → Int → Option (Bool)
  | 0, _, _, _, _, _, _, _, _, _, _, _, _, _, _, _, _ => none
  | k + 1, x43, x127000, x127001, x127002, x127003, x127004, x127005, x127006, x127007, x127008, x127009, x127010, x127011, x127012, x127013, x127014 => if x43 = true then (some false) else (dormouseref09_Good.l0 k 0 x127000 x127001 x127002 x127003 x127004 x127005 x127006 x127007 x127008 x127009 x127010 x127011 x127012 x127013 x127014)
def dormouseref09_Good.l0 : Nat → Int → List (S58) → List (S68) → List (S71) → Int → Int → Int → Int → Int → Int → List (S36) → List Int → List (S38) → List (S56) → Int → Int → Option (Bool)
  | 0, _, _, _, _, _, _, _, _, _, _, _, _, _, _, _, _ => none
  | k + 1, x3, x127000, x127001, x127002, x127003, x127004, x127005, x127006, x127007, x127008, x127009, x127010, x127011, x127012, x127013, x127014 => if x3 < (x127009.length : Int) then (if 0 ≤ x3 then (if ((rd_T36 x127009 x3).f0) = 0 then (if ((rd_T36 x127009 x3).f1) = 0 then (if (((rd_T36 x127009 x3).f2).length : Int) = 0 then (dormouseref09_Good.j2 k x3 ((((rd_T36 x127009 x3).f3).length : Int) == 0) x127000 x127001 x127002 x127003 x127004 x127005 x127006 x127007 x127008 x127009 x127010 x127011 x127012 x127013 x127014 ((rd_T36 x127009 x3).f0) ((rd_T36 x127009 x3).f1) ((rd_T36 x127009 x3).f2) ((rd_T36 x127009 x3).f3)) else (dormouseref09_Good.j2 k x3 false x127000 x127001 x127002 x127003 x127004 x127005 x127006 x127007 x127008 x127009 x127010 x127011 x127012 x127013 x127014 ((rd_T36 x127009 x3).f0) ((rd_T36 x127009 x3).f1) ((rd_T36 x127009 x3).f2) ((rd_T36 x127009 x3).f3))) else (dormouseref09_Good.j2 k x3 false x127000 x127001 x127002 x127003 x127004 x127005 x127006 x127007 x127008 x127009 x127010 x127011 x127012 x127013 x127014 ((rd_T36 x127009 x3).f0) ((rd_T36 x127009 x3).f1) ((rd_T36 x127009 x3).f2) ((rd_T36 x127009 x3).f3))) else (dormouseref09_Good.j2 k x3 false x127000 x127001 x127002 x127003 x127004 x127005 x127006 x127007 x127008 x127009 x127010 x127011 x127012 x127013 x127014 ((rd_T36 x127009 x3).f0) ((rd_T36 x127009 x3).f1) ((rd_T36 x127009 x3).f2) ((rd_T36 x127009 x3).f3))) else (none)) else (dormouseref09_Good.l1 k 0 x127000 x127001 x127002 x127003 x127004 x127005 x127006 x127007 x127008 x127009 x127010 x127011 x127012 x127013 x127014)
def dormouseref09_Good.j2 : Nat → Int → Bool → List (S58) → List (S68) → List (S71) → Int → Int → Int → Int → Int → Int → List (S36) → List Int → List (S38) → List (S56) → Int → Int → Int → Int → List Int → List Int → Option (Bool)
  | 0, _, _, _, _, _, _, _, _, _, _, _, _, _, _, _, _, _, _, _, _, _ => none
  | k + 1, x3, x5, x127000, x127001, x127002, x127003, x127004, x127005, x127006, x127007, x127008, x127009, x127010, x127011, x127012, x127013, x127014, x132000, x132001, x132002, x132003 => if x5 = true then (if 0 ≤ x3 then (if x3 < (x127010.length : Int) then ((dormouseref09_moment.f (rd x127010 x3)).bind fun t133 => (if t133 = true then (dormouseref09_Good.l0 k (wrap64 (x3 + 1)) x127000 x127001 x127002 x127003 x127004 x127005 x127006 x127007 x127008 x127009 x127010 x127011 x127012 x127013 x127014) else (some false))) else (none)) else (none)) else ((dormouseref09_Task.f k x127000 x127001 x127002 x127003 x127004 x127005 x127006 x127007 x127008 x132000 x132001 x132002 x132003).bind fun t134 => (if t134 = true then (if 0 ≤ x3 then (if x3 < (x127010.length : Int) then ((dormouseref09_moment.f (rd x127010 x3)).bind fun t136 => (if t136 = true then (dormouseref09_Good.l0 k (wrap64 (x3 + 1)) x127000 x127001 x127002 x127003 x127004 x127005 x127006 x127007 x127008 x127009 x127010 x127011 x127012 x127013 x127014) else (some false))) else (none)) else (none)) else (some false)))
def dormouseref09_Good.l1 : Nat → Int → List (S58) → List (S68) → List (S71) → Int → Int → Int → Int → Int → Int → List (S36) → List Int → List (S38) → List (S56) → Int → Int → Option (Bool)
  | 0, _, _, _, _, _, _, _, _, _, _, _, _, _, _, _, _ => none
  | k + 1, x6, x127000, x127001, x127002, x127003, x127004, x127005, x127006, x127007, x127008, x127009, x127010, x127011, x127012, x127013, x127014 => if x6 < (x127011.length : Int) then (none) else (dormouseref09_Good.l3 k 0 x127000 x127001 x127002 x127003 x127004 x127005 x127006 x127007 x127008 x127009 x127010 x127011 x127012 x127013 x127014)
def dormouseref09_Good.l3 : Nat → Int → List (S58) → List (S68) → List (S71) → Int → Int → Int → Int → Int → Int → List (S36) → List Int → List (S38) → List (S56) → Int → Int → Option (Bool)
  | 0, _, _, _, _, _, _, _, _, _, _, _, _, _, _, _, _ => none
  | k + 1, x9, x127000, x127001, x127002, x127003, x127004, x127005, x127006, x127007, x127008, x127009, x127010, x127011, x127012, x127013, x127014 => if x9 < (x127012.length : Int) then (none) else (some true)
end
def dormouseref09_Good.f (k : Nat) (l0_0 : List (S58)) (l0_1 : List (S68)) (l0_2 : List (S71)) (a0_3 : Int) (a0_4 : Int) (a0_5 : Int) (a0_6 : Int) (a0_7 : Int) (a0_8 : Int) (l0_9 : List (S36)) (l0_10 : List Int) (l0_11 : List (S38)) (l0_12 : List (S56)) (a0_13 : Int) (a0_14 : Int) : Option (Bool) := (dormouseref01_Table.f k l0_0 l0_1 l0_2 a0_3 a0_4 a0_5 a0_6 a0_7 a0_8).bind fun t127 => (if t127 = true then (if (l0_9.length : Int) > 64 then (dormouseref09_Good.j0 k true l0_0 l0_1 l0_2 a0_3 a0_4 a0_5 a0_6 a0_7 a0_8 l0_9 l0_10 l0_11 l0_12 a0_13 a0_14) else (if (l0_10.length : Int) = (l0_9.length : Int) then ((dormouseref09_moment.f a0_13).bind fun t128 => (if t128 = true then ((dormouseref09_moment.f a0_14).bind fun t129 => (dormouseref09_Good.j0 k (!t129) l0_0 l0_1 l0_2 a0_3 a0_4 a0_5 a0_6 a0_7 a0_8 l0_9 l0_10 l0_11 l0_12 a0_13 a0_14)) else (dormouseref09_Good.j0 k true l0_0 l0_1 l0_2 a0_3 a0_4 a0_5 a0_6 a0_7 a0_8 l0_9 l0_10 l0_11 l0_12 a0_13 a0_14))) else (dormouseref09_Good.j0 k true l0_0 l0_1 l0_2 a0_3 a0_4 a0_5 a0_6 a0_7 a0_8 l0_9 l0_10 l0_11 l0_12 a0_13 a0_14))) else (dormouseref09_Good.j0 k true l0_0 l0_1 l0_2 a0_3 a0_4 a0_5 a0_6 a0_7 a0_8 l0_9 l0_10 l0_11 l0_12 a0_13 a0_14))
set_option maxHeartbeats 8000000 in
set_option maxRecDepth 100000 in
theorem dormouseref09_Good.calls (k : Nat) (A0_0 : Option Addr) (c0_0 : Nat) (l0_0 : List (S58)) (A0_1 : Option Addr) (c0_1 : Nat) (l0_1 : List (S68)) (A0_2 : Option Addr) (c0_2 : Nat) (l0_2 : List (S71)) (a0_3 : Int) (a0_4 : Int) (a0_5 : Int) (a0_6 : Int) (a0_7 : Int) (a0_8 : Int) (A0_9 : Option Addr) (c0_9 : Nat) (l0_9 : List (S36)) (A0_10 : Option Addr) (c0_10 : Nat) (l0_10 : List Int) (A0_11 : Option Addr) (c0_11 : Nat) (l0_11 : List (S38)) (A0_12 : Option Addr) (c0_12 : Nat) (l0_12 : List (S56)) (a0_13 : Int) (a0_14 : Int) (r : Bool) (w : World) (hr0_0 : Kd.C k58 w A0_0 l0_0.length l0_0) (hc0_0 : l0_0.length ≤ c0_0) (hr0_1 : Kd.C k68 w A0_1 l0_1.length l0_1) (hc0_1 : l0_1.length ≤ c0_1) (hr0_2 : Kd.C k71 w A0_2 l0_2.length l0_2) (hc0_2 : l0_2.length ≤ c0_2) (hr0_9 : Kd.C k36 w A0_9 l0_9.length l0_9) (hc0_9 : l0_9.length ≤ c0_9) (hr0_10 : Kd.C (Kd.int .i64) w A0_10 l0_10.length l0_10) (hc0_10 : l0_10.length ≤ c0_10) (hr0_11 : Kd.C k38 w A0_11 l0_11.length l0_11) (hc0_11 : l0_11.length ≤ c0_11) (hr0_12 : Kd.C k56 w A0_12 l0_12.length l0_12) (hc0_12 : l0_12.length ≤ c0_12) (h : dormouseref09_Good.f k l0_0 l0_1 l0_2 a0_3 a0_4 a0_5 a0_6 a0_7 a0_8 l0_9 l0_10 l0_11 l0_12 a0_13 a0_14 = some r) :
    Calls Try.prog 9 #[.agg #[.slice A0_0 l0_0.length c0_0, .slice A0_1 l0_1.length c0_1, .slice A0_2 l0_2.length c0_2, .int .i64 a0_3, .int .i64 a0_4, .int .i64 a0_5, .int .i64 a0_6, .int .i64 a0_7, .int .i64 a0_8, .slice A0_9 l0_9.length c0_9, .slice A0_10 l0_10.length c0_10, .slice A0_11 l0_11.length c0_11, .slice A0_12 l0_12.length c0_12, .int .i64 a0_13, .int .i64 a0_14]] w fun e w' => e = .returned (.bool r) ∧ Below w.heap.size w w' := by
  have hu32 := Try.underlying32
  have hu26 := Try.underlying26
  have hu36 := Try.underlying36
  have hu38 := Try.underlying38
  have hu56 := Try.underlying56
  have HR0_0 := Aside0.mk hr0_0
  have HC0_0 := Aside0.mk hc0_0
  clear hr0_0 hc0_0
  have HR0_1 := Aside0.mk hr0_1
  have HC0_1 := Aside0.mk hc0_1
  clear hr0_1 hc0_1
  have HR0_2 := Aside0.mk hr0_2
  have HC0_2 := Aside0.mk hc0_2
  clear hr0_2 hc0_2
  have HR0_9 := Aside0.mk hr0_9
  have HC0_9 := Aside0.mk hc0_9
  clear hr0_9 hc0_9
  have HR0_10 := Aside0.mk hr0_10
  have HC0_10 := Aside0.mk hc0_10
  clear hr0_10 hc0_10
  have HR0_11 := Aside0.mk hr0_11
  have HC0_11 := Aside0.mk hc0_11
  clear hr0_11 hc0_11
  have HR0_12 := Aside0.mk hr0_12
  have HC0_12 := Aside0.mk hc0_12
  clear hr0_12 hc0_12
  have HB := Aside0.mk (Below.refl w.heap.size w)
  have H : ((dormouseref01_Table.f k l0_0 l0_1 l0_2 a0_3 a0_4 a0_5 a0_6 a0_7 a0_8).bind fun t127 => (if t127 = true then (if (l0_9.length : Int) > 64 then (dormouseref09_Good.j0 k true l0_0 l0_1 l0_2 a0_3 a0_4 a0_5 a0_6 a0_7 a0_8 l0_9 l0_10 l0_11 l0_12 a0_13 a0_14) else (if (l0_10.length : Int) = (l0_9.length : Int) then ((dormouseref09_moment.f a0_13).bind fun t128 => (if t128 = true then ((dormouseref09_moment.f a0_14).bind fun t129 => (dormouseref09_Good.j0 k (!t129) l0_0 l0_1 l0_2 a0_3 a0_4 a0_5 a0_6 a0_7 a0_8 l0_9 l0_10 l0_11 l0_12 a0_13 a0_14)) else (dormouseref09_Good.j0 k true l0_0 l0_1 l0_2 a0_3 a0_4 a0_5 a0_6 a0_7 a0_8 l0_9 l0_10 l0_11 l0_12 a0_13 a0_14))) else (dormouseref09_Good.j0 k true l0_0 l0_1 l0_2 a0_3 a0_4 a0_5 a0_6 a0_7 a0_8 l0_9 l0_10 l0_11 l0_12 a0_13 a0_14))) else (dormouseref09_Good.j0 k true l0_0 l0_1 l0_2 a0_3 a0_4 a0_5 a0_6 a0_7 a0_8 l0_9 l0_10 l0_11 l0_12 a0_13 a0_14))) = some r := h
  clear h
  have HC2 := Aside0.mk H
  clear H
  go_enter Try.func9, Try.ntmps9
  go_upto_region 1 with (first | ((with_reducible refine gate_dst (N := 1) rfl ?_); (try (refine gate_guard (by rfl) ?_; dsimp only)); refine box_event ?hg (N := 1) ?hd (cs := #[.slice A0_0 l0_0.length c0_0, .slice A0_1 l0_1.length c0_1, .slice A0_2 l0_2.length c0_2, .int .i64 a0_3, .int .i64 a0_4, .int .i64 a0_5, .int .i64 a0_6, .int .i64 a0_7, .int .i64 a0_8, .slice A0_9 l0_9.length c0_9, .slice A0_10 l0_10.length c0_10, .slice A0_11 l0_11.length c0_11, .slice A0_12 l0_12.length c0_12, .int .i64 a0_13, .int .i64 a0_14]) (t := 32) ?hr ?_; (case hd => rfl); (case hg => rfl); (case hr => first | (go_simp; done) | (go_simp; rfl)); intro gb126 hg w3 hbox hb; have n0_ := Aside0.mk (below_step (by repeat (first | (with_reducible first | exact HB.out | apply below_alloc | apply pw_below_drewN | apply below_drew1) | exact HB.out)) hb); have n1_ := Aside0.mk (hbox); have n2_ := Aside0.mk ((by rw [hg]; exact (below_size (by repeat (first | (with_reducible first | exact HB.out | apply below_alloc | apply pw_below_drewN | apply below_drew1) | exact HB.out))) : w.heap.size ≤ gb126)); have n3_ := Aside0.mk ((by rw [hg]; exact (below_size (by repeat (first | (with_reducible first | exact HB.out | apply below_alloc | apply pw_below_drewN | apply below_drew1) | exact HB.out))) : w.heap.size ≤ gb126)); clear HB; have HB := n0_; have BK126 := n1_; have GW126 := n2_; have GE126 := n3_; clear n0_ n1_ n2_ n3_; clear hb hbox hg))
  repeat (go_quiet (first | ((with_reducible refine gate_dst (N := 1) rfl ?_); (try (refine gate_guard (by rfl) ?_; dsimp only)); refine box_event ?hg (N := 1) ?hd (cs := #[.slice A0_0 l0_0.length c0_0, .slice A0_1 l0_1.length c0_1, .slice A0_2 l0_2.length c0_2, .int .i64 a0_3, .int .i64 a0_4, .int .i64 a0_5, .int .i64 a0_6, .int .i64 a0_7, .int .i64 a0_8, .slice A0_9 l0_9.length c0_9, .slice A0_10 l0_10.length c0_10, .slice A0_11 l0_11.length c0_11, .slice A0_12 l0_12.length c0_12, .int .i64 a0_13, .int .i64 a0_14]) (t := 32) ?hr ?_; (case hd => rfl); (case hg => rfl); (case hr => first | (go_simp; done) | (go_simp; rfl)); intro gb126 hg w3 hbox hb; have n0_ := Aside0.mk (below_step (by repeat (first | (with_reducible first | exact HB.out | apply below_alloc | apply pw_below_drewN | apply below_drew1) | exact HB.out)) hb); have n1_ := Aside0.mk (hbox); have n2_ := Aside0.mk ((by rw [hg]; exact (below_size (by repeat (first | (with_reducible first | exact HB.out | apply below_alloc | apply pw_below_drewN | apply below_drew1) | exact HB.out))) : w.heap.size ≤ gb126)); have n3_ := Aside0.mk ((by rw [hg]; exact (below_size (by repeat (first | (with_reducible first | exact HB.out | apply below_alloc | apply pw_below_drewN | apply below_drew1) | exact HB.out))) : w.heap.size ≤ gb126)); clear HB; have HB := n0_; have BK126 := n1_; have GW126 := n2_; have GE126 := n3_; clear n0_ n1_ n2_ n3_; clear hb hbox hg)); go_upto_region 1 with (first | ((with_reducible refine gate_dst (N := 1) rfl ?_); (try (refine gate_guard (by rfl) ?_; dsimp only)); refine box_event ?hg (N := 1) ?hd (cs := #[.slice A0_0 l0_0.length c0_0, .slice A0_1 l0_1.length c0_1, .slice A0_2 l0_2.length c0_2, .int .i64 a0_3, .int .i64 a0_4, .int .i64 a0_5, .int .i64 a0_6, .int .i64 a0_7, .int .i64 a0_8, .slice A0_9 l0_9.length c0_9, .slice A0_10 l0_10.length c0_10, .slice A0_11 l0_11.length c0_11, .slice A0_12 l0_12.length c0_12, .int .i64 a0_13, .int .i64 a0_14]) (t := 32) ?hr ?_; (case hd => rfl); (case hg => rfl); (case hr => first | (go_simp; done) | (go_simp; rfl)); intro gb126 hg w3 hbox hb; have n0_ := Aside0.mk (below_step (by repeat (first | (with_reducible first | exact HB.out | apply below_alloc | apply pw_below_drewN | apply below_drew1) | exact HB.out)) hb); have n1_ := Aside0.mk (hbox); have n2_ := Aside0.mk ((by rw [hg]; exact (below_size (by repeat (first | (with_reducible first | exact HB.out | apply below_alloc | apply pw_below_drewN | apply below_drew1) | exact HB.out))) : w.heap.size ≤ gb126)); have n3_ := Aside0.mk ((by rw [hg]; exact (below_size (by repeat (first | (with_reducible first | exact HB.out | apply below_alloc | apply pw_below_drewN | apply below_drew1) | exact HB.out))) : w.heap.size ≤ gb126)); clear HB; have HB := n0_; have BK126 := n1_; have GW126 := n2_; have GE126 := n3_; clear n0_ n1_ n2_ n3_; clear hb hbox hg)))
  (try simp only [Act.put, List.setIfInBounds_toArray, List.set_cons_zero, List.set_cons_succ])
  go_cut [43] (fun v43 wc => ∃ (kq : Nat) (x43_1 : Bool), v43 = .bool x43_1 ∧ Aside0 (dormouseref09_Good.j0 kq x43_1 l0_0 l0_1 l0_2 a0_3 a0_4 a0_5 a0_6 a0_7 a0_8 l0_9 l0_10 l0_11 l0_12 a0_13 a0_14 = some r) ∧ Aside0 (kq ≤ k) ∧ Aside0 (wc.heap[gb126]? = some (.cells #[(.slice A0_0 l0_0.length c0_0), (.slice A0_1 l0_1.length c0_1), (.slice A0_2 l0_2.length c0_2), .int .i64 a0_3, .int .i64 a0_4, .int .i64 a0_5, .int .i64 a0_6, .int .i64 a0_7, .int .i64 a0_8, (.slice A0_9 l0_9.length c0_9), (.slice A0_10 l0_10.length c0_10), (.slice A0_11 l0_11.length c0_11), (.slice A0_12 l0_12.length c0_12), .int .i64 a0_13, .int .i64 a0_14] 32 (0, 0))) ∧ Aside0 (Below w.heap.size w wc))
  case first =>
    have H := HC2.out
    clear HC2
    replace H := Option.bind_eq_some_iff.mp H
    obtain ⟨t127, A40, H⟩ := H
    replace H : (if t127 = true then (if (l0_9.length : Int) > 64 then (dormouseref09_Good.j0 k true l0_0 l0_1 l0_2 a0_3 a0_4 a0_5 a0_6 a0_7 a0_8 l0_9 l0_10 l0_11 l0_12 a0_13 a0_14) else (if (l0_10.length : Int) = (l0_9.length : Int) then ((dormouseref09_moment.f a0_13).bind fun t128 => (if t128 = true then ((dormouseref09_moment.f a0_14).bind fun t129 => (dormouseref09_Good.j0 k (!t129) l0_0 l0_1 l0_2 a0_3 a0_4 a0_5 a0_6 a0_7 a0_8 l0_9 l0_10 l0_11 l0_12 a0_13 a0_14)) else (dormouseref09_Good.j0 k true l0_0 l0_1 l0_2 a0_3 a0_4 a0_5 a0_6 a0_7 a0_8 l0_9 l0_10 l0_11 l0_12 a0_13 a0_14))) else (dormouseref09_Good.j0 k true l0_0 l0_1 l0_2 a0_3 a0_4 a0_5 a0_6 a0_7 a0_8 l0_9 l0_10 l0_11 l0_12 a0_13 a0_14))) else (dormouseref09_Good.j0 k true l0_0 l0_1 l0_2 a0_3 a0_4 a0_5 a0_6 a0_7 a0_8 l0_9 l0_10 l0_11 l0_12 a0_13 a0_14)) = some r := H
    have A4 := Aside0.mk A40
    clear A40
    by_cases c5 : t127 = true
    · subst c5
      have H1 : (if (l0_9.length : Int) > 64 then (dormouseref09_Good.j0 k true l0_0 l0_1 l0_2 a0_3 a0_4 a0_5 a0_6 a0_7 a0_8 l0_9 l0_10 l0_11 l0_12 a0_13 a0_14) else (if (l0_10.length : Int) = (l0_9.length : Int) then ((dormouseref09_moment.f a0_13).bind fun t128 => (if t128 = true then ((dormouseref09_moment.f a0_14).bind fun t129 => (dormouseref09_Good.j0 k (!t129) l0_0 l0_1 l0_2 a0_3 a0_4 a0_5 a0_6 a0_7 a0_8 l0_9 l0_10 l0_11 l0_12 a0_13 a0_14)) else (dormouseref09_Good.j0 k true l0_0 l0_1 l0_2 a0_3 a0_4 a0_5 a0_6 a0_7 a0_8 l0_9 l0_10 l0_11 l0_12 a0_13 a0_14))) else (dormouseref09_Good.j0 k true l0_0 l0_1 l0_2 a0_3 a0_4 a0_5 a0_6 a0_7 a0_8 l0_9 l0_10 l0_11 l0_12 a0_13 a0_14))) = some r := by rw [if_pos rfl] at H; exact H
      clear H
      have H := H1
      clear H1
      by_cases c6 : (l0_9.length : Int) > 64
      · rw [if_pos c6] at H
        have c6b0 : decide (64 < (l0_9.length : Int)) = true := decide_eq_true c6
        have c6b1 : decide (64 < l0_9.length) = true := decide_eq_true (by omega)
        clear c6
        (first | rw [c6b0] | (simp only [i64_w, i32_w]; rw [c6b0]) | skip)
        have H' := Aside0.mk H
        clear H
        have hcz7_0 : w3.cell? ⟨gb126, 0, none⟩ = some (.slice A0_0 l0_0.length c0_0) := (blk_cell BK126.out 0).trans rfl
        have hcz7_1 : w3.cell? ⟨gb126, 1, none⟩ = some (.slice A0_1 l0_1.length c0_1) := (blk_cell BK126.out 1).trans rfl
        have hcz7_2 : w3.cell? ⟨gb126, 2, none⟩ = some (.slice A0_2 l0_2.length c0_2) := (blk_cell BK126.out 2).trans rfl
        have hcz7_3 : w3.cell? ⟨gb126, 3, none⟩ = some (.int .i64 a0_3) := (blk_cell BK126.out 3).trans rfl
        have hcz7_4 : w3.cell? ⟨gb126, 4, none⟩ = some (.int .i64 a0_4) := (blk_cell BK126.out 4).trans rfl
        have hcz7_5 : w3.cell? ⟨gb126, 5, none⟩ = some (.int .i64 a0_5) := (blk_cell BK126.out 5).trans rfl
        have hcz7_6 : w3.cell? ⟨gb126, 6, none⟩ = some (.int .i64 a0_6) := (blk_cell BK126.out 6).trans rfl
        have hcz7_7 : w3.cell? ⟨gb126, 7, none⟩ = some (.int .i64 a0_7) := (blk_cell BK126.out 7).trans rfl
        have hcz7_8 : w3.cell? ⟨gb126, 8, none⟩ = some (.int .i64 a0_8) := (blk_cell BK126.out 8).trans rfl
        have hcz7_9 : w3.cell? ⟨gb126, 9, none⟩ = some (.slice A0_9 l0_9.length c0_9) := (blk_cell BK126.out 9).trans rfl
        have hcz7_10 : w3.cell? ⟨gb126, 10, none⟩ = some (.slice A0_10 l0_10.length c0_10) := (blk_cell BK126.out 10).trans rfl
        have hcz7_11 : w3.cell? ⟨gb126, 11, none⟩ = some (.slice A0_11 l0_11.length c0_11) := (blk_cell BK126.out 11).trans rfl
        have hcz7_12 : w3.cell? ⟨gb126, 12, none⟩ = some (.slice A0_12 l0_12.length c0_12) := (blk_cell BK126.out 12).trans rfl
        have hcz7_13 : w3.cell? ⟨gb126, 13, none⟩ = some (.int .i64 a0_13) := (blk_cell BK126.out 13).trans rfl
        have hcz7_14 : w3.cell? ⟨gb126, 14, none⟩ = some (.int .i64 a0_14) := (blk_cell BK126.out 14).trans rfl
        have hfz7_0 := blk_frozen BK126.out 0
        have hfz7_1 := blk_frozen BK126.out 1
        have hfz7_2 := blk_frozen BK126.out 2
        have hfz7_3 := blk_frozen BK126.out 3
        have hfz7_4 := blk_frozen BK126.out 4
        have hfz7_5 := blk_frozen BK126.out 5
        have hfz7_6 := blk_frozen BK126.out 6
        have hfz7_7 := blk_frozen BK126.out 7
        have hfz7_8 := blk_frozen BK126.out 8
        have hfz7_9 := blk_frozen BK126.out 9
        have hfz7_10 := blk_frozen BK126.out 10
        have hfz7_11 := blk_frozen BK126.out 11
        have hfz7_12 := blk_frozen BK126.out 12
        have hfz7_13 := blk_frozen BK126.out 13
        have hfz7_14 := blk_frozen BK126.out 14
        go_wp2_with (first | (go_at_call 22; (with_reducible refine (dormouseref01_Table.calls k _ _ l0_0 _ _ l0_1 _ _ l0_2 a0_3 a0_4 a0_5 a0_6 a0_7 a0_8 true _ ?side1 ?side2 ?side3 ?side4 ?side5 ?side6 A4.out).mono ?_); (case side1 => repeat (first | exact (Kd.C_below HR0_0.out HB.out) | (with_reducible refine Kd.C_alloc ?_ _) | (with_reducible refine Kd.C_drewN ?_ _) | (with_reducible refine Kd.C_drew ?_))); (case side2 => exact HC0_0.out); (case side3 => repeat (first | exact (Kd.C_below HR0_1.out HB.out) | (with_reducible refine Kd.C_alloc ?_ _) | (with_reducible refine Kd.C_drewN ?_ _) | (with_reducible refine Kd.C_drew ?_))); (case side4 => exact HC0_1.out); (case side5 => repeat (first | exact (Kd.C_below HR0_2.out HB.out) | (with_reducible refine Kd.C_alloc ?_ _) | (with_reducible refine Kd.C_drewN ?_ _) | (with_reducible refine Kd.C_drew ?_))); (case side6 => exact HC0_2.out); rintro e w8 ⟨rfl, hb⟩; have n0_ := Aside0.mk (blk_below (g := gb126) (o := .cells #[.slice A0_0 l0_0.length c0_0, .slice A0_1 l0_1.length c0_1, .slice A0_2 l0_2.length c0_2, .int .i64 a0_3, .int .i64 a0_4, .int .i64 a0_5, .int .i64 a0_6, .int .i64 a0_7, .int .i64 a0_8, .slice A0_9 l0_9.length c0_9, .slice A0_10 l0_10.length c0_10, .slice A0_11 l0_11.length c0_11, .slice A0_12 l0_12.length c0_12, .int .i64 a0_13, .int .i64 a0_14] 32 (0, 0)) (by (with_reducible repeat (first | refine blk_drewN ?_ _ | refine blk_drew ?_ | refine blk_alloc ?_ _)); exact BK126.out) hb); have n1_ := Aside0.mk (below_step (by repeat (first | (with_reducible first | exact HB.out | apply below_alloc | apply pw_below_drewN | apply below_drew1 | refine below_set ?_ GE126.out) | exact HB.out)) hb); clear BK126; clear HB; have BK126 := n0_; have HB := n1_; clear n0_ n1_; (try clear hb); (try clear hb2); (try clear hk); (try clear hi); have hcz9_0 : w8.cell? ⟨gb126, 0, none⟩ = some (.slice A0_0 l0_0.length c0_0) := (blk_cell BK126.out 0).trans rfl; have hcz9_1 : w8.cell? ⟨gb126, 1, none⟩ = some (.slice A0_1 l0_1.length c0_1) := (blk_cell BK126.out 1).trans rfl; have hcz9_2 : w8.cell? ⟨gb126, 2, none⟩ = some (.slice A0_2 l0_2.length c0_2) := (blk_cell BK126.out 2).trans rfl; have hcz9_3 : w8.cell? ⟨gb126, 3, none⟩ = some (.int .i64 a0_3) := (blk_cell BK126.out 3).trans rfl; have hcz9_4 : w8.cell? ⟨gb126, 4, none⟩ = some (.int .i64 a0_4) := (blk_cell BK126.out 4).trans rfl; have hcz9_5 : w8.cell? ⟨gb126, 5, none⟩ = some (.int .i64 a0_5) := (blk_cell BK126.out 5).trans rfl; have hcz9_6 : w8.cell? ⟨gb126, 6, none⟩ = some (.int .i64 a0_6) := (blk_cell BK126.out 6).trans rfl; have hcz9_7 : w8.cell? ⟨gb126, 7, none⟩ = some (.int .i64 a0_7) := (blk_cell BK126.out 7).trans rfl; have hcz9_8 : w8.cell? ⟨gb126, 8, none⟩ = some (.int .i64 a0_8) := (blk_cell BK126.out 8).trans rfl; have hcz9_9 : w8.cell? ⟨gb126, 9, none⟩ = some (.slice A0_9 l0_9.length c0_9) := (blk_cell BK126.out 9).trans rfl; have hcz9_10 : w8.cell? ⟨gb126, 10, none⟩ = some (.slice A0_10 l0_10.length c0_10) := (blk_cell BK126.out 10).trans rfl; have hcz9_11 : w8.cell? ⟨gb126, 11, none⟩ = some (.slice A0_11 l0_11.length c0_11) := (blk_cell BK126.out 11).trans rfl; have hcz9_12 : w8.cell? ⟨gb126, 12, none⟩ = some (.slice A0_12 l0_12.length c0_12) := (blk_cell BK126.out 12).trans rfl; have hcz9_13 : w8.cell? ⟨gb126, 13, none⟩ = some (.int .i64 a0_13) := (blk_cell BK126.out 13).trans rfl; have hcz9_14 : w8.cell? ⟨gb126, 14, none⟩ = some (.int .i64 a0_14) := (blk_cell BK126.out 14).trans rfl; have hfz9_0 := blk_frozen BK126.out 0; have hfz9_1 := blk_frozen BK126.out 1; have hfz9_2 := blk_frozen BK126.out 2; have hfz9_3 := blk_frozen BK126.out 3; have hfz9_4 := blk_frozen BK126.out 4; have hfz9_5 := blk_frozen BK126.out 5; have hfz9_6 := blk_frozen BK126.out 6; have hfz9_7 := blk_frozen BK126.out 7; have hfz9_8 := blk_frozen BK126.out 8; have hfz9_9 := blk_frozen BK126.out 9; have hfz9_10 := blk_frozen BK126.out 10; have hfz9_11 := blk_frozen BK126.out 11; have hfz9_12 := blk_frozen BK126.out 12; have hfz9_13 := blk_frozen BK126.out 13; have hfz9_14 := blk_frozen BK126.out 14))
        repeat (go_quiet (first | (go_at_call 22; (with_reducible refine (dormouseref01_Table.calls k _ _ l0_0 _ _ l0_1 _ _ l0_2 a0_3 a0_4 a0_5 a0_6 a0_7 a0_8 true _ ?side1 ?side2 ?side3 ?side4 ?side5 ?side6 A4.out).mono ?_); (case side1 => repeat (first | exact (Kd.C_below HR0_0.out HB.out) | (with_reducible refine Kd.C_alloc ?_ _) | (with_reducible refine Kd.C_drewN ?_ _) | (with_reducible refine Kd.C_drew ?_))); (case side2 => exact HC0_0.out); (case side3 => repeat (first | exact (Kd.C_below HR0_1.out HB.out) | (with_reducible refine Kd.C_alloc ?_ _) | (with_reducible refine Kd.C_drewN ?_ _) | (with_reducible refine Kd.C_drew ?_))); (case side4 => exact HC0_1.out); (case side5 => repeat (first | exact (Kd.C_below HR0_2.out HB.out) | (with_reducible refine Kd.C_alloc ?_ _) | (with_reducible refine Kd.C_drewN ?_ _) | (with_reducible refine Kd.C_drew ?_))); (case side6 => exact HC0_2.out); rintro e w8 ⟨rfl, hb⟩; have n0_ := Aside0.mk (blk_below (g := gb126) (o := .cells #[.slice A0_0 l0_0.length c0_0, .slice A0_1 l0_1.length c0_1, .slice A0_2 l0_2.length c0_2, .int .i64 a0_3, .int .i64 a0_4, .int .i64 a0_5, .int .i64 a0_6, .int .i64 a0_7, .int .i64 a0_8, .slice A0_9 l0_9.length c0_9, .slice A0_10 l0_10.length c0_10, .slice A0_11 l0_11.length c0_11, .slice A0_12 l0_12.length c0_12, .int .i64 a0_13, .int .i64 a0_14] 32 (0, 0)) (by (with_reducible repeat (first | refine blk_drewN ?_ _ | refine blk_drew ?_ | refine blk_alloc ?_ _)); exact BK126.out) hb); have n1_ := Aside0.mk (below_step (by repeat (first | (with_reducible first | exact HB.out | apply below_alloc | apply pw_below_drewN | apply below_drew1 | refine below_set ?_ GE126.out) | exact HB.out)) hb); clear BK126; clear HB; have BK126 := n0_; have HB := n1_; clear n0_ n1_; (try clear hb); (try clear hb2); (try clear hk); (try clear hi); have hcz9_0 : w8.cell? ⟨gb126, 0, none⟩ = some (.slice A0_0 l0_0.length c0_0) := (blk_cell BK126.out 0).trans rfl; have hcz9_1 : w8.cell? ⟨gb126, 1, none⟩ = some (.slice A0_1 l0_1.length c0_1) := (blk_cell BK126.out 1).trans rfl; have hcz9_2 : w8.cell? ⟨gb126, 2, none⟩ = some (.slice A0_2 l0_2.length c0_2) := (blk_cell BK126.out 2).trans rfl; have hcz9_3 : w8.cell? ⟨gb126, 3, none⟩ = some (.int .i64 a0_3) := (blk_cell BK126.out 3).trans rfl; have hcz9_4 : w8.cell? ⟨gb126, 4, none⟩ = some (.int .i64 a0_4) := (blk_cell BK126.out 4).trans rfl; have hcz9_5 : w8.cell? ⟨gb126, 5, none⟩ = some (.int .i64 a0_5) := (blk_cell BK126.out 5).trans rfl; have hcz9_6 : w8.cell? ⟨gb126, 6, none⟩ = some (.int .i64 a0_6) := (blk_cell BK126.out 6).trans rfl; have hcz9_7 : w8.cell? ⟨gb126, 7, none⟩ = some (.int .i64 a0_7) := (blk_cell BK126.out 7).trans rfl; have hcz9_8 : w8.cell? ⟨gb126, 8, none⟩ = some (.int .i64 a0_8) := (blk_cell BK126.out 8).trans rfl; have hcz9_9 : w8.cell? ⟨gb126, 9, none⟩ = some (.slice A0_9 l0_9.length c0_9) := (blk_cell BK126.out 9).trans rfl; have hcz9_10 : w8.cell? ⟨gb126, 10, none⟩ = some (.slice A0_10 l0_10.length c0_10) := (blk_cell BK126.out 10).trans rfl; have hcz9_11 : w8.cell? ⟨gb126, 11, none⟩ = some (.slice A0_11 l0_11.length c0_11) := (blk_cell BK126.out 11).trans rfl; have hcz9_12 : w8.cell? ⟨gb126, 12, none⟩ = some (.slice A0_12 l0_12.length c0_12) := (blk_cell BK126.out 12).trans rfl; have hcz9_13 : w8.cell? ⟨gb126, 13, none⟩ = some (.int .i64 a0_13) := (blk_cell BK126.out 13).trans rfl; have hcz9_14 : w8.cell? ⟨gb126, 14, none⟩ = some (.int .i64 a0_14) := (blk_cell BK126.out 14).trans rfl; have hfz9_0 := blk_frozen BK126.out 0; have hfz9_1 := blk_frozen BK126.out 1; have hfz9_2 := blk_frozen BK126.out 2; have hfz9_3 := blk_frozen BK126.out 3; have hfz9_4 := blk_frozen BK126.out 4; have hfz9_5 := blk_frozen BK126.out 5; have hfz9_6 := blk_frozen BK126.out 6; have hfz9_7 := blk_frozen BK126.out 7; have hfz9_8 := blk_frozen BK126.out 8; have hfz9_9 := blk_frozen BK126.out 9; have hfz9_10 := blk_frozen BK126.out 10; have hfz9_11 := blk_frozen BK126.out 11; have hfz9_12 := blk_frozen BK126.out 12; have hfz9_13 := blk_frozen BK126.out 13; have hfz9_14 := blk_frozen BK126.out 14)); try go_wp2_with (first | (go_at_call 22; (with_reducible refine (dormouseref01_Table.calls k _ _ l0_0 _ _ l0_1 _ _ l0_2 a0_3 a0_4 a0_5 a0_6 a0_7 a0_8 true _ ?side1 ?side2 ?side3 ?side4 ?side5 ?side6 A4.out).mono ?_); (case side1 => repeat (first | exact (Kd.C_below HR0_0.out HB.out) | (with_reducible refine Kd.C_alloc ?_ _) | (with_reducible refine Kd.C_drewN ?_ _) | (with_reducible refine Kd.C_drew ?_))); (case side2 => exact HC0_0.out); (case side3 => repeat (first | exact (Kd.C_below HR0_1.out HB.out) | (with_reducible refine Kd.C_alloc ?_ _) | (with_reducible refine Kd.C_drewN ?_ _) | (with_reducible refine Kd.C_drew ?_))); (case side4 => exact HC0_1.out); (case side5 => repeat (first | exact (Kd.C_below HR0_2.out HB.out) | (with_reducible refine Kd.C_alloc ?_ _) | (with_reducible refine Kd.C_drewN ?_ _) | (with_reducible refine Kd.C_drew ?_))); (case side6 => exact HC0_2.out); rintro e w8 ⟨rfl, hb⟩; have n0_ := Aside0.mk (blk_below (g := gb126) (o := .cells #[.slice A0_0 l0_0.length c0_0, .slice A0_1 l0_1.length c0_1, .slice A0_2 l0_2.length c0_2, .int .i64 a0_3, .int .i64 a0_4, .int .i64 a0_5, .int .i64 a0_6, .int .i64 a0_7, .int .i64 a0_8, .slice A0_9 l0_9.length c0_9, .slice A0_10 l0_10.length c0_10, .slice A0_11 l0_11.length c0_11, .slice A0_12 l0_12.length c0_12, .int .i64 a0_13, .int .i64 a0_14] 32 (0, 0)) (by (with_reducible repeat (first | refine blk_drewN ?_ _ | refine blk_drew ?_ | refine blk_alloc ?_ _)); exact BK126.out) hb); have n1_ := Aside0.mk (below_step (by repeat (first | (with_reducible first | exact HB.out | apply below_alloc | apply pw_below_drewN | apply below_drew1 | refine below_set ?_ GE126.out) | exact HB.out)) hb); clear BK126; clear HB; have BK126 := n0_; have HB := n1_; clear n0_ n1_; (try clear hb); (try clear hb2); (try clear hk); (try clear hi); have hcz9_0 : w8.cell? ⟨gb126, 0, none⟩ = some (.slice A0_0 l0_0.length c0_0) := (blk_cell BK126.out 0).trans rfl; have hcz9_1 : w8.cell? ⟨gb126, 1, none⟩ = some (.slice A0_1 l0_1.length c0_1) := (blk_cell BK126.out 1).trans rfl; have hcz9_2 : w8.cell? ⟨gb126, 2, none⟩ = some (.slice A0_2 l0_2.length c0_2) := (blk_cell BK126.out 2).trans rfl; have hcz9_3 : w8.cell? ⟨gb126, 3, none⟩ = some (.int .i64 a0_3) := (blk_cell BK126.out 3).trans rfl; have hcz9_4 : w8.cell? ⟨gb126, 4, none⟩ = some (.int .i64 a0_4) := (blk_cell BK126.out 4).trans rfl; have hcz9_5 : w8.cell? ⟨gb126, 5, none⟩ = some (.int .i64 a0_5) := (blk_cell BK126.out 5).trans rfl; have hcz9_6 : w8.cell? ⟨gb126, 6, none⟩ = some (.int .i64 a0_6) := (blk_cell BK126.out 6).trans rfl; have hcz9_7 : w8.cell? ⟨gb126, 7, none⟩ = some (.int .i64 a0_7) := (blk_cell BK126.out 7).trans rfl; have hcz9_8 : w8.cell? ⟨gb126, 8, none⟩ = some (.int .i64 a0_8) := (blk_cell BK126.out 8).trans rfl; have hcz9_9 : w8.cell? ⟨gb126, 9, none⟩ = some (.slice A0_9 l0_9.length c0_9) := (blk_cell BK126.out 9).trans rfl; have hcz9_10 : w8.cell? ⟨gb126, 10, none⟩ = some (.slice A0_10 l0_10.length c0_10) := (blk_cell BK126.out 10).trans rfl; have hcz9_11 : w8.cell? ⟨gb126, 11, none⟩ = some (.slice A0_11 l0_11.length c0_11) := (blk_cell BK126.out 11).trans rfl; have hcz9_12 : w8.cell? ⟨gb126, 12, none⟩ = some (.slice A0_12 l0_12.length c0_12) := (blk_cell BK126.out 12).trans rfl; have hcz9_13 : w8.cell? ⟨gb126, 13, none⟩ = some (.int .i64 a0_13) := (blk_cell BK126.out 13).trans rfl; have hcz9_14 : w8.cell? ⟨gb126, 14, none⟩ = some (.int .i64 a0_14) := (blk_cell BK126.out 14).trans rfl; have hfz9_0 := blk_frozen BK126.out 0; have hfz9_1 := blk_frozen BK126.out 1; have hfz9_2 := blk_frozen BK126.out 2; have hfz9_3 := blk_frozen BK126.out 3; have hfz9_4 := blk_frozen BK126.out 4; have hfz9_5 := blk_frozen BK126.out 5; have hfz9_6 := blk_frozen BK126.out 6; have hfz9_7 := blk_frozen BK126.out 7; have hfz9_8 := blk_frozen BK126.out 8; have hfz9_9 := blk_frozen BK126.out 9; have hfz9_10 := blk_frozen BK126.out 10; have hfz9_11 := blk_frozen BK126.out 11; have hfz9_12 := blk_frozen BK126.out 12; have hfz9_13 := blk_frozen BK126.out 13; have hfz9_14 := blk_frozen BK126.out 14)))
        go_meet
        case rel => exact ⟨_, (true), (by first | rfl | (simp; done) | (simp [*]; done)), H', ⟨by first | omega | exact Nat.le_refl _⟩, ⟨by (with_reducible repeat (first | refine blk_drewN ?_ _ | refine blk_drew ?_ | refine blk_alloc ?_ _)); exact BK126.out⟩, ⟨by repeat (first | (with_reducible first | exact HB.out | apply below_alloc | apply pw_below_drewN | apply below_drew1 | refine below_set ?_ GE126.out) | exact HB.out)⟩⟩
      · rw [if_neg c6] at H
        have c6b0 : decide (64 < (l0_9.length : Int)) = false := decide_eq_false c6
        have c6b1 : decide (64 < l0_9.length) = false := decide_eq_false (by omega)
        clear c6
        (first | rw [c6b0] | (simp only [i64_w, i32_w]; rw [c6b0]) | skip)
        by_cases c10 : (l0_10.length : Int) = (l0_9.length : Int)
        · rw [if_pos c10] at H
          have c10b0 : ((l0_10.length : Int) == (l0_9.length : Int)) = true := beq_iff_eq.mpr c10
          have c10b1 : ((l0_10.length : Int) != (l0_9.length : Int)) = false := bne_eq_false_iff_eq.mpr c10
          have c10b2 : (l0_10.length == l0_9.length) = true := by first | simpa using c10 | (simp at c10 ⊢; omega)
          clear c10
          replace H := Option.bind_eq_some_iff.mp H
          obtain ⟨t128, A110, H⟩ := H
          replace H : (if t128 = true then ((dormouseref09_moment.f a0_14).bind fun t129 => (dormouseref09_Good.j0 k (!t129) l0_0 l0_1 l0_2 a0_3 a0_4 a0_5 a0_6 a0_7 a0_8 l0_9 l0_10 l0_11 l0_12 a0_13 a0_14)) else (dormouseref09_Good.j0 k true l0_0 l0_1 l0_2 a0_3 a0_4 a0_5 a0_6 a0_7 a0_8 l0_9 l0_10 l0_11 l0_12 a0_13 a0_14)) = some r := H
          have A11 := Aside0.mk A110
          clear A110
          by_cases c12 : t128 = true
          · subst c12
            have H1 : ((dormouseref09_moment.f a0_14).bind fun t129 => (dormouseref09_Good.j0 k (!t129) l0_0 l0_1 l0_2 a0_3 a0_4 a0_5 a0_6 a0_7 a0_8 l0_9 l0_10 l0_11 l0_12 a0_13 a0_14)) = some r := by rw [if_pos rfl] at H; exact H
            clear H
            have H := H1
            clear H1
            replace H := Option.bind_eq_some_iff.mp H
            obtain ⟨t129, A130, H⟩ := H
            replace H : (dormouseref09_Good.j0 k (!t129) l0_0 l0_1 l0_2 a0_3 a0_4 a0_5 a0_6 a0_7 a0_8 l0_9 l0_10 l0_11 l0_12 a0_13 a0_14) = some r := H
            have A13 := Aside0.mk A130
            clear A130
            have H' := Aside0.mk H
            clear H
            have hcz14_0 : w3.cell? ⟨gb126, 0, none⟩ = some (.slice A0_0 l0_0.length c0_0) := (blk_cell BK126.out 0).trans rfl
            have hcz14_1 : w3.cell? ⟨gb126, 1, none⟩ = some (.slice A0_1 l0_1.length c0_1) := (blk_cell BK126.out 1).trans rfl
            have hcz14_2 : w3.cell? ⟨gb126, 2, none⟩ = some (.slice A0_2 l0_2.length c0_2) := (blk_cell BK126.out 2).trans rfl
            have hcz14_3 : w3.cell? ⟨gb126, 3, none⟩ = some (.int .i64 a0_3) := (blk_cell BK126.out 3).trans rfl
            have hcz14_4 : w3.cell? ⟨gb126, 4, none⟩ = some (.int .i64 a0_4) := (blk_cell BK126.out 4).trans rfl
            have hcz14_5 : w3.cell? ⟨gb126, 5, none⟩ = some (.int .i64 a0_5) := (blk_cell BK126.out 5).trans rfl
            have hcz14_6 : w3.cell? ⟨gb126, 6, none⟩ = some (.int .i64 a0_6) := (blk_cell BK126.out 6).trans rfl
            have hcz14_7 : w3.cell? ⟨gb126, 7, none⟩ = some (.int .i64 a0_7) := (blk_cell BK126.out 7).trans rfl
            have hcz14_8 : w3.cell? ⟨gb126, 8, none⟩ = some (.int .i64 a0_8) := (blk_cell BK126.out 8).trans rfl
            have hcz14_9 : w3.cell? ⟨gb126, 9, none⟩ = some (.slice A0_9 l0_9.length c0_9) := (blk_cell BK126.out 9).trans rfl
            have hcz14_10 : w3.cell? ⟨gb126, 10, none⟩ = some (.slice A0_10 l0_10.length c0_10) := (blk_cell BK126.out 10).trans rfl
            have hcz14_11 : w3.cell? ⟨gb126, 11, none⟩ = some (.slice A0_11 l0_11.length c0_11) := (blk_cell BK126.out 11).trans rfl
            have hcz14_12 : w3.cell? ⟨gb126, 12, none⟩ = some (.slice A0_12 l0_12.length c0_12) := (blk_cell BK126.out 12).trans rfl
            have hcz14_13 : w3.cell? ⟨gb126, 13, none⟩ = some (.int .i64 a0_13) := (blk_cell BK126.out 13).trans rfl
            have hcz14_14 : w3.cell? ⟨gb126, 14, none⟩ = some (.int .i64 a0_14) := (blk_cell BK126.out 14).trans rfl
            have hfz14_0 := blk_frozen BK126.out 0
            have hfz14_1 := blk_frozen BK126.out 1
            have hfz14_2 := blk_frozen BK126.out 2
            have hfz14_3 := blk_frozen BK126.out 3
            have hfz14_4 := blk_frozen BK126.out 4
            have hfz14_5 := blk_frozen BK126.out 5
            have hfz14_6 := blk_frozen BK126.out 6
            have hfz14_7 := blk_frozen BK126.out 7
            have hfz14_8 := blk_frozen BK126.out 8
            have hfz14_9 := blk_frozen BK126.out 9
            have hfz14_10 := blk_frozen BK126.out 10
            have hfz14_11 := blk_frozen BK126.out 11
            have hfz14_12 := blk_frozen BK126.out 12
            have hfz14_13 := blk_frozen BK126.out 13
            have hfz14_14 := blk_frozen BK126.out 14
            go_wp2_with (first | (go_at_call 22; (with_reducible refine (dormouseref01_Table.calls k _ _ l0_0 _ _ l0_1 _ _ l0_2 a0_3 a0_4 a0_5 a0_6 a0_7 a0_8 true _ ?side1 ?side2 ?side3 ?side4 ?side5 ?side6 A4.out).mono ?_); (case side1 => repeat (first | exact (Kd.C_below HR0_0.out HB.out) | (with_reducible refine Kd.C_alloc ?_ _) | (with_reducible refine Kd.C_drewN ?_ _) | (with_reducible refine Kd.C_drew ?_))); (case side2 => exact HC0_0.out); (case side3 => repeat (first | exact (Kd.C_below HR0_1.out HB.out) | (with_reducible refine Kd.C_alloc ?_ _) | (with_reducible refine Kd.C_drewN ?_ _) | (with_reducible refine Kd.C_drew ?_))); (case side4 => exact HC0_1.out); (case side5 => repeat (first | exact (Kd.C_below HR0_2.out HB.out) | (with_reducible refine Kd.C_alloc ?_ _) | (with_reducible refine Kd.C_drewN ?_ _) | (with_reducible refine Kd.C_drew ?_))); (case side6 => exact HC0_2.out); rintro e w15 ⟨rfl, hb⟩; have n0_ := Aside0.mk (blk_below (g := gb126) (o := .cells #[.slice A0_0 l0_0.length c0_0, .slice A0_1 l0_1.length c0_1, .slice A0_2 l0_2.length c0_2, .int .i64 a0_3, .int .i64 a0_4, .int .i64 a0_5, .int .i64 a0_6, .int .i64 a0_7, .int .i64 a0_8, .slice A0_9 l0_9.length c0_9, .slice A0_10 l0_10.length c0_10, .slice A0_11 l0_11.length c0_11, .slice A0_12 l0_12.length c0_12, .int .i64 a0_13, .int .i64 a0_14] 32 (0, 0)) (by (with_reducible repeat (first | refine blk_drewN ?_ _ | refine blk_drew ?_ | refine blk_alloc ?_ _)); exact BK126.out) hb); have n1_ := Aside0.mk (below_step (by repeat (first | (with_reducible first | exact HB.out | apply below_alloc | apply pw_below_drewN | apply below_drew1 | refine below_set ?_ GE126.out) | exact HB.out)) hb); clear BK126; clear HB; have BK126 := n0_; have HB := n1_; clear n0_ n1_; (try clear hb); (try clear hb2); (try clear hk); (try clear hi); have hcz16_0 : w15.cell? ⟨gb126, 0, none⟩ = some (.slice A0_0 l0_0.length c0_0) := (blk_cell BK126.out 0).trans rfl; have hcz16_1 : w15.cell? ⟨gb126, 1, none⟩ = some (.slice A0_1 l0_1.length c0_1) := (blk_cell BK126.out 1).trans rfl; have hcz16_2 : w15.cell? ⟨gb126, 2, none⟩ = some (.slice A0_2 l0_2.length c0_2) := (blk_cell BK126.out 2).trans rfl; have hcz16_3 : w15.cell? ⟨gb126, 3, none⟩ = some (.int .i64 a0_3) := (blk_cell BK126.out 3).trans rfl; have hcz16_4 : w15.cell? ⟨gb126, 4, none⟩ = some (.int .i64 a0_4) := (blk_cell BK126.out 4).trans rfl; have hcz16_5 : w15.cell? ⟨gb126, 5, none⟩ = some (.int .i64 a0_5) := (blk_cell BK126.out 5).trans rfl; have hcz16_6 : w15.cell? ⟨gb126, 6, none⟩ = some (.int .i64 a0_6) := (blk_cell BK126.out 6).trans rfl; have hcz16_7 : w15.cell? ⟨gb126, 7, none⟩ = some (.int .i64 a0_7) := (blk_cell BK126.out 7).trans rfl; have hcz16_8 : w15.cell? ⟨gb126, 8, none⟩ = some (.int .i64 a0_8) := (blk_cell BK126.out 8).trans rfl; have hcz16_9 : w15.cell? ⟨gb126, 9, none⟩ = some (.slice A0_9 l0_9.length c0_9) := (blk_cell BK126.out 9).trans rfl; have hcz16_10 : w15.cell? ⟨gb126, 10, none⟩ = some (.slice A0_10 l0_10.length c0_10) := (blk_cell BK126.out 10).trans rfl; have hcz16_11 : w15.cell? ⟨gb126, 11, none⟩ = some (.slice A0_11 l0_11.length c0_11) := (blk_cell BK126.out 11).trans rfl; have hcz16_12 : w15.cell? ⟨gb126, 12, none⟩ = some (.slice A0_12 l0_12.length c0_12) := (blk_cell BK126.out 12).trans rfl; have hcz16_13 : w15.cell? ⟨gb126, 13, none⟩ = some (.int .i64 a0_13) := (blk_cell BK126.out 13).trans rfl; have hcz16_14 : w15.cell? ⟨gb126, 14, none⟩ = some (.int .i64 a0_14) := (blk_cell BK126.out 14).trans rfl; have hfz16_0 := blk_frozen BK126.out 0; have hfz16_1 := blk_frozen BK126.out 1; have hfz16_2 := blk_frozen BK126.out 2; have hfz16_3 := blk_frozen BK126.out 3; have hfz16_4 := blk_frozen BK126.out 4; have hfz16_5 := blk_frozen BK126.out 5; have hfz16_6 := blk_frozen BK126.out 6; have hfz16_7 := blk_frozen BK126.out 7; have hfz16_8 := blk_frozen BK126.out 8; have hfz16_9 := blk_frozen BK126.out 9; have hfz16_10 := blk_frozen BK126.out 10; have hfz16_11 := blk_frozen BK126.out 11; have hfz16_12 := blk_frozen BK126.out 12; have hfz16_13 := blk_frozen BK126.out 13; have hfz16_14 := blk_frozen BK126.out 14) | (go_at_call 23; (with_reducible refine (dormouseref09_moment.calls a0_13 true _ A11.out).mono ?_); rintro e w' ⟨rfl, ⟨nd, rfl⟩⟩; (try first | exact ⟨rfl, _, World.drewN_drewN _ _ _⟩ | exact ⟨rfl, _, Eq.trans (World.drewN_drewN _ _ _) (congrArg (World.drewN _) (Nat.add_assoc _ _ _))⟩)) | (go_at_call 23; (with_reducible refine (dormouseref09_moment.calls a0_14 t129 _ A13.out).mono ?_); rintro e w' ⟨rfl, ⟨nd, rfl⟩⟩; (try first | exact ⟨rfl, _, World.drewN_drewN _ _ _⟩ | exact ⟨rfl, _, Eq.trans (World.drewN_drewN _ _ _) (congrArg (World.drewN _) (Nat.add_assoc _ _ _))⟩)))
            repeat (go_quiet (first | (go_at_call 22; (with_reducible refine (dormouseref01_Table.calls k _ _ l0_0 _ _ l0_1 _ _ l0_2 a0_3 a0_4 a0_5 a0_6 a0_7 a0_8 true _ ?side1 ?side2 ?side3 ?side4 ?side5 ?side6 A4.out).mono ?_); (case side1 => repeat (first | exact (Kd.C_below HR0_0.out HB.out) | (with_reducible refine Kd.C_alloc ?_ _) | (with_reducible refine Kd.C_drewN ?_ _) | (with_reducible refine Kd.C_drew ?_))); (case side2 => exact HC0_0.out); (case side3 => repeat (first | exact (Kd.C_below HR0_1.out HB.out) | (with_reducible refine Kd.C_alloc ?_ _) | (with_reducible refine Kd.C_drewN ?_ _) | (with_reducible refine Kd.C_drew ?_))); (case side4 => exact HC0_1.out); (case side5 => repeat (first | exact (Kd.C_below HR0_2.out HB.out) | (with_reducible refine Kd.C_alloc ?_ _) | (with_reducible refine Kd.C_drewN ?_ _) | (with_reducible refine Kd.C_drew ?_))); (case side6 => exact HC0_2.out); rintro e w15 ⟨rfl, hb⟩; have n0_ := Aside0.mk (blk_below (g := gb126) (o := .cells #[.slice A0_0 l0_0.length c0_0, .slice A0_1 l0_1.length c0_1, .slice A0_2 l0_2.length c0_2, .int .i64 a0_3, .int .i64 a0_4, .int .i64 a0_5, .int .i64 a0_6, .int .i64 a0_7, .int .i64 a0_8, .slice A0_9 l0_9.length c0_9, .slice A0_10 l0_10.length c0_10, .slice A0_11 l0_11.length c0_11, .slice A0_12 l0_12.length c0_12, .int .i64 a0_13, .int .i64 a0_14] 32 (0, 0)) (by (with_reducible repeat (first | refine blk_drewN ?_ _ | refine blk_drew ?_ | refine blk_alloc ?_ _)); exact BK126.out) hb); have n1_ := Aside0.mk (below_step (by repeat (first | (with_reducible first | exact HB.out | apply below_alloc | apply pw_below_drewN | apply below_drew1 | refine below_set ?_ GE126.out) | exact HB.out)) hb); clear BK126; clear HB; have BK126 := n0_; have HB := n1_; clear n0_ n1_; (try clear hb); (try clear hb2); (try clear hk); (try clear hi); have hcz16_0 : w15.cell? ⟨gb126, 0, none⟩ = some (.slice A0_0 l0_0.length c0_0) := (blk_cell BK126.out 0).trans rfl; have hcz16_1 : w15.cell? ⟨gb126, 1, none⟩ = some (.slice A0_1 l0_1.length c0_1) := (blk_cell BK126.out 1).trans rfl; have hcz16_2 : w15.cell? ⟨gb126, 2, none⟩ = some (.slice A0_2 l0_2.length c0_2) := (blk_cell BK126.out 2).trans rfl; have hcz16_3 : w15.cell? ⟨gb126, 3, none⟩ = some (.int .i64 a0_3) := (blk_cell BK126.out 3).trans rfl; have hcz16_4 : w15.cell? ⟨gb126, 4, none⟩ = some (.int .i64 a0_4) := (blk_cell BK126.out 4).trans rfl; have hcz16_5 : w15.cell? ⟨gb126, 5, none⟩ = some (.int .i64 a0_5) := (blk_cell BK126.out 5).trans rfl; have hcz16_6 : w15.cell? ⟨gb126, 6, none⟩ = some (.int .i64 a0_6) := (blk_cell BK126.out 6).trans rfl; have hcz16_7 : w15.cell? ⟨gb126, 7, none⟩ = some (.int .i64 a0_7) := (blk_cell BK126.out 7).trans rfl; have hcz16_8 : w15.cell? ⟨gb126, 8, none⟩ = some (.int .i64 a0_8) := (blk_cell BK126.out 8).trans rfl; have hcz16_9 : w15.cell? ⟨gb126, 9, none⟩ = some (.slice A0_9 l0_9.length c0_9) := (blk_cell BK126.out 9).trans rfl; have hcz16_10 : w15.cell? ⟨gb126, 10, none⟩ = some (.slice A0_10 l0_10.length c0_10) := (blk_cell BK126.out 10).trans rfl; have hcz16_11 : w15.cell? ⟨gb126, 11, none⟩ = some (.slice A0_11 l0_11.length c0_11) := (blk_cell BK126.out 11).trans rfl; have hcz16_12 : w15.cell? ⟨gb126, 12, none⟩ = some (.slice A0_12 l0_12.length c0_12) := (blk_cell BK126.out 12).trans rfl; have hcz16_13 : w15.cell? ⟨gb126, 13, none⟩ = some (.int .i64 a0_13) := (blk_cell BK126.out 13).trans rfl; have hcz16_14 : w15.cell? ⟨gb126, 14, none⟩ = some (.int .i64 a0_14) := (blk_cell BK126.out 14).trans rfl; have hfz16_0 := blk_frozen BK126.out 0; have hfz16_1 := blk_frozen BK126.out 1; have hfz16_2 := blk_frozen BK126.out 2; have hfz16_3 := blk_frozen BK126.out 3; have hfz16_4 := blk_frozen BK126.out 4; have hfz16_5 := blk_frozen BK126.out 5; have hfz16_6 := blk_frozen BK126.out 6; have hfz16_7 := blk_frozen BK126.out 7; have hfz16_8 := blk_frozen BK126.out 8; have hfz16_9 := blk_frozen BK126.out 9; have hfz16_10 := blk_frozen BK126.out 10; have hfz16_11 := blk_frozen BK126.out 11; have hfz16_12 := blk_frozen BK126.out 12; have hfz16_13 := blk_frozen BK126.out 13; have hfz16_14 := blk_frozen BK126.out 14) | (go_at_call 23; (with_reducible refine (dormouseref09_moment.calls a0_13 true _ A11.out).mono ?_); rintro e w' ⟨rfl, ⟨nd, rfl⟩⟩; (try first | exact ⟨rfl, _, World.drewN_drewN _ _ _⟩ | exact ⟨rfl, _, Eq.trans (World.drewN_drewN _ _ _) (congrArg (World.drewN _) (Nat.add_assoc _ _ _))⟩)) | (go_at_call 23; (with_reducible refine (dormouseref09_moment.calls a0_14 t129 _ A13.out).mono ?_); rintro e w' ⟨rfl, ⟨nd, rfl⟩⟩; (try first | exact ⟨rfl, _, World.drewN_drewN _ _ _⟩ | exact ⟨rfl, _, Eq.trans (World.drewN_drewN _ _ _) (congrArg (World.drewN _) (Nat.add_assoc _ _ _))⟩))); try go_wp2_with (first | (go_at_call 22; (with_reducible refine (dormouseref01_Table.calls k _ _ l0_0 _ _ l0_1 _ _ l0_2 a0_3 a0_4 a0_5 a0_6 a0_7 a0_8 true _ ?side1 ?side2 ?side3 ?side4 ?side5 ?side6 A4.out).mono ?_); (case side1 => repeat (first | exact (Kd.C_below HR0_0.out HB.out) | (with_reducible refine Kd.C_alloc ?_ _) | (with_reducible refine Kd.C_drewN ?_ _) | (with_reducible refine Kd.C_drew ?_))); (case side2 => exact HC0_0.out); (case side3 => repeat (first | exact (Kd.C_below HR0_1.out HB.out) | (with_reducible refine Kd.C_alloc ?_ _) | (with_reducible refine Kd.C_drewN ?_ _) | (with_reducible refine Kd.C_drew ?_))); (case side4 => exact HC0_1.out); (case side5 => repeat (first | exact (Kd.C_below HR0_2.out HB.out) | (with_reducible refine Kd.C_alloc ?_ _) | (with_reducible refine Kd.C_drewN ?_ _) | (with_reducible refine Kd.C_drew ?_))); (case side6 => exact HC0_2.out); rintro e w15 ⟨rfl, hb⟩; have n0_ := Aside0.mk (blk_below (g := gb126) (o := .cells #[.slice A0_0 l0_0.length c0_0, .slice A0_1 l0_1.length c0_1, .slice A0_2 l0_2.length c0_2, .int .i64 a0_3, .int .i64 a0_4, .int .i64 a0_5, .int .i64 a0_6, .int .i64 a0_7, .int .i64 a0_8, .slice A0_9 l0_9.length c0_9, .slice A0_10 l0_10.length c0_10, .slice A0_11 l0_11.length c0_11, .slice A0_12 l0_12.length c0_12, .int .i64 a0_13, .int .i64 a0_14] 32 (0, 0)) (by (with_reducible repeat (first | refine blk_drewN ?_ _ | refine blk_drew ?_ | refine blk_alloc ?_ _)); exact BK126.out) hb); have n1_ := Aside0.mk (below_step (by repeat (first | (with_reducible first | exact HB.out | apply below_alloc | apply pw_below_drewN | apply below_drew1 | refine below_set ?_ GE126.out) | exact HB.out)) hb); clear BK126; clear HB; have BK126 := n0_; have HB := n1_; clear n0_ n1_; (try clear hb); (try clear hb2); (try clear hk); (try clear hi); have hcz16_0 : w15.cell? ⟨gb126, 0, none⟩ = some (.slice A0_0 l0_0.length c0_0) := (blk_cell BK126.out 0).trans rfl; have hcz16_1 : w15.cell? ⟨gb126, 1, none⟩ = some (.slice A0_1 l0_1.length c0_1) := (blk_cell BK126.out 1).trans rfl; have hcz16_2 : w15.cell? ⟨gb126, 2, none⟩ = some (.slice A0_2 l0_2.length c0_2) := (blk_cell BK126.out 2).trans rfl; have hcz16_3 : w15.cell? ⟨gb126, 3, none⟩ = some (.int .i64 a0_3) := (blk_cell BK126.out 3).trans rfl; have hcz16_4 : w15.cell? ⟨gb126, 4, none⟩ = some (.int .i64 a0_4) := (blk_cell BK126.out 4).trans rfl; have hcz16_5 : w15.cell? ⟨gb126, 5, none⟩ = some (.int .i64 a0_5) := (blk_cell BK126.out 5).trans rfl; have hcz16_6 : w15.cell? ⟨gb126, 6, none⟩ = some (.int .i64 a0_6) := (blk_cell BK126.out 6).trans rfl; have hcz16_7 : w15.cell? ⟨gb126, 7, none⟩ = some (.int .i64 a0_7) := (blk_cell BK126.out 7).trans rfl; have hcz16_8 : w15.cell? ⟨gb126, 8, none⟩ = some (.int .i64 a0_8) := (blk_cell BK126.out 8).trans rfl; have hcz16_9 : w15.cell? ⟨gb126, 9, none⟩ = some (.slice A0_9 l0_9.length c0_9) := (blk_cell BK126.out 9).trans rfl; have hcz16_10 : w15.cell? ⟨gb126, 10, none⟩ = some (.slice A0_10 l0_10.length c0_10) := (blk_cell BK126.out 10).trans rfl; have hcz16_11 : w15.cell? ⟨gb126, 11, none⟩ = some (.slice A0_11 l0_11.length c0_11) := (blk_cell BK126.out 11).trans rfl; have hcz16_12 : w15.cell? ⟨gb126, 12, none⟩ = some (.slice A0_12 l0_12.length c0_12) := (blk_cell BK126.out 12).trans rfl; have hcz16_13 : w15.cell? ⟨gb126, 13, none⟩ = some (.int .i64 a0_13) := (blk_cell BK126.out 13).trans rfl; have hcz16_14 : w15.cell? ⟨gb126, 14, none⟩ = some (.int .i64 a0_14) := (blk_cell BK126.out 14).trans rfl; have hfz16_0 := blk_frozen BK126.out 0; have hfz16_1 := blk_frozen BK126.out 1; have hfz16_2 := blk_frozen BK126.out 2; have hfz16_3 := blk_frozen BK126.out 3; have hfz16_4 := blk_frozen BK126.out 4; have hfz16_5 := blk_frozen BK126.out 5; have hfz16_6 := blk_frozen BK126.out 6; have hfz16_7 := blk_frozen BK126.out 7; have hfz16_8 := blk_frozen BK126.out 8; have hfz16_9 := blk_frozen BK126.out 9; have hfz16_10 := blk_frozen BK126.out 10; have hfz16_11 := blk_frozen BK126.out 11; have hfz16_12 := blk_frozen BK126.out 12; have hfz16_13 := blk_frozen BK126.out 13; have hfz16_14 := blk_frozen BK126.out 14) | (go_at_call 23; (with_reducible refine (dormouseref09_moment.calls a0_13 true _ A11.out).mono ?_); rintro e w' ⟨rfl, ⟨nd, rfl⟩⟩; (try first | exact ⟨rfl, _, World.drewN_drewN _ _ _⟩ | exact ⟨rfl, _, Eq.trans (World.drewN_drewN _ _ _) (congrArg (World.drewN _) (Nat.add_assoc _ _ _))⟩)) | (go_at_call 23; (with_reducible refine (dormouseref09_moment.calls a0_14 t129 _ A13.out).mono ?_); rintro e w' ⟨rfl, ⟨nd, rfl⟩⟩; (try first | exact ⟨rfl, _, World.drewN_drewN _ _ _⟩ | exact ⟨rfl, _, Eq.trans (World.drewN_drewN _ _ _) (congrArg (World.drewN _) (Nat.add_assoc _ _ _))⟩))))
            go_meet
            case rel => exact ⟨_, (!t129), (by first | rfl | (simp; done) | (simp [*]; done)), H', ⟨by first | omega | exact Nat.le_refl _⟩, ⟨by (with_reducible repeat (first | refine blk_drewN ?_ _ | refine blk_drew ?_ | refine blk_alloc ?_ _)); exact BK126.out⟩, ⟨by repeat (first | (with_reducible first | exact HB.out | apply below_alloc | apply pw_below_drewN | apply below_drew1 | refine below_set ?_ GE126.out) | exact HB.out)⟩⟩
          · replace c12 := Bool.eq_false_iff.mpr c12
            subst c12
            have H1 : (dormouseref09_Good.j0 k true l0_0 l0_1 l0_2 a0_3 a0_4 a0_5 a0_6 a0_7 a0_8 l0_9 l0_10 l0_11 l0_12 a0_13 a0_14) = some r := by rw [if_neg (show ¬ (false = true) by decide)] at H; exact H
            clear H
            have H := H1
            clear H1
            have H' := Aside0.mk H
            clear H
            have hcz17_0 : w3.cell? ⟨gb126, 0, none⟩ = some (.slice A0_0 l0_0.length c0_0) := (blk_cell BK126.out 0).trans rfl
            have hcz17_1 : w3.cell? ⟨gb126, 1, none⟩ = some (.slice A0_1 l0_1.length c0_1) := (blk_cell BK126.out 1).trans rfl
            have hcz17_2 : w3.cell? ⟨gb126, 2, none⟩ = some (.slice A0_2 l0_2.length c0_2) := (blk_cell BK126.out 2).trans rfl
            have hcz17_3 : w3.cell? ⟨gb126, 3, none⟩ = some (.int .i64 a0_3) := (blk_cell BK126.out 3).trans rfl
            have hcz17_4 : w3.cell? ⟨gb126, 4, none⟩ = some (.int .i64 a0_4) := (blk_cell BK126.out 4).trans rfl
            have hcz17_5 : w3.cell? ⟨gb126, 5, none⟩ = some (.int .i64 a0_5) := (blk_cell BK126.out 5).trans rfl
            have hcz17_6 : w3.cell? ⟨gb126, 6, none⟩ = some (.int .i64 a0_6) := (blk_cell BK126.out 6).trans rfl
            have hcz17_7 : w3.cell? ⟨gb126, 7, none⟩ = some (.int .i64 a0_7) := (blk_cell BK126.out 7).trans rfl
            have hcz17_8 : w3.cell? ⟨gb126, 8, none⟩ = some (.int .i64 a0_8) := (blk_cell BK126.out 8).trans rfl
            have hcz17_9 : w3.cell? ⟨gb126, 9, none⟩ = some (.slice A0_9 l0_9.length c0_9) := (blk_cell BK126.out 9).trans rfl
            have hcz17_10 : w3.cell? ⟨gb126, 10, none⟩ = some (.slice A0_10 l0_10.length c0_10) := (blk_cell BK126.out 10).trans rfl
            have hcz17_11 : w3.cell? ⟨gb126, 11, none⟩ = some (.slice A0_11 l0_11.length c0_11) := (blk_cell BK126.out 11).trans rfl
            have hcz17_12 : w3.cell? ⟨gb126, 12, none⟩ = some (.slice A0_12 l0_12.length c0_12) := (blk_cell BK126.out 12).trans rfl
            have hcz17_13 : w3.cell? ⟨gb126, 13, none⟩ = some (.int .i64 a0_13) := (blk_cell BK126.out 13).trans rfl
            have hcz17_14 : w3.cell? ⟨gb126, 14, none⟩ = some (.int .i64 a0_14) := (blk_cell BK126.out 14).trans rfl
            have hfz17_0 := blk_frozen BK126.out 0
            have hfz17_1 := blk_frozen BK126.out 1
            have hfz17_2 := blk_frozen BK126.out 2
            have hfz17_3 := blk_frozen BK126.out 3
            have hfz17_4 := blk_frozen BK126.out 4
            have hfz17_5 := blk_frozen BK126.out 5
            have hfz17_6 := blk_frozen BK126.out 6
            have hfz17_7 := blk_frozen BK126.out 7
            have hfz17_8 := blk_frozen BK126.out 8
            have hfz17_9 := blk_frozen BK126.out 9
            have hfz17_10 := blk_frozen BK126.out 10
            have hfz17_11 := blk_frozen BK126.out 11
            have hfz17_12 := blk_frozen BK126.out 12
            have hfz17_13 := blk_frozen BK126.out 13
            have hfz17_14 := blk_frozen BK126.out 14
            go_wp2_with (first | (go_at_call 22; (with_reducible refine (dormouseref01_Table.calls k _ _ l0_0 _ _ l0_1 _ _ l0_2 a0_3 a0_4 a0_5 a0_6 a0_7 a0_8 true _ ?side1 ?side2 ?side3 ?side4 ?side5 ?side6 A4.out).mono ?_); (case side1 => repeat (first | exact (Kd.C_below HR0_0.out HB.out) | (with_reducible refine Kd.C_alloc ?_ _) | (with_reducible refine Kd.C_drewN ?_ _) | (with_reducible refine Kd.C_drew ?_))); (case side2 => exact HC0_0.out); (case side3 => repeat (first | exact (Kd.C_below HR0_1.out HB.out) | (with_reducible refine Kd.C_alloc ?_ _) | (with_reducible refine Kd.C_drewN ?_ _) | (with_reducible refine Kd.C_drew ?_))); (case side4 => exact HC0_1.out); (case side5 => repeat (first | exact (Kd.C_below HR0_2.out HB.out) | (with_reducible refine Kd.C_alloc ?_ _) | (with_reducible refine Kd.C_drewN ?_ _) | (with_reducible refine Kd.C_drew ?_))); (case side6 => exact HC0_2.out); rintro e w18 ⟨rfl, hb⟩; have n0_ := Aside0.mk (blk_below (g := gb126) (o := .cells #[.slice A0_0 l0_0.length c0_0, .slice A0_1 l0_1.length c0_1, .slice A0_2 l0_2.length c0_2, .int .i64 a0_3, .int .i64 a0_4, .int .i64 a0_5, .int .i64 a0_6, .int .i64 a0_7, .int .i64 a0_8, .slice A0_9 l0_9.length c0_9, .slice A0_10 l0_10.length c0_10, .slice A0_11 l0_11.length c0_11, .slice A0_12 l0_12.length c0_12, .int .i64 a0_13, .int .i64 a0_14] 32 (0, 0)) (by (with_reducible repeat (first | refine blk_drewN ?_ _ | refine blk_drew ?_ | refine blk_alloc ?_ _)); exact BK126.out) hb); have n1_ := Aside0.mk (below_step (by repeat (first | (with_reducible first | exact HB.out | apply below_alloc | apply pw_below_drewN | apply below_drew1 | refine below_set ?_ GE126.out) | exact HB.out)) hb); clear BK126; clear HB; have BK126 := n0_; have HB := n1_; clear n0_ n1_; (try clear hb); (try clear hb2); (try clear hk); (try clear hi); have hcz19_0 : w18.cell? ⟨gb126, 0, none⟩ = some (.slice A0_0 l0_0.length c0_0) := (blk_cell BK126.out 0).trans rfl; have hcz19_1 : w18.cell? ⟨gb126, 1, none⟩ = some (.slice A0_1 l0_1.length c0_1) := (blk_cell BK126.out 1).trans rfl; have hcz19_2 : w18.cell? ⟨gb126, 2, none⟩ = some (.slice A0_2 l0_2.length c0_2) := (blk_cell BK126.out 2).trans rfl; have hcz19_3 : w18.cell? ⟨gb126, 3, none⟩ = some (.int .i64 a0_3) := (blk_cell BK126.out 3).trans rfl; have hcz19_4 : w18.cell? ⟨gb126, 4, none⟩ = some (.int .i64 a0_4) := (blk_cell BK126.out 4).trans rfl; have hcz19_5 : w18.cell? ⟨gb126, 5, none⟩ = some (.int .i64 a0_5) := (blk_cell BK126.out 5).trans rfl; have hcz19_6 : w18.cell? ⟨gb126, 6, none⟩ = some (.int .i64 a0_6) := (blk_cell BK126.out 6).trans rfl; have hcz19_7 : w18.cell? ⟨gb126, 7, none⟩ = some (.int .i64 a0_7) := (blk_cell BK126.out 7).trans rfl; have hcz19_8 : w18.cell? ⟨gb126, 8, none⟩ = some (.int .i64 a0_8) := (blk_cell BK126.out 8).trans rfl; have hcz19_9 : w18.cell? ⟨gb126, 9, none⟩ = some (.slice A0_9 l0_9.length c0_9) := (blk_cell BK126.out 9).trans rfl; have hcz19_10 : w18.cell? ⟨gb126, 10, none⟩ = some (.slice A0_10 l0_10.length c0_10) := (blk_cell BK126.out 10).trans rfl; have hcz19_11 : w18.cell? ⟨gb126, 11, none⟩ = some (.slice A0_11 l0_11.length c0_11) := (blk_cell BK126.out 11).trans rfl; have hcz19_12 : w18.cell? ⟨gb126, 12, none⟩ = some (.slice A0_12 l0_12.length c0_12) := (blk_cell BK126.out 12).trans rfl; have hcz19_13 : w18.cell? ⟨gb126, 13, none⟩ = some (.int .i64 a0_13) := (blk_cell BK126.out 13).trans rfl; have hcz19_14 : w18.cell? ⟨gb126, 14, none⟩ = some (.int .i64 a0_14) := (blk_cell BK126.out 14).trans rfl; have hfz19_0 := blk_frozen BK126.out 0; have hfz19_1 := blk_frozen BK126.out 1; have hfz19_2 := blk_frozen BK126.out 2; have hfz19_3 := blk_frozen BK126.out 3; have hfz19_4 := blk_frozen BK126.out 4; have hfz19_5 := blk_frozen BK126.out 5; have hfz19_6 := blk_frozen BK126.out 6; have hfz19_7 := blk_frozen BK126.out 7; have hfz19_8 := blk_frozen BK126.out 8; have hfz19_9 := blk_frozen BK126.out 9; have hfz19_10 := blk_frozen BK126.out 10; have hfz19_11 := blk_frozen BK126.out 11; have hfz19_12 := blk_frozen BK126.out 12; have hfz19_13 := blk_frozen BK126.out 13; have hfz19_14 := blk_frozen BK126.out 14) | (go_at_call 23; (with_reducible refine (dormouseref09_moment.calls a0_13 false _ A11.out).mono ?_); rintro e w' ⟨rfl, ⟨nd, rfl⟩⟩; (try first | exact ⟨rfl, _, World.drewN_drewN _ _ _⟩ | exact ⟨rfl, _, Eq.trans (World.drewN_drewN _ _ _) (congrArg (World.drewN _) (Nat.add_assoc _ _ _))⟩)))
            repeat (go_quiet (first | (go_at_call 22; (with_reducible refine (dormouseref01_Table.calls k _ _ l0_0 _ _ l0_1 _ _ l0_2 a0_3 a0_4 a0_5 a0_6 a0_7 a0_8 true _ ?side1 ?side2 ?side3 ?side4 ?side5 ?side6 A4.out).mono ?_); (case side1 => repeat (first | exact (Kd.C_below HR0_0.out HB.out) | (with_reducible refine Kd.C_alloc ?_ _) | (with_reducible refine Kd.C_drewN ?_ _) | (with_reducible refine Kd.C_drew ?_))); (case side2 => exact HC0_0.out); (case side3 => repeat (first | exact (Kd.C_below HR0_1.out HB.out) | (with_reducible refine Kd.C_alloc ?_ _) | (with_reducible refine Kd.C_drewN ?_ _) | (with_reducible refine Kd.C_drew ?_))); (case side4 => exact HC0_1.out); (case side5 => repeat (first | exact (Kd.C_below HR0_2.out HB.out) | (with_reducible refine Kd.C_alloc ?_ _) | (with_reducible refine Kd.C_drewN ?_ _) | (with_reducible refine Kd.C_drew ?_))); (case side6 => exact HC0_2.out); rintro e w18 ⟨rfl, hb⟩; have n0_ := Aside0.mk (blk_below (g := gb126) (o := .cells #[.slice A0_0 l0_0.length c0_0, .slice A0_1 l0_1.length c0_1, .slice A0_2 l0_2.length c0_2, .int .i64 a0_3, .int .i64 a0_4, .int .i64 a0_5, .int .i64 a0_6, .int .i64 a0_7, .int .i64 a0_8, .slice A0_9 l0_9.length c0_9, .slice A0_10 l0_10.length c0_10, .slice A0_11 l0_11.length c0_11, .slice A0_12 l0_12.length c0_12, .int .i64 a0_13, .int .i64 a0_14] 32 (0, 0)) (by (with_reducible repeat (first | refine blk_drewN ?_ _ | refine blk_drew ?_ | refine blk_alloc ?_ _)); exact BK126.out) hb); have n1_ := Aside0.mk (below_step (by repeat (first | (with_reducible first | exact HB.out | apply below_alloc | apply pw_below_drewN | apply below_drew1 | refine below_set ?_ GE126.out) | exact HB.out)) hb); clear BK126; clear HB; have BK126 := n0_; have HB := n1_; clear n0_ n1_; (try clear hb); (try clear hb2); (try clear hk); (try clear hi); have hcz19_0 : w18.cell? ⟨gb126, 0, none⟩ = some (.slice A0_0 l0_0.length c0_0) := (blk_cell BK126.out 0).trans rfl; have hcz19_1 : w18.cell? ⟨gb126, 1, none⟩ = some (.slice A0_1 l0_1.length c0_1) := (blk_cell BK126.out 1).trans rfl; have hcz19_2 : w18.cell? ⟨gb126, 2, none⟩ = some (.slice A0_2 l0_2.length c0_2) := (blk_cell BK126.out 2).trans rfl; have hcz19_3 : w18.cell? ⟨gb126, 3, none⟩ = some (.int .i64 a0_3) := (blk_cell BK126.out 3).trans rfl; have hcz19_4 : w18.cell? ⟨gb126, 4, none⟩ = some (.int .i64 a0_4) := (blk_cell BK126.out 4).trans rfl; have hcz19_5 : w18.cell? ⟨gb126, 5, none⟩ = some (.int .i64 a0_5) := (blk_cell BK126.out 5).trans rfl; have hcz19_6 : w18.cell? ⟨gb126, 6, none⟩ = some (.int .i64 a0_6) := (blk_cell BK126.out 6).trans rfl; have hcz19_7 : w18.cell? ⟨gb126, 7, none⟩ = some (.int .i64 a0_7) := (blk_cell BK126.out 7).trans rfl; have hcz19_8 : w18.cell? ⟨gb126, 8, none⟩ = some (.int .i64 a0_8) := (blk_cell BK126.out 8).trans rfl; have hcz19_9 : w18.cell? ⟨gb126, 9, none⟩ = some (.slice A0_9 l0_9.length c0_9) := (blk_cell BK126.out 9).trans rfl; have hcz19_10 : w18.cell? ⟨gb126, 10, none⟩ = some (.slice A0_10 l0_10.length c0_10) := (blk_cell BK126.out 10).trans rfl; have hcz19_11 : w18.cell? ⟨gb126, 11, none⟩ = some (.slice A0_11 l0_11.length c0_11) := (blk_cell BK126.out 11).trans rfl; have hcz19_12 : w18.cell? ⟨gb126, 12, none⟩ = some (.slice A0_12 l0_12.length c0_12) := (blk_cell BK126.out 12).trans rfl; have hcz19_13 : w18.cell? ⟨gb126, 13, none⟩ = some (.int .i64 a0_13) := (blk_cell BK126.out 13).trans rfl; have hcz19_14 : w18.cell? ⟨gb126, 14, none⟩ = some (.int .i64 a0_14) := (blk_cell BK126.out 14).trans rfl; have hfz19_0 := blk_frozen BK126.out 0; have hfz19_1 := blk_frozen BK126.out 1; have hfz19_2 := blk_frozen BK126.out 2; have hfz19_3 := blk_frozen BK126.out 3; have hfz19_4 := blk_frozen BK126.out 4; have hfz19_5 := blk_frozen BK126.out 5; have hfz19_6 := blk_frozen BK126.out 6; have hfz19_7 := blk_frozen BK126.out 7; have hfz19_8 := blk_frozen BK126.out 8; have hfz19_9 := blk_frozen BK126.out 9; have hfz19_10 := blk_frozen BK126.out 10; have hfz19_11 := blk_frozen BK126.out 11; have hfz19_12 := blk_frozen BK126.out 12; have hfz19_13 := blk_frozen BK126.out 13; have hfz19_14 := blk_frozen BK126.out 14) | (go_at_call 23; (with_reducible refine (dormouseref09_moment.calls a0_13 false _ A11.out).mono ?_); rintro e w' ⟨rfl, ⟨nd, rfl⟩⟩; (try first | exact ⟨rfl, _, World.drewN_drewN _ _ _⟩ | exact ⟨rfl, _, Eq.trans (World.drewN_drewN _ _ _) (congrArg (World.drewN _) (Nat.add_assoc _ _ _))⟩))); try go_wp2_with (first | (go_at_call 22; (with_reducible refine (dormouseref01_Table.calls k _ _ l0_0 _ _ l0_1 _ _ l0_2 a0_3 a0_4 a0_5 a0_6 a0_7 a0_8 true _ ?side1 ?side2 ?side3 ?side4 ?side5 ?side6 A4.out).mono ?_); (case side1 => repeat (first | exact (Kd.C_below HR0_0.out HB.out) | (with_reducible refine Kd.C_alloc ?_ _) | (with_reducible refine Kd.C_drewN ?_ _) | (with_reducible refine Kd.C_drew ?_))); (case side2 => exact HC0_0.out); (case side3 => repeat (first | exact (Kd.C_below HR0_1.out HB.out) | (with_reducible refine Kd.C_alloc ?_ _) | (with_reducible refine Kd.C_drewN ?_ _) | (with_reducible refine Kd.C_drew ?_))); (case side4 => exact HC0_1.out); (case side5 => repeat (first | exact (Kd.C_below HR0_2.out HB.out) | (with_reducible refine Kd.C_alloc ?_ _) | (with_reducible refine Kd.C_drewN ?_ _) | (with_reducible refine Kd.C_drew ?_))); (case side6 => exact HC0_2.out); rintro e w18 ⟨rfl, hb⟩; have n0_ := Aside0.mk (blk_below (g := gb126) (o := .cells #[.slice A0_0 l0_0.length c0_0, .slice A0_1 l0_1.length c0_1, .slice A0_2 l0_2.length c0_2, .int .i64 a0_3, .int .i64 a0_4, .int .i64 a0_5, .int .i64 a0_6, .int .i64 a0_7, .int .i64 a0_8, .slice A0_9 l0_9.length c0_9, .slice A0_10 l0_10.length c0_10, .slice A0_11 l0_11.length c0_11, .slice A0_12 l0_12.length c0_12, .int .i64 a0_13, .int .i64 a0_14] 32 (0, 0)) (by (with_reducible repeat (first | refine blk_drewN ?_ _ | refine blk_drew ?_ | refine blk_alloc ?_ _)); exact BK126.out) hb); have n1_ := Aside0.mk (below_step (by repeat (first | (with_reducible first | exact HB.out | apply below_alloc | apply pw_below_drewN | apply below_drew1 | refine below_set ?_ GE126.out) | exact HB.out)) hb); clear BK126; clear HB; have BK126 := n0_; have HB := n1_; clear n0_ n1_; (try clear hb); (try clear hb2); (try clear hk); (try clear hi); have hcz19_0 : w18.cell? ⟨gb126, 0, none⟩ = some (.slice A0_0 l0_0.length c0_0) := (blk_cell BK126.out 0).trans rfl; have hcz19_1 : w18.cell? ⟨gb126, 1, none⟩ = some (.slice A0_1 l0_1.length c0_1) := (blk_cell BK126.out 1).trans rfl; have hcz19_2 : w18.cell? ⟨gb126, 2, none⟩ = some (.slice A0_2 l0_2.length c0_2) := (blk_cell BK126.out 2).trans rfl; have hcz19_3 : w18.cell? ⟨gb126, 3, none⟩ = some (.int .i64 a0_3) := (blk_cell BK126.out 3).trans rfl; have hcz19_4 : w18.cell? ⟨gb126, 4, none⟩ = some (.int .i64 a0_4) := (blk_cell BK126.out 4).trans rfl; have hcz19_5 : w18.cell? ⟨gb126, 5, none⟩ = some (.int .i64 a0_5) := (blk_cell BK126.out 5).trans rfl; have hcz19_6 : w18.cell? ⟨gb126, 6, none⟩ = some (.int .i64 a0_6) := (blk_cell BK126.out 6).trans rfl; have hcz19_7 : w18.cell? ⟨gb126, 7, none⟩ = some (.int .i64 a0_7) := (blk_cell BK126.out 7).trans rfl; have hcz19_8 : w18.cell? ⟨gb126, 8, none⟩ = some (.int .i64 a0_8) := (blk_cell BK126.out 8).trans rfl; have hcz19_9 : w18.cell? ⟨gb126, 9, none⟩ = some (.slice A0_9 l0_9.length c0_9) := (blk_cell BK126.out 9).trans rfl; have hcz19_10 : w18.cell? ⟨gb126, 10, none⟩ = some (.slice A0_10 l0_10.length c0_10) := (blk_cell BK126.out 10).trans rfl; have hcz19_11 : w18.cell? ⟨gb126, 11, none⟩ = some (.slice A0_11 l0_11.length c0_11) := (blk_cell BK126.out 11).trans rfl; have hcz19_12 : w18.cell? ⟨gb126, 12, none⟩ = some (.slice A0_12 l0_12.length c0_12) := (blk_cell BK126.out 12).trans rfl; have hcz19_13 : w18.cell? ⟨gb126, 13, none⟩ = some (.int .i64 a0_13) := (blk_cell BK126.out 13).trans rfl; have hcz19_14 : w18.cell? ⟨gb126, 14, none⟩ = some (.int .i64 a0_14) := (blk_cell BK126.out 14).trans rfl; have hfz19_0 := blk_frozen BK126.out 0; have hfz19_1 := blk_frozen BK126.out 1; have hfz19_2 := blk_frozen BK126.out 2; have hfz19_3 := blk_frozen BK126.out 3; have hfz19_4 := blk_frozen BK126.out 4; have hfz19_5 := blk_frozen BK126.out 5; have hfz19_6 := blk_frozen BK126.out 6; have hfz19_7 := blk_frozen BK126.out 7; have hfz19_8 := blk_frozen BK126.out 8; have hfz19_9 := blk_frozen BK126.out 9; have hfz19_10 := blk_frozen BK126.out 10; have hfz19_11 := blk_frozen BK126.out 11; have hfz19_12 := blk_frozen BK126.out 12; have hfz19_13 := blk_frozen BK126.out 13; have hfz19_14 := blk_frozen BK126.out 14) | (go_at_call 23; (with_reducible refine (dormouseref09_moment.calls a0_13 false _ A11.out).mono ?_); rintro e w' ⟨rfl, ⟨nd, rfl⟩⟩; (try first | exact ⟨rfl, _, World.drewN_drewN _ _ _⟩ | exact ⟨rfl, _, Eq.trans (World.drewN_drewN _ _ _) (congrArg (World.drewN _) (Nat.add_assoc _ _ _))⟩))))
            go_meet
            case rel => exact ⟨_, (true), (by first | rfl | (simp; done) | (simp [*]; done)), H', ⟨by first | omega | exact Nat.le_refl _⟩, ⟨by (with_reducible repeat (first | refine blk_drewN ?_ _ | refine blk_drew ?_ | refine blk_alloc ?_ _)); exact BK126.out⟩, ⟨by repeat (first | (with_reducible first | exact HB.out | apply below_alloc | apply pw_below_drewN | apply below_drew1 | refine below_set ?_ GE126.out) | exact HB.out)⟩⟩
        · rw [if_neg c10] at H
          have c10b0 : ((l0_10.length : Int) == (l0_9.length : Int)) = false := beq_eq_false_iff_ne.mpr c10
          have c10b1 : ((l0_10.length : Int) != (l0_9.length : Int)) = true := bne_iff_ne.mpr c10
          have c10b2 : (l0_10.length == l0_9.length) = false := by first | simpa using c10 | (simp at c10 ⊢; omega)
          have H' := Aside0.mk H
          clear H
          have hcz20_0 : w3.cell? ⟨gb126, 0, none⟩ = some (.slice A0_0 l0_0.length c0_0) := (blk_cell BK126.out 0).trans rfl
          have hcz20_1 : w3.cell? ⟨gb126, 1, none⟩ = some (.slice A0_1 l0_1.length c0_1) := (blk_cell BK126.out 1).trans rfl
          have hcz20_2 : w3.cell? ⟨gb126, 2, none⟩ = some (.slice A0_2 l0_2.length c0_2) := (blk_cell BK126.out 2).trans rfl
          have hcz20_3 : w3.cell? ⟨gb126, 3, none⟩ = some (.int .i64 a0_3) := (blk_cell BK126.out 3).trans rfl
          have hcz20_4 : w3.cell? ⟨gb126, 4, none⟩ = some (.int .i64 a0_4) := (blk_cell BK126.out 4).trans rfl
          have hcz20_5 : w3.cell? ⟨gb126, 5, none⟩ = some (.int .i64 a0_5) := (blk_cell BK126.out 5).trans rfl
          have hcz20_6 : w3.cell? ⟨gb126, 6, none⟩ = some (.int .i64 a0_6) := (blk_cell BK126.out 6).trans rfl
          have hcz20_7 : w3.cell? ⟨gb126, 7, none⟩ = some (.int .i64 a0_7) := (blk_cell BK126.out 7).trans rfl
          have hcz20_8 : w3.cell? ⟨gb126, 8, none⟩ = some (.int .i64 a0_8) := (blk_cell BK126.out 8).trans rfl
          have hcz20_9 : w3.cell? ⟨gb126, 9, none⟩ = some (.slice A0_9 l0_9.length c0_9) := (blk_cell BK126.out 9).trans rfl
          have hcz20_10 : w3.cell? ⟨gb126, 10, none⟩ = some (.slice A0_10 l0_10.length c0_10) := (blk_cell BK126.out 10).trans rfl
          have hcz20_11 : w3.cell? ⟨gb126, 11, none⟩ = some (.slice A0_11 l0_11.length c0_11) := (blk_cell BK126.out 11).trans rfl
          have hcz20_12 : w3.cell? ⟨gb126, 12, none⟩ = some (.slice A0_12 l0_12.length c0_12) := (blk_cell BK126.out 12).trans rfl
          have hcz20_13 : w3.cell? ⟨gb126, 13, none⟩ = some (.int .i64 a0_13) := (blk_cell BK126.out 13).trans rfl
          have hcz20_14 : w3.cell? ⟨gb126, 14, none⟩ = some (.int .i64 a0_14) := (blk_cell BK126.out 14).trans rfl
          have hfz20_0 := blk_frozen BK126.out 0
          have hfz20_1 := blk_frozen BK126.out 1
          have hfz20_2 := blk_frozen BK126.out 2
          have hfz20_3 := blk_frozen BK126.out 3
          have hfz20_4 := blk_frozen BK126.out 4
          have hfz20_5 := blk_frozen BK126.out 5
          have hfz20_6 := blk_frozen BK126.out 6
          have hfz20_7 := blk_frozen BK126.out 7
          have hfz20_8 := blk_frozen BK126.out 8
          have hfz20_9 := blk_frozen BK126.out 9
          have hfz20_10 := blk_frozen BK126.out 10
          have hfz20_11 := blk_frozen BK126.out 11
          have hfz20_12 := blk_frozen BK126.out 12
          have hfz20_13 := blk_frozen BK126.out 13
          have hfz20_14 := blk_frozen BK126.out 14
          go_wp2_with (first | (go_at_call 22; (with_reducible refine (dormouseref01_Table.calls k _ _ l0_0 _ _ l0_1 _ _ l0_2 a0_3 a0_4 a0_5 a0_6 a0_7 a0_8 true _ ?side1 ?side2 ?side3 ?side4 ?side5 ?side6 A4.out).mono ?_); (case side1 => repeat (first | exact (Kd.C_below HR0_0.out HB.out) | (with_reducible refine Kd.C_alloc ?_ _) | (with_reducible refine Kd.C_drewN ?_ _) | (with_reducible refine Kd.C_drew ?_))); (case side2 => exact HC0_0.out); (case side3 => repeat (first | exact (Kd.C_below HR0_1.out HB.out) | (with_reducible refine Kd.C_alloc ?_ _) | (with_reducible refine Kd.C_drewN ?_ _) | (with_reducible refine Kd.C_drew ?_))); (case side4 => exact HC0_1.out); (case side5 => repeat (first | exact (Kd.C_below HR0_2.out HB.out) | (with_reducible refine Kd.C_alloc ?_ _) | (with_reducible refine Kd.C_drewN ?_ _) | (with_reducible refine Kd.C_drew ?_))); (case side6 => exact HC0_2.out); rintro e w21 ⟨rfl, hb⟩; have n0_ := Aside0.mk (blk_below (g := gb126) (o := .cells #[.slice A0_0 l0_0.length c0_0, .slice A0_1 l0_1.length c0_1, .slice A0_2 l0_2.length c0_2, .int .i64 a0_3, .int .i64 a0_4, .int .i64 a0_5, .int .i64 a0_6, .int .i64 a0_7, .int .i64 a0_8, .slice A0_9 l0_9.length c0_9, .slice A0_10 l0_10.length c0_10, .slice A0_11 l0_11.length c0_11, .slice A0_12 l0_12.length c0_12, .int .i64 a0_13, .int .i64 a0_14] 32 (0, 0)) (by (with_reducible repeat (first | refine blk_drewN ?_ _ | refine blk_drew ?_ | refine blk_alloc ?_ _)); exact BK126.out) hb); have n1_ := Aside0.mk (below_step (by repeat (first | (with_reducible first | exact HB.out | apply below_alloc | apply pw_below_drewN | apply below_drew1 | refine below_set ?_ GE126.out) | exact HB.out)) hb); clear BK126; clear HB; have BK126 := n0_; have HB := n1_; clear n0_ n1_; (try clear hb); (try clear hb2); (try clear hk); (try clear hi); have hcz22_0 : w21.cell? ⟨gb126, 0, none⟩ = some (.slice A0_0 l0_0.length c0_0) := (blk_cell BK126.out 0).trans rfl; have hcz22_1 : w21.cell? ⟨gb126, 1, none⟩ = some (.slice A0_1 l0_1.length c0_1) := (blk_cell BK126.out 1).trans rfl; have hcz22_2 : w21.cell? ⟨gb126, 2, none⟩ = some (.slice A0_2 l0_2.length c0_2) := (blk_cell BK126.out 2).trans rfl; have hcz22_3 : w21.cell? ⟨gb126, 3, none⟩ = some (.int .i64 a0_3) := (blk_cell BK126.out 3).trans rfl; have hcz22_4 : w21.cell? ⟨gb126, 4, none⟩ = some (.int .i64 a0_4) := (blk_cell BK126.out 4).trans rfl; have hcz22_5 : w21.cell? ⟨gb126, 5, none⟩ = some (.int .i64 a0_5) := (blk_cell BK126.out 5).trans rfl; have hcz22_6 : w21.cell? ⟨gb126, 6, none⟩ = some (.int .i64 a0_6) := (blk_cell BK126.out 6).trans rfl; have hcz22_7 : w21.cell? ⟨gb126, 7, none⟩ = some (.int .i64 a0_7) := (blk_cell BK126.out 7).trans rfl; have hcz22_8 : w21.cell? ⟨gb126, 8, none⟩ = some (.int .i64 a0_8) := (blk_cell BK126.out 8).trans rfl; have hcz22_9 : w21.cell? ⟨gb126, 9, none⟩ = some (.slice A0_9 l0_9.length c0_9) := (blk_cell BK126.out 9).trans rfl; have hcz22_10 : w21.cell? ⟨gb126, 10, none⟩ = some (.slice A0_10 l0_10.length c0_10) := (blk_cell BK126.out 10).trans rfl; have hcz22_11 : w21.cell? ⟨gb126, 11, none⟩ = some (.slice A0_11 l0_11.length c0_11) := (blk_cell BK126.out 11).trans rfl; have hcz22_12 : w21.cell? ⟨gb126, 12, none⟩ = some (.slice A0_12 l0_12.length c0_12) := (blk_cell BK126.out 12).trans rfl; have hcz22_13 : w21.cell? ⟨gb126, 13, none⟩ = some (.int .i64 a0_13) := (blk_cell BK126.out 13).trans rfl; have hcz22_14 : w21.cell? ⟨gb126, 14, none⟩ = some (.int .i64 a0_14) := (blk_cell BK126.out 14).trans rfl; have hfz22_0 := blk_frozen BK126.out 0; have hfz22_1 := blk_frozen BK126.out 1; have hfz22_2 := blk_frozen BK126.out 2; have hfz22_3 := blk_frozen BK126.out 3; have hfz22_4 := blk_frozen BK126.out 4; have hfz22_5 := blk_frozen BK126.out 5; have hfz22_6 := blk_frozen BK126.out 6; have hfz22_7 := blk_frozen BK126.out 7; have hfz22_8 := blk_frozen BK126.out 8; have hfz22_9 := blk_frozen BK126.out 9; have hfz22_10 := blk_frozen BK126.out 10; have hfz22_11 := blk_frozen BK126.out 11; have hfz22_12 := blk_frozen BK126.out 12; have hfz22_13 := blk_frozen BK126.out 13; have hfz22_14 := blk_frozen BK126.out 14))
          repeat (go_quiet (first | (go_at_call 22; (with_reducible refine (dormouseref01_Table.calls k _ _ l0_0 _ _ l0_1 _ _ l0_2 a0_3 a0_4 a0_5 a0_6 a0_7 a0_8 true _ ?side1 ?side2 ?side3 ?side4 ?side5 ?side6 A4.out).mono ?_); (case side1 => repeat (first | exact (Kd.C_below HR0_0.out HB.out) | (with_reducible refine Kd.C_alloc ?_ _) | (with_reducible refine Kd.C_drewN ?_ _) | (with_reducible refine Kd.C_drew ?_))); (case side2 => exact HC0_0.out); (case side3 => repeat (first | exact (Kd.C_below HR0_1.out HB.out) | (with_reducible refine Kd.C_alloc ?_ _) | (with_reducible refine Kd.C_drewN ?_ _) | (with_reducible refine Kd.C_drew ?_))); (case side4 => exact HC0_1.out); (case side5 => repeat (first | exact (Kd.C_below HR0_2.out HB.out) | (with_reducible refine Kd.C_alloc ?_ _) | (with_reducible refine Kd.C_drewN ?_ _) | (with_reducible refine Kd.C_drew ?_))); (case side6 => exact HC0_2.out); rintro e w21 ⟨rfl, hb⟩; have n0_ := Aside0.mk (blk_below (g := gb126) (o := .cells #[.slice A0_0 l0_0.length c0_0, .slice A0_1 l0_1.length c0_1, .slice A0_2 l0_2.length c0_2, .int .i64 a0_3, .int .i64 a0_4, .int .i64 a0_5, .int .i64 a0_6, .int .i64 a0_7, .int .i64 a0_8, .slice A0_9 l0_9.length c0_9, .slice A0_10 l0_10.length c0_10, .slice A0_11 l0_11.length c0_11, .slice A0_12 l0_12.length c0_12, .int .i64 a0_13, .int .i64 a0_14] 32 (0, 0)) (by (with_reducible repeat (first | refine blk_drewN ?_ _ | refine blk_drew ?_ | refine blk_alloc ?_ _)); exact BK126.out) hb); have n1_ := Aside0.mk (below_step (by repeat (first | (with_reducible first | exact HB.out | apply below_alloc | apply pw_below_drewN | apply below_drew1 | refine below_set ?_ GE126.out) | exact HB.out)) hb); clear BK126; clear HB; have BK126 := n0_; have HB := n1_; clear n0_ n1_; (try clear hb); (try clear hb2); (try clear hk); (try clear hi); have hcz22_0 : w21.cell? ⟨gb126, 0, none⟩ = some (.slice A0_0 l0_0.length c0_0) := (blk_cell BK126.out 0).trans rfl; have hcz22_1 : w21.cell? ⟨gb126, 1, none⟩ = some (.slice A0_1 l0_1.length c0_1) := (blk_cell BK126.out 1).trans rfl; have hcz22_2 : w21.cell? ⟨gb126, 2, none⟩ = some (.slice A0_2 l0_2.length c0_2) := (blk_cell BK126.out 2).trans rfl; have hcz22_3 : w21.cell? ⟨gb126, 3, none⟩ = some (.int .i64 a0_3) := (blk_cell BK126.out 3).trans rfl; have hcz22_4 : w21.cell? ⟨gb126, 4, none⟩ = some (.int .i64 a0_4) := (blk_cell BK126.out 4).trans rfl; have hcz22_5 : w21.cell? ⟨gb126, 5, none⟩ = some (.int .i64 a0_5) := (blk_cell BK126.out 5).trans rfl; have hcz22_6 : w21.cell? ⟨gb126, 6, none⟩ = some (.int .i64 a0_6) := (blk_cell BK126.out 6).trans rfl; have hcz22_7 : w21.cell? ⟨gb126, 7, none⟩ = some (.int .i64 a0_7) := (blk_cell BK126.out 7).trans rfl; have hcz22_8 : w21.cell? ⟨gb126, 8, none⟩ = some (.int .i64 a0_8) := (blk_cell BK126.out 8).trans rfl; have hcz22_9 : w21.cell? ⟨gb126, 9, none⟩ = some (.slice A0_9 l0_9.length c0_9) := (blk_cell BK126.out 9).trans rfl; have hcz22_10 : w21.cell? ⟨gb126, 10, none⟩ = some (.slice A0_10 l0_10.length c0_10) := (blk_cell BK126.out 10).trans rfl; have hcz22_11 : w21.cell? ⟨gb126, 11, none⟩ = some (.slice A0_11 l0_11.length c0_11) := (blk_cell BK126.out 11).trans rfl; have hcz22_12 : w21.cell? ⟨gb126, 12, none⟩ = some (.slice A0_12 l0_12.length c0_12) := (blk_cell BK126.out 12).trans rfl; have hcz22_13 : w21.cell? ⟨gb126, 13, none⟩ = some (.int .i64 a0_13) := (blk_cell BK126.out 13).trans rfl; have hcz22_14 : w21.cell? ⟨gb126, 14, none⟩ = some (.int .i64 a0_14) := (blk_cell BK126.out 14).trans rfl; have hfz22_0 := blk_frozen BK126.out 0; have hfz22_1 := blk_frozen BK126.out 1; have hfz22_2 := blk_frozen BK126.out 2; have hfz22_3 := blk_frozen BK126.out 3; have hfz22_4 := blk_frozen BK126.out 4; have hfz22_5 := blk_frozen BK126.out 5; have hfz22_6 := blk_frozen BK126.out 6; have hfz22_7 := blk_frozen BK126.out 7; have hfz22_8 := blk_frozen BK126.out 8; have hfz22_9 := blk_frozen BK126.out 9; have hfz22_10 := blk_frozen BK126.out 10; have hfz22_11 := blk_frozen BK126.out 11; have hfz22_12 := blk_frozen BK126.out 12; have hfz22_13 := blk_frozen BK126.out 13; have hfz22_14 := blk_frozen BK126.out 14)); try go_wp2_with (first | (go_at_call 22; (with_reducible refine (dormouseref01_Table.calls k _ _ l0_0 _ _ l0_1 _ _ l0_2 a0_3 a0_4 a0_5 a0_6 a0_7 a0_8 true _ ?side1 ?side2 ?side3 ?side4 ?side5 ?side6 A4.out).mono ?_); (case side1 => repeat (first | exact (Kd.C_below HR0_0.out HB.out) | (with_reducible refine Kd.C_alloc ?_ _) | (with_reducible refine Kd.C_drewN ?_ _) | (with_reducible refine Kd.C_drew ?_))); (case side2 => exact HC0_0.out); (case side3 => repeat (first | exact (Kd.C_below HR0_1.out HB.out) | (with_reducible refine Kd.C_alloc ?_ _) | (with_reducible refine Kd.C_drewN ?_ _) | (with_reducible refine Kd.C_drew ?_))); (case side4 => exact HC0_1.out); (case side5 => repeat (first | exact (Kd.C_below HR0_2.out HB.out) | (with_reducible refine Kd.C_alloc ?_ _) | (with_reducible refine Kd.C_drewN ?_ _) | (with_reducible refine Kd.C_drew ?_))); (case side6 => exact HC0_2.out); rintro e w21 ⟨rfl, hb⟩; have n0_ := Aside0.mk (blk_below (g := gb126) (o := .cells #[.slice A0_0 l0_0.length c0_0, .slice A0_1 l0_1.length c0_1, .slice A0_2 l0_2.length c0_2, .int .i64 a0_3, .int .i64 a0_4, .int .i64 a0_5, .int .i64 a0_6, .int .i64 a0_7, .int .i64 a0_8, .slice A0_9 l0_9.length c0_9, .slice A0_10 l0_10.length c0_10, .slice A0_11 l0_11.length c0_11, .slice A0_12 l0_12.length c0_12, .int .i64 a0_13, .int .i64 a0_14] 32 (0, 0)) (by (with_reducible repeat (first | refine blk_drewN ?_ _ | refine blk_drew ?_ | refine blk_alloc ?_ _)); exact BK126.out) hb); have n1_ := Aside0.mk (below_step (by repeat (first | (with_reducible first | exact HB.out | apply below_alloc | apply pw_below_drewN | apply below_drew1 | refine below_set ?_ GE126.out) | exact HB.out)) hb); clear BK126; clear HB; have BK126 := n0_; have HB := n1_; clear n0_ n1_; (try clear hb); (try clear hb2); (try clear hk); (try clear hi); have hcz22_0 : w21.cell? ⟨gb126, 0, none⟩ = some (.slice A0_0 l0_0.length c0_0) := (blk_cell BK126.out 0).trans rfl; have hcz22_1 : w21.cell? ⟨gb126, 1, none⟩ = some (.slice A0_1 l0_1.length c0_1) := (blk_cell BK126.out 1).trans rfl; have hcz22_2 : w21.cell? ⟨gb126, 2, none⟩ = some (.slice A0_2 l0_2.length c0_2) := (blk_cell BK126.out 2).trans rfl; have hcz22_3 : w21.cell? ⟨gb126, 3, none⟩ = some (.int .i64 a0_3) := (blk_cell BK126.out 3).trans rfl; have hcz22_4 : w21.cell? ⟨gb126, 4, none⟩ = some (.int .i64 a0_4) := (blk_cell BK126.out 4).trans rfl; have hcz22_5 : w21.cell? ⟨gb126, 5, none⟩ = some (.int .i64 a0_5) := (blk_cell BK126.out 5).trans rfl; have hcz22_6 : w21.cell? ⟨gb126, 6, none⟩ = some (.int .i64 a0_6) := (blk_cell BK126.out 6).trans rfl; have hcz22_7 : w21.cell? ⟨gb126, 7, none⟩ = some (.int .i64 a0_7) := (blk_cell BK126.out 7).trans rfl; have hcz22_8 : w21.cell? ⟨gb126, 8, none⟩ = some (.int .i64 a0_8) := (blk_cell BK126.out 8).trans rfl; have hcz22_9 : w21.cell? ⟨gb126, 9, none⟩ = some (.slice A0_9 l0_9.length c0_9) := (blk_cell BK126.out 9).trans rfl; have hcz22_10 : w21.cell? ⟨gb126, 10, none⟩ = some (.slice A0_10 l0_10.length c0_10) := (blk_cell BK126.out 10).trans rfl; have hcz22_11 : w21.cell? ⟨gb126, 11, none⟩ = some (.slice A0_11 l0_11.length c0_11) := (blk_cell BK126.out 11).trans rfl; have hcz22_12 : w21.cell? ⟨gb126, 12, none⟩ = some (.slice A0_12 l0_12.length c0_12) := (blk_cell BK126.out 12).trans rfl; have hcz22_13 : w21.cell? ⟨gb126, 13, none⟩ = some (.int .i64 a0_13) := (blk_cell BK126.out 13).trans rfl; have hcz22_14 : w21.cell? ⟨gb126, 14, none⟩ = some (.int .i64 a0_14) := (blk_cell BK126.out 14).trans rfl; have hfz22_0 := blk_frozen BK126.out 0; have hfz22_1 := blk_frozen BK126.out 1; have hfz22_2 := blk_frozen BK126.out 2; have hfz22_3 := blk_frozen BK126.out 3; have hfz22_4 := blk_frozen BK126.out 4; have hfz22_5 := blk_frozen BK126.out 5; have hfz22_6 := blk_frozen BK126.out 6; have hfz22_7 := blk_frozen BK126.out 7; have hfz22_8 := blk_frozen BK126.out 8; have hfz22_9 := blk_frozen BK126.out 9; have hfz22_10 := blk_frozen BK126.out 10; have hfz22_11 := blk_frozen BK126.out 11; have hfz22_12 := blk_frozen BK126.out 12; have hfz22_13 := blk_frozen BK126.out 13; have hfz22_14 := blk_frozen BK126.out 14)))
          go_meet
          case rel => exact ⟨_, (true), (by first | rfl | (simp; done) | (simp [*]; done)), H', ⟨by first | omega | exact Nat.le_refl _⟩, ⟨by (with_reducible repeat (first | refine blk_drewN ?_ _ | refine blk_drew ?_ | refine blk_alloc ?_ _)); exact BK126.out⟩, ⟨by repeat (first | (with_reducible first | exact HB.out | apply below_alloc | apply pw_below_drewN | apply below_drew1 | refine below_set ?_ GE126.out) | exact HB.out)⟩⟩
    · replace c5 := Bool.eq_false_iff.mpr c5
      subst c5
      have H1 : (dormouseref09_Good.j0 k true l0_0 l0_1 l0_2 a0_3 a0_4 a0_5 a0_6 a0_7 a0_8 l0_9 l0_10 l0_11 l0_12 a0_13 a0_14) = some r := by rw [if_neg (show ¬ (false = true) by decide)] at H; exact H
      clear H
      have H := H1
      clear H1
      have H' := Aside0.mk H
      clear H
      have hcz23_0 : w3.cell? ⟨gb126, 0, none⟩ = some (.slice A0_0 l0_0.length c0_0) := (blk_cell BK126.out 0).trans rfl
      have hcz23_1 : w3.cell? ⟨gb126, 1, none⟩ = some (.slice A0_1 l0_1.length c0_1) := (blk_cell BK126.out 1).trans rfl
      have hcz23_2 : w3.cell? ⟨gb126, 2, none⟩ = some (.slice A0_2 l0_2.length c0_2) := (blk_cell BK126.out 2).trans rfl
      have hcz23_3 : w3.cell? ⟨gb126, 3, none⟩ = some (.int .i64 a0_3) := (blk_cell BK126.out 3).trans rfl
      have hcz23_4 : w3.cell? ⟨gb126, 4, none⟩ = some (.int .i64 a0_4) := (blk_cell BK126.out 4).trans rfl
      have hcz23_5 : w3.cell? ⟨gb126, 5, none⟩ = some (.int .i64 a0_5) := (blk_cell BK126.out 5).trans rfl
      have hcz23_6 : w3.cell? ⟨gb126, 6, none⟩ = some (.int .i64 a0_6) := (blk_cell BK126.out 6).trans rfl
      have hcz23_7 : w3.cell? ⟨gb126, 7, none⟩ = some (.int .i64 a0_7) := (blk_cell BK126.out 7).trans rfl
      have hcz23_8 : w3.cell? ⟨gb126, 8, none⟩ = some (.int .i64 a0_8) := (blk_cell BK126.out 8).trans rfl
      have hcz23_9 : w3.cell? ⟨gb126, 9, none⟩ = some (.slice A0_9 l0_9.length c0_9) := (blk_cell BK126.out 9).trans rfl
      have hcz23_10 : w3.cell? ⟨gb126, 10, none⟩ = some (.slice A0_10 l0_10.length c0_10) := (blk_cell BK126.out 10).trans rfl
      have hcz23_11 : w3.cell? ⟨gb126, 11, none⟩ = some (.slice A0_11 l0_11.length c0_11) := (blk_cell BK126.out 11).trans rfl
      have hcz23_12 : w3.cell? ⟨gb126, 12, none⟩ = some (.slice A0_12 l0_12.length c0_12) := (blk_cell BK126.out 12).trans rfl
      have hcz23_13 : w3.cell? ⟨gb126, 13, none⟩ = some (.int .i64 a0_13) := (blk_cell BK126.out 13).trans rfl
      have hcz23_14 : w3.cell? ⟨gb126, 14, none⟩ = some (.int .i64 a0_14) := (blk_cell BK126.out 14).trans rfl
      have hfz23_0 := blk_frozen BK126.out 0
      have hfz23_1 := blk_frozen BK126.out 1
      have hfz23_2 := blk_frozen BK126.out 2
      have hfz23_3 := blk_frozen BK126.out 3
      have hfz23_4 := blk_frozen BK126.out 4
      have hfz23_5 := blk_frozen BK126.out 5
      have hfz23_6 := blk_frozen BK126.out 6
      have hfz23_7 := blk_frozen BK126.out 7
      have hfz23_8 := blk_frozen BK126.out 8
      have hfz23_9 := blk_frozen BK126.out 9
      have hfz23_10 := blk_frozen BK126.out 10
      have hfz23_11 := blk_frozen BK126.out 11
      have hfz23_12 := blk_frozen BK126.out 12
      have hfz23_13 := blk_frozen BK126.out 13
      have hfz23_14 := blk_frozen BK126.out 14
      go_wp2_with (first | (go_at_call 22; (with_reducible refine (dormouseref01_Table.calls k _ _ l0_0 _ _ l0_1 _ _ l0_2 a0_3 a0_4 a0_5 a0_6 a0_7 a0_8 false _ ?side1 ?side2 ?side3 ?side4 ?side5 ?side6 A4.out).mono ?_); (case side1 => repeat (first | exact (Kd.C_below HR0_0.out HB.out) | (with_reducible refine Kd.C_alloc ?_ _) | (with_reducible refine Kd.C_drewN ?_ _) | (with_reducible refine Kd.C_drew ?_))); (case side2 => exact HC0_0.out); (case side3 => repeat (first | exact (Kd.C_below HR0_1.out HB.out) | (with_reducible refine Kd.C_alloc ?_ _) | (with_reducible refine Kd.C_drewN ?_ _) | (with_reducible refine Kd.C_drew ?_))); (case side4 => exact HC0_1.out); (case side5 => repeat (first | exact (Kd.C_below HR0_2.out HB.out) | (with_reducible refine Kd.C_alloc ?_ _) | (with_reducible refine Kd.C_drewN ?_ _) | (with_reducible refine Kd.C_drew ?_))); (case side6 => exact HC0_2.out); rintro e w24 ⟨rfl, hb⟩; have n0_ := Aside0.mk (blk_below (g := gb126) (o := .cells #[.slice A0_0 l0_0.length c0_0, .slice A0_1 l0_1.length c0_1, .slice A0_2 l0_2.length c0_2, .int .i64 a0_3, .int .i64 a0_4, .int .i64 a0_5, .int .i64 a0_6, .int .i64 a0_7, .int .i64 a0_8, .slice A0_9 l0_9.length c0_9, .slice A0_10 l0_10.length c0_10, .slice A0_11 l0_11.length c0_11, .slice A0_12 l0_12.length c0_12, .int .i64 a0_13, .int .i64 a0_14] 32 (0, 0)) (by (with_reducible repeat (first | refine blk_drewN ?_ _ | refine blk_drew ?_ | refine blk_alloc ?_ _)); exact BK126.out) hb); have n1_ := Aside0.mk (below_step (by repeat (first | (with_reducible first | exact HB.out | apply below_alloc | apply pw_below_drewN | apply below_drew1 | refine below_set ?_ GE126.out) | exact HB.out)) hb); clear BK126; clear HB; have BK126 := n0_; have HB := n1_; clear n0_ n1_; (try clear hb); (try clear hb2); (try clear hk); (try clear hi)))
      repeat (go_quiet (first | (go_at_call 22; (with_reducible refine (dormouseref01_Table.calls k _ _ l0_0 _ _ l0_1 _ _ l0_2 a0_3 a0_4 a0_5 a0_6 a0_7 a0_8 false _ ?side1 ?side2 ?side3 ?side4 ?side5 ?side6 A4.out).mono ?_); (case side1 => repeat (first | exact (Kd.C_below HR0_0.out HB.out) | (with_reducible refine Kd.C_alloc ?_ _) | (with_reducible refine Kd.C_drewN ?_ _) | (with_reducible refine Kd.C_drew ?_))); (case side2 => exact HC0_0.out); (case side3 => repeat (first | exact (Kd.C_below HR0_1.out HB.out) | (with_reducible refine Kd.C_alloc ?_ _) | (with_reducible refine Kd.C_drewN ?_ _) | (with_reducible refine Kd.C_drew ?_))); (case side4 => exact HC0_1.out); (case side5 => repeat (first | exact (Kd.C_below HR0_2.out HB.out) | (with_reducible refine Kd.C_alloc ?_ _) | (with_reducible refine Kd.C_drewN ?_ _) | (with_reducible refine Kd.C_drew ?_))); (case side6 => exact HC0_2.out); rintro e w24 ⟨rfl, hb⟩; have n0_ := Aside0.mk (blk_below (g := gb126) (o := .cells #[.slice A0_0 l0_0.length c0_0, .slice A0_1 l0_1.length c0_1, .slice A0_2 l0_2.length c0_2, .int .i64 a0_3, .int .i64 a0_4, .int .i64 a0_5, .int .i64 a0_6, .int .i64 a0_7, .int .i64 a0_8, .slice A0_9 l0_9.length c0_9, .slice A0_10 l0_10.length c0_10, .slice A0_11 l0_11.length c0_11, .slice A0_12 l0_12.length c0_12, .int .i64 a0_13, .int .i64 a0_14] 32 (0, 0)) (by (with_reducible repeat (first | refine blk_drewN ?_ _ | refine blk_drew ?_ | refine blk_alloc ?_ _)); exact BK126.out) hb); have n1_ := Aside0.mk (below_step (by repeat (first | (with_reducible first | exact HB.out | apply below_alloc | apply pw_below_drewN | apply below_drew1 | refine below_set ?_ GE126.out) | exact HB.out)) hb); clear BK126; clear HB; have BK126 := n0_; have HB := n1_; clear n0_ n1_; (try clear hb); (try clear hb2); (try clear hk); (try clear hi))); try go_wp2_with (first | (go_at_call 22; (with_reducible refine (dormouseref01_Table.calls k _ _ l0_0 _ _ l0_1 _ _ l0_2 a0_3 a0_4 a0_5 a0_6 a0_7 a0_8 false _ ?side1 ?side2 ?side3 ?side4 ?side5 ?side6 A4.out).mono ?_); (case side1 => repeat (first | exact (Kd.C_below HR0_0.out HB.out) | (with_reducible refine Kd.C_alloc ?_ _) | (with_reducible refine Kd.C_drewN ?_ _) | (with_reducible refine Kd.C_drew ?_))); (case side2 => exact HC0_0.out); (case side3 => repeat (first | exact (Kd.C_below HR0_1.out HB.out) | (with_reducible refine Kd.C_alloc ?_ _) | (with_reducible refine Kd.C_drewN ?_ _) | (with_reducible refine Kd.C_drew ?_))); (case side4 => exact HC0_1.out); (case side5 => repeat (first | exact (Kd.C_below HR0_2.out HB.out) | (with_reducible refine Kd.C_alloc ?_ _) | (with_reducible refine Kd.C_drewN ?_ _) | (with_reducible refine Kd.C_drew ?_))); (case side6 => exact HC0_2.out); rintro e w24 ⟨rfl, hb⟩; have n0_ := Aside0.mk (blk_below (g := gb126) (o := .cells #[.slice A0_0 l0_0.length c0_0, .slice A0_1 l0_1.length c0_1, .slice A0_2 l0_2.length c0_2, .int .i64 a0_3, .int .i64 a0_4, .int .i64 a0_5, .int .i64 a0_6, .int .i64 a0_7, .int .i64 a0_8, .slice A0_9 l0_9.length c0_9, .slice A0_10 l0_10.length c0_10, .slice A0_11 l0_11.length c0_11, .slice A0_12 l0_12.length c0_12, .int .i64 a0_13, .int .i64 a0_14] 32 (0, 0)) (by (with_reducible repeat (first | refine blk_drewN ?_ _ | refine blk_drew ?_ | refine blk_alloc ?_ _)); exact BK126.out) hb); have n1_ := Aside0.mk (below_step (by repeat (first | (with_reducible first | exact HB.out | apply below_alloc | apply pw_below_drewN | apply below_drew1 | refine below_set ?_ GE126.out) | exact HB.out)) hb); clear BK126; clear HB; have BK126 := n0_; have HB := n1_; clear n0_ n1_; (try clear hb); (try clear hb2); (try clear hk); (try clear hi))))
      go_meet
      case rel => exact ⟨_, (true), (by first | rfl | (simp; done) | (simp [*]; done)), H', ⟨by first | omega | exact Nat.le_refl _⟩, ⟨by (with_reducible repeat (first | refine blk_drewN ?_ _ | refine blk_drew ?_ | refine blk_alloc ?_ _)); exact BK126.out⟩, ⟨by repeat (first | (with_reducible first | exact HB.out | apply below_alloc | apply pw_below_drewN | apply below_drew1 | refine below_set ?_ GE126.out) | exact HB.out)⟩⟩
  case rest =>
    clear HC2
    try clear hcz19_2
    try clear hcz19_3
    try clear hcz19_4
    try clear hcz19_5
    try clear hcz19_6
    try clear hcz19_7
    try clear hcz19_8
    try clear hcz19_9
    try clear hcz20_0
    try clear hcz20_1
    try clear hcz20_10
    try clear hcz20_11
    try clear hcz20_12
    try clear hcz20_13
    try clear hcz20_14
    try clear hcz20_2
    try clear hcz20_3
    try clear hcz20_4
    try clear hcz20_5
    try clear hcz20_6
    try clear hcz20_7
    try clear hcz20_8
    try clear hcz20_9
    try clear hcz22_0
    try clear hcz22_1
    try clear hcz22_10
    try clear hcz22_11
    try clear hcz22_12
    try clear hcz22_13
    try clear hcz22_14
    try clear hcz22_2
    try clear hcz22_3
    try clear hcz22_4
    try clear hcz22_5
    try clear hcz22_6
    try clear hcz22_7
    try clear hcz22_8
    try clear hcz22_9
    try clear hcz23_0
    try clear hcz23_1
    try clear hcz23_10
    try clear hcz23_11
    try clear hcz23_12
    try clear hcz23_13
    try clear hcz23_14
    try clear hcz23_2
    try clear hcz23_3
    try clear hcz23_4
    try clear hcz23_5
    try clear hcz23_6
    try clear hcz23_7
    try clear hcz23_8
    try clear hcz23_9
    try clear hcz7_0
    try clear hcz7_1
    try clear hcz7_10
    try clear hcz7_11
    try clear hcz7_12
    try clear hcz7_13
    try clear hcz7_14
    try clear hcz7_2
    try clear hcz7_3
    try clear hcz7_4
    try clear hcz7_5
    try clear hcz7_6
    try clear hcz7_7
    try clear hcz7_8
    try clear hcz7_9
    try clear hcz9_0
    try clear hcz9_1
    try clear hcz9_10
    try clear hcz9_11
    try clear hcz9_12
    try clear hcz9_13
    try clear hcz9_14
    try clear hcz9_2
    try clear hcz9_3
    try clear hcz9_4
    try clear hcz9_5
    try clear hcz9_6
    try clear hcz9_7
    try clear hcz9_8
    try clear hcz9_9
    try clear hfz14_0
    try clear hfz14_1
    try clear hfz14_10
    try clear hfz14_11
    try clear hfz14_12
    try clear hfz14_13
    try clear hfz14_14
    try clear hfz14_2
    try clear hfz14_3
    try clear hfz14_4
    try clear hfz14_5
    try clear hfz14_6
    try clear hfz14_7
    try clear hfz14_8
    try clear hfz14_9
    try clear hfz16_0
    try clear hfz16_1
    try clear hfz16_10
    try clear hfz16_11
    try clear hfz16_12
    try clear hfz16_13
    try clear hfz16_14
    try clear hfz16_2
    try clear hfz16_3
    try clear hfz16_4
    try clear hfz16_5
    try clear hfz16_6
    try clear hfz16_7
    try clear hfz16_8
    try clear hfz16_9
    try clear hfz17_0
    try clear hfz17_1
    try clear hfz17_10
    try clear hfz17_11
    try clear hfz17_12
    try clear hfz17_13
    try clear hfz17_14
    try clear hfz17_2
    try clear hfz17_3
    try clear hfz17_4
    try clear hfz17_5
    try clear hfz17_6
    try clear hfz17_7
    try clear hfz17_8
    try clear hfz17_9
    try clear hfz19_0
    try clear hfz19_1
    try clear hfz19_10
    try clear hfz19_11
    try clear hfz19_12
    try clear hfz19_13
    try clear hfz19_14
    try clear hfz19_2
    try clear hfz19_3
    try clear hfz19_4
    try clear hfz19_5
    try clear hfz19_6
    try clear hfz19_7
    try clear hfz19_8
    try clear hfz19_9
    try clear hfz20_0
    try clear hfz20_1
    try clear hfz20_10
    try clear hfz20_11
    try clear hfz20_12
    try clear hfz20_13
    try clear hfz20_14
    try clear hfz20_2
    try clear hfz20_3
    try clear hfz20_4
    try clear hfz20_5
    try clear hfz20_6
    try clear hfz20_7
    try clear hfz20_8
    try clear hfz20_9
    try clear hfz22_0
    try clear hfz22_1
    try clear hfz22_10
    try clear hfz22_11
    try clear hfz22_12
    try clear hfz22_13
    try clear hfz22_14
    try clear hfz22_2
    try clear hfz22_3
    try clear hfz22_4
    try clear hfz22_5
    try clear hfz22_6
    try clear hfz22_7
    try clear hfz22_8
    try clear hfz22_9
    try clear hfz23_0
    try clear hfz23_1
    try clear hfz23_10
    try clear hfz23_11
    try clear hfz23_12
    try clear hfz23_13
    try clear hfz23_14
    try clear hfz23_2
    try clear hfz23_3
    try clear hfz23_4
    try clear hfz23_5
    try clear hfz23_6
    try clear hfz23_7
    try clear hfz23_8
    try clear hfz23_9
    try clear hfz7_0
    try clear hfz7_1
    try clear hfz7_10
    try clear hfz7_11
    try clear hfz7_12
    try clear hfz7_13
    try clear hfz7_14
    try clear hfz7_2
    try clear hfz7_3
    try clear hfz7_4
    try clear hfz7_5
    try clear hfz7_6
    try clear hfz7_7
    try clear hfz7_8
    try clear hfz7_9
    try clear hfz9_0
    try clear hfz9_1
    try clear hfz9_10
    try clear hfz9_11
    try clear hfz9_12
    try clear hfz9_13
    try clear hfz9_14
    try clear hfz9_2
    try clear hfz9_3
    try clear hfz9_4
    try clear hfz9_5
    try clear hfz9_6
    try clear hfz9_7
    try clear hfz9_8
    try clear hfz9_9
    obtain ⟨kq, x43_1, rfl, HA, HJ1, BK126, HB⟩ := hcut
    cases kq with
    | zero => exact absurd HA.out (by simp [dormouseref09_Good.j0])
    | succ kj1 =>
      have H := HA.out
      clear HA
      simp only [dormouseref09_Good.j0] at H
      by_cases c25 : x43_1 = true
      · subst c25
        have H1 : (some false) = some r := by rw [if_pos rfl] at H; exact H
        clear H
        have H := H1
        clear H1
        obtain rfl := Option.some.inj H
        go_wp2
        repeat (go_quiet (fail); try go_wp2)
        go_ret
        exact ⟨by first | rfl | (simp [errW_none, errW_some] <;> rfl) | (simp [*, errW_none, errW_some] <;> rfl), by repeat (first | (with_reducible first | exact HB.out | apply below_alloc | apply pw_below_drewN | apply below_drew1 | refine below_set ?_ GE126.out) | exact HB.out)⟩
      · replace c25 := Bool.eq_false_iff.mpr c25
        subst c25
        have H1 : (dormouseref09_Good.l0 kj1 0 l0_0 l0_1 l0_2 a0_3 a0_4 a0_5 a0_6 a0_7 a0_8 l0_9 l0_10 l0_11 l0_12 a0_13 a0_14) = some r := by rw [if_neg (show ¬ (false = true) by decide)] at H; exact H
        clear H
        have H := H1
        clear H1
        have H' := Aside0.mk H
        clear H
        go_wp2
        repeat (go_quiet (fail); try go_wp2)
        go_loopg [3] kj1 (fun kq v3 w' => ∃ (x3_2 : Int), v3 = .int .i64 x3_2 ∧ Aside0 (dormouseref09_Good.l0 kq x3_2 l0_0 l0_1 l0_2 a0_3 a0_4 a0_5 a0_6 a0_7 a0_8 l0_9 l0_10 l0_11 l0_12 a0_13 a0_14 = some r) ∧ Aside0 (kq ≤ kj1) ∧ Aside0 (w'.heap[gb126]? = some (.cells #[(.slice A0_0 l0_0.length c0_0), (.slice A0_1 l0_1.length c0_1), (.slice A0_2 l0_2.length c0_2), .int .i64 a0_3, .int .i64 a0_4, .int .i64 a0_5, .int .i64 a0_6, .int .i64 a0_7, .int .i64 a0_8, (.slice A0_9 l0_9.length c0_9), (.slice A0_10 l0_10.length c0_10), (.slice A0_11 l0_11.length c0_11), (.slice A0_12 l0_12.length c0_12), .int .i64 a0_13, .int .i64 a0_14] 32 (0, 0))) ∧ Aside0 (Below w.heap.size w w'))
        case atStart => exact ⟨(0), (by first | rfl | (simp; done) | (simp [*]; done)), H', ⟨Nat.le_refl _⟩, ⟨by (with_reducible repeat (first | refine blk_drewN ?_ _ | refine blk_drew ?_ | refine blk_alloc ?_ _)); exact BK126.out⟩, ⟨by repeat (first | (with_reducible first | exact HB.out | apply below_alloc | apply pw_below_drewN | apply below_drew1 | refine below_set ?_ GE126.out) | exact HB.out)⟩⟩
        case round =>
          clear H'
          try clear c1
          try clear c2
          try clear p2
          try clear c5
          try clear c6
          try clear c6b0
          try clear c6b1
          try clear c9
          try clear c10
          try clear c10b0
          try clear c10b1
          try clear c10b2
          try clear c12
          try clear c25
          try clear hcz14_0
          try clear hcz14_1
          try clear hcz14_10
          try clear hcz14_11
          try clear hcz14_12
          try clear hcz14_13
          try clear hcz14_14
          try clear hcz14_2
          try clear hcz14_3
          try clear hcz14_4
          try clear hcz14_5
          try clear hcz14_6
          try clear hcz14_7
          try clear hcz14_8
          try clear hcz14_9
          try clear hcz16_0
          try clear hcz16_1
          try clear hcz16_10
          try clear hcz16_11
          try clear hcz16_12
          try clear hcz16_13
          try clear hcz16_14
          try clear hcz16_2
          try clear hcz16_3
          try clear hcz16_4
          try clear hcz16_5
          try clear hcz16_6
          try clear hcz16_7
          try clear hcz16_8
          try clear hcz16_9
          try clear hcz17_0
          try clear hcz17_1
          try clear hcz17_10
          try clear hcz17_11
          try clear hcz17_12
          try clear hcz17_13
          try clear hcz17_14
          try clear hcz17_2
          try clear hcz17_3
          try clear hcz17_4
          try clear hcz17_5
          try clear hcz17_6
          try clear hcz17_7
          try clear hcz17_8
          try clear hcz17_9
          try clear hcz19_0
          try clear hcz19_1
          try clear hcz19_10
          try clear hcz19_11
          try clear hcz19_12
          try clear hcz19_13
          try clear hcz19_14
          try clear hcz19_2
          try clear hcz19_3
          try clear hcz19_4
          try clear hcz19_5
          try clear hcz19_6
          try clear hcz19_7
          try clear hcz19_8
          try clear hcz19_9
          try clear hcz20_0
          try clear hcz20_1
          try clear hcz20_10
          try clear hcz20_11
          try clear hcz20_12
          try clear hcz20_13
          try clear hcz20_14
          try clear hcz20_2
          try clear hcz20_3
          try clear hcz20_4
          try clear hcz20_5
          try clear hcz20_6
          try clear hcz20_7
          try clear hcz20_8
          try clear hcz20_9
          try clear hcz22_0
          try clear hcz22_1
          try clear hcz22_10
          try clear hcz22_11
          try clear hcz22_12
          try clear hcz22_13
          try clear hcz22_14
          try clear hcz22_2
          try clear hcz22_3
          try clear hcz22_4
          try clear hcz22_5
          try clear hcz22_6
          try clear hcz22_7
          try clear hcz22_8
          try clear hcz22_9
          try clear hcz23_0
          try clear hcz23_1
          try clear hcz23_10
          try clear hcz23_11
          try clear hcz23_12
          try clear hcz23_13
          try clear hcz23_14
          try clear hcz23_2
          try clear hcz23_3
          try clear hcz23_4
          try clear hcz23_5
          try clear hcz23_6
          try clear hcz23_7
          try clear hcz23_8
          try clear hcz23_9
          try clear hcz7_0
          try clear hcz7_1
          try clear hcz7_10
          try clear hcz7_11
          try clear hcz7_12
          try clear hcz7_13
          try clear hcz7_14
          try clear hcz7_2
          try clear hcz7_3
          try clear hcz7_4
          try clear hcz7_5
          try clear hcz7_6
          try clear hcz7_7
          try clear hcz7_8
          try clear hcz7_9
          try clear hcz9_0
          try clear hcz9_1
          try clear hcz9_10
          try clear hcz9_11
          try clear hcz9_12
          try clear hcz9_13
          try clear hcz9_14
          try clear hcz9_2
          try clear hcz9_3
          try clear hcz9_4
          try clear hcz9_5
          try clear hcz9_6
          try clear hcz9_7
          try clear hcz9_8
          try clear hcz9_9
          try clear hfz14_0
          try clear hfz14_1
          try clear hfz14_10
          try clear hfz14_11
          try clear hfz14_12
          try clear hfz14_13
          try clear hfz14_14
          try clear hfz14_2
          try clear hfz14_3
          try clear hfz14_4
          try clear hfz14_5
          try clear hfz14_6
          try clear hfz14_7
          try clear hfz14_8
          try clear hfz14_9
          try clear hfz16_0
          try clear hfz16_1
          try clear hfz16_10
          try clear hfz16_11
          try clear hfz16_12
          try clear hfz16_13
          try clear hfz16_14
          try clear hfz16_2
          try clear hfz16_3
          try clear hfz16_4
          try clear hfz16_5
          try clear hfz16_6
          try clear hfz16_7
          try clear hfz16_8
          try clear hfz16_9
          try clear hfz17_0
          try clear hfz17_1
          try clear hfz17_10
          try clear hfz17_11
          try clear hfz17_12
          try clear hfz17_13
          try clear hfz17_14
          try clear hfz17_2
          try clear hfz17_3
          try clear hfz17_4
          try clear hfz17_5
          try clear hfz17_6
          try clear hfz17_7
          try clear hfz17_8
          try clear hfz17_9
          try clear hfz19_0
          try clear hfz19_1
          try clear hfz19_10
          try clear hfz19_11
          try clear hfz19_12
          try clear hfz19_13
          try clear hfz19_14
          try clear hfz19_2
          try clear hfz19_3
          try clear hfz19_4
          try clear hfz19_5
          try clear hfz19_6
          try clear hfz19_7
          try clear hfz19_8
          try clear hfz19_9
          try clear hfz20_0
          try clear hfz20_1
          try clear hfz20_10
          try clear hfz20_11
          try clear hfz20_12
          try clear hfz20_13
          try clear hfz20_14
          try clear hfz20_2
          try clear hfz20_3
          try clear hfz20_4
          try clear hfz20_5
          try clear hfz20_6
          try clear hfz20_7
          try clear hfz20_8
          try clear hfz20_9
          try clear hfz22_0
          try clear hfz22_1
          try clear hfz22_10
          try clear hfz22_11
          try clear hfz22_12
          try clear hfz22_13
          try clear hfz22_14
          try clear hfz22_2
          try clear hfz22_3
          try clear hfz22_4
          try clear hfz22_5
          try clear hfz22_6
          try clear hfz22_7
          try clear hfz22_8
          try clear hfz22_9
          try clear hfz23_0
          try clear hfz23_1
          try clear hfz23_10
          try clear hfz23_11
          try clear hfz23_12
          try clear hfz23_13
          try clear hfz23_14
          try clear hfz23_2
          try clear hfz23_3
          try clear hfz23_4
          try clear hfz23_5
          try clear hfz23_6
          try clear hfz23_7
          try clear hfz23_8
          try clear hfz23_9
          try clear hfz7_0
          try clear hfz7_1
          try clear hfz7_10
          try clear hfz7_11
          try clear hfz7_12
          try clear hfz7_13
          try clear hfz7_14
          try clear hfz7_2
          try clear hfz7_3
          try clear hfz7_4
          try clear hfz7_5
          try clear hfz7_6
          try clear hfz7_7
          try clear hfz7_8
          try clear hfz7_9
          try clear hfz9_0
          try clear hfz9_1
          try clear hfz9_10
          try clear hfz9_11
          try clear hfz9_12
          try clear hfz9_13
          try clear hfz9_14
          try clear hfz9_2
          try clear hfz9_3
          try clear hfz9_4
          try clear hfz9_5
          try clear hfz9_6
          try clear hfz9_7
          try clear hfz9_8
          try clear hfz9_9
          try clear p2
          obtain ⟨x3_2, rfl, HA, HK2, BK126, HB⟩ := hrel
          cases gk with
          | zero => exact absurd HA.out (by simp [dormouseref09_Good.l0])
          | succ k2 =>
            have H := HA.out
            clear HA
            simp only [dormouseref09_Good.l0] at H
            by_cases c26 : x3_2 < (l0_9.length : Int)
            · rw [if_pos c26] at H
              have c26b0 : decide (x3_2 < (l0_9.length : Int)) = true := decide_eq_true c26
              clear c26
              by_cases c27 : 0 ≤ x3_2
              · rw [if_pos c27] at H
                have c27b0 : decide (0 ≤ x3_2) = true := decide_eq_true c27
                clear c27
                have HC28 := Aside0.mk H
                clear H
                have hcz29_0 : wr.cell? ⟨gb126, 0, none⟩ = some (.slice A0_0 l0_0.length c0_0) := (blk_cell BK126.out 0).trans rfl
                have hcz29_1 : wr.cell? ⟨gb126, 1, none⟩ = some (.slice A0_1 l0_1.length c0_1) := (blk_cell BK126.out 1).trans rfl
                have hcz29_2 : wr.cell? ⟨gb126, 2, none⟩ = some (.slice A0_2 l0_2.length c0_2) := (blk_cell BK126.out 2).trans rfl
                have hcz29_3 : wr.cell? ⟨gb126, 3, none⟩ = some (.int .i64 a0_3) := (blk_cell BK126.out 3).trans rfl
                have hcz29_4 : wr.cell? ⟨gb126, 4, none⟩ = some (.int .i64 a0_4) := (blk_cell BK126.out 4).trans rfl
                have hcz29_5 : wr.cell? ⟨gb126, 5, none⟩ = some (.int .i64 a0_5) := (blk_cell BK126.out 5).trans rfl
                have hcz29_6 : wr.cell? ⟨gb126, 6, none⟩ = some (.int .i64 a0_6) := (blk_cell BK126.out 6).trans rfl
                have hcz29_7 : wr.cell? ⟨gb126, 7, none⟩ = some (.int .i64 a0_7) := (blk_cell BK126.out 7).trans rfl
                have hcz29_8 : wr.cell? ⟨gb126, 8, none⟩ = some (.int .i64 a0_8) := (blk_cell BK126.out 8).trans rfl
                have hcz29_9 : wr.cell? ⟨gb126, 9, none⟩ = some (.slice A0_9 l0_9.length c0_9) := (blk_cell BK126.out 9).trans rfl
                have hcz29_10 : wr.cell? ⟨gb126, 10, none⟩ = some (.slice A0_10 l0_10.length c0_10) := (blk_cell BK126.out 10).trans rfl
                have hcz29_11 : wr.cell? ⟨gb126, 11, none⟩ = some (.slice A0_11 l0_11.length c0_11) := (blk_cell BK126.out 11).trans rfl
                have hcz29_12 : wr.cell? ⟨gb126, 12, none⟩ = some (.slice A0_12 l0_12.length c0_12) := (blk_cell BK126.out 12).trans rfl
                have hcz29_13 : wr.cell? ⟨gb126, 13, none⟩ = some (.int .i64 a0_13) := (blk_cell BK126.out 13).trans rfl
                have hcz29_14 : wr.cell? ⟨gb126, 14, none⟩ = some (.int .i64 a0_14) := (blk_cell BK126.out 14).trans rfl
                have hfz29_0 := blk_frozen BK126.out 0
                have hfz29_1 := blk_frozen BK126.out 1
                have hfz29_2 := blk_frozen BK126.out 2
                have hfz29_3 := blk_frozen BK126.out 3
                have hfz29_4 := blk_frozen BK126.out 4
                have hfz29_5 := blk_frozen BK126.out 5
                have hfz29_6 := blk_frozen BK126.out 6
                have hfz29_7 := blk_frozen BK126.out 7
                have hfz29_8 := blk_frozen BK126.out 8
                have hfz29_9 := blk_frozen BK126.out 9
                have hfz29_10 := blk_frozen BK126.out 10
                have hfz29_11 := blk_frozen BK126.out 11
                have hfz29_12 := blk_frozen BK126.out 12
                have hfz29_13 := blk_frozen BK126.out 13
                have hfz29_14 := blk_frozen BK126.out 14
                have p130 : 0 ≤ (x3_2 : Int) := of_decide_eq_true (by first | (with_reducible assumption) | assumption)
                have q130 : x3_2 < (l0_9.length : Int) := of_decide_eq_true (by first | (with_reducible assumption) | assumption)
                obtain ⟨ad130, A130_2, c130_2, A130_3, c130_3, e130, hx130_0, hx130_1, hx130_2, hx130_3, hl130_2, hi130_2, hl130_3, hi130_3⟩ := at_T36 HR0_9.out x3_2 p130 q130
                cases e130
                replace hx130_0 := (HB.out.cell (World.block_lt_of_cell? w _ hx130_0)).trans hx130_0
                replace hx130_1 := (HB.out.cell (World.block_lt_of_cell? w _ hx130_1)).trans hx130_1
                replace hx130_2 := (HB.out.cell (World.block_lt_of_cell? w _ hx130_2)).trans hx130_2
                replace hx130_3 := (HB.out.cell (World.block_lt_of_cell? w _ hx130_3)).trans hx130_3
                have HR130_2 := Aside0.mk hi130_2
                have HC130_2 := Aside0.mk hl130_2
                clear hi130_2 hl130_2
                have HR130_3 := Aside0.mk hi130_3
                have HC130_3 := Aside0.mk hl130_3
                clear hi130_3 hl130_3
                replace p130 := eq_true p130
                replace q130 := eq_true q130
                go_upto_region 7 with (first | ((with_reducible refine gate_dst (N := 4) rfl ?_); (try (refine gate_guard (by rfl) ?_; dsimp only)); refine box_event ?hg (N := 4) ?hd (cs := #[.int .i64 0, .int .i64 0, .slice none 0 0, .slice none 0 0]) (t := 36) ?hr ?_; (case hd => rfl); (case hg => rfl); (case hr => first | (go_simp; done) | (go_simp; rfl)); intro gb131 hg w30 hbox hb; have n0_ := Aside0.mk (blk_below (g := gb126) (o := .cells #[.slice A0_0 l0_0.length c0_0, .slice A0_1 l0_1.length c0_1, .slice A0_2 l0_2.length c0_2, .int .i64 a0_3, .int .i64 a0_4, .int .i64 a0_5, .int .i64 a0_6, .int .i64 a0_7, .int .i64 a0_8, .slice (some ad130) l0_9.length c0_9, .slice A0_10 l0_10.length c0_10, .slice A0_11 l0_11.length c0_11, .slice A0_12 l0_12.length c0_12, .int .i64 a0_13, .int .i64 a0_14] 32 (0, 0)) (by (with_reducible repeat (first | refine blk_drewN ?_ _ | refine blk_drew ?_ | refine blk_alloc ?_ _)); exact BK126.out) hb); have n1_ := Aside0.mk (below_step (by repeat (first | (with_reducible first | exact HB.out | apply below_alloc | apply pw_below_drewN | apply below_drew1 | refine below_set ?_ GE126.out) | exact HB.out)) hb); have n2_ := Aside0.mk (hbox); have n3_ := Aside0.mk ((by rw [hg]; exact (below_size (by repeat (first | (with_reducible first | exact HB.out | apply below_alloc | apply pw_below_drewN | apply below_drew1 | refine below_set ?_ GE126.out) | exact HB.out))) : w.heap.size ≤ gb131)); have n4_ := Aside0.mk ((by rw [hg]; exact (below_size (by repeat (first | (with_reducible first | exact HB.out | apply below_alloc | apply pw_below_drewN | apply below_drew1 | refine below_set ?_ GE126.out) | exact HB.out))) : w.heap.size ≤ gb131)); have n5_ := Aside0.mk ((by rw [hg]; exact Nat.ne_of_lt (blk_lt (g := gb126) (o := .cells #[.slice A0_0 l0_0.length c0_0, .slice A0_1 l0_1.length c0_1, .slice A0_2 l0_2.length c0_2, .int .i64 a0_3, .int .i64 a0_4, .int .i64 a0_5, .int .i64 a0_6, .int .i64 a0_7, .int .i64 a0_8, .slice (some ad130) l0_9.length c0_9, .slice A0_10 l0_10.length c0_10, .slice A0_11 l0_11.length c0_11, .slice A0_12 l0_12.length c0_12, .int .i64 a0_13, .int .i64 a0_14] 32 (0, 0)) (by (with_reducible repeat (first | refine blk_drewN ?_ _ | refine blk_drew ?_ | refine blk_alloc ?_ _)); exact BK126.out)) : gb126 ≠ gb131)); have n6_ := Aside0.mk ((by rw [hg]; exact Nat.ne_of_gt (blk_lt (g := gb126) (o := .cells #[.slice A0_0 l0_0.length c0_0, .slice A0_1 l0_1.length c0_1, .slice A0_2 l0_2.length c0_2, .int .i64 a0_3, .int .i64 a0_4, .int .i64 a0_5, .int .i64 a0_6, .int .i64 a0_7, .int .i64 a0_8, .slice (some ad130) l0_9.length c0_9, .slice A0_10 l0_10.length c0_10, .slice A0_11 l0_11.length c0_11, .slice A0_12 l0_12.length c0_12, .int .i64 a0_13, .int .i64 a0_14] 32 (0, 0)) (by (with_reducible repeat (first | refine blk_drewN ?_ _ | refine blk_drew ?_ | refine blk_alloc ?_ _)); exact BK126.out)) : gb131 ≠ gb126)); clear BK126; clear HB; have BK126 := n0_; have HB := n1_; have BK131 := n2_; have GW131 := n3_; have GE131 := n4_; have NB126_131 := n5_; have NB131_126 := n6_; clear n0_ n1_ n2_ n3_ n4_ n5_ n6_; clear hb hbox hg; have hnb31 := NB131_126.out; have hnc31 := NB126_131.out; have hcz32_0 : w30.cell? ⟨gb131, 0, none⟩ = some (.int .i64 0) := (blk_cell BK131.out 0).trans rfl; have hcz32_1 : w30.cell? ⟨gb131, 1, none⟩ = some (.int .i64 0) := (blk_cell BK131.out 1).trans rfl; have hcz32_2 : w30.cell? ⟨gb131, 2, none⟩ = some (.slice none 0 0) := (blk_cell BK131.out 2).trans rfl; have hcz32_3 : w30.cell? ⟨gb131, 3, none⟩ = some (.slice none 0 0) := (blk_cell BK131.out 3).trans rfl; have hfz32_0 := blk_frozen BK131.out 0; have hfz32_1 := blk_frozen BK131.out 1; have hfz32_2 := blk_frozen BK131.out 2; have hfz32_3 := blk_frozen BK131.out 3))
                repeat (go_quiet (first | ((with_reducible refine gate_dst (N := 4) rfl ?_); (try (refine gate_guard (by rfl) ?_; dsimp only)); refine box_event ?hg (N := 4) ?hd (cs := #[.int .i64 0, .int .i64 0, .slice none 0 0, .slice none 0 0]) (t := 36) ?hr ?_; (case hd => rfl); (case hg => rfl); (case hr => first | (go_simp; done) | (go_simp; rfl)); intro gb131 hg w30 hbox hb; have n0_ := Aside0.mk (blk_below (g := gb126) (o := .cells #[.slice A0_0 l0_0.length c0_0, .slice A0_1 l0_1.length c0_1, .slice A0_2 l0_2.length c0_2, .int .i64 a0_3, .int .i64 a0_4, .int .i64 a0_5, .int .i64 a0_6, .int .i64 a0_7, .int .i64 a0_8, .slice (some ad130) l0_9.length c0_9, .slice A0_10 l0_10.length c0_10, .slice A0_11 l0_11.length c0_11, .slice A0_12 l0_12.length c0_12, .int .i64 a0_13, .int .i64 a0_14] 32 (0, 0)) (by (with_reducible repeat (first | refine blk_drewN ?_ _ | refine blk_drew ?_ | refine blk_alloc ?_ _)); exact BK126.out) hb); have n1_ := Aside0.mk (below_step (by repeat (first | (with_reducible first | exact HB.out | apply below_alloc | apply pw_below_drewN | apply below_drew1 | refine below_set ?_ GE126.out) | exact HB.out)) hb); have n2_ := Aside0.mk (hbox); have n3_ := Aside0.mk ((by rw [hg]; exact (below_size (by repeat (first | (with_reducible first | exact HB.out | apply below_alloc | apply pw_below_drewN | apply below_drew1 | refine below_set ?_ GE126.out) | exact HB.out))) : w.heap.size ≤ gb131)); have n4_ := Aside0.mk ((by rw [hg]; exact (below_size (by repeat (first | (with_reducible first | exact HB.out | apply below_alloc | apply pw_below_drewN | apply below_drew1 | refine below_set ?_ GE126.out) | exact HB.out))) : w.heap.size ≤ gb131)); have n5_ := Aside0.mk ((by rw [hg]; exact Nat.ne_of_lt (blk_lt (g := gb126) (o := .cells #[.slice A0_0 l0_0.length c0_0, .slice A0_1 l0_1.length c0_1, .slice A0_2 l0_2.length c0_2, .int .i64 a0_3, .int .i64 a0_4, .int .i64 a0_5, .int .i64 a0_6, .int .i64 a0_7, .int .i64 a0_8, .slice (some ad130) l0_9.length c0_9, .slice A0_10 l0_10.length c0_10, .slice A0_11 l0_11.length c0_11, .slice A0_12 l0_12.length c0_12, .int .i64 a0_13, .int .i64 a0_14] 32 (0, 0)) (by (with_reducible repeat (first | refine blk_drewN ?_ _ | refine blk_drew ?_ | refine blk_alloc ?_ _)); exact BK126.out)) : gb126 ≠ gb131)); have n6_ := Aside0.mk ((by rw [hg]; exact Nat.ne_of_gt (blk_lt (g := gb126) (o := .cells #[.slice A0_0 l0_0.length c0_0, .slice A0_1 l0_1.length c0_1, .slice A0_2 l0_2.length c0_2, .int .i64 a0_3, .int .i64 a0_4, .int .i64 a0_5, .int .i64 a0_6, .int .i64 a0_7, .int .i64 a0_8, .slice (some ad130) l0_9.length c0_9, .slice A0_10 l0_10.length c0_10, .slice A0_11 l0_11.length c0_11, .slice A0_12 l0_12.length c0_12, .int .i64 a0_13, .int .i64 a0_14] 32 (0, 0)) (by (with_reducible repeat (first | refine blk_drewN ?_ _ | refine blk_drew ?_ | refine blk_alloc ?_ _)); exact BK126.out)) : gb131 ≠ gb126)); clear BK126; clear HB; have BK126 := n0_; have HB := n1_; have BK131 := n2_; have GW131 := n3_; have GE131 := n4_; have NB126_131 := n5_; have NB131_126 := n6_; clear n0_ n1_ n2_ n3_ n4_ n5_ n6_; clear hb hbox hg; have hnb31 := NB131_126.out; have hnc31 := NB126_131.out; have hcz32_0 : w30.cell? ⟨gb131, 0, none⟩ = some (.int .i64 0) := (blk_cell BK131.out 0).trans rfl; have hcz32_1 : w30.cell? ⟨gb131, 1, none⟩ = some (.int .i64 0) := (blk_cell BK131.out 1).trans rfl; have hcz32_2 : w30.cell? ⟨gb131, 2, none⟩ = some (.slice none 0 0) := (blk_cell BK131.out 2).trans rfl; have hcz32_3 : w30.cell? ⟨gb131, 3, none⟩ = some (.slice none 0 0) := (blk_cell BK131.out 3).trans rfl; have hfz32_0 := blk_frozen BK131.out 0; have hfz32_1 := blk_frozen BK131.out 1; have hfz32_2 := blk_frozen BK131.out 2; have hfz32_3 := blk_frozen BK131.out 3)); go_upto_region 7 with (first | ((with_reducible refine gate_dst (N := 4) rfl ?_); (try (refine gate_guard (by rfl) ?_; dsimp only)); refine box_event ?hg (N := 4) ?hd (cs := #[.int .i64 0, .int .i64 0, .slice none 0 0, .slice none 0 0]) (t := 36) ?hr ?_; (case hd => rfl); (case hg => rfl); (case hr => first | (go_simp; done) | (go_simp; rfl)); intro gb131 hg w30 hbox hb; have n0_ := Aside0.mk (blk_below (g := gb126) (o := .cells #[.slice A0_0 l0_0.length c0_0, .slice A0_1 l0_1.length c0_1, .slice A0_2 l0_2.length c0_2, .int .i64 a0_3, .int .i64 a0_4, .int .i64 a0_5, .int .i64 a0_6, .int .i64 a0_7, .int .i64 a0_8, .slice (some ad130) l0_9.length c0_9, .slice A0_10 l0_10.length c0_10, .slice A0_11 l0_11.length c0_11, .slice A0_12 l0_12.length c0_12, .int .i64 a0_13, .int .i64 a0_14] 32 (0, 0)) (by (with_reducible repeat (first | refine blk_drewN ?_ _ | refine blk_drew ?_ | refine blk_alloc ?_ _)); exact BK126.out) hb); have n1_ := Aside0.mk (below_step (by repeat (first | (with_reducible first | exact HB.out | apply below_alloc | apply pw_below_drewN | apply below_drew1 | refine below_set ?_ GE126.out) | exact HB.out)) hb); have n2_ := Aside0.mk (hbox); have n3_ := Aside0.mk ((by rw [hg]; exact (below_size (by repeat (first | (with_reducible first | exact HB.out | apply below_alloc | apply pw_below_drewN | apply below_drew1 | refine below_set ?_ GE126.out) | exact HB.out))) : w.heap.size ≤ gb131)); have n4_ := Aside0.mk ((by rw [hg]; exact (below_size (by repeat (first | (with_reducible first | exact HB.out | apply below_alloc | apply pw_below_drewN | apply below_drew1 | refine below_set ?_ GE126.out) | exact HB.out))) : w.heap.size ≤ gb131)); have n5_ := Aside0.mk ((by rw [hg]; exact Nat.ne_of_lt (blk_lt (g := gb126) (o := .cells #[.slice A0_0 l0_0.length c0_0, .slice A0_1 l0_1.length c0_1, .slice A0_2 l0_2.length c0_2, .int .i64 a0_3, .int .i64 a0_4, .int .i64 a0_5, .int .i64 a0_6, .int .i64 a0_7, .int .i64 a0_8, .slice (some ad130) l0_9.length c0_9, .slice A0_10 l0_10.length c0_10, .slice A0_11 l0_11.length c0_11, .slice A0_12 l0_12.length c0_12, .int .i64 a0_13, .int .i64 a0_14] 32 (0, 0)) (by (with_reducible repeat (first | refine blk_drewN ?_ _ | refine blk_drew ?_ | refine blk_alloc ?_ _)); exact BK126.out)) : gb126 ≠ gb131)); have n6_ := Aside0.mk ((by rw [hg]; exact Nat.ne_of_gt (blk_lt (g := gb126) (o := .cells #[.slice A0_0 l0_0.length c0_0, .slice A0_1 l0_1.length c0_1, .slice A0_2 l0_2.length c0_2, .int .i64 a0_3, .int .i64 a0_4, .int .i64 a0_5, .int .i64 a0_6, .int .i64 a0_7, .int .i64 a0_8, .slice (some ad130) l0_9.length c0_9, .slice A0_10 l0_10.length c0_10, .slice A0_11 l0_11.length c0_11, .slice A0_12 l0_12.length c0_12, .int .i64 a0_13, .int .i64 a0_14] 32 (0, 0)) (by (with_reducible repeat (first | refine blk_drewN ?_ _ | refine blk_drew ?_ | refine blk_alloc ?_ _)); exact BK126.out)) : gb131 ≠ gb126)); clear BK126; clear HB; have BK126 := n0_; have HB := n1_; have BK131 := n2_; have GW131 := n3_; have GE131 := n4_; have NB126_131 := n5_; have NB131_126 := n6_; clear n0_ n1_ n2_ n3_ n4_ n5_ n6_; clear hb hbox hg; have hnb31 := NB131_126.out; have hnc31 := NB126_131.out; have hcz32_0 : w30.cell? ⟨gb131, 0, none⟩ = some (.int .i64 0) := (blk_cell BK131.out 0).trans rfl; have hcz32_1 : w30.cell? ⟨gb131, 1, none⟩ = some (.int .i64 0) := (blk_cell BK131.out 1).trans rfl; have hcz32_2 : w30.cell? ⟨gb131, 2, none⟩ = some (.slice none 0 0) := (blk_cell BK131.out 2).trans rfl; have hcz32_3 : w30.cell? ⟨gb131, 3, none⟩ = some (.slice none 0 0) := (blk_cell BK131.out 3).trans rfl; have hfz32_0 := blk_frozen BK131.out 0; have hfz32_1 := blk_frozen BK131.out 1; have hfz32_2 := blk_frozen BK131.out 2; have hfz32_3 := blk_frozen BK131.out 3)))
                (try simp only [Act.put, List.setIfInBounds_toArray, List.set_cons_zero, List.set_cons_succ])
                go_cut [5] (fun v5 wc => ∃ (kq : Nat) (x5_27 : Bool), v5 = .bool x5_27 ∧ Aside0 (dormouseref09_Good.j2 kq x3_2 x5_27 l0_0 l0_1 l0_2 a0_3 a0_4 a0_5 a0_6 a0_7 a0_8 l0_9 l0_10 l0_11 l0_12 a0_13 a0_14 ((rd_T36 l0_9 x3_2).f0) ((rd_T36 l0_9 x3_2).f1) ((rd_T36 l0_9 x3_2).f2) ((rd_T36 l0_9 x3_2).f3) = some r) ∧ Aside0 (kq ≤ k2) ∧ Aside0 (wc.heap[gb126]? = some (.cells #[(.slice A0_0 l0_0.length c0_0), (.slice A0_1 l0_1.length c0_1), (.slice A0_2 l0_2.length c0_2), .int .i64 a0_3, .int .i64 a0_4, .int .i64 a0_5, .int .i64 a0_6, .int .i64 a0_7, .int .i64 a0_8, (.slice (some ad130) l0_9.length c0_9), (.slice A0_10 l0_10.length c0_10), (.slice A0_11 l0_11.length c0_11), (.slice A0_12 l0_12.length c0_12), .int .i64 a0_13, .int .i64 a0_14] 32 (0, 0))) ∧ Aside0 (wc.heap[gb131]? = some (.cells #[.int .i64 ((rd_T36 l0_9 x3_2).f0), .int .i64 ((rd_T36 l0_9 x3_2).f1), (.slice A130_2 ((rd_T36 l0_9 x3_2).f2).length c130_2), (.slice A130_3 ((rd_T36 l0_9 x3_2).f3).length c130_3)] 36 (0, 0))) ∧ Aside0 (Below w.heap.size w wc))
                case first =>
                  have H := HC28.out
                  clear HC28
                  by_cases c33 : ((rd_T36 l0_9 x3_2).f0) = 0
                  · rw [if_pos c33] at H
                    have c33b0 : (((rd_T36 l0_9 x3_2).f0) == 0) = true := beq_iff_eq.mpr c33
                    have c33b1 : (((rd_T36 l0_9 x3_2).f0) != 0) = false := bne_eq_false_iff_eq.mpr c33
                    clear c33
                    (first | rw [c33b0] | (simp only [i64_w, i32_w]; rw [c33b0]) | skip)
                    by_cases c34 : ((rd_T36 l0_9 x3_2).f1) = 0
                    · rw [if_pos c34] at H
                      have c34b0 : (((rd_T36 l0_9 x3_2).f1) == 0) = true := beq_iff_eq.mpr c34
                      have c34b1 : (((rd_T36 l0_9 x3_2).f1) != 0) = false := bne_eq_false_iff_eq.mpr c34
                      clear c34
                      by_cases c35 : (((rd_T36 l0_9 x3_2).f2).length : Int) = 0
                      · rw [if_pos c35] at H
                        have c35b0 : ((((rd_T36 l0_9 x3_2).f2).length : Int) == 0) = true := beq_iff_eq.mpr c35
                        have c35b1 : ((((rd_T36 l0_9 x3_2).f2).length : Int) != 0) = false := bne_eq_false_iff_eq.mpr c35
                        clear c35
                        have H' := Aside0.mk H
                        clear H
                        have hnb36 := NB131_126.out
                        have hnc36 := NB126_131.out
                        have hcz37_0 : w30.cell? ⟨gb131, 0, none⟩ = some (.int .i64 0) := (blk_cell BK131.out 0).trans rfl
                        have hcz37_1 : w30.cell? ⟨gb131, 1, none⟩ = some (.int .i64 0) := (blk_cell BK131.out 1).trans rfl
                        have hcz37_2 : w30.cell? ⟨gb131, 2, none⟩ = some (.slice none 0 0) := (blk_cell BK131.out 2).trans rfl
                        have hcz37_3 : w30.cell? ⟨gb131, 3, none⟩ = some (.slice none 0 0) := (blk_cell BK131.out 3).trans rfl
                        have hfz37_0 := blk_frozen BK131.out 0
                        have hfz37_1 := blk_frozen BK131.out 1
                        have hfz37_2 := blk_frozen BK131.out 2
                        have hfz37_3 := blk_frozen BK131.out 3
                        go_wp2
                        repeat (go_quiet (fail); try go_wp2)
                        go_meet
                        case rel => exact ⟨_, (((((rd_T36 l0_9 x3_2).f3).length : Int) == 0)), (by first | rfl | (simp; done) | (simp [*]; done)), H', ⟨by have := HJ1.out; have := HK2.out; first | omega | exact Nat.le_refl _⟩, ⟨by (with_reducible repeat (first | refine blk_drewN ?_ _ | refine blk_drew ?_ | refine blk_alloc ?_ _)); refine blk_far ?_ NB126_131.out _; (with_reducible repeat (first | refine blk_drewN ?_ _ | refine blk_drew ?_ | refine blk_alloc ?_ _)); refine blk_far ?_ NB126_131.out _; (with_reducible repeat (first | refine blk_drewN ?_ _ | refine blk_drew ?_ | refine blk_alloc ?_ _)); refine blk_far ?_ NB126_131.out _; (with_reducible repeat (first | refine blk_drewN ?_ _ | refine blk_drew ?_ | refine blk_alloc ?_ _)); refine blk_far ?_ NB126_131.out _; (with_reducible repeat (first | refine blk_drewN ?_ _ | refine blk_drew ?_ | refine blk_alloc ?_ _)); exact BK126.out⟩, ⟨by (with_reducible repeat (first | refine blk_drewN ?_ _ | refine blk_drew ?_ | refine blk_alloc ?_ _)); refine blk_put (cs := #[.int .i64 ((rd_T36 l0_9 x3_2).f0), .int .i64 ((rd_T36 l0_9 x3_2).f1), .slice A130_2 ((rd_T36 l0_9 x3_2).f2).length c130_2, .slice none 0 0]) ?_ 3 _ rfl; (with_reducible repeat (first | refine blk_drewN ?_ _ | refine blk_drew ?_ | refine blk_alloc ?_ _)); refine blk_put (cs := #[.int .i64 ((rd_T36 l0_9 x3_2).f0), .int .i64 ((rd_T36 l0_9 x3_2).f1), .slice none 0 0, .slice none 0 0]) ?_ 2 _ rfl; (with_reducible repeat (first | refine blk_drewN ?_ _ | refine blk_drew ?_ | refine blk_alloc ?_ _)); refine blk_put (cs := #[.int .i64 ((rd_T36 l0_9 x3_2).f0), .int .i64 0, .slice none 0 0, .slice none 0 0]) ?_ 1 _ rfl; (with_reducible repeat (first | refine blk_drewN ?_ _ | refine blk_drew ?_ | refine blk_alloc ?_ _)); refine blk_put (cs := #[.int .i64 0, .int .i64 0, .slice none 0 0, .slice none 0 0]) ?_ 0 _ rfl; (with_reducible repeat (first | refine blk_drewN ?_ _ | refine blk_drew ?_ | refine blk_alloc ?_ _)); exact BK131.out⟩, ⟨by repeat (first | (with_reducible first | exact HB.out | apply below_alloc | apply pw_below_drewN | apply below_drew1 | refine below_set ?_ GE126.out | refine below_set ?_ GE131.out) | exact HB.out)⟩⟩
                      · rw [if_neg c35] at H
                        have c35b0 : ((((rd_T36 l0_9 x3_2).f2).length : Int) == 0) = false := beq_eq_false_iff_ne.mpr c35
                        have c35b1 : ((((rd_T36 l0_9 x3_2).f2).length : Int) != 0) = true := bne_iff_ne.mpr c35
                        have c35b2 : ¬ (((rd_T36 l0_9 x3_2).f2) = []) := fun h_ => c35 (by rw [h_]; rfl)
                        have H' := Aside0.mk H
                        clear H
                        have hnb38 := NB131_126.out
                        have hnc38 := NB126_131.out
                        have hcz39_0 : w30.cell? ⟨gb131, 0, none⟩ = some (.int .i64 0) := (blk_cell BK131.out 0).trans rfl
                        have hcz39_1 : w30.cell? ⟨gb131, 1, none⟩ = some (.int .i64 0) := (blk_cell BK131.out 1).trans rfl
                        have hcz39_2 : w30.cell? ⟨gb131, 2, none⟩ = some (.slice none 0 0) := (blk_cell BK131.out 2).trans rfl
                        have hcz39_3 : w30.cell? ⟨gb131, 3, none⟩ = some (.slice none 0 0) := (blk_cell BK131.out 3).trans rfl
                        have hfz39_0 := blk_frozen BK131.out 0
                        have hfz39_1 := blk_frozen BK131.out 1
                        have hfz39_2 := blk_frozen BK131.out 2
                        have hfz39_3 := blk_frozen BK131.out 3
                        go_wp2
                        repeat (go_quiet (fail); try go_wp2)
                        go_meet
                        case rel => exact ⟨_, (false), (by first | rfl | (simp; done) | (simp [*]; done)), H', ⟨by have := HJ1.out; have := HK2.out; first | omega | exact Nat.le_refl _⟩, ⟨by (with_reducible repeat (first | refine blk_drewN ?_ _ | refine blk_drew ?_ | refine blk_alloc ?_ _)); refine blk_far ?_ NB126_131.out _; (with_reducible repeat (first | refine blk_drewN ?_ _ | refine blk_drew ?_ | refine blk_alloc ?_ _)); refine blk_far ?_ NB126_131.out _; (with_reducible repeat (first | refine blk_drewN ?_ _ | refine blk_drew ?_ | refine blk_alloc ?_ _)); refine blk_far ?_ NB126_131.out _; (with_reducible repeat (first | refine blk_drewN ?_ _ | refine blk_drew ?_ | refine blk_alloc ?_ _)); refine blk_far ?_ NB126_131.out _; (with_reducible repeat (first | refine blk_drewN ?_ _ | refine blk_drew ?_ | refine blk_alloc ?_ _)); exact BK126.out⟩, ⟨by (with_reducible repeat (first | refine blk_drewN ?_ _ | refine blk_drew ?_ | refine blk_alloc ?_ _)); refine blk_put (cs := #[.int .i64 ((rd_T36 l0_9 x3_2).f0), .int .i64 ((rd_T36 l0_9 x3_2).f1), .slice A130_2 ((rd_T36 l0_9 x3_2).f2).length c130_2, .slice none 0 0]) ?_ 3 _ rfl; (with_reducible repeat (first | refine blk_drewN ?_ _ | refine blk_drew ?_ | refine blk_alloc ?_ _)); refine blk_put (cs := #[.int .i64 ((rd_T36 l0_9 x3_2).f0), .int .i64 ((rd_T36 l0_9 x3_2).f1), .slice none 0 0, .slice none 0 0]) ?_ 2 _ rfl; (with_reducible repeat (first | refine blk_drewN ?_ _ | refine blk_drew ?_ | refine blk_alloc ?_ _)); refine blk_put (cs := #[.int .i64 ((rd_T36 l0_9 x3_2).f0), .int .i64 0, .slice none 0 0, .slice none 0 0]) ?_ 1 _ rfl; (with_reducible repeat (first | refine blk_drewN ?_ _ | refine blk_drew ?_ | refine blk_alloc ?_ _)); refine blk_put (cs := #[.int .i64 0, .int .i64 0, .slice none 0 0, .slice none 0 0]) ?_ 0 _ rfl; (with_reducible repeat (first | refine blk_drewN ?_ _ | refine blk_drew ?_ | refine blk_alloc ?_ _)); exact BK131.out⟩, ⟨by repeat (first | (with_reducible first | exact HB.out | apply below_alloc | apply pw_below_drewN | apply below_drew1 | refine below_set ?_ GE126.out | refine below_set ?_ GE131.out) | exact HB.out)⟩⟩
                    · rw [if_neg c34] at H
                      have c34b0 : (((rd_T36 l0_9 x3_2).f1) == 0) = false := beq_eq_false_iff_ne.mpr c34
                      have c34b1 : (((rd_T36 l0_9 x3_2).f1) != 0) = true := bne_iff_ne.mpr c34
                      have H' := Aside0.mk H
                      clear H
                      have hnb40 := NB131_126.out
                      have hnc40 := NB126_131.out
                      have hcz41_0 : w30.cell? ⟨gb131, 0, none⟩ = some (.int .i64 0) := (blk_cell BK131.out 0).trans rfl
                      have hcz41_1 : w30.cell? ⟨gb131, 1, none⟩ = some (.int .i64 0) := (blk_cell BK131.out 1).trans rfl
                      have hcz41_2 : w30.cell? ⟨gb131, 2, none⟩ = some (.slice none 0 0) := (blk_cell BK131.out 2).trans rfl
                      have hcz41_3 : w30.cell? ⟨gb131, 3, none⟩ = some (.slice none 0 0) := (blk_cell BK131.out 3).trans rfl
                      have hfz41_0 := blk_frozen BK131.out 0
                      have hfz41_1 := blk_frozen BK131.out 1
                      have hfz41_2 := blk_frozen BK131.out 2
                      have hfz41_3 := blk_frozen BK131.out 3
                      go_wp2
                      repeat (go_quiet (fail); try go_wp2)
                      go_meet
                      case rel => exact ⟨_, (false), (by first | rfl | (simp; done) | (simp [*]; done)), H', ⟨by have := HJ1.out; have := HK2.out; first | omega | exact Nat.le_refl _⟩, ⟨by (with_reducible repeat (first | refine blk_drewN ?_ _ | refine blk_drew ?_ | refine blk_alloc ?_ _)); refine blk_far ?_ NB126_131.out _; (with_reducible repeat (first | refine blk_drewN ?_ _ | refine blk_drew ?_ | refine blk_alloc ?_ _)); refine blk_far ?_ NB126_131.out _; (with_reducible repeat (first | refine blk_drewN ?_ _ | refine blk_drew ?_ | refine blk_alloc ?_ _)); refine blk_far ?_ NB126_131.out _; (with_reducible repeat (first | refine blk_drewN ?_ _ | refine blk_drew ?_ | refine blk_alloc ?_ _)); refine blk_far ?_ NB126_131.out _; (with_reducible repeat (first | refine blk_drewN ?_ _ | refine blk_drew ?_ | refine blk_alloc ?_ _)); exact BK126.out⟩, ⟨by (with_reducible repeat (first | refine blk_drewN ?_ _ | refine blk_drew ?_ | refine blk_alloc ?_ _)); refine blk_put (cs := #[.int .i64 ((rd_T36 l0_9 x3_2).f0), .int .i64 ((rd_T36 l0_9 x3_2).f1), .slice A130_2 ((rd_T36 l0_9 x3_2).f2).length c130_2, .slice none 0 0]) ?_ 3 _ rfl; (with_reducible repeat (first | refine blk_drewN ?_ _ | refine blk_drew ?_ | refine blk_alloc ?_ _)); refine blk_put (cs := #[.int .i64 ((rd_T36 l0_9 x3_2).f0), .int .i64 ((rd_T36 l0_9 x3_2).f1), .slice none 0 0, .slice none 0 0]) ?_ 2 _ rfl; (with_reducible repeat (first | refine blk_drewN ?_ _ | refine blk_drew ?_ | refine blk_alloc ?_ _)); refine blk_put (cs := #[.int .i64 ((rd_T36 l0_9 x3_2).f0), .int .i64 0, .slice none 0 0, .slice none 0 0]) ?_ 1 _ rfl; (with_reducible repeat (first | refine blk_drewN ?_ _ | refine blk_drew ?_ | refine blk_alloc ?_ _)); refine blk_put (cs := #[.int .i64 0, .int .i64 0, .slice none 0 0, .slice none 0 0]) ?_ 0 _ rfl; (with_reducible repeat (first | refine blk_drewN ?_ _ | refine blk_drew ?_ | refine blk_alloc ?_ _)); exact BK131.out⟩, ⟨by repeat (first | (with_reducible first | exact HB.out | apply below_alloc | apply pw_below_drewN | apply below_drew1 | refine below_set ?_ GE126.out | refine below_set ?_ GE131.out) | exact HB.out)⟩⟩
                  · rw [if_neg c33] at H
                    have c33b0 : (((rd_T36 l0_9 x3_2).f0) == 0) = false := beq_eq_false_iff_ne.mpr c33
                    have c33b1 : (((rd_T36 l0_9 x3_2).f0) != 0) = true := bne_iff_ne.mpr c33
                    (first | rw [c33b0] | (simp only [i64_w, i32_w]; rw [c33b0]) | skip)
                    have H' := Aside0.mk H
                    clear H
                    have hnb42 := NB131_126.out
                    have hnc42 := NB126_131.out
                    have hcz43_0 : w30.cell? ⟨gb131, 0, none⟩ = some (.int .i64 0) := (blk_cell BK131.out 0).trans rfl
                    have hcz43_1 : w30.cell? ⟨gb131, 1, none⟩ = some (.int .i64 0) := (blk_cell BK131.out 1).trans rfl
                    have hcz43_2 : w30.cell? ⟨gb131, 2, none⟩ = some (.slice none 0 0) := (blk_cell BK131.out 2).trans rfl
                    have hcz43_3 : w30.cell? ⟨gb131, 3, none⟩ = some (.slice none 0 0) := (blk_cell BK131.out 3).trans rfl
                    have hfz43_0 := blk_frozen BK131.out 0
                    have hfz43_1 := blk_frozen BK131.out 1
                    have hfz43_2 := blk_frozen BK131.out 2
                    have hfz43_3 := blk_frozen BK131.out 3
                    go_wp2
                    repeat (go_quiet (fail); try go_wp2)
                    go_meet
                    case rel => exact ⟨_, (false), (by first | rfl | (simp; done) | (simp [*]; done)), H', ⟨by have := HJ1.out; have := HK2.out; first | omega | exact Nat.le_refl _⟩, ⟨by (with_reducible repeat (first | refine blk_drewN ?_ _ | refine blk_drew ?_ | refine blk_alloc ?_ _)); refine blk_far ?_ NB126_131.out _; (with_reducible repeat (first | refine blk_drewN ?_ _ | refine blk_drew ?_ | refine blk_alloc ?_ _)); refine blk_far ?_ NB126_131.out _; (with_reducible repeat (first | refine blk_drewN ?_ _ | refine blk_drew ?_ | refine blk_alloc ?_ _)); refine blk_far ?_ NB126_131.out _; (with_reducible repeat (first | refine blk_drewN ?_ _ | refine blk_drew ?_ | refine blk_alloc ?_ _)); refine blk_far ?_ NB126_131.out _; (with_reducible repeat (first | refine blk_drewN ?_ _ | refine blk_drew ?_ | refine blk_alloc ?_ _)); exact BK126.out⟩, ⟨by (with_reducible repeat (first | refine blk_drewN ?_ _ | refine blk_drew ?_ | refine blk_alloc ?_ _)); refine blk_put (cs := #[.int .i64 ((rd_T36 l0_9 x3_2).f0), .int .i64 ((rd_T36 l0_9 x3_2).f1), .slice A130_2 ((rd_T36 l0_9 x3_2).f2).length c130_2, .slice none 0 0]) ?_ 3 _ rfl; (with_reducible repeat (first | refine blk_drewN ?_ _ | refine blk_drew ?_ | refine blk_alloc ?_ _)); refine blk_put (cs := #[.int .i64 ((rd_T36 l0_9 x3_2).f0), .int .i64 ((rd_T36 l0_9 x3_2).f1), .slice none 0 0, .slice none 0 0]) ?_ 2 _ rfl; (with_reducible repeat (first | refine blk_drewN ?_ _ | refine blk_drew ?_ | refine blk_alloc ?_ _)); refine blk_put (cs := #[.int .i64 ((rd_T36 l0_9 x3_2).f0), .int .i64 0, .slice none 0 0, .slice none 0 0]) ?_ 1 _ rfl; (with_reducible repeat (first | refine blk_drewN ?_ _ | refine blk_drew ?_ | refine blk_alloc ?_ _)); refine blk_put (cs := #[.int .i64 0, .int .i64 0, .slice none 0 0, .slice none 0 0]) ?_ 0 _ rfl; (with_reducible repeat (first | refine blk_drewN ?_ _ | refine blk_drew ?_ | refine blk_alloc ?_ _)); exact BK131.out⟩, ⟨by repeat (first | (with_reducible first | exact HB.out | apply below_alloc | apply pw_below_drewN | apply below_drew1 | refine below_set ?_ GE126.out | refine below_set ?_ GE131.out) | exact HB.out)⟩⟩
                case rest =>
                  clear HC28
                  try clear c1
                  try clear p1
                  try clear q1
                  try clear hx1
                  try clear c2
                  try clear p2
                  try clear c3
                  try clear c4
                  try clear c5
                  try clear c6
                  try clear c6b0
                  try clear c6b1
                  try clear c9
                  try clear c10
                  try clear c10b0
                  try clear c10b1
                  try clear c10b2
                  try clear c12
                  try clear c13
                  try clear p13
                  try clear q13
                  try clear hx13
                  try clear c25
                  try clear c26
                  try clear c26b0
                  try clear c27
                  try clear c27b0
                  try clear c31
                  try clear c33
                  try clear c33b0
                  try clear c33b1
                  try clear c34
                  try clear c34b0
                  try clear c34b1
                  try clear c35
                  try clear c35b0
                  try clear c35b1
                  try clear c35b2
                  try clear c36
                  try clear c38
                  try clear c40
                  try clear c42
                  try clear hcz14_0
                  try clear hcz14_1
                  try clear hcz14_10
                  try clear hcz14_11
                  try clear hcz14_12
                  try clear hcz14_13
                  try clear hcz14_14
                  try clear hcz14_2
                  try clear hcz14_3
                  try clear hcz14_4
                  try clear hcz14_5
                  try clear hcz14_6
                  try clear hcz14_7
                  try clear hcz14_8
                  try clear hcz14_9
                  try clear hcz16_0
                  try clear hcz16_1
                  try clear hcz16_10
                  try clear hcz16_11
                  try clear hcz16_12
                  try clear hcz16_13
                  try clear hcz16_14
                  try clear hcz16_2
                  try clear hcz16_3
                  try clear hcz16_4
                  try clear hcz16_5
                  try clear hcz16_6
                  try clear hcz16_7
                  try clear hcz16_8
                  try clear hcz16_9
                  try clear hcz17_0
                  try clear hcz17_1
                  try clear hcz17_10
                  try clear hcz17_11
                  try clear hcz17_12
                  try clear hcz17_13
                  try clear hcz17_14
                  try clear hcz17_2
                  try clear hcz17_3
                  try clear hcz17_4
                  try clear hcz17_5
                  try clear hcz17_6
                  try clear hcz17_7
                  try clear hcz17_8
                  try clear hcz17_9
                  try clear hcz19_0
                  try clear hcz19_1
                  try clear hcz19_10
                  try clear hcz19_11
                  try clear hcz19_12
                  try clear hcz19_13
                  try clear hcz19_14
                  try clear hcz19_2
                  try clear hcz19_3
                  try clear hcz19_4
                  try clear hcz19_5
                  try clear hcz19_6
                  try clear hcz19_7
                  try clear hcz19_8
                  try clear hcz19_9
                  try clear hcz20_0
                  try clear hcz20_1
                  try clear hcz20_10
                  try clear hcz20_11
                  try clear hcz20_12
                  try clear hcz20_13
                  try clear hcz20_14
                  try clear hcz20_2
                  try clear hcz20_3
                  try clear hcz20_4
                  try clear hcz20_5
                  try clear hcz20_6
                  try clear hcz20_7
                  try clear hcz20_8
                  try clear hcz20_9
                  try clear hcz22_0
                  try clear hcz22_1
                  try clear hcz22_10
                  try clear hcz22_11
                  try clear hcz22_12
                  try clear hcz22_13
                  try clear hcz22_14
                  try clear hcz22_2
                  try clear hcz22_3
                  try clear hcz22_4
                  try clear hcz22_5
                  try clear hcz22_6
                  try clear hcz22_7
                  try clear hcz22_8
                  try clear hcz22_9
                  try clear hcz23_0
                  try clear hcz23_1
                  try clear hcz23_10
                  try clear hcz23_11
                  try clear hcz23_12
                  try clear hcz23_13
                  try clear hcz23_14
                  try clear hcz23_2
                  try clear hcz23_3
                  try clear hcz23_4
                  try clear hcz23_5
                  try clear hcz23_6
                  try clear hcz23_7
                  try clear hcz23_8
                  try clear hcz23_9
                  try clear hcz29_0
                  try clear hcz29_1
                  try clear hcz29_10
                  try clear hcz29_11
                  try clear hcz29_12
                  try clear hcz29_13
                  try clear hcz29_14
                  try clear hcz29_2
                  try clear hcz29_3
                  try clear hcz29_4
                  try clear hcz29_5
                  try clear hcz29_6
                  try clear hcz29_7
                  try clear hcz29_8
                  try clear hcz29_9
                  try clear hcz32_0
                  try clear hcz32_1
                  try clear hcz32_2
                  try clear hcz32_3
                  try clear hcz37_0
                  try clear hcz37_1
                  try clear hcz37_2
                  try clear hcz37_3
                  try clear hcz39_0
                  try clear hcz39_1
                  try clear hcz39_2
                  try clear hcz39_3
                  try clear hcz41_0
                  try clear hcz41_1
                  try clear hcz41_2
                  try clear hcz41_3
                  try clear hcz43_0
                  try clear hcz43_1
                  try clear hcz43_2
                  try clear hcz43_3
                  try clear hcz7_0
                  try clear hcz7_1
                  try clear hcz7_10
                  try clear hcz7_11
                  try clear hcz7_12
                  try clear hcz7_13
                  try clear hcz7_14
                  try clear hcz7_2
                  try clear hcz7_3
                  try clear hcz7_4
                  try clear hcz7_5
                  try clear hcz7_6
                  try clear hcz7_7
                  try clear hcz7_8
                  try clear hcz7_9
                  try clear hcz9_0
                  try clear hcz9_1
                  try clear hcz9_10
                  try clear hcz9_11
                  try clear hcz9_12
                  try clear hcz9_13
                  try clear hcz9_14
                  try clear hcz9_2
                  try clear hcz9_3
                  try clear hcz9_4
                  try clear hcz9_5
                  try clear hcz9_6
                  try clear hcz9_7
                  try clear hcz9_8
                  try clear hcz9_9
                  try clear hfz14_0
                  try clear hfz14_1
                  try clear hfz14_10
                  try clear hfz14_11
                  try clear hfz14_12
                  try clear hfz14_13
                  try clear hfz14_14
                  try clear hfz14_2
                  try clear hfz14_3
                  try clear hfz14_4
                  try clear hfz14_5
                  try clear hfz14_6
                  try clear hfz14_7
                  try clear hfz14_8
                  try clear hfz14_9
                  try clear hfz16_0
                  try clear hfz16_1
                  try clear hfz16_10
                  try clear hfz16_11
                  try clear hfz16_12
                  try clear hfz16_13
                  try clear hfz16_14
                  try clear hfz16_2
                  try clear hfz16_3
                  try clear hfz16_4
                  try clear hfz16_5
                  try clear hfz16_6
                  try clear hfz16_7
                  try clear hfz16_8
                  try clear hfz16_9
                  try clear hfz17_0
                  try clear hfz17_1
                  try clear hfz17_10
                  try clear hfz17_11
                  try clear hfz17_12
                  try clear hfz17_13
                  try clear hfz17_14
                  try clear hfz17_2
                  try clear hfz17_3
                  try clear hfz17_4
                  try clear hfz17_5
                  try clear hfz17_6
                  try clear hfz17_7
                  try clear hfz17_8
                  try clear hfz17_9
                  try clear hfz19_0
                  try clear hfz19_1
                  try clear hfz19_10
                  try clear hfz19_11
                  try clear hfz19_12
                  try clear hfz19_13
                  try clear hfz19_14
                  try clear hfz19_2
                  try clear hfz19_3
                  try clear hfz19_4
                  try clear hfz19_5
                  try clear hfz19_6
                  try clear hfz19_7
                  try clear hfz19_8
                  try clear hfz19_9
                  try clear hfz20_0
                  try clear hfz20_1
                  try clear hfz20_10
                  try clear hfz20_11
                  try clear hfz20_12
                  try clear hfz20_13
                  try clear hfz20_14
                  try clear hfz20_2
                  try clear hfz20_3
                  try clear hfz20_4
                  try clear hfz20_5
                  try clear hfz20_6
                  try clear hfz20_7
                  try clear hfz20_8
                  try clear hfz20_9
                  try clear hfz22_0
                  try clear hfz22_1
                  try clear hfz22_10
                  try clear hfz22_11
                  try clear hfz22_12
                  try clear hfz22_13
                  try clear hfz22_14
                  try clear hfz22_2
                  try clear hfz22_3
                  try clear hfz22_4
                  try clear hfz22_5
                  try clear hfz22_6
                  try clear hfz22_7
                  try clear hfz22_8
                  try clear hfz22_9
                  try clear hfz23_0
                  try clear hfz23_1
                  try clear hfz23_10
                  try clear hfz23_11
                  try clear hfz23_12
                  try clear hfz23_13
                  try clear hfz23_14
                  try clear hfz23_2
                  try clear hfz23_3
                  try clear hfz23_4
                  try clear hfz23_5
                  try clear hfz23_6
                  try clear hfz23_7
                  try clear hfz23_8
                  try clear hfz23_9
                  try clear hfz29_0
                  try clear hfz29_1
                  try clear hfz29_10
                  try clear hfz29_11
                  try clear hfz29_12
                  try clear hfz29_13
                  try clear hfz29_14
                  try clear hfz29_2
                  try clear hfz29_3
                  try clear hfz29_4
                  try clear hfz29_5
                  try clear hfz29_6
                  try clear hfz29_7
                  try clear hfz29_8
                  try clear hfz29_9
                  try clear hfz32_0
                  try clear hfz32_1
                  try clear hfz32_2
                  try clear hfz32_3
                  try clear hfz37_0
                  try clear hfz37_1
                  try clear hfz37_2
                  try clear hfz37_3
                  try clear hfz39_0
                  try clear hfz39_1
                  try clear hfz39_2
                  try clear hfz39_3
                  try clear hfz41_0
                  try clear hfz41_1
                  try clear hfz41_2
                  try clear hfz41_3
                  try clear hfz43_0
                  try clear hfz43_1
                  try clear hfz43_2
                  try clear hfz43_3
                  try clear hfz7_0
                  try clear hfz7_1
                  try clear hfz7_10
                  try clear hfz7_11
                  try clear hfz7_12
                  try clear hfz7_13
                  try clear hfz7_14
                  try clear hfz7_2
                  try clear hfz7_3
                  try clear hfz7_4
                  try clear hfz7_5
                  try clear hfz7_6
                  try clear hfz7_7
                  try clear hfz7_8
                  try clear hfz7_9
                  try clear hfz9_0
                  try clear hfz9_1
                  try clear hfz9_10
                  try clear hfz9_11
                  try clear hfz9_12
                  try clear hfz9_13
                  try clear hfz9_14
                  try clear hfz9_2
                  try clear hfz9_3
                  try clear hfz9_4
                  try clear hfz9_5
                  try clear hfz9_6
                  try clear hfz9_7
                  try clear hfz9_8
                  try clear hfz9_9
                  try clear hx130_0
                  try clear hx130_1
                  try clear hx130_2
                  try clear hx130_3
                  try clear p130
                  try clear p2
                  try clear q130
                  obtain ⟨kq, x5_27, rfl, HA, HJ27, BK126, BK131, HB⟩ := hcut
                  cases kq with
                  | zero => exact absurd HA.out (by simp [dormouseref09_Good.j2])
                  | succ kj27 =>
                    have H := HA.out
                    clear HA
                    simp only [dormouseref09_Good.j2] at H
                    by_cases c44 : x5_27 = true
                    · subst c44
                      have H1 : (if 0 ≤ x3_2 then (if x3_2 < (l0_10.length : Int) then ((dormouseref09_moment.f (rd l0_10 x3_2)).bind fun t133 => (if t133 = true then (dormouseref09_Good.l0 kj27 (wrap64 (x3_2 + 1)) l0_0 l0_1 l0_2 a0_3 a0_4 a0_5 a0_6 a0_7 a0_8 l0_9 l0_10 l0_11 l0_12 a0_13 a0_14) else (some false))) else (none)) else (none)) = some r := by rw [if_pos rfl] at H; exact H
                      clear H
                      have H := H1
                      clear H1
                      by_cases c45 : 0 ≤ x3_2
                      · rw [if_pos c45] at H
                        have c45b0 : decide (0 ≤ x3_2) = true := decide_eq_true c45
                        clear c45
                        by_cases c46 : x3_2 < (l0_10.length : Int)
                        · rw [if_pos c46] at H
                          have c46b0 : decide (x3_2 < (l0_10.length : Int)) = true := decide_eq_true c46
                          clear c46
                          replace H := Option.bind_eq_some_iff.mp H
                          obtain ⟨t133, A470, H⟩ := H
                          replace H : (if t133 = true then (dormouseref09_Good.l0 kj27 (wrap64 (x3_2 + 1)) l0_0 l0_1 l0_2 a0_3 a0_4 a0_5 a0_6 a0_7 a0_8 l0_9 l0_10 l0_11 l0_12 a0_13 a0_14) else (some false)) = some r := H
                          have A47 := Aside0.mk A470
                          clear A470
                          by_cases c48 : t133 = true
                          · subst c48
                            have H1 : (dormouseref09_Good.l0 kj27 (wrap64 (x3_2 + 1)) l0_0 l0_1 l0_2 a0_3 a0_4 a0_5 a0_6 a0_7 a0_8 l0_9 l0_10 l0_11 l0_12 a0_13 a0_14) = some r := by rw [if_pos rfl] at H; exact H
                            clear H
                            have H := H1
                            clear H1
                            have H' := Aside0.mk H
                            clear H
                            have hnb49 := NB126_131.out
                            have hnc49 := NB131_126.out
                            have hcz50_0 : wc.cell? ⟨gb126, 0, none⟩ = some (.slice A0_0 l0_0.length c0_0) := (blk_cell BK126.out 0).trans rfl
                            have hcz50_1 : wc.cell? ⟨gb126, 1, none⟩ = some (.slice A0_1 l0_1.length c0_1) := (blk_cell BK126.out 1).trans rfl
                            have hcz50_2 : wc.cell? ⟨gb126, 2, none⟩ = some (.slice A0_2 l0_2.length c0_2) := (blk_cell BK126.out 2).trans rfl
                            have hcz50_3 : wc.cell? ⟨gb126, 3, none⟩ = some (.int .i64 a0_3) := (blk_cell BK126.out 3).trans rfl
                            have hcz50_4 : wc.cell? ⟨gb126, 4, none⟩ = some (.int .i64 a0_4) := (blk_cell BK126.out 4).trans rfl
                            have hcz50_5 : wc.cell? ⟨gb126, 5, none⟩ = some (.int .i64 a0_5) := (blk_cell BK126.out 5).trans rfl
                            have hcz50_6 : wc.cell? ⟨gb126, 6, none⟩ = some (.int .i64 a0_6) := (blk_cell BK126.out 6).trans rfl
                            have hcz50_7 : wc.cell? ⟨gb126, 7, none⟩ = some (.int .i64 a0_7) := (blk_cell BK126.out 7).trans rfl
                            have hcz50_8 : wc.cell? ⟨gb126, 8, none⟩ = some (.int .i64 a0_8) := (blk_cell BK126.out 8).trans rfl
                            have hcz50_9 : wc.cell? ⟨gb126, 9, none⟩ = some (.slice (some ad130) l0_9.length c0_9) := (blk_cell BK126.out 9).trans rfl
                            have hcz50_10 : wc.cell? ⟨gb126, 10, none⟩ = some (.slice A0_10 l0_10.length c0_10) := (blk_cell BK126.out 10).trans rfl
                            have hcz50_11 : wc.cell? ⟨gb126, 11, none⟩ = some (.slice A0_11 l0_11.length c0_11) := (blk_cell BK126.out 11).trans rfl
                            have hcz50_12 : wc.cell? ⟨gb126, 12, none⟩ = some (.slice A0_12 l0_12.length c0_12) := (blk_cell BK126.out 12).trans rfl
                            have hcz50_13 : wc.cell? ⟨gb126, 13, none⟩ = some (.int .i64 a0_13) := (blk_cell BK126.out 13).trans rfl
                            have hcz50_14 : wc.cell? ⟨gb126, 14, none⟩ = some (.int .i64 a0_14) := (blk_cell BK126.out 14).trans rfl
                            have hfz50_0 := blk_frozen BK126.out 0
                            have hfz50_1 := blk_frozen BK126.out 1
                            have hfz50_2 := blk_frozen BK126.out 2
                            have hfz50_3 := blk_frozen BK126.out 3
                            have hfz50_4 := blk_frozen BK126.out 4
                            have hfz50_5 := blk_frozen BK126.out 5
                            have hfz50_6 := blk_frozen BK126.out 6
                            have hfz50_7 := blk_frozen BK126.out 7
                            have hfz50_8 := blk_frozen BK126.out 8
                            have hfz50_9 := blk_frozen BK126.out 9
                            have hfz50_10 := blk_frozen BK126.out 10
                            have hfz50_11 := blk_frozen BK126.out 11
                            have hfz50_12 := blk_frozen BK126.out 12
                            have hfz50_13 := blk_frozen BK126.out 13
                            have hfz50_14 := blk_frozen BK126.out 14
                            have p132 : 0 ≤ (x3_2 : Int) := of_decide_eq_true (by first | (with_reducible assumption) | assumption)
                            have q132 : x3_2 < (l0_10.length : Int) := of_decide_eq_true (by first | (with_reducible assumption) | assumption)
                            obtain ⟨ad132, e132, hx132_0⟩ := Kd.at_int HR0_10.out x3_2 p132 q132
                            cases e132
                            replace hx132_0 := (HB.out.cell (World.block_lt_of_cell? w _ hx132_0)).trans hx132_0
                            replace p132 := eq_true p132
                            replace q132 := eq_true q132
                            go_wp2_with (first | (go_at_call 23; (with_reducible refine (dormouseref09_moment.calls (rd l0_10 x3_2) true _ A47.out).mono ?_); rintro e w' ⟨rfl, ⟨nd, rfl⟩⟩; (try first | exact ⟨rfl, _, World.drewN_drewN _ _ _⟩ | exact ⟨rfl, _, Eq.trans (World.drewN_drewN _ _ _) (congrArg (World.drewN _) (Nat.add_assoc _ _ _))⟩)))
                            repeat (go_quiet (first | (go_at_call 23; (with_reducible refine (dormouseref09_moment.calls (rd l0_10 x3_2) true _ A47.out).mono ?_); rintro e w' ⟨rfl, ⟨nd, rfl⟩⟩; (try first | exact ⟨rfl, _, World.drewN_drewN _ _ _⟩ | exact ⟨rfl, _, Eq.trans (World.drewN_drewN _ _ _) (congrArg (World.drewN _) (Nat.add_assoc _ _ _))⟩))); try go_wp2_with (first | (go_at_call 23; (with_reducible refine (dormouseref09_moment.calls (rd l0_10 x3_2) true _ A47.out).mono ?_); rintro e w' ⟨rfl, ⟨nd, rfl⟩⟩; (try first | exact ⟨rfl, _, World.drewN_drewN _ _ _⟩ | exact ⟨rfl, _, Eq.trans (World.drewN_drewN _ _ _) (congrArg (World.drewN _) (Nat.add_assoc _ _ _))⟩))))
                            go_roundg kj27
                            case measure => have := HJ1.out; have := HK2.out; have := HJ27.out; omega
                            case rel => exact ⟨(wrap64 (x3_2 + 1)), (by first | rfl | (simp; done) | (simp [*]; done)), H', ⟨by have := HJ1.out; have := HK2.out; have := HJ27.out; omega⟩, ⟨by (with_reducible repeat (first | refine blk_drewN ?_ _ | refine blk_drew ?_ | refine blk_alloc ?_ _)); exact BK126.out⟩, ⟨by repeat (first | (with_reducible first | exact HB.out | apply below_alloc | apply pw_below_drewN | apply below_drew1 | refine below_set ?_ GE126.out | refine below_set ?_ GE131.out) | exact HB.out)⟩⟩
                          · replace c48 := Bool.eq_false_iff.mpr c48
                            subst c48
                            have H1 : (some false) = some r := by rw [if_neg (show ¬ (false = true) by decide)] at H; exact H
                            clear H
                            have H := H1
                            clear H1
                            obtain rfl := Option.some.inj H
                            have hnb51 := NB126_131.out
                            have hnc51 := NB131_126.out
                            have hcz52_0 : wc.cell? ⟨gb126, 0, none⟩ = some (.slice A0_0 l0_0.length c0_0) := (blk_cell BK126.out 0).trans rfl
                            have hcz52_1 : wc.cell? ⟨gb126, 1, none⟩ = some (.slice A0_1 l0_1.length c0_1) := (blk_cell BK126.out 1).trans rfl
                            have hcz52_2 : wc.cell? ⟨gb126, 2, none⟩ = some (.slice A0_2 l0_2.length c0_2) := (blk_cell BK126.out 2).trans rfl
                            have hcz52_3 : wc.cell? ⟨gb126, 3, none⟩ = some (.int .i64 a0_3) := (blk_cell BK126.out 3).trans rfl
                            have hcz52_4 : wc.cell? ⟨gb126, 4, none⟩ = some (.int .i64 a0_4) := (blk_cell BK126.out 4).trans rfl
                            have hcz52_5 : wc.cell? ⟨gb126, 5, none⟩ = some (.int .i64 a0_5) := (blk_cell BK126.out 5).trans rfl
                            have hcz52_6 : wc.cell? ⟨gb126, 6, none⟩ = some (.int .i64 a0_6) := (blk_cell BK126.out 6).trans rfl
                            have hcz52_7 : wc.cell? ⟨gb126, 7, none⟩ = some (.int .i64 a0_7) := (blk_cell BK126.out 7).trans rfl
                            have hcz52_8 : wc.cell? ⟨gb126, 8, none⟩ = some (.int .i64 a0_8) := (blk_cell BK126.out 8).trans rfl
                            have hcz52_9 : wc.cell? ⟨gb126, 9, none⟩ = some (.slice (some ad130) l0_9.length c0_9) := (blk_cell BK126.out 9).trans rfl
                            have hcz52_10 : wc.cell? ⟨gb126, 10, none⟩ = some (.slice A0_10 l0_10.length c0_10) := (blk_cell BK126.out 10).trans rfl
                            have hcz52_11 : wc.cell? ⟨gb126, 11, none⟩ = some (.slice A0_11 l0_11.length c0_11) := (blk_cell BK126.out 11).trans rfl
                            have hcz52_12 : wc.cell? ⟨gb126, 12, none⟩ = some (.slice A0_12 l0_12.length c0_12) := (blk_cell BK126.out 12).trans rfl
                            have hcz52_13 : wc.cell? ⟨gb126, 13, none⟩ = some (.int .i64 a0_13) := (blk_cell BK126.out 13).trans rfl
                            have hcz52_14 : wc.cell? ⟨gb126, 14, none⟩ = some (.int .i64 a0_14) := (blk_cell BK126.out 14).trans rfl
                            have hfz52_0 := blk_frozen BK126.out 0
                            have hfz52_1 := blk_frozen BK126.out 1
                            have hfz52_2 := blk_frozen BK126.out 2
                            have hfz52_3 := blk_frozen BK126.out 3
                            have hfz52_4 := blk_frozen BK126.out 4
                            have hfz52_5 := blk_frozen BK126.out 5
                            have hfz52_6 := blk_frozen BK126.out 6
                            have hfz52_7 := blk_frozen BK126.out 7
                            have hfz52_8 := blk_frozen BK126.out 8
                            have hfz52_9 := blk_frozen BK126.out 9
                            have hfz52_10 := blk_frozen BK126.out 10
                            have hfz52_11 := blk_frozen BK126.out 11
                            have hfz52_12 := blk_frozen BK126.out 12
                            have hfz52_13 := blk_frozen BK126.out 13
                            have hfz52_14 := blk_frozen BK126.out 14
                            have p132 : 0 ≤ (x3_2 : Int) := of_decide_eq_true (by first | (with_reducible assumption) | assumption)
                            have q132 : x3_2 < (l0_10.length : Int) := of_decide_eq_true (by first | (with_reducible assumption) | assumption)
                            obtain ⟨ad132, e132, hx132_0⟩ := Kd.at_int HR0_10.out x3_2 p132 q132
                            cases e132
                            replace hx132_0 := (HB.out.cell (World.block_lt_of_cell? w _ hx132_0)).trans hx132_0
                            replace p132 := eq_true p132
                            replace q132 := eq_true q132
                            go_wp2_with (first | (go_at_call 23; (with_reducible refine (dormouseref09_moment.calls (rd l0_10 x3_2) false _ A47.out).mono ?_); rintro e w' ⟨rfl, ⟨nd, rfl⟩⟩; (try first | exact ⟨rfl, _, World.drewN_drewN _ _ _⟩ | exact ⟨rfl, _, Eq.trans (World.drewN_drewN _ _ _) (congrArg (World.drewN _) (Nat.add_assoc _ _ _))⟩)))
                            repeat (go_quiet (first | (go_at_call 23; (with_reducible refine (dormouseref09_moment.calls (rd l0_10 x3_2) false _ A47.out).mono ?_); rintro e w' ⟨rfl, ⟨nd, rfl⟩⟩; (try first | exact ⟨rfl, _, World.drewN_drewN _ _ _⟩ | exact ⟨rfl, _, Eq.trans (World.drewN_drewN _ _ _) (congrArg (World.drewN _) (Nat.add_assoc _ _ _))⟩))); try go_wp2_with (first | (go_at_call 23; (with_reducible refine (dormouseref09_moment.calls (rd l0_10 x3_2) false _ A47.out).mono ?_); rintro e w' ⟨rfl, ⟨nd, rfl⟩⟩; (try first | exact ⟨rfl, _, World.drewN_drewN _ _ _⟩ | exact ⟨rfl, _, Eq.trans (World.drewN_drewN _ _ _) (congrArg (World.drewN _) (Nat.add_assoc _ _ _))⟩))))
                            go_ret
                            exact ⟨by first | rfl | (simp [errW_none, errW_some] <;> rfl) | (simp [*, errW_none, errW_some] <;> rfl), by repeat (first | (with_reducible first | exact HB.out | apply below_alloc | apply pw_below_drewN | apply below_drew1 | refine below_set ?_ GE126.out | refine below_set ?_ GE131.out) | exact HB.out)⟩
                        · rw [if_neg c46] at H
                          exact absurd H (by simp)
                      · rw [if_neg c45] at H
                        exact absurd H (by simp)
                    · replace c44 := Bool.eq_false_iff.mpr c44
                      subst c44
                      have H1 : ((dormouseref09_Task.f kj27 l0_0 l0_1 l0_2 a0_3 a0_4 a0_5 a0_6 a0_7 a0_8 ((rd_T36 l0_9 x3_2).f0) ((rd_T36 l0_9 x3_2).f1) ((rd_T36 l0_9 x3_2).f2) ((rd_T36 l0_9 x3_2).f3)).bind fun t134 => (if t134 = true then (if 0 ≤ x3_2 then (if x3_2 < (l0_10.length : Int) then ((dormouseref09_moment.f (rd l0_10 x3_2)).bind fun t136 => (if t136 = true then (dormouseref09_Good.l0 kj27 (wrap64 (x3_2 + 1)) l0_0 l0_1 l0_2 a0_3 a0_4 a0_5 a0_6 a0_7 a0_8 l0_9 l0_10 l0_11 l0_12 a0_13 a0_14) else (some false))) else (none)) else (none)) else (some false))) = some r := by rw [if_neg (show ¬ (false = true) by decide)] at H; exact H
                      clear H
                      have H := H1
                      clear H1
                      replace H := Option.bind_eq_some_iff.mp H
                      obtain ⟨t134, A530, H⟩ := H
                      replace H : (if t134 = true then (if 0 ≤ x3_2 then (if x3_2 < (l0_10.length : Int) then ((dormouseref09_moment.f (rd l0_10 x3_2)).bind fun t136 => (if t136 = true then (dormouseref09_Good.l0 kj27 (wrap64 (x3_2 + 1)) l0_0 l0_1 l0_2 a0_3 a0_4 a0_5 a0_6 a0_7 a0_8 l0_9 l0_10 l0_11 l0_12 a0_13 a0_14) else (some false))) else (none)) else (none)) else (some false)) = some r := H
                      have A53 := Aside0.mk A530
                      clear A530
                      by_cases c54 : t134 = true
                      · subst c54
                        have H1 : (if 0 ≤ x3_2 then (if x3_2 < (l0_10.length : Int) then ((dormouseref09_moment.f (rd l0_10 x3_2)).bind fun t136 => (if t136 = true then (dormouseref09_Good.l0 kj27 (wrap64 (x3_2 + 1)) l0_0 l0_1 l0_2 a0_3 a0_4 a0_5 a0_6 a0_7 a0_8 l0_9 l0_10 l0_11 l0_12 a0_13 a0_14) else (some false))) else (none)) else (none)) = some r := by rw [if_pos rfl] at H; exact H
                        clear H
                        have H := H1
                        clear H1
                        by_cases c55 : 0 ≤ x3_2
                        · rw [if_pos c55] at H
                          have c55b0 : decide (0 ≤ x3_2) = true := decide_eq_true c55
                          clear c55
                          by_cases c56 : x3_2 < (l0_10.length : Int)
                          · rw [if_pos c56] at H
                            have c56b0 : decide (x3_2 < (l0_10.length : Int)) = true := decide_eq_true c56
                            clear c56
                            replace H := Option.bind_eq_some_iff.mp H
                            obtain ⟨t136, A570, H⟩ := H
                            replace H : (if t136 = true then (dormouseref09_Good.l0 kj27 (wrap64 (x3_2 + 1)) l0_0 l0_1 l0_2 a0_3 a0_4 a0_5 a0_6 a0_7 a0_8 l0_9 l0_10 l0_11 l0_12 a0_13 a0_14) else (some false)) = some r := H
                            have A57 := Aside0.mk A570
                            clear A570
                            by_cases c58 : t136 = true
                            · subst c58
                              have H1 : (dormouseref09_Good.l0 kj27 (wrap64 (x3_2 + 1)) l0_0 l0_1 l0_2 a0_3 a0_4 a0_5 a0_6 a0_7 a0_8 l0_9 l0_10 l0_11 l0_12 a0_13 a0_14) = some r := by rw [if_pos rfl] at H; exact H
                              clear H
                              have H := H1
                              clear H1
                              have H' := Aside0.mk H
                              clear H
                              have hnb59 := NB126_131.out
                              have hnc59 := NB131_126.out
                              have hcz60_0 : wc.cell? ⟨gb126, 0, none⟩ = some (.slice A0_0 l0_0.length c0_0) := (blk_cell BK126.out 0).trans rfl
                              have hcz60_1 : wc.cell? ⟨gb126, 1, none⟩ = some (.slice A0_1 l0_1.length c0_1) := (blk_cell BK126.out 1).trans rfl
                              have hcz60_2 : wc.cell? ⟨gb126, 2, none⟩ = some (.slice A0_2 l0_2.length c0_2) := (blk_cell BK126.out 2).trans rfl
                              have hcz60_3 : wc.cell? ⟨gb126, 3, none⟩ = some (.int .i64 a0_3) := (blk_cell BK126.out 3).trans rfl
                              have hcz60_4 : wc.cell? ⟨gb126, 4, none⟩ = some (.int .i64 a0_4) := (blk_cell BK126.out 4).trans rfl
                              have hcz60_5 : wc.cell? ⟨gb126, 5, none⟩ = some (.int .i64 a0_5) := (blk_cell BK126.out 5).trans rfl
                              have hcz60_6 : wc.cell? ⟨gb126, 6, none⟩ = some (.int .i64 a0_6) := (blk_cell BK126.out 6).trans rfl
                              have hcz60_7 : wc.cell? ⟨gb126, 7, none⟩ = some (.int .i64 a0_7) := (blk_cell BK126.out 7).trans rfl
                              have hcz60_8 : wc.cell? ⟨gb126, 8, none⟩ = some (.int .i64 a0_8) := (blk_cell BK126.out 8).trans rfl
                              have hcz60_9 : wc.cell? ⟨gb126, 9, none⟩ = some (.slice (some ad130) l0_9.length c0_9) := (blk_cell BK126.out 9).trans rfl
                              have hcz60_10 : wc.cell? ⟨gb126, 10, none⟩ = some (.slice A0_10 l0_10.length c0_10) := (blk_cell BK126.out 10).trans rfl
                              have hcz60_11 : wc.cell? ⟨gb126, 11, none⟩ = some (.slice A0_11 l0_11.length c0_11) := (blk_cell BK126.out 11).trans rfl
                              have hcz60_12 : wc.cell? ⟨gb126, 12, none⟩ = some (.slice A0_12 l0_12.length c0_12) := (blk_cell BK126.out 12).trans rfl
                              have hcz60_13 : wc.cell? ⟨gb126, 13, none⟩ = some (.int .i64 a0_13) := (blk_cell BK126.out 13).trans rfl
                              have hcz60_14 : wc.cell? ⟨gb126, 14, none⟩ = some (.int .i64 a0_14) := (blk_cell BK126.out 14).trans rfl
                              have hfz60_0 := blk_frozen BK126.out 0
                              have hfz60_1 := blk_frozen BK126.out 1
                              have hfz60_2 := blk_frozen BK126.out 2
                              have hfz60_3 := blk_frozen BK126.out 3
                              have hfz60_4 := blk_frozen BK126.out 4
                              have hfz60_5 := blk_frozen BK126.out 5
                              have hfz60_6 := blk_frozen BK126.out 6
                              have hfz60_7 := blk_frozen BK126.out 7
                              have hfz60_8 := blk_frozen BK126.out 8
                              have hfz60_9 := blk_frozen BK126.out 9
                              have hfz60_10 := blk_frozen BK126.out 10
                              have hfz60_11 := blk_frozen BK126.out 11
                              have hfz60_12 := blk_frozen BK126.out 12
                              have hfz60_13 := blk_frozen BK126.out 13
                              have hfz60_14 := blk_frozen BK126.out 14
                              have hcz61_0 : wc.cell? ⟨gb131, 0, none⟩ = some (.int .i64 ((rd_T36 l0_9 x3_2).f0)) := (blk_cell BK131.out 0).trans rfl
                              have hcz61_1 : wc.cell? ⟨gb131, 1, none⟩ = some (.int .i64 ((rd_T36 l0_9 x3_2).f1)) := (blk_cell BK131.out 1).trans rfl
                              have hcz61_2 : wc.cell? ⟨gb131, 2, none⟩ = some (.slice A130_2 ((rd_T36 l0_9 x3_2).f2).length c130_2) := (blk_cell BK131.out 2).trans rfl
                              have hcz61_3 : wc.cell? ⟨gb131, 3, none⟩ = some (.slice A130_3 ((rd_T36 l0_9 x3_2).f3).length c130_3) := (blk_cell BK131.out 3).trans rfl
                              have hfz61_0 := blk_frozen BK131.out 0
                              have hfz61_1 := blk_frozen BK131.out 1
                              have hfz61_2 := blk_frozen BK131.out 2
                              have hfz61_3 := blk_frozen BK131.out 3
                              go_wp2_with (first | (go_at_call 24; (with_reducible refine (dormouseref09_Task.calls kj27 _ _ l0_0 _ _ l0_1 _ _ l0_2 a0_3 a0_4 a0_5 a0_6 a0_7 a0_8 ((rd_T36 l0_9 x3_2).f0) ((rd_T36 l0_9 x3_2).f1) _ _ ((rd_T36 l0_9 x3_2).f2) _ _ ((rd_T36 l0_9 x3_2).f3) true _ ?side1 ?side2 ?side3 ?side4 ?side5 ?side6 ?side7 ?side8 ?side9 ?side10 A53.out).mono ?_); (case side1 => repeat (first | exact (Kd.C_below HR0_0.out HB.out) | (with_reducible refine Kd.C_alloc ?_ _) | (with_reducible refine Kd.C_drewN ?_ _) | (with_reducible refine Kd.C_drew ?_))); (case side2 => exact HC0_0.out); (case side3 => repeat (first | exact (Kd.C_below HR0_1.out HB.out) | (with_reducible refine Kd.C_alloc ?_ _) | (with_reducible refine Kd.C_drewN ?_ _) | (with_reducible refine Kd.C_drew ?_))); (case side4 => exact HC0_1.out); (case side5 => repeat (first | exact (Kd.C_below HR0_2.out HB.out) | (with_reducible refine Kd.C_alloc ?_ _) | (with_reducible refine Kd.C_drewN ?_ _) | (with_reducible refine Kd.C_drew ?_))); (case side6 => exact HC0_2.out); (case side7 => repeat (first | exact (Kd.C_below HR130_2.out HB.out) | (with_reducible refine Kd.C_alloc ?_ _) | (with_reducible refine Kd.C_drewN ?_ _) | (with_reducible refine Kd.C_drew ?_))); (case side8 => exact HC130_2.out); (case side9 => repeat (first | exact (Kd.C_below HR130_3.out HB.out) | (with_reducible refine Kd.C_alloc ?_ _) | (with_reducible refine Kd.C_drewN ?_ _) | (with_reducible refine Kd.C_drew ?_))); (case side10 => exact HC130_3.out); rintro e w62 ⟨rfl, hb⟩; have n0_ := Aside0.mk (blk_below (g := gb126) (o := .cells #[.slice A0_0 l0_0.length c0_0, .slice A0_1 l0_1.length c0_1, .slice A0_2 l0_2.length c0_2, .int .i64 a0_3, .int .i64 a0_4, .int .i64 a0_5, .int .i64 a0_6, .int .i64 a0_7, .int .i64 a0_8, .slice (some ad130) l0_9.length c0_9, .slice A0_10 l0_10.length c0_10, .slice A0_11 l0_11.length c0_11, .slice A0_12 l0_12.length c0_12, .int .i64 a0_13, .int .i64 a0_14] 32 (0, 0)) (by (with_reducible repeat (first | refine blk_drewN ?_ _ | refine blk_drew ?_ | refine blk_alloc ?_ _)); exact BK126.out) hb); have n1_ := Aside0.mk (blk_below (g := gb131) (o := .cells #[.int .i64 ((rd_T36 l0_9 x3_2).f0), .int .i64 ((rd_T36 l0_9 x3_2).f1), .slice A130_2 ((rd_T36 l0_9 x3_2).f2).length c130_2, .slice A130_3 ((rd_T36 l0_9 x3_2).f3).length c130_3] 36 (0, 0)) (by (with_reducible repeat (first | refine blk_drewN ?_ _ | refine blk_drew ?_ | refine blk_alloc ?_ _)); exact BK131.out) hb); have n2_ := Aside0.mk (below_step (by repeat (first | (with_reducible first | exact HB.out | apply below_alloc | apply pw_below_drewN | apply below_drew1 | refine below_set ?_ GE126.out | refine below_set ?_ GE131.out) | exact HB.out)) hb); clear BK126; clear BK131; clear HB; have BK126 := n0_; have BK131 := n1_; have HB := n2_; clear n0_ n1_ n2_; (try clear hb); (try clear hb2); (try clear hk); (try clear hi); have hcz63_0 : w62.cell? ⟨gb126, 0, none⟩ = some (.slice A0_0 l0_0.length c0_0) := (blk_cell BK126.out 0).trans rfl; have hcz63_1 : w62.cell? ⟨gb126, 1, none⟩ = some (.slice A0_1 l0_1.length c0_1) := (blk_cell BK126.out 1).trans rfl; have hcz63_2 : w62.cell? ⟨gb126, 2, none⟩ = some (.slice A0_2 l0_2.length c0_2) := (blk_cell BK126.out 2).trans rfl; have hcz63_3 : w62.cell? ⟨gb126, 3, none⟩ = some (.int .i64 a0_3) := (blk_cell BK126.out 3).trans rfl; have hcz63_4 : w62.cell? ⟨gb126, 4, none⟩ = some (.int .i64 a0_4) := (blk_cell BK126.out 4).trans rfl; have hcz63_5 : w62.cell? ⟨gb126, 5, none⟩ = some (.int .i64 a0_5) := (blk_cell BK126.out 5).trans rfl; have hcz63_6 : w62.cell? ⟨gb126, 6, none⟩ = some (.int .i64 a0_6) := (blk_cell BK126.out 6).trans rfl; have hcz63_7 : w62.cell? ⟨gb126, 7, none⟩ = some (.int .i64 a0_7) := (blk_cell BK126.out 7).trans rfl; have hcz63_8 : w62.cell? ⟨gb126, 8, none⟩ = some (.int .i64 a0_8) := (blk_cell BK126.out 8).trans rfl; have hcz63_9 : w62.cell? ⟨gb126, 9, none⟩ = some (.slice (some ad130) l0_9.length c0_9) := (blk_cell BK126.out 9).trans rfl; have hcz63_10 : w62.cell? ⟨gb126, 10, none⟩ = some (.slice A0_10 l0_10.length c0_10) := (blk_cell BK126.out 10).trans rfl; have hcz63_11 : w62.cell? ⟨gb126, 11, none⟩ = some (.slice A0_11 l0_11.length c0_11) := (blk_cell BK126.out 11).trans rfl; have hcz63_12 : w62.cell? ⟨gb126, 12, none⟩ = some (.slice A0_12 l0_12.length c0_12) := (blk_cell BK126.out 12).trans rfl; have hcz63_13 : w62.cell? ⟨gb126, 13, none⟩ = some (.int .i64 a0_13) := (blk_cell BK126.out 13).trans rfl; have hcz63_14 : w62.cell? ⟨gb126, 14, none⟩ = some (.int .i64 a0_14) := (blk_cell BK126.out 14).trans rfl; have hfz63_0 := blk_frozen BK126.out 0; have hfz63_1 := blk_frozen BK126.out 1; have hfz63_2 := blk_frozen BK126.out 2; have hfz63_3 := blk_frozen BK126.out 3; have hfz63_4 := blk_frozen BK126.out 4; have hfz63_5 := blk_frozen BK126.out 5; have hfz63_6 := blk_frozen BK126.out 6; have hfz63_7 := blk_frozen BK126.out 7; have hfz63_8 := blk_frozen BK126.out 8; have hfz63_9 := blk_frozen BK126.out 9; have hfz63_10 := blk_frozen BK126.out 10; have hfz63_11 := blk_frozen BK126.out 11; have hfz63_12 := blk_frozen BK126.out 12; have hfz63_13 := blk_frozen BK126.out 13; have hfz63_14 := blk_frozen BK126.out 14; have p135 : 0 ≤ (x3_2 : Int) := of_decide_eq_true (by first | (with_reducible assumption) | assumption); have q135 : x3_2 < (l0_10.length : Int) := of_decide_eq_true (by first | (with_reducible assumption) | assumption); obtain ⟨ad135, e135, hx135_0⟩ := Kd.at_int HR0_10.out x3_2 p135 q135; cases e135; replace hx135_0 := (HB.out.cell (World.block_lt_of_cell? w _ hx135_0)).trans hx135_0; replace p135 := eq_true p135; replace q135 := eq_true q135) | (go_at_call 23; (with_reducible refine (dormouseref09_moment.calls (rd l0_10 x3_2) true _ A57.out).mono ?_); rintro e w' ⟨rfl, ⟨nd, rfl⟩⟩; (try first | exact ⟨rfl, _, World.drewN_drewN _ _ _⟩ | exact ⟨rfl, _, Eq.trans (World.drewN_drewN _ _ _) (congrArg (World.drewN _) (Nat.add_assoc _ _ _))⟩)))
                              repeat (go_quiet (first | (go_at_call 24; (with_reducible refine (dormouseref09_Task.calls kj27 _ _ l0_0 _ _ l0_1 _ _ l0_2 a0_3 a0_4 a0_5 a0_6 a0_7 a0_8 ((rd_T36 l0_9 x3_2).f0) ((rd_T36 l0_9 x3_2).f1) _ _ ((rd_T36 l0_9 x3_2).f2) _ _ ((rd_T36 l0_9 x3_2).f3) true _ ?side1 ?side2 ?side3 ?side4 ?side5 ?side6 ?side7 ?side8 ?side9 ?side10 A53.out).mono ?_); (case side1 => repeat (first | exact (Kd.C_below HR0_0.out HB.out) | (with_reducible refine Kd.C_alloc ?_ _) | (with_reducible refine Kd.C_drewN ?_ _) | (with_reducible refine Kd.C_drew ?_))); (case side2 => exact HC0_0.out); (case side3 => repeat (first | exact (Kd.C_below HR0_1.out HB.out) | (with_reducible refine Kd.C_alloc ?_ _) | (with_reducible refine Kd.C_drewN ?_ _) | (with_reducible refine Kd.C_drew ?_))); (case side4 => exact HC0_1.out); (case side5 => repeat (first | exact (Kd.C_below HR0_2.out HB.out) | (with_reducible refine Kd.C_alloc ?_ _) | (with_reducible refine Kd.C_drewN ?_ _) | (with_reducible refine Kd.C_drew ?_))); (case side6 => exact HC0_2.out); (case side7 => repeat (first | exact (Kd.C_below HR130_2.out HB.out) | (with_reducible refine Kd.C_alloc ?_ _) | (with_reducible refine Kd.C_drewN ?_ _) | (with_reducible refine Kd.C_drew ?_))); (case side8 => exact HC130_2.out); (case side9 => repeat (first | exact (Kd.C_below HR130_3.out HB.out) | (with_reducible refine Kd.C_alloc ?_ _) | (with_reducible refine Kd.C_drewN ?_ _) | (with_reducible refine Kd.C_drew ?_))); (case side10 => exact HC130_3.out); rintro e w62 ⟨rfl, hb⟩; have n0_ := Aside0.mk (blk_below (g := gb126) (o := .cells #[.slice A0_0 l0_0.length c0_0, .slice A0_1 l0_1.length c0_1, .slice A0_2 l0_2.length c0_2, .int .i64 a0_3, .int .i64 a0_4, .int .i64 a0_5, .int .i64 a0_6, .int .i64 a0_7, .int .i64 a0_8, .slice (some ad130) l0_9.length c0_9, .slice A0_10 l0_10.length c0_10, .slice A0_11 l0_11.length c0_11, .slice A0_12 l0_12.length c0_12, .int .i64 a0_13, .int .i64 a0_14] 32 (0, 0)) (by (with_reducible repeat (first | refine blk_drewN ?_ _ | refine blk_drew ?_ | refine blk_alloc ?_ _)); exact BK126.out) hb); have n1_ := Aside0.mk (blk_below (g := gb131) (o := .cells #[.int .i64 ((rd_T36 l0_9 x3_2).f0), .int .i64 ((rd_T36 l0_9 x3_2).f1), .slice A130_2 ((rd_T36 l0_9 x3_2).f2).length c130_2, .slice A130_3 ((rd_T36 l0_9 x3_2).f3).length c130_3] 36 (0, 0)) (by (with_reducible repeat (first | refine blk_drewN ?_ _ | refine blk_drew ?_ | refine blk_alloc ?_ _)); exact BK131.out) hb); have n2_ := Aside0.mk (below_step (by repeat (first | (with_reducible first | exact HB.out | apply below_alloc | apply pw_below_drewN | apply below_drew1 | refine below_set ?_ GE126.out | refine below_set ?_ GE131.out) | exact HB.out)) hb); clear BK126; clear BK131; clear HB; have BK126 := n0_; have BK131 := n1_; have HB := n2_; clear n0_ n1_ n2_; (try clear hb); (try clear hb2); (try clear hk); (try clear hi); have hcz63_0 : w62.cell? ⟨gb126, 0, none⟩ = some (.slice A0_0 l0_0.length c0_0) := (blk_cell BK126.out 0).trans rfl; have hcz63_1 : w62.cell? ⟨gb126, 1, none⟩ = some (.slice A0_1 l0_1.length c0_1) := (blk_cell BK126.out 1).trans rfl; have hcz63_2 : w62.cell? ⟨gb126, 2, none⟩ = some (.slice A0_2 l0_2.length c0_2) := (blk_cell BK126.out 2).trans rfl; have hcz63_3 : w62.cell? ⟨gb126, 3, none⟩ = some (.int .i64 a0_3) := (blk_cell BK126.out 3).trans rfl; have hcz63_4 : w62.cell? ⟨gb126, 4, none⟩ = some (.int .i64 a0_4) := (blk_cell BK126.out 4).trans rfl; have hcz63_5 : w62.cell? ⟨gb126, 5, none⟩ = some (.int .i64 a0_5) := (blk_cell BK126.out 5).trans rfl; have hcz63_6 : w62.cell? ⟨gb126, 6, none⟩ = some (.int .i64 a0_6) := (blk_cell BK126.out 6).trans rfl; have hcz63_7 : w62.cell? ⟨gb126, 7, none⟩ = some (.int .i64 a0_7) := (blk_cell BK126.out 7).trans rfl; have hcz63_8 : w62.cell? ⟨gb126, 8, none⟩ = some (.int .i64 a0_8) := (blk_cell BK126.out 8).trans rfl; have hcz63_9 : w62.cell? ⟨gb126, 9, none⟩ = some (.slice (some ad130) l0_9.length c0_9) := (blk_cell BK126.out 9).trans rfl; have hcz63_10 : w62.cell? ⟨gb126, 10, none⟩ = some (.slice A0_10 l0_10.length c0_10) := (blk_cell BK126.out 10).trans rfl; have hcz63_11 : w62.cell? ⟨gb126, 11, none⟩ = some (.slice A0_11 l0_11.length c0_11) := (blk_cell BK126.out 11).trans rfl; have hcz63_12 : w62.cell? ⟨gb126, 12, none⟩ = some (.slice A0_12 l0_12.length c0_12) := (blk_cell BK126.out 12).trans rfl; have hcz63_13 : w62.cell? ⟨gb126, 13, none⟩ = some (.int .i64 a0_13) := (blk_cell BK126.out 13).trans rfl; have hcz63_14 : w62.cell? ⟨gb126, 14, none⟩ = some (.int .i64 a0_14) := (blk_cell BK126.out 14).trans rfl; have hfz63_0 := blk_frozen BK126.out 0; have hfz63_1 := blk_frozen BK126.out 1; have hfz63_2 := blk_frozen BK126.out 2; have hfz63_3 := blk_frozen BK126.out 3; have hfz63_4 := blk_frozen BK126.out 4; have hfz63_5 := blk_frozen BK126.out 5; have hfz63_6 := blk_frozen BK126.out 6; have hfz63_7 := blk_frozen BK126.out 7; have hfz63_8 := blk_frozen BK126.out 8; have hfz63_9 := blk_frozen BK126.out 9; have hfz63_10 := blk_frozen BK126.out 10; have hfz63_11 := blk_frozen BK126.out 11; have hfz63_12 := blk_frozen BK126.out 12; have hfz63_13 := blk_frozen BK126.out 13; have hfz63_14 := blk_frozen BK126.out 14; have p135 : 0 ≤ (x3_2 : Int) := of_decide_eq_true (by first | (with_reducible assumption) | assumption); have q135 : x3_2 < (l0_10.length : Int) := of_decide_eq_true (by first | (with_reducible assumption) | assumption); obtain ⟨ad135, e135, hx135_0⟩ := Kd.at_int HR0_10.out x3_2 p135 q135; cases e135; replace hx135_0 := (HB.out.cell (World.block_lt_of_cell? w _ hx135_0)).trans hx135_0; replace p135 := eq_true p135; replace q135 := eq_true q135) | (go_at_call 23; (with_reducible refine (dormouseref09_moment.calls (rd l0_10 x3_2) true _ A57.out).mono ?_); rintro e w' ⟨rfl, ⟨nd, rfl⟩⟩; (try first | exact ⟨rfl, _, World.drewN_drewN _ _ _⟩ | exact ⟨rfl, _, Eq.trans (World.drewN_drewN _ _ _) (congrArg (World.drewN _) (Nat.add_assoc _ _ _))⟩))); try go_wp2_with (first | (go_at_call 24; (with_reducible refine (dormouseref09_Task.calls kj27 _ _ l0_0 _ _ l0_1 _ _ l0_2 a0_3 a0_4 a0_5 a0_6 a0_7 a0_8 ((rd_T36 l0_9 x3_2).f0) ((rd_T36 l0_9 x3_2).f1) _ _ ((rd_T36 l0_9 x3_2).f2) _ _ ((rd_T36 l0_9 x3_2).f3) true _ ?side1 ?side2 ?side3 ?side4 ?side5 ?side6 ?side7 ?side8 ?side9 ?side10 A53.out).mono ?_); (case side1 => repeat (first | exact (Kd.C_below HR0_0.out HB.out) | (with_reducible refine Kd.C_alloc ?_ _) | (with_reducible refine Kd.C_drewN ?_ _) | (with_reducible refine Kd.C_drew ?_))); (case side2 => exact HC0_0.out); (case side3 => repeat (first | exact (Kd.C_below HR0_1.out HB.out) | (with_reducible refine Kd.C_alloc ?_ _) | (with_reducible refine Kd.C_drewN ?_ _) | (with_reducible refine Kd.C_drew ?_))); (case side4 => exact HC0_1.out); (case side5 => repeat (first | exact (Kd.C_below HR0_2.out HB.out) | (with_reducible refine Kd.C_alloc ?_ _) | (with_reducible refine Kd.C_drewN ?_ _) | (with_reducible refine Kd.C_drew ?_))); (case side6 => exact HC0_2.out); (case side7 => repeat (first | exact (Kd.C_below HR130_2.out HB.out) | (with_reducible refine Kd.C_alloc ?_ _) | (with_reducible refine Kd.C_drewN ?_ _) | (with_reducible refine Kd.C_drew ?_))); (case side8 => exact HC130_2.out); (case side9 => repeat (first | exact (Kd.C_below HR130_3.out HB.out) | (with_reducible refine Kd.C_alloc ?_ _) | (with_reducible refine Kd.C_drewN ?_ _) | (with_reducible refine Kd.C_drew ?_))); (case side10 => exact HC130_3.out); rintro e w62 ⟨rfl, hb⟩; have n0_ := Aside0.mk (blk_below (g := gb126) (o := .cells #[.slice A0_0 l0_0.length c0_0, .slice A0_1 l0_1.length c0_1, .slice A0_2 l0_2.length c0_2, .int .i64 a0_3, .int .i64 a0_4, .int .i64 a0_5, .int .i64 a0_6, .int .i64 a0_7, .int .i64 a0_8, .slice (some ad130) l0_9.length c0_9, .slice A0_10 l0_10.length c0_10, .slice A0_11 l0_11.length c0_11, .slice A0_12 l0_12.length c0_12, .int .i64 a0_13, .int .i64 a0_14] 32 (0, 0)) (by (with_reducible repeat (first | refine blk_drewN ?_ _ | refine blk_drew ?_ | refine blk_alloc ?_ _)); exact BK126.out) hb); have n1_ := Aside0.mk (blk_below (g := gb131) (o := .cells #[.int .i64 ((rd_T36 l0_9 x3_2).f0), .int .i64 ((rd_T36 l0_9 x3_2).f1), .slice A130_2 ((rd_T36 l0_9 x3_2).f2).length c130_2, .slice A130_3 ((rd_T36 l0_9 x3_2).f3).length c130_3] 36 (0, 0)) (by (with_reducible repeat (first | refine blk_drewN ?_ _ | refine blk_drew ?_ | refine blk_alloc ?_ _)); exact BK131.out) hb); have n2_ := Aside0.mk (below_step (by repeat (first | (with_reducible first | exact HB.out | apply below_alloc | apply pw_below_drewN | apply below_drew1 | refine below_set ?_ GE126.out | refine below_set ?_ GE131.out) | exact HB.out)) hb); clear BK126; clear BK131; clear HB; have BK126 := n0_; have BK131 := n1_; have HB := n2_; clear n0_ n1_ n2_; (try clear hb); (try clear hb2); (try clear hk); (try clear hi); have hcz63_0 : w62.cell? ⟨gb126, 0, none⟩ = some (.slice A0_0 l0_0.length c0_0) := (blk_cell BK126.out 0).trans rfl; have hcz63_1 : w62.cell? ⟨gb126, 1, none⟩ = some (.slice A0_1 l0_1.length c0_1) := (blk_cell BK126.out 1).trans rfl; have hcz63_2 : w62.cell? ⟨gb126, 2, none⟩ = some (.slice A0_2 l0_2.length c0_2) := (blk_cell BK126.out 2).trans rfl; have hcz63_3 : w62.cell? ⟨gb126, 3, none⟩ = some (.int .i64 a0_3) := (blk_cell BK126.out 3).trans rfl; have hcz63_4 : w62.cell? ⟨gb126, 4, none⟩ = some (.int .i64 a0_4) := (blk_cell BK126.out 4).trans rfl; have hcz63_5 : w62.cell? ⟨gb126, 5, none⟩ = some (.int .i64 a0_5) := (blk_cell BK126.out 5).trans rfl; have hcz63_6 : w62.cell? ⟨gb126, 6, none⟩ = some (.int .i64 a0_6) := (blk_cell BK126.out 6).trans rfl; have hcz63_7 : w62.cell? ⟨gb126, 7, none⟩ = some (.int .i64 a0_7) := (blk_cell BK126.out 7).trans rfl; have hcz63_8 : w62.cell? ⟨gb126, 8, none⟩ = some (.int .i64 a0_8) := (blk_cell BK126.out 8).trans rfl; have hcz63_9 : w62.cell? ⟨gb126, 9, none⟩ = some (.slice (some ad130) l0_9.length c0_9) := (blk_cell BK126.out 9).trans rfl; have hcz63_10 : w62.cell? ⟨gb126, 10, none⟩ = some (.slice A0_10 l0_10.length c0_10) := (blk_cell BK126.out 10).trans rfl; have hcz63_11 : w62.cell? ⟨gb126, 11, none⟩ = some (.slice A0_11 l0_11.length c0_11) := (blk_cell BK126.out 11).trans rfl; have hcz63_12 : w62.cell? ⟨gb126, 12, none⟩ = some (.slice A0_12 l0_12.length c0_12) := (blk_cell BK126.out 12).trans rfl; have hcz63_13 : w62.cell? ⟨gb126, 13, none⟩ = some (.int .i64 a0_13) := (blk_cell BK126.out 13).trans rfl; have hcz63_14 : w62.cell? ⟨gb126, 14, none⟩ = some (.int .i64 a0_14) := (blk_cell BK126.out 14).trans rfl; have hfz63_0 := blk_frozen BK126.out 0; have hfz63_1 := blk_frozen BK126.out 1; have hfz63_2 := blk_frozen BK126.out 2; have hfz63_3 := blk_frozen BK126.out 3; have hfz63_4 := blk_frozen BK126.out 4; have hfz63_5 := blk_frozen BK126.out 5; have hfz63_6 := blk_frozen BK126.out 6; have hfz63_7 := blk_frozen BK126.out 7; have hfz63_8 := blk_frozen BK126.out 8; have hfz63_9 := blk_frozen BK126.out 9; have hfz63_10 := blk_frozen BK126.out 10; have hfz63_11 := blk_frozen BK126.out 11; have hfz63_12 := blk_frozen BK126.out 12; have hfz63_13 := blk_frozen BK126.out 13; have hfz63_14 := blk_frozen BK126.out 14; have p135 : 0 ≤ (x3_2 : Int) := of_decide_eq_true (by first | (with_reducible assumption) | assumption); have q135 : x3_2 < (l0_10.length : Int) := of_decide_eq_true (by first | (with_reducible assumption) | assumption); obtain ⟨ad135, e135, hx135_0⟩ := Kd.at_int HR0_10.out x3_2 p135 q135; cases e135; replace hx135_0 := (HB.out.cell (World.block_lt_of_cell? w _ hx135_0)).trans hx135_0; replace p135 := eq_true p135; replace q135 := eq_true q135) | (go_at_call 23; (with_reducible refine (dormouseref09_moment.calls (rd l0_10 x3_2) true _ A57.out).mono ?_); rintro e w' ⟨rfl, ⟨nd, rfl⟩⟩; (try first | exact ⟨rfl, _, World.drewN_drewN _ _ _⟩ | exact ⟨rfl, _, Eq.trans (World.drewN_drewN _ _ _) (congrArg (World.drewN _) (Nat.add_assoc _ _ _))⟩))))
                              go_roundg kj27
                              case measure => have := HJ1.out; have := HK2.out; have := HJ27.out; omega
                              case rel => exact ⟨(wrap64 (x3_2 + 1)), (by first | rfl | (simp; done) | (simp [*]; done)), H', ⟨by have := HJ1.out; have := HK2.out; have := HJ27.out; omega⟩, ⟨by (with_reducible repeat (first | refine blk_drewN ?_ _ | refine blk_drew ?_ | refine blk_alloc ?_ _)); exact BK126.out⟩, ⟨by repeat (first | (with_reducible first | exact HB.out | apply below_alloc | apply pw_below_drewN | apply below_drew1 | refine below_set ?_ GE126.out | refine below_set ?_ GE131.out) | exact HB.out)⟩⟩
                            · replace c58 := Bool.eq_false_iff.mpr c58
                              subst c58
                              have H1 : (some false) = some r := by rw [if_neg (show ¬ (false = true) by decide)] at H; exact H
                              clear H
                              have H := H1
                              clear H1
                              obtain rfl := Option.some.inj H
                              have hnb64 := NB126_131.out
                              have hnc64 := NB131_126.out
                              have hcz65_0 : wc.cell? ⟨gb126, 0, none⟩ = some (.slice A0_0 l0_0.length c0_0) := (blk_cell BK126.out 0).trans rfl
                              have hcz65_1 : wc.cell? ⟨gb126, 1, none⟩ = some (.slice A0_1 l0_1.length c0_1) := (blk_cell BK126.out 1).trans rfl
                              have hcz65_2 : wc.cell? ⟨gb126, 2, none⟩ = some (.slice A0_2 l0_2.length c0_2) := (blk_cell BK126.out 2).trans rfl
                              have hcz65_3 : wc.cell? ⟨gb126, 3, none⟩ = some (.int .i64 a0_3) := (blk_cell BK126.out 3).trans rfl
                              have hcz65_4 : wc.cell? ⟨gb126, 4, none⟩ = some (.int .i64 a0_4) := (blk_cell BK126.out 4).trans rfl
                              have hcz65_5 : wc.cell? ⟨gb126, 5, none⟩ = some (.int .i64 a0_5) := (blk_cell BK126.out 5).trans rfl
                              have hcz65_6 : wc.cell? ⟨gb126, 6, none⟩ = some (.int .i64 a0_6) := (blk_cell BK126.out 6).trans rfl
                              have hcz65_7 : wc.cell? ⟨gb126, 7, none⟩ = some (.int .i64 a0_7) := (blk_cell BK126.out 7).trans rfl
                              have hcz65_8 : wc.cell? ⟨gb126, 8, none⟩ = some (.int .i64 a0_8) := (blk_cell BK126.out 8).trans rfl
                              have hcz65_9 : wc.cell? ⟨gb126, 9, none⟩ = some (.slice (some ad130) l0_9.length c0_9) := (blk_cell BK126.out 9).trans rfl
                              have hcz65_10 : wc.cell? ⟨gb126, 10, none⟩ = some (.slice A0_10 l0_10.length c0_10) := (blk_cell BK126.out 10).trans rfl
                              have hcz65_11 : wc.cell? ⟨gb126, 11, none⟩ = some (.slice A0_11 l0_11.length c0_11) := (blk_cell BK126.out 11).trans rfl
                              have hcz65_12 : wc.cell? ⟨gb126, 12, none⟩ = some (.slice A0_12 l0_12.length c0_12) := (blk_cell BK126.out 12).trans rfl
                              have hcz65_13 : wc.cell? ⟨gb126, 13, none⟩ = some (.int .i64 a0_13) := (blk_cell BK126.out 13).trans rfl
                              have hcz65_14 : wc.cell? ⟨gb126, 14, none⟩ = some (.int .i64 a0_14) := (blk_cell BK126.out 14).trans rfl
                              have hfz65_0 := blk_frozen BK126.out 0
                              have hfz65_1 := blk_frozen BK126.out 1
                              have hfz65_2 := blk_frozen BK126.out 2
                              have hfz65_3 := blk_frozen BK126.out 3
                              have hfz65_4 := blk_frozen BK126.out 4
                              have hfz65_5 := blk_frozen BK126.out 5
                              have hfz65_6 := blk_frozen BK126.out 6
                              have hfz65_7 := blk_frozen BK126.out 7
                              have hfz65_8 := blk_frozen BK126.out 8
                              have hfz65_9 := blk_frozen BK126.out 9
                              have hfz65_10 := blk_frozen BK126.out 10
                              have hfz65_11 := blk_frozen BK126.out 11
                              have hfz65_12 := blk_frozen BK126.out 12
                              have hfz65_13 := blk_frozen BK126.out 13
                              have hfz65_14 := blk_frozen BK126.out 14
                              have hcz66_0 : wc.cell? ⟨gb131, 0, none⟩ = some (.int .i64 ((rd_T36 l0_9 x3_2).f0)) := (blk_cell BK131.out 0).trans rfl
                              have hcz66_1 : wc.cell? ⟨gb131, 1, none⟩ = some (.int .i64 ((rd_T36 l0_9 x3_2).f1)) := (blk_cell BK131.out 1).trans rfl
                              have hcz66_2 : wc.cell? ⟨gb131, 2, none⟩ = some (.slice A130_2 ((rd_T36 l0_9 x3_2).f2).length c130_2) := (blk_cell BK131.out 2).trans rfl
                              have hcz66_3 : wc.cell? ⟨gb131, 3, none⟩ = some (.slice A130_3 ((rd_T36 l0_9 x3_2).f3).length c130_3) := (blk_cell BK131.out 3).trans rfl
                              have hfz66_0 := blk_frozen BK131.out 0
                              have hfz66_1 := blk_frozen BK131.out 1
                              have hfz66_2 := blk_frozen BK131.out 2
                              have hfz66_3 := blk_frozen BK131.out 3
                              go_wp2_with (first | (go_at_call 24; (with_reducible refine (dormouseref09_Task.calls kj27 _ _ l0_0 _ _ l0_1 _ _ l0_2 a0_3 a0_4 a0_5 a0_6 a0_7 a0_8 ((rd_T36 l0_9 x3_2).f0) ((rd_T36 l0_9 x3_2).f1) _ _ ((rd_T36 l0_9 x3_2).f2) _ _ ((rd_T36 l0_9 x3_2).f3) true _ ?side1 ?side2 ?side3 ?side4 ?side5 ?side6 ?side7 ?side8 ?side9 ?side10 A53.out).mono ?_); (case side1 => repeat (first | exact (Kd.C_below HR0_0.out HB.out) | (with_reducible refine Kd.C_alloc ?_ _) | (with_reducible refine Kd.C_drewN ?_ _) | (with_reducible refine Kd.C_drew ?_))); (case side2 => exact HC0_0.out); (case side3 => repeat (first | exact (Kd.C_below HR0_1.out HB.out) | (with_reducible refine Kd.C_alloc ?_ _) | (with_reducible refine Kd.C_drewN ?_ _) | (with_reducible refine Kd.C_drew ?_))); (case side4 => exact HC0_1.out); (case side5 => repeat (first | exact (Kd.C_below HR0_2.out HB.out) | (with_reducible refine Kd.C_alloc ?_ _) | (with_reducible refine Kd.C_drewN ?_ _) | (with_reducible refine Kd.C_drew ?_))); (case side6 => exact HC0_2.out); (case side7 => repeat (first | exact (Kd.C_below HR130_2.out HB.out) | (with_reducible refine Kd.C_alloc ?_ _) | (with_reducible refine Kd.C_drewN ?_ _) | (with_reducible refine Kd.C_drew ?_))); (case side8 => exact HC130_2.out); (case side9 => repeat (first | exact (Kd.C_below HR130_3.out HB.out) | (with_reducible refine Kd.C_alloc ?_ _) | (with_reducible refine Kd.C_drewN ?_ _) | (with_reducible refine Kd.C_drew ?_))); (case side10 => exact HC130_3.out); rintro e w67 ⟨rfl, hb⟩; have n0_ := Aside0.mk (blk_below (g := gb126) (o := .cells #[.slice A0_0 l0_0.length c0_0, .slice A0_1 l0_1.length c0_1, .slice A0_2 l0_2.length c0_2, .int .i64 a0_3, .int .i64 a0_4, .int .i64 a0_5, .int .i64 a0_6, .int .i64 a0_7, .int .i64 a0_8, .slice (some ad130) l0_9.length c0_9, .slice A0_10 l0_10.length c0_10, .slice A0_11 l0_11.length c0_11, .slice A0_12 l0_12.length c0_12, .int .i64 a0_13, .int .i64 a0_14] 32 (0, 0)) (by (with_reducible repeat (first | refine blk_drewN ?_ _ | refine blk_drew ?_ | refine blk_alloc ?_ _)); exact BK126.out) hb); have n1_ := Aside0.mk (blk_below (g := gb131) (o := .cells #[.int .i64 ((rd_T36 l0_9 x3_2).f0), .int .i64 ((rd_T36 l0_9 x3_2).f1), .slice A130_2 ((rd_T36 l0_9 x3_2).f2).length c130_2, .slice A130_3 ((rd_T36 l0_9 x3_2).f3).length c130_3] 36 (0, 0)) (by (with_reducible repeat (first | refine blk_drewN ?_ _ | refine blk_drew ?_ | refine blk_alloc ?_ _)); exact BK131.out) hb); have n2_ := Aside0.mk (below_step (by repeat (first | (with_reducible first | exact HB.out | apply below_alloc | apply pw_below_drewN | apply below_drew1 | refine below_set ?_ GE126.out | refine below_set ?_ GE131.out) | exact HB.out)) hb); clear BK126; clear BK131; clear HB; have BK126 := n0_; have BK131 := n1_; have HB := n2_; clear n0_ n1_ n2_; (try clear hb); (try clear hb2); (try clear hk); (try clear hi); have hcz68_0 : w67.cell? ⟨gb126, 0, none⟩ = some (.slice A0_0 l0_0.length c0_0) := (blk_cell BK126.out 0).trans rfl; have hcz68_1 : w67.cell? ⟨gb126, 1, none⟩ = some (.slice A0_1 l0_1.length c0_1) := (blk_cell BK126.out 1).trans rfl; have hcz68_2 : w67.cell? ⟨gb126, 2, none⟩ = some (.slice A0_2 l0_2.length c0_2) := (blk_cell BK126.out 2).trans rfl; have hcz68_3 : w67.cell? ⟨gb126, 3, none⟩ = some (.int .i64 a0_3) := (blk_cell BK126.out 3).trans rfl; have hcz68_4 : w67.cell? ⟨gb126, 4, none⟩ = some (.int .i64 a0_4) := (blk_cell BK126.out 4).trans rfl; have hcz68_5 : w67.cell? ⟨gb126, 5, none⟩ = some (.int .i64 a0_5) := (blk_cell BK126.out 5).trans rfl; have hcz68_6 : w67.cell? ⟨gb126, 6, none⟩ = some (.int .i64 a0_6) := (blk_cell BK126.out 6).trans rfl; have hcz68_7 : w67.cell? ⟨gb126, 7, none⟩ = some (.int .i64 a0_7) := (blk_cell BK126.out 7).trans rfl; have hcz68_8 : w67.cell? ⟨gb126, 8, none⟩ = some (.int .i64 a0_8) := (blk_cell BK126.out 8).trans rfl; have hcz68_9 : w67.cell? ⟨gb126, 9, none⟩ = some (.slice (some ad130) l0_9.length c0_9) := (blk_cell BK126.out 9).trans rfl; have hcz68_10 : w67.cell? ⟨gb126, 10, none⟩ = some (.slice A0_10 l0_10.length c0_10) := (blk_cell BK126.out 10).trans rfl; have hcz68_11 : w67.cell? ⟨gb126, 11, none⟩ = some (.slice A0_11 l0_11.length c0_11) := (blk_cell BK126.out 11).trans rfl; have hcz68_12 : w67.cell? ⟨gb126, 12, none⟩ = some (.slice A0_12 l0_12.length c0_12) := (blk_cell BK126.out 12).trans rfl; have hcz68_13 : w67.cell? ⟨gb126, 13, none⟩ = some (.int .i64 a0_13) := (blk_cell BK126.out 13).trans rfl; have hcz68_14 : w67.cell? ⟨gb126, 14, none⟩ = some (.int .i64 a0_14) := (blk_cell BK126.out 14).trans rfl; have hfz68_0 := blk_frozen BK126.out 0; have hfz68_1 := blk_frozen BK126.out 1; have hfz68_2 := blk_frozen BK126.out 2; have hfz68_3 := blk_frozen BK126.out 3; have hfz68_4 := blk_frozen BK126.out 4; have hfz68_5 := blk_frozen BK126.out 5; have hfz68_6 := blk_frozen BK126.out 6; have hfz68_7 := blk_frozen BK126.out 7; have hfz68_8 := blk_frozen BK126.out 8; have hfz68_9 := blk_frozen BK126.out 9; have hfz68_10 := blk_frozen BK126.out 10; have hfz68_11 := blk_frozen BK126.out 11; have hfz68_12 := blk_frozen BK126.out 12; have hfz68_13 := blk_frozen BK126.out 13; have hfz68_14 := blk_frozen BK126.out 14; have p135 : 0 ≤ (x3_2 : Int) := of_decide_eq_true (by first | (with_reducible assumption) | assumption); have q135 : x3_2 < (l0_10.length : Int) := of_decide_eq_true (by first | (with_reducible assumption) | assumption); obtain ⟨ad135, e135, hx135_0⟩ := Kd.at_int HR0_10.out x3_2 p135 q135; cases e135; replace hx135_0 := (HB.out.cell (World.block_lt_of_cell? w _ hx135_0)).trans hx135_0; replace p135 := eq_true p135; replace q135 := eq_true q135) | (go_at_call 23; (with_reducible refine (dormouseref09_moment.calls (rd l0_10 x3_2) false _ A57.out).mono ?_); rintro e w' ⟨rfl, ⟨nd, rfl⟩⟩; (try first | exact ⟨rfl, _, World.drewN_drewN _ _ _⟩ | exact ⟨rfl, _, Eq.trans (World.drewN_drewN _ _ _) (congrArg (World.drewN _) (Nat.add_assoc _ _ _))⟩)))
                              repeat (go_quiet (first | (go_at_call 24; (with_reducible refine (dormouseref09_Task.calls kj27 _ _ l0_0 _ _ l0_1 _ _ l0_2 a0_3 a0_4 a0_5 a0_6 a0_7 a0_8 ((rd_T36 l0_9 x3_2).f0) ((rd_T36 l0_9 x3_2).f1) _ _ ((rd_T36 l0_9 x3_2).f2) _ _ ((rd_T36 l0_9 x3_2).f3) true _ ?side1 ?side2 ?side3 ?side4 ?side5 ?side6 ?side7 ?side8 ?side9 ?side10 A53.out).mono ?_); (case side1 => repeat (first | exact (Kd.C_below HR0_0.out HB.out) | (with_reducible refine Kd.C_alloc ?_ _) | (with_reducible refine Kd.C_drewN ?_ _) | (with_reducible refine Kd.C_drew ?_))); (case side2 => exact HC0_0.out); (case side3 => repeat (first | exact (Kd.C_below HR0_1.out HB.out) | (with_reducible refine Kd.C_alloc ?_ _) | (with_reducible refine Kd.C_drewN ?_ _) | (with_reducible refine Kd.C_drew ?_))); (case side4 => exact HC0_1.out); (case side5 => repeat (first | exact (Kd.C_below HR0_2.out HB.out) | (with_reducible refine Kd.C_alloc ?_ _) | (with_reducible refine Kd.C_drewN ?_ _) | (with_reducible refine Kd.C_drew ?_))); (case side6 => exact HC0_2.out); (case side7 => repeat (first | exact (Kd.C_below HR130_2.out HB.out) | (with_reducible refine Kd.C_alloc ?_ _) | (with_reducible refine Kd.C_drewN ?_ _) | (with_reducible refine Kd.C_drew ?_))); (case side8 => exact HC130_2.out); (case side9 => repeat (first | exact (Kd.C_below HR130_3.out HB.out) | (with_reducible refine Kd.C_alloc ?_ _) | (with_reducible refine Kd.C_drewN ?_ _) | (with_reducible refine Kd.C_drew ?_))); (case side10 => exact HC130_3.out); rintro e w67 ⟨rfl, hb⟩; have n0_ := Aside0.mk (blk_below (g := gb126) (o := .cells #[.slice A0_0 l0_0.length c0_0, .slice A0_1 l0_1.length c0_1, .slice A0_2 l0_2.length c0_2, .int .i64 a0_3, .int .i64 a0_4, .int .i64 a0_5, .int .i64 a0_6, .int .i64 a0_7, .int .i64 a0_8, .slice (some ad130) l0_9.length c0_9, .slice A0_10 l0_10.length c0_10, .slice A0_11 l0_11.length c0_11, .slice A0_12 l0_12.length c0_12, .int .i64 a0_13, .int .i64 a0_14] 32 (0, 0)) (by (with_reducible repeat (first | refine blk_drewN ?_ _ | refine blk_drew ?_ | refine blk_alloc ?_ _)); exact BK126.out) hb); have n1_ := Aside0.mk (blk_below (g := gb131) (o := .cells #[.int .i64 ((rd_T36 l0_9 x3_2).f0), .int .i64 ((rd_T36 l0_9 x3_2).f1), .slice A130_2 ((rd_T36 l0_9 x3_2).f2).length c130_2, .slice A130_3 ((rd_T36 l0_9 x3_2).f3).length c130_3] 36 (0, 0)) (by (with_reducible repeat (first | refine blk_drewN ?_ _ | refine blk_drew ?_ | refine blk_alloc ?_ _)); exact BK131.out) hb); have n2_ := Aside0.mk (below_step (by repeat (first | (with_reducible first | exact HB.out | apply below_alloc | apply pw_below_drewN | apply below_drew1 | refine below_set ?_ GE126.out | refine below_set ?_ GE131.out) | exact HB.out)) hb); clear BK126; clear BK131; clear HB; have BK126 := n0_; have BK131 := n1_; have HB := n2_; clear n0_ n1_ n2_; (try clear hb); (try clear hb2); (try clear hk); (try clear hi); have hcz68_0 : w67.cell? ⟨gb126, 0, none⟩ = some (.slice A0_0 l0_0.length c0_0) := (blk_cell BK126.out 0).trans rfl; have hcz68_1 : w67.cell? ⟨gb126, 1, none⟩ = some (.slice A0_1 l0_1.length c0_1) := (blk_cell BK126.out 1).trans rfl; have hcz68_2 : w67.cell? ⟨gb126, 2, none⟩ = some (.slice A0_2 l0_2.length c0_2) := (blk_cell BK126.out 2).trans rfl; have hcz68_3 : w67.cell? ⟨gb126, 3, none⟩ = some (.int .i64 a0_3) := (blk_cell BK126.out 3).trans rfl; have hcz68_4 : w67.cell? ⟨gb126, 4, none⟩ = some (.int .i64 a0_4) := (blk_cell BK126.out 4).trans rfl; have hcz68_5 : w67.cell? ⟨gb126, 5, none⟩ = some (.int .i64 a0_5) := (blk_cell BK126.out 5).trans rfl; have hcz68_6 : w67.cell? ⟨gb126, 6, none⟩ = some (.int .i64 a0_6) := (blk_cell BK126.out 6).trans rfl; have hcz68_7 : w67.cell? ⟨gb126, 7, none⟩ = some (.int .i64 a0_7) := (blk_cell BK126.out 7).trans rfl; have hcz68_8 : w67.cell? ⟨gb126, 8, none⟩ = some (.int .i64 a0_8) := (blk_cell BK126.out 8).trans rfl; have hcz68_9 : w67.cell? ⟨gb126, 9, none⟩ = some (.slice (some ad130) l0_9.length c0_9) := (blk_cell BK126.out 9).trans rfl; have hcz68_10 : w67.cell? ⟨gb126, 10, none⟩ = some (.slice A0_10 l0_10.length c0_10) := (blk_cell BK126.out 10).trans rfl; have hcz68_11 : w67.cell? ⟨gb126, 11, none⟩ = some (.slice A0_11 l0_11.length c0_11) := (blk_cell BK126.out 11).trans rfl; have hcz68_12 : w67.cell? ⟨gb126, 12, none⟩ = some (.slice A0_12 l0_12.length c0_12) := (blk_cell BK126.out 12).trans rfl; have hcz68_13 : w67.cell? ⟨gb126, 13, none⟩ = some (.int .i64 a0_13) := (blk_cell BK126.out 13).trans rfl; have hcz68_14 : w67.cell? ⟨gb126, 14, none⟩ = some (.int .i64 a0_14) := (blk_cell BK126.out 14).trans rfl; have hfz68_0 := blk_frozen BK126.out 0; have hfz68_1 := blk_frozen BK126.out 1; have hfz68_2 := blk_frozen BK126.out 2; have hfz68_3 := blk_frozen BK126.out 3; have hfz68_4 := blk_frozen BK126.out 4; have hfz68_5 := blk_frozen BK126.out 5; have hfz68_6 := blk_frozen BK126.out 6; have hfz68_7 := blk_frozen BK126.out 7; have hfz68_8 := blk_frozen BK126.out 8; have hfz68_9 := blk_frozen BK126.out 9; have hfz68_10 := blk_frozen BK126.out 10; have hfz68_11 := blk_frozen BK126.out 11; have hfz68_12 := blk_frozen BK126.out 12; have hfz68_13 := blk_frozen BK126.out 13; have hfz68_14 := blk_frozen BK126.out 14; have p135 : 0 ≤ (x3_2 : Int) := of_decide_eq_true (by first | (with_reducible assumption) | assumption); have q135 : x3_2 < (l0_10.length : Int) := of_decide_eq_true (by first | (with_reducible assumption) | assumption); obtain ⟨ad135, e135, hx135_0⟩ := Kd.at_int HR0_10.out x3_2 p135 q135; cases e135; replace hx135_0 := (HB.out.cell (World.block_lt_of_cell? w _ hx135_0)).trans hx135_0; replace p135 := eq_true p135; replace q135 := eq_true q135) | (go_at_call 23; (with_reducible refine (dormouseref09_moment.calls (rd l0_10 x3_2) false _ A57.out).mono ?_); rintro e w' ⟨rfl, ⟨nd, rfl⟩⟩; (try first | exact ⟨rfl, _, World.drewN_drewN _ _ _⟩ | exact ⟨rfl, _, Eq.trans (World.drewN_drewN _ _ _) (congrArg (World.drewN _) (Nat.add_assoc _ _ _))⟩))); try go_wp2_with (first | (go_at_call 24; (with_reducible refine (dormouseref09_Task.calls kj27 _ _ l0_0 _ _ l0_1 _ _ l0_2 a0_3 a0_4 a0_5 a0_6 a0_7 a0_8 ((rd_T36 l0_9 x3_2).f0) ((rd_T36 l0_9 x3_2).f1) _ _ ((rd_T36 l0_9 x3_2).f2) _ _ ((rd_T36 l0_9 x3_2).f3) true _ ?side1 ?side2 ?side3 ?side4 ?side5 ?side6 ?side7 ?side8 ?side9 ?side10 A53.out).mono ?_); (case side1 => repeat (first | exact (Kd.C_below HR0_0.out HB.out) | (with_reducible refine Kd.C_alloc ?_ _) | (with_reducible refine Kd.C_drewN ?_ _) | (with_reducible refine Kd.C_drew ?_))); (case side2 => exact HC0_0.out); (case side3 => repeat (first | exact (Kd.C_below HR0_1.out HB.out) | (with_reducible refine Kd.C_alloc ?_ _) | (with_reducible refine Kd.C_drewN ?_ _) | (with_reducible refine Kd.C_drew ?_))); (case side4 => exact HC0_1.out); (case side5 => repeat (first | exact (Kd.C_below HR0_2.out HB.out) | (with_reducible refine Kd.C_alloc ?_ _) | (with_reducible refine Kd.C_drewN ?_ _) | (with_reducible refine Kd.C_drew ?_))); (case side6 => exact HC0_2.out); (case side7 => repeat (first | exact (Kd.C_below HR130_2.out HB.out) | (with_reducible refine Kd.C_alloc ?_ _) | (with_reducible refine Kd.C_drewN ?_ _) | (with_reducible refine Kd.C_drew ?_))); (case side8 => exact HC130_2.out); (case side9 => repeat (first | exact (Kd.C_below HR130_3.out HB.out) | (with_reducible refine Kd.C_alloc ?_ _) | (with_reducible refine Kd.C_drewN ?_ _) | (with_reducible refine Kd.C_drew ?_))); (case side10 => exact HC130_3.out); rintro e w67 ⟨rfl, hb⟩; have n0_ := Aside0.mk (blk_below (g := gb126) (o := .cells #[.slice A0_0 l0_0.length c0_0, .slice A0_1 l0_1.length c0_1, .slice A0_2 l0_2.length c0_2, .int .i64 a0_3, .int .i64 a0_4, .int .i64 a0_5, .int .i64 a0_6, .int .i64 a0_7, .int .i64 a0_8, .slice (some ad130) l0_9.length c0_9, .slice A0_10 l0_10.length c0_10, .slice A0_11 l0_11.length c0_11, .slice A0_12 l0_12.length c0_12, .int .i64 a0_13, .int .i64 a0_14] 32 (0, 0)) (by (with_reducible repeat (first | refine blk_drewN ?_ _ | refine blk_drew ?_ | refine blk_alloc ?_ _)); exact BK126.out) hb); have n1_ := Aside0.mk (blk_below (g := gb131) (o := .cells #[.int .i64 ((rd_T36 l0_9 x3_2).f0), .int .i64 ((rd_T36 l0_9 x3_2).f1), .slice A130_2 ((rd_T36 l0_9 x3_2).f2).length c130_2, .slice A130_3 ((rd_T36 l0_9 x3_2).f3).length c130_3] 36 (0, 0)) (by (with_reducible repeat (first | refine blk_drewN ?_ _ | refine blk_drew ?_ | refine blk_alloc ?_ _)); exact BK131.out) hb); have n2_ := Aside0.mk (below_step (by repeat (first | (with_reducible first | exact HB.out | apply below_alloc | apply pw_below_drewN | apply below_drew1 | refine below_set ?_ GE126.out | refine below_set ?_ GE131.out) | exact HB.out)) hb); clear BK126; clear BK131; clear HB; have BK126 := n0_; have BK131 := n1_; have HB := n2_; clear n0_ n1_ n2_; (try clear hb); (try clear hb2); (try clear hk); (try clear hi); have hcz68_0 : w67.cell? ⟨gb126, 0, none⟩ = some (.slice A0_0 l0_0.length c0_0) := (blk_cell BK126.out 0).trans rfl; have hcz68_1 : w67.cell? ⟨gb126, 1, none⟩ = some (.slice A0_1 l0_1.length c0_1) := (blk_cell BK126.out 1).trans rfl; have hcz68_2 : w67.cell? ⟨gb126, 2, none⟩ = some (.slice A0_2 l0_2.length c0_2) := (blk_cell BK126.out 2).trans rfl; have hcz68_3 : w67.cell? ⟨gb126, 3, none⟩ = some (.int .i64 a0_3) := (blk_cell BK126.out 3).trans rfl; have hcz68_4 : w67.cell? ⟨gb126, 4, none⟩ = some (.int .i64 a0_4) := (blk_cell BK126.out 4).trans rfl; have hcz68_5 : w67.cell? ⟨gb126, 5, none⟩ = some (.int .i64 a0_5) := (blk_cell BK126.out 5).trans rfl; have hcz68_6 : w67.cell? ⟨gb126, 6, none⟩ = some (.int .i64 a0_6) := (blk_cell BK126.out 6).trans rfl; have hcz68_7 : w67.cell? ⟨gb126, 7, none⟩ = some (.int .i64 a0_7) := (blk_cell BK126.out 7).trans rfl; have hcz68_8 : w67.cell? ⟨gb126, 8, none⟩ = some (.int .i64 a0_8) := (blk_cell BK126.out 8).trans rfl; have hcz68_9 : w67.cell? ⟨gb126, 9, none⟩ = some (.slice (some ad130) l0_9.length c0_9) := (blk_cell BK126.out 9).trans rfl; have hcz68_10 : w67.cell? ⟨gb126, 10, none⟩ = some (.slice A0_10 l0_10.length c0_10) := (blk_cell BK126.out 10).trans rfl; have hcz68_11 : w67.cell? ⟨gb126, 11, none⟩ = some (.slice A0_11 l0_11.length c0_11) := (blk_cell BK126.out 11).trans rfl; have hcz68_12 : w67.cell? ⟨gb126, 12, none⟩ = some (.slice A0_12 l0_12.length c0_12) := (blk_cell BK126.out 12).trans rfl; have hcz68_13 : w67.cell? ⟨gb126, 13, none⟩ = some (.int .i64 a0_13) := (blk_cell BK126.out 13).trans rfl; have hcz68_14 : w67.cell? ⟨gb126, 14, none⟩ = some (.int .i64 a0_14) := (blk_cell BK126.out 14).trans rfl; have hfz68_0 := blk_frozen BK126.out 0; have hfz68_1 := blk_frozen BK126.out 1; have hfz68_2 := blk_frozen BK126.out 2; have hfz68_3 := blk_frozen BK126.out 3; have hfz68_4 := blk_frozen BK126.out 4; have hfz68_5 := blk_frozen BK126.out 5; have hfz68_6 := blk_frozen BK126.out 6; have hfz68_7 := blk_frozen BK126.out 7; have hfz68_8 := blk_frozen BK126.out 8; have hfz68_9 := blk_frozen BK126.out 9; have hfz68_10 := blk_frozen BK126.out 10; have hfz68_11 := blk_frozen BK126.out 11; have hfz68_12 := blk_frozen BK126.out 12; have hfz68_13 := blk_frozen BK126.out 13; have hfz68_14 := blk_frozen BK126.out 14; have p135 : 0 ≤ (x3_2 : Int) := of_decide_eq_true (by first | (with_reducible assumption) | assumption); have q135 : x3_2 < (l0_10.length : Int) := of_decide_eq_true (by first | (with_reducible assumption) | assumption); obtain ⟨ad135, e135, hx135_0⟩ := Kd.at_int HR0_10.out x3_2 p135 q135; cases e135; replace hx135_0 := (HB.out.cell (World.block_lt_of_cell? w _ hx135_0)).trans hx135_0; replace p135 := eq_true p135; replace q135 := eq_true q135) | (go_at_call 23; (with_reducible refine (dormouseref09_moment.calls (rd l0_10 x3_2) false _ A57.out).mono ?_); rintro e w' ⟨rfl, ⟨nd, rfl⟩⟩; (try first | exact ⟨rfl, _, World.drewN_drewN _ _ _⟩ | exact ⟨rfl, _, Eq.trans (World.drewN_drewN _ _ _) (congrArg (World.drewN _) (Nat.add_assoc _ _ _))⟩))))
                              go_ret
                              exact ⟨by first | rfl | (simp [errW_none, errW_some] <;> rfl) | (simp [*, errW_none, errW_some] <;> rfl), by repeat (first | (with_reducible first | exact HB.out | apply below_alloc | apply pw_below_drewN | apply below_drew1 | refine below_set ?_ GE126.out | refine below_set ?_ GE131.out) | exact HB.out)⟩
                          · rw [if_neg c56] at H
                            exact absurd H (by simp)
                        · rw [if_neg c55] at H
                          exact absurd H (by simp)
                      · replace c54 := Bool.eq_false_iff.mpr c54
                        subst c54
                        have H1 : (some false) = some r := by rw [if_neg (show ¬ (false = true) by decide)] at H; exact H
                        clear H
                        have H := H1
                        clear H1
                        obtain rfl := Option.some.inj H
                        have hnb69 := NB126_131.out
                        have hnc69 := NB131_126.out
                        have hcz70_0 : wc.cell? ⟨gb126, 0, none⟩ = some (.slice A0_0 l0_0.length c0_0) := (blk_cell BK126.out 0).trans rfl
                        have hcz70_1 : wc.cell? ⟨gb126, 1, none⟩ = some (.slice A0_1 l0_1.length c0_1) := (blk_cell BK126.out 1).trans rfl
                        have hcz70_2 : wc.cell? ⟨gb126, 2, none⟩ = some (.slice A0_2 l0_2.length c0_2) := (blk_cell BK126.out 2).trans rfl
                        have hcz70_3 : wc.cell? ⟨gb126, 3, none⟩ = some (.int .i64 a0_3) := (blk_cell BK126.out 3).trans rfl
                        have hcz70_4 : wc.cell? ⟨gb126, 4, none⟩ = some (.int .i64 a0_4) := (blk_cell BK126.out 4).trans rfl
                        have hcz70_5 : wc.cell? ⟨gb126, 5, none⟩ = some (.int .i64 a0_5) := (blk_cell BK126.out 5).trans rfl
                        have hcz70_6 : wc.cell? ⟨gb126, 6, none⟩ = some (.int .i64 a0_6) := (blk_cell BK126.out 6).trans rfl
                        have hcz70_7 : wc.cell? ⟨gb126, 7, none⟩ = some (.int .i64 a0_7) := (blk_cell BK126.out 7).trans rfl
                        have hcz70_8 : wc.cell? ⟨gb126, 8, none⟩ = some (.int .i64 a0_8) := (blk_cell BK126.out 8).trans rfl
                        have hcz70_9 : wc.cell? ⟨gb126, 9, none⟩ = some (.slice (some ad130) l0_9.length c0_9) := (blk_cell BK126.out 9).trans rfl
                        have hcz70_10 : wc.cell? ⟨gb126, 10, none⟩ = some (.slice A0_10 l0_10.length c0_10) := (blk_cell BK126.out 10).trans rfl
                        have hcz70_11 : wc.cell? ⟨gb126, 11, none⟩ = some (.slice A0_11 l0_11.length c0_11) := (blk_cell BK126.out 11).trans rfl
                        have hcz70_12 : wc.cell? ⟨gb126, 12, none⟩ = some (.slice A0_12 l0_12.length c0_12) := (blk_cell BK126.out 12).trans rfl
                        have hcz70_13 : wc.cell? ⟨gb126, 13, none⟩ = some (.int .i64 a0_13) := (blk_cell BK126.out 13).trans rfl
                        have hcz70_14 : wc.cell? ⟨gb126, 14, none⟩ = some (.int .i64 a0_14) := (blk_cell BK126.out 14).trans rfl
                        have hfz70_0 := blk_frozen BK126.out 0
                        have hfz70_1 := blk_frozen BK126.out 1
                        have hfz70_2 := blk_frozen BK126.out 2
                        have hfz70_3 := blk_frozen BK126.out 3
                        have hfz70_4 := blk_frozen BK126.out 4
                        have hfz70_5 := blk_frozen BK126.out 5
                        have hfz70_6 := blk_frozen BK126.out 6
                        have hfz70_7 := blk_frozen BK126.out 7
                        have hfz70_8 := blk_frozen BK126.out 8
                        have hfz70_9 := blk_frozen BK126.out 9
                        have hfz70_10 := blk_frozen BK126.out 10
                        have hfz70_11 := blk_frozen BK126.out 11
                        have hfz70_12 := blk_frozen BK126.out 12
                        have hfz70_13 := blk_frozen BK126.out 13
                        have hfz70_14 := blk_frozen BK126.out 14
                        have hcz71_0 : wc.cell? ⟨gb131, 0, none⟩ = some (.int .i64 ((rd_T36 l0_9 x3_2).f0)) := (blk_cell BK131.out 0).trans rfl
                        have hcz71_1 : wc.cell? ⟨gb131, 1, none⟩ = some (.int .i64 ((rd_T36 l0_9 x3_2).f1)) := (blk_cell BK131.out 1).trans rfl
                        have hcz71_2 : wc.cell? ⟨gb131, 2, none⟩ = some (.slice A130_2 ((rd_T36 l0_9 x3_2).f2).length c130_2) := (blk_cell BK131.out 2).trans rfl
                        have hcz71_3 : wc.cell? ⟨gb131, 3, none⟩ = some (.slice A130_3 ((rd_T36 l0_9 x3_2).f3).length c130_3) := (blk_cell BK131.out 3).trans rfl
                        have hfz71_0 := blk_frozen BK131.out 0
                        have hfz71_1 := blk_frozen BK131.out 1
                        have hfz71_2 := blk_frozen BK131.out 2
                        have hfz71_3 := blk_frozen BK131.out 3
                        go_wp2_with (first | (go_at_call 24; (with_reducible refine (dormouseref09_Task.calls kj27 _ _ l0_0 _ _ l0_1 _ _ l0_2 a0_3 a0_4 a0_5 a0_6 a0_7 a0_8 ((rd_T36 l0_9 x3_2).f0) ((rd_T36 l0_9 x3_2).f1) _ _ ((rd_T36 l0_9 x3_2).f2) _ _ ((rd_T36 l0_9 x3_2).f3) false _ ?side1 ?side2 ?side3 ?side4 ?side5 ?side6 ?side7 ?side8 ?side9 ?side10 A53.out).mono ?_); (case side1 => repeat (first | exact (Kd.C_below HR0_0.out HB.out) | (with_reducible refine Kd.C_alloc ?_ _) | (with_reducible refine Kd.C_drewN ?_ _) | (with_reducible refine Kd.C_drew ?_))); (case side2 => exact HC0_0.out); (case side3 => repeat (first | exact (Kd.C_below HR0_1.out HB.out) | (with_reducible refine Kd.C_alloc ?_ _) | (with_reducible refine Kd.C_drewN ?_ _) | (with_reducible refine Kd.C_drew ?_))); (case side4 => exact HC0_1.out); (case side5 => repeat (first | exact (Kd.C_below HR0_2.out HB.out) | (with_reducible refine Kd.C_alloc ?_ _) | (with_reducible refine Kd.C_drewN ?_ _) | (with_reducible refine Kd.C_drew ?_))); (case side6 => exact HC0_2.out); (case side7 => repeat (first | exact (Kd.C_below HR130_2.out HB.out) | (with_reducible refine Kd.C_alloc ?_ _) | (with_reducible refine Kd.C_drewN ?_ _) | (with_reducible refine Kd.C_drew ?_))); (case side8 => exact HC130_2.out); (case side9 => repeat (first | exact (Kd.C_below HR130_3.out HB.out) | (with_reducible refine Kd.C_alloc ?_ _) | (with_reducible refine Kd.C_drewN ?_ _) | (with_reducible refine Kd.C_drew ?_))); (case side10 => exact HC130_3.out); rintro e w72 ⟨rfl, hb⟩; have n0_ := Aside0.mk (blk_below (g := gb126) (o := .cells #[.slice A0_0 l0_0.length c0_0, .slice A0_1 l0_1.length c0_1, .slice A0_2 l0_2.length c0_2, .int .i64 a0_3, .int .i64 a0_4, .int .i64 a0_5, .int .i64 a0_6, .int .i64 a0_7, .int .i64 a0_8, .slice (some ad130) l0_9.length c0_9, .slice A0_10 l0_10.length c0_10, .slice A0_11 l0_11.length c0_11, .slice A0_12 l0_12.length c0_12, .int .i64 a0_13, .int .i64 a0_14] 32 (0, 0)) (by (with_reducible repeat (first | refine blk_drewN ?_ _ | refine blk_drew ?_ | refine blk_alloc ?_ _)); exact BK126.out) hb); have n1_ := Aside0.mk (blk_below (g := gb131) (o := .cells #[.int .i64 ((rd_T36 l0_9 x3_2).f0), .int .i64 ((rd_T36 l0_9 x3_2).f1), .slice A130_2 ((rd_T36 l0_9 x3_2).f2).length c130_2, .slice A130_3 ((rd_T36 l0_9 x3_2).f3).length c130_3] 36 (0, 0)) (by (with_reducible repeat (first | refine blk_drewN ?_ _ | refine blk_drew ?_ | refine blk_alloc ?_ _)); exact BK131.out) hb); have n2_ := Aside0.mk (below_step (by repeat (first | (with_reducible first | exact HB.out | apply below_alloc | apply pw_below_drewN | apply below_drew1 | refine below_set ?_ GE126.out | refine below_set ?_ GE131.out) | exact HB.out)) hb); clear BK126; clear BK131; clear HB; have BK126 := n0_; have BK131 := n1_; have HB := n2_; clear n0_ n1_ n2_; (try clear hb); (try clear hb2); (try clear hk); (try clear hi)))
                        repeat (go_quiet (first | (go_at_call 24; (with_reducible refine (dormouseref09_Task.calls kj27 _ _ l0_0 _ _ l0_1 _ _ l0_2 a0_3 a0_4 a0_5 a0_6 a0_7 a0_8 ((rd_T36 l0_9 x3_2).f0) ((rd_T36 l0_9 x3_2).f1) _ _ ((rd_T36 l0_9 x3_2).f2) _ _ ((rd_T36 l0_9 x3_2).f3) false _ ?side1 ?side2 ?side3 ?side4 ?side5 ?side6 ?side7 ?side8 ?side9 ?side10 A53.out).mono ?_); (case side1 => repeat (first | exact (Kd.C_below HR0_0.out HB.out) | (with_reducible refine Kd.C_alloc ?_ _) | (with_reducible refine Kd.C_drewN ?_ _) | (with_reducible refine Kd.C_drew ?_))); (case side2 => exact HC0_0.out); (case side3 => repeat (first | exact (Kd.C_below HR0_1.out HB.out) | (with_reducible refine Kd.C_alloc ?_ _) | (with_reducible refine Kd.C_drewN ?_ _) | (with_reducible refine Kd.C_drew ?_))); (case side4 => exact HC0_1.out); (case side5 => repeat (first | exact (Kd.C_below HR0_2.out HB.out) | (with_reducible refine Kd.C_alloc ?_ _) | (with_reducible refine Kd.C_drewN ?_ _) | (with_reducible refine Kd.C_drew ?_))); (case side6 => exact HC0_2.out); (case side7 => repeat (first | exact (Kd.C_below HR130_2.out HB.out) | (with_reducible refine Kd.C_alloc ?_ _) | (with_reducible refine Kd.C_drewN ?_ _) | (with_reducible refine Kd.C_drew ?_))); (case side8 => exact HC130_2.out); (case side9 => repeat (first | exact (Kd.C_below HR130_3.out HB.out) | (with_reducible refine Kd.C_alloc ?_ _) | (with_reducible refine Kd.C_drewN ?_ _) | (with_reducible refine Kd.C_drew ?_))); (case side10 => exact HC130_3.out); rintro e w72 ⟨rfl, hb⟩; have n0_ := Aside0.mk (blk_below (g := gb126) (o := .cells #[.slice A0_0 l0_0.length c0_0, .slice A0_1 l0_1.length c0_1, .slice A0_2 l0_2.length c0_2, .int .i64 a0_3, .int .i64 a0_4, .int .i64 a0_5, .int .i64 a0_6, .int .i64 a0_7, .int .i64 a0_8, .slice (some ad130) l0_9.length c0_9, .slice A0_10 l0_10.length c0_10, .slice A0_11 l0_11.length c0_11, .slice A0_12 l0_12.length c0_12, .int .i64 a0_13, .int .i64 a0_14] 32 (0, 0)) (by (with_reducible repeat (first | refine blk_drewN ?_ _ | refine blk_drew ?_ | refine blk_alloc ?_ _)); exact BK126.out) hb); have n1_ := Aside0.mk (blk_below (g := gb131) (o := .cells #[.int .i64 ((rd_T36 l0_9 x3_2).f0), .int .i64 ((rd_T36 l0_9 x3_2).f1), .slice A130_2 ((rd_T36 l0_9 x3_2).f2).length c130_2, .slice A130_3 ((rd_T36 l0_9 x3_2).f3).length c130_3] 36 (0, 0)) (by (with_reducible repeat (first | refine blk_drewN ?_ _ | refine blk_drew ?_ | refine blk_alloc ?_ _)); exact BK131.out) hb); have n2_ := Aside0.mk (below_step (by repeat (first | (with_reducible first | exact HB.out | apply below_alloc | apply pw_below_drewN | apply below_drew1 | refine below_set ?_ GE126.out | refine below_set ?_ GE131.out) | exact HB.out)) hb); clear BK126; clear BK131; clear HB; have BK126 := n0_; have BK131 := n1_; have HB := n2_; clear n0_ n1_ n2_; (try clear hb); (try clear hb2); (try clear hk); (try clear hi))); try go_wp2_with (first | (go_at_call 24; (with_reducible refine (dormouseref09_Task.calls kj27 _ _ l0_0 _ _ l0_1 _ _ l0_2 a0_3 a0_4 a0_5 a0_6 a0_7 a0_8 ((rd_T36 l0_9 x3_2).f0) ((rd_T36 l0_9 x3_2).f1) _ _ ((rd_T36 l0_9 x3_2).f2) _ _ ((rd_T36 l0_9 x3_2).f3) false _ ?side1 ?side2 ?side3 ?side4 ?side5 ?side6 ?side7 ?side8 ?side9 ?side10 A53.out).mono ?_); (case side1 => repeat (first | exact (Kd.C_below HR0_0.out HB.out) | (with_reducible refine Kd.C_alloc ?_ _) | (with_reducible refine Kd.C_drewN ?_ _) | (with_reducible refine Kd.C_drew ?_))); (case side2 => exact HC0_0.out); (case side3 => repeat (first | exact (Kd.C_below HR0_1.out HB.out) | (with_reducible refine Kd.C_alloc ?_ _) | (with_reducible refine Kd.C_drewN ?_ _) | (with_reducible refine Kd.C_drew ?_))); (case side4 => exact HC0_1.out); (case side5 => repeat (first | exact (Kd.C_below HR0_2.out HB.out) | (with_reducible refine Kd.C_alloc ?_ _) | (with_reducible refine Kd.C_drewN ?_ _) | (with_reducible refine Kd.C_drew ?_))); (case side6 => exact HC0_2.out); (case side7 => repeat (first | exact (Kd.C_below HR130_2.out HB.out) | (with_reducible refine Kd.C_alloc ?_ _) | (with_reducible refine Kd.C_drewN ?_ _) | (with_reducible refine Kd.C_drew ?_))); (case side8 => exact HC130_2.out); (case side9 => repeat (first | exact (Kd.C_below HR130_3.out HB.out) | (with_reducible refine Kd.C_alloc ?_ _) | (with_reducible refine Kd.C_drewN ?_ _) | (with_reducible refine Kd.C_drew ?_))); (case side10 => exact HC130_3.out); rintro e w72 ⟨rfl, hb⟩; have n0_ := Aside0.mk (blk_below (g := gb126) (o := .cells #[.slice A0_0 l0_0.length c0_0, .slice A0_1 l0_1.length c0_1, .slice A0_2 l0_2.length c0_2, .int .i64 a0_3, .int .i64 a0_4, .int .i64 a0_5, .int .i64 a0_6, .int .i64 a0_7, .int .i64 a0_8, .slice (some ad130) l0_9.length c0_9, .slice A0_10 l0_10.length c0_10, .slice A0_11 l0_11.length c0_11, .slice A0_12 l0_12.length c0_12, .int .i64 a0_13, .int .i64 a0_14] 32 (0, 0)) (by (with_reducible repeat (first | refine blk_drewN ?_ _ | refine blk_drew ?_ | refine blk_alloc ?_ _)); exact BK126.out) hb); have n1_ := Aside0.mk (blk_below (g := gb131) (o := .cells #[.int .i64 ((rd_T36 l0_9 x3_2).f0), .int .i64 ((rd_T36 l0_9 x3_2).f1), .slice A130_2 ((rd_T36 l0_9 x3_2).f2).length c130_2, .slice A130_3 ((rd_T36 l0_9 x3_2).f3).length c130_3] 36 (0, 0)) (by (with_reducible repeat (first | refine blk_drewN ?_ _ | refine blk_drew ?_ | refine blk_alloc ?_ _)); exact BK131.out) hb); have n2_ := Aside0.mk (below_step (by repeat (first | (with_reducible first | exact HB.out | apply below_alloc | apply pw_below_drewN | apply below_drew1 | refine below_set ?_ GE126.out | refine below_set ?_ GE131.out) | exact HB.out)) hb); clear BK126; clear BK131; clear HB; have BK126 := n0_; have BK131 := n1_; have HB := n2_; clear n0_ n1_ n2_; (try clear hb); (try clear hb2); (try clear hk); (try clear hi))))
                        go_ret
                        exact ⟨by first | rfl | (simp [errW_none, errW_some] <;> rfl) | (simp [*, errW_none, errW_some] <;> rfl), by repeat (first | (with_reducible first | exact HB.out | apply below_alloc | apply pw_below_drewN | apply below_drew1 | refine below_set ?_ GE126.out | refine below_set ?_ GE131.out) | exact HB.out)⟩
              · rw [if_neg c27] at H
                exact absurd H (by simp)
            · rw [if_neg c26] at H
              have c26b0 : decide (x3_2 < (l0_9.length : Int)) = false := decide_eq_false c26
              clear c26
              have H' := Aside0.mk H
              clear H
              have hcz73_0 : wr.cell? ⟨gb126, 0, none⟩ = some (.slice A0_0 l0_0.length c0_0) := (blk_cell BK126.out 0).trans rfl
              have hcz73_1 : wr.cell? ⟨gb126, 1, none⟩ = some (.slice A0_1 l0_1.length c0_1) := (blk_cell BK126.out 1).trans rfl
              have hcz73_2 : wr.cell? ⟨gb126, 2, none⟩ = some (.slice A0_2 l0_2.length c0_2) := (blk_cell BK126.out 2).trans rfl
              have hcz73_3 : wr.cell? ⟨gb126, 3, none⟩ = some (.int .i64 a0_3) := (blk_cell BK126.out 3).trans rfl
              have hcz73_4 : wr.cell? ⟨gb126, 4, none⟩ = some (.int .i64 a0_4) := (blk_cell BK126.out 4).trans rfl
              have hcz73_5 : wr.cell? ⟨gb126, 5, none⟩ = some (.int .i64 a0_5) := (blk_cell BK126.out 5).trans rfl
              have hcz73_6 : wr.cell? ⟨gb126, 6, none⟩ = some (.int .i64 a0_6) := (blk_cell BK126.out 6).trans rfl
              have hcz73_7 : wr.cell? ⟨gb126, 7, none⟩ = some (.int .i64 a0_7) := (blk_cell BK126.out 7).trans rfl
              have hcz73_8 : wr.cell? ⟨gb126, 8, none⟩ = some (.int .i64 a0_8) := (blk_cell BK126.out 8).trans rfl
              have hcz73_9 : wr.cell? ⟨gb126, 9, none⟩ = some (.slice A0_9 l0_9.length c0_9) := (blk_cell BK126.out 9).trans rfl
              have hcz73_10 : wr.cell? ⟨gb126, 10, none⟩ = some (.slice A0_10 l0_10.length c0_10) := (blk_cell BK126.out 10).trans rfl
              have hcz73_11 : wr.cell? ⟨gb126, 11, none⟩ = some (.slice A0_11 l0_11.length c0_11) := (blk_cell BK126.out 11).trans rfl
              have hcz73_12 : wr.cell? ⟨gb126, 12, none⟩ = some (.slice A0_12 l0_12.length c0_12) := (blk_cell BK126.out 12).trans rfl
              have hcz73_13 : wr.cell? ⟨gb126, 13, none⟩ = some (.int .i64 a0_13) := (blk_cell BK126.out 13).trans rfl
              have hcz73_14 : wr.cell? ⟨gb126, 14, none⟩ = some (.int .i64 a0_14) := (blk_cell BK126.out 14).trans rfl
              have hfz73_0 := blk_frozen BK126.out 0
              have hfz73_1 := blk_frozen BK126.out 1
              have hfz73_2 := blk_frozen BK126.out 2
              have hfz73_3 := blk_frozen BK126.out 3
              have hfz73_4 := blk_frozen BK126.out 4
              have hfz73_5 := blk_frozen BK126.out 5
              have hfz73_6 := blk_frozen BK126.out 6
              have hfz73_7 := blk_frozen BK126.out 7
              have hfz73_8 := blk_frozen BK126.out 8
              have hfz73_9 := blk_frozen BK126.out 9
              have hfz73_10 := blk_frozen BK126.out 10
              have hfz73_11 := blk_frozen BK126.out 11
              have hfz73_12 := blk_frozen BK126.out 12
              have hfz73_13 := blk_frozen BK126.out 13
              have hfz73_14 := blk_frozen BK126.out 14
              go_wp2
              repeat (go_quiet (fail); try go_wp2)
              go_loopg [6] k2 (fun kq v6 w' => ∃ (x6_3 : Int), v6 = .int .i64 x6_3 ∧ Aside0 (dormouseref09_Good.l1 kq x6_3 l0_0 l0_1 l0_2 a0_3 a0_4 a0_5 a0_6 a0_7 a0_8 l0_9 l0_10 l0_11 l0_12 a0_13 a0_14 = some r) ∧ Aside0 (kq ≤ k2) ∧ Aside0 (w'.heap[gb126]? = some (.cells #[(.slice A0_0 l0_0.length c0_0), (.slice A0_1 l0_1.length c0_1), (.slice A0_2 l0_2.length c0_2), .int .i64 a0_3, .int .i64 a0_4, .int .i64 a0_5, .int .i64 a0_6, .int .i64 a0_7, .int .i64 a0_8, (.slice A0_9 l0_9.length c0_9), (.slice A0_10 l0_10.length c0_10), (.slice A0_11 l0_11.length c0_11), (.slice A0_12 l0_12.length c0_12), .int .i64 a0_13, .int .i64 a0_14] 32 (0, 0))) ∧ Aside0 (Below w.heap.size w w'))
              case atStart => exact ⟨(0), (by first | rfl | (simp; done) | (simp [*]; done)), H', ⟨Nat.le_refl _⟩, ⟨by (with_reducible repeat (first | refine blk_drewN ?_ _ | refine blk_drew ?_ | refine blk_alloc ?_ _)); exact BK126.out⟩, ⟨by repeat (first | (with_reducible first | exact HB.out | apply below_alloc | apply pw_below_drewN | apply below_drew1 | refine below_set ?_ GE126.out) | exact HB.out)⟩⟩
              case round =>
                clear H'
                try clear c1
                try clear p1
                try clear q1
                try clear hx1
                try clear c2
                try clear p2
                try clear c4
                try clear c5
                try clear c6
                try clear p6
                try clear c13
                try clear p13
                try clear q13
                try clear hx13
                try clear c26
                try clear c26b0
                try clear c27
                try clear c44
                try clear c45
                try clear c45b0
                try clear c46
                try clear c46b0
                try clear c48
                try clear c49
                try clear c51
                try clear c54
                try clear c55
                try clear c55b0
                try clear c56
                try clear c56b0
                try clear c58
                try clear c59
                try clear c64
                try clear p64
                try clear c69
                try clear hcz29_14
                try clear hcz29_2
                try clear hcz29_3
                try clear hcz29_4
                try clear hcz29_5
                try clear hcz29_6
                try clear hcz29_7
                try clear hcz29_8
                try clear hcz29_9
                try clear hcz32_0
                try clear hcz32_1
                try clear hcz32_2
                try clear hcz32_3
                try clear hcz37_0
                try clear hcz37_1
                try clear hcz37_2
                try clear hcz37_3
                try clear hcz39_0
                try clear hcz39_1
                try clear hcz39_2
                try clear hcz39_3
                try clear hcz41_0
                try clear hcz41_1
                try clear hcz41_2
                try clear hcz41_3
                try clear hcz43_0
                try clear hcz43_1
                try clear hcz43_2
                try clear hcz43_3
                try clear hcz50_0
                try clear hcz50_1
                try clear hcz50_10
                try clear hcz50_11
                try clear hcz50_12
                try clear hcz50_13
                try clear hcz50_14
                try clear hcz50_2
                try clear hcz50_3
                try clear hcz50_4
                try clear hcz50_5
                try clear hcz50_6
                try clear hcz50_7
                try clear hcz50_8
                try clear hcz50_9
                try clear hcz52_0
                try clear hcz52_1
                try clear hcz52_10
                try clear hcz52_11
                try clear hcz52_12
                try clear hcz52_13
                try clear hcz52_14
                try clear hcz52_2
                try clear hcz52_3
                try clear hcz52_4
                try clear hcz52_5
                try clear hcz52_6
                try clear hcz52_7
                try clear hcz52_8
                try clear hcz52_9
                try clear hcz60_0
                try clear hcz60_1
                try clear hcz60_10
                try clear hcz60_11
                try clear hcz60_12
                try clear hcz60_13
                try clear hcz60_14
                try clear hcz60_2
                try clear hcz60_3
                try clear hcz60_4
                try clear hcz60_5
                try clear hcz60_6
                try clear hcz60_7
                try clear hcz60_8
                try clear hcz60_9
                try clear hcz61_0
                try clear hcz61_1
                try clear hcz61_2
                try clear hcz61_3
                try clear hcz63_0
                try clear hcz63_1
                try clear hcz63_10
                try clear hcz63_11
                try clear hcz63_12
                try clear hcz63_13
                try clear hcz63_14
                try clear hcz63_2
                try clear hcz63_3
                try clear hcz63_4
                try clear hcz63_5
                try clear hcz63_6
                try clear hcz63_7
                try clear hcz63_8
                try clear hcz63_9
                try clear hcz65_0
                try clear hcz65_1
                try clear hcz65_10
                try clear hcz65_11
                try clear hcz65_12
                try clear hcz65_13
                try clear hcz65_14
                try clear hcz65_2
                try clear hcz65_3
                try clear hcz65_4
                try clear hcz65_5
                try clear hcz65_6
                try clear hcz65_7
                try clear hcz65_8
                try clear hcz65_9
                try clear hcz66_0
                try clear hcz66_1
                try clear hcz66_2
                try clear hcz66_3
                try clear hcz68_0
                try clear hcz68_1
                try clear hcz68_10
                try clear hcz68_11
                try clear hcz68_12
                try clear hcz68_13
                try clear hcz68_14
                try clear hcz68_2
                try clear hcz68_3
                try clear hcz68_4
                try clear hcz68_5
                try clear hcz68_6
                try clear hcz68_7
                try clear hcz68_8
                try clear hcz68_9
                try clear hcz70_0
                try clear hcz70_1
                try clear hcz70_10
                try clear hcz70_11
                try clear hcz70_12
                try clear hcz70_13
                try clear hcz70_14
                try clear hcz70_2
                try clear hcz70_3
                try clear hcz70_4
                try clear hcz70_5
                try clear hcz70_6
                try clear hcz70_7
                try clear hcz70_8
                try clear hcz70_9
                try clear hcz71_0
                try clear hcz71_1
                try clear hcz71_2
                try clear hcz71_3
                try clear hcz73_0
                try clear hcz73_1
                try clear hcz73_10
                try clear hcz73_11
                try clear hcz73_12
                try clear hcz73_13
                try clear hcz73_14
                try clear hcz73_2
                try clear hcz73_3
                try clear hcz73_4
                try clear hcz73_5
                try clear hcz73_6
                try clear hcz73_7
                try clear hcz73_8
                try clear hcz73_9
                try clear hcz7_0
                try clear hcz7_1
                try clear hcz7_10
                try clear hcz7_11
                try clear hcz7_12
                try clear hcz7_13
                try clear hcz7_14
                try clear hcz7_2
                try clear hcz7_3
                try clear hcz7_4
                try clear hcz7_5
                try clear hcz7_6
                try clear hcz7_7
                try clear hcz7_8
                try clear hcz7_9
                try clear hcz9_0
                try clear hcz9_1
                try clear hcz9_10
                try clear hcz9_11
                try clear hcz9_12
                try clear hcz9_13
                try clear hcz9_14
                try clear hcz9_2
                try clear hcz9_3
                try clear hcz9_4
                try clear hcz9_5
                try clear hcz9_6
                try clear hcz9_7
                try clear hcz9_8
                try clear hcz9_9
                try clear hfz14_0
                try clear hfz14_1
                try clear hfz14_10
                try clear hfz14_11
                try clear hfz14_12
                try clear hfz14_13
                try clear hfz14_14
                try clear hfz14_2
                try clear hfz14_3
                try clear hfz14_4
                try clear hfz14_5
                try clear hfz14_6
                try clear hfz14_7
                try clear hfz14_8
                try clear hfz14_9
                try clear hfz16_0
                try clear hfz16_1
                try clear hfz16_10
                try clear hfz16_11
                try clear hfz16_12
                try clear hfz16_13
                try clear hfz16_14
                try clear hfz16_2
                try clear hfz16_3
                try clear hfz16_4
                try clear hfz16_5
                try clear hfz16_6
                try clear hfz16_7
                try clear hfz16_8
                try clear hfz16_9
                try clear hfz17_0
                try clear hfz17_1
                try clear hfz17_10
                try clear hfz17_11
                try clear hfz17_12
                try clear hfz17_13
                try clear hfz17_14
                try clear hfz17_2
                try clear hfz17_3
                try clear hfz17_4
                try clear hfz17_5
                try clear hfz17_6
                try clear hfz17_7
                try clear hfz17_8
                try clear hfz17_9
                try clear hfz19_0
                try clear hfz19_1
                try clear hfz19_10
                try clear hfz19_11
                try clear hfz19_12
                try clear hfz19_13
                try clear hfz19_14
                try clear hfz19_2
                try clear hfz19_3
                try clear hfz19_4
                try clear hfz19_5
                try clear hfz19_6
                try clear hfz19_7
                try clear hfz19_8
                try clear hfz19_9
                try clear hfz20_0
                try clear hfz20_1
                try clear hfz20_10
                try clear hfz20_11
                try clear hfz20_12
                try clear hfz20_13
                try clear hfz20_14
                try clear hfz20_2
                try clear hfz20_3
                try clear hfz20_4
                try clear hfz20_5
                try clear hfz20_6
                try clear hfz20_7
                try clear hfz20_8
                try clear hfz20_9
                try clear hfz22_0
                try clear hfz22_1
                try clear hfz22_10
                try clear hfz22_11
                try clear hfz22_12
                try clear hfz22_13
                try clear hfz22_14
                try clear hfz22_2
                try clear hfz22_3
                try clear hfz22_4
                try clear hfz22_5
                try clear hfz22_6
                try clear hfz22_7
                try clear hfz22_8
                try clear hfz22_9
                try clear hfz23_0
                try clear hfz23_1
                try clear hfz23_10
                try clear hfz23_11
                try clear hfz23_12
                try clear hfz23_13
                try clear hfz23_14
                try clear hfz23_2
                try clear hfz23_3
                try clear hfz23_4
                try clear hfz23_5
                try clear hfz23_6
                try clear hfz23_7
                try clear hfz23_8
                try clear hfz23_9
                try clear hfz29_0
                try clear hfz29_1
                try clear hfz29_10
                try clear hfz29_11
                try clear hfz29_12
                try clear hfz29_13
                try clear hfz29_14
                try clear hfz29_2
                try clear hfz29_3
                try clear hfz29_4
                try clear hfz29_5
                try clear hfz29_6
                try clear hfz29_7
                try clear hfz29_8
                try clear hfz29_9
                try clear hfz32_0
                try clear hfz32_1
                try clear hfz32_2
                try clear hfz32_3
                try clear hfz37_0
                try clear hfz37_1
                try clear hfz37_2
                try clear hfz37_3
                try clear hfz39_0
                try clear hfz39_1
                try clear hfz39_2
                try clear hfz39_3
                try clear hfz41_0
                try clear hfz41_1
                try clear hfz41_2
                try clear hfz41_3
                try clear hfz43_0
                try clear hfz43_1
                try clear hfz43_2
                try clear hfz43_3
                try clear hfz50_0
                try clear hfz50_1
                try clear hfz50_10
                try clear hfz50_11
                try clear hfz50_12
                try clear hfz50_13
                try clear hfz50_14
                try clear hfz50_2
                try clear hfz50_3
                try clear hfz50_4
                try clear hfz50_5
                try clear hfz50_6
                try clear hfz50_7
                try clear hfz50_8
                try clear hfz50_9
                try clear hfz52_0
                try clear hfz52_1
                try clear hfz52_10
                try clear hfz52_11
                try clear hfz52_12
                try clear hfz52_13
                try clear hfz52_14
                try clear hfz52_2
                try clear hfz52_3
                try clear hfz52_4
                try clear hfz52_5
                try clear hfz52_6
                try clear hfz52_7
                try clear hfz52_8
                try clear hfz52_9
                try clear hfz60_0
                try clear hfz60_1
                try clear hfz60_10
                try clear hfz60_11
                try clear hfz60_12
                try clear hfz60_13
                try clear hfz60_14
                try clear hfz60_2
                try clear hfz60_3
                try clear hfz60_4
                try clear hfz60_5
                try clear hfz60_6
                try clear hfz60_7
                try clear hfz60_8
                try clear hfz60_9
                try clear hfz61_0
                try clear hfz61_1
                try clear hfz61_2
                try clear hfz61_3
                try clear hfz63_0
                try clear hfz63_1
                try clear hfz63_10
                try clear hfz63_11
                try clear hfz63_12
                try clear hfz63_13
                try clear hfz63_14
                try clear hfz63_2
                try clear hfz63_3
                try clear hfz63_4
                try clear hfz63_5
                try clear hfz63_6
                try clear hfz63_7
                try clear hfz63_8
                try clear hfz63_9
                try clear hfz65_0
                try clear hfz65_1
                try clear hfz65_10
                try clear hfz65_11
                try clear hfz65_12
                try clear hfz65_13
                try clear hfz65_14
                try clear hfz65_2
                try clear hfz65_3
                try clear hfz65_4
                try clear hfz65_5
                try clear hfz65_6
                try clear hfz65_7
                try clear hfz65_8
                try clear hfz65_9
                try clear hfz66_0
                try clear hfz66_1
                try clear hfz66_2
                try clear hfz66_3
                try clear hfz68_0
                try clear hfz68_1
                try clear hfz68_10
                try clear hfz68_11
                try clear hfz68_12
                try clear hfz68_13
                try clear hfz68_14
                try clear hfz68_2
                try clear hfz68_3
                try clear hfz68_4
                try clear hfz68_5
                try clear hfz68_6
                try clear hfz68_7
                try clear hfz68_8
                try clear hfz68_9
                try clear hfz70_0
                try clear hfz70_1
                try clear hfz70_10
                try clear hfz70_11
                try clear hfz70_12
                try clear hfz70_13
                try clear hfz70_14
                try clear hfz70_2
                try clear hfz70_3
                try clear hfz70_4
                try clear hfz70_5
                try clear hfz70_6
                try clear hfz70_7
                try clear hfz70_8
                try clear hfz70_9
                try clear hfz71_0
                try clear hfz71_1
                try clear hfz71_2
                try clear hfz71_3
                try clear hfz73_0
                try clear hfz73_1
                try clear hfz73_10
                try clear hfz73_11
                try clear hfz73_12
                try clear hfz73_13
                try clear hfz73_14
                try clear hfz73_2
                try clear hfz73_3
                try clear hfz73_4
                try clear hfz73_5
                try clear hfz73_6
                try clear hfz73_7
                try clear hfz73_8
                try clear hfz73_9
                try clear hfz7_0
                try clear hfz7_1
                try clear hfz7_10
                try clear hfz7_11
                try clear hfz7_12
                try clear hfz7_13
                try clear hfz7_14
                try clear hfz7_2
                try clear hfz7_3
                try clear hfz7_4
                try clear hfz7_5
                try clear hfz7_6
                try clear hfz7_7
                try clear hfz7_8
                try clear hfz7_9
                try clear hfz9_0
                try clear hfz9_1
                try clear hfz9_10
                try clear hfz9_11
                try clear hfz9_12
                try clear hfz9_13
                try clear hfz9_14
                try clear hfz9_2
                try clear hfz9_3
                try clear hfz9_4
                try clear hfz9_5
                try clear hfz9_6
                try clear hfz9_7
                try clear hfz9_8
                try clear hfz9_9
                try clear hx130_0
                try clear hx130_1
                try clear hx130_2
                try clear hx130_3
                try clear hx132_0
                try clear hx135_0
                try clear p130
                try clear p132
                try clear p135
                try clear p2
                try clear q130
                try clear q132
                try clear q135
                obtain ⟨x6_3, rfl, HA, HK3, BK126, HB⟩ := hrel
                cases gk with
                | zero => exact absurd HA.out (by simp [dormouseref09_Good.l1])
                | succ k3 =>
                  have H := HA.out
                  clear HA
                  simp only [dormouseref09_Good.l1] at H
                  by_cases c74 : x6_3 < (l0_11.length : Int)
                  · rw [if_pos c74] at H
                    exact absurd H (by simp)
                  · rw [if_neg c74] at H
                    have c74b0 : decide (x6_3 < (l0_11.length : Int)) = false := decide_eq_false c74
                    clear c74
                    have H' := Aside0.mk H
                    clear H
                    have hcz122_0 : wr.cell? ⟨gb126, 0, none⟩ = some (.slice A0_0 l0_0.length c0_0) := (blk_cell BK126.out 0).trans rfl
                    have hcz122_1 : wr.cell? ⟨gb126, 1, none⟩ = some (.slice A0_1 l0_1.length c0_1) := (blk_cell BK126.out 1).trans rfl
                    have hcz122_2 : wr.cell? ⟨gb126, 2, none⟩ = some (.slice A0_2 l0_2.length c0_2) := (blk_cell BK126.out 2).trans rfl
                    have hcz122_3 : wr.cell? ⟨gb126, 3, none⟩ = some (.int .i64 a0_3) := (blk_cell BK126.out 3).trans rfl
                    have hcz122_4 : wr.cell? ⟨gb126, 4, none⟩ = some (.int .i64 a0_4) := (blk_cell BK126.out 4).trans rfl
                    have hcz122_5 : wr.cell? ⟨gb126, 5, none⟩ = some (.int .i64 a0_5) := (blk_cell BK126.out 5).trans rfl
                    have hcz122_6 : wr.cell? ⟨gb126, 6, none⟩ = some (.int .i64 a0_6) := (blk_cell BK126.out 6).trans rfl
                    have hcz122_7 : wr.cell? ⟨gb126, 7, none⟩ = some (.int .i64 a0_7) := (blk_cell BK126.out 7).trans rfl
                    have hcz122_8 : wr.cell? ⟨gb126, 8, none⟩ = some (.int .i64 a0_8) := (blk_cell BK126.out 8).trans rfl
                    have hcz122_9 : wr.cell? ⟨gb126, 9, none⟩ = some (.slice A0_9 l0_9.length c0_9) := (blk_cell BK126.out 9).trans rfl
                    have hcz122_10 : wr.cell? ⟨gb126, 10, none⟩ = some (.slice A0_10 l0_10.length c0_10) := (blk_cell BK126.out 10).trans rfl
                    have hcz122_11 : wr.cell? ⟨gb126, 11, none⟩ = some (.slice A0_11 l0_11.length c0_11) := (blk_cell BK126.out 11).trans rfl
                    have hcz122_12 : wr.cell? ⟨gb126, 12, none⟩ = some (.slice A0_12 l0_12.length c0_12) := (blk_cell BK126.out 12).trans rfl
                    have hcz122_13 : wr.cell? ⟨gb126, 13, none⟩ = some (.int .i64 a0_13) := (blk_cell BK126.out 13).trans rfl
                    have hcz122_14 : wr.cell? ⟨gb126, 14, none⟩ = some (.int .i64 a0_14) := (blk_cell BK126.out 14).trans rfl
                    have hfz122_0 := blk_frozen BK126.out 0
                    have hfz122_1 := blk_frozen BK126.out 1
                    have hfz122_2 := blk_frozen BK126.out 2
                    have hfz122_3 := blk_frozen BK126.out 3
                    have hfz122_4 := blk_frozen BK126.out 4
                    have hfz122_5 := blk_frozen BK126.out 5
                    have hfz122_6 := blk_frozen BK126.out 6
                    have hfz122_7 := blk_frozen BK126.out 7
                    have hfz122_8 := blk_frozen BK126.out 8
                    have hfz122_9 := blk_frozen BK126.out 9
                    have hfz122_10 := blk_frozen BK126.out 10
                    have hfz122_11 := blk_frozen BK126.out 11
                    have hfz122_12 := blk_frozen BK126.out 12
                    have hfz122_13 := blk_frozen BK126.out 13
                    have hfz122_14 := blk_frozen BK126.out 14
                    go_wp2
                    repeat (go_quiet (fail); try go_wp2)
                    go_loopg [9] k3 (fun kq v9 w' => ∃ (x9_4 : Int), v9 = .int .i64 x9_4 ∧ Aside0 (dormouseref09_Good.l3 kq x9_4 l0_0 l0_1 l0_2 a0_3 a0_4 a0_5 a0_6 a0_7 a0_8 l0_9 l0_10 l0_11 l0_12 a0_13 a0_14 = some r) ∧ Aside0 (kq ≤ k3) ∧ Aside0 (w'.heap[gb126]? = some (.cells #[(.slice A0_0 l0_0.length c0_0), (.slice A0_1 l0_1.length c0_1), (.slice A0_2 l0_2.length c0_2), .int .i64 a0_3, .int .i64 a0_4, .int .i64 a0_5, .int .i64 a0_6, .int .i64 a0_7, .int .i64 a0_8, (.slice A0_9 l0_9.length c0_9), (.slice A0_10 l0_10.length c0_10), (.slice A0_11 l0_11.length c0_11), (.slice A0_12 l0_12.length c0_12), .int .i64 a0_13, .int .i64 a0_14] 32 (0, 0))) ∧ Aside0 (Below w.heap.size w w'))
                    case atStart => exact ⟨(0), (by first | rfl | (simp; done) | (simp [*]; done)), H', ⟨Nat.le_refl _⟩, ⟨by (with_reducible repeat (first | refine blk_drewN ?_ _ | refine blk_drew ?_ | refine blk_alloc ?_ _)); exact BK126.out⟩, ⟨by repeat (first | (with_reducible first | exact HB.out | apply below_alloc | apply pw_below_drewN | apply below_drew1 | refine below_set ?_ GE126.out) | exact HB.out)⟩⟩
                    case round =>
                      clear H'
                      try clear c1
                      try clear p1
                      try clear q1
                      try clear hx1
                      try clear p2
                      try clear p6
                      try clear c7
                      try clear c8
                      try clear c9
                      try clear c10
                      try clear c11
                      try clear c13
                      try clear p13
                      try clear q13
                      try clear hx13
                      try clear p14
                      try clear q14
                      try clear hx14
                      try clear p64
                      try clear c74
                      try clear c74b0
                      try clear c75
                      try clear c84
                      try clear c84b0
                      try clear c88
                      try clear c88b0
                      try clear c89
                      try clear c89b0
                      try clear c90
                      try clear c90b0
                      try clear c90b1
                      try clear c91
                      try clear c95
                      try clear c97
                      try clear c98
                      try clear c98b0
                      try clear c99
                      try clear c102
                      try clear c105
                      try clear c108
                      try clear c111
                      try clear c112
                      try clear c112b0
                      try clear c113
                      try clear c113b0
                      try clear c114
                      try clear c114b0
                      try clear c115
                      try clear c115b0
                      try clear c115b1
                      try clear c116
                      try clear c119
                      try clear hcz100_0
                      try clear hcz100_1
                      try clear hcz100_2
                      try clear hcz100_3
                      try clear hcz100_4
                      try clear hcz100_5
                      try clear hcz101_0
                      try clear hcz101_1
                      try clear hcz101_10
                      try clear hcz101_11
                      try clear hcz101_12
                      try clear hcz101_13
                      try clear hcz101_14
                      try clear hcz101_2
                      try clear hcz101_3
                      try clear hcz101_4
                      try clear hcz101_5
                      try clear hcz101_6
                      try clear hcz101_7
                      try clear hcz101_8
                      try clear hcz101_9
                      try clear hcz103_0
                      try clear hcz103_1
                      try clear hcz103_2
                      try clear hcz103_3
                      try clear hcz103_4
                      try clear hcz103_5
                      try clear hcz104_0
                      try clear hcz104_1
                      try clear hcz104_10
                      try clear hcz104_11
                      try clear hcz104_12
                      try clear hcz104_13
                      try clear hcz104_14
                      try clear hcz104_2
                      try clear hcz104_3
                      try clear hcz104_4
                      try clear hcz104_5
                      try clear hcz104_6
                      try clear hcz104_7
                      try clear hcz104_8
                      try clear hcz104_9
                      try clear hcz106_0
                      try clear hcz106_1
                      try clear hcz106_2
                      try clear hcz106_3
                      try clear hcz106_4
                      try clear hcz106_5
                      try clear hcz107_0
                      try clear hcz107_1
                      try clear hcz107_10
                      try clear hcz107_11
                      try clear hcz107_12
                      try clear hcz107_13
                      try clear hcz107_14
                      try clear hcz107_2
                      try clear hcz107_3
                      try clear hcz107_4
                      try clear hcz107_5
                      try clear hcz107_6
                      try clear hcz107_7
                      try clear hcz107_8
                      try clear hcz107_9
                      try clear hcz109_0
                      try clear hcz109_1
                      try clear hcz109_2
                      try clear hcz109_3
                      try clear hcz109_4
                      try clear hcz109_5
                      try clear hcz110_0
                      try clear hcz110_1
                      try clear hcz110_10
                      try clear hcz110_11
                      try clear hcz110_12
                      try clear hcz110_13
                      try clear hcz110_14
                      try clear hcz110_2
                      try clear hcz110_3
                      try clear hcz110_4
                      try clear hcz110_5
                      try clear hcz110_6
                      try clear hcz110_7
                      try clear hcz110_8
                      try clear hcz110_9
                      try clear hcz117_0
                      try clear hcz117_1
                      try clear hcz117_10
                      try clear hcz117_11
                      try clear hcz117_12
                      try clear hcz117_13
                      try clear hcz117_14
                      try clear hcz117_2
                      try clear hcz117_3
                      try clear hcz117_4
                      try clear hcz117_5
                      try clear hcz117_6
                      try clear hcz117_7
                      try clear hcz117_8
                      try clear hcz117_9
                      try clear hcz118_0
                      try clear hcz118_1
                      try clear hcz118_2
                      try clear hcz118_3
                      try clear hcz118_4
                      try clear hcz118_5
                      try clear hcz120_0
                      try clear hcz120_1
                      try clear hcz120_10
                      try clear hcz120_11
                      try clear hcz120_12
                      try clear hcz120_13
                      try clear hcz120_14
                      try clear hcz120_2
                      try clear hcz120_3
                      try clear hcz120_4
                      try clear hcz120_5
                      try clear hcz120_6
                      try clear hcz120_7
                      try clear hcz120_8
                      try clear hcz120_9
                      try clear hcz121_0
                      try clear hcz121_1
                      try clear hcz121_2
                      try clear hcz121_3
                      try clear hcz121_4
                      try clear hcz121_5
                      try clear hcz122_0
                      try clear hcz122_1
                      try clear hcz122_10
                      try clear hcz122_11
                      try clear hcz122_12
                      try clear hcz122_13
                      try clear hcz122_14
                      try clear hcz122_2
                      try clear hcz122_3
                      try clear hcz122_4
                      try clear hcz122_5
                      try clear hcz122_6
                      try clear hcz122_7
                      try clear hcz122_8
                      try clear hcz122_9
                      try clear hcz92_0
                      try clear hcz92_1
                      try clear hcz92_2
                      try clear hcz92_3
                      try clear hcz92_4
                      try clear hcz92_5
                      try clear hcz93_0
                      try clear hcz93_1
                      try clear hcz93_10
                      try clear hcz93_11
                      try clear hcz93_12
                      try clear hcz93_13
                      try clear hcz93_14
                      try clear hcz93_2
                      try clear hcz93_3
                      try clear hcz93_4
                      try clear hcz93_5
                      try clear hcz93_6
                      try clear hcz93_7
                      try clear hcz93_8
                      try clear hcz93_9
                      try clear hfz100_0
                      try clear hfz100_1
                      try clear hfz100_2
                      try clear hfz100_3
                      try clear hfz100_4
                      try clear hfz100_5
                      try clear hfz101_0
                      try clear hfz101_1
                      try clear hfz101_10
                      try clear hfz101_11
                      try clear hfz101_12
                      try clear hfz101_13
                      try clear hfz101_14
                      try clear hfz101_2
                      try clear hfz101_3
                      try clear hfz101_4
                      try clear hfz101_5
                      try clear hfz101_6
                      try clear hfz101_7
                      try clear hfz101_8
                      try clear hfz101_9
                      try clear hfz103_0
                      try clear hfz103_1
                      try clear hfz103_2
                      try clear hfz103_3
                      try clear hfz103_4
                      try clear hfz103_5
                      try clear hfz104_0
                      try clear hfz104_1
                      try clear hfz104_10
                      try clear hfz104_11
                      try clear hfz104_12
                      try clear hfz104_13
                      try clear hfz104_14
                      try clear hfz104_2
                      try clear hfz104_3
                      try clear hfz104_4
                      try clear hfz104_5
                      try clear hfz104_6
                      try clear hfz104_7
                      try clear hfz104_8
                      try clear hfz104_9
                      try clear hfz106_0
                      try clear hfz106_1
                      try clear hfz106_2
                      try clear hfz106_3
                      try clear hfz106_4
                      try clear hfz106_5
                      try clear hfz107_0
                      try clear hfz107_1
                      try clear hfz107_10
                      try clear hfz107_11
                      try clear hfz107_12
                      try clear hfz107_13
                      try clear hfz107_14
                      try clear hfz107_2
                      try clear hfz107_3
                      try clear hfz107_4
                      try clear hfz107_5
                      try clear hfz107_6
                      try clear hfz107_7
                      try clear hfz107_8
                      try clear hfz107_9
                      try clear hfz109_0
                      try clear hfz109_1
                      try clear hfz109_2
                      try clear hfz109_3
                      try clear hfz109_4
                      try clear hfz109_5
                      try clear hfz110_0
                      try clear hfz110_1
                      try clear hfz110_10
                      try clear hfz110_11
                      try clear hfz110_12
                      try clear hfz110_13
                      try clear hfz110_14
                      try clear hfz110_2
                      try clear hfz110_3
                      try clear hfz110_4
                      try clear hfz110_5
                      try clear hfz110_6
                      try clear hfz110_7
                      try clear hfz110_8
                      try clear hfz110_9
                      try clear hfz117_0
                      try clear hfz117_1
                      try clear hfz117_10
                      try clear hfz117_11
                      try clear hfz117_12
                      try clear hfz117_13
                      try clear hfz117_14
                      try clear hfz117_2
                      try clear hfz117_3
                      try clear hfz117_4
                      try clear hfz117_5
                      try clear hfz117_6
                      try clear hfz117_7
                      try clear hfz117_8
                      try clear hfz117_9
                      try clear hfz118_0
                      try clear hfz118_1
                      try clear hfz118_2
                      try clear hfz118_3
                      try clear hfz118_4
                      try clear hfz118_5
                      try clear hfz120_0
                      try clear hfz120_1
                      try clear hfz120_10
                      try clear hfz120_11
                      try clear hfz120_12
                      try clear hfz120_13
                      try clear hfz120_14
                      try clear hfz120_2
                      try clear hfz120_3
                      try clear hfz120_4
                      try clear hfz120_5
                      try clear hfz120_6
                      try clear hfz120_7
                      try clear hfz120_8
                      try clear hfz120_9
                      try clear hfz121_0
                      try clear hfz121_1
                      try clear hfz121_2
                      try clear hfz121_3
                      try clear hfz121_4
                      try clear hfz121_5
                      try clear hfz122_0
                      try clear hfz122_1
                      try clear hfz122_10
                      try clear hfz122_11
                      try clear hfz122_12
                      try clear hfz122_13
                      try clear hfz122_14
                      try clear hfz122_2
                      try clear hfz122_3
                      try clear hfz122_4
                      try clear hfz122_5
                      try clear hfz122_6
                      try clear hfz122_7
                      try clear hfz122_8
                      try clear hfz122_9
                      try clear hfz92_0
                      try clear hfz92_1
                      try clear hfz92_2
                      try clear hfz92_3
                      try clear hfz92_4
                      try clear hfz92_5
                      try clear hfz93_0
                      try clear hfz93_1
                      try clear hfz93_10
                      try clear hfz93_11
                      try clear hfz93_12
                      try clear hfz93_13
                      try clear hfz93_14
                      try clear hfz93_2
                      try clear hfz93_3
                      try clear hfz93_4
                      try clear hfz93_5
                      try clear hfz93_6
                      try clear hfz93_7
                      try clear hfz93_8
                      try clear hfz93_9
                      try clear hx139_0
                      try clear hx139_1
                      try clear hx139_2
                      try clear hx139_3
                      try clear hx142_0
                      try clear hx142_1
                      try clear hx142_2
                      try clear hx142_3
                      try clear hx142_4
                      try clear hx142_5
                      try clear p1
                      try clear p13
                      try clear p139
                      try clear p142
                      try clear p2
                      try clear q1
                      try clear q13
                      try clear q139
                      try clear q142
                      obtain ⟨x9_4, rfl, HA, HK4, BK126, HB⟩ := hrel
                      cases gk with
                      | zero => exact absurd HA.out (by simp [dormouseref09_Good.l3])
                      | succ k4 =>
                        have H := HA.out
                        clear HA
                        simp only [dormouseref09_Good.l3] at H
                        by_cases c123 : x9_4 < (l0_12.length : Int)
                        · rw [if_pos c123] at H
                          exact absurd H (by simp)
                        · rw [if_neg c123] at H
                          have c123b0 : decide (x9_4 < (l0_12.length : Int)) = false := decide_eq_false c123
                          clear c123
                          obtain rfl := Option.some.inj H
                          have hcz172_0 : wr.cell? ⟨gb126, 0, none⟩ = some (.slice A0_0 l0_0.length c0_0) := (blk_cell BK126.out 0).trans rfl
                          have hcz172_1 : wr.cell? ⟨gb126, 1, none⟩ = some (.slice A0_1 l0_1.length c0_1) := (blk_cell BK126.out 1).trans rfl
                          have hcz172_2 : wr.cell? ⟨gb126, 2, none⟩ = some (.slice A0_2 l0_2.length c0_2) := (blk_cell BK126.out 2).trans rfl
                          have hcz172_3 : wr.cell? ⟨gb126, 3, none⟩ = some (.int .i64 a0_3) := (blk_cell BK126.out 3).trans rfl
                          have hcz172_4 : wr.cell? ⟨gb126, 4, none⟩ = some (.int .i64 a0_4) := (blk_cell BK126.out 4).trans rfl
                          have hcz172_5 : wr.cell? ⟨gb126, 5, none⟩ = some (.int .i64 a0_5) := (blk_cell BK126.out 5).trans rfl
                          have hcz172_6 : wr.cell? ⟨gb126, 6, none⟩ = some (.int .i64 a0_6) := (blk_cell BK126.out 6).trans rfl
                          have hcz172_7 : wr.cell? ⟨gb126, 7, none⟩ = some (.int .i64 a0_7) := (blk_cell BK126.out 7).trans rfl
                          have hcz172_8 : wr.cell? ⟨gb126, 8, none⟩ = some (.int .i64 a0_8) := (blk_cell BK126.out 8).trans rfl
                          have hcz172_9 : wr.cell? ⟨gb126, 9, none⟩ = some (.slice A0_9 l0_9.length c0_9) := (blk_cell BK126.out 9).trans rfl
                          have hcz172_10 : wr.cell? ⟨gb126, 10, none⟩ = some (.slice A0_10 l0_10.length c0_10) := (blk_cell BK126.out 10).trans rfl
                          have hcz172_11 : wr.cell? ⟨gb126, 11, none⟩ = some (.slice A0_11 l0_11.length c0_11) := (blk_cell BK126.out 11).trans rfl
                          have hcz172_12 : wr.cell? ⟨gb126, 12, none⟩ = some (.slice A0_12 l0_12.length c0_12) := (blk_cell BK126.out 12).trans rfl
                          have hcz172_13 : wr.cell? ⟨gb126, 13, none⟩ = some (.int .i64 a0_13) := (blk_cell BK126.out 13).trans rfl
                          have hcz172_14 : wr.cell? ⟨gb126, 14, none⟩ = some (.int .i64 a0_14) := (blk_cell BK126.out 14).trans rfl
                          have hfz172_0 := blk_frozen BK126.out 0
                          have hfz172_1 := blk_frozen BK126.out 1
                          have hfz172_2 := blk_frozen BK126.out 2
                          have hfz172_3 := blk_frozen BK126.out 3
                          have hfz172_4 := blk_frozen BK126.out 4
                          have hfz172_5 := blk_frozen BK126.out 5
                          have hfz172_6 := blk_frozen BK126.out 6
                          have hfz172_7 := blk_frozen BK126.out 7
                          have hfz172_8 := blk_frozen BK126.out 8
                          have hfz172_9 := blk_frozen BK126.out 9
                          have hfz172_10 := blk_frozen BK126.out 10
                          have hfz172_11 := blk_frozen BK126.out 11
                          have hfz172_12 := blk_frozen BK126.out 12
                          have hfz172_13 := blk_frozen BK126.out 13
                          have hfz172_14 := blk_frozen BK126.out 14
                          go_wp2
                          repeat (go_quiet (fail); try go_wp2)
                          go_ret
                          exact ⟨by first | rfl | (simp [errW_none, errW_some] <;> rfl) | (simp [*, errW_none, errW_some] <;> rfl), by repeat (first | (with_reducible first | exact HB.out | apply below_alloc | apply pw_below_drewN | apply below_drew1 | refine below_set ?_ GE126.out) | exact HB.out)⟩
end
end Go.Proofs.Ytchlbnlhjllcbaa.F
