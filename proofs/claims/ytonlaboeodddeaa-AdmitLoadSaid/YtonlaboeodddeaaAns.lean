/- What a program that does nothing does not answer: chapter 10's own examples, walked. -/
import Derived.Test.YtonlaboeodddeaaTblS
import Derived.Test.YtonlaboeodddeaaG2
namespace Go.Proofs.Ytonlaboeodddeaa.Ans
open Go.RowKit Go.Proofs.Ytonlaboeodddeaa.F Go.Proofs.Ytonlaboeodddeaa.Tbl Go.Proofs.YtonlaboeodddeaaW.PrintWords Go.Proofs.YtonlaboeodddeaaW.PrintLast Go.Proofs.YtonlaboeodddeaaW.PrintMore
attribute [local go_sem] max2_int min2_int max_two min_two max_three min_three max_four min_four

theorem C_block {α : Type} {d : Kd α} {w : World} {g : Nat} {cells : Array Value} {e : TypeId} (h : w.heap[g]? = some (.cells cells e (0, 0))) (xs : List α) (hn : xs.length ≤ 1000)
    (hx : ∀ (j : Nat) (p : α), xs[j]? = some p → ∃ c, c.length = d.sz ∧ d.K w p c ∧ ∀ (i : Nat) (u : Value), c[i]? = some u → cells[j * d.sz + i]? = some u) : Kd.C d w (some ⟨g, 0, none⟩) xs.length xs := by
  refine ⟨rfl, by omega, fun _ => ⟨_, rfl, fun j p hj => ?_⟩⟩
  obtain ⟨c, h0, h1, h2⟩ := hx j p hj
  refine ⟨c, h0, h1, fun i u hu => ?_⟩
  have := blk_cell h (j * d.sz + i)
  rw [h2 i u hu] at this
  have e : ∀ n : Nat, (⟨g, 0, none⟩ : Addr).add n = ⟨g, n, none⟩ := fun n => by unfold Addr.add; split <;> simp_all
  rw [e]; exact this
theorem bdr {w W w2 : World} (h : Below w.heap.size w W) (k : Drawn0 W w2) : Below w.heap.size w w2 := by obtain ⟨n, rfl⟩ := k.out; exact pw_below_drewN h n


def Box (w : World) (b g : Nat) : Prop := w.cell? ⟨b, 0, none⟩ = some (.slice (some ⟨g, 0, none⟩) 1 1) ∧ w.cell? ⟨b, 1, none⟩ = some (.slice none 0 0) ∧ w.cell? ⟨b, 2, none⟩ = some (.slice none 0 0) ∧ w.cell? ⟨b, 3, none⟩ = some (.int .i64 0) ∧ w.cell? ⟨b, 4, none⟩ = some (.int .i64 0) ∧ w.cell? ⟨b, 5, none⟩ = some (.int .i64 0) ∧ w.cell? ⟨b, 6, none⟩ = some (.int .i64 0) ∧ w.cell? ⟨b, 7, none⟩ = some (.int .i64 0) ∧ w.cell? ⟨b, 8, none⟩ = some (.int .i64 50)
theorem box_below {w w' : World} {b g : Nat} (h : Box w b g) (hb : Below w.heap.size w w') : Box w' b g :=
  ⟨pw_cell_below hb h.1, pw_cell_below hb h.2.1, pw_cell_below hb h.2.2.1, pw_cell_below hb h.2.2.2.1, pw_cell_below hb h.2.2.2.2.1, pw_cell_below hb h.2.2.2.2.2.1, pw_cell_below hb h.2.2.2.2.2.2.1, pw_cell_below hb h.2.2.2.2.2.2.2.1, pw_cell_below hb h.2.2.2.2.2.2.2.2⟩
def TBox (w : World) (b : Nat) : Prop := w.cell? ⟨b, 0, none⟩ = some (.int .i64 4) ∧ w.cell? ⟨b, 1, none⟩ = some (.int .i64 3) ∧ w.cell? ⟨b, 2, none⟩ = some (.slice none 0 0) ∧ w.cell? ⟨b, 3, none⟩ = some (.slice none 0 0)
theorem tbox_below {w w' : World} {b : Nat} (h : TBox w b) (hb : Below w.heap.size w w') : TBox w' b := ⟨pw_cell_below hb h.1, pw_cell_below hb h.2.1, pw_cell_below hb h.2.2.1, pw_cell_below hb h.2.2.2⟩
theorem al {w : World} {o : Obj} {a : Addr} {v : Value} (h : w.cell? a = some v) : (w.alloc o).cell? a = some v := pw_cell_below ((Below.refl _ _).alloc (Nat.le_refl _) o) h
theorem undrew {w w' : World} (hb : Below w.drew.heap.size w.drew w') : Below w.heap.size w w' := below_step (below_drew1 (Below.refl _ _)) hb
def lcells : Array Value := #[.int .i64 1, .int .i64 0]
def pcells (g : Nat) : Array Value := #[.slice (some ⟨g, 0, none⟩) 1 1, .slice none 0 0, .slice none 0 0, .int .i64 0, .int .i64 0, .int .i64 0, .int .i64 0, .int .i64 0, .int .i64 50]
theorem box_of {w : World} {b g : Nat} (hh : w.heap[b]? = some (.cells (pcells g) 26 (0, 0))) : Box w b g := ⟨(blk_cell hh 0).trans rfl, (blk_cell hh 1).trans rfl, (blk_cell hh 2).trans rfl, (blk_cell hh 3).trans rfl, (blk_cell hh 4).trans rfl, (blk_cell hh 5).trans rfl, (blk_cell hh 6).trans rfl, (blk_cell hh 7).trans rfl, (blk_cell hh 8).trans rfl⟩
def lv : List S34 := [⟨1, 0⟩]
theorem lvC {w : World} {g : Nat} (h : w.heap[g]? = some (.cells lcells 34 (0, 0))) : Kd.C k34 w (some ⟨g, 0, none⟩) lv.length lv := by
  refine C_block h lv (by decide) ?_
  intro j p hj
  match j, hj with
  | 0, hj => obtain rfl := Option.some.inj hj; exact ⟨[.int .i64 1, .int .i64 0], rfl, k34_mk _ _, fun i u hu => by match i, hu with | 0, hu => exact hu | 1, hu => exact hu⟩
def tk : S29 := ⟨4, 3, [], []⟩
theorem fits1 : admit_Fits.f 30 lv [] [] 0 0 0 0 0 50 [tk] = some true := by decide +kernel
theorem load1 : admit_Load.f 30 lv [] [] 0 0 0 0 0 50 [tk] 0 = some 4294967296 := by decide +kernel
theorem block1 : admit_Block.f 30 lv [] [] 0 0 0 0 0 50 [tk] 4 = some 1 := by decide +kernel
theorem fits2 : admit_Fits.f 30 lv [] [] 0 0 0 0 0 50 [tk, tk] = some false := by decide +kernel

theorem nilC {α : Type} (d : Kd α) (W : World) : Kd.C d W none ([] : List α).length [] := ⟨rfl, by simp, fun h => absurd h (Nat.lt_irrefl _)⟩
def tcells : List Value := [.int .i64 4, .int .i64 3, .slice none 0 0, .slice none 0 0]
abbrev PV (g : Nat) : Value := .agg #[.slice (some ⟨g, 0, none⟩) 1 1, .slice none 0 0, .slice none 0 0, .int .i64 0, .int .i64 0, .int .i64 0, .int .i64 0, .int .i64 0, .int .i64 50]
theorem c_fits1 {W : World} {g t : Nat} (h : Kd.C k34 W (some ⟨g, 0, none⟩) lv.length lv) (h2 : Kd.C k29 W (some ⟨t, 0, none⟩) [tk].length [tk]) : Calls Try.prog 20 #[PV g, .slice (some ⟨t, 0, none⟩) 1 1] W fun e w' => e = .returned (.bool true) ∧ Below W.heap.size W w' :=
  admit_Fits.calls 30 _ 1 lv none 0 [] none 0 [] 0 0 0 0 0 50 _ 1 [tk] true W h (by decide) (nilC _ _) (by decide) (nilC _ _) (by decide) h2 (by decide) fits1
theorem c_load1 {W : World} {g t : Nat} (h : Kd.C k34 W (some ⟨g, 0, none⟩) lv.length lv) (h2 : Kd.C k29 W (some ⟨t, 0, none⟩) [tk].length [tk]) : Calls Try.prog 21 #[PV g, .slice (some ⟨t, 0, none⟩) 1 1, .int .i64 0] W fun e w' => e = .returned (.int .i64 4294967296) ∧ Below W.heap.size W w' :=
  admit_Load.calls 30 _ 1 lv none 0 [] none 0 [] 0 0 0 0 0 50 _ 1 [tk] 0 4294967296 W h (by decide) (nilC _ _) (by decide) (nilC _ _) (by decide) h2 (by decide) load1
theorem c_block1 {W : World} {g t : Nat} (h : Kd.C k34 W (some ⟨g, 0, none⟩) lv.length lv) (h2 : Kd.C k29 W (some ⟨t, 0, none⟩) [tk].length [tk]) : Calls Try.prog 16 #[PV g, .slice (some ⟨t, 0, none⟩) 1 1, .int .i64 4] W fun e w' => e = .returned (.int .i64 1) ∧ Below W.heap.size W w' :=
  admit_Block.calls 30 _ 1 lv none 0 [] none 0 [] 0 0 0 0 0 50 _ 1 [tk] 4 1 W h (by decide) (nilC _ _) (by decide) (nilC _ _) (by decide) h2 (by decide) block1
theorem c_fits2 {W : World} {g c : Nat} {A : Option Addr} (h : Kd.C k34 W (some ⟨g, 0, none⟩) lv.length lv) (h2 : Kd.C k29 W A 2 [tk, tk]) (hc : 2 ≤ c) : Calls Try.prog 20 #[PV g, .slice A 2 c] W fun e w' => e = .returned (.bool false) ∧ Below W.heap.size W w' :=
  admit_Fits.calls 30 _ 1 lv none 0 [] none 0 [] 0 0 0 0 0 50 A c [tk, tk] false W h (by decide) (nilC _ _) (by decide) (nilC _ _) (by decide) h2 hc fits2

theorem two_reads {w : World} {base : Nat} {ok : Nat → Prop} {v : Value} (h : Kd.N k29 29 w base ok v ([tk] ++ [tk])) : ∃ A c, v = .slice A 2 c ∧ 2 ≤ c ∧ Kd.C k29 w A 2 [tk, tk] := Kd.N_reads h
theorem tk_mk (W : World) : k29.K W tk tcells := k29_mk W tk (A2 := none) (c2 := 0) (by decide) (nilC _ W) (A3 := none) (c3 := 0) (by decide) (nilC _ W)
theorem tk_F (W : World) (ok : Nat → Prop) : Kd.FK k29 W ok tk tcells := fun W2 _ => tk_mk W2
theorem app_grows {P : Program} {ops : Array Oper} {o : Oper} {a : Act} {w : World} {K : Act → World → Prop} {Q : Exit → Act → World → Prop} {E : Prop}
    (hw : Region.wanted o (yielded ops a.tmps) = true) (s x : Operand) (t : TypeId) (hop : o.op = Op.call { callee := Callee.builtin Builtin.append, args := #[s, x], argTypes := #[t, t] })
    (e : TypeId) (i : TypeInfo) (z : Value) (size bytes : Nat) (h1 : P.underlying t = some (.slice e)) (h2 : P.info? e = some i) (h3 : i.zero = some z) (h4 : i.size = size) (h5 : i.bytes = bytes) (h6 : z.cells.size = size) (h7 : 0 < size)
    (b : Addr) (n cap : Nat) (olds : List Value) (hs : a.eval s = .slice (some b) n cap) (hlo : olds.length = n * size) (holds : ∀ j u, olds[j]? = some u → w.cell? (b.add j) = some u)
    (ad : Addr) (m c : Nat) (news : List Value) (hx : a.eval x = .slice (some ad) m c) (hn : news.length = m * size) (hc : ∀ j u, news[j]? = some u → w.cell? (ad.add j) = some u) (_h1c : ∀ u ∈ news, u.oneCell' = true)
    (hfull : cap < n + m) (b1 : n + m ≤ maxLen) (b2 : (n + m) * bytes ≤ 140737488355328)
    (hK : ∀ v' w', w'.ownsRow w.heap.size e size v' (n + m) (olds ++ news) → w.grownBy w' none → K (a.put o.dst v') w') :
    if Region.wanted o (yielded ops a.tmps) = true then Oper.wp P o a w K Q else E := by
  rw [if_pos hw]
  obtain ⟨v', w', hrun, r1, r2⟩ := run_append_arg_grows (P := P) w t o.type e i z size bytes h1 h2 h3 h4 h5 h6 h7 b n cap olds hlo holds ad m c news hn hc hfull b1 b2
  unfold Oper.wp
  simp [execOp, hop, resolve, invoke, builtin, hs, hx, hrun, Result.andThen]
  exact hK v' w' r1 r2
theorem two_own {w : World} {base : Nat} {v : Value} (h : w.ownsRow base 29 4 v 2 (tcells ++ tcells)) : ∃ A c, v = .slice A 2 c ∧ 2 ≤ c ∧ Kd.C k29 w A 2 [tk, tk] := by
  obtain ⟨_, h | ⟨g, cap, cur, rfl, _, hb, hc, _, hsz, ht⟩⟩ := h
  · exact absurd h.2 (by decide)
  · refine ⟨_, cap, rfl, hc, C_block hb [tk, tk] (by decide) ?_⟩
    have key : ∀ (i : Nat), i < 8 → cur[i]? = (tcells ++ tcells)[i]? := fun i hi => by
      rw [← ht, List.getElem?_take_of_lt (by omega), Array.getElem?_toList]
    intro j p hj
    match j, hj with
    | 0, hj => obtain rfl := Option.some.inj hj; exact ⟨tcells, rfl, tk_mk w, fun i u hu => by
        have : i < 4 := (List.getElem?_eq_some_iff.1 hu).1
        match i, this with
        | 0, _ => exact (key 0 (by omega)).trans hu
        | 1, _ => exact (key 1 (by omega)).trans hu
        | 2, _ => exact (key 2 (by omega)).trans hu
        | 3, _ => exact (key 3 (by omega)).trans hu⟩
    | 1, hj => obtain rfl := Option.some.inj hj; exact ⟨tcells, rfl, tk_mk w, fun i u hu => by
        have : i < 4 := (List.getElem?_eq_some_iff.1 hu).1
        match i, this with
        | 0, _ => exact (key 4 (by omega)).trans hu
        | 1, _ => exact (key 5 (by omega)).trans hu
        | 2, _ => exact (key 6 (by omega)).trans hu
        | 3, _ => exact (key 7 (by omega)).trans hu⟩
theorem t_of {w : World} {b : Nat} (hh : w.heap[b]? = some (.cells tcells.toArray 29 (0, 0))) : TBox w b := ⟨(blk_cell hh 0).trans rfl, (blk_cell hh 1).trans rfl, (blk_cell hh 2).trans rfl, (blk_cell hh 3).trans rfl⟩
theorem news_t {w : World} {g : Nat} (hh : w.heap[g]? = some (.cells tcells.toArray 29 (0, 0))) : ∀ (j : Nat) (u : Value), tcells[j]? = some u → w.cell? ((⟨g, 0, none⟩ : Addr).add j) = some u := fun j u hu => World.news_of_block hh j u hu
theorem inf29 : ∃ i, Try.prog.info? 29 = some i ∧ i.zero = some (.agg #[(.int .i64 0), (.int .i64 0), (.slice none 0 0), (.slice none 0 0)]) ∧ i.size = 4 ∧ i.bytes = 64 := by
  have h := info29
  cases hi : Try.prog.info? 29 with
  | none => rw [hi] at h; simp at h
  | some i => rw [hi] at h; simp at h; exact ⟨i, rfl, h.1, h.2.1, h.2.2⟩
theorem one_N {w : World} {g base : Nat} (h : w.heap[g]? = some (.cells tcells.toArray 29 (0, 0))) (hb : base ≤ g) : Kd.N k29 29 w base (fun _ => True) (.slice (some ⟨g, 0, none⟩) 1 1) [tk] := by
  refine ⟨fun _ _ => trivial, [tcells], rfl, ⟨fun k hk => hk.symm, tcells, ⟨rfl, .inr ⟨g, 1, tcells.toArray, rfl, hb, h, Nat.le_refl _, by unfold maxLen; omega, rfl, rfl⟩⟩, ⟨rfl, ?_⟩⟩, ?_⟩
  · intro j p hj
    match j, hj with
    | 0, hj => obtain rfl := Option.some.inj hj; exact ⟨rfl, rfl, by decide⟩
  · intro j x c hx hc
    match j, hx, hc with
    | 0, hx, hc => obtain rfl := Option.some.inj hx; obtain rfl := Option.some.inj hc; exact tk_F w _
set_option maxHeartbeats 1600000 in
set_option maxRecDepth 100000 in
theorem answers_calls (w : World) : Calls Try.prog 12 #[] w fun e w' => e = .returned (.bool true) ∧ Below w.heap.size w w' := by
  obtain ⟨inf, hin, hz, hsi, hby⟩ := inf29
  go_enter Try.func12, Try.ntmps12
  go_wp2_with fail
  generalize hw1 : (w.alloc (.cells #[.int .i64 1, .int .i64 0] 34 (0, 0))) = wa
  have hs : wa.heap.size = w.heap.size + 1 := by rw [← hw1]; simp
  have hl0 : wa.heap[w.heap.size]? = some (.cells lcells 34 (0, 0)) := by rw [← hw1]; exact heap_alloc_new w _
  have hb0 : Below w.heap.size w wa := by rw [← hw1]; exact (Below.refl _ _).alloc (Nat.le_refl _) _
  clear hw1
  generalize hw2 : wa.alloc (.cells #[.slice (some ⟨w.heap.size, 0, none⟩) 1 1, .slice none 0 0, .slice none 0 0, .int .i64 0, .int .i64 0, .int .i64 0, .int .i64 0, .int .i64 0, .int .i64 50] 26 (0, 0)) = w0
  have hs0 : w0.heap.size = w.heap.size + 1 + 1 := by rw [← hw2]; simp [hs]
  have hbx : Below wa.heap.size wa w0 := by rw [← hw2]; exact (Below.refl _ _).alloc (Nat.le_refl _) _
  have bx0 : w0.heap[w.heap.size + 1]? = some (.cells (pcells w.heap.size) 26 (0, 0)) := by rw [← hs, ← hw2]; exact heap_alloc_new wa _
  have hl1 := blk_below hl0 hbx
  have hB0 : Below w.heap.size w w0 := below_step hb0 hbx
  clear hw2
  generalize hw3 : w0.alloc (.cells #[.int .i64 4, .int .i64 3, .slice none 0 0, .slice none 0 0] 29 (0, 0)) = w1
  have hby : Below w0.heap.size w0 w1 := by rw [← hw3]; exact (Below.refl _ _).alloc (Nat.le_refl _) _
  have hN : Kd.N k29 29 w1 w.heap.size (fun _ => True) (.slice (some ⟨w.heap.size + 1 + 1, 0, none⟩) 1 1) [tk] := one_N (by rw [← hs0, ← hw3]; exact heap_alloc_new w0 _) (by omega)
  have HN := Aside0.mk hN
  have ht0 : w1.heap[w.heap.size + 1 + 1]? = some (.cells tcells.toArray 29 (0, 0)) := by rw [← hs0, ← hw3]; exact heap_alloc_new w0 _
  have HC := Aside0.mk (blk_below hl1 hby)
  have HB := Aside0.mk (below_step hB0 hby)
  have HX := Aside0.mk (blk_below bx0 hby)
  clear hw3 hbx bx0 hl1 hB0 hl0 hb0 hs hs0 hby hN
  have HL := Aside0.mk ((Kd.N_reads' HN.out).2.2)
  have HT := Aside0.mk ht0
  obtain ⟨x0, x1, x2, x3, x4, x5, x6, x7, x8⟩ := box_of HX.out
  obtain ⟨y0, y1, y2, y3⟩ := t_of HT.out
  go_region_held3 (fun w' => w'.cell? ⟨w.heap.size + 1, 0, none⟩ = some (.slice (some ⟨w.heap.size, 0, none⟩) 1 1) ∧ w'.cell? ⟨w.heap.size + 1, 1, none⟩ = some (.slice none 0 0) ∧ w'.cell? ⟨w.heap.size + 1, 2, none⟩ = some (.slice none 0 0) ∧ w'.cell? ⟨w.heap.size + 1, 3, none⟩ = some (.int .i64 0) ∧ w'.cell? ⟨w.heap.size + 1, 4, none⟩ = some (.int .i64 0) ∧ w'.cell? ⟨w.heap.size + 1, 5, none⟩ = some (.int .i64 0) ∧ w'.cell? ⟨w.heap.size + 1, 6, none⟩ = some (.int .i64 0) ∧ w'.cell? ⟨w.heap.size + 1, 7, none⟩ = some (.int .i64 0) ∧ w'.cell? ⟨w.heap.size + 1, 8, none⟩ = some (.int .i64 50) ∧ w'.cell? ⟨w.heap.size + 1 + 1, 0, none⟩ = some (.int .i64 4) ∧ w'.cell? ⟨w.heap.size + 1 + 1, 1, none⟩ = some (.int .i64 3) ∧ w'.cell? ⟨w.heap.size + 1 + 1, 2, none⟩ = some (.slice none 0 0) ∧ w'.cell? ⟨w.heap.size + 1 + 1, 3, none⟩ = some (.slice none 0 0)) (first | exact ⟨x0, x1, x2, x3, x4, x5, x6, x7, x8, y0, y1, y2, y3⟩ | exact ⟨al x0, al x1, al x2, al x3, al x4, al x5, al x6, al x7, al x8, al y0, al y1, al y2, al y3⟩)
  (first
    | (go_at_call 20; (with_reducible refine Calls.mono (c_fits2 ?s1 ?s2 HLc.out) ?_); (case s1 => first | exact lvC HC.out | exact Kd.C_drew (lvC HC.out) | exact Kd.C_alloc (lvC HC.out) _); (case s2 => first | exact HM.out | exact Kd.C_drew HM.out | exact Kd.C_alloc HM.out _ | exact Kd.C_drew (Kd.C_alloc HM.out _) | exact Kd.C_alloc (Kd.C_drew HM.out) _); rintro e w6 ⟨rfl, hb⟩; replace HC : Aside0 (w6.heap[w.heap.size]? = some (.cells lcells 34 (0, 0))) := ⟨blk_below HC.out hb⟩; replace HT : Aside0 (w6.heap[w.heap.size + 1 + 1]? = some (.cells tcells.toArray 29 (0, 0))) := ⟨blk_below HT.out hb⟩; replace HX : Aside0 (w6.heap[w.heap.size + 1]? = some (.cells (pcells w.heap.size) 26 (0, 0))) := ⟨blk_below HX.out hb⟩; replace HB : Aside0 (Below w.heap.size w w6) := ⟨below_step HB.out hb⟩; clear hb x0 x1 x2 x3 x4 x5 x6 x7 x8 y0 y1 y2 y3; obtain ⟨x0, x1, x2, x3, x4, x5, x6, x7, x8⟩ := box_of HX.out; obtain ⟨y0, y1, y2, y3⟩ := t_of HT.out)
    | (go_at_call 20; (with_reducible refine Calls.mono (c_fits1 ?s1 ?s2) ?_); (case s1 => first | exact lvC HC.out | exact Kd.C_drew (lvC HC.out) | exact Kd.C_alloc (lvC HC.out) _); (case s2 => first | exact HL.out | exact Kd.C_drew HL.out | exact Kd.C_alloc HL.out _ | exact Kd.C_drew (Kd.C_alloc HL.out _) | exact Kd.C_alloc (Kd.C_drew HL.out) _); rintro e w2 ⟨rfl, hb⟩; replace hb := undrew hb; replace HC : Aside0 (w2.heap[w.heap.size]? = some (.cells lcells 34 (0, 0))) := ⟨blk_below HC.out hb⟩; replace HN : Aside0 (Kd.N k29 29 w2 w.heap.size (fun _ => True) (.slice (some ⟨w.heap.size + 1 + 1, 0, none⟩) 1 1) [tk]) := ⟨Kd.N_below HN.out hb⟩; replace HL : Aside0 (Kd.C k29 w2 (some ⟨w.heap.size + 1 + 1, 0, none⟩) [tk].length [tk]) := ⟨Kd.C_below HL.out hb⟩; replace HX : Aside0 (w2.heap[w.heap.size + 1]? = some (.cells (pcells w.heap.size) 26 (0, 0))) := ⟨blk_below HX.out hb⟩; replace HT : Aside0 (w2.heap[w.heap.size + 1 + 1]? = some (.cells tcells.toArray 29 (0, 0))) := ⟨blk_below HT.out hb⟩; replace HB : Aside0 (Below w.heap.size w w2) := ⟨below_step HB.out hb⟩; clear hb x0 x1 x2 x3 x4 x5 x6 x7 x8 y0 y1 y2 y3; obtain ⟨x0, x1, x2, x3, x4, x5, x6, x7, x8⟩ := box_of HX.out; obtain ⟨y0, y1, y2, y3⟩ := t_of HT.out)
    | (go_at_call 21; (with_reducible refine Calls.mono (c_load1 ?s1 ?s2) ?_); (case s1 => first | exact lvC HC.out | exact Kd.C_drew (lvC HC.out) | exact Kd.C_alloc (lvC HC.out) _); (case s2 => first | exact HL.out | exact Kd.C_drew HL.out | exact Kd.C_alloc HL.out _ | exact Kd.C_drew (Kd.C_alloc HL.out _) | exact Kd.C_alloc (Kd.C_drew HL.out) _); rintro e w3 ⟨rfl, hb⟩; replace HC : Aside0 (w3.heap[w.heap.size]? = some (.cells lcells 34 (0, 0))) := ⟨blk_below HC.out hb⟩; replace HN : Aside0 (Kd.N k29 29 w3 w.heap.size (fun _ => True) (.slice (some ⟨w.heap.size + 1 + 1, 0, none⟩) 1 1) [tk]) := ⟨Kd.N_below HN.out hb⟩; replace HL : Aside0 (Kd.C k29 w3 (some ⟨w.heap.size + 1 + 1, 0, none⟩) [tk].length [tk]) := ⟨Kd.C_below HL.out hb⟩; replace HX : Aside0 (w3.heap[w.heap.size + 1]? = some (.cells (pcells w.heap.size) 26 (0, 0))) := ⟨blk_below HX.out hb⟩; replace HT : Aside0 (w3.heap[w.heap.size + 1 + 1]? = some (.cells tcells.toArray 29 (0, 0))) := ⟨blk_below HT.out hb⟩; replace HB : Aside0 (Below w.heap.size w w3) := ⟨below_step HB.out hb⟩; clear hb x0 x1 x2 x3 x4 x5 x6 x7 x8 y0 y1 y2 y3; obtain ⟨x0, x1, x2, x3, x4, x5, x6, x7, x8⟩ := box_of HX.out; obtain ⟨y0, y1, y2, y3⟩ := t_of HT.out)
    | (go_at_call 16; (with_reducible refine Calls.mono (c_block1 ?s1 ?s2) ?_); (case s1 => first | exact lvC HC.out | exact Kd.C_drew (lvC HC.out) | exact Kd.C_alloc (lvC HC.out) _); (case s2 => first | exact HL.out | exact Kd.C_drew HL.out | exact Kd.C_alloc HL.out _ | exact Kd.C_drew (Kd.C_alloc HL.out _) | exact Kd.C_alloc (Kd.C_drew HL.out) _); rintro e w4 ⟨rfl, hb⟩; replace HC : Aside0 (w4.heap[w.heap.size]? = some (.cells lcells 34 (0, 0))) := ⟨blk_below HC.out hb⟩; replace HN : Aside0 (Kd.N k29 29 w4 w.heap.size (fun _ => True) (.slice (some ⟨w.heap.size + 1 + 1, 0, none⟩) 1 1) [tk]) := ⟨Kd.N_below HN.out hb⟩; replace HL : Aside0 (Kd.C k29 w4 (some ⟨w.heap.size + 1 + 1, 0, none⟩) [tk].length [tk]) := ⟨Kd.C_below HL.out hb⟩; replace HX : Aside0 (w4.heap[w.heap.size + 1]? = some (.cells (pcells w.heap.size) 26 (0, 0))) := ⟨blk_below HX.out hb⟩; replace HT : Aside0 (w4.heap[w.heap.size + 1 + 1]? = some (.cells tcells.toArray 29 (0, 0))) := ⟨blk_below HT.out hb⟩; replace HB : Aside0 (Below w.heap.size w w4) := ⟨below_step HB.out hb⟩; clear hb x0 x1 x2 x3 x4 x5 x6 x7 x8 y0 y1 y2 y3; obtain ⟨x0, x1, x2, x3, x4, x5, x6, x7, x8⟩ := box_of HX.out; obtain ⟨y0, y1, y2, y3⟩ := t_of HT.out)
    | (refine app_grows (by rfl) (.tmp 25) (.tmp 29) 31 rfl 29 inf (.agg #[(.int .i64 0), (.int .i64 0), (.slice none 0 0), (.slice none 0 0)]) 4 64 Try.underlying31 hin hz hsi hby rfl (by decide) ⟨w.heap.size + 1 + 1, 0, none⟩ 1 1 tcells rfl rfl (news_t (blk_alloc HT.out _)) _ 1 1 tcells rfl rfl (news_t (heap_alloc_new _ _)) (by decide) (by decide) (by unfold maxLen; omega) (by decide) ?_; intro v1 w5 ho hg; obtain ⟨A, c, rfl, hl, hCl⟩ := two_own ho; have HM := Aside0.mk hCl; have HLc := Aside0.mk hl; replace HC : Aside0 (w5.heap[w.heap.size]? = some (.cells lcells 34 (0, 0))) := ⟨blk_grown (blk_alloc HC.out _) hg (by simp)⟩; replace HX : Aside0 (w5.heap[w.heap.size + 1]? = some (.cells (pcells w.heap.size) 26 (0, 0))) := ⟨blk_grown (blk_alloc HX.out _) hg (by simp)⟩; replace HT : Aside0 (w5.heap[w.heap.size + 1 + 1]? = some (.cells tcells.toArray 29 (0, 0))) := ⟨blk_grown (blk_alloc HT.out _) hg (by simp)⟩; replace HB : Aside0 (Below w.heap.size w w5) := ⟨pw_below_grown (below_alloc HB.out _) none (below_size (below_alloc HB.out _)) hg (by intro k hk; cases hk)⟩; clear ho hg hCl hl x0 x1 x2 x3 x4 x5 x6 x7 x8 y0 y1 y2 y3; obtain ⟨x0, x1, x2, x3, x4, x5, x6, x7, x8⟩ := box_of HX.out; obtain ⟨y0, y1, y2, y3⟩ := t_of HT.out))
  go_wp2_with fail
  go_ret
  exact ⟨by simp, HB.out⟩
end Go.Proofs.Ytonlaboeodddeaa.Ans
