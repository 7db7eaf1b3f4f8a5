/- Part 1 of the law's texts: what its row hangs on. -/
import Derived.Test.YtchlbnlhjllcbaaZRel0
import Derived.Deep.Slices
import Derived.ChangeSame
import Derived.ChangeOld
import Derived.Carry
import Derived.Test.YtchlbnlhjllcbaaProg
import Derived.Below
import Derived.Deep.Draws
import Derived.Deep.AppendLies
import Derived.Maps.AppendAt
import Derived.OwnWalk
import Derived.Laws.BytesArg
import Derived.Laws.MakeOwn
import Derived.Laws.OwnMore
import Derived.Deep.OwnRows
import Derived.Tactics
import Derived.Lib.ConvBytes
import Derived.Laws.Slices
import Derived.WalkKit
import Derived.KernelRfl
import Derived.RowKit3
import Derived.Deep.LoopGhost
import Derived.Deep.QuietTactic
import Derived.BigQuiet
import Derived.WideLaws
import Derived.Deep.DeepCutAuto
import Derived.Deep.CutBlock
import Derived.Deep.RegionHeld3
import Derived.Laws.Rows
import Derived.Lib.AppendStr
import Derived.ArgAppend
import Derived.Laws.IdiomCopy
import Derived.OrdersHeld
import Derived.Laws.BitsLemmas
import Derived.RowKit
namespace Go.Proofs.Ytchlbnlhjllcbaa.Opn
open Go.RowKit Go.ChangeShapes Go.WideShapes Go.Deep Go.Proofs.YtchlbnlhjllcbaaW.PrintWords Go.Proofs.YtchlbnlhjllcbaaW.PrintLast
/-- What reads as data of type t has cells of the kind d, and is all right. -/
def Opens (P : Program) (t : TypeId) {α : Type} (d : Kd α) (ok : α → Prop) : Prop :=
  ∀ (H : Type) (enc : TypeId × Value → H) (w : World) (base : Nat) (spare : Nat → Bool) (held : Bool) (fuel : Nat) (cs : List Value) (x : DataW H × List MemPlace),
    DataW.trod enc P w base spare held fuel t cs = some x → ∃ a : α, d.K w a cs ∧ ok a
/-- Fields in line, from an offset on. -/
def OpensF (P : Program) (fs : List Field) (o : Nat) {α : Type} (d : Kd α) (ok : α → Prop) : Prop :=
  ∀ (H : Type) (enc : TypeId × Value → H) (w : World) (base : Nat) (spare : Nat → Bool) (held : Bool) (fuel : Nat) (cs : List Value),
    cs.length = o + d.sz → (∀ f ∈ fs, ∃ x, DataW.trod enc P w base spare held fuel f.type ((cs.drop f.offset).take (P.cellsOf f.type)) = some x) → ∃ a : α, d.K w a (cs.drop o) ∧ ok a
section
variable {P : Program} {t e : TypeId} {α β : Type}
theorem opens_int {k : IntKind} (ht : P.underlying t = some (.int k)) : Opens P t (Kd.int k) (fun n => (Lit.int k n).wf = true) := by
  intro H enc w base spare held fuel cs x h
  obtain ⟨n, rfl, _, hw⟩ := DataW.trod_int ht h
  exact ⟨n, rfl, hw⟩
theorem opens_bool (ht : P.underlying t = some .bool) : Opens P t Kd.bool (fun _ => True) := by
  intro H enc w base spare held fuel cs x h
  obtain ⟨b, rfl, _⟩ := DataW.trod_bool ht h
  exact ⟨b, rfl, trivial⟩
theorem opens_slice {d : Kd α} {ok : α → Prop} [Inhabited α] (ht : P.underlying t = some (.slice e)) (hc : P.cellsOf e = d.sz) (he : Opens P e d ok) :
    Opens P t (Kd.slice e d) (fun xs => ∀ x ∈ xs, ok x) := by
  intro H enc w base spare held fuel cs x h
  rcases open_slice ht h with ⟨rfl, _⟩ | ⟨a, len, cap, m, n, D, Pl, rfl, hb, hl, hm, hmm, rfl, hx⟩
  · exact ⟨[], ⟨none, 0, rfl, Nat.le_refl _, rfl, by simp, fun h => absurd h (Nat.lt_irrefl _)⟩, fun x hx => by cases hx⟩
  · have hlm : len ≤ m := by rw [hmm]; split <;> omega
    have each : ∀ i, i < len → ∃ v : α, (∃ cs', w.cells? base (a.add (i * P.cellsOf e)) (P.cellsOf e) = some cs' ∧ d.K w v cs') ∧ ok v := by
      intro i hi
      obtain ⟨cs', h1, h2⟩ := hx i (by omega)
      obtain ⟨v, hv, hok⟩ := he H enc w base spare held n cs' _ h2
      exact ⟨v, ⟨cs', h1, hv⟩, hok⟩
    obtain ⟨V, hV⟩ := choose_lt each
    refine ⟨(List.range len).map V, ⟨some a, cap, by simp, by simpa using hl, by simp, ?_, fun _ => ⟨a, rfl, ?_⟩⟩, ?_⟩
    · have : cap ≤ maxLen := hm
      unfold maxLen at this
      simp; omega
    · intro j p hj
      have hjl : j < len := by
        have := (List.getElem?_eq_some_iff.1 hj).1
        simpa using this
      have hp : p = V j := by
        rw [List.getElem?_map, List.getElem?_range hjl] at hj
        simpa using hj.symm
      subst hp
      obtain ⟨⟨cs', h1, h2⟩, _⟩ := hV j hjl
      obtain ⟨_, hlen, hcell⟩ := World.cells?_some h1
      refine ⟨cs', by rw [hlen, hc], h2, fun i u hu => ?_⟩
      have hi : i < P.cellsOf e := by
        have := (List.getElem?_eq_some_iff.1 hu).1
        omega
      have := hcell i hi
      rw [Go.Deep.add_add] at this
      rw [hc] at this
      rw [this, hu]
    · intro x hx
      obtain ⟨i, hi, rfl⟩ := List.mem_map.1 hx
      exact (hV i (List.mem_range.1 hi)).2
theorem opensF_one {f : Field} {o : Nat} {d : Kd α} {ok : α → Prop} (ho : f.offset = o) (hc : P.cellsOf f.type = d.sz) (h : Opens P f.type d ok) : OpensF P [f] o d ok := by
  intro H enc w base spare held fuel cs hl hx
  obtain ⟨x, hx⟩ := hx f (by simp)
  have e : (cs.drop f.offset).take (P.cellsOf f.type) = cs.drop o := by
    rw [ho, hc]; apply List.take_of_length_le; simp; omega
  rw [e] at hx
  exact h H enc w base spare held fuel _ x hx
theorem opensF_cons {f : Field} {fs : List Field} {o : Nat} {d : Kd α} {ok : α → Prop} {d' : Kd β} {ok' : β → Prop} (ho : f.offset = o) (hc : P.cellsOf f.type = d.sz) (h : Opens P f.type d ok)
    (hs : OpensF P fs (o + d.sz) d' ok') : OpensF P (f :: fs) o (Kd.pair d d') (fun x => ok x.1 ∧ ok' x.2) := by
  intro H enc w base spare held fuel cs hl hx
  have hl' : cs.length = o + d.sz + d'.sz := by
    have : (Kd.pair d d').sz = d.sz + d'.sz := rfl
    omega
  obtain ⟨b, hb, hob⟩ := hs H enc w base spare held fuel cs hl' (fun f' hf' => hx f' (List.mem_cons_of_mem _ hf'))
  obtain ⟨x, hx⟩ := hx f (by simp)
  rw [ho, hc] at hx
  obtain ⟨a, ha, hoa⟩ := h H enc w base spare held fuel _ x hx
  refine ⟨(a, b), ⟨(cs.drop o).take d.sz, cs.drop (o + d.sz), ?_, ha, hb⟩, hoa, hob⟩
  rw [← List.drop_drop, List.take_append_drop]
theorem opens_struct {fs : Array Field} {d : Kd α} {ok : α → Prop} (ht : P.underlying t = some (.struct fs)) (hc : P.cellsOf t = d.sz) (h : OpensF P fs.toList 0 d ok) : Opens P t d ok := by
  intro H enc w base spare held fuel cs x hx
  obtain ⟨xs, n, _, _, hl, hlen, hf⟩ := DataW.trod_struct ht hx
  have := h H enc w base spare held n cs (by rw [hl, hc]; omega) (fun f hfm => by
    obtain ⟨i, hi⟩ := List.getElem?_of_mem hfm
    have hi' : fs[i]? = some f := by simpa using hi
    have h1 := hf i f hi'
    have hil : i < xs.length := by
      rw [hlen]
      have := (List.getElem?_eq_some_iff.1 hi).1
      simpa using this
    rw [List.getElem?_eq_getElem hil] at h1
    exact ⟨_, h1⟩)
  simpa using this
theorem opens_iso {d : Kd α} {ok : α → Prop} {f : β → α} (g : α → β) (hfg : ∀ x, f (g x) = x) (h : Opens P t d ok) : Opens P t (Kd.iso d f) (fun x => ok (f x)) := by
  intro H enc w base spare held fuel cs x hx
  obtain ⟨a, ha, hok⟩ := h H enc w base spare held fuel cs x hx
  refine ⟨g a, ?_, by show ok (f (g a)); rw [hfg]; exact hok⟩
  show d.K w (f (g a)) cs
  rw [hfg]; exact ha
theorem opens_imp {d : Kd α} {ok ok' : α → Prop} (h : Opens P t d ok) (hi : ∀ x, ok x → ok' x) : Opens P t d ok' := by
  intro H enc w base spare held fuel cs x hx
  obtain ⟨a, ha, hok⟩ := h H enc w base spare held fuel cs x hx
  exact ⟨a, ha, hi _ hok⟩
/-- An argument: its cells. -/
theorem Opens.get {d : Kd α} {ok : α → Prop} (h : Opens P t d ok) {H : Type} {enc : TypeId × Value → H} {w : World} {base : Nat} {spare : Nat → Bool} {held : Bool} {v : Value} {x : DataW H} {ps : List MemPlace}
    (hv : DataW.Trod enc P w base spare held t v x ps) : ∃ a : α, d.K w a v.cells.toList ∧ ok a := by
  obtain ⟨fuel, hf⟩ := hv
  exact h H enc w base spare held fuel _ _ hf
/-- An argument that is a struct is its cells. -/
theorem agg_of {fs : Array Field} {w : World} {r : Reach} {base : Nat} {v : Value} (ht : P.underlying t = some (.struct fs)) (h : Value.okWide P w r base t v) : ∃ cs : List Value, v = .agg cs.toArray ∧ v.cells.toList = cs := by
  unfold Value.okWide at h
  rw [ht] at h
  obtain ⟨cs, rfl, _, _⟩ := h
  exact ⟨cs.toList, by simp, by simp [Value.cells]⟩
end
end Go.Proofs.Ytchlbnlhjllcbaa.Opn
namespace Go.Proofs.Ytchlbnlhjllcbaa.F
open Go.RowKit Go.Proofs.YtchlbnlhjllcbaaW.PrintWords Go.Proofs.YtchlbnlhjllcbaaW.PrintLast Go.Proofs.YtchlbnlhjllcbaaW.PrintMore
attribute [local go_sem] max2_int min2_int max_two min_two max_three min_three max_four min_four   -- for this text's walks alone
set_option linter.unusedVariables false
set_option linter.unusedSimpArgs false
def errW : Option Int → Value
  | none => .nilIface
  | some c => .iface 0 (.int .i64 c)
theorem errW_none : errW none = .nilIface := rfl
theorem errW_some (c : Int) : errW (some c) = .iface 0 (.int .i64 c) := rfl
theorem info3 : (Try.prog.info? 3).map (fun i => (i.zero, i.size, i.bytes)) = some (some (.int .i64 0), 1, 8) := by kernel_rfl
theorem info38 : (Try.prog.info? 38).map (fun i => (i.zero, i.size, i.bytes)) = some (some (.agg #[(.int .i64 0), (.int .i64 0), (.int .i64 0), (.int .i64 0), (.int .i64 0), (.bool false)]), 6, 48) := by kernel_rfl
theorem info73 : (Try.prog.info? 73).map (fun i => (i.zero, i.size, i.bytes)) = some (some (.agg #[(.int .i64 0), (.int .i64 0), (.int .i64 0)]), 3, 24) := by kernel_rfl
structure S38 where
  f0 : Int
  f1 : Int
  f2 : Int
  f3 : Int
  f4 : Int
  f5 : Bool
def z38 : S38 := ⟨(0 : Int), (0 : Int), (0 : Int), (0 : Int), (0 : Int), false⟩
def k38 : Kd S38 := Kd.iso (Kd.pair (Kd.int .i64) (Kd.pair (Kd.int .i64) (Kd.pair (Kd.int .i64) (Kd.pair (Kd.int .i64) (Kd.pair (Kd.int .i64) Kd.bool))))) (fun x : S38 => (x.f0, x.f1, x.f2, x.f3, x.f4, x.f5))
theorem k38_open {w : World} {x : S38} {cs : List Value} (h : k38.K w x cs) : cs = [.int .i64 x.f0, .int .i64 x.f1, .int .i64 x.f2, .int .i64 x.f3, .int .i64 x.f4, .bool x.f5] := by
  obtain ⟨_, _, rfl, rfl, ⟨_, _, rfl, rfl, ⟨_, _, rfl, rfl, ⟨_, _, rfl, rfl, ⟨_, _, rfl, rfl, rfl⟩⟩⟩⟩⟩ := h
  exact rfl
def rd_T38 (xs : List S38) (i : Int) : S38 := xs.getD i.toNat z38
theorem at_T38 {w : World} {A : Option Addr} {n : Nat} {xs : List S38} (h : Kd.C k38 w A n xs) (i : Int) (h0 : 0 ≤ i) (h1 : i < n) : ∃ ad , A = some ad ∧ w.cell? (ad.add (i.toNat * 6)) = some (.int .i64 (rd_T38 xs i).f0) ∧ w.cell? ⟨(ad.add (i.toNat * 6)).block, (ad.add (i.toNat * 6)).off + 1, none⟩ = some (.int .i64 (rd_T38 xs i).f1) ∧ w.cell? ⟨(ad.add (i.toNat * 6)).block, (ad.add (i.toNat * 6)).off + 2, none⟩ = some (.int .i64 (rd_T38 xs i).f2) ∧ w.cell? ⟨(ad.add (i.toNat * 6)).block, (ad.add (i.toNat * 6)).off + 3, none⟩ = some (.int .i64 (rd_T38 xs i).f3) ∧ w.cell? ⟨(ad.add (i.toNat * 6)).block, (ad.add (i.toNat * 6)).off + 4, none⟩ = some (.int .i64 (rd_T38 xs i).f4) ∧ w.cell? ⟨(ad.add (i.toNat * 6)).block, (ad.add (i.toNat * 6)).off + 5, none⟩ = some (.bool (rd_T38 xs i).f5) := by
  obtain ⟨ad, c, e, _, hK, hc0⟩ := Kd.C_get h z38 i h0 h1
  have hc : ∀ j u, c[j]? = some u → w.cell? (ad.add (i.toNat * 6 + j)) = some u := hc0
  obtain rfl := k38_open hK
  exact ⟨ad, e, hc 0 _ rfl, by rw [← add_field _ _ 1 (by omega)]; exact hc 1 _ rfl, by rw [← add_field _ _ 2 (by omega)]; exact hc 2 _ rfl, by rw [← add_field _ _ 3 (by omega)]; exact hc 3 _ rfl, by rw [← add_field _ _ 4 (by omega)]; exact hc 4 _ rfl, by rw [← add_field _ _ 5 (by omega)]; exact hc 5 _ rfl⟩
structure S58 where
  f0 : Int
  f1 : Int
def z58 : S58 := ⟨(0 : Int), (0 : Int)⟩
def k58 : Kd S58 := Kd.iso (Kd.pair (Kd.int .i64) (Kd.int .i64)) (fun x : S58 => (x.f0, x.f1))
theorem k58_open {w : World} {x : S58} {cs : List Value} (h : k58.K w x cs) : cs = [.int .i64 x.f0, .int .i64 x.f1] := by
  obtain ⟨_, _, rfl, rfl, rfl⟩ := h
  exact rfl
theorem k58_mkM (w : World) (base : Nat) (ok : Nat → Prop) (x : S58)  : k58.M w base ok x [.int .i64 x.f0, .int .i64 x.f1] := ⟨[.int .i64 x.f0], [.int .i64 x.f1], rfl, rfl, rfl⟩
def rd_T58 (xs : List S58) (i : Int) : S58 := xs.getD i.toNat z58
theorem at_T58 {w : World} {A : Option Addr} {n : Nat} {xs : List S58} (h : Kd.C k58 w A n xs) (i : Int) (h0 : 0 ≤ i) (h1 : i < n) : ∃ ad , A = some ad ∧ w.cell? (ad.add (i.toNat * 2)) = some (.int .i64 (rd_T58 xs i).f0) ∧ w.cell? ⟨(ad.add (i.toNat * 2)).block, (ad.add (i.toNat * 2)).off + 1, none⟩ = some (.int .i64 (rd_T58 xs i).f1) := by
  obtain ⟨ad, c, e, _, hK, hc0⟩ := Kd.C_get h z58 i h0 h1
  have hc : ∀ j u, c[j]? = some u → w.cell? (ad.add (i.toNat * 2 + j)) = some u := hc0
  obtain rfl := k58_open hK
  exact ⟨ad, e, hc 0 _ rfl, by rw [← add_field _ _ 1 (by omega)]; exact hc 1 _ rfl⟩
structure S68 where
  f0 : Int
  f1 : Int
  f2 : Int
  f3 : Int
  f4 : Int
  f5 : Int
def z68 : S68 := ⟨(0 : Int), (0 : Int), (0 : Int), (0 : Int), (0 : Int), (0 : Int)⟩
def k68 : Kd S68 := Kd.iso (Kd.pair (Kd.int .i64) (Kd.pair (Kd.int .i64) (Kd.pair (Kd.int .i64) (Kd.pair (Kd.int .i64) (Kd.pair (Kd.int .i64) (Kd.int .i64)))))) (fun x : S68 => (x.f0, x.f1, x.f2, x.f3, x.f4, x.f5))
theorem k68_open {w : World} {x : S68} {cs : List Value} (h : k68.K w x cs) : cs = [.int .i64 x.f0, .int .i64 x.f1, .int .i64 x.f2, .int .i64 x.f3, .int .i64 x.f4, .int .i64 x.f5] := by
  obtain ⟨_, _, rfl, rfl, ⟨_, _, rfl, rfl, ⟨_, _, rfl, rfl, ⟨_, _, rfl, rfl, ⟨_, _, rfl, rfl, rfl⟩⟩⟩⟩⟩ := h
  exact rfl
def rd_T68 (xs : List S68) (i : Int) : S68 := xs.getD i.toNat z68
theorem at_T68 {w : World} {A : Option Addr} {n : Nat} {xs : List S68} (h : Kd.C k68 w A n xs) (i : Int) (h0 : 0 ≤ i) (h1 : i < n) : ∃ ad , A = some ad ∧ w.cell? (ad.add (i.toNat * 6)) = some (.int .i64 (rd_T68 xs i).f0) ∧ w.cell? ⟨(ad.add (i.toNat * 6)).block, (ad.add (i.toNat * 6)).off + 1, none⟩ = some (.int .i64 (rd_T68 xs i).f1) ∧ w.cell? ⟨(ad.add (i.toNat * 6)).block, (ad.add (i.toNat * 6)).off + 2, none⟩ = some (.int .i64 (rd_T68 xs i).f2) ∧ w.cell? ⟨(ad.add (i.toNat * 6)).block, (ad.add (i.toNat * 6)).off + 3, none⟩ = some (.int .i64 (rd_T68 xs i).f3) ∧ w.cell? ⟨(ad.add (i.toNat * 6)).block, (ad.add (i.toNat * 6)).off + 4, none⟩ = some (.int .i64 (rd_T68 xs i).f4) ∧ w.cell? ⟨(ad.add (i.toNat * 6)).block, (ad.add (i.toNat * 6)).off + 5, none⟩ = some (.int .i64 (rd_T68 xs i).f5) := by
  obtain ⟨ad, c, e, _, hK, hc0⟩ := Kd.C_get h z68 i h0 h1
  have hc : ∀ j u, c[j]? = some u → w.cell? (ad.add (i.toNat * 6 + j)) = some u := hc0
  obtain rfl := k68_open hK
  exact ⟨ad, e, hc 0 _ rfl, by rw [← add_field _ _ 1 (by omega)]; exact hc 1 _ rfl, by rw [← add_field _ _ 2 (by omega)]; exact hc 2 _ rfl, by rw [← add_field _ _ 3 (by omega)]; exact hc 3 _ rfl, by rw [← add_field _ _ 4 (by omega)]; exact hc 4 _ rfl, by rw [← add_field _ _ 5 (by omega)]; exact hc 5 _ rfl⟩
structure S71 where
  f0 : Int
  f1 : Int
  f2 : Int
  f3 : Int
  f4 : Int
  f5 : Int
  f6 : Int
def z71 : S71 := ⟨(0 : Int), (0 : Int), (0 : Int), (0 : Int), (0 : Int), (0 : Int), (0 : Int)⟩
def k71 : Kd S71 := Kd.iso (Kd.pair (Kd.int .i64) (Kd.pair (Kd.int .i64) (Kd.pair (Kd.int .i64) (Kd.pair (Kd.int .i64) (Kd.pair (Kd.int .i64) (Kd.pair (Kd.int .i64) (Kd.int .i64))))))) (fun x : S71 => (x.f0, x.f1, x.f2, x.f3, x.f4, x.f5, x.f6))
theorem k71_open {w : World} {x : S71} {cs : List Value} (h : k71.K w x cs) : cs = [.int .i64 x.f0, .int .i64 x.f1, .int .i64 x.f2, .int .i64 x.f3, .int .i64 x.f4, .int .i64 x.f5, .int .i64 x.f6] := by
  obtain ⟨_, _, rfl, rfl, ⟨_, _, rfl, rfl, ⟨_, _, rfl, rfl, ⟨_, _, rfl, rfl, ⟨_, _, rfl, rfl, ⟨_, _, rfl, rfl, rfl⟩⟩⟩⟩⟩⟩ := h
  exact rfl
def rd_T71 (xs : List S71) (i : Int) : S71 := xs.getD i.toNat z71
theorem at_T71 {w : World} {A : Option Addr} {n : Nat} {xs : List S71} (h : Kd.C k71 w A n xs) (i : Int) (h0 : 0 ≤ i) (h1 : i < n) : ∃ ad , A = some ad ∧ w.cell? (ad.add (i.toNat * 7)) = some (.int .i64 (rd_T71 xs i).f0) ∧ w.cell? ⟨(ad.add (i.toNat * 7)).block, (ad.add (i.toNat * 7)).off + 1, none⟩ = some (.int .i64 (rd_T71 xs i).f1) ∧ w.cell? ⟨(ad.add (i.toNat * 7)).block, (ad.add (i.toNat * 7)).off + 2, none⟩ = some (.int .i64 (rd_T71 xs i).f2) ∧ w.cell? ⟨(ad.add (i.toNat * 7)).block, (ad.add (i.toNat * 7)).off + 3, none⟩ = some (.int .i64 (rd_T71 xs i).f3) ∧ w.cell? ⟨(ad.add (i.toNat * 7)).block, (ad.add (i.toNat * 7)).off + 4, none⟩ = some (.int .i64 (rd_T71 xs i).f4) ∧ w.cell? ⟨(ad.add (i.toNat * 7)).block, (ad.add (i.toNat * 7)).off + 5, none⟩ = some (.int .i64 (rd_T71 xs i).f5) ∧ w.cell? ⟨(ad.add (i.toNat * 7)).block, (ad.add (i.toNat * 7)).off + 6, none⟩ = some (.int .i64 (rd_T71 xs i).f6) := by
  obtain ⟨ad, c, e, _, hK, hc0⟩ := Kd.C_get h z71 i h0 h1
  have hc : ∀ j u, c[j]? = some u → w.cell? (ad.add (i.toNat * 7 + j)) = some u := hc0
  obtain rfl := k71_open hK
  exact ⟨ad, e, hc 0 _ rfl, by rw [← add_field _ _ 1 (by omega)]; exact hc 1 _ rfl, by rw [← add_field _ _ 2 (by omega)]; exact hc 2 _ rfl, by rw [← add_field _ _ 3 (by omega)]; exact hc 3 _ rfl, by rw [← add_field _ _ 4 (by omega)]; exact hc 4 _ rfl, by rw [← add_field _ _ 5 (by omega)]; exact hc 5 _ rfl, by rw [← add_field _ _ 6 (by omega)]; exact hc 6 _ rfl⟩
structure S36 where
  f0 : Int
  f1 : Int
  f2 : (List Int)
  f3 : (List Int)
def z36 : S36 := ⟨(0 : Int), (0 : Int), ([] : List Int), ([] : List Int)⟩
def k36 : Kd S36 := Kd.iso (Kd.pair (Kd.int .i64) (Kd.pair (Kd.int .i64) (Kd.pair (Kd.slice 3 (Kd.int .i64)) (Kd.slice 3 (Kd.int .i64))))) (fun x : S36 => (x.f0, x.f1, x.f2, x.f3))
theorem k36_open {w : World} {x : S36} {cs : List Value} (h : k36.K w x cs) : ∃ A2 c2 A3 c3, cs = [.int .i64 x.f0, .int .i64 x.f1, .slice A2 x.f2.length c2, .slice A3 x.f3.length c3] ∧ x.f2.length ≤ c2 ∧ (Kd.int .i64).C w A2 x.f2.length x.f2 ∧ x.f3.length ≤ c3 ∧ (Kd.int .i64).C w A3 x.f3.length x.f3 := by
  obtain ⟨_, _, rfl, rfl, ⟨_, _, rfl, rfl, ⟨_, _, rfl, ⟨A2, c2, rfl, l2, g2⟩, ⟨A3, c3, rfl, l3, g3⟩⟩⟩⟩ := h
  exact ⟨A2, c2, A3, c3, rfl, l2, g2, l3, g3⟩
theorem k36_mkM (w : World) (base : Nat) (ok : Nat → Prop) (x : S36) {v2 : Value} (g2 : (Kd.int .i64).R 3 w base ok v2 x.f2) {v3 : Value} (g3 : (Kd.int .i64).R 3 w base ok v3 x.f3) : k36.M w base ok x [.int .i64 x.f0, .int .i64 x.f1, v2, v3] := ⟨[.int .i64 x.f0], [.int .i64 x.f1, v2, v3], rfl, rfl, ⟨[.int .i64 x.f1], [v2, v3], rfl, rfl, ⟨[v2], [v3], rfl, ⟨v2, rfl, g2⟩, ⟨v3, rfl, g3⟩⟩⟩⟩
def rd_T36 (xs : List S36) (i : Int) : S36 := xs.getD i.toNat z36
theorem at_T36 {w : World} {A : Option Addr} {n : Nat} {xs : List S36} (h : Kd.C k36 w A n xs) (i : Int) (h0 : 0 ≤ i) (h1 : i < n) : ∃ ad A2 c2 A3 c3, A = some ad ∧ w.cell? (ad.add (i.toNat * 4)) = some (.int .i64 (rd_T36 xs i).f0) ∧ w.cell? ⟨(ad.add (i.toNat * 4)).block, (ad.add (i.toNat * 4)).off + 1, none⟩ = some (.int .i64 (rd_T36 xs i).f1) ∧ w.cell? ⟨(ad.add (i.toNat * 4)).block, (ad.add (i.toNat * 4)).off + 2, none⟩ = some (.slice A2 (rd_T36 xs i).f2.length c2) ∧ w.cell? ⟨(ad.add (i.toNat * 4)).block, (ad.add (i.toNat * 4)).off + 3, none⟩ = some (.slice A3 (rd_T36 xs i).f3.length c3) ∧ (rd_T36 xs i).f2.length ≤ c2 ∧ (Kd.int .i64).C w A2 (rd_T36 xs i).f2.length (rd_T36 xs i).f2 ∧ (rd_T36 xs i).f3.length ≤ c3 ∧ (Kd.int .i64).C w A3 (rd_T36 xs i).f3.length (rd_T36 xs i).f3 := by
  obtain ⟨ad, c, e, _, hK, hc0⟩ := Kd.C_get h z36 i h0 h1
  have hc : ∀ j u, c[j]? = some u → w.cell? (ad.add (i.toNat * 4 + j)) = some u := hc0
  obtain ⟨A2, c2, A3, c3, rfl, l2, g2, l3, g3⟩ := k36_open hK
  exact ⟨ad, A2, c2, A3, c3, e, hc 0 _ rfl, by rw [← add_field _ _ 1 (by omega)]; exact hc 1 _ rfl, by rw [← add_field _ _ 2 (by omega)]; exact hc 2 _ rfl, by rw [← add_field _ _ 3 (by omega)]; exact hc 3 _ rfl, l2, g2, l3, g3⟩
structure S56 where
  f0 : Int
  f1 : Int
  f2 : Int
def z56 : S56 := ⟨(0 : Int), (0 : Int), (0 : Int)⟩
def k56 : Kd S56 := Kd.iso (Kd.pair (Kd.int .i64) (Kd.pair (Kd.int .i64) (Kd.int .i64))) (fun x : S56 => (x.f0, x.f1, x.f2))
theorem k56_open {w : World} {x : S56} {cs : List Value} (h : k56.K w x cs) : cs = [.int .i64 x.f0, .int .i64 x.f1, .int .i64 x.f2] := by
  obtain ⟨_, _, rfl, rfl, ⟨_, _, rfl, rfl, rfl⟩⟩ := h
  exact rfl
def rd_T56 (xs : List S56) (i : Int) : S56 := xs.getD i.toNat z56
theorem at_T56 {w : World} {A : Option Addr} {n : Nat} {xs : List S56} (h : Kd.C k56 w A n xs) (i : Int) (h0 : 0 ≤ i) (h1 : i < n) : ∃ ad , A = some ad ∧ w.cell? (ad.add (i.toNat * 3)) = some (.int .i64 (rd_T56 xs i).f0) ∧ w.cell? ⟨(ad.add (i.toNat * 3)).block, (ad.add (i.toNat * 3)).off + 1, none⟩ = some (.int .i64 (rd_T56 xs i).f1) ∧ w.cell? ⟨(ad.add (i.toNat * 3)).block, (ad.add (i.toNat * 3)).off + 2, none⟩ = some (.int .i64 (rd_T56 xs i).f2) := by
  obtain ⟨ad, c, e, _, hK, hc0⟩ := Kd.C_get h z56 i h0 h1
  have hc : ∀ j u, c[j]? = some u → w.cell? (ad.add (i.toNat * 3 + j)) = some u := hc0
  obtain rfl := k56_open hK
  exact ⟨ad, e, hc 0 _ rfl, by rw [← add_field _ _ 1 (by omega)]; exact hc 1 _ rfl, by rw [← add_field _ _ 2 (by omega)]; exact hc 2 _ rfl⟩
structure S73 where
  f0 : Int
  f1 : Int
  f2 : Int
def k73 : Kd S73 := Kd.iso (Kd.pair (Kd.int .i64) (Kd.pair (Kd.int .i64) (Kd.int .i64))) (fun x : S73 => (x.f0, x.f1, x.f2))
theorem k73_mkM (w : World) (base : Nat) (ok : Nat → Prop) (x : S73)  : k73.M w base ok x [.int .i64 x.f0, .int .i64 x.f1, .int .i64 x.f2] := ⟨[.int .i64 x.f0], [.int .i64 x.f1, .int .i64 x.f2], rfl, rfl, ⟨[.int .i64 x.f1], [.int .i64 x.f2], rfl, rfl, rfl⟩⟩
end Go.Proofs.Ytchlbnlhjllcbaa.F
namespace Go.Proofs.Ytchlbnlhjllcbaa.Opn
open Go.RowKit Go.ChangeShapes Go.WideShapes Go.Deep Go.Proofs.YtchlbnlhjllcbaaW.PrintWords Go.Proofs.YtchlbnlhjllcbaaW.PrintLast Go.Proofs.Ytchlbnlhjllcbaa.F
instance : Inhabited S58 := ⟨z58⟩
instance : Inhabited S68 := ⟨z68⟩
instance : Inhabited S71 := ⟨z71⟩
theorem oInt : Opens Try.prog 3 (Kd.int .i64) (fun n => (Lit.int .i64 n).wf = true) := opens_int Try.underlying3
theorem oAny : Opens Try.prog 3 (Kd.int .i64) (fun _ => True) := opens_imp oInt (fun _ _ => trivial)
theorem oLevel : Opens Try.prog 58 k58 (fun _ => True) :=
  opens_imp (opens_iso (f := fun x : S58 => (x.f0, x.f1)) (fun x => ⟨x.1, x.2⟩) (fun _ => rfl) (opens_struct Try.underlying58 (by kernel_rfl) (opensF_cons rfl (by kernel_rfl) oAny (opensF_one rfl (by kernel_rfl) oAny)))) (fun _ _ => trivial)
theorem oSleep : Opens Try.prog 68 k68 (fun _ => True) :=
  opens_imp (opens_iso (f := fun x : S68 => (x.f0, x.f1, x.f2, x.f3, x.f4, x.f5)) (fun x => ⟨x.1, x.2.1, x.2.2.1, x.2.2.2.1, x.2.2.2.2.1, x.2.2.2.2.2⟩) (fun _ => rfl) (opens_struct Try.underlying68 (by kernel_rfl)
    (opensF_cons rfl (by kernel_rfl) oAny (opensF_cons rfl (by kernel_rfl) oAny (opensF_cons rfl (by kernel_rfl) oAny (opensF_cons rfl (by kernel_rfl) oAny (opensF_cons rfl (by kernel_rfl) oAny (opensF_one rfl (by kernel_rfl) oAny)))))))) (fun _ _ => trivial)
theorem oDevice : Opens Try.prog 71 k71 (fun _ => True) :=
  opens_imp (opens_iso (f := fun x : S71 => (x.f0, x.f1, x.f2, x.f3, x.f4, x.f5, x.f6)) (fun x => ⟨x.1, x.2.1, x.2.2.1, x.2.2.2.1, x.2.2.2.2.1, x.2.2.2.2.2.1, x.2.2.2.2.2.2⟩) (fun _ => rfl) (opens_struct Try.underlying71 (by kernel_rfl)
    (opensF_cons rfl (by kernel_rfl) oAny (opensF_cons rfl (by kernel_rfl) oAny (opensF_cons rfl (by kernel_rfl) oAny (opensF_cons rfl (by kernel_rfl) oAny (opensF_cons rfl (by kernel_rfl) oAny (opensF_cons rfl (by kernel_rfl) oAny (opensF_one rfl (by kernel_rfl) oAny))))))))) (fun _ _ => trivial)
abbrev Plat := List S58 × List S68 × List S71 × Int × Int × Int × Int × Int × Int
def kPlat : Kd Plat := Kd.pair (Kd.slice 58 k58) (Kd.pair (Kd.slice 68 k68) (Kd.pair (Kd.slice 71 k71) (Kd.pair (Kd.int .i64) (Kd.pair (Kd.int .i64) (Kd.pair (Kd.int .i64) (Kd.pair (Kd.int .i64) (Kd.pair (Kd.int .i64) (Kd.int .i64))))))))
theorem oPlat : Opens Try.prog 26 kPlat (fun _ => True) :=
  opens_imp (opens_struct (d := kPlat) Try.underlying26 (by kernel_rfl)
    (opensF_cons rfl (by kernel_rfl) (opens_slice Try.underlying22 (by kernel_rfl) oLevel) (opensF_cons rfl (by kernel_rfl) (opens_slice Try.underlying23 (by kernel_rfl) oSleep) (opensF_cons rfl (by kernel_rfl) (opens_slice Try.underlying24 (by kernel_rfl) oDevice)
    (opensF_cons rfl (by kernel_rfl) oAny (opensF_cons rfl (by kernel_rfl) oAny (opensF_cons rfl (by kernel_rfl) oAny (opensF_cons rfl (by kernel_rfl) oAny (opensF_cons rfl (by kernel_rfl) oAny (opensF_one rfl (by kernel_rfl) oAny)))))))))) (fun _ _ => trivial)
theorem plat_open {w : World} {x : Plat} {cs : List Value} (h : kPlat.K w x cs) : ∃ (A0 : Option Addr) (c0 : Nat) (A1 : Option Addr) (c1 : Nat) (A2 : Option Addr) (c2 : Nat),
    cs = [.slice A0 x.1.length c0, .slice A1 x.2.1.length c1, .slice A2 x.2.2.1.length c2, .int .i64 x.2.2.2.1, .int .i64 x.2.2.2.2.1, .int .i64 x.2.2.2.2.2.1, .int .i64 x.2.2.2.2.2.2.1, .int .i64 x.2.2.2.2.2.2.2.1, .int .i64 x.2.2.2.2.2.2.2.2] ∧
    (x.1.length ≤ c0 ∧ Kd.C k58 w A0 x.1.length x.1) ∧ (x.2.1.length ≤ c1 ∧ Kd.C k68 w A1 x.2.1.length x.2.1) ∧ (x.2.2.1.length ≤ c2 ∧ Kd.C k71 w A2 x.2.2.1.length x.2.2.1) := by
  obtain ⟨_, _, rfl, ⟨A0, c0, rfl, l0, h0⟩, _, _, rfl, ⟨A1, c1, rfl, l1, h1⟩, _, _, rfl, ⟨A2, c2, rfl, l2, h2⟩, _, _, rfl, e3, _, _, rfl, e4, _, _, rfl, e5, _, _, rfl, e6, _, _, rfl, e7, e8⟩ := h
  cases e3; cases e4; cases e5; cases e6; cases e7; cases e8
  exact ⟨A0, c0, A1, c1, A2, c2, rfl, ⟨l0, h0⟩, ⟨l1, h1⟩, ⟨l2, h2⟩⟩
end Go.Proofs.Ytchlbnlhjllcbaa.Opn
namespace Go.Proofs.Ytchlbnlhjllcbaa.Opn
open Go.RowKit Go.ChangeShapes Go.WideShapes Go.Deep Go.Proofs.Ytchlbnlhjllcbaa.F Go.Proofs.YtchlbnlhjllcbaaW.PrintWords Go.Proofs.YtchlbnlhjllcbaaW.PrintLast
instance : Inhabited S36 := ⟨z36⟩
instance : Inhabited S38 := ⟨z38⟩
instance : Inhabited S56 := ⟨z56⟩
theorem oTask : Opens Try.prog 36 k36 (fun _ => True) :=
  opens_imp (opens_iso (f := fun x : S36 => (x.f0, x.f1, x.f2, x.f3)) (fun x => ⟨x.1, x.2.1, x.2.2.1, x.2.2.2⟩) (fun _ => rfl) (opens_struct Try.underlying36 (by kernel_rfl)
    (opensF_cons rfl (by kernel_rfl) oAny (opensF_cons rfl (by kernel_rfl) oAny (opensF_cons rfl (by kernel_rfl) (opens_slice Try.underlying28 (by kernel_rfl) oAny) (opensF_one rfl (by kernel_rfl) (opens_slice Try.underlying28 (by kernel_rfl) oAny))))))) (fun _ _ => trivial)
theorem oTasks : Opens Try.prog 27 (Kd.slice 36 k36) (fun _ => True) := opens_imp (opens_slice Try.underlying27 (by kernel_rfl) oTask) (fun _ _ => trivial)
theorem oInts : Opens Try.prog 28 (Kd.slice 3 (Kd.int .i64)) (fun _ => True) := opens_imp (opens_slice Try.underlying28 (by kernel_rfl) oAny) (fun _ _ => trivial)
theorem oJob : Opens Try.prog 38 k38 (fun _ => True) :=
  opens_imp (opens_iso (f := fun x : S38 => (x.f0, x.f1, x.f2, x.f3, x.f4, x.f5)) (fun x => ⟨x.1, x.2.1, x.2.2.1, x.2.2.2.1, x.2.2.2.2.1, x.2.2.2.2.2⟩) (fun _ => rfl) (opens_struct Try.underlying38 (by kernel_rfl)
    (opensF_cons rfl (by kernel_rfl) oAny (opensF_cons rfl (by kernel_rfl) oAny (opensF_cons rfl (by kernel_rfl) oAny (opensF_cons rfl (by kernel_rfl) oAny (opensF_cons rfl (by kernel_rfl) oAny (opensF_one rfl (by kernel_rfl) (opens_bool Try.underlying4)))))))) ) (fun _ _ => trivial)
theorem oJobs : Opens Try.prog 29 (Kd.slice 38 k38) (fun _ => True) := opens_imp (opens_slice Try.underlying29 (by kernel_rfl) oJob) (fun _ _ => trivial)
theorem oHeld : Opens Try.prog 56 k56 (fun _ => True) :=
  opens_imp (opens_iso (f := fun x : S56 => (x.f0, x.f1, x.f2)) (fun x => ⟨x.1, x.2.1, x.2.2⟩) (fun _ => rfl) (opens_struct Try.underlying56 (by kernel_rfl)
    (opensF_cons rfl (by kernel_rfl) oAny (opensF_cons rfl (by kernel_rfl) oAny (opensF_one rfl (by kernel_rfl) oAny))))) (fun _ _ => trivial)
theorem oHelds : Opens Try.prog 30 (Kd.slice 56 k56) (fun _ => True) := opens_imp (opens_slice Try.underlying30 (by kernel_rfl) oHeld) (fun _ _ => trivial)
abbrev VView := Plat × List S36 × List Int × List S38 × List S56 × Int × Int
def kView : Kd VView := Kd.pair kPlat (Kd.pair (Kd.slice 36 k36) (Kd.pair (Kd.slice 3 (Kd.int .i64)) (Kd.pair (Kd.slice 38 k38) (Kd.pair (Kd.slice 56 k56) (Kd.pair (Kd.int .i64) (Kd.int .i64))))))
theorem oView : Opens Try.prog 32 kView (fun _ => True) :=
  opens_imp (opens_struct (d := kView) Try.underlying32 (by kernel_rfl)
    (opensF_cons rfl (by kernel_rfl) oPlat (opensF_cons rfl (by kernel_rfl) oTasks (opensF_cons rfl (by kernel_rfl) oInts (opensF_cons rfl (by kernel_rfl) oJobs (opensF_cons rfl (by kernel_rfl) oHelds
    (opensF_cons rfl (by kernel_rfl) oAny (opensF_one rfl (by kernel_rfl) oAny)))))))) (fun _ _ => trivial)
theorem view_open {w : World} {x : VView} {cs : List Value} (h : kView.K w x cs) : ∃ (A0 : Option Addr) (c0 : Nat) (A1 : Option Addr) (c1 : Nat) (A2 : Option Addr) (c2 : Nat) (A3 : Option Addr) (c3 : Nat) (A4 : Option Addr) (c4 : Nat) (A5 : Option Addr) (c5 : Nat) (A6 : Option Addr) (c6 : Nat),
    cs = [.slice A0 x.1.1.length c0, .slice A1 x.1.2.1.length c1, .slice A2 x.1.2.2.1.length c2, .int .i64 x.1.2.2.2.1, .int .i64 x.1.2.2.2.2.1, .int .i64 x.1.2.2.2.2.2.1, .int .i64 x.1.2.2.2.2.2.2.1, .int .i64 x.1.2.2.2.2.2.2.2.1, .int .i64 x.1.2.2.2.2.2.2.2.2, .slice A3 x.2.1.length c3, .slice A4 x.2.2.1.length c4, .slice A5 x.2.2.2.1.length c5, .slice A6 x.2.2.2.2.1.length c6, .int .i64 x.2.2.2.2.2.1, .int .i64 x.2.2.2.2.2.2] ∧
    (x.1.1.length ≤ c0 ∧ Kd.C k58 w A0 x.1.1.length x.1.1) ∧ (x.1.2.1.length ≤ c1 ∧ Kd.C k68 w A1 x.1.2.1.length x.1.2.1) ∧ (x.1.2.2.1.length ≤ c2 ∧ Kd.C k71 w A2 x.1.2.2.1.length x.1.2.2.1) ∧
    (x.2.1.length ≤ c3 ∧ Kd.C k36 w A3 x.2.1.length x.2.1) ∧ (x.2.2.1.length ≤ c4 ∧ Kd.C (Kd.int .i64) w A4 x.2.2.1.length x.2.2.1) ∧ (x.2.2.2.1.length ≤ c5 ∧ Kd.C k38 w A5 x.2.2.2.1.length x.2.2.2.1) ∧ (x.2.2.2.2.1.length ≤ c6 ∧ Kd.C k56 w A6 x.2.2.2.2.1.length x.2.2.2.2.1) := by
  obtain ⟨pcs, _, rfl, hp, _, _, rfl, ⟨A3, c3, rfl, l3, h3⟩, _, _, rfl, ⟨A4, c4, rfl, l4, h4⟩, _, _, rfl, ⟨A5, c5, rfl, l5, h5⟩, _, _, rfl, ⟨A6, c6, rfl, l6, h6⟩, _, _, rfl, e7, e8⟩ := h
  obtain ⟨A0, c0, A1, c1, A2, c2, rfl, a0, a1, a2⟩ := plat_open hp
  cases e7; cases e8
  exact ⟨A0, c0, A1, c1, A2, c2, A3, c3, A4, c4, A5, c5, A6, c6, rfl, a0, a1, a2, ⟨l3, h3⟩, ⟨l4, h4⟩, ⟨l5, h5⟩, ⟨l6, h6⟩⟩
end Go.Proofs.Ytchlbnlhjllcbaa.Opn
namespace Go.Proofs.Ytchlbnlhjllcbaa.Sla
open Go.RowKit Go.Proofs.Ytchlbnlhjllcbaa.F Go.Proofs.Ytchlbnlhjllcbaa.Opn Go.Proofs.YtchlbnlhjllcbaaW.PrintWords Go.Proofs.YtchlbnlhjllcbaaW.PrintLast Go.Proofs.YtchlbnlhjllcbaaW.PrintMore
set_option linter.unusedVariables false
theorem below_undrew {w w2 : World} (h : Below w.drew.heap.size w.drew w2) : Below w.heap.size w w2 := ⟨h.os, h.tape, h.output, h.size, h.block⟩
theorem below_of_drawn {w w2 : World} (h : Drawn0 w w2) : Below w.heap.size w w2 := by obtain ⟨n, rfl⟩ := h.out; exact pw_below_drewN (Below.refl _ _) n
section
variable (w W : World) (A0 : Option Addr) (c0 : Nat) (l0 : List S58) (A1 : Option Addr) (c1 : Nat) (l1 : List S68) (A2 : Option Addr) (c2 : Nat) (l2 : List S71) (A3 : Option Addr) (c3 : Nat) (ts : List S36) (A4 : Option Addr) (c4 : Nat) (nx : List Int) (idle crit sw swE sems hor : Int) (jv hv : Value) (now at_ : Int)
abbrev vbox : Array Value := #[.slice A0 l0.length c0, .slice A1 l1.length c1, .slice A2 l2.length c2, .int .i64 idle, .int .i64 crit, .int .i64 sw, .int .i64 swE, .int .i64 sems, .int .i64 hor, .slice A3 ts.length c3, .slice A4 nx.length c4, jv, hv, .int .i64 now, .int .i64 at_]
structure VM : Prop where
  g0 : l0.length ≤ c0
  r0 : Kd.C k58 w A0 l0.length l0
  g1 : l1.length ≤ c1
  r1 : Kd.C k68 w A1 l1.length l1
  g2 : l2.length ≤ c2
  r2 : Kd.C k71 w A2 l2.length l2
  g3 : ts.length ≤ c3
  r3 : Kd.C k36 w A3 ts.length ts
  g4 : nx.length ≤ c4
  r4 : Kd.C (Kd.int .i64) w A4 nx.length nx
  bv : W.heap[w.heap.size]? = some (.cells (vbox A0 c0 l0 A1 c1 l1 A2 c2 l2 A3 c3 ts A4 c4 nx idle crit sw swE sems hor jv hv now at_) 32 (0, 0))
  hb : Below w.heap.size w W
end
section
variable {w W W' : World} {A0 : Option Addr} {c0 : Nat} {l0 : List S58} {A1 : Option Addr} {c1 : Nat} {l1 : List S68} {A2 : Option Addr} {c2 : Nat} {l2 : List S71} {A3 : Option Addr} {c3 : Nat} {ts : List S36} {A4 : Option Addr} {c4 : Nat} {nx : List Int} {idle crit sw swE sems hor : Int} {jv hv : Value} {now at_ : Int}
theorem VM.step (h : VM w W A0 c0 l0 A1 c1 l1 A2 c2 l2 A3 c3 ts A4 c4 nx idle crit sw swE sems hor jv hv now at_) (hb : Below W.heap.size W W') : VM w W' A0 c0 l0 A1 c1 l1 A2 c2 l2 A3 c3 ts A4 c4 nx idle crit sw swE sems hor jv hv now at_ := ⟨h.g0, h.r0, h.g1, h.r1, h.g2, h.r2, h.g3, h.r3, h.g4, h.r4, blk_below h.bv hb, below_step h.hb hb⟩
theorem VM.far (h : VM w W A0 c0 l0 A1 c1 l1 A2 c2 l2 A3 c3 ts A4 c4 nx idle crit sw swE sems hor jv hv now at_) {p : Addr} (hg : w.heap.size < p.block) (u : Value) : VM w (W.setCell p u) A0 c0 l0 A1 c1 l1 A2 c2 l2 A3 c3 ts A4 c4 nx idle crit sw swE sems hor jv hv now at_ := ⟨h.g0, h.r0, h.g1, h.r1, h.g2, h.r2, h.g3, h.r3, h.g4, h.r4, blk_far h.bv (Nat.ne_of_lt hg) u, h.hb.setCell (Nat.le_of_lt hg) _⟩
theorem VM.alloc (h : VM w W A0 c0 l0 A1 c1 l1 A2 c2 l2 A3 c3 ts A4 c4 nx idle crit sw swE sems hor jv hv now at_) (o : Obj) : VM w (W.alloc o) A0 c0 l0 A1 c1 l1 A2 c2 l2 A3 c3 ts A4 c4 nx idle crit sw swE sems hor jv hv now at_ := h.step ((Below.refl W.heap.size W).alloc (Nat.le_refl _) o)
theorem VM.drew (h : VM w W A0 c0 l0 A1 c1 l1 A2 c2 l2 A3 c3 ts A4 c4 nx idle crit sw swE sems hor jv hv now at_) : VM w W.drew A0 c0 l0 A1 c1 l1 A2 c2 l2 A3 c3 ts A4 c4 nx idle crit sw swE sems hor jv hv now at_ := h.step ((Below.refl W.heap.size W).drew)
theorem VM.start (g0 : l0.length ≤ c0) (r0 : Kd.C k58 w A0 l0.length l0) (g1 : l1.length ≤ c1) (r1 : Kd.C k68 w A1 l1.length l1) (g2 : l2.length ≤ c2) (r2 : Kd.C k71 w A2 l2.length l2) (g3 : ts.length ≤ c3) (r3 : Kd.C k36 w A3 ts.length ts) (g4 : nx.length ≤ c4) (r4 : Kd.C (Kd.int .i64) w A4 nx.length nx) :
    VM w (w.alloc (.cells (vbox A0 c0 l0 A1 c1 l1 A2 c2 l2 A3 c3 ts A4 c4 nx idle crit sw swE sems hor jv hv now at_) 32 (0, 0))) A0 c0 l0 A1 c1 l1 A2 c2 l2 A3 c3 ts A4 c4 nx idle crit sw swE sems hor jv hv now at_ := by
  exact ⟨g0, r0, g1, r1, g2, r2, g3, r3, g4, r4, heap_alloc_new _ _, (Below.refl w.heap.size w).alloc (Nat.le_refl _) _⟩
theorem VM.seth (h : VM w W A0 c0 l0 A1 c1 l1 A2 c2 l2 A3 c3 ts A4 c4 nx idle crit sw swE sems hor jv hv now at_) (u : Value) : VM w (W.setCell ⟨w.heap.size, 12, none⟩ u) A0 c0 l0 A1 c1 l1 A2 c2 l2 A3 c3 ts A4 c4 nx idle crit sw swE sems hor jv u now at_ := ⟨h.g0, h.r0, h.g1, h.r1, h.g2, h.r2, h.g3, h.r3, h.g4, h.r4, blk_put h.bv 12 u rfl, h.hb.setCell (Nat.le_refl _) _⟩
theorem VM.R0 (h : VM w W A0 c0 l0 A1 c1 l1 A2 c2 l2 A3 c3 ts A4 c4 nx idle crit sw swE sems hor jv hv now at_) : Kd.C k58 W A0 l0.length l0 := Kd.C_below h.r0 h.hb
theorem VM.R1 (h : VM w W A0 c0 l0 A1 c1 l1 A2 c2 l2 A3 c3 ts A4 c4 nx idle crit sw swE sems hor jv hv now at_) : Kd.C k68 W A1 l1.length l1 := Kd.C_below h.r1 h.hb
theorem VM.R2 (h : VM w W A0 c0 l0 A1 c1 l1 A2 c2 l2 A3 c3 ts A4 c4 nx idle crit sw swE sems hor jv hv now at_) : Kd.C k71 W A2 l2.length l2 := Kd.C_below h.r2 h.hb
theorem VM.R3 (h : VM w W A0 c0 l0 A1 c1 l1 A2 c2 l2 A3 c3 ts A4 c4 nx idle crit sw swE sems hor jv hv now at_) : Kd.C k36 W A3 ts.length ts := Kd.C_below h.r3 h.hb
theorem VM.R4 (h : VM w W A0 c0 l0 A1 c1 l1 A2 c2 l2 A3 c3 ts A4 c4 nx idle crit sw swE sems hor jv hv now at_) : Kd.C (Kd.int .i64) W A4 nx.length nx := Kd.C_below h.r4 h.hb
theorem VM.x (h : VM w W A0 c0 l0 A1 c1 l1 A2 c2 l2 A3 c3 ts A4 c4 nx idle crit sw swE sems hor jv hv now at_) :
    W.cell? ⟨w.heap.size, 0, none⟩ = some (.slice A0 l0.length c0) ∧ W.cell? ⟨w.heap.size, 1, none⟩ = some (.slice A1 l1.length c1) ∧ W.cell? ⟨w.heap.size, 2, none⟩ = some (.slice A2 l2.length c2) ∧ W.cell? ⟨w.heap.size, 3, none⟩ = some (.int .i64 idle) ∧ W.cell? ⟨w.heap.size, 4, none⟩ = some (.int .i64 crit) ∧ W.cell? ⟨w.heap.size, 5, none⟩ = some (.int .i64 sw) ∧ W.cell? ⟨w.heap.size, 6, none⟩ = some (.int .i64 swE) ∧ W.cell? ⟨w.heap.size, 7, none⟩ = some (.int .i64 sems) ∧ W.cell? ⟨w.heap.size, 8, none⟩ = some (.int .i64 hor) ∧ W.cell? ⟨w.heap.size, 9, none⟩ = some (.slice A3 ts.length c3) ∧ W.cell? ⟨w.heap.size, 10, none⟩ = some (.slice A4 nx.length c4) ∧ W.cell? ⟨w.heap.size, 11, none⟩ = some (jv) ∧ W.cell? ⟨w.heap.size, 12, none⟩ = some (hv) ∧ W.cell? ⟨w.heap.size, 13, none⟩ = some (.int .i64 now) ∧ W.cell? ⟨w.heap.size, 14, none⟩ = some (.int .i64 at_) :=
  ⟨(blk_cell h.bv 0).trans rfl, (blk_cell h.bv 1).trans rfl, (blk_cell h.bv 2).trans rfl, (blk_cell h.bv 3).trans rfl, (blk_cell h.bv 4).trans rfl, (blk_cell h.bv 5).trans rfl, (blk_cell h.bv 6).trans rfl, (blk_cell h.bv 7).trans rfl, (blk_cell h.bv 8).trans rfl, (blk_cell h.bv 9).trans rfl, (blk_cell h.bv 10).trans rfl, (blk_cell h.bv 11).trans rfl, (blk_cell h.bv 12).trans rfl, (blk_cell h.bv 13).trans rfl, (blk_cell h.bv 14).trans rfl⟩
end
section
variable {α : Type} {d : Kd α} {e : Nat} {w W W' : World} {g : Nat} {xs : List α}
/-- block g's cells read as the row xs; what its elements lead to was there in w -/
def Rows (d : Kd α) (e : Nat) (w W : World) (g : Nat) (xs : List α) : Prop :=
  ∃ cur : Array Value, W.heap[g]? = some (.cells cur e (0, 0)) ∧ xs.length * d.sz ≤ cur.size ∧ ∀ (j : Nat) (p : α), xs[j]? = some p → ∃ c, c.length = d.sz ∧ d.K w p c ∧ ∀ (i : Nat) (u : Value), c[i]? = some u → cur[j * d.sz + i]? = some u
theorem Rows.C (h : Rows d e w W g xs) (hb : Below w.heap.size w W) (hn : xs.length ≤ 9223372036854775807) : Kd.C d W (some ⟨g, 0, none⟩) xs.length xs := by
  obtain ⟨cur, hg, _, hx⟩ := h
  refine ⟨rfl, hn, fun _ => ⟨_, rfl, fun j p hj => ?_⟩⟩
  obtain ⟨c, h0, h1, h2⟩ := hx j p hj
  refine ⟨c, h0, d.K_below hb h1, fun i u hu => ?_⟩
  have := blk_cell hg (j * d.sz + i)
  rw [h2 i u hu] at this
  have e : ∀ n : Nat, (⟨g, 0, none⟩ : Addr).add n = ⟨g, n, none⟩ := fun n => by unfold Addr.add; split <;> simp_all
  rw [e]; exact this
theorem Rows.below (h : Rows d e w W g xs) (hb : Below W.heap.size W W') : Rows d e w W' g xs := by
  obtain ⟨cur, hg, hs, hx⟩ := h
  exact ⟨cur, blk_below hg hb, hs, hx⟩
theorem Rows.far (h : Rows d e w W g xs) {p : Addr} (hp : g ≠ p.block) (u : Value) : Rows d e w (W.setCell p u) g xs := by
  obtain ⟨cur, hg, hs, hx⟩ := h
  exact ⟨cur, blk_far hg hp u, hs, hx⟩
theorem Rows.frozen (h : Rows d e w W g xs) (i : Nat) : W.frozen? ⟨g, i, none⟩ = false := by
  obtain ⟨cur, hg, _⟩ := h
  exact blk_frozen hg i
theorem Rows.cell (h : Rows d e w W g xs) (i : Nat) (hi : i < xs.length * d.sz) : ∃ u, W.cell? ⟨g, i, none⟩ = some u := by
  obtain ⟨cur, hg, hs, _⟩ := h
  have := blk_cell hg i
  rw [Array.getElem?_eq_getElem (show i < cur.size by omega)] at this
  exact ⟨_, this⟩
/-- what was read of a row as lists of cells -/
theorem cells_of {A : Option Addr} {n : Nat} (h : Kd.C d W A n xs) (hn : 0 < n) : ∃ (ad : Addr) (rows : List (List Value)), A = some ad ∧ rows.length = n ∧ (∀ c ∈ rows, c.length = d.sz) ∧ (∀ (j : Nat) (p : α), xs[j]? = some p → ∃ c, rows[j]? = some c ∧ d.K W p c) ∧
    ∀ (j : Nat) (c : List Value), rows[j]? = some c → ∀ (i : Nat) (u : Value), c[i]? = some u → W.cell? (ad.add (j * d.sz + i)) = some u := by
  obtain ⟨hl, _, h2⟩ := h
  obtain ⟨ad, rfl, hx⟩ := h2 hn
  clear h2
  suffices hs : ∀ (ps : List α) (k : Nat), (∀ (j : Nat) (p : α), ps[j]? = some p → ∃ c, c.length = d.sz ∧ d.K W p c ∧ ∀ (i : Nat) (u : Value), c[i]? = some u → W.cell? (ad.add ((k + j) * d.sz + i)) = some u) → ∃ rows : List (List Value), rows.length = ps.length ∧ (∀ c ∈ rows, c.length = d.sz) ∧ (∀ (j : Nat) (p : α), ps[j]? = some p → ∃ c, rows[j]? = some c ∧ d.K W p c) ∧
      ∀ (j : Nat) (c : List Value), rows[j]? = some c → ∀ (i : Nat) (u : Value), c[i]? = some u → W.cell? (ad.add ((k + j) * d.sz + i)) = some u by
    obtain ⟨rows, a, b, c, e⟩ := hs xs 0 (fun j p hj => by
      obtain ⟨c, h0, h1, h2⟩ := hx j p hj
      exact ⟨c, h0, h1, fun i u hu => by rw [Nat.zero_add]; exact h2 i u hu⟩)
    exact ⟨ad, rows, rfl, by omega, b, c, fun j c' hj i u hu => by have := e j c' hj i u hu; rwa [Nat.zero_add] at this⟩
  intro ps
  induction ps with
  | nil => intro k _; exact ⟨[], rfl, fun c h => (by simp at h), fun j p h => (by simp at h), fun j c h => (by simp at h)⟩
  | cons p ps ih =>
    intro k hk
    obtain ⟨rows, a, b, c, e⟩ := ih (k + 1) (fun j q hj => by
      obtain ⟨c, h0, h1, h2⟩ := hk (j + 1) q (by simpa using hj)
      exact ⟨c, h0, h1, fun i u hu => by have := h2 i u hu; rwa [show k + (j + 1) = k + 1 + j from by omega] at this⟩)
    obtain ⟨c0, z0, z1, z2⟩ := hk 0 p rfl
    refine ⟨c0 :: rows, by simp [a], ?_, ?_, ?_⟩
    · intro c' hc'
      rcases List.mem_cons.1 hc' with rfl | hc'
      · exact z0
      · exact b c' hc'
    · intro j q hj
      cases j with
      | zero => simp at hj; subst hj; exact ⟨c0, rfl, z1⟩
      | succ j => exact c j q (by simpa using hj)
    · intro j c' hj i u hu
      cases j with
      | zero => simp at hj; subst hj; exact z2 i u hu
      | succ j => have := e j c' (by simpa using hj) i u hu; rwa [show k + 1 + j = k + (j + 1) from by omega] at this
/-- cells in a row, as lists: the elements of a list of rows -/
theorem flat_get : ∀ (rows : List (List Value)) (sz : Nat), (∀ c ∈ rows, c.length = sz) → ∀ (j : Nat) (c : List Value), rows[j]? = some c → ∀ (i : Nat) (u : Value), c[i]? = some u → rows.flatten[j * sz + i]? = some u
  | [], _, _, j, c, h, _, _, _ => by simp at h
  | r :: rows, sz, hs, 0, c, h, i, u, hu => by
    simp at h; subst h
    have hi : i < r.length := by rw [List.getElem?_eq_some_iff] at hu; exact hu.1
    rw [List.flatten_cons, Nat.zero_mul, Nat.zero_add, List.getElem?_append_left hi]; exact hu
  | r :: rows, sz, hs, j + 1, c, h, i, u, hu => by
    have hr := hs r (by simp)
    rw [List.flatten_cons, List.getElem?_append_right (by rw [hr, Nat.succ_mul]; omega), hr, show (j + 1) * sz + i - sz = j * sz + i from by rw [Nat.succ_mul]; omega]
    exact flat_get rows sz (fun c hc => hs c (by simp [hc])) j c (by simpa using h) i u hu
theorem flat_len : ∀ (rows : List (List Value)) (sz : Nat), (∀ c ∈ rows, c.length = sz) → rows.flatten.length = rows.length * sz
  | [], _, _ => by simp
  | r :: rows, sz, hs => by
    have := flat_len rows sz (fun c hc => hs c (by simp [hc]))
    rw [List.flatten_cons, List.length_append, this, hs r (by simp), List.length_cons, Nat.succ_mul]; omega
theorem flat_of : ∀ (rows : List (List Value)) (sz : Nat), (∀ c ∈ rows, c.length = sz) → 0 < sz → ∀ (k : Nat) (u : Value), rows.flatten[k]? = some u → ∃ (j i : Nat) (c : List Value), rows[j]? = some c ∧ c[i]? = some u ∧ k = j * sz + i := by
  intro rows sz hs h0 k u hu
  have hk : k < rows.flatten.length := by rw [List.getElem?_eq_some_iff] at hu; exact hu.1
  rw [flat_len rows sz hs] at hk
  have hj : k / sz < rows.length := by rw [Nat.div_lt_iff_lt_mul h0]; exact hk
  have hm := Nat.mod_lt k h0
  have e : k / sz * sz + k % sz = k := by rw [Nat.mul_comm]; exact Nat.div_add_mod k sz
  have hc : rows[k / sz]? = some rows[k / sz] := List.getElem?_eq_getElem hj
  have hlen := hs rows[k / sz] (List.getElem_mem hj)
  have hi : rows[k / sz][k % sz]? = some (rows[k / sz][k % sz]'(by omega)) := List.getElem?_eq_getElem _
  have := flat_get rows sz hs _ _ hc _ _ hi
  rw [e, hu] at this
  refine ⟨k / sz, k % sz, _, hc, ?_, e.symm⟩
  rw [hi]; exact this.symm
/-- A row that is owned and holds the cells that were read of another one reads as that one. -/
theorem rows_of_own {base n m c : Nat} {g : Nat} {rows : List (List Value)} (h : W.ownsRow base e d.sz (.slice (some ⟨g, 0, none⟩) m c) n rows.flatten) (hs : ∀ r ∈ rows, r.length = d.sz) (hl : rows.length = xs.length)
    (hK : ∀ (j : Nat) (p : α), xs[j]? = some p → ∃ c, rows[j]? = some c ∧ d.K w p c) : Rows d e w W g xs := by
  obtain ⟨hfl, h⟩ := h
  rcases h with ⟨h, _⟩ | ⟨g', cap, cur, hv, _, hg, _, _, _, ht⟩
  · cases h
  · injection hv with hv1 hv2 hv3
    injection hv1 with hv1
    injection hv1 with hv1
    subst hv1
    have hsz : rows.flatten.length ≤ cur.size := by
      have := congrArg List.length ht
      simp only [List.length_take, Array.length_toList] at this
      omega
    refine ⟨cur, hg, by rw [← hl, ← flat_len rows d.sz hs]; exact hsz, fun j p hj => ?_⟩
    obtain ⟨r, hr, hk⟩ := hK j p hj
    have hrl := hs r (List.mem_of_getElem? hr)
    refine ⟨r, hrl, hk, fun i u hu => ?_⟩
    have hf := flat_get rows d.sz hs j r hr i u hu
    have hi : j * d.sz + i < rows.flatten.length := by rw [List.getElem?_eq_some_iff] at hf; exact hf.1
    rw [← ht, List.getElem?_take] at hf
    split at hf
    · rw [← Array.getElem?_toList]; exact hf
    · cases hf
/-- One element set: so many cells from its place on. -/
theorem Rows.set {cs : List Value} (h : Rows d e w W g xs) (i : Nat) (x : α) (hi : i < xs.length) (hc : cs.length = d.sz)
    {W' : World} (hW : ∀ cur : Array Value, W.heap[g]? = some (.cells cur e (0, 0)) → xs.length * d.sz ≤ cur.size → ∃ cur' : Array Value, W'.heap[g]? = some (.cells cur' e (0, 0)) ∧ cur'.size = cur.size ∧ (∀ k u, cs[k]? = some u → cur'[i * d.sz + k]? = some u) ∧ ∀ k, (k < i * d.sz ∨ i * d.sz + d.sz ≤ k) → cur'[k]? = cur[k]?)
    (hK : d.K w x cs) : Rows d e w W' g (xs.set i x) := by
  obtain ⟨cur, hg, hs, hx⟩ := h
  obtain ⟨cur', hg', hs', h1, h2⟩ := hW cur hg hs
  refine ⟨cur', hg', by rw [List.length_set, hs']; exact hs, fun j p hj => ?_⟩
  rw [List.getElem?_set] at hj
  by_cases hij : i = j
  · subst hij
    rw [if_pos rfl, if_pos hi] at hj
    cases hj
    exact ⟨cs, hc, hK, h1⟩
  · rw [if_neg hij] at hj
    obtain ⟨c, a, b, k⟩ := hx j p hj
    refine ⟨c, a, b, fun q u hu => ?_⟩
    have hq : q < d.sz := by rw [List.getElem?_eq_some_iff] at hu; rw [← a]; exact hu.1
    rw [h2 _ ?_]
    · exact k q u hu
    · rcases Nat.lt_or_ge j i with hlt | hge
      · left
        have : (j + 1) * d.sz ≤ i * d.sz := Nat.mul_le_mul_right _ hlt
        rw [Nat.succ_mul] at this; omega
      · right
        have : (i + 1) * d.sz ≤ j * d.sz := Nat.mul_le_mul_right _ (by omega)
        rw [Nat.succ_mul] at this; omega
theorem Rows.set1 (h : Rows d e w W g xs) (hd : d.sz = 1) (i : Nat) (x : α) (hi : i < xs.length) (v : Value) (hK : d.K w x [v]) : Rows d e w (W.setCell ⟨g, i, none⟩ v) g (xs.set i x) := by
  refine h.set (cs := [v]) i x hi (by rw [hd]; rfl) (fun cur hc hs => ⟨_, blk_set hc i v, by simp, fun k u hu => ?_, fun k hk => ?_⟩) hK
  · have hk : k < 1 := by rw [List.getElem?_eq_some_iff] at hu; exact hu.1
    obtain rfl : k = 0 := by omega
    rw [hd, Nat.mul_one] at hs
    simp at hu; subst hu
    rw [hd, Nat.mul_one, Nat.add_zero, Array.getElem?_setIfInBounds]
    rw [if_pos rfl, if_pos (by omega)]
  · rw [hd] at hk
    rw [Array.getElem?_setIfInBounds_ne (by omega)]
end
section
variable {P : Program} {ops : Array Oper} {rest : List Oper} {o : Oper} {a : Act} {Q : Exit → Act → World → Prop} {α : Type} {d : Kd α}
/-- append(empty, xs...): a row of the call's own that reads as xs. -/
theorem app_rows {wr w0 W : World} (hgd : o.guard = none) (s x : Operand) (t e : TypeId) (z : Value) (bytes : Nat)
    (ho : o.op = .call { callee := .builtin .append, args := #[s, x], argTypes := #[t, t] })
    (ht : P.underlying t = some (.slice e)) (hinfo : (P.info? e).map (fun i => (i.zero, i.size, i.bytes)) = some (some z, d.sz, bytes)) (hz : z.cells.size = d.sz) (hs0 : 0 < d.sz) (hb0 : 0 < bytes)
    (v : Value) (hs : a.eval s = v) (HO : W.ownsRow w0.heap.size e d.sz v 0 []) (HB : Below w0.heap.size w0 W) {A : Option Addr} {n c : Nat} {xs : List α} (hx : a.eval x = .slice A n c) (hR : Below wr.heap.size wr w0) (hC : Kd.C d wr A n xs) (hn : 0 < n) (hl : n * bytes ≤ 140737488355328)
    (h : ∀ g c' w1, Rows d e wr w1 g xs → n ≤ c' → w0.heap.size ≤ g → Below w0.heap.size w0 w1 → wpList P ops Q rest (a.put o.dst (.slice (some ⟨g, 0, none⟩) n c')) w1) :
    wpList P ops Q (o :: rest) a W := by
  obtain ⟨i0, hi, hzz⟩ := Option.map_eq_some_iff.1 hinfo
  simp only [Prod.mk.injEq] at hzz
  obtain ⟨hz0, hz1, hz2⟩ := hzz
  have hlen : n ≤ 140737488355328 := Nat.le_trans (Nat.le_mul_of_pos_right _ hb0) hl
  have hxn : xs.length = n := hC.1
  obtain ⟨ad, rows, rfl, hrl, hrs, hrK, hrc⟩ := cells_of hC hn
  refine wpList_append_own_at W hgd s x t ho w0.heap.size e i0 z d.sz bytes ht hi hz0 hz1 hz2 hz hs0 v 0 [] hs HO ad n c rows.flatten hx (by rw [flat_len rows d.sz hrs, hrl]) ?_ ?_ (by simp only [maxLen]; omega) (by rw [Nat.zero_add]; exact hl) HB.size ?_
  · intro k u hu
    obtain ⟨j, i, r, hj, hr, rfl⟩ := flat_of rows d.sz hrs hs0 k u hu
    exact pw_cell_below HB (pw_cell_below hR (hrc j r hj i u hr))
  · intro u hu
    obtain ⟨r, hr, hu'⟩ := List.mem_flatten.1 hu
    obtain ⟨j, hj⟩ := List.getElem?_of_mem hr
    have hjl : j < rows.length := by rw [List.getElem?_eq_some_iff] at hj; exact hj.1
    obtain ⟨r', h1, h2⟩ := hrK j xs[j] (List.getElem?_eq_getElem (by omega))
    rw [hj] at h1; cases h1
    exact d.K_one h2 u hu'
  · intro v1 w1 hown hg _ _
    rw [List.nil_append, Nat.zero_add] at hown
    have HB1 : Below w0.heap.size w0 w1 := HB.grown hg HB.size (own_base HO)
    obtain ⟨hfl, hown'⟩ := hown
    rcases hown' with ⟨_, h0⟩ | ⟨g, cap, cur, rfl, hbg, hgg, hcap, hmx, hsz, htk⟩
    · omega
    · refine h g cap w1 (rows_of_own (base := w0.heap.size) (m := n) (c := cap) (n := n) ⟨hfl, .inr ⟨g, cap, cur, rfl, hbg, hgg, hcap, hmx, hsz, htk⟩⟩ hrs (by omega) (fun j p hj => ?_)) hcap hbg HB1
      obtain ⟨r, h1, h2⟩ := hrK j p hj
      exact ⟨r, h1, h2⟩
def OwnT (d : Kd α) (e : Nat) (w W : World) (base : Nat) (v : Value) (xs : List α) : Prop :=
  ∃ rows : List (List Value), W.ownsRow base e d.sz v xs.length rows.flatten ∧ (∀ r ∈ rows, r.length = d.sz) ∧ rows.length = xs.length ∧ ∀ (j : Nat) (p : α), xs[j]? = some p → ∃ c, rows[j]? = some c ∧ d.K w p c
theorem OwnT.nil (d : Kd α) (e : Nat) (w W : World) (base : Nat) : OwnT d e w W base (.slice none 0 0) [] :=
  ⟨[], ⟨by simp, .inl ⟨rfl, rfl⟩⟩, fun r h => by simp at h, rfl, fun j p h => by simp at h⟩
theorem OwnT.form {e : Nat} {w W : World} {base : Nat} {v : Value} {xs : List α} (h : OwnT d e w W base v xs) (hb : Below w.heap.size w W) (hn : xs.length ≤ 9223372036854775807) : ∃ A c, v = .slice A xs.length c ∧ xs.length ≤ c ∧ Kd.C d W A xs.length xs := by
  obtain ⟨rows, ho, hs, hl, hK⟩ := h
  obtain ⟨hfl, ho'⟩ := ho
  rcases ho' with ⟨hv, h0⟩ | ⟨g, cap, cur, hv, hbg, hgg, hcap, hmx, hsz, htk⟩
  · have : xs = [] := List.eq_nil_of_length_eq_zero h0
    subst this
    exact ⟨none, 0, hv, Nat.le_refl _, Kd.C_nil _ _⟩
  · have hr : Rows d e w W g xs := rows_of_own (base := base) (m := xs.length) (c := cap) (n := xs.length) ⟨hfl, .inr ⟨g, cap, cur, rfl, hbg, hgg, hcap, hmx, hsz, htk⟩⟩ hs hl hK
    exact ⟨some ⟨g, 0, none⟩, cap, hv, hcap, hr.C hb hn⟩
theorem OwnT.below {e : Nat} {w W W' : World} {base : Nat} {v : Value} {xs : List α} (h : OwnT d e w W base v xs) (hb : Below W.heap.size W W') : OwnT d e w W' base v xs := by
  obtain ⟨rows, ⟨hfl, ho⟩, r⟩ := h
  refine ⟨rows, ⟨hfl, ?_⟩, r⟩
  rcases ho with ho | ⟨g, cap, cur, hv, hbg, hgg, q⟩
  · exact .inl ho
  · exact .inr ⟨g, cap, cur, hv, hbg, blk_below hgg hb, q⟩
end
end Go.Proofs.Ytchlbnlhjllcbaa.Sla
namespace Go.Proofs.Ytchlbnlhjllcbaa.F
open Go.RowKit Go.Proofs.YtchlbnlhjllcbaaW.PrintWords Go.Proofs.YtchlbnlhjllcbaaW.PrintLast Go.Proofs.YtchlbnlhjllcbaaW.PrintMore
attribute [local go_sem] max2_int min2_int max_two min_two max_three min_three max_four min_four   -- for this text's walks alone
set_option linter.unusedVariables false
set_option linter.unusedSimpArgs false
def dormouseref01_away.f (a0 : Int) (a1 : Int) (a2 : Int) (a3 : Int) (a4 : Int) (a5 : Int) (a6 : Int) : Option (Bool) := if a0 < 0 then (some false) else (if a0 > 256 then (some false) else (if a1 < 0 then (some false) else (if a1 > 256 then (some false) else (if a2 < 0 then (some false) else (if a2 > 65536 then (some false) else (if a3 < 0 then (some false) else (if a3 > 65536 then (some false) else (if a5 < 0 then (some false) else (if a5 > 65536 then (some false) else (if a4 < 0 then (some false) else (if a4 > a5 then (some false) else (if a6 ≥ (wrap64 (a0 + a1)) then (if a6 ≥ 1 then (if a6 ≤ 16384 then (some (decide ((wrap64 ((wrap64 (a2 + a3)) + (wrap64 (a4 * (wrap64 ((wrap64 (a6 - a0)) - a1)))))) ≤ (wrap64 (a5 * a6))))) else (some false)) else (some false)) else (some false)))))))))))))
set_option maxHeartbeats 8000000 in
set_option maxRecDepth 100000 in
theorem dormouseref01_away.calls (a0 : Int) (a1 : Int) (a2 : Int) (a3 : Int) (a4 : Int) (a5 : Int) (a6 : Int) (r : Bool) (w : World) (h : dormouseref01_away.f a0 a1 a2 a3 a4 a5 a6 = some r) :
    Calls Try.prog 51 #[.int .i64 a0, .int .i64 a1, .int .i64 a2, .int .i64 a3, .int .i64 a4, .int .i64 a5, .int .i64 a6] w fun e w' => e = .returned (.bool r) ∧ Drawn0 w w' := by
  have H : (if a0 < 0 then (some false) else (if a0 > 256 then (some false) else (if a1 < 0 then (some false) else (if a1 > 256 then (some false) else (if a2 < 0 then (some false) else (if a2 > 65536 then (some false) else (if a3 < 0 then (some false) else (if a3 > 65536 then (some false) else (if a5 < 0 then (some false) else (if a5 > 65536 then (some false) else (if a4 < 0 then (some false) else (if a4 > a5 then (some false) else (if a6 ≥ (wrap64 (a0 + a1)) then (if a6 ≥ 1 then (if a6 ≤ 16384 then (some (decide ((wrap64 ((wrap64 (a2 + a3)) + (wrap64 (a4 * (wrap64 ((wrap64 (a6 - a0)) - a1)))))) ≤ (wrap64 (a5 * a6))))) else (some false)) else (some false)) else (some false)))))))))))))) = some r := h
  clear h
  by_cases c8 : a0 < 0
  · rw [if_pos c8] at H
    have c8b0 : decide (a0 < 0) = true := decide_eq_true c8
    clear c8
    obtain rfl := Option.some.inj H
    go_enter Try.func51, Try.ntmps51
    go_wp2
    go_ret
    exact ⟨by first | rfl | (simp; done) | (simp [*]; done), by repeat (first | exact Drawn0.refl _ | apply Drawn0.step)⟩
  · rw [if_neg c8] at H
    have c8b0 : decide (a0 < 0) = false := decide_eq_false c8
    clear c8
    by_cases c9 : a0 > 256
    · rw [if_pos c9] at H
      have c9b0 : decide (256 < a0) = true := decide_eq_true c9
      clear c9
      obtain rfl := Option.some.inj H
      go_enter Try.func51, Try.ntmps51
      go_wp2
      go_ret
      exact ⟨by first | rfl | (simp; done) | (simp [*]; done), by repeat (first | exact Drawn0.refl _ | apply Drawn0.step)⟩
    · rw [if_neg c9] at H
      have c9b0 : decide (256 < a0) = false := decide_eq_false c9
      clear c9
      by_cases c10 : a1 < 0
      · rw [if_pos c10] at H
        have c10b0 : decide (a1 < 0) = true := decide_eq_true c10
        clear c10
        obtain rfl := Option.some.inj H
        go_enter Try.func51, Try.ntmps51
        go_wp2
        go_ret
        exact ⟨by first | rfl | (simp; done) | (simp [*]; done), by repeat (first | exact Drawn0.refl _ | apply Drawn0.step)⟩
      · rw [if_neg c10] at H
        have c10b0 : decide (a1 < 0) = false := decide_eq_false c10
        clear c10
        by_cases c11 : a1 > 256
        · rw [if_pos c11] at H
          have c11b0 : decide (256 < a1) = true := decide_eq_true c11
          clear c11
          obtain rfl := Option.some.inj H
          go_enter Try.func51, Try.ntmps51
          go_wp2
          go_ret
          exact ⟨by first | rfl | (simp; done) | (simp [*]; done), by repeat (first | exact Drawn0.refl _ | apply Drawn0.step)⟩
        · rw [if_neg c11] at H
          have c11b0 : decide (256 < a1) = false := decide_eq_false c11
          clear c11
          by_cases c12 : a2 < 0
          · rw [if_pos c12] at H
            have c12b0 : decide (a2 < 0) = true := decide_eq_true c12
            clear c12
            obtain rfl := Option.some.inj H
            go_enter Try.func51, Try.ntmps51
            go_wp2
            go_ret
            exact ⟨by first | rfl | (simp; done) | (simp [*]; done), by repeat (first | exact Drawn0.refl _ | apply Drawn0.step)⟩
          · rw [if_neg c12] at H
            have c12b0 : decide (a2 < 0) = false := decide_eq_false c12
            clear c12
            by_cases c13 : a2 > 65536
            · rw [if_pos c13] at H
              have c13b0 : decide (65536 < a2) = true := decide_eq_true c13
              clear c13
              obtain rfl := Option.some.inj H
              go_enter Try.func51, Try.ntmps51
              go_wp2
              go_ret
              exact ⟨by first | rfl | (simp; done) | (simp [*]; done), by repeat (first | exact Drawn0.refl _ | apply Drawn0.step)⟩
            · rw [if_neg c13] at H
              have c13b0 : decide (65536 < a2) = false := decide_eq_false c13
              clear c13
              by_cases c14 : a3 < 0
              · rw [if_pos c14] at H
                have c14b0 : decide (a3 < 0) = true := decide_eq_true c14
                clear c14
                obtain rfl := Option.some.inj H
                go_enter Try.func51, Try.ntmps51
                go_wp2
                go_ret
                exact ⟨by first | rfl | (simp; done) | (simp [*]; done), by repeat (first | exact Drawn0.refl _ | apply Drawn0.step)⟩
              · rw [if_neg c14] at H
                have c14b0 : decide (a3 < 0) = false := decide_eq_false c14
                clear c14
                by_cases c15 : a3 > 65536
                · rw [if_pos c15] at H
                  have c15b0 : decide (65536 < a3) = true := decide_eq_true c15
                  clear c15
                  obtain rfl := Option.some.inj H
                  go_enter Try.func51, Try.ntmps51
                  go_wp2
                  go_ret
                  exact ⟨by first | rfl | (simp; done) | (simp [*]; done), by repeat (first | exact Drawn0.refl _ | apply Drawn0.step)⟩
                · rw [if_neg c15] at H
                  have c15b0 : decide (65536 < a3) = false := decide_eq_false c15
                  clear c15
                  by_cases c16 : a5 < 0
                  · rw [if_pos c16] at H
                    have c16b0 : decide (a5 < 0) = true := decide_eq_true c16
                    clear c16
                    obtain rfl := Option.some.inj H
                    go_enter Try.func51, Try.ntmps51
                    go_wp2
                    go_ret
                    exact ⟨by first | rfl | (simp; done) | (simp [*]; done), by repeat (first | exact Drawn0.refl _ | apply Drawn0.step)⟩
                  · rw [if_neg c16] at H
                    have c16b0 : decide (a5 < 0) = false := decide_eq_false c16
                    clear c16
                    by_cases c17 : a5 > 65536
                    · rw [if_pos c17] at H
                      have c17b0 : decide (65536 < a5) = true := decide_eq_true c17
                      clear c17
                      obtain rfl := Option.some.inj H
                      go_enter Try.func51, Try.ntmps51
                      go_wp2
                      go_ret
                      exact ⟨by first | rfl | (simp; done) | (simp [*]; done), by repeat (first | exact Drawn0.refl _ | apply Drawn0.step)⟩
                    · rw [if_neg c17] at H
                      have c17b0 : decide (65536 < a5) = false := decide_eq_false c17
                      clear c17
                      by_cases c18 : a4 < 0
                      · rw [if_pos c18] at H
                        have c18b0 : decide (a4 < 0) = true := decide_eq_true c18
                        clear c18
                        obtain rfl := Option.some.inj H
                        go_enter Try.func51, Try.ntmps51
                        go_wp2
                        go_ret
                        exact ⟨by first | rfl | (simp; done) | (simp [*]; done), by repeat (first | exact Drawn0.refl _ | apply Drawn0.step)⟩
                      · rw [if_neg c18] at H
                        have c18b0 : decide (a4 < 0) = false := decide_eq_false c18
                        clear c18
                        by_cases c19 : a4 > a5
                        · rw [if_pos c19] at H
                          have c19b0 : decide (a5 < a4) = true := decide_eq_true c19
                          clear c19
                          obtain rfl := Option.some.inj H
                          go_enter Try.func51, Try.ntmps51
                          go_wp2
                          go_ret
                          exact ⟨by first | rfl | (simp; done) | (simp [*]; done), by repeat (first | exact Drawn0.refl _ | apply Drawn0.step)⟩
                        · rw [if_neg c19] at H
                          have c19b0 : decide (a5 < a4) = false := decide_eq_false c19
                          clear c19
                          by_cases c20 : a6 ≥ (wrap64 (a0 + a1))
                          · rw [if_pos c20] at H
                            have c20b0 : decide ((wrap64 (a0 + a1)) ≤ a6) = true := decide_eq_true c20
                            clear c20
                            by_cases c21 : a6 ≥ 1
                            · rw [if_pos c21] at H
                              have c21b0 : decide (1 ≤ a6) = true := decide_eq_true c21
                              clear c21
                              by_cases c22 : a6 ≤ 16384
                              · rw [if_pos c22] at H
                                have c22b0 : decide (a6 ≤ 16384) = true := decide_eq_true c22
                                clear c22
                                obtain rfl := Option.some.inj H
                                go_enter Try.func51, Try.ntmps51
                                go_wp2
                                go_ret
                                exact ⟨by first | rfl | (simp; done) | (simp [*]; done), by repeat (first | exact Drawn0.refl _ | apply Drawn0.step)⟩
                              · rw [if_neg c22] at H
                                have c22b0 : decide (a6 ≤ 16384) = false := decide_eq_false c22
                                clear c22
                                obtain rfl := Option.some.inj H
                                go_enter Try.func51, Try.ntmps51
                                go_wp2
                                go_ret
                                exact ⟨by first | rfl | (simp; done) | (simp [*]; done), by repeat (first | exact Drawn0.refl _ | apply Drawn0.step)⟩
                            · rw [if_neg c21] at H
                              have c21b0 : decide (1 ≤ a6) = false := decide_eq_false c21
                              clear c21
                              obtain rfl := Option.some.inj H
                              go_enter Try.func51, Try.ntmps51
                              go_wp2
                              go_ret
                              exact ⟨by first | rfl | (simp; done) | (simp [*]; done), by repeat (first | exact Drawn0.refl _ | apply Drawn0.step)⟩
                          · rw [if_neg c20] at H
                            have c20b0 : decide ((wrap64 (a0 + a1)) ≤ a6) = false := decide_eq_false c20
                            clear c20
                            obtain rfl := Option.some.inj H
                            go_enter Try.func51, Try.ntmps51
                            go_wp2
                            go_ret
                            exact ⟨by first | rfl | (simp; done) | (simp [*]; done), by repeat (first | exact Drawn0.refl _ | apply Drawn0.step)⟩
end Go.Proofs.Ytchlbnlhjllcbaa.F
namespace Go.Proofs.Ytchlbnlhjllcbaa.F
open Go.RowKit Go.Proofs.YtchlbnlhjllcbaaW.PrintWords Go.Proofs.YtchlbnlhjllcbaaW.PrintLast Go.Proofs.YtchlbnlhjllcbaaW.PrintMore
attribute [local go_sem] max2_int min2_int max_two min_two max_three min_three max_four min_four   -- for this text's walks alone
set_option linter.unusedVariables false
set_option linter.unusedSimpArgs false
def dormouseref01_Sleep.f (a0_0 : Int) (a0_1 : Int) (a0_2 : Int) (a0_3 : Int) (a0_4 : Int) (a0_5 : Int) (a1 : Int) : Option (Bool) := (dormouseref01_away.f a0_1 a0_2 a0_3 a0_4 a0_0 a1 a0_5).bind fun t105 => (some t105)
set_option maxHeartbeats 8000000 in
set_option maxRecDepth 100000 in
theorem dormouseref01_Sleep.calls (a0_0 : Int) (a0_1 : Int) (a0_2 : Int) (a0_3 : Int) (a0_4 : Int) (a0_5 : Int) (a1 : Int) (r : Bool) (w : World) (h : dormouseref01_Sleep.f a0_0 a0_1 a0_2 a0_3 a0_4 a0_5 a1 = some r) :
    Calls Try.prog 35 #[.agg #[.int .i64 a0_0, .int .i64 a0_1, .int .i64 a0_2, .int .i64 a0_3, .int .i64 a0_4, .int .i64 a0_5], .int .i64 a1] w fun e w' => e = .returned (.bool r) ∧ Below w.heap.size w w' := by
  have hu68 := Try.underlying68
  have HB := Aside0.mk (Below.refl w.heap.size w)
  have H : ((dormouseref01_away.f a0_1 a0_2 a0_3 a0_4 a0_0 a1 a0_5).bind fun t105 => (some t105)) = some r := h
  clear h
  replace H := Option.bind_eq_some_iff.mp H
  obtain ⟨t105, A30, H⟩ := H
  replace H : (some t105) = some r := H
  have A3 := Aside0.mk A30
  clear A30
  obtain rfl := Option.some.inj H
  go_enter Try.func35, Try.ntmps35
  go_wp2_with (first | ((with_reducible refine gate_dst (N := 2) rfl ?_); refine box_event ?hg (N := 2) ?hd (cs := #[.int .i64 a0_0, .int .i64 a0_1, .int .i64 a0_2, .int .i64 a0_3, .int .i64 a0_4, .int .i64 a0_5]) (t := 68) ?hr ?_; (case hd => rfl); (case hg => rfl); (case hr => first | (go_simp; done) | (go_simp; rfl)); intro gb104 hg w4 hbox hb; have n0_ := Aside0.mk (below_step (by repeat (first | (with_reducible first | exact HB.out | apply below_alloc | apply pw_below_drewN | apply below_drew1) | exact HB.out)) hb); have n1_ := Aside0.mk (hbox); have n2_ := Aside0.mk ((by rw [hg]; exact (below_size (by repeat (first | (with_reducible first | exact HB.out | apply below_alloc | apply pw_below_drewN | apply below_drew1) | exact HB.out))) : w.heap.size ≤ gb104)); have n3_ := Aside0.mk ((by rw [hg]; exact (below_size (by repeat (first | (with_reducible first | exact HB.out | apply below_alloc | apply pw_below_drewN | apply below_drew1) | exact HB.out))) : w.heap.size ≤ gb104)); clear HB; have HB := n0_; have BK104 := n1_; have GW104 := n2_; have GE104 := n3_; clear n0_ n1_ n2_ n3_; clear hb hbox hg; have hcz5_0 : w4.cell? ⟨gb104, 0, none⟩ = some (.int .i64 a0_0) := (blk_cell BK104.out 0).trans rfl; have hcz5_1 : w4.cell? ⟨gb104, 1, none⟩ = some (.int .i64 a0_1) := (blk_cell BK104.out 1).trans rfl; have hcz5_2 : w4.cell? ⟨gb104, 2, none⟩ = some (.int .i64 a0_2) := (blk_cell BK104.out 2).trans rfl; have hcz5_3 : w4.cell? ⟨gb104, 3, none⟩ = some (.int .i64 a0_3) := (blk_cell BK104.out 3).trans rfl; have hcz5_4 : w4.cell? ⟨gb104, 4, none⟩ = some (.int .i64 a0_4) := (blk_cell BK104.out 4).trans rfl; have hcz5_5 : w4.cell? ⟨gb104, 5, none⟩ = some (.int .i64 a0_5) := (blk_cell BK104.out 5).trans rfl; have hfz5_0 := blk_frozen BK104.out 0; have hfz5_1 := blk_frozen BK104.out 1; have hfz5_2 := blk_frozen BK104.out 2; have hfz5_3 := blk_frozen BK104.out 3; have hfz5_4 := blk_frozen BK104.out 4; have hfz5_5 := blk_frozen BK104.out 5) | ((with_reducible refine gate_callee (f := 51) rfl ?_); refine goesL_ (some 18) rfl rfl Try.func51 (by kernel_rfl) rfl #[.int .i64 a0_1, .int .i64 a0_2, .int .i64 a0_3, .int .i64 a0_4, .int .i64 a0_0, .int .i64 a1, .int .i64 a0_5] rfl (by (try simp only [List.map_toArray, List.map_cons, List.map_nil]); first | done | rfl | (simp only [List.length_drop, List.length_take]; rfl)) ?_; (with_reducible refine (dormouseref01_away.calls a0_1 a0_2 a0_3 a0_4 a0_0 a1 a0_5 t105 _ A3.out).mono ?_); rintro e w' ⟨rfl, ⟨nd, rfl⟩⟩; refine ⟨_, rfl, ?_⟩))
  go_ret
  exact ⟨by first | rfl | (simp [errW_none, errW_some] <;> rfl) | (simp [*, errW_none, errW_some] <;> rfl), by repeat (first | (with_reducible first | exact HB.out | apply below_alloc | apply pw_below_drewN | apply below_drew1 | refine below_set ?_ GE104.out) | exact HB.out)⟩
def dormouseref01_Device.f (a0_0 : Int) (a0_1 : Int) (a0_2 : Int) (a0_3 : Int) (a0_4 : Int) (a0_5 : Int) (a0_6 : Int) : Option (Bool) := (dormouseref01_away.f a0_2 a0_3 a0_4 a0_5 a0_1 a0_0 a0_6).bind fun t107 => (some t107)
set_option maxHeartbeats 8000000 in
set_option maxRecDepth 100000 in
theorem dormouseref01_Device.calls (a0_0 : Int) (a0_1 : Int) (a0_2 : Int) (a0_3 : Int) (a0_4 : Int) (a0_5 : Int) (a0_6 : Int) (r : Bool) (w : World) (h : dormouseref01_Device.f a0_0 a0_1 a0_2 a0_3 a0_4 a0_5 a0_6 = some r) :
    Calls Try.prog 36 #[.agg #[.int .i64 a0_0, .int .i64 a0_1, .int .i64 a0_2, .int .i64 a0_3, .int .i64 a0_4, .int .i64 a0_5, .int .i64 a0_6]] w fun e w' => e = .returned (.bool r) ∧ Below w.heap.size w w' := by
  have hu71 := Try.underlying71
  have HB := Aside0.mk (Below.refl w.heap.size w)
  have H : ((dormouseref01_away.f a0_2 a0_3 a0_4 a0_5 a0_1 a0_0 a0_6).bind fun t107 => (some t107)) = some r := h
  clear h
  replace H := Option.bind_eq_some_iff.mp H
  obtain ⟨t107, A20, H⟩ := H
  replace H : (some t107) = some r := H
  have A2 := Aside0.mk A20
  clear A20
  obtain rfl := Option.some.inj H
  go_enter Try.func36, Try.ntmps36
  go_wp2_with (first | ((with_reducible refine gate_dst (N := 1) rfl ?_); refine box_event ?hg (N := 1) ?hd (cs := #[.int .i64 a0_0, .int .i64 a0_1, .int .i64 a0_2, .int .i64 a0_3, .int .i64 a0_4, .int .i64 a0_5, .int .i64 a0_6]) (t := 71) ?hr ?_; (case hd => rfl); (case hg => rfl); (case hr => first | (go_simp; done) | (go_simp; rfl)); intro gb106 hg w3 hbox hb; have n0_ := Aside0.mk (below_step (by repeat (first | (with_reducible first | exact HB.out | apply below_alloc | apply pw_below_drewN | apply below_drew1) | exact HB.out)) hb); have n1_ := Aside0.mk (hbox); have n2_ := Aside0.mk ((by rw [hg]; exact (below_size (by repeat (first | (with_reducible first | exact HB.out | apply below_alloc | apply pw_below_drewN | apply below_drew1) | exact HB.out))) : w.heap.size ≤ gb106)); have n3_ := Aside0.mk ((by rw [hg]; exact (below_size (by repeat (first | (with_reducible first | exact HB.out | apply below_alloc | apply pw_below_drewN | apply below_drew1) | exact HB.out))) : w.heap.size ≤ gb106)); clear HB; have HB := n0_; have BK106 := n1_; have GW106 := n2_; have GE106 := n3_; clear n0_ n1_ n2_ n3_; clear hb hbox hg; have hcz4_0 : w3.cell? ⟨gb106, 0, none⟩ = some (.int .i64 a0_0) := (blk_cell BK106.out 0).trans rfl; have hcz4_1 : w3.cell? ⟨gb106, 1, none⟩ = some (.int .i64 a0_1) := (blk_cell BK106.out 1).trans rfl; have hcz4_2 : w3.cell? ⟨gb106, 2, none⟩ = some (.int .i64 a0_2) := (blk_cell BK106.out 2).trans rfl; have hcz4_3 : w3.cell? ⟨gb106, 3, none⟩ = some (.int .i64 a0_3) := (blk_cell BK106.out 3).trans rfl; have hcz4_4 : w3.cell? ⟨gb106, 4, none⟩ = some (.int .i64 a0_4) := (blk_cell BK106.out 4).trans rfl; have hcz4_5 : w3.cell? ⟨gb106, 5, none⟩ = some (.int .i64 a0_5) := (blk_cell BK106.out 5).trans rfl; have hcz4_6 : w3.cell? ⟨gb106, 6, none⟩ = some (.int .i64 a0_6) := (blk_cell BK106.out 6).trans rfl; have hfz4_0 := blk_frozen BK106.out 0; have hfz4_1 := blk_frozen BK106.out 1; have hfz4_2 := blk_frozen BK106.out 2; have hfz4_3 := blk_frozen BK106.out 3; have hfz4_4 := blk_frozen BK106.out 4; have hfz4_5 := blk_frozen BK106.out 5; have hfz4_6 := blk_frozen BK106.out 6) | ((with_reducible refine gate_callee (f := 51) rfl ?_); refine goesL_ (some 17) rfl rfl Try.func51 (by kernel_rfl) rfl #[.int .i64 a0_2, .int .i64 a0_3, .int .i64 a0_4, .int .i64 a0_5, .int .i64 a0_1, .int .i64 a0_0, .int .i64 a0_6] rfl (by (try simp only [List.map_toArray, List.map_cons, List.map_nil]); first | done | rfl | (simp only [List.length_drop, List.length_take]; rfl)) ?_; (with_reducible refine (dormouseref01_away.calls a0_2 a0_3 a0_4 a0_5 a0_1 a0_0 a0_6 t107 _ A2.out).mono ?_); rintro e w' ⟨rfl, ⟨nd, rfl⟩⟩; refine ⟨_, rfl, ?_⟩))
  go_ret
  exact ⟨by first | rfl | (simp [errW_none, errW_some] <;> rfl) | (simp [*, errW_none, errW_some] <;> rfl), by repeat (first | (with_reducible first | exact HB.out | apply below_alloc | apply pw_below_drewN | apply below_drew1 | refine below_set ?_ GE106.out) | exact HB.out)⟩
end Go.Proofs.Ytchlbnlhjllcbaa.F
namespace Go.Proofs.Ytchlbnlhjllcbaa.Tbl
open Go.RowKit Go.Proofs.Ytchlbnlhjllcbaa.F Go.Proofs.YtchlbnlhjllcbaaW.PrintWords Go.Proofs.YtchlbnlhjllcbaaW.PrintLast Go.Proofs.YtchlbnlhjllcbaaW.PrintMore
attribute [local go_sem] max2_int min2_int max_two min_two max_three min_three max_four min_four
/-- The plain numbers of a machine. -/
def Head (n0 n1 n2 : Nat) (idle crit sw swE sems hor : Int) : Prop :=
  1 ≤ (n0 : Int) ∧ (n0 : Int) ≤ 4 ∧ 0 ≤ idle ∧ idle ≤ 65536 ∧ 0 ≤ crit ∧ crit < n0 ∧ 0 ≤ sw ∧ sw ≤ 256 ∧ 0 ≤ swE ∧ swE ≤ 65536 ∧
  (n1 : Int) ≤ 3 ∧ (n2 : Int) ≤ 3 ∧ 0 ≤ sems ∧ sems ≤ 3 ∧ 1 ≤ hor ∧ hor ≤ 16384
/-- Level i is right. -/
def LevelOk (ls : List S58) (idle crit : Int) (i : Int) : Prop :=
  (1 ≤ (rd_T58 ls i).f0 ∧ (rd_T58 ls i).f0 ≤ 256 ∧ 0 ≤ (rd_T58 ls i).f1 ∧ (rd_T58 ls i).f1 ≤ 65536) ∧ (0 < i → (rd_T58 ls (i - 1)).f0 < (rd_T58 ls i).f0) ∧
  (0 < i → i ≤ crit → (rd_T58 ls i).f1 - (rd_T58 ls i).f0 * idle ≤ (rd_T58 ls (i - 1)).f1 - (rd_T58 ls (i - 1)).f0 * idle)
/-- May something be away so? -/
def AwayOk (down up downE upE off on even : Int) : Prop :=
  0 ≤ down ∧ down ≤ 256 ∧ 0 ≤ up ∧ up ≤ 256 ∧ 0 ≤ downE ∧ downE ≤ 65536 ∧ 0 ≤ upE ∧ upE ≤ 65536 ∧ 0 ≤ on ∧ on ≤ 65536 ∧ 0 ≤ off ∧ off ≤ on ∧ down + up ≤ even ∧ 1 ≤ even ∧ even ≤ 16384 ∧
  downE + upE + off * (even - down - up) ≤ on * even
def SleepOk (s : S68) (idle : Int) : Prop := AwayOk s.f1 s.f2 s.f3 s.f4 s.f0 idle s.f5
def DeviceOk (d : S71) : Prop := AwayOk d.f2 d.f3 d.f4 d.f5 d.f1 d.f0 d.f6
structure TableOk (ls : List S58) (ss : List S68) (ds : List S71) (idle crit sw swE sems hor : Int) : Prop where
  head : Head ls.length ss.length ds.length idle crit sw swE sems hor
  levels : ∀ i : Int, 0 ≤ i → i < ls.length → LevelOk ls idle crit i
  sleeps : ∀ i : Int, 0 ≤ i → i < ss.length → SleepOk (rd_T68 ss i) idle
  devices : ∀ i : Int, 0 ≤ i → i < ds.length → DeviceOk (rd_T71 ds i)
open Classical in
noncomputable def tableB (ls : List S58) (ss : List S68) (ds : List S71) (idle crit sw swE sems hor : Int) : Bool := decide (TableOk ls ss ds idle crit sw swE sems hor)
theorem tableB_no {ls ss ds idle crit sw swE sems hor} (h : ¬ TableOk ls ss ds idle crit sw swE sems hor) : Ending.returned (Value.bool false) = Ending.returned (Value.bool (tableB ls ss ds idle crit sw swE sems hor)) := by
  simp [tableB, h]
theorem tableB_yes {ls ss ds idle crit sw swE sems hor} (h : TableOk ls ss ds idle crit sw swE sems hor) : Ending.returned (Value.bool true) = Ending.returned (Value.bool (tableB ls ss ds idle crit sw swE sems hor)) := by
  simp [tableB, h]
theorem tableB_head {ls ss ds idle crit sw swE sems hor} (h : ¬ Head ls.length ss.length ds.length idle crit sw swE sems hor) : Ending.returned (Value.bool false) = Ending.returned (Value.bool (tableB ls ss ds idle crit sw swE sems hor)) :=
  tableB_no (fun x => h x.head)
theorem tableB_level {ls ss ds idle crit sw swE sems hor} {i : Int} (h0 : Aside0 (0 ≤ i)) (h1 : Aside0 (i < (ls.length : Int))) (h : ¬ LevelOk ls idle crit i) : Ending.returned (Value.bool false) = Ending.returned (Value.bool (tableB ls ss ds idle crit sw swE sems hor)) :=
  tableB_no (fun x => h (x.levels i h0.out h1.out))
theorem badw {w w0 wr wq : World} (h : Below w.heap.size w w0) (h' : Below w0.heap.size w0 wr) (hq : Below wr.heap.size wr wq) (n : Nat) : Below w.heap.size w (wq.drewN n) := pw_below_drewN (below_step (below_step h h') hq) n
theorem nextw {w0 wr wq : World} (h' : Below w0.heap.size w0 wr) (hq : Below wr.heap.size wr wq) (n : Nat) : Below w0.heap.size w0 (wq.drewN n) := pw_below_drewN (below_step h' hq) n
section
variable {ls : List S58} {idle crit i P E P' E' : Int}
theorem bad0 (hP : P = (rd_T58 ls i).f0) (_ : E = (rd_T58 ls i).f1) (h : P < 1) : ¬ LevelOk ls idle crit i := fun x => by have := x.1.1; omega
theorem bad1 (hP : P = (rd_T58 ls i).f0) (_ : E = (rd_T58 ls i).f1) (h : 256 < P) : ¬ LevelOk ls idle crit i := fun x => by have := x.1.2.1; omega
theorem bad2 (_ : P = (rd_T58 ls i).f0) (hE : E = (rd_T58 ls i).f1) (h : E < 0) : ¬ LevelOk ls idle crit i := fun x => by have := x.1.2.2.1; omega
theorem bad3 (_ : P = (rd_T58 ls i).f0) (hE : E = (rd_T58 ls i).f1) (h : 65536 < E) : ¬ LevelOk ls idle crit i := fun x => by have := x.1.2.2.2; omega
theorem bad4 (hP : P = (rd_T58 ls i).f0) (hP' : P' = (rd_T58 ls (i - 1)).f0) (hi : 0 < i) (h : P ≤ P') : ¬ LevelOk ls idle crit i := fun x => by have := x.2.1 hi; omega
theorem bad6 (hP : P = (rd_T58 ls i).f0) (hE : E = (rd_T58 ls i).f1) (hP' : P' = (rd_T58 ls (i - 1)).f0) (hE' : E' = (rd_T58 ls (i - 1)).f1) (hi : 0 < i) (hc : i ≤ crit) (h : E' - P' * idle < E - P * idle) : ¬ LevelOk ls idle crit i :=
  fun x => by have := x.2.2 hi hc; rw [← hP, ← hE, ← hP', ← hE'] at this; omega
theorem ok_level (hP : P = (rd_T58 ls i).f0) (hE : E = (rd_T58 ls i).f1) (h1 : 1 ≤ P) (h2 : P ≤ 256) (h3 : 0 ≤ E) (h4 : E ≤ 65536) (h5 : 0 < i → (rd_T58 ls (i - 1)).f0 < (rd_T58 ls i).f0)
    (h6 : 0 < i → i ≤ crit → (rd_T58 ls i).f1 - (rd_T58 ls i).f0 * idle ≤ (rd_T58 ls (i - 1)).f1 - (rd_T58 ls (i - 1)).f0 * idle) : LevelOk ls idle crit i := by
  subst hP hE; exact ⟨⟨h1, h2, h3, h4⟩, h5, h6⟩
theorem levels_next (h : ∀ j : Int, 0 ≤ j → j < i → LevelOk ls idle crit j) (hn : LevelOk ls idle crit i) : ∀ j : Int, 0 ≤ j → j < i + 1 → LevelOk ls idle crit j := by
  intro j h0 h1
  by_cases e : j = i
  · subst e; exact hn
  · exact h j h0 (by omega)
theorem prod_bd {a b : Int} (h0 : 0 ≤ a) (h1 : a ≤ 256) (h2 : 0 ≤ b) (h3 : b ≤ 65536) : 0 ≤ a * b ∧ a * b ≤ 16777216 := by
  refine ⟨Int.mul_nonneg h0 h2, ?_⟩
  have : a * b ≤ 256 * 65536 := Int.mul_le_mul h1 h3 h2 (by omega)
  omega
end
theorem w64 {n : Int} (h0 : -9223372036854775808 ≤ n) (h1 : n ≤ 9223372036854775807) : wrap64 n = n := by unfold wrap64; omega
theorem away_yes {down up downE upE off on even : Int} (h : AwayOk down up downE upE off on even) : dormouseref01_away.f down up downE upE off on even = some true := by
  obtain ⟨a0, a1, a2, a3, a4, a5, a6, a7, a8, a9, a10, a11, a12, a13, a14, a15⟩ := h
  unfold dormouseref01_away.f
  rw [if_neg (by omega), if_neg (by omega), if_neg (by omega), if_neg (by omega), if_neg (by omega), if_neg (by omega), if_neg (by omega), if_neg (by omega), if_neg (by omega), if_neg (by omega), if_neg (by omega), if_neg (by omega)]
  rw [w64 (n := down + up) (by omega) (by omega), if_pos (by omega), if_pos (by omega), if_pos (by omega)]
  rw [w64 (n := even - down) (by omega) (by omega), w64 (n := even - down - up) (by omega) (by omega), w64 (n := downE + upE) (by omega) (by omega)]
  have m1 : 0 ≤ off * (even - down - up) ∧ off * (even - down - up) ≤ 65536 * 16384 := ⟨Int.mul_nonneg a10 (by omega), Int.mul_le_mul (by omega) (by omega) (by omega) (by omega)⟩
  have m2 : 0 ≤ on * even ∧ on * even ≤ 65536 * 16384 := ⟨Int.mul_nonneg a8 (by omega), Int.mul_le_mul (by omega) (by omega) (by omega) (by omega)⟩
  rw [w64 (n := off * (even - down - up)) (by omega) (by omega), w64 (n := on * even) (by omega) (by omega), w64 (n := downE + upE + off * (even - down - up)) (by omega) (by omega)]
  rw [decide_eq_true a15]
theorem away_no {down up downE upE off on even : Int} (h : ¬ AwayOk down up downE upE off on even) : dormouseref01_away.f down up downE upE off on even = some false := by
  unfold dormouseref01_away.f
  by_cases b0 : down < 0
  · rw [if_pos b0]
  rw [if_neg b0]
  by_cases b1 : down > 256
  · rw [if_pos b1]
  rw [if_neg b1]
  by_cases b2 : up < 0
  · rw [if_pos b2]
  rw [if_neg b2]
  by_cases b3 : up > 256
  · rw [if_pos b3]
  rw [if_neg b3]
  by_cases b4 : downE < 0
  · rw [if_pos b4]
  rw [if_neg b4]
  by_cases b5 : downE > 65536
  · rw [if_pos b5]
  rw [if_neg b5]
  by_cases b6 : upE < 0
  · rw [if_pos b6]
  rw [if_neg b6]
  by_cases b7 : upE > 65536
  · rw [if_pos b7]
  rw [if_neg b7]
  by_cases b8 : on < 0
  · rw [if_pos b8]
  rw [if_neg b8]
  by_cases b9 : on > 65536
  · rw [if_pos b9]
  rw [if_neg b9]
  by_cases b10 : off < 0
  · rw [if_pos b10]
  rw [if_neg b10]
  by_cases b11 : off > on
  · rw [if_pos b11]
  rw [if_neg b11]
  rw [w64 (n := down + up) (by omega) (by omega)]
  by_cases b12 : even ≥ down + up
  case neg => rw [if_neg b12]
  rw [if_pos b12]
  by_cases b13 : even ≥ 1
  case neg => rw [if_neg b13]
  rw [if_pos b13]
  by_cases b14 : even ≤ 16384
  case neg => rw [if_neg b14]
  rw [if_pos b14]
  rw [w64 (n := even - down) (by omega) (by omega), w64 (n := even - down - up) (by omega) (by omega), w64 (n := downE + upE) (by omega) (by omega)]
  have m1 : 0 ≤ off * (even - down - up) ∧ off * (even - down - up) ≤ 65536 * 16384 := ⟨Int.mul_nonneg (by omega) (by omega), Int.mul_le_mul (by omega) (by omega) (by omega) (by omega)⟩
  have m2 : 0 ≤ on * even ∧ on * even ≤ 65536 * 16384 := ⟨Int.mul_nonneg (by omega) (by omega), Int.mul_le_mul (by omega) (by omega) (by omega) (by omega)⟩
  rw [w64 (n := off * (even - down - up)) (by omega) (by omega), w64 (n := on * even) (by omega) (by omega), w64 (n := downE + upE + off * (even - down - up)) (by omega) (by omega)]
  rw [decide_eq_false]
  intro hh
  exact h ⟨by omega, by omega, by omega, by omega, by omega, by omega, by omega, by omega, by omega, by omega, by omega, by omega, by omega, by omega, by omega, hh⟩
theorem sleep_yes {s : S68} {idle : Int} (h : SleepOk s idle) : dormouseref01_Sleep.f s.f0 s.f1 s.f2 s.f3 s.f4 s.f5 idle = some true := by
  unfold dormouseref01_Sleep.f; rw [away_yes h]; rfl
theorem sleep_no {s : S68} {idle : Int} (h : ¬ SleepOk s idle) : dormouseref01_Sleep.f s.f0 s.f1 s.f2 s.f3 s.f4 s.f5 idle = some false := by
  unfold dormouseref01_Sleep.f; rw [away_no h]; rfl
theorem device_yes {s : S71} (h : DeviceOk s) : dormouseref01_Device.f s.f0 s.f1 s.f2 s.f3 s.f4 s.f5 s.f6 = some true := by
  unfold dormouseref01_Device.f; rw [away_yes h]; rfl
theorem device_no {s : S71} (h : ¬ DeviceOk s) : dormouseref01_Device.f s.f0 s.f1 s.f2 s.f3 s.f4 s.f5 s.f6 = some false := by
  unfold dormouseref01_Device.f; rw [away_no h]; rfl
theorem tableB_sleep {ls ss ds idle crit sw swE sems hor} {i : Int} {s : S68} (hs : s = rd_T68 ss i) (h0 : 0 ≤ i) (h1 : i < (ss.length : Int)) (h : ¬ SleepOk s idle) : Ending.returned (Value.bool false) = Ending.returned (Value.bool (tableB ls ss ds idle crit sw swE sems hor)) :=
  tableB_no (fun x => h (by rw [hs]; exact x.sleeps i h0 h1))
theorem tableB_device {ls ss ds idle crit sw swE sems hor} {i : Int} {s : S71} (hs : s = rd_T71 ds i) (h0 : 0 ≤ i) (h1 : i < (ds.length : Int)) (h : ¬ DeviceOk s) : Ending.returned (Value.bool false) = Ending.returned (Value.bool (tableB ls ss ds idle crit sw swE sems hor)) :=
  tableB_no (fun x => h (by rw [hs]; exact x.devices i h0 h1))
theorem next_one {p : Int → Prop} {i : Int} (h : ∀ j : Int, 0 ≤ j → j < i → p j) (hn : p i) : ∀ j : Int, 0 ≤ j → j < i + 1 → p j := by
  intro j h0 h1
  by_cases e : j = i
  · subst e; exact hn
  · exact h j h0 (by omega)
theorem tail_w {w w1 wr w2 W : World} (h1 : Below w.heap.size w w1) (h : Below w1.heap.size w1 wr) (hd : Below wr.heap.size wr w2) (hb : Below w2.heap.size w2 W) : Below w.heap.size w W := below_step (below_step (below_step h1 h) hd) hb
theorem tail_w1 {w1 wr w2 W : World} (h : Below w1.heap.size w1 wr) (hd : Below wr.heap.size wr w2) (hb : Below w2.heap.size w2 W) : Below w1.heap.size w1 W := below_step (below_step h hd) hb
end Go.Proofs.Ytchlbnlhjllcbaa.Tbl
namespace Go.Proofs.Ytchlbnlhjllcbaa.F
open Go.RowKit Go.Proofs.YtchlbnlhjllcbaaW.PrintWords Go.Proofs.YtchlbnlhjllcbaaW.PrintLast Go.Proofs.YtchlbnlhjllcbaaW.PrintMore
attribute [local go_sem] max2_int min2_int max_two min_two max_three min_three max_four min_four   -- for this text's walks alone
set_option linter.unusedVariables false
set_option linter.unusedSimpArgs false
def job_Quanta.f (l0_0 : List (S58)) (l0_1 : List (S68)) (l0_2 : List (S71)) (a0_3 : Int) (a0_4 : Int) (a0_5 : Int) (a0_6 : Int) (a0_7 : Int) (a0_8 : Int) (a1_0 : Int) (a1_1 : Int) (a1_2 : Int) (a1_3 : Int) (a1_4 : Int) (a1_5 : Bool) : Option (Int) := if 0 < (l0_0.length : Int) then (if a1_5 = true then (some (wrap64 ((wrap64 ((mx a1_3 0) * ((rd_T58 l0_0 0).f0))) + a0_5))) else (some (wrap64 ((wrap64 ((wrap64 ((mx a1_3 0) * ((rd_T58 l0_0 0).f0))) + a0_5)) + a0_5)))) else (none)
set_option maxHeartbeats 8000000 in
set_option maxRecDepth 100000 in
theorem job_Quanta.calls (A0_0 : Option Addr) (c0_0 : Nat) (l0_0 : List (S58)) (A0_1 : Option Addr) (c0_1 : Nat) (l0_1 : List (S68)) (A0_2 : Option Addr) (c0_2 : Nat) (l0_2 : List (S71)) (a0_3 : Int) (a0_4 : Int) (a0_5 : Int) (a0_6 : Int) (a0_7 : Int) (a0_8 : Int) (a1_0 : Int) (a1_1 : Int) (a1_2 : Int) (a1_3 : Int) (a1_4 : Int) (a1_5 : Bool) (r : Int) (w : World) (hr0_0 : Kd.C k58 w A0_0 l0_0.length l0_0) (hc0_0 : l0_0.length ≤ c0_0) (hr0_1 : Kd.C k68 w A0_1 l0_1.length l0_1) (hc0_1 : l0_1.length ≤ c0_1) (hr0_2 : Kd.C k71 w A0_2 l0_2.length l0_2) (hc0_2 : l0_2.length ≤ c0_2) (h : job_Quanta.f l0_0 l0_1 l0_2 a0_3 a0_4 a0_5 a0_6 a0_7 a0_8 a1_0 a1_1 a1_2 a1_3 a1_4 a1_5 = some r) :
    Calls Try.prog 43 #[.agg #[.slice A0_0 l0_0.length c0_0, .slice A0_1 l0_1.length c0_1, .slice A0_2 l0_2.length c0_2, .int .i64 a0_3, .int .i64 a0_4, .int .i64 a0_5, .int .i64 a0_6, .int .i64 a0_7, .int .i64 a0_8], .agg #[.int .i64 a1_0, .int .i64 a1_1, .int .i64 a1_2, .int .i64 a1_3, .int .i64 a1_4, .bool a1_5]] w fun e w' => e = .returned (.int .i64 r) ∧ Below w.heap.size w w' := by
  have hu26 := Try.underlying26
  have hu38 := Try.underlying38
  have HR0_0 := Aside0.mk hr0_0
  have HC0_0 := Aside0.mk hc0_0
  clear hr0_0 hc0_0
  have HR0_1 := Aside0.mk hr0_1
  have HC0_1 := Aside0.mk hc0_1
  clear hr0_1 hc0_1
  have HR0_2 := Aside0.mk hr0_2
  have HC0_2 := Aside0.mk hc0_2
  clear hr0_2 hc0_2
  have HB := Aside0.mk (Below.refl w.heap.size w)
  have H : (if 0 < (l0_0.length : Int) then (if a1_5 = true then (some (wrap64 ((wrap64 ((mx a1_3 0) * ((rd_T58 l0_0 0).f0))) + a0_5))) else (some (wrap64 ((wrap64 ((wrap64 ((mx a1_3 0) * ((rd_T58 l0_0 0).f0))) + a0_5)) + a0_5)))) else (none)) = some r := h
  clear h
  obtain ⟨ji3, hji3⟩ : ∃ j_ : Int, (mx a1_3 0) = j_ := ⟨_, rfl⟩
  replace H : (if 0 < (l0_0.length : Int) then (if a1_5 = true then (some (wrap64 ((wrap64 ((ji3) * ((rd_T58 l0_0 0).f0))) + a0_5))) else (some (wrap64 ((wrap64 ((wrap64 ((ji3) * ((rd_T58 l0_0 0).f0))) + a0_5)) + a0_5)))) else (none)) = some r := by first | (rw [hji3] at H; exact H) | (simp only [hji3] at H ⊢; exact H)
  (try (have hji3l : 0 ≤ ji3 := by (rw [← hji3]; unfold mx; (repeat' split) <;> omega)))
  (try (have hji3m : 0 ≤ ji3 := by omega))
  have hji3_ : (if a1_3 < 0 then 0 else a1_3) = ji3 := hji3
  by_cases c4 : 0 < (l0_0.length : Int)
  · rw [if_pos c4] at H
    have c4b0 : decide (0 < (l0_0.length : Int)) = true := decide_eq_true c4
    have c4b1 : decide (0 < l0_0.length) = true := decide_eq_true (by omega)
    clear c4
    by_cases c5 : a1_5 = true
    · subst c5
      have H1 : (some (wrap64 ((wrap64 ((ji3) * ((rd_T58 l0_0 0).f0))) + a0_5))) = some r := by rw [if_pos rfl] at H; exact H
      clear H
      have H := H1
      clear H1
      obtain rfl := Option.some.inj H
      go_enter Try.func43, Try.ntmps43
      go_wp2_with (first | ((with_reducible refine gate_dst (N := 2) rfl ?_); refine box_event ?hg (N := 2) ?hd (cs := #[.slice A0_0 l0_0.length c0_0, .slice A0_1 l0_1.length c0_1, .slice A0_2 l0_2.length c0_2, .int .i64 a0_3, .int .i64 a0_4, .int .i64 a0_5, .int .i64 a0_6, .int .i64 a0_7, .int .i64 a0_8]) (t := 26) ?hr ?_; (case hd => rfl); (case hg => rfl); (case hr => first | (go_simp; done) | (go_simp; rfl)); intro gb207 hg w6 hbox hb; have n0_ := Aside0.mk (below_step (by repeat (first | (with_reducible first | exact HB.out | apply below_alloc | apply pw_below_drewN | apply below_drew1) | exact HB.out)) hb); have n1_ := Aside0.mk (hbox); have n2_ := Aside0.mk ((by rw [hg]; exact (below_size (by repeat (first | (with_reducible first | exact HB.out | apply below_alloc | apply pw_below_drewN | apply below_drew1) | exact HB.out))) : w.heap.size ≤ gb207)); have n3_ := Aside0.mk ((by rw [hg]; exact (below_size (by repeat (first | (with_reducible first | exact HB.out | apply below_alloc | apply pw_below_drewN | apply below_drew1) | exact HB.out))) : w.heap.size ≤ gb207)); clear HB; have HB := n0_; have BK207 := n1_; have GW207 := n2_; have GE207 := n3_; clear n0_ n1_ n2_ n3_; clear hb hbox hg) | ((with_reducible refine gate_dst (N := 3) rfl ?_); refine box_event ?hg (N := 3) ?hd (cs := #[.int .i64 a1_0, .int .i64 a1_1, .int .i64 a1_2, .int .i64 a1_3, .int .i64 a1_4, .bool true]) (t := 38) ?hr ?_; (case hd => rfl); (case hg => rfl); (case hr => first | (go_simp; done) | (go_simp; rfl)); intro gb208 hg w7 hbox hb; have n0_ := Aside0.mk (blk_below (g := gb207) (o := .cells #[.slice A0_0 l0_0.length c0_0, .slice A0_1 l0_1.length c0_1, .slice A0_2 l0_2.length c0_2, .int .i64 a0_3, .int .i64 a0_4, .int .i64 a0_5, .int .i64 a0_6, .int .i64 a0_7, .int .i64 a0_8] 26 (0, 0)) (by (with_reducible repeat (first | refine blk_drewN ?_ _ | refine blk_drew ?_ | refine blk_alloc ?_ _)); exact BK207.out) hb); have n1_ := Aside0.mk (below_step (by repeat (first | (with_reducible first | exact HB.out | apply below_alloc | apply pw_below_drewN | apply below_drew1 | refine below_set ?_ GE207.out) | exact HB.out)) hb); have n2_ := Aside0.mk (hbox); have n3_ := Aside0.mk ((by rw [hg]; exact (below_size (by repeat (first | (with_reducible first | exact HB.out | apply below_alloc | apply pw_below_drewN | apply below_drew1 | refine below_set ?_ GE207.out) | exact HB.out))) : w.heap.size ≤ gb208)); have n4_ := Aside0.mk ((by rw [hg]; exact (below_size (by repeat (first | (with_reducible first | exact HB.out | apply below_alloc | apply pw_below_drewN | apply below_drew1 | refine below_set ?_ GE207.out) | exact HB.out))) : w.heap.size ≤ gb208)); have n5_ := Aside0.mk ((by rw [hg]; exact Nat.ne_of_lt (blk_lt (g := gb207) (o := .cells #[.slice A0_0 l0_0.length c0_0, .slice A0_1 l0_1.length c0_1, .slice A0_2 l0_2.length c0_2, .int .i64 a0_3, .int .i64 a0_4, .int .i64 a0_5, .int .i64 a0_6, .int .i64 a0_7, .int .i64 a0_8] 26 (0, 0)) (by (with_reducible repeat (first | refine blk_drewN ?_ _ | refine blk_drew ?_ | refine blk_alloc ?_ _)); exact BK207.out)) : gb207 ≠ gb208)); have n6_ := Aside0.mk ((by rw [hg]; exact Nat.ne_of_gt (blk_lt (g := gb207) (o := .cells #[.slice A0_0 l0_0.length c0_0, .slice A0_1 l0_1.length c0_1, .slice A0_2 l0_2.length c0_2, .int .i64 a0_3, .int .i64 a0_4, .int .i64 a0_5, .int .i64 a0_6, .int .i64 a0_7, .int .i64 a0_8] 26 (0, 0)) (by (with_reducible repeat (first | refine blk_drewN ?_ _ | refine blk_drew ?_ | refine blk_alloc ?_ _)); exact BK207.out)) : gb208 ≠ gb207)); clear BK207; clear HB; have BK207 := n0_; have HB := n1_; have BK208 := n2_; have GW208 := n3_; have GE208 := n4_; have NB207_208 := n5_; have NB208_207 := n6_; clear n0_ n1_ n2_ n3_ n4_ n5_ n6_; clear hb hbox hg; have hnb8 := NB208_207.out; have hnc8 := NB207_208.out; have hcz9_0 : w7.cell? ⟨gb208, 0, none⟩ = some (.int .i64 a1_0) := (blk_cell BK208.out 0).trans rfl; have hcz9_1 : w7.cell? ⟨gb208, 1, none⟩ = some (.int .i64 a1_1) := (blk_cell BK208.out 1).trans rfl; have hcz9_2 : w7.cell? ⟨gb208, 2, none⟩ = some (.int .i64 a1_2) := (blk_cell BK208.out 2).trans rfl; have hcz9_3 : w7.cell? ⟨gb208, 3, none⟩ = some (.int .i64 a1_3) := (blk_cell BK208.out 3).trans rfl; have hcz9_4 : w7.cell? ⟨gb208, 4, none⟩ = some (.int .i64 a1_4) := (blk_cell BK208.out 4).trans rfl; have hcz9_5 : w7.cell? ⟨gb208, 5, none⟩ = some (.bool true) := (blk_cell BK208.out 5).trans rfl; have hfz9_0 := blk_frozen BK208.out 0; have hfz9_1 := blk_frozen BK208.out 1; have hfz9_2 := blk_frozen BK208.out 2; have hfz9_3 := blk_frozen BK208.out 3; have hfz9_4 := blk_frozen BK208.out 4; have hfz9_5 := blk_frozen BK208.out 5; have hcz10_0 : w7.cell? ⟨gb207, 0, none⟩ = some (.slice A0_0 l0_0.length c0_0) := (blk_cell BK207.out 0).trans rfl; have hcz10_1 : w7.cell? ⟨gb207, 1, none⟩ = some (.slice A0_1 l0_1.length c0_1) := (blk_cell BK207.out 1).trans rfl; have hcz10_2 : w7.cell? ⟨gb207, 2, none⟩ = some (.slice A0_2 l0_2.length c0_2) := (blk_cell BK207.out 2).trans rfl; have hcz10_3 : w7.cell? ⟨gb207, 3, none⟩ = some (.int .i64 a0_3) := (blk_cell BK207.out 3).trans rfl; have hcz10_4 : w7.cell? ⟨gb207, 4, none⟩ = some (.int .i64 a0_4) := (blk_cell BK207.out 4).trans rfl; have hcz10_5 : w7.cell? ⟨gb207, 5, none⟩ = some (.int .i64 a0_5) := (blk_cell BK207.out 5).trans rfl; have hcz10_6 : w7.cell? ⟨gb207, 6, none⟩ = some (.int .i64 a0_6) := (blk_cell BK207.out 6).trans rfl; have hcz10_7 : w7.cell? ⟨gb207, 7, none⟩ = some (.int .i64 a0_7) := (blk_cell BK207.out 7).trans rfl; have hcz10_8 : w7.cell? ⟨gb207, 8, none⟩ = some (.int .i64 a0_8) := (blk_cell BK207.out 8).trans rfl; have hfz10_0 := blk_frozen BK207.out 0; have hfz10_1 := blk_frozen BK207.out 1; have hfz10_2 := blk_frozen BK207.out 2; have hfz10_3 := blk_frozen BK207.out 3; have hfz10_4 := blk_frozen BK207.out 4; have hfz10_5 := blk_frozen BK207.out 5; have hfz10_6 := blk_frozen BK207.out 6; have hfz10_7 := blk_frozen BK207.out 7; have hfz10_8 := blk_frozen BK207.out 8; have p209 : 0 ≤ (0 : Int) := (by omega); have q209 : 0 < (l0_0.length : Int) := of_decide_eq_true (by first | (with_reducible assumption) | assumption); obtain ⟨ad209, e209, hx209_0, hx209_1⟩ := at_T58 HR0_0.out 0 p209 q209; cases e209; have qi209 : (0 < l0_0.length) = True := eq_true (by omega); (try rw [show ((0 : Int)).toNat = 0 from rfl] at hx209_0); (try rw [show 0 * 2 = 0 from rfl] at hx209_0); (try rw [Addr.add_zero'] at hx209_0); (try rw [show ((0 : Int)).toNat = 0 from rfl] at hx209_1); (try rw [show 0 * 2 = 0 from rfl] at hx209_1); (try rw [Addr.add_zero'] at hx209_1); replace hx209_0 := (HB.out.cell (World.block_lt_of_cell? w _ hx209_0)).trans hx209_0; replace hx209_1 := (HB.out.cell (World.block_lt_of_cell? w _ hx209_1)).trans hx209_1; replace p209 := eq_true p209; replace q209 := eq_true q209))
      repeat (go_quiet (first | ((with_reducible refine gate_dst (N := 2) rfl ?_); refine box_event ?hg (N := 2) ?hd (cs := #[.slice A0_0 l0_0.length c0_0, .slice A0_1 l0_1.length c0_1, .slice A0_2 l0_2.length c0_2, .int .i64 a0_3, .int .i64 a0_4, .int .i64 a0_5, .int .i64 a0_6, .int .i64 a0_7, .int .i64 a0_8]) (t := 26) ?hr ?_; (case hd => rfl); (case hg => rfl); (case hr => first | (go_simp; done) | (go_simp; rfl)); intro gb207 hg w6 hbox hb; have n0_ := Aside0.mk (below_step (by repeat (first | (with_reducible first | exact HB.out | apply below_alloc | apply pw_below_drewN | apply below_drew1) | exact HB.out)) hb); have n1_ := Aside0.mk (hbox); have n2_ := Aside0.mk ((by rw [hg]; exact (below_size (by repeat (first | (with_reducible first | exact HB.out | apply below_alloc | apply pw_below_drewN | apply below_drew1) | exact HB.out))) : w.heap.size ≤ gb207)); have n3_ := Aside0.mk ((by rw [hg]; exact (below_size (by repeat (first | (with_reducible first | exact HB.out | apply below_alloc | apply pw_below_drewN | apply below_drew1) | exact HB.out))) : w.heap.size ≤ gb207)); clear HB; have HB := n0_; have BK207 := n1_; have GW207 := n2_; have GE207 := n3_; clear n0_ n1_ n2_ n3_; clear hb hbox hg) | ((with_reducible refine gate_dst (N := 3) rfl ?_); refine box_event ?hg (N := 3) ?hd (cs := #[.int .i64 a1_0, .int .i64 a1_1, .int .i64 a1_2, .int .i64 a1_3, .int .i64 a1_4, .bool true]) (t := 38) ?hr ?_; (case hd => rfl); (case hg => rfl); (case hr => first | (go_simp; done) | (go_simp; rfl)); intro gb208 hg w7 hbox hb; have n0_ := Aside0.mk (blk_below (g := gb207) (o := .cells #[.slice A0_0 l0_0.length c0_0, .slice A0_1 l0_1.length c0_1, .slice A0_2 l0_2.length c0_2, .int .i64 a0_3, .int .i64 a0_4, .int .i64 a0_5, .int .i64 a0_6, .int .i64 a0_7, .int .i64 a0_8] 26 (0, 0)) (by (with_reducible repeat (first | refine blk_drewN ?_ _ | refine blk_drew ?_ | refine blk_alloc ?_ _)); exact BK207.out) hb); have n1_ := Aside0.mk (below_step (by repeat (first | (with_reducible first | exact HB.out | apply below_alloc | apply pw_below_drewN | apply below_drew1 | refine below_set ?_ GE207.out) | exact HB.out)) hb); have n2_ := Aside0.mk (hbox); have n3_ := Aside0.mk ((by rw [hg]; exact (below_size (by repeat (first | (with_reducible first | exact HB.out | apply below_alloc | apply pw_below_drewN | apply below_drew1 | refine below_set ?_ GE207.out) | exact HB.out))) : w.heap.size ≤ gb208)); have n4_ := Aside0.mk ((by rw [hg]; exact (below_size (by repeat (first | (with_reducible first | exact HB.out | apply below_alloc | apply pw_below_drewN | apply below_drew1 | refine below_set ?_ GE207.out) | exact HB.out))) : w.heap.size ≤ gb208)); have n5_ := Aside0.mk ((by rw [hg]; exact Nat.ne_of_lt (blk_lt (g := gb207) (o := .cells #[.slice A0_0 l0_0.length c0_0, .slice A0_1 l0_1.length c0_1, .slice A0_2 l0_2.length c0_2, .int .i64 a0_3, .int .i64 a0_4, .int .i64 a0_5, .int .i64 a0_6, .int .i64 a0_7, .int .i64 a0_8] 26 (0, 0)) (by (with_reducible repeat (first | refine blk_drewN ?_ _ | refine blk_drew ?_ | refine blk_alloc ?_ _)); exact BK207.out)) : gb207 ≠ gb208)); have n6_ := Aside0.mk ((by rw [hg]; exact Nat.ne_of_gt (blk_lt (g := gb207) (o := .cells #[.slice A0_0 l0_0.length c0_0, .slice A0_1 l0_1.length c0_1, .slice A0_2 l0_2.length c0_2, .int .i64 a0_3, .int .i64 a0_4, .int .i64 a0_5, .int .i64 a0_6, .int .i64 a0_7, .int .i64 a0_8] 26 (0, 0)) (by (with_reducible repeat (first | refine blk_drewN ?_ _ | refine blk_drew ?_ | refine blk_alloc ?_ _)); exact BK207.out)) : gb208 ≠ gb207)); clear BK207; clear HB; have BK207 := n0_; have HB := n1_; have BK208 := n2_; have GW208 := n3_; have GE208 := n4_; have NB207_208 := n5_; have NB208_207 := n6_; clear n0_ n1_ n2_ n3_ n4_ n5_ n6_; clear hb hbox hg; have hnb8 := NB208_207.out; have hnc8 := NB207_208.out; have hcz9_0 : w7.cell? ⟨gb208, 0, none⟩ = some (.int .i64 a1_0) := (blk_cell BK208.out 0).trans rfl; have hcz9_1 : w7.cell? ⟨gb208, 1, none⟩ = some (.int .i64 a1_1) := (blk_cell BK208.out 1).trans rfl; have hcz9_2 : w7.cell? ⟨gb208, 2, none⟩ = some (.int .i64 a1_2) := (blk_cell BK208.out 2).trans rfl; have hcz9_3 : w7.cell? ⟨gb208, 3, none⟩ = some (.int .i64 a1_3) := (blk_cell BK208.out 3).trans rfl; have hcz9_4 : w7.cell? ⟨gb208, 4, none⟩ = some (.int .i64 a1_4) := (blk_cell BK208.out 4).trans rfl; have hcz9_5 : w7.cell? ⟨gb208, 5, none⟩ = some (.bool true) := (blk_cell BK208.out 5).trans rfl; have hfz9_0 := blk_frozen BK208.out 0; have hfz9_1 := blk_frozen BK208.out 1; have hfz9_2 := blk_frozen BK208.out 2; have hfz9_3 := blk_frozen BK208.out 3; have hfz9_4 := blk_frozen BK208.out 4; have hfz9_5 := blk_frozen BK208.out 5; have hcz10_0 : w7.cell? ⟨gb207, 0, none⟩ = some (.slice A0_0 l0_0.length c0_0) := (blk_cell BK207.out 0).trans rfl; have hcz10_1 : w7.cell? ⟨gb207, 1, none⟩ = some (.slice A0_1 l0_1.length c0_1) := (blk_cell BK207.out 1).trans rfl; have hcz10_2 : w7.cell? ⟨gb207, 2, none⟩ = some (.slice A0_2 l0_2.length c0_2) := (blk_cell BK207.out 2).trans rfl; have hcz10_3 : w7.cell? ⟨gb207, 3, none⟩ = some (.int .i64 a0_3) := (blk_cell BK207.out 3).trans rfl; have hcz10_4 : w7.cell? ⟨gb207, 4, none⟩ = some (.int .i64 a0_4) := (blk_cell BK207.out 4).trans rfl; have hcz10_5 : w7.cell? ⟨gb207, 5, none⟩ = some (.int .i64 a0_5) := (blk_cell BK207.out 5).trans rfl; have hcz10_6 : w7.cell? ⟨gb207, 6, none⟩ = some (.int .i64 a0_6) := (blk_cell BK207.out 6).trans rfl; have hcz10_7 : w7.cell? ⟨gb207, 7, none⟩ = some (.int .i64 a0_7) := (blk_cell BK207.out 7).trans rfl; have hcz10_8 : w7.cell? ⟨gb207, 8, none⟩ = some (.int .i64 a0_8) := (blk_cell BK207.out 8).trans rfl; have hfz10_0 := blk_frozen BK207.out 0; have hfz10_1 := blk_frozen BK207.out 1; have hfz10_2 := blk_frozen BK207.out 2; have hfz10_3 := blk_frozen BK207.out 3; have hfz10_4 := blk_frozen BK207.out 4; have hfz10_5 := blk_frozen BK207.out 5; have hfz10_6 := blk_frozen BK207.out 6; have hfz10_7 := blk_frozen BK207.out 7; have hfz10_8 := blk_frozen BK207.out 8; have p209 : 0 ≤ (0 : Int) := (by omega); have q209 : 0 < (l0_0.length : Int) := of_decide_eq_true (by first | (with_reducible assumption) | assumption); obtain ⟨ad209, e209, hx209_0, hx209_1⟩ := at_T58 HR0_0.out 0 p209 q209; cases e209; have qi209 : (0 < l0_0.length) = True := eq_true (by omega); (try rw [show ((0 : Int)).toNat = 0 from rfl] at hx209_0); (try rw [show 0 * 2 = 0 from rfl] at hx209_0); (try rw [Addr.add_zero'] at hx209_0); (try rw [show ((0 : Int)).toNat = 0 from rfl] at hx209_1); (try rw [show 0 * 2 = 0 from rfl] at hx209_1); (try rw [Addr.add_zero'] at hx209_1); replace hx209_0 := (HB.out.cell (World.block_lt_of_cell? w _ hx209_0)).trans hx209_0; replace hx209_1 := (HB.out.cell (World.block_lt_of_cell? w _ hx209_1)).trans hx209_1; replace p209 := eq_true p209; replace q209 := eq_true q209)); try go_wp2_with (first | ((with_reducible refine gate_dst (N := 2) rfl ?_); refine box_event ?hg (N := 2) ?hd (cs := #[.slice A0_0 l0_0.length c0_0, .slice A0_1 l0_1.length c0_1, .slice A0_2 l0_2.length c0_2, .int .i64 a0_3, .int .i64 a0_4, .int .i64 a0_5, .int .i64 a0_6, .int .i64 a0_7, .int .i64 a0_8]) (t := 26) ?hr ?_; (case hd => rfl); (case hg => rfl); (case hr => first | (go_simp; done) | (go_simp; rfl)); intro gb207 hg w6 hbox hb; have n0_ := Aside0.mk (below_step (by repeat (first | (with_reducible first | exact HB.out | apply below_alloc | apply pw_below_drewN | apply below_drew1) | exact HB.out)) hb); have n1_ := Aside0.mk (hbox); have n2_ := Aside0.mk ((by rw [hg]; exact (below_size (by repeat (first | (with_reducible first | exact HB.out | apply below_alloc | apply pw_below_drewN | apply below_drew1) | exact HB.out))) : w.heap.size ≤ gb207)); have n3_ := Aside0.mk ((by rw [hg]; exact (below_size (by repeat (first | (with_reducible first | exact HB.out | apply below_alloc | apply pw_below_drewN | apply below_drew1) | exact HB.out))) : w.heap.size ≤ gb207)); clear HB; have HB := n0_; have BK207 := n1_; have GW207 := n2_; have GE207 := n3_; clear n0_ n1_ n2_ n3_; clear hb hbox hg) | ((with_reducible refine gate_dst (N := 3) rfl ?_); refine box_event ?hg (N := 3) ?hd (cs := #[.int .i64 a1_0, .int .i64 a1_1, .int .i64 a1_2, .int .i64 a1_3, .int .i64 a1_4, .bool true]) (t := 38) ?hr ?_; (case hd => rfl); (case hg => rfl); (case hr => first | (go_simp; done) | (go_simp; rfl)); intro gb208 hg w7 hbox hb; have n0_ := Aside0.mk (blk_below (g := gb207) (o := .cells #[.slice A0_0 l0_0.length c0_0, .slice A0_1 l0_1.length c0_1, .slice A0_2 l0_2.length c0_2, .int .i64 a0_3, .int .i64 a0_4, .int .i64 a0_5, .int .i64 a0_6, .int .i64 a0_7, .int .i64 a0_8] 26 (0, 0)) (by (with_reducible repeat (first | refine blk_drewN ?_ _ | refine blk_drew ?_ | refine blk_alloc ?_ _)); exact BK207.out) hb); have n1_ := Aside0.mk (below_step (by repeat (first | (with_reducible first | exact HB.out | apply below_alloc | apply pw_below_drewN | apply below_drew1 | refine below_set ?_ GE207.out) | exact HB.out)) hb); have n2_ := Aside0.mk (hbox); have n3_ := Aside0.mk ((by rw [hg]; exact (below_size (by repeat (first | (with_reducible first | exact HB.out | apply below_alloc | apply pw_below_drewN | apply below_drew1 | refine below_set ?_ GE207.out) | exact HB.out))) : w.heap.size ≤ gb208)); have n4_ := Aside0.mk ((by rw [hg]; exact (below_size (by repeat (first | (with_reducible first | exact HB.out | apply below_alloc | apply pw_below_drewN | apply below_drew1 | refine below_set ?_ GE207.out) | exact HB.out))) : w.heap.size ≤ gb208)); have n5_ := Aside0.mk ((by rw [hg]; exact Nat.ne_of_lt (blk_lt (g := gb207) (o := .cells #[.slice A0_0 l0_0.length c0_0, .slice A0_1 l0_1.length c0_1, .slice A0_2 l0_2.length c0_2, .int .i64 a0_3, .int .i64 a0_4, .int .i64 a0_5, .int .i64 a0_6, .int .i64 a0_7, .int .i64 a0_8] 26 (0, 0)) (by (with_reducible repeat (first | refine blk_drewN ?_ _ | refine blk_drew ?_ | refine blk_alloc ?_ _)); exact BK207.out)) : gb207 ≠ gb208)); have n6_ := Aside0.mk ((by rw [hg]; exact Nat.ne_of_gt (blk_lt (g := gb207) (o := .cells #[.slice A0_0 l0_0.length c0_0, .slice A0_1 l0_1.length c0_1, .slice A0_2 l0_2.length c0_2, .int .i64 a0_3, .int .i64 a0_4, .int .i64 a0_5, .int .i64 a0_6, .int .i64 a0_7, .int .i64 a0_8] 26 (0, 0)) (by (with_reducible repeat (first | refine blk_drewN ?_ _ | refine blk_drew ?_ | refine blk_alloc ?_ _)); exact BK207.out)) : gb208 ≠ gb207)); clear BK207; clear HB; have BK207 := n0_; have HB := n1_; have BK208 := n2_; have GW208 := n3_; have GE208 := n4_; have NB207_208 := n5_; have NB208_207 := n6_; clear n0_ n1_ n2_ n3_ n4_ n5_ n6_; clear hb hbox hg; have hnb8 := NB208_207.out; have hnc8 := NB207_208.out; have hcz9_0 : w7.cell? ⟨gb208, 0, none⟩ = some (.int .i64 a1_0) := (blk_cell BK208.out 0).trans rfl; have hcz9_1 : w7.cell? ⟨gb208, 1, none⟩ = some (.int .i64 a1_1) := (blk_cell BK208.out 1).trans rfl; have hcz9_2 : w7.cell? ⟨gb208, 2, none⟩ = some (.int .i64 a1_2) := (blk_cell BK208.out 2).trans rfl; have hcz9_3 : w7.cell? ⟨gb208, 3, none⟩ = some (.int .i64 a1_3) := (blk_cell BK208.out 3).trans rfl; have hcz9_4 : w7.cell? ⟨gb208, 4, none⟩ = some (.int .i64 a1_4) := (blk_cell BK208.out 4).trans rfl; have hcz9_5 : w7.cell? ⟨gb208, 5, none⟩ = some (.bool true) := (blk_cell BK208.out 5).trans rfl; have hfz9_0 := blk_frozen BK208.out 0; have hfz9_1 := blk_frozen BK208.out 1; have hfz9_2 := blk_frozen BK208.out 2; have hfz9_3 := blk_frozen BK208.out 3; have hfz9_4 := blk_frozen BK208.out 4; have hfz9_5 := blk_frozen BK208.out 5; have hcz10_0 : w7.cell? ⟨gb207, 0, none⟩ = some (.slice A0_0 l0_0.length c0_0) := (blk_cell BK207.out 0).trans rfl; have hcz10_1 : w7.cell? ⟨gb207, 1, none⟩ = some (.slice A0_1 l0_1.length c0_1) := (blk_cell BK207.out 1).trans rfl; have hcz10_2 : w7.cell? ⟨gb207, 2, none⟩ = some (.slice A0_2 l0_2.length c0_2) := (blk_cell BK207.out 2).trans rfl; have hcz10_3 : w7.cell? ⟨gb207, 3, none⟩ = some (.int .i64 a0_3) := (blk_cell BK207.out 3).trans rfl; have hcz10_4 : w7.cell? ⟨gb207, 4, none⟩ = some (.int .i64 a0_4) := (blk_cell BK207.out 4).trans rfl; have hcz10_5 : w7.cell? ⟨gb207, 5, none⟩ = some (.int .i64 a0_5) := (blk_cell BK207.out 5).trans rfl; have hcz10_6 : w7.cell? ⟨gb207, 6, none⟩ = some (.int .i64 a0_6) := (blk_cell BK207.out 6).trans rfl; have hcz10_7 : w7.cell? ⟨gb207, 7, none⟩ = some (.int .i64 a0_7) := (blk_cell BK207.out 7).trans rfl; have hcz10_8 : w7.cell? ⟨gb207, 8, none⟩ = some (.int .i64 a0_8) := (blk_cell BK207.out 8).trans rfl; have hfz10_0 := blk_frozen BK207.out 0; have hfz10_1 := blk_frozen BK207.out 1; have hfz10_2 := blk_frozen BK207.out 2; have hfz10_3 := blk_frozen BK207.out 3; have hfz10_4 := blk_frozen BK207.out 4; have hfz10_5 := blk_frozen BK207.out 5; have hfz10_6 := blk_frozen BK207.out 6; have hfz10_7 := blk_frozen BK207.out 7; have hfz10_8 := blk_frozen BK207.out 8; have p209 : 0 ≤ (0 : Int) := (by omega); have q209 : 0 < (l0_0.length : Int) := of_decide_eq_true (by first | (with_reducible assumption) | assumption); obtain ⟨ad209, e209, hx209_0, hx209_1⟩ := at_T58 HR0_0.out 0 p209 q209; cases e209; have qi209 : (0 < l0_0.length) = True := eq_true (by omega); (try rw [show ((0 : Int)).toNat = 0 from rfl] at hx209_0); (try rw [show 0 * 2 = 0 from rfl] at hx209_0); (try rw [Addr.add_zero'] at hx209_0); (try rw [show ((0 : Int)).toNat = 0 from rfl] at hx209_1); (try rw [show 0 * 2 = 0 from rfl] at hx209_1); (try rw [Addr.add_zero'] at hx209_1); replace hx209_0 := (HB.out.cell (World.block_lt_of_cell? w _ hx209_0)).trans hx209_0; replace hx209_1 := (HB.out.cell (World.block_lt_of_cell? w _ hx209_1)).trans hx209_1; replace p209 := eq_true p209; replace q209 := eq_true q209)))
      go_ret
      exact ⟨by first | rfl | (simp [errW_none, errW_some] <;> rfl) | (simp only [← hji3]; first | rfl | (simp [errW_none, errW_some] <;> rfl)) | (simp [*, errW_none, errW_some] <;> rfl), by repeat (first | (with_reducible first | exact HB.out | apply below_alloc | apply pw_below_drewN | apply below_drew1 | refine below_set ?_ GE207.out | refine below_set ?_ GE208.out) | exact HB.out)⟩
    · replace c5 := Bool.eq_false_iff.mpr c5
      subst c5
      have H1 : (some (wrap64 ((wrap64 ((wrap64 ((ji3) * ((rd_T58 l0_0 0).f0))) + a0_5)) + a0_5))) = some r := by rw [if_neg (show ¬ (false = true) by decide)] at H; exact H
      clear H
      have H := H1
      clear H1
      obtain rfl := Option.some.inj H
      go_enter Try.func43, Try.ntmps43
      go_wp2_with (first | ((with_reducible refine gate_dst (N := 2) rfl ?_); refine box_event ?hg (N := 2) ?hd (cs := #[.slice A0_0 l0_0.length c0_0, .slice A0_1 l0_1.length c0_1, .slice A0_2 l0_2.length c0_2, .int .i64 a0_3, .int .i64 a0_4, .int .i64 a0_5, .int .i64 a0_6, .int .i64 a0_7, .int .i64 a0_8]) (t := 26) ?hr ?_; (case hd => rfl); (case hg => rfl); (case hr => first | (go_simp; done) | (go_simp; rfl)); intro gb207 hg w11 hbox hb; have n0_ := Aside0.mk (below_step (by repeat (first | (with_reducible first | exact HB.out | apply below_alloc | apply pw_below_drewN | apply below_drew1) | exact HB.out)) hb); have n1_ := Aside0.mk (hbox); have n2_ := Aside0.mk ((by rw [hg]; exact (below_size (by repeat (first | (with_reducible first | exact HB.out | apply below_alloc | apply pw_below_drewN | apply below_drew1) | exact HB.out))) : w.heap.size ≤ gb207)); have n3_ := Aside0.mk ((by rw [hg]; exact (below_size (by repeat (first | (with_reducible first | exact HB.out | apply below_alloc | apply pw_below_drewN | apply below_drew1) | exact HB.out))) : w.heap.size ≤ gb207)); clear HB; have HB := n0_; have BK207 := n1_; have GW207 := n2_; have GE207 := n3_; clear n0_ n1_ n2_ n3_; clear hb hbox hg) | ((with_reducible refine gate_dst (N := 3) rfl ?_); refine box_event ?hg (N := 3) ?hd (cs := #[.int .i64 a1_0, .int .i64 a1_1, .int .i64 a1_2, .int .i64 a1_3, .int .i64 a1_4, .bool false]) (t := 38) ?hr ?_; (case hd => rfl); (case hg => rfl); (case hr => first | (go_simp; done) | (go_simp; rfl)); intro gb208 hg w12 hbox hb; have n0_ := Aside0.mk (blk_below (g := gb207) (o := .cells #[.slice A0_0 l0_0.length c0_0, .slice A0_1 l0_1.length c0_1, .slice A0_2 l0_2.length c0_2, .int .i64 a0_3, .int .i64 a0_4, .int .i64 a0_5, .int .i64 a0_6, .int .i64 a0_7, .int .i64 a0_8] 26 (0, 0)) (by (with_reducible repeat (first | refine blk_drewN ?_ _ | refine blk_drew ?_ | refine blk_alloc ?_ _)); exact BK207.out) hb); have n1_ := Aside0.mk (below_step (by repeat (first | (with_reducible first | exact HB.out | apply below_alloc | apply pw_below_drewN | apply below_drew1 | refine below_set ?_ GE207.out) | exact HB.out)) hb); have n2_ := Aside0.mk (hbox); have n3_ := Aside0.mk ((by rw [hg]; exact (below_size (by repeat (first | (with_reducible first | exact HB.out | apply below_alloc | apply pw_below_drewN | apply below_drew1 | refine below_set ?_ GE207.out) | exact HB.out))) : w.heap.size ≤ gb208)); have n4_ := Aside0.mk ((by rw [hg]; exact (below_size (by repeat (first | (with_reducible first | exact HB.out | apply below_alloc | apply pw_below_drewN | apply below_drew1 | refine below_set ?_ GE207.out) | exact HB.out))) : w.heap.size ≤ gb208)); have n5_ := Aside0.mk ((by rw [hg]; exact Nat.ne_of_lt (blk_lt (g := gb207) (o := .cells #[.slice A0_0 l0_0.length c0_0, .slice A0_1 l0_1.length c0_1, .slice A0_2 l0_2.length c0_2, .int .i64 a0_3, .int .i64 a0_4, .int .i64 a0_5, .int .i64 a0_6, .int .i64 a0_7, .int .i64 a0_8] 26 (0, 0)) (by (with_reducible repeat (first | refine blk_drewN ?_ _ | refine blk_drew ?_ | refine blk_alloc ?_ _)); exact BK207.out)) : gb207 ≠ gb208)); have n6_ := Aside0.mk ((by rw [hg]; exact Nat.ne_of_gt (blk_lt (g := gb207) (o := .cells #[.slice A0_0 l0_0.length c0_0, .slice A0_1 l0_1.length c0_1, .slice A0_2 l0_2.length c0_2, .int .i64 a0_3, .int .i64 a0_4, .int .i64 a0_5, .int .i64 a0_6, .int .i64 a0_7, .int .i64 a0_8] 26 (0, 0)) (by (with_reducible repeat (first | refine blk_drewN ?_ _ | refine blk_drew ?_ | refine blk_alloc ?_ _)); exact BK207.out)) : gb208 ≠ gb207)); clear BK207; clear HB; have BK207 := n0_; have HB := n1_; have BK208 := n2_; have GW208 := n3_; have GE208 := n4_; have NB207_208 := n5_; have NB208_207 := n6_; clear n0_ n1_ n2_ n3_ n4_ n5_ n6_; clear hb hbox hg; have hnb13 := NB208_207.out; have hnc13 := NB207_208.out; have hcz14_0 : w12.cell? ⟨gb208, 0, none⟩ = some (.int .i64 a1_0) := (blk_cell BK208.out 0).trans rfl; have hcz14_1 : w12.cell? ⟨gb208, 1, none⟩ = some (.int .i64 a1_1) := (blk_cell BK208.out 1).trans rfl; have hcz14_2 : w12.cell? ⟨gb208, 2, none⟩ = some (.int .i64 a1_2) := (blk_cell BK208.out 2).trans rfl; have hcz14_3 : w12.cell? ⟨gb208, 3, none⟩ = some (.int .i64 a1_3) := (blk_cell BK208.out 3).trans rfl; have hcz14_4 : w12.cell? ⟨gb208, 4, none⟩ = some (.int .i64 a1_4) := (blk_cell BK208.out 4).trans rfl; have hcz14_5 : w12.cell? ⟨gb208, 5, none⟩ = some (.bool false) := (blk_cell BK208.out 5).trans rfl; have hfz14_0 := blk_frozen BK208.out 0; have hfz14_1 := blk_frozen BK208.out 1; have hfz14_2 := blk_frozen BK208.out 2; have hfz14_3 := blk_frozen BK208.out 3; have hfz14_4 := blk_frozen BK208.out 4; have hfz14_5 := blk_frozen BK208.out 5; have hcz15_0 : w12.cell? ⟨gb207, 0, none⟩ = some (.slice A0_0 l0_0.length c0_0) := (blk_cell BK207.out 0).trans rfl; have hcz15_1 : w12.cell? ⟨gb207, 1, none⟩ = some (.slice A0_1 l0_1.length c0_1) := (blk_cell BK207.out 1).trans rfl; have hcz15_2 : w12.cell? ⟨gb207, 2, none⟩ = some (.slice A0_2 l0_2.length c0_2) := (blk_cell BK207.out 2).trans rfl; have hcz15_3 : w12.cell? ⟨gb207, 3, none⟩ = some (.int .i64 a0_3) := (blk_cell BK207.out 3).trans rfl; have hcz15_4 : w12.cell? ⟨gb207, 4, none⟩ = some (.int .i64 a0_4) := (blk_cell BK207.out 4).trans rfl; have hcz15_5 : w12.cell? ⟨gb207, 5, none⟩ = some (.int .i64 a0_5) := (blk_cell BK207.out 5).trans rfl; have hcz15_6 : w12.cell? ⟨gb207, 6, none⟩ = some (.int .i64 a0_6) := (blk_cell BK207.out 6).trans rfl; have hcz15_7 : w12.cell? ⟨gb207, 7, none⟩ = some (.int .i64 a0_7) := (blk_cell BK207.out 7).trans rfl; have hcz15_8 : w12.cell? ⟨gb207, 8, none⟩ = some (.int .i64 a0_8) := (blk_cell BK207.out 8).trans rfl; have hfz15_0 := blk_frozen BK207.out 0; have hfz15_1 := blk_frozen BK207.out 1; have hfz15_2 := blk_frozen BK207.out 2; have hfz15_3 := blk_frozen BK207.out 3; have hfz15_4 := blk_frozen BK207.out 4; have hfz15_5 := blk_frozen BK207.out 5; have hfz15_6 := blk_frozen BK207.out 6; have hfz15_7 := blk_frozen BK207.out 7; have hfz15_8 := blk_frozen BK207.out 8; have p209 : 0 ≤ (0 : Int) := (by omega); have q209 : 0 < (l0_0.length : Int) := of_decide_eq_true (by first | (with_reducible assumption) | assumption); obtain ⟨ad209, e209, hx209_0, hx209_1⟩ := at_T58 HR0_0.out 0 p209 q209; cases e209; have qi209 : (0 < l0_0.length) = True := eq_true (by omega); (try rw [show ((0 : Int)).toNat = 0 from rfl] at hx209_0); (try rw [show 0 * 2 = 0 from rfl] at hx209_0); (try rw [Addr.add_zero'] at hx209_0); (try rw [show ((0 : Int)).toNat = 0 from rfl] at hx209_1); (try rw [show 0 * 2 = 0 from rfl] at hx209_1); (try rw [Addr.add_zero'] at hx209_1); replace hx209_0 := (HB.out.cell (World.block_lt_of_cell? w _ hx209_0)).trans hx209_0; replace hx209_1 := (HB.out.cell (World.block_lt_of_cell? w _ hx209_1)).trans hx209_1; replace p209 := eq_true p209; replace q209 := eq_true q209))
      repeat (go_quiet (first | ((with_reducible refine gate_dst (N := 2) rfl ?_); refine box_event ?hg (N := 2) ?hd (cs := #[.slice A0_0 l0_0.length c0_0, .slice A0_1 l0_1.length c0_1, .slice A0_2 l0_2.length c0_2, .int .i64 a0_3, .int .i64 a0_4, .int .i64 a0_5, .int .i64 a0_6, .int .i64 a0_7, .int .i64 a0_8]) (t := 26) ?hr ?_; (case hd => rfl); (case hg => rfl); (case hr => first | (go_simp; done) | (go_simp; rfl)); intro gb207 hg w11 hbox hb; have n0_ := Aside0.mk (below_step (by repeat (first | (with_reducible first | exact HB.out | apply below_alloc | apply pw_below_drewN | apply below_drew1) | exact HB.out)) hb); have n1_ := Aside0.mk (hbox); have n2_ := Aside0.mk ((by rw [hg]; exact (below_size (by repeat (first | (with_reducible first | exact HB.out | apply below_alloc | apply pw_below_drewN | apply below_drew1) | exact HB.out))) : w.heap.size ≤ gb207)); have n3_ := Aside0.mk ((by rw [hg]; exact (below_size (by repeat (first | (with_reducible first | exact HB.out | apply below_alloc | apply pw_below_drewN | apply below_drew1) | exact HB.out))) : w.heap.size ≤ gb207)); clear HB; have HB := n0_; have BK207 := n1_; have GW207 := n2_; have GE207 := n3_; clear n0_ n1_ n2_ n3_; clear hb hbox hg) | ((with_reducible refine gate_dst (N := 3) rfl ?_); refine box_event ?hg (N := 3) ?hd (cs := #[.int .i64 a1_0, .int .i64 a1_1, .int .i64 a1_2, .int .i64 a1_3, .int .i64 a1_4, .bool false]) (t := 38) ?hr ?_; (case hd => rfl); (case hg => rfl); (case hr => first | (go_simp; done) | (go_simp; rfl)); intro gb208 hg w12 hbox hb; have n0_ := Aside0.mk (blk_below (g := gb207) (o := .cells #[.slice A0_0 l0_0.length c0_0, .slice A0_1 l0_1.length c0_1, .slice A0_2 l0_2.length c0_2, .int .i64 a0_3, .int .i64 a0_4, .int .i64 a0_5, .int .i64 a0_6, .int .i64 a0_7, .int .i64 a0_8] 26 (0, 0)) (by (with_reducible repeat (first | refine blk_drewN ?_ _ | refine blk_drew ?_ | refine blk_alloc ?_ _)); exact BK207.out) hb); have n1_ := Aside0.mk (below_step (by repeat (first | (with_reducible first | exact HB.out | apply below_alloc | apply pw_below_drewN | apply below_drew1 | refine below_set ?_ GE207.out) | exact HB.out)) hb); have n2_ := Aside0.mk (hbox); have n3_ := Aside0.mk ((by rw [hg]; exact (below_size (by repeat (first | (with_reducible first | exact HB.out | apply below_alloc | apply pw_below_drewN | apply below_drew1 | refine below_set ?_ GE207.out) | exact HB.out))) : w.heap.size ≤ gb208)); have n4_ := Aside0.mk ((by rw [hg]; exact (below_size (by repeat (first | (with_reducible first | exact HB.out | apply below_alloc | apply pw_below_drewN | apply below_drew1 | refine below_set ?_ GE207.out) | exact HB.out))) : w.heap.size ≤ gb208)); have n5_ := Aside0.mk ((by rw [hg]; exact Nat.ne_of_lt (blk_lt (g := gb207) (o := .cells #[.slice A0_0 l0_0.length c0_0, .slice A0_1 l0_1.length c0_1, .slice A0_2 l0_2.length c0_2, .int .i64 a0_3, .int .i64 a0_4, .int .i64 a0_5, .int .i64 a0_6, .int .i64 a0_7, .int .i64 a0_8] 26 (0, 0)) (by (with_reducible repeat (first | refine blk_drewN ?_ _ | refine blk_drew ?_ | refine blk_alloc ?_ _)); exact BK207.out)) : gb207 ≠ gb208)); have n6_ := Aside0.mk ((by rw [hg]; exact Nat.ne_of_gt (blk_lt (g := gb207) (o := .cells #[.slice A0_0 l0_0.length c0_0, .slice A0_1 l0_1.length c0_1, .slice A0_2 l0_2.length c0_2, .int .i64 a0_3, .int .i64 a0_4, .int .i64 a0_5, .int .i64 a0_6, .int .i64 a0_7, .int .i64 a0_8] 26 (0, 0)) (by (with_reducible repeat (first | refine blk_drewN ?_ _ | refine blk_drew ?_ | refine blk_alloc ?_ _)); exact BK207.out)) : gb208 ≠ gb207)); clear BK207; clear HB; have BK207 := n0_; have HB := n1_; have BK208 := n2_; have GW208 := n3_; have GE208 := n4_; have NB207_208 := n5_; have NB208_207 := n6_; clear n0_ n1_ n2_ n3_ n4_ n5_ n6_; clear hb hbox hg; have hnb13 := NB208_207.out; have hnc13 := NB207_208.out; have hcz14_0 : w12.cell? ⟨gb208, 0, none⟩ = some (.int .i64 a1_0) := (blk_cell BK208.out 0).trans rfl; have hcz14_1 : w12.cell? ⟨gb208, 1, none⟩ = some (.int .i64 a1_1) := (blk_cell BK208.out 1).trans rfl; have hcz14_2 : w12.cell? ⟨gb208, 2, none⟩ = some (.int .i64 a1_2) := (blk_cell BK208.out 2).trans rfl; have hcz14_3 : w12.cell? ⟨gb208, 3, none⟩ = some (.int .i64 a1_3) := (blk_cell BK208.out 3).trans rfl; have hcz14_4 : w12.cell? ⟨gb208, 4, none⟩ = some (.int .i64 a1_4) := (blk_cell BK208.out 4).trans rfl; have hcz14_5 : w12.cell? ⟨gb208, 5, none⟩ = some (.bool false) := (blk_cell BK208.out 5).trans rfl; have hfz14_0 := blk_frozen BK208.out 0; have hfz14_1 := blk_frozen BK208.out 1; have hfz14_2 := blk_frozen BK208.out 2; have hfz14_3 := blk_frozen BK208.out 3; have hfz14_4 := blk_frozen BK208.out 4; have hfz14_5 := blk_frozen BK208.out 5; have hcz15_0 : w12.cell? ⟨gb207, 0, none⟩ = some (.slice A0_0 l0_0.length c0_0) := (blk_cell BK207.out 0).trans rfl; have hcz15_1 : w12.cell? ⟨gb207, 1, none⟩ = some (.slice A0_1 l0_1.length c0_1) := (blk_cell BK207.out 1).trans rfl; have hcz15_2 : w12.cell? ⟨gb207, 2, none⟩ = some (.slice A0_2 l0_2.length c0_2) := (blk_cell BK207.out 2).trans rfl; have hcz15_3 : w12.cell? ⟨gb207, 3, none⟩ = some (.int .i64 a0_3) := (blk_cell BK207.out 3).trans rfl; have hcz15_4 : w12.cell? ⟨gb207, 4, none⟩ = some (.int .i64 a0_4) := (blk_cell BK207.out 4).trans rfl; have hcz15_5 : w12.cell? ⟨gb207, 5, none⟩ = some (.int .i64 a0_5) := (blk_cell BK207.out 5).trans rfl; have hcz15_6 : w12.cell? ⟨gb207, 6, none⟩ = some (.int .i64 a0_6) := (blk_cell BK207.out 6).trans rfl; have hcz15_7 : w12.cell? ⟨gb207, 7, none⟩ = some (.int .i64 a0_7) := (blk_cell BK207.out 7).trans rfl; have hcz15_8 : w12.cell? ⟨gb207, 8, none⟩ = some (.int .i64 a0_8) := (blk_cell BK207.out 8).trans rfl; have hfz15_0 := blk_frozen BK207.out 0; have hfz15_1 := blk_frozen BK207.out 1; have hfz15_2 := blk_frozen BK207.out 2; have hfz15_3 := blk_frozen BK207.out 3; have hfz15_4 := blk_frozen BK207.out 4; have hfz15_5 := blk_frozen BK207.out 5; have hfz15_6 := blk_frozen BK207.out 6; have hfz15_7 := blk_frozen BK207.out 7; have hfz15_8 := blk_frozen BK207.out 8; have p209 : 0 ≤ (0 : Int) := (by omega); have q209 : 0 < (l0_0.length : Int) := of_decide_eq_true (by first | (with_reducible assumption) | assumption); obtain ⟨ad209, e209, hx209_0, hx209_1⟩ := at_T58 HR0_0.out 0 p209 q209; cases e209; have qi209 : (0 < l0_0.length) = True := eq_true (by omega); (try rw [show ((0 : Int)).toNat = 0 from rfl] at hx209_0); (try rw [show 0 * 2 = 0 from rfl] at hx209_0); (try rw [Addr.add_zero'] at hx209_0); (try rw [show ((0 : Int)).toNat = 0 from rfl] at hx209_1); (try rw [show 0 * 2 = 0 from rfl] at hx209_1); (try rw [Addr.add_zero'] at hx209_1); replace hx209_0 := (HB.out.cell (World.block_lt_of_cell? w _ hx209_0)).trans hx209_0; replace hx209_1 := (HB.out.cell (World.block_lt_of_cell? w _ hx209_1)).trans hx209_1; replace p209 := eq_true p209; replace q209 := eq_true q209)); try go_wp2_with (first | ((with_reducible refine gate_dst (N := 2) rfl ?_); refine box_event ?hg (N := 2) ?hd (cs := #[.slice A0_0 l0_0.length c0_0, .slice A0_1 l0_1.length c0_1, .slice A0_2 l0_2.length c0_2, .int .i64 a0_3, .int .i64 a0_4, .int .i64 a0_5, .int .i64 a0_6, .int .i64 a0_7, .int .i64 a0_8]) (t := 26) ?hr ?_; (case hd => rfl); (case hg => rfl); (case hr => first | (go_simp; done) | (go_simp; rfl)); intro gb207 hg w11 hbox hb; have n0_ := Aside0.mk (below_step (by repeat (first | (with_reducible first | exact HB.out | apply below_alloc | apply pw_below_drewN | apply below_drew1) | exact HB.out)) hb); have n1_ := Aside0.mk (hbox); have n2_ := Aside0.mk ((by rw [hg]; exact (below_size (by repeat (first | (with_reducible first | exact HB.out | apply below_alloc | apply pw_below_drewN | apply below_drew1) | exact HB.out))) : w.heap.size ≤ gb207)); have n3_ := Aside0.mk ((by rw [hg]; exact (below_size (by repeat (first | (with_reducible first | exact HB.out | apply below_alloc | apply pw_below_drewN | apply below_drew1) | exact HB.out))) : w.heap.size ≤ gb207)); clear HB; have HB := n0_; have BK207 := n1_; have GW207 := n2_; have GE207 := n3_; clear n0_ n1_ n2_ n3_; clear hb hbox hg) | ((with_reducible refine gate_dst (N := 3) rfl ?_); refine box_event ?hg (N := 3) ?hd (cs := #[.int .i64 a1_0, .int .i64 a1_1, .int .i64 a1_2, .int .i64 a1_3, .int .i64 a1_4, .bool false]) (t := 38) ?hr ?_; (case hd => rfl); (case hg => rfl); (case hr => first | (go_simp; done) | (go_simp; rfl)); intro gb208 hg w12 hbox hb; have n0_ := Aside0.mk (blk_below (g := gb207) (o := .cells #[.slice A0_0 l0_0.length c0_0, .slice A0_1 l0_1.length c0_1, .slice A0_2 l0_2.length c0_2, .int .i64 a0_3, .int .i64 a0_4, .int .i64 a0_5, .int .i64 a0_6, .int .i64 a0_7, .int .i64 a0_8] 26 (0, 0)) (by (with_reducible repeat (first | refine blk_drewN ?_ _ | refine blk_drew ?_ | refine blk_alloc ?_ _)); exact BK207.out) hb); have n1_ := Aside0.mk (below_step (by repeat (first | (with_reducible first | exact HB.out | apply below_alloc | apply pw_below_drewN | apply below_drew1 | refine below_set ?_ GE207.out) | exact HB.out)) hb); have n2_ := Aside0.mk (hbox); have n3_ := Aside0.mk ((by rw [hg]; exact (below_size (by repeat (first | (with_reducible first | exact HB.out | apply below_alloc | apply pw_below_drewN | apply below_drew1 | refine below_set ?_ GE207.out) | exact HB.out))) : w.heap.size ≤ gb208)); have n4_ := Aside0.mk ((by rw [hg]; exact (below_size (by repeat (first | (with_reducible first | exact HB.out | apply below_alloc | apply pw_below_drewN | apply below_drew1 | refine below_set ?_ GE207.out) | exact HB.out))) : w.heap.size ≤ gb208)); have n5_ := Aside0.mk ((by rw [hg]; exact Nat.ne_of_lt (blk_lt (g := gb207) (o := .cells #[.slice A0_0 l0_0.length c0_0, .slice A0_1 l0_1.length c0_1, .slice A0_2 l0_2.length c0_2, .int .i64 a0_3, .int .i64 a0_4, .int .i64 a0_5, .int .i64 a0_6, .int .i64 a0_7, .int .i64 a0_8] 26 (0, 0)) (by (with_reducible repeat (first | refine blk_drewN ?_ _ | refine blk_drew ?_ | refine blk_alloc ?_ _)); exact BK207.out)) : gb207 ≠ gb208)); have n6_ := Aside0.mk ((by rw [hg]; exact Nat.ne_of_gt (blk_lt (g := gb207) (o := .cells #[.slice A0_0 l0_0.length c0_0, .slice A0_1 l0_1.length c0_1, .slice A0_2 l0_2.length c0_2, .int .i64 a0_3, .int .i64 a0_4, .int .i64 a0_5, .int .i64 a0_6, .int .i64 a0_7, .int .i64 a0_8] 26 (0, 0)) (by (with_reducible repeat (first | refine blk_drewN ?_ _ | refine blk_drew ?_ | refine blk_alloc ?_ _)); exact BK207.out)) : gb208 ≠ gb207)); clear BK207; clear HB; have BK207 := n0_; have HB := n1_; have BK208 := n2_; have GW208 := n3_; have GE208 := n4_; have NB207_208 := n5_; have NB208_207 := n6_; clear n0_ n1_ n2_ n3_ n4_ n5_ n6_; clear hb hbox hg; have hnb13 := NB208_207.out; have hnc13 := NB207_208.out; have hcz14_0 : w12.cell? ⟨gb208, 0, none⟩ = some (.int .i64 a1_0) := (blk_cell BK208.out 0).trans rfl; have hcz14_1 : w12.cell? ⟨gb208, 1, none⟩ = some (.int .i64 a1_1) := (blk_cell BK208.out 1).trans rfl; have hcz14_2 : w12.cell? ⟨gb208, 2, none⟩ = some (.int .i64 a1_2) := (blk_cell BK208.out 2).trans rfl; have hcz14_3 : w12.cell? ⟨gb208, 3, none⟩ = some (.int .i64 a1_3) := (blk_cell BK208.out 3).trans rfl; have hcz14_4 : w12.cell? ⟨gb208, 4, none⟩ = some (.int .i64 a1_4) := (blk_cell BK208.out 4).trans rfl; have hcz14_5 : w12.cell? ⟨gb208, 5, none⟩ = some (.bool false) := (blk_cell BK208.out 5).trans rfl; have hfz14_0 := blk_frozen BK208.out 0; have hfz14_1 := blk_frozen BK208.out 1; have hfz14_2 := blk_frozen BK208.out 2; have hfz14_3 := blk_frozen BK208.out 3; have hfz14_4 := blk_frozen BK208.out 4; have hfz14_5 := blk_frozen BK208.out 5; have hcz15_0 : w12.cell? ⟨gb207, 0, none⟩ = some (.slice A0_0 l0_0.length c0_0) := (blk_cell BK207.out 0).trans rfl; have hcz15_1 : w12.cell? ⟨gb207, 1, none⟩ = some (.slice A0_1 l0_1.length c0_1) := (blk_cell BK207.out 1).trans rfl; have hcz15_2 : w12.cell? ⟨gb207, 2, none⟩ = some (.slice A0_2 l0_2.length c0_2) := (blk_cell BK207.out 2).trans rfl; have hcz15_3 : w12.cell? ⟨gb207, 3, none⟩ = some (.int .i64 a0_3) := (blk_cell BK207.out 3).trans rfl; have hcz15_4 : w12.cell? ⟨gb207, 4, none⟩ = some (.int .i64 a0_4) := (blk_cell BK207.out 4).trans rfl; have hcz15_5 : w12.cell? ⟨gb207, 5, none⟩ = some (.int .i64 a0_5) := (blk_cell BK207.out 5).trans rfl; have hcz15_6 : w12.cell? ⟨gb207, 6, none⟩ = some (.int .i64 a0_6) := (blk_cell BK207.out 6).trans rfl; have hcz15_7 : w12.cell? ⟨gb207, 7, none⟩ = some (.int .i64 a0_7) := (blk_cell BK207.out 7).trans rfl; have hcz15_8 : w12.cell? ⟨gb207, 8, none⟩ = some (.int .i64 a0_8) := (blk_cell BK207.out 8).trans rfl; have hfz15_0 := blk_frozen BK207.out 0; have hfz15_1 := blk_frozen BK207.out 1; have hfz15_2 := blk_frozen BK207.out 2; have hfz15_3 := blk_frozen BK207.out 3; have hfz15_4 := blk_frozen BK207.out 4; have hfz15_5 := blk_frozen BK207.out 5; have hfz15_6 := blk_frozen BK207.out 6; have hfz15_7 := blk_frozen BK207.out 7; have hfz15_8 := blk_frozen BK207.out 8; have p209 : 0 ≤ (0 : Int) := (by omega); have q209 : 0 < (l0_0.length : Int) := of_decide_eq_true (by first | (with_reducible assumption) | assumption); obtain ⟨ad209, e209, hx209_0, hx209_1⟩ := at_T58 HR0_0.out 0 p209 q209; cases e209; have qi209 : (0 < l0_0.length) = True := eq_true (by omega); (try rw [show ((0 : Int)).toNat = 0 from rfl] at hx209_0); (try rw [show 0 * 2 = 0 from rfl] at hx209_0); (try rw [Addr.add_zero'] at hx209_0); (try rw [show ((0 : Int)).toNat = 0 from rfl] at hx209_1); (try rw [show 0 * 2 = 0 from rfl] at hx209_1); (try rw [Addr.add_zero'] at hx209_1); replace hx209_0 := (HB.out.cell (World.block_lt_of_cell? w _ hx209_0)).trans hx209_0; replace hx209_1 := (HB.out.cell (World.block_lt_of_cell? w _ hx209_1)).trans hx209_1; replace p209 := eq_true p209; replace q209 := eq_true q209)))
      go_ret
      exact ⟨by first | rfl | (simp [errW_none, errW_some] <;> rfl) | (simp only [← hji3]; first | rfl | (simp [errW_none, errW_some] <;> rfl)) | (simp [*, errW_none, errW_some] <;> rfl), by repeat (first | (with_reducible first | exact HB.out | apply below_alloc | apply pw_below_drewN | apply below_drew1 | refine below_set ?_ GE207.out | refine below_set ?_ GE208.out) | exact HB.out)⟩
  · rw [if_neg c4] at H
    exact absurd H (by simp)
def fix_clamp_int.f (a0 : Int) (a1 : Int) (a2 : Int) : Option (Int) := some (mn (mx a0 a1) a2)
set_option maxHeartbeats 8000000 in
set_option maxRecDepth 100000 in
theorem fix_clamp_int.calls (a0 : Int) (a1 : Int) (a2 : Int) (r : Int) (w : World) (h : fix_clamp_int.f a0 a1 a2 = some r) :
    Calls Try.prog 57 #[.int .i64 a0, .int .i64 a1, .int .i64 a2] w fun e w' => e = .returned (.int .i64 r) ∧ Below w.heap.size w w' := by
  have HB := Aside0.mk (Below.refl w.heap.size w)
  have H : (some (mn (mx a0 a1) a2)) = some r := h
  clear h
  obtain ⟨ji4, hji4⟩ : ∃ j_ : Int, (mx a0 a1) = j_ := ⟨_, rfl⟩
  replace H : (some (mn (ji4) a2)) = some r := by first | (rw [hji4] at H; exact H) | (simp only [hji4] at H ⊢; exact H)
  have hji4_ : (if a0 < a1 then a1 else a0) = ji4 := hji4
  obtain ⟨ji5, hji5⟩ : ∃ j_ : Int, (mn (ji4) a2) = j_ := ⟨_, rfl⟩
  replace H : (some ji5) = some r := by first | (rw [hji5] at H; exact H) | (simp only [hji5] at H ⊢; exact H)
  have hji5_ : (if a2 < (ji4) then a2 else (ji4)) = ji5 := hji5
  obtain rfl := Option.some.inj H
  go_enter Try.func57, Try.ntmps57
  go_wp2
  go_ret
  exact ⟨by first | rfl | (simp [errW_none, errW_some] <;> rfl) | (simp only [← hji4, ← hji5]; first | rfl | (simp [errW_none, errW_some] <;> rfl)) | (simp [*, errW_none, errW_some] <;> rfl), by repeat (first | (with_reducible first | exact HB.out | apply below_alloc | apply pw_below_drewN | apply below_drew1) | exact HB.out)⟩
def fix_Whole.f (a0 : Int) : Option (Int) := (fix_clamp_int.f a0 (-1073741824) 1073741824).bind fun t210 => (some (wrap64 (t210 * 4294967296)))
set_option maxHeartbeats 8000000 in
set_option maxRecDepth 100000 in
theorem fix_Whole.calls (a0 : Int) (r : Int) (w : World) (h : fix_Whole.f a0 = some r) :
    Calls Try.prog 44 #[.int .i64 a0] w fun e w' => e = .returned (.int .i64 r) ∧ Below w.heap.size w w' := by
  have HB := Aside0.mk (Below.refl w.heap.size w)
  have H : ((fix_clamp_int.f a0 (-1073741824) 1073741824).bind fun t210 => (some (wrap64 (t210 * 4294967296)))) = some r := h
  clear h
  replace H := Option.bind_eq_some_iff.mp H
  obtain ⟨t210, A20, H⟩ := H
  replace H : (some (wrap64 (t210 * 4294967296))) = some r := H
  have A2 := Aside0.mk A20
  clear A20
  obtain rfl := Option.some.inj H
  go_enter Try.func44, Try.ntmps44
  go_wp2_with (first | ((with_reducible refine gate_callee (f := 57) rfl ?_); refine goesL_ (some 4) rfl rfl Try.func57 (by kernel_rfl) rfl #[.int .i64 a0, .int .i64 (-1073741824), .int .i64 1073741824] rfl (by (try simp only [List.map_toArray, List.map_cons, List.map_nil]); first | done | rfl | (simp only [List.length_drop, List.length_take]; rfl)) ?_; (with_reducible refine (fix_clamp_int.calls a0 (-1073741824) 1073741824 t210 _ A2.out).mono ?_); rintro e w3 ⟨rfl, hb⟩; refine ⟨_, rfl, ?_⟩; have n0_ := Aside0.mk (below_step (by repeat (first | (with_reducible first | exact HB.out | apply below_alloc | apply pw_below_drewN | apply below_drew1) | exact HB.out)) hb); clear HB; have HB := n0_; clear n0_; (try clear hb); (try clear hb2); (try clear hk); (try clear hi)))
  go_ret
  exact ⟨by first | rfl | (simp [errW_none, errW_some] <;> rfl) | (simp [*, errW_none, errW_some] <;> rfl), by repeat (first | (with_reducible first | exact HB.out | apply below_alloc | apply pw_below_drewN | apply below_drew1) | exact HB.out)⟩
def fix_Times.f (a0 : Int) (a1 : Int) : Option (Int) := (fix_clamp_int.f a0 0 17179869184).bind fun t211 => ((fix_clamp_int.f a1 0 134217728).bind fun t212 => (some (wrap64 (t211 * t212))))
set_option maxHeartbeats 8000000 in
set_option maxRecDepth 100000 in
theorem fix_Times.calls (a0 : Int) (a1 : Int) (r : Int) (w : World) (h : fix_Times.f a0 a1 = some r) :
    Calls Try.prog 45 #[.int .i64 a0, .int .i64 a1] w fun e w' => e = .returned (.int .i64 r) ∧ Below w.heap.size w w' := by
  have HB := Aside0.mk (Below.refl w.heap.size w)
  have H : ((fix_clamp_int.f a0 0 17179869184).bind fun t211 => ((fix_clamp_int.f a1 0 134217728).bind fun t212 => (some (wrap64 (t211 * t212))))) = some r := h
  clear h
  replace H := Option.bind_eq_some_iff.mp H
  obtain ⟨t211, A30, H⟩ := H
  replace H : ((fix_clamp_int.f a1 0 134217728).bind fun t212 => (some (wrap64 (t211 * t212)))) = some r := H
  have A3 := Aside0.mk A30
  clear A30
  replace H := Option.bind_eq_some_iff.mp H
  obtain ⟨t212, A40, H⟩ := H
  replace H : (some (wrap64 (t211 * t212))) = some r := H
  have A4 := Aside0.mk A40
  clear A40
  obtain rfl := Option.some.inj H
  go_enter Try.func45, Try.ntmps45
  go_wp2_with (first | ((with_reducible refine gate_callee (f := 57) rfl ?_); refine goesL_ (some 6) rfl rfl Try.func57 (by kernel_rfl) rfl #[.int .i64 a0, .int .i64 0, .int .i64 17179869184] rfl (by (try simp only [List.map_toArray, List.map_cons, List.map_nil]); first | done | rfl | (simp only [List.length_drop, List.length_take]; rfl)) ?_; (with_reducible refine (fix_clamp_int.calls a0 0 17179869184 t211 _ A3.out).mono ?_); rintro e w5 ⟨rfl, hb⟩; refine ⟨_, rfl, ?_⟩; have n0_ := Aside0.mk (below_step (by repeat (first | (with_reducible first | exact HB.out | apply below_alloc | apply pw_below_drewN | apply below_drew1) | exact HB.out)) hb); clear HB; have HB := n0_; clear n0_; (try clear hb); (try clear hb2); (try clear hk); (try clear hi)) | ((with_reducible refine gate_callee (f := 57) rfl ?_); refine goesL_ (some 8) rfl rfl Try.func57 (by kernel_rfl) rfl #[.int .i64 a1, .int .i64 0, .int .i64 134217728] rfl (by (try simp only [List.map_toArray, List.map_cons, List.map_nil]); first | done | rfl | (simp only [List.length_drop, List.length_take]; rfl)) ?_; (with_reducible refine (fix_clamp_int.calls a1 0 134217728 t212 _ A4.out).mono ?_); rintro e w6 ⟨rfl, hb⟩; refine ⟨_, rfl, ?_⟩; have n0_ := Aside0.mk (below_step (by repeat (first | (with_reducible first | exact HB.out | apply below_alloc | apply pw_below_drewN | apply below_drew1) | exact HB.out)) hb); clear HB; have HB := n0_; clear n0_; (try clear hb); (try clear hb2); (try clear hk); (try clear hi)))
  go_ret
  exact ⟨by first | rfl | (simp [errW_none, errW_some] <;> rfl) | (simp [*, errW_none, errW_some] <;> rfl), by repeat (first | (with_reducible first | exact HB.out | apply below_alloc | apply pw_below_drewN | apply below_drew1) | exact HB.out)⟩
end Go.Proofs.Ytchlbnlhjllcbaa.F
namespace Go.Proofs.Ytchlbnlhjllcbaa.F
open Go.RowKit Go.Proofs.YtchlbnlhjllcbaaW.PrintWords Go.Proofs.YtchlbnlhjllcbaaW.PrintLast Go.Proofs.YtchlbnlhjllcbaaW.PrintMore
attribute [local go_sem] max2_int min2_int max_two min_two max_three min_three max_four min_four   -- for this text's walks alone
set_option linter.unusedVariables false
set_option linter.unusedSimpArgs false
def fix_Util.f (a0 : Int) (a1 : Int) : Option (Int) := if a1 < 1 then (some 1099511627776) else ((fix_clamp_int.f a0 0 536870912).bind fun t213 => (if a1 = 0 then (none) else (some (wrap64 ((wrap64 (Int.tdiv (wrap64 (t213 * 4294967296)) a1)) + (mn (Int.tmod (wrap64 (t213 * 4294967296)) a1) 1))))))
set_option maxHeartbeats 8000000 in
set_option maxRecDepth 100000 in
theorem fix_Util.calls (a0 : Int) (a1 : Int) (r : Int) (w : World) (h : fix_Util.f a0 a1 = some r) :
    Calls Try.prog 58 #[.int .i64 a0, .int .i64 a1] w fun e w' => e = .returned (.int .i64 r) ∧ Below w.heap.size w w' := by
  have HB := Aside0.mk (Below.refl w.heap.size w)
  have H : (if a1 < 1 then (some 1099511627776) else ((fix_clamp_int.f a0 0 536870912).bind fun t213 => (if a1 = 0 then (none) else (some (wrap64 ((wrap64 (Int.tdiv (wrap64 (t213 * 4294967296)) a1)) + (mn (Int.tmod (wrap64 (t213 * 4294967296)) a1) 1))))))) = some r := h
  clear h
  by_cases c3 : a1 < 1
  · rw [if_pos c3] at H
    have c3b0 : decide (a1 < 1) = true := decide_eq_true c3
    clear c3
    obtain rfl := Option.some.inj H
    go_enter Try.func58, Try.ntmps58
    go_wp2
    repeat (go_quiet (fail); try go_wp2)
    go_ret
    exact ⟨by first | rfl | (simp [errW_none, errW_some] <;> rfl) | (simp [*, errW_none, errW_some] <;> rfl), by repeat (first | (with_reducible first | exact HB.out | apply below_alloc | apply pw_below_drewN | apply below_drew1) | exact HB.out)⟩
  · rw [if_neg c3] at H
    have c3b0 : decide (a1 < 1) = false := decide_eq_false c3
    clear c3
    replace H := Option.bind_eq_some_iff.mp H
    obtain ⟨t213, A40, H⟩ := H
    replace H : (if a1 = 0 then (none) else (some (wrap64 ((wrap64 (Int.tdiv (wrap64 (t213 * 4294967296)) a1)) + (mn (Int.tmod (wrap64 (t213 * 4294967296)) a1) 1))))) = some r := H
    have A4 := Aside0.mk A40
    clear A40
    by_cases c5 : a1 = 0
    · rw [if_pos c5] at H
      exact absurd H (by simp)
    · rw [if_neg c5] at H
      have c5b0 : (a1 == 0) = false := beq_eq_false_iff_ne.mpr c5
      have c5b1 : (a1 != 0) = true := bne_iff_ne.mpr c5
      obtain ⟨ji6, hji6⟩ : ∃ j_ : Int, (mn (Int.tmod (wrap64 (t213 * 4294967296)) a1) 1) = j_ := ⟨_, rfl⟩
      replace H : (some (wrap64 ((wrap64 (Int.tdiv (wrap64 (t213 * 4294967296)) a1)) + (ji6)))) = some r := by first | (rw [hji6] at H; exact H) | (simp only [hji6] at H ⊢; exact H)
      (try rw [hji6] at A4)
      (try (have hji6h : ji6 ≤ 1 := by (rw [← hji6]; unfold mn; (repeat' split) <;> omega)))
      (try (have hji6g : ji6 ≤ 64 := by omega))
      have hji6_ : (if 1 < (Int.tmod (wrap64 (t213 * 4294967296)) a1) then 1 else (Int.tmod (wrap64 (t213 * 4294967296)) a1)) = ji6 := hji6
      obtain rfl := Option.some.inj H
      go_enter Try.func58, Try.ntmps58
      go_wp2_with (first | (go_at_call 57; (with_reducible refine (fix_clamp_int.calls a0 0 536870912 t213 _ A4.out).mono ?_); rintro e w7 ⟨rfl, hb⟩; have n0_ := Aside0.mk (below_step (by repeat (first | (with_reducible first | exact HB.out | apply below_alloc | apply pw_below_drewN | apply below_drew1) | exact HB.out)) hb); clear HB; have HB := n0_; clear n0_; (try clear hb); (try clear hb2); (try clear hk); (try clear hi)))
      repeat (go_quiet (first | (go_at_call 57; (with_reducible refine (fix_clamp_int.calls a0 0 536870912 t213 _ A4.out).mono ?_); rintro e w7 ⟨rfl, hb⟩; have n0_ := Aside0.mk (below_step (by repeat (first | (with_reducible first | exact HB.out | apply below_alloc | apply pw_below_drewN | apply below_drew1) | exact HB.out)) hb); clear HB; have HB := n0_; clear n0_; (try clear hb); (try clear hb2); (try clear hk); (try clear hi))); try go_wp2_with (first | (go_at_call 57; (with_reducible refine (fix_clamp_int.calls a0 0 536870912 t213 _ A4.out).mono ?_); rintro e w7 ⟨rfl, hb⟩; have n0_ := Aside0.mk (below_step (by repeat (first | (with_reducible first | exact HB.out | apply below_alloc | apply pw_below_drewN | apply below_drew1) | exact HB.out)) hb); clear HB; have HB := n0_; clear n0_; (try clear hb); (try clear hb2); (try clear hk); (try clear hi))))
      go_ret
      exact ⟨by first | rfl | (simp [errW_none, errW_some] <;> rfl) | (simp only [← hji6]; first | rfl | (simp [errW_none, errW_some] <;> rfl)) | (simp [*, errW_none, errW_some] <;> rfl), by repeat (first | (with_reducible first | exact HB.out | apply below_alloc | apply pw_below_drewN | apply below_drew1) | exact HB.out)⟩
def admit_Quanta.f (l0_0 : List (S58)) (l0_1 : List (S68)) (l0_2 : List (S71)) (a0_3 : Int) (a0_4 : Int) (a0_5 : Int) (a0_6 : Int) (a0_7 : Int) (a0_8 : Int) (a1_0 : Int) (a1_1 : Int) (l1_2 : List Int) (l1_3 : List Int) (a2 : Int) : Option (Int) := if a2 < 0 then (some 0) else (if a2 ≥ (l0_0.length : Int) then (some 0) else (if 0 ≤ a2 then (if a2 < (l0_0.length : Int) then (some (wrap64 ((wrap64 (a1_1 * ((rd_T58 l0_0 a2).f0))) + (wrap64 (2 * a0_5))))) else (none)) else (none)))
set_option maxHeartbeats 8000000 in
set_option maxRecDepth 100000 in
theorem admit_Quanta.calls (A0_0 : Option Addr) (c0_0 : Nat) (l0_0 : List (S58)) (A0_1 : Option Addr) (c0_1 : Nat) (l0_1 : List (S68)) (A0_2 : Option Addr) (c0_2 : Nat) (l0_2 : List (S71)) (a0_3 : Int) (a0_4 : Int) (a0_5 : Int) (a0_6 : Int) (a0_7 : Int) (a0_8 : Int) (a1_0 : Int) (a1_1 : Int) (A1_2 : Option Addr) (c1_2 : Nat) (l1_2 : List Int) (A1_3 : Option Addr) (c1_3 : Nat) (l1_3 : List Int) (a2 : Int) (r : Int) (w : World) (hr0_0 : Kd.C k58 w A0_0 l0_0.length l0_0) (hc0_0 : l0_0.length ≤ c0_0) (hr0_1 : Kd.C k68 w A0_1 l0_1.length l0_1) (hc0_1 : l0_1.length ≤ c0_1) (hr0_2 : Kd.C k71 w A0_2 l0_2.length l0_2) (hc0_2 : l0_2.length ≤ c0_2) (hr1_2 : Kd.C (Kd.int .i64) w A1_2 l1_2.length l1_2) (hc1_2 : l1_2.length ≤ c1_2) (hr1_3 : Kd.C (Kd.int .i64) w A1_3 l1_3.length l1_3) (hc1_3 : l1_3.length ≤ c1_3) (h : admit_Quanta.f l0_0 l0_1 l0_2 a0_3 a0_4 a0_5 a0_6 a0_7 a0_8 a1_0 a1_1 l1_2 l1_3 a2 = some r) :
    Calls Try.prog 59 #[.agg #[.slice A0_0 l0_0.length c0_0, .slice A0_1 l0_1.length c0_1, .slice A0_2 l0_2.length c0_2, .int .i64 a0_3, .int .i64 a0_4, .int .i64 a0_5, .int .i64 a0_6, .int .i64 a0_7, .int .i64 a0_8], .agg #[.int .i64 a1_0, .int .i64 a1_1, .slice A1_2 l1_2.length c1_2, .slice A1_3 l1_3.length c1_3], .int .i64 a2] w fun e w' => e = .returned (.int .i64 r) ∧ Below w.heap.size w w' := by
  have hu26 := Try.underlying26
  have hu36 := Try.underlying36
  have HR0_0 := Aside0.mk hr0_0
  have HC0_0 := Aside0.mk hc0_0
  clear hr0_0 hc0_0
  have HR0_1 := Aside0.mk hr0_1
  have HC0_1 := Aside0.mk hc0_1
  clear hr0_1 hc0_1
  have HR0_2 := Aside0.mk hr0_2
  have HC0_2 := Aside0.mk hc0_2
  clear hr0_2 hc0_2
  have HR1_2 := Aside0.mk hr1_2
  have HC1_2 := Aside0.mk hc1_2
  clear hr1_2 hc1_2
  have HR1_3 := Aside0.mk hr1_3
  have HC1_3 := Aside0.mk hc1_3
  clear hr1_3 hc1_3
  have HB := Aside0.mk (Below.refl w.heap.size w)
  have H : (if a2 < 0 then (some 0) else (if a2 ≥ (l0_0.length : Int) then (some 0) else (if 0 ≤ a2 then (if a2 < (l0_0.length : Int) then (some (wrap64 ((wrap64 (a1_1 * ((rd_T58 l0_0 a2).f0))) + (wrap64 (2 * a0_5))))) else (none)) else (none)))) = some r := h
  clear h
  by_cases c4 : a2 < 0
  · rw [if_pos c4] at H
    have c4b0 : decide (a2 < 0) = true := decide_eq_true c4
    clear c4
    obtain rfl := Option.some.inj H
    go_enter Try.func59, Try.ntmps59
    go_wp2_with (first | ((with_reducible refine gate_dst (N := 3) rfl ?_); (try (refine gate_guard (by rfl) ?_; dsimp only)); refine box_event ?hg (N := 3) ?hd (cs := #[.slice A0_0 l0_0.length c0_0, .slice A0_1 l0_1.length c0_1, .slice A0_2 l0_2.length c0_2, .int .i64 a0_3, .int .i64 a0_4, .int .i64 a0_5, .int .i64 a0_6, .int .i64 a0_7, .int .i64 a0_8]) (t := 26) ?hr ?_; (case hd => rfl); (case hg => rfl); (case hr => first | (go_simp; done) | (go_simp; rfl)); intro gb214 hg w5 hbox hb; have n0_ := Aside0.mk (below_step (by repeat (first | (with_reducible first | exact HB.out | apply below_alloc | apply pw_below_drewN | apply below_drew1) | exact HB.out)) hb); have n1_ := Aside0.mk (hbox); have n2_ := Aside0.mk ((by rw [hg]; exact (below_size (by repeat (first | (with_reducible first | exact HB.out | apply below_alloc | apply pw_below_drewN | apply below_drew1) | exact HB.out))) : w.heap.size ≤ gb214)); have n3_ := Aside0.mk ((by rw [hg]; exact (below_size (by repeat (first | (with_reducible first | exact HB.out | apply below_alloc | apply pw_below_drewN | apply below_drew1) | exact HB.out))) : w.heap.size ≤ gb214)); clear HB; have HB := n0_; have BK214 := n1_; have GW214 := n2_; have GE214 := n3_; clear n0_ n1_ n2_ n3_; clear hb hbox hg) | ((with_reducible refine gate_dst (N := 4) rfl ?_); (try (refine gate_guard (by rfl) ?_; dsimp only)); refine box_event ?hg (N := 4) ?hd (cs := #[.int .i64 a1_0, .int .i64 a1_1, .slice A1_2 l1_2.length c1_2, .slice A1_3 l1_3.length c1_3]) (t := 36) ?hr ?_; (case hd => rfl); (case hg => rfl); (case hr => first | (go_simp; done) | (go_simp; rfl)); intro gb215 hg w6 hbox hb; have n0_ := Aside0.mk (blk_below (g := gb214) (o := .cells #[.slice A0_0 l0_0.length c0_0, .slice A0_1 l0_1.length c0_1, .slice A0_2 l0_2.length c0_2, .int .i64 a0_3, .int .i64 a0_4, .int .i64 a0_5, .int .i64 a0_6, .int .i64 a0_7, .int .i64 a0_8] 26 (0, 0)) (by (with_reducible repeat (first | refine blk_drewN ?_ _ | refine blk_drew ?_ | refine blk_alloc ?_ _)); exact BK214.out) hb); have n1_ := Aside0.mk (below_step (by repeat (first | (with_reducible first | exact HB.out | apply below_alloc | apply pw_below_drewN | apply below_drew1 | refine below_set ?_ GE214.out) | exact HB.out)) hb); have n2_ := Aside0.mk (hbox); have n3_ := Aside0.mk ((by rw [hg]; exact (below_size (by repeat (first | (with_reducible first | exact HB.out | apply below_alloc | apply pw_below_drewN | apply below_drew1 | refine below_set ?_ GE214.out) | exact HB.out))) : w.heap.size ≤ gb215)); have n4_ := Aside0.mk ((by rw [hg]; exact (below_size (by repeat (first | (with_reducible first | exact HB.out | apply below_alloc | apply pw_below_drewN | apply below_drew1 | refine below_set ?_ GE214.out) | exact HB.out))) : w.heap.size ≤ gb215)); have n5_ := Aside0.mk ((by rw [hg]; exact Nat.ne_of_lt (blk_lt (g := gb214) (o := .cells #[.slice A0_0 l0_0.length c0_0, .slice A0_1 l0_1.length c0_1, .slice A0_2 l0_2.length c0_2, .int .i64 a0_3, .int .i64 a0_4, .int .i64 a0_5, .int .i64 a0_6, .int .i64 a0_7, .int .i64 a0_8] 26 (0, 0)) (by (with_reducible repeat (first | refine blk_drewN ?_ _ | refine blk_drew ?_ | refine blk_alloc ?_ _)); exact BK214.out)) : gb214 ≠ gb215)); have n6_ := Aside0.mk ((by rw [hg]; exact Nat.ne_of_gt (blk_lt (g := gb214) (o := .cells #[.slice A0_0 l0_0.length c0_0, .slice A0_1 l0_1.length c0_1, .slice A0_2 l0_2.length c0_2, .int .i64 a0_3, .int .i64 a0_4, .int .i64 a0_5, .int .i64 a0_6, .int .i64 a0_7, .int .i64 a0_8] 26 (0, 0)) (by (with_reducible repeat (first | refine blk_drewN ?_ _ | refine blk_drew ?_ | refine blk_alloc ?_ _)); exact BK214.out)) : gb215 ≠ gb214)); clear BK214; clear HB; have BK214 := n0_; have HB := n1_; have BK215 := n2_; have GW215 := n3_; have GE215 := n4_; have NB214_215 := n5_; have NB215_214 := n6_; clear n0_ n1_ n2_ n3_ n4_ n5_ n6_; clear hb hbox hg))
    repeat (go_quiet (first | ((with_reducible refine gate_dst (N := 3) rfl ?_); (try (refine gate_guard (by rfl) ?_; dsimp only)); refine box_event ?hg (N := 3) ?hd (cs := #[.slice A0_0 l0_0.length c0_0, .slice A0_1 l0_1.length c0_1, .slice A0_2 l0_2.length c0_2, .int .i64 a0_3, .int .i64 a0_4, .int .i64 a0_5, .int .i64 a0_6, .int .i64 a0_7, .int .i64 a0_8]) (t := 26) ?hr ?_; (case hd => rfl); (case hg => rfl); (case hr => first | (go_simp; done) | (go_simp; rfl)); intro gb214 hg w5 hbox hb; have n0_ := Aside0.mk (below_step (by repeat (first | (with_reducible first | exact HB.out | apply below_alloc | apply pw_below_drewN | apply below_drew1) | exact HB.out)) hb); have n1_ := Aside0.mk (hbox); have n2_ := Aside0.mk ((by rw [hg]; exact (below_size (by repeat (first | (with_reducible first | exact HB.out | apply below_alloc | apply pw_below_drewN | apply below_drew1) | exact HB.out))) : w.heap.size ≤ gb214)); have n3_ := Aside0.mk ((by rw [hg]; exact (below_size (by repeat (first | (with_reducible first | exact HB.out | apply below_alloc | apply pw_below_drewN | apply below_drew1) | exact HB.out))) : w.heap.size ≤ gb214)); clear HB; have HB := n0_; have BK214 := n1_; have GW214 := n2_; have GE214 := n3_; clear n0_ n1_ n2_ n3_; clear hb hbox hg) | ((with_reducible refine gate_dst (N := 4) rfl ?_); (try (refine gate_guard (by rfl) ?_; dsimp only)); refine box_event ?hg (N := 4) ?hd (cs := #[.int .i64 a1_0, .int .i64 a1_1, .slice A1_2 l1_2.length c1_2, .slice A1_3 l1_3.length c1_3]) (t := 36) ?hr ?_; (case hd => rfl); (case hg => rfl); (case hr => first | (go_simp; done) | (go_simp; rfl)); intro gb215 hg w6 hbox hb; have n0_ := Aside0.mk (blk_below (g := gb214) (o := .cells #[.slice A0_0 l0_0.length c0_0, .slice A0_1 l0_1.length c0_1, .slice A0_2 l0_2.length c0_2, .int .i64 a0_3, .int .i64 a0_4, .int .i64 a0_5, .int .i64 a0_6, .int .i64 a0_7, .int .i64 a0_8] 26 (0, 0)) (by (with_reducible repeat (first | refine blk_drewN ?_ _ | refine blk_drew ?_ | refine blk_alloc ?_ _)); exact BK214.out) hb); have n1_ := Aside0.mk (below_step (by repeat (first | (with_reducible first | exact HB.out | apply below_alloc | apply pw_below_drewN | apply below_drew1 | refine below_set ?_ GE214.out) | exact HB.out)) hb); have n2_ := Aside0.mk (hbox); have n3_ := Aside0.mk ((by rw [hg]; exact (below_size (by repeat (first | (with_reducible first | exact HB.out | apply below_alloc | apply pw_below_drewN | apply below_drew1 | refine below_set ?_ GE214.out) | exact HB.out))) : w.heap.size ≤ gb215)); have n4_ := Aside0.mk ((by rw [hg]; exact (below_size (by repeat (first | (with_reducible first | exact HB.out | apply below_alloc | apply pw_below_drewN | apply below_drew1 | refine below_set ?_ GE214.out) | exact HB.out))) : w.heap.size ≤ gb215)); have n5_ := Aside0.mk ((by rw [hg]; exact Nat.ne_of_lt (blk_lt (g := gb214) (o := .cells #[.slice A0_0 l0_0.length c0_0, .slice A0_1 l0_1.length c0_1, .slice A0_2 l0_2.length c0_2, .int .i64 a0_3, .int .i64 a0_4, .int .i64 a0_5, .int .i64 a0_6, .int .i64 a0_7, .int .i64 a0_8] 26 (0, 0)) (by (with_reducible repeat (first | refine blk_drewN ?_ _ | refine blk_drew ?_ | refine blk_alloc ?_ _)); exact BK214.out)) : gb214 ≠ gb215)); have n6_ := Aside0.mk ((by rw [hg]; exact Nat.ne_of_gt (blk_lt (g := gb214) (o := .cells #[.slice A0_0 l0_0.length c0_0, .slice A0_1 l0_1.length c0_1, .slice A0_2 l0_2.length c0_2, .int .i64 a0_3, .int .i64 a0_4, .int .i64 a0_5, .int .i64 a0_6, .int .i64 a0_7, .int .i64 a0_8] 26 (0, 0)) (by (with_reducible repeat (first | refine blk_drewN ?_ _ | refine blk_drew ?_ | refine blk_alloc ?_ _)); exact BK214.out)) : gb215 ≠ gb214)); clear BK214; clear HB; have BK214 := n0_; have HB := n1_; have BK215 := n2_; have GW215 := n3_; have GE215 := n4_; have NB214_215 := n5_; have NB215_214 := n6_; clear n0_ n1_ n2_ n3_ n4_ n5_ n6_; clear hb hbox hg)); try go_wp2_with (first | ((with_reducible refine gate_dst (N := 3) rfl ?_); (try (refine gate_guard (by rfl) ?_; dsimp only)); refine box_event ?hg (N := 3) ?hd (cs := #[.slice A0_0 l0_0.length c0_0, .slice A0_1 l0_1.length c0_1, .slice A0_2 l0_2.length c0_2, .int .i64 a0_3, .int .i64 a0_4, .int .i64 a0_5, .int .i64 a0_6, .int .i64 a0_7, .int .i64 a0_8]) (t := 26) ?hr ?_; (case hd => rfl); (case hg => rfl); (case hr => first | (go_simp; done) | (go_simp; rfl)); intro gb214 hg w5 hbox hb; have n0_ := Aside0.mk (below_step (by repeat (first | (with_reducible first | exact HB.out | apply below_alloc | apply pw_below_drewN | apply below_drew1) | exact HB.out)) hb); have n1_ := Aside0.mk (hbox); have n2_ := Aside0.mk ((by rw [hg]; exact (below_size (by repeat (first | (with_reducible first | exact HB.out | apply below_alloc | apply pw_below_drewN | apply below_drew1) | exact HB.out))) : w.heap.size ≤ gb214)); have n3_ := Aside0.mk ((by rw [hg]; exact (below_size (by repeat (first | (with_reducible first | exact HB.out | apply below_alloc | apply pw_below_drewN | apply below_drew1) | exact HB.out))) : w.heap.size ≤ gb214)); clear HB; have HB := n0_; have BK214 := n1_; have GW214 := n2_; have GE214 := n3_; clear n0_ n1_ n2_ n3_; clear hb hbox hg) | ((with_reducible refine gate_dst (N := 4) rfl ?_); (try (refine gate_guard (by rfl) ?_; dsimp only)); refine box_event ?hg (N := 4) ?hd (cs := #[.int .i64 a1_0, .int .i64 a1_1, .slice A1_2 l1_2.length c1_2, .slice A1_3 l1_3.length c1_3]) (t := 36) ?hr ?_; (case hd => rfl); (case hg => rfl); (case hr => first | (go_simp; done) | (go_simp; rfl)); intro gb215 hg w6 hbox hb; have n0_ := Aside0.mk (blk_below (g := gb214) (o := .cells #[.slice A0_0 l0_0.length c0_0, .slice A0_1 l0_1.length c0_1, .slice A0_2 l0_2.length c0_2, .int .i64 a0_3, .int .i64 a0_4, .int .i64 a0_5, .int .i64 a0_6, .int .i64 a0_7, .int .i64 a0_8] 26 (0, 0)) (by (with_reducible repeat (first | refine blk_drewN ?_ _ | refine blk_drew ?_ | refine blk_alloc ?_ _)); exact BK214.out) hb); have n1_ := Aside0.mk (below_step (by repeat (first | (with_reducible first | exact HB.out | apply below_alloc | apply pw_below_drewN | apply below_drew1 | refine below_set ?_ GE214.out) | exact HB.out)) hb); have n2_ := Aside0.mk (hbox); have n3_ := Aside0.mk ((by rw [hg]; exact (below_size (by repeat (first | (with_reducible first | exact HB.out | apply below_alloc | apply pw_below_drewN | apply below_drew1 | refine below_set ?_ GE214.out) | exact HB.out))) : w.heap.size ≤ gb215)); have n4_ := Aside0.mk ((by rw [hg]; exact (below_size (by repeat (first | (with_reducible first | exact HB.out | apply below_alloc | apply pw_below_drewN | apply below_drew1 | refine below_set ?_ GE214.out) | exact HB.out))) : w.heap.size ≤ gb215)); have n5_ := Aside0.mk ((by rw [hg]; exact Nat.ne_of_lt (blk_lt (g := gb214) (o := .cells #[.slice A0_0 l0_0.length c0_0, .slice A0_1 l0_1.length c0_1, .slice A0_2 l0_2.length c0_2, .int .i64 a0_3, .int .i64 a0_4, .int .i64 a0_5, .int .i64 a0_6, .int .i64 a0_7, .int .i64 a0_8] 26 (0, 0)) (by (with_reducible repeat (first | refine blk_drewN ?_ _ | refine blk_drew ?_ | refine blk_alloc ?_ _)); exact BK214.out)) : gb214 ≠ gb215)); have n6_ := Aside0.mk ((by rw [hg]; exact Nat.ne_of_gt (blk_lt (g := gb214) (o := .cells #[.slice A0_0 l0_0.length c0_0, .slice A0_1 l0_1.length c0_1, .slice A0_2 l0_2.length c0_2, .int .i64 a0_3, .int .i64 a0_4, .int .i64 a0_5, .int .i64 a0_6, .int .i64 a0_7, .int .i64 a0_8] 26 (0, 0)) (by (with_reducible repeat (first | refine blk_drewN ?_ _ | refine blk_drew ?_ | refine blk_alloc ?_ _)); exact BK214.out)) : gb215 ≠ gb214)); clear BK214; clear HB; have BK214 := n0_; have HB := n1_; have BK215 := n2_; have GW215 := n3_; have GE215 := n4_; have NB214_215 := n5_; have NB215_214 := n6_; clear n0_ n1_ n2_ n3_ n4_ n5_ n6_; clear hb hbox hg)))
    go_ret
    exact ⟨by first | rfl | (simp [errW_none, errW_some] <;> rfl) | (simp [*, errW_none, errW_some] <;> rfl), by repeat (first | (with_reducible first | exact HB.out | apply below_alloc | apply pw_below_drewN | apply below_drew1 | refine below_set ?_ GE214.out | refine below_set ?_ GE215.out) | exact HB.out)⟩
  · rw [if_neg c4] at H
    have c4b0 : decide (a2 < 0) = false := decide_eq_false c4
    clear c4
    by_cases c7 : a2 ≥ (l0_0.length : Int)
    · rw [if_pos c7] at H
      have c7b0 : decide ((l0_0.length : Int) ≤ a2) = true := decide_eq_true c7
      clear c7
      obtain rfl := Option.some.inj H
      go_enter Try.func59, Try.ntmps59
      go_wp2_with (first | ((with_reducible refine gate_dst (N := 3) rfl ?_); (try (refine gate_guard (by rfl) ?_; dsimp only)); refine box_event ?hg (N := 3) ?hd (cs := #[.slice A0_0 l0_0.length c0_0, .slice A0_1 l0_1.length c0_1, .slice A0_2 l0_2.length c0_2, .int .i64 a0_3, .int .i64 a0_4, .int .i64 a0_5, .int .i64 a0_6, .int .i64 a0_7, .int .i64 a0_8]) (t := 26) ?hr ?_; (case hd => rfl); (case hg => rfl); (case hr => first | (go_simp; done) | (go_simp; rfl)); intro gb214 hg w8 hbox hb; have n0_ := Aside0.mk (below_step (by repeat (first | (with_reducible first | exact HB.out | apply below_alloc | apply pw_below_drewN | apply below_drew1) | exact HB.out)) hb); have n1_ := Aside0.mk (hbox); have n2_ := Aside0.mk ((by rw [hg]; exact (below_size (by repeat (first | (with_reducible first | exact HB.out | apply below_alloc | apply pw_below_drewN | apply below_drew1) | exact HB.out))) : w.heap.size ≤ gb214)); have n3_ := Aside0.mk ((by rw [hg]; exact (below_size (by repeat (first | (with_reducible first | exact HB.out | apply below_alloc | apply pw_below_drewN | apply below_drew1) | exact HB.out))) : w.heap.size ≤ gb214)); clear HB; have HB := n0_; have BK214 := n1_; have GW214 := n2_; have GE214 := n3_; clear n0_ n1_ n2_ n3_; clear hb hbox hg) | ((with_reducible refine gate_dst (N := 4) rfl ?_); (try (refine gate_guard (by rfl) ?_; dsimp only)); refine box_event ?hg (N := 4) ?hd (cs := #[.int .i64 a1_0, .int .i64 a1_1, .slice A1_2 l1_2.length c1_2, .slice A1_3 l1_3.length c1_3]) (t := 36) ?hr ?_; (case hd => rfl); (case hg => rfl); (case hr => first | (go_simp; done) | (go_simp; rfl)); intro gb215 hg w9 hbox hb; have n0_ := Aside0.mk (blk_below (g := gb214) (o := .cells #[.slice A0_0 l0_0.length c0_0, .slice A0_1 l0_1.length c0_1, .slice A0_2 l0_2.length c0_2, .int .i64 a0_3, .int .i64 a0_4, .int .i64 a0_5, .int .i64 a0_6, .int .i64 a0_7, .int .i64 a0_8] 26 (0, 0)) (by (with_reducible repeat (first | refine blk_drewN ?_ _ | refine blk_drew ?_ | refine blk_alloc ?_ _)); exact BK214.out) hb); have n1_ := Aside0.mk (below_step (by repeat (first | (with_reducible first | exact HB.out | apply below_alloc | apply pw_below_drewN | apply below_drew1 | refine below_set ?_ GE214.out) | exact HB.out)) hb); have n2_ := Aside0.mk (hbox); have n3_ := Aside0.mk ((by rw [hg]; exact (below_size (by repeat (first | (with_reducible first | exact HB.out | apply below_alloc | apply pw_below_drewN | apply below_drew1 | refine below_set ?_ GE214.out) | exact HB.out))) : w.heap.size ≤ gb215)); have n4_ := Aside0.mk ((by rw [hg]; exact (below_size (by repeat (first | (with_reducible first | exact HB.out | apply below_alloc | apply pw_below_drewN | apply below_drew1 | refine below_set ?_ GE214.out) | exact HB.out))) : w.heap.size ≤ gb215)); have n5_ := Aside0.mk ((by rw [hg]; exact Nat.ne_of_lt (blk_lt (g := gb214) (o := .cells #[.slice A0_0 l0_0.length c0_0, .slice A0_1 l0_1.length c0_1, .slice A0_2 l0_2.length c0_2, .int .i64 a0_3, .int .i64 a0_4, .int .i64 a0_5, .int .i64 a0_6, .int .i64 a0_7, .int .i64 a0_8] 26 (0, 0)) (by (with_reducible repeat (first | refine blk_drewN ?_ _ | refine blk_drew ?_ | refine blk_alloc ?_ _)); exact BK214.out)) : gb214 ≠ gb215)); have n6_ := Aside0.mk ((by rw [hg]; exact Nat.ne_of_gt (blk_lt (g := gb214) (o := .cells #[.slice A0_0 l0_0.length c0_0, .slice A0_1 l0_1.length c0_1, .slice A0_2 l0_2.length c0_2, .int .i64 a0_3, .int .i64 a0_4, .int .i64 a0_5, .int .i64 a0_6, .int .i64 a0_7, .int .i64 a0_8] 26 (0, 0)) (by (with_reducible repeat (first | refine blk_drewN ?_ _ | refine blk_drew ?_ | refine blk_alloc ?_ _)); exact BK214.out)) : gb215 ≠ gb214)); clear BK214; clear HB; have BK214 := n0_; have HB := n1_; have BK215 := n2_; have GW215 := n3_; have GE215 := n4_; have NB214_215 := n5_; have NB215_214 := n6_; clear n0_ n1_ n2_ n3_ n4_ n5_ n6_; clear hb hbox hg; have hnb10 := NB214_215.out; have hnc10 := NB215_214.out; have hcz11_0 : w9.cell? ⟨gb214, 0, none⟩ = some (.slice A0_0 l0_0.length c0_0) := (blk_cell BK214.out 0).trans rfl; have hcz11_1 : w9.cell? ⟨gb214, 1, none⟩ = some (.slice A0_1 l0_1.length c0_1) := (blk_cell BK214.out 1).trans rfl; have hcz11_2 : w9.cell? ⟨gb214, 2, none⟩ = some (.slice A0_2 l0_2.length c0_2) := (blk_cell BK214.out 2).trans rfl; have hcz11_3 : w9.cell? ⟨gb214, 3, none⟩ = some (.int .i64 a0_3) := (blk_cell BK214.out 3).trans rfl; have hcz11_4 : w9.cell? ⟨gb214, 4, none⟩ = some (.int .i64 a0_4) := (blk_cell BK214.out 4).trans rfl; have hcz11_5 : w9.cell? ⟨gb214, 5, none⟩ = some (.int .i64 a0_5) := (blk_cell BK214.out 5).trans rfl; have hcz11_6 : w9.cell? ⟨gb214, 6, none⟩ = some (.int .i64 a0_6) := (blk_cell BK214.out 6).trans rfl; have hcz11_7 : w9.cell? ⟨gb214, 7, none⟩ = some (.int .i64 a0_7) := (blk_cell BK214.out 7).trans rfl; have hcz11_8 : w9.cell? ⟨gb214, 8, none⟩ = some (.int .i64 a0_8) := (blk_cell BK214.out 8).trans rfl; have hfz11_0 := blk_frozen BK214.out 0; have hfz11_1 := blk_frozen BK214.out 1; have hfz11_2 := blk_frozen BK214.out 2; have hfz11_3 := blk_frozen BK214.out 3; have hfz11_4 := blk_frozen BK214.out 4; have hfz11_5 := blk_frozen BK214.out 5; have hfz11_6 := blk_frozen BK214.out 6; have hfz11_7 := blk_frozen BK214.out 7; have hfz11_8 := blk_frozen BK214.out 8))
      repeat (go_quiet (first | ((with_reducible refine gate_dst (N := 3) rfl ?_); (try (refine gate_guard (by rfl) ?_; dsimp only)); refine box_event ?hg (N := 3) ?hd (cs := #[.slice A0_0 l0_0.length c0_0, .slice A0_1 l0_1.length c0_1, .slice A0_2 l0_2.length c0_2, .int .i64 a0_3, .int .i64 a0_4, .int .i64 a0_5, .int .i64 a0_6, .int .i64 a0_7, .int .i64 a0_8]) (t := 26) ?hr ?_; (case hd => rfl); (case hg => rfl); (case hr => first | (go_simp; done) | (go_simp; rfl)); intro gb214 hg w8 hbox hb; have n0_ := Aside0.mk (below_step (by repeat (first | (with_reducible first | exact HB.out | apply below_alloc | apply pw_below_drewN | apply below_drew1) | exact HB.out)) hb); have n1_ := Aside0.mk (hbox); have n2_ := Aside0.mk ((by rw [hg]; exact (below_size (by repeat (first | (with_reducible first | exact HB.out | apply below_alloc | apply pw_below_drewN | apply below_drew1) | exact HB.out))) : w.heap.size ≤ gb214)); have n3_ := Aside0.mk ((by rw [hg]; exact (below_size (by repeat (first | (with_reducible first | exact HB.out | apply below_alloc | apply pw_below_drewN | apply below_drew1) | exact HB.out))) : w.heap.size ≤ gb214)); clear HB; have HB := n0_; have BK214 := n1_; have GW214 := n2_; have GE214 := n3_; clear n0_ n1_ n2_ n3_; clear hb hbox hg) | ((with_reducible refine gate_dst (N := 4) rfl ?_); (try (refine gate_guard (by rfl) ?_; dsimp only)); refine box_event ?hg (N := 4) ?hd (cs := #[.int .i64 a1_0, .int .i64 a1_1, .slice A1_2 l1_2.length c1_2, .slice A1_3 l1_3.length c1_3]) (t := 36) ?hr ?_; (case hd => rfl); (case hg => rfl); (case hr => first | (go_simp; done) | (go_simp; rfl)); intro gb215 hg w9 hbox hb; have n0_ := Aside0.mk (blk_below (g := gb214) (o := .cells #[.slice A0_0 l0_0.length c0_0, .slice A0_1 l0_1.length c0_1, .slice A0_2 l0_2.length c0_2, .int .i64 a0_3, .int .i64 a0_4, .int .i64 a0_5, .int .i64 a0_6, .int .i64 a0_7, .int .i64 a0_8] 26 (0, 0)) (by (with_reducible repeat (first | refine blk_drewN ?_ _ | refine blk_drew ?_ | refine blk_alloc ?_ _)); exact BK214.out) hb); have n1_ := Aside0.mk (below_step (by repeat (first | (with_reducible first | exact HB.out | apply below_alloc | apply pw_below_drewN | apply below_drew1 | refine below_set ?_ GE214.out) | exact HB.out)) hb); have n2_ := Aside0.mk (hbox); have n3_ := Aside0.mk ((by rw [hg]; exact (below_size (by repeat (first | (with_reducible first | exact HB.out | apply below_alloc | apply pw_below_drewN | apply below_drew1 | refine below_set ?_ GE214.out) | exact HB.out))) : w.heap.size ≤ gb215)); have n4_ := Aside0.mk ((by rw [hg]; exact (below_size (by repeat (first | (with_reducible first | exact HB.out | apply below_alloc | apply pw_below_drewN | apply below_drew1 | refine below_set ?_ GE214.out) | exact HB.out))) : w.heap.size ≤ gb215)); have n5_ := Aside0.mk ((by rw [hg]; exact Nat.ne_of_lt (blk_lt (g := gb214) (o := .cells #[.slice A0_0 l0_0.length c0_0, .slice A0_1 l0_1.length c0_1, .slice A0_2 l0_2.length c0_2, .int .i64 a0_3, .int .i64 a0_4, .int .i64 a0_5, .int .i64 a0_6, .int .i64 a0_7, .int .i64 a0_8] 26 (0, 0)) (by (with_reducible repeat (first | refine blk_drewN ?_ _ | refine blk_drew ?_ | refine blk_alloc ?_ _)); exact BK214.out)) : gb214 ≠ gb215)); have n6_ := Aside0.mk ((by rw [hg]; exact Nat.ne_of_gt (blk_lt (g := gb214) (o := .cells #[.slice A0_0 l0_0.length c0_0, .slice A0_1 l0_1.length c0_1, .slice A0_2 l0_2.length c0_2, .int .i64 a0_3, .int .i64 a0_4, .int .i64 a0_5, .int .i64 a0_6, .int .i64 a0_7, .int .i64 a0_8] 26 (0, 0)) (by (with_reducible repeat (first | refine blk_drewN ?_ _ | refine blk_drew ?_ | refine blk_alloc ?_ _)); exact BK214.out)) : gb215 ≠ gb214)); clear BK214; clear HB; have BK214 := n0_; have HB := n1_; have BK215 := n2_; have GW215 := n3_; have GE215 := n4_; have NB214_215 := n5_; have NB215_214 := n6_; clear n0_ n1_ n2_ n3_ n4_ n5_ n6_; clear hb hbox hg; have hnb10 := NB214_215.out; have hnc10 := NB215_214.out; have hcz11_0 : w9.cell? ⟨gb214, 0, none⟩ = some (.slice A0_0 l0_0.length c0_0) := (blk_cell BK214.out 0).trans rfl; have hcz11_1 : w9.cell? ⟨gb214, 1, none⟩ = some (.slice A0_1 l0_1.length c0_1) := (blk_cell BK214.out 1).trans rfl; have hcz11_2 : w9.cell? ⟨gb214, 2, none⟩ = some (.slice A0_2 l0_2.length c0_2) := (blk_cell BK214.out 2).trans rfl; have hcz11_3 : w9.cell? ⟨gb214, 3, none⟩ = some (.int .i64 a0_3) := (blk_cell BK214.out 3).trans rfl; have hcz11_4 : w9.cell? ⟨gb214, 4, none⟩ = some (.int .i64 a0_4) := (blk_cell BK214.out 4).trans rfl; have hcz11_5 : w9.cell? ⟨gb214, 5, none⟩ = some (.int .i64 a0_5) := (blk_cell BK214.out 5).trans rfl; have hcz11_6 : w9.cell? ⟨gb214, 6, none⟩ = some (.int .i64 a0_6) := (blk_cell BK214.out 6).trans rfl; have hcz11_7 : w9.cell? ⟨gb214, 7, none⟩ = some (.int .i64 a0_7) := (blk_cell BK214.out 7).trans rfl; have hcz11_8 : w9.cell? ⟨gb214, 8, none⟩ = some (.int .i64 a0_8) := (blk_cell BK214.out 8).trans rfl; have hfz11_0 := blk_frozen BK214.out 0; have hfz11_1 := blk_frozen BK214.out 1; have hfz11_2 := blk_frozen BK214.out 2; have hfz11_3 := blk_frozen BK214.out 3; have hfz11_4 := blk_frozen BK214.out 4; have hfz11_5 := blk_frozen BK214.out 5; have hfz11_6 := blk_frozen BK214.out 6; have hfz11_7 := blk_frozen BK214.out 7; have hfz11_8 := blk_frozen BK214.out 8)); try go_wp2_with (first | ((with_reducible refine gate_dst (N := 3) rfl ?_); (try (refine gate_guard (by rfl) ?_; dsimp only)); refine box_event ?hg (N := 3) ?hd (cs := #[.slice A0_0 l0_0.length c0_0, .slice A0_1 l0_1.length c0_1, .slice A0_2 l0_2.length c0_2, .int .i64 a0_3, .int .i64 a0_4, .int .i64 a0_5, .int .i64 a0_6, .int .i64 a0_7, .int .i64 a0_8]) (t := 26) ?hr ?_; (case hd => rfl); (case hg => rfl); (case hr => first | (go_simp; done) | (go_simp; rfl)); intro gb214 hg w8 hbox hb; have n0_ := Aside0.mk (below_step (by repeat (first | (with_reducible first | exact HB.out | apply below_alloc | apply pw_below_drewN | apply below_drew1) | exact HB.out)) hb); have n1_ := Aside0.mk (hbox); have n2_ := Aside0.mk ((by rw [hg]; exact (below_size (by repeat (first | (with_reducible first | exact HB.out | apply below_alloc | apply pw_below_drewN | apply below_drew1) | exact HB.out))) : w.heap.size ≤ gb214)); have n3_ := Aside0.mk ((by rw [hg]; exact (below_size (by repeat (first | (with_reducible first | exact HB.out | apply below_alloc | apply pw_below_drewN | apply below_drew1) | exact HB.out))) : w.heap.size ≤ gb214)); clear HB; have HB := n0_; have BK214 := n1_; have GW214 := n2_; have GE214 := n3_; clear n0_ n1_ n2_ n3_; clear hb hbox hg) | ((with_reducible refine gate_dst (N := 4) rfl ?_); (try (refine gate_guard (by rfl) ?_; dsimp only)); refine box_event ?hg (N := 4) ?hd (cs := #[.int .i64 a1_0, .int .i64 a1_1, .slice A1_2 l1_2.length c1_2, .slice A1_3 l1_3.length c1_3]) (t := 36) ?hr ?_; (case hd => rfl); (case hg => rfl); (case hr => first | (go_simp; done) | (go_simp; rfl)); intro gb215 hg w9 hbox hb; have n0_ := Aside0.mk (blk_below (g := gb214) (o := .cells #[.slice A0_0 l0_0.length c0_0, .slice A0_1 l0_1.length c0_1, .slice A0_2 l0_2.length c0_2, .int .i64 a0_3, .int .i64 a0_4, .int .i64 a0_5, .int .i64 a0_6, .int .i64 a0_7, .int .i64 a0_8] 26 (0, 0)) (by (with_reducible repeat (first | refine blk_drewN ?_ _ | refine blk_drew ?_ | refine blk_alloc ?_ _)); exact BK214.out) hb); have n1_ := Aside0.mk (below_step (by repeat (first | (with_reducible first | exact HB.out | apply below_alloc | apply pw_below_drewN | apply below_drew1 | refine below_set ?_ GE214.out) | exact HB.out)) hb); have n2_ := Aside0.mk (hbox); have n3_ := Aside0.mk ((by rw [hg]; exact (below_size (by repeat (first | (with_reducible first | exact HB.out | apply below_alloc | apply pw_below_drewN | apply below_drew1 | refine below_set ?_ GE214.out) | exact HB.out))) : w.heap.size ≤ gb215)); have n4_ := Aside0.mk ((by rw [hg]; exact (below_size (by repeat (first | (with_reducible first | exact HB.out | apply below_alloc | apply pw_below_drewN | apply below_drew1 | refine below_set ?_ GE214.out) | exact HB.out))) : w.heap.size ≤ gb215)); have n5_ := Aside0.mk ((by rw [hg]; exact Nat.ne_of_lt (blk_lt (g := gb214) (o := .cells #[.slice A0_0 l0_0.length c0_0, .slice A0_1 l0_1.length c0_1, .slice A0_2 l0_2.length c0_2, .int .i64 a0_3, .int .i64 a0_4, .int .i64 a0_5, .int .i64 a0_6, .int .i64 a0_7, .int .i64 a0_8] 26 (0, 0)) (by (with_reducible repeat (first | refine blk_drewN ?_ _ | refine blk_drew ?_ | refine blk_alloc ?_ _)); exact BK214.out)) : gb214 ≠ gb215)); have n6_ := Aside0.mk ((by rw [hg]; exact Nat.ne_of_gt (blk_lt (g := gb214) (o := .cells #[.slice A0_0 l0_0.length c0_0, .slice A0_1 l0_1.length c0_1, .slice A0_2 l0_2.length c0_2, .int .i64 a0_3, .int .i64 a0_4, .int .i64 a0_5, .int .i64 a0_6, .int .i64 a0_7, .int .i64 a0_8] 26 (0, 0)) (by (with_reducible repeat (first | refine blk_drewN ?_ _ | refine blk_drew ?_ | refine blk_alloc ?_ _)); exact BK214.out)) : gb215 ≠ gb214)); clear BK214; clear HB; have BK214 := n0_; have HB := n1_; have BK215 := n2_; have GW215 := n3_; have GE215 := n4_; have NB214_215 := n5_; have NB215_214 := n6_; clear n0_ n1_ n2_ n3_ n4_ n5_ n6_; clear hb hbox hg; have hnb10 := NB214_215.out; have hnc10 := NB215_214.out; have hcz11_0 : w9.cell? ⟨gb214, 0, none⟩ = some (.slice A0_0 l0_0.length c0_0) := (blk_cell BK214.out 0).trans rfl; have hcz11_1 : w9.cell? ⟨gb214, 1, none⟩ = some (.slice A0_1 l0_1.length c0_1) := (blk_cell BK214.out 1).trans rfl; have hcz11_2 : w9.cell? ⟨gb214, 2, none⟩ = some (.slice A0_2 l0_2.length c0_2) := (blk_cell BK214.out 2).trans rfl; have hcz11_3 : w9.cell? ⟨gb214, 3, none⟩ = some (.int .i64 a0_3) := (blk_cell BK214.out 3).trans rfl; have hcz11_4 : w9.cell? ⟨gb214, 4, none⟩ = some (.int .i64 a0_4) := (blk_cell BK214.out 4).trans rfl; have hcz11_5 : w9.cell? ⟨gb214, 5, none⟩ = some (.int .i64 a0_5) := (blk_cell BK214.out 5).trans rfl; have hcz11_6 : w9.cell? ⟨gb214, 6, none⟩ = some (.int .i64 a0_6) := (blk_cell BK214.out 6).trans rfl; have hcz11_7 : w9.cell? ⟨gb214, 7, none⟩ = some (.int .i64 a0_7) := (blk_cell BK214.out 7).trans rfl; have hcz11_8 : w9.cell? ⟨gb214, 8, none⟩ = some (.int .i64 a0_8) := (blk_cell BK214.out 8).trans rfl; have hfz11_0 := blk_frozen BK214.out 0; have hfz11_1 := blk_frozen BK214.out 1; have hfz11_2 := blk_frozen BK214.out 2; have hfz11_3 := blk_frozen BK214.out 3; have hfz11_4 := blk_frozen BK214.out 4; have hfz11_5 := blk_frozen BK214.out 5; have hfz11_6 := blk_frozen BK214.out 6; have hfz11_7 := blk_frozen BK214.out 7; have hfz11_8 := blk_frozen BK214.out 8)))
      go_ret
      exact ⟨by first | rfl | (simp [errW_none, errW_some] <;> rfl) | (simp [*, errW_none, errW_some] <;> rfl), by repeat (first | (with_reducible first | exact HB.out | apply below_alloc | apply pw_below_drewN | apply below_drew1 | refine below_set ?_ GE214.out | refine below_set ?_ GE215.out) | exact HB.out)⟩
    · rw [if_neg c7] at H
      have c7b0 : decide ((l0_0.length : Int) ≤ a2) = false := decide_eq_false c7
      clear c7
      by_cases c12 : 0 ≤ a2
      · rw [if_pos c12] at H
        have c12b0 : decide (0 ≤ a2) = true := decide_eq_true c12
        clear c12
        by_cases c13 : a2 < (l0_0.length : Int)
        · rw [if_pos c13] at H
          have c13b0 : decide (a2 < (l0_0.length : Int)) = true := decide_eq_true c13
          clear c13
          obtain rfl := Option.some.inj H
          go_enter Try.func59, Try.ntmps59
          go_wp2_with (first | ((with_reducible refine gate_dst (N := 3) rfl ?_); (try (refine gate_guard (by rfl) ?_; dsimp only)); refine box_event ?hg (N := 3) ?hd (cs := #[.slice A0_0 l0_0.length c0_0, .slice A0_1 l0_1.length c0_1, .slice A0_2 l0_2.length c0_2, .int .i64 a0_3, .int .i64 a0_4, .int .i64 a0_5, .int .i64 a0_6, .int .i64 a0_7, .int .i64 a0_8]) (t := 26) ?hr ?_; (case hd => rfl); (case hg => rfl); (case hr => first | (go_simp; done) | (go_simp; rfl)); intro gb214 hg w14 hbox hb; have n0_ := Aside0.mk (below_step (by repeat (first | (with_reducible first | exact HB.out | apply below_alloc | apply pw_below_drewN | apply below_drew1) | exact HB.out)) hb); have n1_ := Aside0.mk (hbox); have n2_ := Aside0.mk ((by rw [hg]; exact (below_size (by repeat (first | (with_reducible first | exact HB.out | apply below_alloc | apply pw_below_drewN | apply below_drew1) | exact HB.out))) : w.heap.size ≤ gb214)); have n3_ := Aside0.mk ((by rw [hg]; exact (below_size (by repeat (first | (with_reducible first | exact HB.out | apply below_alloc | apply pw_below_drewN | apply below_drew1) | exact HB.out))) : w.heap.size ≤ gb214)); clear HB; have HB := n0_; have BK214 := n1_; have GW214 := n2_; have GE214 := n3_; clear n0_ n1_ n2_ n3_; clear hb hbox hg) | ((with_reducible refine gate_dst (N := 4) rfl ?_); (try (refine gate_guard (by rfl) ?_; dsimp only)); refine box_event ?hg (N := 4) ?hd (cs := #[.int .i64 a1_0, .int .i64 a1_1, .slice A1_2 l1_2.length c1_2, .slice A1_3 l1_3.length c1_3]) (t := 36) ?hr ?_; (case hd => rfl); (case hg => rfl); (case hr => first | (go_simp; done) | (go_simp; rfl)); intro gb215 hg w15 hbox hb; have n0_ := Aside0.mk (blk_below (g := gb214) (o := .cells #[.slice A0_0 l0_0.length c0_0, .slice A0_1 l0_1.length c0_1, .slice A0_2 l0_2.length c0_2, .int .i64 a0_3, .int .i64 a0_4, .int .i64 a0_5, .int .i64 a0_6, .int .i64 a0_7, .int .i64 a0_8] 26 (0, 0)) (by (with_reducible repeat (first | refine blk_drewN ?_ _ | refine blk_drew ?_ | refine blk_alloc ?_ _)); exact BK214.out) hb); have n1_ := Aside0.mk (below_step (by repeat (first | (with_reducible first | exact HB.out | apply below_alloc | apply pw_below_drewN | apply below_drew1 | refine below_set ?_ GE214.out) | exact HB.out)) hb); have n2_ := Aside0.mk (hbox); have n3_ := Aside0.mk ((by rw [hg]; exact (below_size (by repeat (first | (with_reducible first | exact HB.out | apply below_alloc | apply pw_below_drewN | apply below_drew1 | refine below_set ?_ GE214.out) | exact HB.out))) : w.heap.size ≤ gb215)); have n4_ := Aside0.mk ((by rw [hg]; exact (below_size (by repeat (first | (with_reducible first | exact HB.out | apply below_alloc | apply pw_below_drewN | apply below_drew1 | refine below_set ?_ GE214.out) | exact HB.out))) : w.heap.size ≤ gb215)); have n5_ := Aside0.mk ((by rw [hg]; exact Nat.ne_of_lt (blk_lt (g := gb214) (o := .cells #[.slice A0_0 l0_0.length c0_0, .slice A0_1 l0_1.length c0_1, .slice A0_2 l0_2.length c0_2, .int .i64 a0_3, .int .i64 a0_4, .int .i64 a0_5, .int .i64 a0_6, .int .i64 a0_7, .int .i64 a0_8] 26 (0, 0)) (by (with_reducible repeat (first | refine blk_drewN ?_ _ | refine blk_drew ?_ | refine blk_alloc ?_ _)); exact BK214.out)) : gb214 ≠ gb215)); have n6_ := Aside0.mk ((by rw [hg]; exact Nat.ne_of_gt (blk_lt (g := gb214) (o := .cells #[.slice A0_0 l0_0.length c0_0, .slice A0_1 l0_1.length c0_1, .slice A0_2 l0_2.length c0_2, .int .i64 a0_3, .int .i64 a0_4, .int .i64 a0_5, .int .i64 a0_6, .int .i64 a0_7, .int .i64 a0_8] 26 (0, 0)) (by (with_reducible repeat (first | refine blk_drewN ?_ _ | refine blk_drew ?_ | refine blk_alloc ?_ _)); exact BK214.out)) : gb215 ≠ gb214)); clear BK214; clear HB; have BK214 := n0_; have HB := n1_; have BK215 := n2_; have GW215 := n3_; have GE215 := n4_; have NB214_215 := n5_; have NB215_214 := n6_; clear n0_ n1_ n2_ n3_ n4_ n5_ n6_; clear hb hbox hg; have hnb16 := NB214_215.out; have hnc16 := NB215_214.out; have hcz17_0 : w15.cell? ⟨gb214, 0, none⟩ = some (.slice A0_0 l0_0.length c0_0) := (blk_cell BK214.out 0).trans rfl; have hcz17_1 : w15.cell? ⟨gb214, 1, none⟩ = some (.slice A0_1 l0_1.length c0_1) := (blk_cell BK214.out 1).trans rfl; have hcz17_2 : w15.cell? ⟨gb214, 2, none⟩ = some (.slice A0_2 l0_2.length c0_2) := (blk_cell BK214.out 2).trans rfl; have hcz17_3 : w15.cell? ⟨gb214, 3, none⟩ = some (.int .i64 a0_3) := (blk_cell BK214.out 3).trans rfl; have hcz17_4 : w15.cell? ⟨gb214, 4, none⟩ = some (.int .i64 a0_4) := (blk_cell BK214.out 4).trans rfl; have hcz17_5 : w15.cell? ⟨gb214, 5, none⟩ = some (.int .i64 a0_5) := (blk_cell BK214.out 5).trans rfl; have hcz17_6 : w15.cell? ⟨gb214, 6, none⟩ = some (.int .i64 a0_6) := (blk_cell BK214.out 6).trans rfl; have hcz17_7 : w15.cell? ⟨gb214, 7, none⟩ = some (.int .i64 a0_7) := (blk_cell BK214.out 7).trans rfl; have hcz17_8 : w15.cell? ⟨gb214, 8, none⟩ = some (.int .i64 a0_8) := (blk_cell BK214.out 8).trans rfl; have hfz17_0 := blk_frozen BK214.out 0; have hfz17_1 := blk_frozen BK214.out 1; have hfz17_2 := blk_frozen BK214.out 2; have hfz17_3 := blk_frozen BK214.out 3; have hfz17_4 := blk_frozen BK214.out 4; have hfz17_5 := blk_frozen BK214.out 5; have hfz17_6 := blk_frozen BK214.out 6; have hfz17_7 := blk_frozen BK214.out 7; have hfz17_8 := blk_frozen BK214.out 8; have hcz18_0 : w15.cell? ⟨gb215, 0, none⟩ = some (.int .i64 a1_0) := (blk_cell BK215.out 0).trans rfl; have hcz18_1 : w15.cell? ⟨gb215, 1, none⟩ = some (.int .i64 a1_1) := (blk_cell BK215.out 1).trans rfl; have hcz18_2 : w15.cell? ⟨gb215, 2, none⟩ = some (.slice A1_2 l1_2.length c1_2) := (blk_cell BK215.out 2).trans rfl; have hcz18_3 : w15.cell? ⟨gb215, 3, none⟩ = some (.slice A1_3 l1_3.length c1_3) := (blk_cell BK215.out 3).trans rfl; have hfz18_0 := blk_frozen BK215.out 0; have hfz18_1 := blk_frozen BK215.out 1; have hfz18_2 := blk_frozen BK215.out 2; have hfz18_3 := blk_frozen BK215.out 3; have p216 : 0 ≤ (a2 : Int) := of_decide_eq_true (by first | (with_reducible assumption) | assumption); have q216 : a2 < (l0_0.length : Int) := of_decide_eq_true (by first | (with_reducible assumption) | assumption); obtain ⟨ad216, e216, hx216_0, hx216_1⟩ := at_T58 HR0_0.out a2 p216 q216; cases e216; replace hx216_0 := (HB.out.cell (World.block_lt_of_cell? w _ hx216_0)).trans hx216_0; replace hx216_1 := (HB.out.cell (World.block_lt_of_cell? w _ hx216_1)).trans hx216_1; replace p216 := eq_true p216; replace q216 := eq_true q216))
          repeat (go_quiet (first | ((with_reducible refine gate_dst (N := 3) rfl ?_); (try (refine gate_guard (by rfl) ?_; dsimp only)); refine box_event ?hg (N := 3) ?hd (cs := #[.slice A0_0 l0_0.length c0_0, .slice A0_1 l0_1.length c0_1, .slice A0_2 l0_2.length c0_2, .int .i64 a0_3, .int .i64 a0_4, .int .i64 a0_5, .int .i64 a0_6, .int .i64 a0_7, .int .i64 a0_8]) (t := 26) ?hr ?_; (case hd => rfl); (case hg => rfl); (case hr => first | (go_simp; done) | (go_simp; rfl)); intro gb214 hg w14 hbox hb; have n0_ := Aside0.mk (below_step (by repeat (first | (with_reducible first | exact HB.out | apply below_alloc | apply pw_below_drewN | apply below_drew1) | exact HB.out)) hb); have n1_ := Aside0.mk (hbox); have n2_ := Aside0.mk ((by rw [hg]; exact (below_size (by repeat (first | (with_reducible first | exact HB.out | apply below_alloc | apply pw_below_drewN | apply below_drew1) | exact HB.out))) : w.heap.size ≤ gb214)); have n3_ := Aside0.mk ((by rw [hg]; exact (below_size (by repeat (first | (with_reducible first | exact HB.out | apply below_alloc | apply pw_below_drewN | apply below_drew1) | exact HB.out))) : w.heap.size ≤ gb214)); clear HB; have HB := n0_; have BK214 := n1_; have GW214 := n2_; have GE214 := n3_; clear n0_ n1_ n2_ n3_; clear hb hbox hg) | ((with_reducible refine gate_dst (N := 4) rfl ?_); (try (refine gate_guard (by rfl) ?_; dsimp only)); refine box_event ?hg (N := 4) ?hd (cs := #[.int .i64 a1_0, .int .i64 a1_1, .slice A1_2 l1_2.length c1_2, .slice A1_3 l1_3.length c1_3]) (t := 36) ?hr ?_; (case hd => rfl); (case hg => rfl); (case hr => first | (go_simp; done) | (go_simp; rfl)); intro gb215 hg w15 hbox hb; have n0_ := Aside0.mk (blk_below (g := gb214) (o := .cells #[.slice A0_0 l0_0.length c0_0, .slice A0_1 l0_1.length c0_1, .slice A0_2 l0_2.length c0_2, .int .i64 a0_3, .int .i64 a0_4, .int .i64 a0_5, .int .i64 a0_6, .int .i64 a0_7, .int .i64 a0_8] 26 (0, 0)) (by (with_reducible repeat (first | refine blk_drewN ?_ _ | refine blk_drew ?_ | refine blk_alloc ?_ _)); exact BK214.out) hb); have n1_ := Aside0.mk (below_step (by repeat (first | (with_reducible first | exact HB.out | apply below_alloc | apply pw_below_drewN | apply below_drew1 | refine below_set ?_ GE214.out) | exact HB.out)) hb); have n2_ := Aside0.mk (hbox); have n3_ := Aside0.mk ((by rw [hg]; exact (below_size (by repeat (first | (with_reducible first | exact HB.out | apply below_alloc | apply pw_below_drewN | apply below_drew1 | refine below_set ?_ GE214.out) | exact HB.out))) : w.heap.size ≤ gb215)); have n4_ := Aside0.mk ((by rw [hg]; exact (below_size (by repeat (first | (with_reducible first | exact HB.out | apply below_alloc | apply pw_below_drewN | apply below_drew1 | refine below_set ?_ GE214.out) | exact HB.out))) : w.heap.size ≤ gb215)); have n5_ := Aside0.mk ((by rw [hg]; exact Nat.ne_of_lt (blk_lt (g := gb214) (o := .cells #[.slice A0_0 l0_0.length c0_0, .slice A0_1 l0_1.length c0_1, .slice A0_2 l0_2.length c0_2, .int .i64 a0_3, .int .i64 a0_4, .int .i64 a0_5, .int .i64 a0_6, .int .i64 a0_7, .int .i64 a0_8] 26 (0, 0)) (by (with_reducible repeat (first | refine blk_drewN ?_ _ | refine blk_drew ?_ | refine blk_alloc ?_ _)); exact BK214.out)) : gb214 ≠ gb215)); have n6_ := Aside0.mk ((by rw [hg]; exact Nat.ne_of_gt (blk_lt (g := gb214) (o := .cells #[.slice A0_0 l0_0.length c0_0, .slice A0_1 l0_1.length c0_1, .slice A0_2 l0_2.length c0_2, .int .i64 a0_3, .int .i64 a0_4, .int .i64 a0_5, .int .i64 a0_6, .int .i64 a0_7, .int .i64 a0_8] 26 (0, 0)) (by (with_reducible repeat (first | refine blk_drewN ?_ _ | refine blk_drew ?_ | refine blk_alloc ?_ _)); exact BK214.out)) : gb215 ≠ gb214)); clear BK214; clear HB; have BK214 := n0_; have HB := n1_; have BK215 := n2_; have GW215 := n3_; have GE215 := n4_; have NB214_215 := n5_; have NB215_214 := n6_; clear n0_ n1_ n2_ n3_ n4_ n5_ n6_; clear hb hbox hg; have hnb16 := NB214_215.out; have hnc16 := NB215_214.out; have hcz17_0 : w15.cell? ⟨gb214, 0, none⟩ = some (.slice A0_0 l0_0.length c0_0) := (blk_cell BK214.out 0).trans rfl; have hcz17_1 : w15.cell? ⟨gb214, 1, none⟩ = some (.slice A0_1 l0_1.length c0_1) := (blk_cell BK214.out 1).trans rfl; have hcz17_2 : w15.cell? ⟨gb214, 2, none⟩ = some (.slice A0_2 l0_2.length c0_2) := (blk_cell BK214.out 2).trans rfl; have hcz17_3 : w15.cell? ⟨gb214, 3, none⟩ = some (.int .i64 a0_3) := (blk_cell BK214.out 3).trans rfl; have hcz17_4 : w15.cell? ⟨gb214, 4, none⟩ = some (.int .i64 a0_4) := (blk_cell BK214.out 4).trans rfl; have hcz17_5 : w15.cell? ⟨gb214, 5, none⟩ = some (.int .i64 a0_5) := (blk_cell BK214.out 5).trans rfl; have hcz17_6 : w15.cell? ⟨gb214, 6, none⟩ = some (.int .i64 a0_6) := (blk_cell BK214.out 6).trans rfl; have hcz17_7 : w15.cell? ⟨gb214, 7, none⟩ = some (.int .i64 a0_7) := (blk_cell BK214.out 7).trans rfl; have hcz17_8 : w15.cell? ⟨gb214, 8, none⟩ = some (.int .i64 a0_8) := (blk_cell BK214.out 8).trans rfl; have hfz17_0 := blk_frozen BK214.out 0; have hfz17_1 := blk_frozen BK214.out 1; have hfz17_2 := blk_frozen BK214.out 2; have hfz17_3 := blk_frozen BK214.out 3; have hfz17_4 := blk_frozen BK214.out 4; have hfz17_5 := blk_frozen BK214.out 5; have hfz17_6 := blk_frozen BK214.out 6; have hfz17_7 := blk_frozen BK214.out 7; have hfz17_8 := blk_frozen BK214.out 8; have hcz18_0 : w15.cell? ⟨gb215, 0, none⟩ = some (.int .i64 a1_0) := (blk_cell BK215.out 0).trans rfl; have hcz18_1 : w15.cell? ⟨gb215, 1, none⟩ = some (.int .i64 a1_1) := (blk_cell BK215.out 1).trans rfl; have hcz18_2 : w15.cell? ⟨gb215, 2, none⟩ = some (.slice A1_2 l1_2.length c1_2) := (blk_cell BK215.out 2).trans rfl; have hcz18_3 : w15.cell? ⟨gb215, 3, none⟩ = some (.slice A1_3 l1_3.length c1_3) := (blk_cell BK215.out 3).trans rfl; have hfz18_0 := blk_frozen BK215.out 0; have hfz18_1 := blk_frozen BK215.out 1; have hfz18_2 := blk_frozen BK215.out 2; have hfz18_3 := blk_frozen BK215.out 3; have p216 : 0 ≤ (a2 : Int) := of_decide_eq_true (by first | (with_reducible assumption) | assumption); have q216 : a2 < (l0_0.length : Int) := of_decide_eq_true (by first | (with_reducible assumption) | assumption); obtain ⟨ad216, e216, hx216_0, hx216_1⟩ := at_T58 HR0_0.out a2 p216 q216; cases e216; replace hx216_0 := (HB.out.cell (World.block_lt_of_cell? w _ hx216_0)).trans hx216_0; replace hx216_1 := (HB.out.cell (World.block_lt_of_cell? w _ hx216_1)).trans hx216_1; replace p216 := eq_true p216; replace q216 := eq_true q216)); try go_wp2_with (first | ((with_reducible refine gate_dst (N := 3) rfl ?_); (try (refine gate_guard (by rfl) ?_; dsimp only)); refine box_event ?hg (N := 3) ?hd (cs := #[.slice A0_0 l0_0.length c0_0, .slice A0_1 l0_1.length c0_1, .slice A0_2 l0_2.length c0_2, .int .i64 a0_3, .int .i64 a0_4, .int .i64 a0_5, .int .i64 a0_6, .int .i64 a0_7, .int .i64 a0_8]) (t := 26) ?hr ?_; (case hd => rfl); (case hg => rfl); (case hr => first | (go_simp; done) | (go_simp; rfl)); intro gb214 hg w14 hbox hb; have n0_ := Aside0.mk (below_step (by repeat (first | (with_reducible first | exact HB.out | apply below_alloc | apply pw_below_drewN | apply below_drew1) | exact HB.out)) hb); have n1_ := Aside0.mk (hbox); have n2_ := Aside0.mk ((by rw [hg]; exact (below_size (by repeat (first | (with_reducible first | exact HB.out | apply below_alloc | apply pw_below_drewN | apply below_drew1) | exact HB.out))) : w.heap.size ≤ gb214)); have n3_ := Aside0.mk ((by rw [hg]; exact (below_size (by repeat (first | (with_reducible first | exact HB.out | apply below_alloc | apply pw_below_drewN | apply below_drew1) | exact HB.out))) : w.heap.size ≤ gb214)); clear HB; have HB := n0_; have BK214 := n1_; have GW214 := n2_; have GE214 := n3_; clear n0_ n1_ n2_ n3_; clear hb hbox hg) | ((with_reducible refine gate_dst (N := 4) rfl ?_); (try (refine gate_guard (by rfl) ?_; dsimp only)); refine box_event ?hg (N := 4) ?hd (cs := #[.int .i64 a1_0, .int .i64 a1_1, .slice A1_2 l1_2.length c1_2, .slice A1_3 l1_3.length c1_3]) (t := 36) ?hr ?_; (case hd => rfl); (case hg => rfl); (case hr => first | (go_simp; done) | (go_simp; rfl)); intro gb215 hg w15 hbox hb; have n0_ := Aside0.mk (blk_below (g := gb214) (o := .cells #[.slice A0_0 l0_0.length c0_0, .slice A0_1 l0_1.length c0_1, .slice A0_2 l0_2.length c0_2, .int .i64 a0_3, .int .i64 a0_4, .int .i64 a0_5, .int .i64 a0_6, .int .i64 a0_7, .int .i64 a0_8] 26 (0, 0)) (by (with_reducible repeat (first | refine blk_drewN ?_ _ | refine blk_drew ?_ | refine blk_alloc ?_ _)); exact BK214.out) hb); have n1_ := Aside0.mk (below_step (by repeat (first | (with_reducible first | exact HB.out | apply below_alloc | apply pw_below_drewN | apply below_drew1 | refine below_set ?_ GE214.out) | exact HB.out)) hb); have n2_ := Aside0.mk (hbox); have n3_ := Aside0.mk ((by rw [hg]; exact (below_size (by repeat (first | (with_reducible first | exact HB.out | apply below_alloc | apply pw_below_drewN | apply below_drew1 | refine below_set ?_ GE214.out) | exact HB.out))) : w.heap.size ≤ gb215)); have n4_ := Aside0.mk ((by rw [hg]; exact (below_size (by repeat (first | (with_reducible first | exact HB.out | apply below_alloc | apply pw_below_drewN | apply below_drew1 | refine below_set ?_ GE214.out) | exact HB.out))) : w.heap.size ≤ gb215)); have n5_ := Aside0.mk ((by rw [hg]; exact Nat.ne_of_lt (blk_lt (g := gb214) (o := .cells #[.slice A0_0 l0_0.length c0_0, .slice A0_1 l0_1.length c0_1, .slice A0_2 l0_2.length c0_2, .int .i64 a0_3, .int .i64 a0_4, .int .i64 a0_5, .int .i64 a0_6, .int .i64 a0_7, .int .i64 a0_8] 26 (0, 0)) (by (with_reducible repeat (first | refine blk_drewN ?_ _ | refine blk_drew ?_ | refine blk_alloc ?_ _)); exact BK214.out)) : gb214 ≠ gb215)); have n6_ := Aside0.mk ((by rw [hg]; exact Nat.ne_of_gt (blk_lt (g := gb214) (o := .cells #[.slice A0_0 l0_0.length c0_0, .slice A0_1 l0_1.length c0_1, .slice A0_2 l0_2.length c0_2, .int .i64 a0_3, .int .i64 a0_4, .int .i64 a0_5, .int .i64 a0_6, .int .i64 a0_7, .int .i64 a0_8] 26 (0, 0)) (by (with_reducible repeat (first | refine blk_drewN ?_ _ | refine blk_drew ?_ | refine blk_alloc ?_ _)); exact BK214.out)) : gb215 ≠ gb214)); clear BK214; clear HB; have BK214 := n0_; have HB := n1_; have BK215 := n2_; have GW215 := n3_; have GE215 := n4_; have NB214_215 := n5_; have NB215_214 := n6_; clear n0_ n1_ n2_ n3_ n4_ n5_ n6_; clear hb hbox hg; have hnb16 := NB214_215.out; have hnc16 := NB215_214.out; have hcz17_0 : w15.cell? ⟨gb214, 0, none⟩ = some (.slice A0_0 l0_0.length c0_0) := (blk_cell BK214.out 0).trans rfl; have hcz17_1 : w15.cell? ⟨gb214, 1, none⟩ = some (.slice A0_1 l0_1.length c0_1) := (blk_cell BK214.out 1).trans rfl; have hcz17_2 : w15.cell? ⟨gb214, 2, none⟩ = some (.slice A0_2 l0_2.length c0_2) := (blk_cell BK214.out 2).trans rfl; have hcz17_3 : w15.cell? ⟨gb214, 3, none⟩ = some (.int .i64 a0_3) := (blk_cell BK214.out 3).trans rfl; have hcz17_4 : w15.cell? ⟨gb214, 4, none⟩ = some (.int .i64 a0_4) := (blk_cell BK214.out 4).trans rfl; have hcz17_5 : w15.cell? ⟨gb214, 5, none⟩ = some (.int .i64 a0_5) := (blk_cell BK214.out 5).trans rfl; have hcz17_6 : w15.cell? ⟨gb214, 6, none⟩ = some (.int .i64 a0_6) := (blk_cell BK214.out 6).trans rfl; have hcz17_7 : w15.cell? ⟨gb214, 7, none⟩ = some (.int .i64 a0_7) := (blk_cell BK214.out 7).trans rfl; have hcz17_8 : w15.cell? ⟨gb214, 8, none⟩ = some (.int .i64 a0_8) := (blk_cell BK214.out 8).trans rfl; have hfz17_0 := blk_frozen BK214.out 0; have hfz17_1 := blk_frozen BK214.out 1; have hfz17_2 := blk_frozen BK214.out 2; have hfz17_3 := blk_frozen BK214.out 3; have hfz17_4 := blk_frozen BK214.out 4; have hfz17_5 := blk_frozen BK214.out 5; have hfz17_6 := blk_frozen BK214.out 6; have hfz17_7 := blk_frozen BK214.out 7; have hfz17_8 := blk_frozen BK214.out 8; have hcz18_0 : w15.cell? ⟨gb215, 0, none⟩ = some (.int .i64 a1_0) := (blk_cell BK215.out 0).trans rfl; have hcz18_1 : w15.cell? ⟨gb215, 1, none⟩ = some (.int .i64 a1_1) := (blk_cell BK215.out 1).trans rfl; have hcz18_2 : w15.cell? ⟨gb215, 2, none⟩ = some (.slice A1_2 l1_2.length c1_2) := (blk_cell BK215.out 2).trans rfl; have hcz18_3 : w15.cell? ⟨gb215, 3, none⟩ = some (.slice A1_3 l1_3.length c1_3) := (blk_cell BK215.out 3).trans rfl; have hfz18_0 := blk_frozen BK215.out 0; have hfz18_1 := blk_frozen BK215.out 1; have hfz18_2 := blk_frozen BK215.out 2; have hfz18_3 := blk_frozen BK215.out 3; have p216 : 0 ≤ (a2 : Int) := of_decide_eq_true (by first | (with_reducible assumption) | assumption); have q216 : a2 < (l0_0.length : Int) := of_decide_eq_true (by first | (with_reducible assumption) | assumption); obtain ⟨ad216, e216, hx216_0, hx216_1⟩ := at_T58 HR0_0.out a2 p216 q216; cases e216; replace hx216_0 := (HB.out.cell (World.block_lt_of_cell? w _ hx216_0)).trans hx216_0; replace hx216_1 := (HB.out.cell (World.block_lt_of_cell? w _ hx216_1)).trans hx216_1; replace p216 := eq_true p216; replace q216 := eq_true q216)))
          go_ret
          exact ⟨by first | rfl | (simp [errW_none, errW_some] <;> rfl) | (simp [*, errW_none, errW_some] <;> rfl), by repeat (first | (with_reducible first | exact HB.out | apply below_alloc | apply pw_below_drewN | apply below_drew1 | refine below_set ?_ GE214.out | refine below_set ?_ GE215.out) | exact HB.out)⟩
        · rw [if_neg c13] at H
          exact absurd H (by simp)
      · rw [if_neg c12] at H
        exact absurd H (by simp)
end Go.Proofs.Ytchlbnlhjllcbaa.F
namespace Go.Proofs.Ytchlbnlhjllcbaa.F
open Go.RowKit Go.Proofs.YtchlbnlhjllcbaaW.PrintWords Go.Proofs.YtchlbnlhjllcbaaW.PrintLast Go.Proofs.YtchlbnlhjllcbaaW.PrintMore
attribute [local go_sem] max2_int min2_int max_two min_two max_three min_three max_four min_four   -- for this text's walks alone
set_option linter.unusedVariables false
set_option linter.unusedSimpArgs false
def admit_Part.f (l0_0 : List (S58)) (l0_1 : List (S68)) (l0_2 : List (S71)) (a0_3 : Int) (a0_4 : Int) (a0_5 : Int) (a0_6 : Int) (a0_7 : Int) (a0_8 : Int) (a1_0 : Int) (a1_1 : Int) (l1_2 : List Int) (l1_3 : List Int) (a2 : Int) : Option (Int) := (admit_Quanta.f l0_0 l0_1 l0_2 a0_3 a0_4 a0_5 a0_6 a0_7 a0_8 a1_0 a1_1 l1_2 l1_3 a2).bind fun t219 => ((fix_Util.f t219 a1_0).bind fun t220 => (some t220))
def admit_Part.T1 : Bool × List (List Nat × List Nat) := (true, [([], []), ([], []), ([], []), ([0, 1, 2], [0, 1, 2]), ([], []), ([4], [4]), ([3, 5, 3], [3, 5]), ([6, 6, 0, 1, 2, 3, 4, 5, 6], [6])])
def admit_Part.B1 : List Nat := [0, 0, 0, 7, 0, 16, 63, 127]
theorem admit_Part.tab1 : rtab .any (opsOf Try.f46 1) = admit_Part.T1 := by kernel_rfl
theorem admit_Part.bits1 : waitsOk admit_Part.T1.2 admit_Part.B1 = true := by kernel_rfl
set_option maxHeartbeats 8000000 in
set_option maxRecDepth 100000 in
theorem admit_Part.calls (A0_0 : Option Addr) (c0_0 : Nat) (l0_0 : List (S58)) (A0_1 : Option Addr) (c0_1 : Nat) (l0_1 : List (S68)) (A0_2 : Option Addr) (c0_2 : Nat) (l0_2 : List (S71)) (a0_3 : Int) (a0_4 : Int) (a0_5 : Int) (a0_6 : Int) (a0_7 : Int) (a0_8 : Int) (a1_0 : Int) (a1_1 : Int) (A1_2 : Option Addr) (c1_2 : Nat) (l1_2 : List Int) (A1_3 : Option Addr) (c1_3 : Nat) (l1_3 : List Int) (a2 : Int) (r : Int) (w : World) (hr0_0 : Kd.C k58 w A0_0 l0_0.length l0_0) (hc0_0 : l0_0.length ≤ c0_0) (hr0_1 : Kd.C k68 w A0_1 l0_1.length l0_1) (hc0_1 : l0_1.length ≤ c0_1) (hr0_2 : Kd.C k71 w A0_2 l0_2.length l0_2) (hc0_2 : l0_2.length ≤ c0_2) (hr1_2 : Kd.C (Kd.int .i64) w A1_2 l1_2.length l1_2) (hc1_2 : l1_2.length ≤ c1_2) (hr1_3 : Kd.C (Kd.int .i64) w A1_3 l1_3.length l1_3) (hc1_3 : l1_3.length ≤ c1_3) (h : admit_Part.f l0_0 l0_1 l0_2 a0_3 a0_4 a0_5 a0_6 a0_7 a0_8 a1_0 a1_1 l1_2 l1_3 a2 = some r) :
    Calls Try.prog 46 #[.agg #[.slice A0_0 l0_0.length c0_0, .slice A0_1 l0_1.length c0_1, .slice A0_2 l0_2.length c0_2, .int .i64 a0_3, .int .i64 a0_4, .int .i64 a0_5, .int .i64 a0_6, .int .i64 a0_7, .int .i64 a0_8], .agg #[.int .i64 a1_0, .int .i64 a1_1, .slice A1_2 l1_2.length c1_2, .slice A1_3 l1_3.length c1_3], .int .i64 a2] w fun e w' => e = .returned (.int .i64 r) ∧ Below w.heap.size w w' := by
  have hu26 := Try.underlying26
  have hu36 := Try.underlying36
  have HR0_0 := Aside0.mk hr0_0
  have HC0_0 := Aside0.mk hc0_0
  clear hr0_0 hc0_0
  have HR0_1 := Aside0.mk hr0_1
  have HC0_1 := Aside0.mk hc0_1
  clear hr0_1 hc0_1
  have HR0_2 := Aside0.mk hr0_2
  have HC0_2 := Aside0.mk hc0_2
  clear hr0_2 hc0_2
  have HR1_2 := Aside0.mk hr1_2
  have HC1_2 := Aside0.mk hc1_2
  clear hr1_2 hc1_2
  have HR1_3 := Aside0.mk hr1_3
  have HC1_3 := Aside0.mk hc1_3
  clear hr1_3 hc1_3
  have HB := Aside0.mk (Below.refl w.heap.size w)
  have H : ((admit_Quanta.f l0_0 l0_1 l0_2 a0_3 a0_4 a0_5 a0_6 a0_7 a0_8 a1_0 a1_1 l1_2 l1_3 a2).bind fun t219 => ((fix_Util.f t219 a1_0).bind fun t220 => (some t220))) = some r := h
  clear h
  replace H := Option.bind_eq_some_iff.mp H
  obtain ⟨t219, A40, H⟩ := H
  replace H : ((fix_Util.f t219 a1_0).bind fun t220 => (some t220)) = some r := H
  have A4 := Aside0.mk A40
  clear A40
  replace H := Option.bind_eq_some_iff.mp H
  obtain ⟨t220, A50, H⟩ := H
  replace H : (some t220) = some r := H
  have A5 := Aside0.mk A50
  clear A50
  obtain rfl := Option.some.inj H
  go_enter Try.func46, Try.ntmps46
  try go_wp2_with (first | ((with_reducible refine gate_dst (N := 3) rfl ?_); refine box_event ?hg (N := 3) ?hd (cs := #[.slice A0_0 l0_0.length c0_0, .slice A0_1 l0_1.length c0_1, .slice A0_2 l0_2.length c0_2, .int .i64 a0_3, .int .i64 a0_4, .int .i64 a0_5, .int .i64 a0_6, .int .i64 a0_7, .int .i64 a0_8]) (t := 26) ?hr ?_; (case hd => rfl); (case hg => rfl); (case hr => first | (go_simp; done) | (go_simp; rfl)); intro gb217 hg w6 hbox hb; have n0_ := Aside0.mk (below_step (by repeat (first | (with_reducible first | exact HB.out | apply below_alloc | apply pw_below_drewN | apply below_drew1) | exact HB.out)) hb); have n1_ := Aside0.mk (hbox); have n2_ := Aside0.mk ((by rw [hg]; exact (below_size (by repeat (first | (with_reducible first | exact HB.out | apply below_alloc | apply pw_below_drewN | apply below_drew1) | exact HB.out))) : w.heap.size ≤ gb217)); have n3_ := Aside0.mk ((by rw [hg]; exact (below_size (by repeat (first | (with_reducible first | exact HB.out | apply below_alloc | apply pw_below_drewN | apply below_drew1) | exact HB.out))) : w.heap.size ≤ gb217)); clear HB; have HB := n0_; have BK217 := n1_; have GW217 := n2_; have GE217 := n3_; clear n0_ n1_ n2_ n3_; clear hb hbox hg) | ((with_reducible refine gate_dst (N := 4) rfl ?_); refine box_event ?hg (N := 4) ?hd (cs := #[.int .i64 a1_0, .int .i64 a1_1, .slice A1_2 l1_2.length c1_2, .slice A1_3 l1_3.length c1_3]) (t := 36) ?hr ?_; (case hd => rfl); (case hg => rfl); (case hr => first | (go_simp; done) | (go_simp; rfl)); intro gb218 hg w7 hbox hb; have n0_ := Aside0.mk (blk_below (g := gb217) (o := .cells #[.slice A0_0 l0_0.length c0_0, .slice A0_1 l0_1.length c0_1, .slice A0_2 l0_2.length c0_2, .int .i64 a0_3, .int .i64 a0_4, .int .i64 a0_5, .int .i64 a0_6, .int .i64 a0_7, .int .i64 a0_8] 26 (0, 0)) (by (with_reducible repeat (first | refine blk_drewN ?_ _ | refine blk_drew ?_ | refine blk_alloc ?_ _)); exact BK217.out) hb); have n1_ := Aside0.mk (below_step (by repeat (first | (with_reducible first | exact HB.out | apply below_alloc | apply pw_below_drewN | apply below_drew1 | refine below_set ?_ GE217.out) | exact HB.out)) hb); have n2_ := Aside0.mk (hbox); have n3_ := Aside0.mk ((by rw [hg]; exact (below_size (by repeat (first | (with_reducible first | exact HB.out | apply below_alloc | apply pw_below_drewN | apply below_drew1 | refine below_set ?_ GE217.out) | exact HB.out))) : w.heap.size ≤ gb218)); have n4_ := Aside0.mk ((by rw [hg]; exact (below_size (by repeat (first | (with_reducible first | exact HB.out | apply below_alloc | apply pw_below_drewN | apply below_drew1 | refine below_set ?_ GE217.out) | exact HB.out))) : w.heap.size ≤ gb218)); have n5_ := Aside0.mk ((by rw [hg]; exact Nat.ne_of_lt (blk_lt (g := gb217) (o := .cells #[.slice A0_0 l0_0.length c0_0, .slice A0_1 l0_1.length c0_1, .slice A0_2 l0_2.length c0_2, .int .i64 a0_3, .int .i64 a0_4, .int .i64 a0_5, .int .i64 a0_6, .int .i64 a0_7, .int .i64 a0_8] 26 (0, 0)) (by (with_reducible repeat (first | refine blk_drewN ?_ _ | refine blk_drew ?_ | refine blk_alloc ?_ _)); exact BK217.out)) : gb217 ≠ gb218)); have n6_ := Aside0.mk ((by rw [hg]; exact Nat.ne_of_gt (blk_lt (g := gb217) (o := .cells #[.slice A0_0 l0_0.length c0_0, .slice A0_1 l0_1.length c0_1, .slice A0_2 l0_2.length c0_2, .int .i64 a0_3, .int .i64 a0_4, .int .i64 a0_5, .int .i64 a0_6, .int .i64 a0_7, .int .i64 a0_8] 26 (0, 0)) (by (with_reducible repeat (first | refine blk_drewN ?_ _ | refine blk_drew ?_ | refine blk_alloc ?_ _)); exact BK217.out)) : gb218 ≠ gb217)); clear BK217; clear HB; have BK217 := n0_; have HB := n1_; have BK218 := n2_; have GW218 := n3_; have GE218 := n4_; have NB217_218 := n5_; have NB218_217 := n6_; clear n0_ n1_ n2_ n3_ n4_ n5_ n6_; clear hb hbox hg))
  have n0_ := Aside0.mk (blk_drew BK217.out)
  have n1_ := Aside0.mk (blk_drew BK218.out)
  have n2_ := Aside0.mk (below_drew1 HB.out)
  clear BK217
  clear BK218
  clear HB
  have BK217 := n0_
  have BK218 := n1_
  have HB := n2_
  clear n0_ n1_ n2_
  refine start_ (n := 8) (S := fun w' => w'.cell? ⟨gb217, 0, none⟩ = some (.slice A0_0 l0_0.length c0_0) ∧ w'.cell? ⟨gb217, 1, none⟩ = some (.slice A0_1 l0_1.length c0_1) ∧ w'.cell? ⟨gb217, 2, none⟩ = some (.slice A0_2 l0_2.length c0_2) ∧ w'.cell? ⟨gb217, 3, none⟩ = some (.int .i64 a0_3) ∧ w'.cell? ⟨gb217, 4, none⟩ = some (.int .i64 a0_4) ∧ w'.cell? ⟨gb217, 5, none⟩ = some (.int .i64 a0_5) ∧ w'.cell? ⟨gb217, 6, none⟩ = some (.int .i64 a0_6) ∧ w'.cell? ⟨gb217, 7, none⟩ = some (.int .i64 a0_7) ∧ w'.cell? ⟨gb217, 8, none⟩ = some (.int .i64 a0_8) ∧ w'.cell? ⟨gb218, 0, none⟩ = some (.int .i64 a1_0) ∧ w'.cell? ⟨gb218, 1, none⟩ = some (.int .i64 a1_1) ∧ w'.cell? ⟨gb218, 2, none⟩ = some (.slice A1_2 l1_2.length c1_2) ∧ w'.cell? ⟨gb218, 3, none⟩ = some (.slice A1_3 l1_3.length c1_3)) (ds := []) #[false, false, false, false, false, false, false, false] (by kernel_rfl) rfl rfl ⟨(blk_cell BK217.out 0).trans rfl, (blk_cell BK217.out 1).trans rfl, (blk_cell BK217.out 2).trans rfl, (blk_cell BK217.out 3).trans rfl, (blk_cell BK217.out 4).trans rfl, (blk_cell BK217.out 5).trans rfl, (blk_cell BK217.out 6).trans rfl, (blk_cell BK217.out 7).trans rfl, (blk_cell BK217.out 8).trans rfl, (blk_cell BK218.out 0).trans rfl, (blk_cell BK218.out 1).trans rfl, (blk_cell BK218.out 2).trans rfl, (blk_cell BK218.out 3).trans rfl⟩ (fun hHeld => ?_); refine with_tabW admit_Part.tab1 admit_Part.bits1 (fun HT_ HW_ => ?_)
  generalize w7.drew = w8 at BK217 BK218 HB hHeld ⊢
  refine pure_ (i := 2) (N := some 9) (v := ?_) (a' := ?_) #[false, false, true, false, false, false, false, false] rfl rfl (any_of HT_.out (by kernel_rfl)) (fun _ _ _ h => h) (Or.inl ⟨by rfl, ?_⟩) ?_ ?_
  rotate_left
  · intro w'
    go_simp
    with_reducible rfl
  rotate_left
  · simp only [Act.put, List.setIfInBounds_toArray, List.set_cons_zero, List.set_cons_succ, i64_w, i32_w]
    rfl
  refine pure_ (i := 4) (N := some 11) (v := ?_) (a' := ?_) #[false, false, true, false, true, false, false, false] rfl rfl (any_of HT_.out (by kernel_rfl)) (fun _ _ _ h => h) (Or.inl ⟨by rfl, ?_⟩) ?_ ?_
  rotate_left
  · intro w'
    go_simp
    with_reducible rfl
  rotate_left
  · simp only [Act.put, List.setIfInBounds_toArray, List.set_cons_zero, List.set_cons_succ, i64_w, i32_w]
    rfl
  refine take_ (i := 0) (N := some 7) (v := ?_) (a' := ?_) #[true, false, true, false, true, false, false, false] rfl rfl (take_ofW HT_.out HW_.out (by kernel_rfl)) (fun _ _ _ h => h) (Or.inl ⟨by rfl, ?_⟩) hHeld ?_ ?_
  rotate_left
  · rintro w' ⟨s0, s1, s2, s3, s4, s5, s6, s7, s8, s9, s10, s11, s12⟩
    go_simp
    with_reducible rfl
  rotate_left
  · simp only [Act.put, List.setIfInBounds_toArray, List.set_cons_zero, List.set_cons_succ, i64_w, i32_w]
    rfl
  refine take_ (i := 1) (N := some 8) (v := ?_) (a' := ?_) #[true, true, true, false, true, false, false, false] rfl rfl (take_ofW HT_.out HW_.out (by kernel_rfl)) (fun _ _ _ h => h) (Or.inl ⟨by rfl, ?_⟩) hHeld ?_ ?_
  rotate_left
  · rintro w' ⟨s0, s1, s2, s3, s4, s5, s6, s7, s8, s9, s10, s11, s12⟩
    go_simp
    with_reducible rfl
  rotate_left
  · simp only [Act.put, List.setIfInBounds_toArray, List.set_cons_zero, List.set_cons_succ, i64_w, i32_w]
    rfl
  refine take_ (i := 5) (N := some 12) (v := ?_) (a' := ?_) #[true, true, true, false, true, true, false, false] rfl rfl (take_ofW HT_.out HW_.out (by kernel_rfl)) (fun _ _ _ h => h) (Or.inl ⟨by rfl, ?_⟩) hHeld ?_ ?_
  rotate_left
  · rintro w' ⟨s0, s1, s2, s3, s4, s5, s6, s7, s8, s9, s10, s11, s12⟩
    go_simp
    with_reducible rfl
  rotate_left
  · simp only [Act.put, List.setIfInBounds_toArray, List.set_cons_zero, List.set_cons_succ, i64_w, i32_w]
    rfl
  refine one_ (i := 3) (N := some 10) #[true, true, true, true, true, true, false, false] rfl rfl (one_of HT_.out (by kernel_rfl)) (by decide) (fun K hK => ?_)
  refine goes_ Try.func59 (by kernel_rfl) rfl #[.agg #[.slice A0_0 l0_0.length c0_0, .slice A0_1 l0_1.length c0_1, .slice A0_2 l0_2.length c0_2, .int .i64 a0_3, .int .i64 a0_4, .int .i64 a0_5, .int .i64 a0_6, .int .i64 a0_7, .int .i64 a0_8], .agg #[.int .i64 a1_0, .int .i64 a1_1, .slice A1_2 l1_2.length c1_2, .slice A1_3 l1_3.length c1_3], .int .i64 a2] (by rfl) rfl rfl (by (try simp only [List.map_toArray, List.map_cons, List.map_nil]); first | done | rfl | (simp only [List.length_drop, List.length_take]; rfl)) ?_
  with_reducible refine (admit_Quanta.calls _ _ l0_0 _ _ l0_1 _ _ l0_2 a0_3 a0_4 a0_5 a0_6 a0_7 a0_8 a1_0 a1_1 _ _ l1_2 _ _ l1_3 a2 t219 _ ?side1 ?side2 ?side3 ?side4 ?side5 ?side6 ?side7 ?side8 ?side9 ?side10 A4.out).mono ?_
  (case side1 => repeat (first | exact (Kd.C_below HR0_0.out HB.out) | (with_reducible refine Kd.C_alloc ?_ _) | (with_reducible refine Kd.C_drewN ?_ _) | (with_reducible refine Kd.C_drew ?_)))
  (case side2 => exact HC0_0.out)
  (case side3 => repeat (first | exact (Kd.C_below HR0_1.out HB.out) | (with_reducible refine Kd.C_alloc ?_ _) | (with_reducible refine Kd.C_drewN ?_ _) | (with_reducible refine Kd.C_drew ?_)))
  (case side4 => exact HC0_1.out)
  (case side5 => repeat (first | exact (Kd.C_below HR0_2.out HB.out) | (with_reducible refine Kd.C_alloc ?_ _) | (with_reducible refine Kd.C_drewN ?_ _) | (with_reducible refine Kd.C_drew ?_)))
  (case side6 => exact HC0_2.out)
  (case side7 => repeat (first | exact (Kd.C_below HR1_2.out HB.out) | (with_reducible refine Kd.C_alloc ?_ _) | (with_reducible refine Kd.C_drewN ?_ _) | (with_reducible refine Kd.C_drew ?_)))
  (case side8 => exact HC1_2.out)
  (case side9 => repeat (first | exact (Kd.C_below HR1_3.out HB.out) | (with_reducible refine Kd.C_alloc ?_ _) | (with_reducible refine Kd.C_drewN ?_ _) | (with_reducible refine Kd.C_drew ?_)))
  (case side10 => exact HC1_3.out)
  rintro e w9 ⟨rfl, hb⟩
  refine ⟨_, rfl, ?_⟩
  have n0_ := Aside0.mk (blk_below (g := gb217) (o := .cells #[.slice A0_0 l0_0.length c0_0, .slice A0_1 l0_1.length c0_1, .slice A0_2 l0_2.length c0_2, .int .i64 a0_3, .int .i64 a0_4, .int .i64 a0_5, .int .i64 a0_6, .int .i64 a0_7, .int .i64 a0_8] 26 (0, 0)) (by (with_reducible repeat (first | refine blk_drewN ?_ _ | refine blk_drew ?_ | refine blk_alloc ?_ _)); exact BK217.out) hb)
  have n1_ := Aside0.mk (blk_below (g := gb218) (o := .cells #[.int .i64 a1_0, .int .i64 a1_1, .slice A1_2 l1_2.length c1_2, .slice A1_3 l1_3.length c1_3] 36 (0, 0)) (by (with_reducible repeat (first | refine blk_drewN ?_ _ | refine blk_drew ?_ | refine blk_alloc ?_ _)); exact BK218.out) hb)
  have n2_ := Aside0.mk (below_step (by repeat (first | (with_reducible first | exact HB.out | apply below_alloc | apply pw_below_drewN | apply below_drew1 | refine below_set ?_ GE217.out | refine below_set ?_ GE218.out) | exact HB.out)) hb)
  clear BK217
  clear BK218
  clear HB
  have BK217 := n0_
  have BK218 := n1_
  have HB := n2_
  clear n0_ n1_ n2_
  (try clear hb)
  (try clear hb2)
  (try clear hk)
  (try clear hi)
  refine hK.out _ _ ⟨(blk_cell BK217.out 0).trans rfl, (blk_cell BK217.out 1).trans rfl, (blk_cell BK217.out 2).trans rfl, (blk_cell BK217.out 3).trans rfl, (blk_cell BK217.out 4).trans rfl, (blk_cell BK217.out 5).trans rfl, (blk_cell BK217.out 6).trans rfl, (blk_cell BK217.out 7).trans rfl, (blk_cell BK217.out 8).trans rfl, (blk_cell BK218.out 0).trans rfl, (blk_cell BK218.out 1).trans rfl, (blk_cell BK218.out 2).trans rfl, (blk_cell BK218.out 3).trans rfl⟩ (fun hHeld => ?_)
  clear hK K
  refine norm_ (a' := ?_) ?_ ?_
  rotate_left
  · show Act.put _ (some 10) _ = _
    simp only [Act.put, List.setIfInBounds_toArray, List.set_cons_zero, List.set_cons_succ, i64_w, i32_w]
    rfl
  refine one_ (i := 6) (N := some 13) #[true, true, true, true, true, true, true, false] rfl rfl (one_of HT_.out (by kernel_rfl)) (by decide) (fun K hK => ?_)
  refine goes_ Try.func58 (by kernel_rfl) rfl #[.int .i64 t219, .int .i64 a1_0] (by rfl) rfl rfl (by (try simp only [List.map_toArray, List.map_cons, List.map_nil]); first | done | rfl | (simp only [List.length_drop, List.length_take]; rfl)) ?_
  with_reducible refine (fix_Util.calls t219 a1_0 t220 _ A5.out).mono ?_
  rintro e w10 ⟨rfl, hb⟩
  refine ⟨_, rfl, ?_⟩
  have n0_ := Aside0.mk (blk_below (g := gb217) (o := .cells #[.slice A0_0 l0_0.length c0_0, .slice A0_1 l0_1.length c0_1, .slice A0_2 l0_2.length c0_2, .int .i64 a0_3, .int .i64 a0_4, .int .i64 a0_5, .int .i64 a0_6, .int .i64 a0_7, .int .i64 a0_8] 26 (0, 0)) (by (with_reducible repeat (first | refine blk_drewN ?_ _ | refine blk_drew ?_ | refine blk_alloc ?_ _)); exact BK217.out) hb)
  have n1_ := Aside0.mk (blk_below (g := gb218) (o := .cells #[.int .i64 a1_0, .int .i64 a1_1, .slice A1_2 l1_2.length c1_2, .slice A1_3 l1_3.length c1_3] 36 (0, 0)) (by (with_reducible repeat (first | refine blk_drewN ?_ _ | refine blk_drew ?_ | refine blk_alloc ?_ _)); exact BK218.out) hb)
  have n2_ := Aside0.mk (below_step (by repeat (first | (with_reducible first | exact HB.out | apply below_alloc | apply pw_below_drewN | apply below_drew1 | refine below_set ?_ GE217.out | refine below_set ?_ GE218.out) | exact HB.out)) hb)
  clear BK217
  clear BK218
  clear HB
  have BK217 := n0_
  have BK218 := n1_
  have HB := n2_
  clear n0_ n1_ n2_
  (try clear hb)
  (try clear hb2)
  (try clear hk)
  (try clear hi)
  refine hK.out _ _ ⟨(blk_cell BK217.out 0).trans rfl, (blk_cell BK217.out 1).trans rfl, (blk_cell BK217.out 2).trans rfl, (blk_cell BK217.out 3).trans rfl, (blk_cell BK217.out 4).trans rfl, (blk_cell BK217.out 5).trans rfl, (blk_cell BK217.out 6).trans rfl, (blk_cell BK217.out 7).trans rfl, (blk_cell BK217.out 8).trans rfl, (blk_cell BK218.out 0).trans rfl, (blk_cell BK218.out 1).trans rfl, (blk_cell BK218.out 2).trans rfl, (blk_cell BK218.out 3).trans rfl⟩ (fun hHeld => ?_)
  clear hK K
  refine norm_ (a' := ?_) ?_ ?_
  rotate_left
  · show Act.put _ (some 13) _ = _
    simp only [Act.put, List.setIfInBounds_toArray, List.set_cons_zero, List.set_cons_succ, i64_w, i32_w]
    rfl
  refine pure_ (i := 7) (N := some 6) (v := ?_) (a' := ?_) #[true, true, true, true, true, true, true, true] rfl rfl (any_of HT_.out (by kernel_rfl)) (fun _ _ _ h => h) (Or.inl ⟨by rfl, ?_⟩) ?_ ?_
  rotate_left
  · intro w'
    go_simp
    with_reducible rfl
  rotate_left
  · simp only [Act.put, List.setIfInBounds_toArray, List.set_cons_zero, List.set_cons_succ, i64_w, i32_w]
    rfl
  refine done_ (done_of HT_.out (by kernel_rfl)) ?_
  try go_wp2
  go_ret
  exact ⟨by first | rfl | (simp [errW_none, errW_some] <;> rfl) | (simp [*, errW_none, errW_some] <;> rfl), by repeat (first | (with_reducible first | exact HB.out | apply below_alloc | apply pw_below_drewN | apply below_drew1 | refine below_set ?_ GE217.out | refine below_set ?_ GE218.out) | exact HB.out)⟩
end Go.Proofs.Ytchlbnlhjllcbaa.F
namespace Go.Proofs.Ytchlbnlhjllcbaa.Adm
open Go.RowKit Go.Proofs.Ytchlbnlhjllcbaa.F Go.Proofs.Ytchlbnlhjllcbaa.Tbl Go.Proofs.YtchlbnlhjllcbaaW.PrintWords Go.Proofs.YtchlbnlhjllcbaaW.PrintLast
theorem w64 {n : Int} (h0 : -9223372036854775808 ≤ n) (h1 : n ≤ 9223372036854775807) : wrap64 n = n := by unfold wrap64; omega
/-- so many quanta as a part of a period, rounded up -/
def part (c t : Int) : Int := (c * 4294967296 + t - 1) / t
/-- a number brought into the range of quanta -/
def quanta (c : Int) : Int := if c < 0 then 0 else if 536870912 < c then 536870912 else c
theorem quanta_bd (c : Int) : 0 ≤ quanta c ∧ quanta c ≤ 536870912 := by unfold quanta; split <;> (try split) <;> omega
theorem quanta_id {c : Int} (h0 : 0 ≤ c) (h1 : c ≤ 536870912) : quanta c = c := by unfold quanta; rw [if_neg (by omega), if_neg (by omega)]
theorem ceil_eq {n t : Int} (ht : 1 ≤ t) : n / t + (if n % t = 0 then 0 else 1) = (n + t - 1) / t := by
  have h1 := Int.emod_nonneg n (show t ≠ 0 by omega)
  have h2 := Int.emod_lt_of_pos n (show 0 < t by omega)
  have h3 : n = t * (n / t) + n % t := (Int.mul_ediv_add_emod n t).symm
  have h4 : (n + t - 1) / t = (n % t + t - 1) / t + n / t := by
    have : n + t - 1 = (n % t + t - 1) + t * (n / t) := by omega
    rw [this, Int.add_mul_ediv_left _ _ (show t ≠ 0 by omega)]
  rw [h4]
  by_cases hz : n % t = 0
  · have e : (0 + t - 1) / t = 0 := Int.ediv_eq_zero_of_lt (by omega) (by omega)
    rw [if_pos hz, hz, e]; omega
  · have e : (n % t - 1) / t = 0 := Int.ediv_eq_zero_of_lt (by omega) (by omega)
    rw [if_neg hz]
    have : n % t + t - 1 = (n % t - 1) + t * 1 := by omega
    rw [this, Int.add_mul_ediv_left _ _ (show t ≠ 0 by omega), e]; omega
theorem part_lo (c t : Int) (ht : 1 ≤ t) : c * 4294967296 ≤ part c t * t := by
  unfold part
  have h1 := Int.emod_nonneg (c * 4294967296 + t - 1) (show t ≠ 0 by omega)
  have h2 := Int.emod_lt_of_pos (c * 4294967296 + t - 1) (show 0 < t by omega)
  have h3 := Int.mul_ediv_add_emod (c * 4294967296 + t - 1) t
  rw [Int.mul_comm] at h3
  omega
theorem part_nonneg {c t : Int} (hc : 0 ≤ c) (ht : 1 ≤ t) : 0 ≤ part c t := Int.ediv_nonneg (by omega) (by omega)
theorem part_le {c t : Int} (hc : 0 ≤ c) (ht : 1 ≤ t) : part c t ≤ c * 4294967296 := by
  unfold part
  apply Int.le_of_lt_add_one
  apply Int.ediv_lt_of_lt_mul (by omega)
  have : (c * 4294967296 + 1) * t = c * 4294967296 * t + t := by rw [Int.add_mul]; omega
  have h2 : c * 4294967296 * 1 ≤ c * 4294967296 * t := Int.mul_le_mul_of_nonneg_left ht (by omega)
  omega
theorem clamp_quanta (c : Int) : fix_clamp_int.f c 0 536870912 = some (quanta c) := by
  unfold fix_clamp_int.f quanta mn mx
  congr 1
  (repeat' split) <;> omega
theorem util_some {c t : Int} (ht : 1 ≤ t) : fix_Util.f c t = some (part (quanta c) t) := by
  have hb := quanta_bd c
  unfold fix_Util.f
  rw [if_neg (by omega), clamp_quanta, Option.bind_some, if_neg (by omega)]
  rw [w64 (n := quanta c * 4294967296) (by omega) (by omega)]
  have hn : 0 ≤ quanta c * 4294967296 := by omega
  rw [Int.tdiv_eq_ediv_of_nonneg hn, Int.tmod_eq_emod_of_nonneg hn]
  have h1 := Int.emod_nonneg (quanta c * 4294967296) (show t ≠ 0 by omega)
  have h5 := Int.ediv_nonneg hn (show 0 ≤ t by omega)
  have h6 := Int.ediv_le_self t hn
  have hm : mn (quanta c * 4294967296 % t) 1 = if quanta c * 4294967296 % t = 0 then 0 else 1 := by
    unfold mn; split <;> split <;> omega
  rw [w64 (n := quanta c * 4294967296 / t) (by omega) (by omega), hm]
  have hle : (if quanta c * 4294967296 % t = 0 then (0 : Int) else 1) ≤ 1 ∧ 0 ≤ (if quanta c * 4294967296 % t = 0 then (0 : Int) else 1) := by split <;> omega
  rw [w64 (by omega) (by omega), ceil_eq ht]
  rfl
def uses (t : S36) (s : Int) : Bool := decide (0 ≤ s ∧ s < t.f2.length ∧ 0 < rd t.f2 s)
def ceil (l : List S36) (s : Int) : Int := l.foldr (fun t m => if uses t s = true then mn t.f0 m else m) 1099511627776
/-- may a task of a greater period hold up one of a period by s? -/
def holds (l : List S36) (period : Int) (t : S36) (s : Int) : Prop := period < t.f0 ∧ uses t s = true ∧ ceil l s ≤ period
instance (l : List S36) (period : Int) (t : S36) (s : Int) : Decidable (holds l period t s) := by unfold holds; exact inferInstance
def step (l : List S36) (period : Int) (t : S36) (m s : Int) : Int := if holds l period t s then mx m (rd t.f2 s) else m
def inner (l : List S36) (period : Int) (t : S36) : Int → Nat → Nat → Int
  | m, _, 0 => m
  | m, j, d + 1 => inner l period t (step l period t m j) (j + 1) d
def outer (l : List S36) (period : Int) : Int → List S36 → Int
  | m, [] => m
  | m, t :: ts => outer l period (inner l period t m 0 t.f2.length) ts
def longest (l : List S36) (period : Int) : Int := outer l period 0 l
section
variable (l : List S36) (period : Int)
end
structure TaskOk (nd : Nat) (sems hor : Int) (t : S36) : Prop where
  period : 1 ≤ t.f0 ∧ t.f0 ≤ hor
  cycles : 1 ≤ t.f1 ∧ t.f1 ≤ 4096
  secs : (t.f2.length : Int) ≤ sems
  sec : ∀ i : Int, 0 ≤ i → i < t.f2.length → 0 ≤ rd t.f2 i ∧ rd t.f2 i ≤ t.f1
  dev : ∀ i : Int, 0 ≤ i → i < t.f3.length → 0 ≤ rd t.f3 i ∧ rd t.f3 i < nd
  rising : ∀ i : Int, 0 < i → i < t.f3.length → rd t.f3 (i - 1) < rd t.f3 i
structure Mach (l0 : List S58) (l1 : List S68) (l2 : List S71) (idle crit sw swE sems hor : Int) (l : List S36) : Prop where
  table : TableOk l0 l1 l2 idle crit sw swE sems hor
  few : l.length ≤ 64
  task : ∀ t ∈ l, TaskOk l2.length sems hor t
section
variable {l0 : List S58} {l1 : List S68} {l2 : List S71} {idle crit sw swE sems hor : Int} {l : List S36}
/-- the slowest level's quanta -/
def slow (l0 : List S58) (crit : Int) : Int := (rd_T58 l0 crit).f0
def block (l0 : List S58) (crit sw : Int) (l : List S36) (period : Int) : Int := longest l period * slow l0 crit + mx (slow l0 crit) sw
def most (l0 : List S58) (sw : Int) (level : Int) (t : S36) : Int := if 0 ≤ level ∧ level < l0.length then t.f1 * (rd_T58 l0 level).f0 + 2 * sw else 0
def partOf (l0 : List S58) (sw : Int) (level : Int) (t : S36) : Int := part (most l0 sw level t) t.f0
theorem head_of (h : TableOk l0 l1 l2 idle crit sw swE sems hor) : 1 ≤ (l0.length : Int) ∧ (l0.length : Int) ≤ 4 ∧ 0 ≤ crit ∧ crit < l0.length ∧ 0 ≤ sw ∧ sw ≤ 256 ∧ 0 ≤ sems ∧ sems ≤ 3 ∧ 1 ≤ hor ∧ hor ≤ 16384 := by
  have := h.head; unfold Head at this; omega
theorem level_bd (h : TableOk l0 l1 l2 idle crit sw swE sems hor) {n : Int} (h0 : 0 ≤ n) (h1 : n < l0.length) : 1 ≤ (rd_T58 l0 n).f0 ∧ (rd_T58 l0 n).f0 ≤ 256 := by
  have := (h.levels n h0 h1).1; omega
theorem most_bd (h : TableOk l0 l1 l2 idle crit sw swE sems hor) {t : S36} (ht : TaskOk l2.length sems hor t) (level : Int) : 0 ≤ most l0 sw level t ∧ most l0 sw level t ≤ 1049088 := by
  have c := head_of h
  unfold most
  split
  · rename_i hl
    have b := level_bd h hl.1 hl.2
    have y := ht.cycles
    have m1 : 0 ≤ t.f1 * (rd_T58 l0 level).f0 := Int.mul_nonneg (by omega) (by omega)
    have m2 : t.f1 * (rd_T58 l0 level).f0 ≤ 4096 * 256 := Int.mul_le_mul y.2 b.2 (by omega) (by omega)
    omega
  · omega
theorem partOf_bd (h : TableOk l0 l1 l2 idle crit sw swE sems hor) {t : S36} (ht : TaskOk l2.length sems hor t) (level : Int) : 0 ≤ partOf l0 sw level t ∧ partOf l0 sw level t ≤ 4505798650626048 := by
  have a := most_bd h ht level
  have b := part_nonneg a.1 ht.period.1
  have c := part_le a.1 ht.period.1
  unfold partOf; omega
theorem quanta_some (h : TableOk l0 l1 l2 idle crit sw swE sems hor) {t : S36} (ht : TaskOk l2.length sems hor t) (level : Int) : admit_Quanta.f l0 l1 l2 idle crit sw swE sems hor t.f0 t.f1 t.f2 t.f3 level = some (most l0 sw level t) := by
  have c := head_of h
  unfold admit_Quanta.f most
  by_cases h0 : level < 0
  · rw [if_pos h0, if_neg (by omega)]
  · by_cases h1 : level ≥ l0.length
    · rw [if_neg h0, if_pos h1, if_neg (by omega)]
    · rw [if_neg h0, if_neg h1, if_pos (by omega), if_pos (by omega), if_pos (by omega)]
      have b := level_bd h (show 0 ≤ level by omega) (show level < l0.length by omega)
      have y := ht.cycles
      have m1 : 0 ≤ t.f1 * (rd_T58 l0 level).f0 := Int.mul_nonneg (by omega) (by omega)
      have m2 : t.f1 * (rd_T58 l0 level).f0 ≤ 4096 * 256 := Int.mul_le_mul y.2 b.2 (by omega) (by omega)
      rw [w64 (n := t.f1 * (rd_T58 l0 level).f0) (by omega) (by omega), w64 (n := 2 * sw) (by omega) (by omega), w64 (by omega) (by omega)]
theorem part_some (h : TableOk l0 l1 l2 idle crit sw swE sems hor) {t : S36} (ht : TaskOk l2.length sems hor t) (level : Int) : admit_Part.f l0 l1 l2 idle crit sw swE sems hor t.f0 t.f1 t.f2 t.f3 level = some (partOf l0 sw level t) := by
  have a := most_bd h ht level
  unfold admit_Part.f
  rw [quanta_some h ht, Option.bind_some, util_some ht.period.1, quanta_id a.1 (by omega)]; rfl
end
end Go.Proofs.Ytchlbnlhjllcbaa.Adm
