/- Part 1 of the law's texts: what its row hangs on. -/
import Derived.Test.YtchlbnlhjllcbaaZIdl0
import Derived.Deep.Slices
import Derived.ChangeSame
import Derived.ChangeOld
import Derived.Carry
import Derived.Test.YtchlbnlhjllcbaaProg
import Derived.Below
import Derived.Deep.Draws
import Derived.Deep.AppendLies
import Derived.Maps.AppendAt
import Derived.OwnWalk
import Derived.Laws.BytesArg
import Derived.Laws.MakeOwn
import Derived.Laws.OwnMore
import Derived.Deep.OwnRows
import Derived.Tactics
import Derived.Lib.ConvBytes
import Derived.Laws.Slices
import Derived.WalkKit
import Derived.KernelRfl
import Derived.RowKit3
import Derived.Deep.LoopGhost
import Derived.Deep.QuietTactic
import Derived.BigQuiet
import Derived.WideLaws
import Derived.Deep.DeepCutAuto
import Derived.Deep.CutBlock
import Derived.Deep.RegionHeld3
import Derived.Laws.Rows
import Derived.Lib.AppendStr
import Derived.ArgAppend
import Derived.Laws.IdiomCopy
import Derived.OrdersHeld
import Derived.Laws.BitsLemmas
import Derived.RowKit
namespace Go.Proofs.Ytchlbnlhjllcbaa.Opn
open Go.RowKit Go.ChangeShapes Go.WideShapes Go.Deep Go.Proofs.YtchlbnlhjllcbaaW.PrintWords Go.Proofs.YtchlbnlhjllcbaaW.PrintLast
/-- What reads as data of type t has cells of the kind d, and is all right. -/
def Opens (P : Program) (t : TypeId) {α : Type} (d : Kd α) (ok : α → Prop) : Prop :=
  ∀ (H : Type) (enc : TypeId × Value → H) (w : World) (base : Nat) (spare : Nat → Bool) (held : Bool) (fuel : Nat) (cs : List Value) (x : DataW H × List MemPlace),
    DataW.trod enc P w base spare held fuel t cs = some x → ∃ a : α, d.K w a cs ∧ ok a
/-- Fields in line, from an offset on. -/
def OpensF (P : Program) (fs : List Field) (o : Nat) {α : Type} (d : Kd α) (ok : α → Prop) : Prop :=
  ∀ (H : Type) (enc : TypeId × Value → H) (w : World) (base : Nat) (spare : Nat → Bool) (held : Bool) (fuel : Nat) (cs : List Value),
    cs.length = o + d.sz → (∀ f ∈ fs, ∃ x, DataW.trod enc P w base spare held fuel f.type ((cs.drop f.offset).take (P.cellsOf f.type)) = some x) → ∃ a : α, d.K w a (cs.drop o) ∧ ok a
section
variable {P : Program} {t e : TypeId} {α β : Type}
theorem opens_int {k : IntKind} (ht : P.underlying t = some (.int k)) : Opens P t (Kd.int k) (fun n => (Lit.int k n).wf = true) := by
  intro H enc w base spare held fuel cs x h
  obtain ⟨n, rfl, _, hw⟩ := DataW.trod_int ht h
  exact ⟨n, rfl, hw⟩
theorem opens_bool (ht : P.underlying t = some .bool) : Opens P t Kd.bool (fun _ => True) := by
  intro H enc w base spare held fuel cs x h
  obtain ⟨b, rfl, _⟩ := DataW.trod_bool ht h
  exact ⟨b, rfl, trivial⟩
theorem opens_slice {d : Kd α} {ok : α → Prop} [Inhabited α] (ht : P.underlying t = some (.slice e)) (hc : P.cellsOf e = d.sz) (he : Opens P e d ok) :
    Opens P t (Kd.slice e d) (fun xs => ∀ x ∈ xs, ok x) := by
  intro H enc w base spare held fuel cs x h
  rcases open_slice ht h with ⟨rfl, _⟩ | ⟨a, len, cap, m, n, D, Pl, rfl, hb, hl, hm, hmm, rfl, hx⟩
  · exact ⟨[], ⟨none, 0, rfl, Nat.le_refl _, rfl, by simp, fun h => absurd h (Nat.lt_irrefl _)⟩, fun x hx => by cases hx⟩
  · have hlm : len ≤ m := by rw [hmm]; split <;> omega
    have each : ∀ i, i < len → ∃ v : α, (∃ cs', w.cells? base (a.add (i * P.cellsOf e)) (P.cellsOf e) = some cs' ∧ d.K w v cs') ∧ ok v := by
      intro i hi
      obtain ⟨cs', h1, h2⟩ := hx i (by omega)
      obtain ⟨v, hv, hok⟩ := he H enc w base spare held n cs' _ h2
      exact ⟨v, ⟨cs', h1, hv⟩, hok⟩
    obtain ⟨V, hV⟩ := choose_lt each
    refine ⟨(List.range len).map V, ⟨some a, cap, by simp, by simpa using hl, by simp, ?_, fun _ => ⟨a, rfl, ?_⟩⟩, ?_⟩
    · have : cap ≤ maxLen := hm
      unfold maxLen at this
      simp; omega
    · intro j p hj
      have hjl : j < len := by
        have := (List.getElem?_eq_some_iff.1 hj).1
        simpa using this
      have hp : p = V j := by
        rw [List.getElem?_map, List.getElem?_range hjl] at hj
        simpa using hj.symm
      subst hp
      obtain ⟨⟨cs', h1, h2⟩, _⟩ := hV j hjl
      obtain ⟨_, hlen, hcell⟩ := World.cells?_some h1
      refine ⟨cs', by rw [hlen, hc], h2, fun i u hu => ?_⟩
      have hi : i < P.cellsOf e := by
        have := (List.getElem?_eq_some_iff.1 hu).1
        omega
      have := hcell i hi
      rw [Go.Deep.add_add] at this
      rw [hc] at this
      rw [this, hu]
    · intro x hx
      obtain ⟨i, hi, rfl⟩ := List.mem_map.1 hx
      exact (hV i (List.mem_range.1 hi)).2
theorem opensF_one {f : Field} {o : Nat} {d : Kd α} {ok : α → Prop} (ho : f.offset = o) (hc : P.cellsOf f.type = d.sz) (h : Opens P f.type d ok) : OpensF P [f] o d ok := by
  intro H enc w base spare held fuel cs hl hx
  obtain ⟨x, hx⟩ := hx f (by simp)
  have e : (cs.drop f.offset).take (P.cellsOf f.type) = cs.drop o := by
    rw [ho, hc]; apply List.take_of_length_le; simp; omega
  rw [e] at hx
  exact h H enc w base spare held fuel _ x hx
theorem opensF_cons {f : Field} {fs : List Field} {o : Nat} {d : Kd α} {ok : α → Prop} {d' : Kd β} {ok' : β → Prop} (ho : f.offset = o) (hc : P.cellsOf f.type = d.sz) (h : Opens P f.type d ok)
    (hs : OpensF P fs (o + d.sz) d' ok') : OpensF P (f :: fs) o (Kd.pair d d') (fun x => ok x.1 ∧ ok' x.2) := by
  intro H enc w base spare held fuel cs hl hx
  have hl' : cs.length = o + d.sz + d'.sz := by
    have : (Kd.pair d d').sz = d.sz + d'.sz := rfl
    omega
  obtain ⟨b, hb, hob⟩ := hs H enc w base spare held fuel cs hl' (fun f' hf' => hx f' (List.mem_cons_of_mem _ hf'))
  obtain ⟨x, hx⟩ := hx f (by simp)
  rw [ho, hc] at hx
  obtain ⟨a, ha, hoa⟩ := h H enc w base spare held fuel _ x hx
  refine ⟨(a, b), ⟨(cs.drop o).take d.sz, cs.drop (o + d.sz), ?_, ha, hb⟩, hoa, hob⟩
  rw [← List.drop_drop, List.take_append_drop]
theorem opens_struct {fs : Array Field} {d : Kd α} {ok : α → Prop} (ht : P.underlying t = some (.struct fs)) (hc : P.cellsOf t = d.sz) (h : OpensF P fs.toList 0 d ok) : Opens P t d ok := by
  intro H enc w base spare held fuel cs x hx
  obtain ⟨xs, n, _, _, hl, hlen, hf⟩ := DataW.trod_struct ht hx
  have := h H enc w base spare held n cs (by rw [hl, hc]; omega) (fun f hfm => by
    obtain ⟨i, hi⟩ := List.getElem?_of_mem hfm
    have hi' : fs[i]? = some f := by simpa using hi
    have h1 := hf i f hi'
    have hil : i < xs.length := by
      rw [hlen]
      have := (List.getElem?_eq_some_iff.1 hi).1
      simpa using this
    rw [List.getElem?_eq_getElem hil] at h1
    exact ⟨_, h1⟩)
  simpa using this
theorem opens_iso {d : Kd α} {ok : α → Prop} {f : β → α} (g : α → β) (hfg : ∀ x, f (g x) = x) (h : Opens P t d ok) : Opens P t (Kd.iso d f) (fun x => ok (f x)) := by
  intro H enc w base spare held fuel cs x hx
  obtain ⟨a, ha, hok⟩ := h H enc w base spare held fuel cs x hx
  refine ⟨g a, ?_, by show ok (f (g a)); rw [hfg]; exact hok⟩
  show d.K w (f (g a)) cs
  rw [hfg]; exact ha
theorem opens_imp {d : Kd α} {ok ok' : α → Prop} (h : Opens P t d ok) (hi : ∀ x, ok x → ok' x) : Opens P t d ok' := by
  intro H enc w base spare held fuel cs x hx
  obtain ⟨a, ha, hok⟩ := h H enc w base spare held fuel cs x hx
  exact ⟨a, ha, hi _ hok⟩
/-- An argument: its cells. -/
theorem Opens.get {d : Kd α} {ok : α → Prop} (h : Opens P t d ok) {H : Type} {enc : TypeId × Value → H} {w : World} {base : Nat} {spare : Nat → Bool} {held : Bool} {v : Value} {x : DataW H} {ps : List MemPlace}
    (hv : DataW.Trod enc P w base spare held t v x ps) : ∃ a : α, d.K w a v.cells.toList ∧ ok a := by
  obtain ⟨fuel, hf⟩ := hv
  exact h H enc w base spare held fuel _ _ hf
/-- An argument that is a struct is its cells. -/
theorem agg_of {fs : Array Field} {w : World} {r : Reach} {base : Nat} {v : Value} (ht : P.underlying t = some (.struct fs)) (h : Value.okWide P w r base t v) : ∃ cs : List Value, v = .agg cs.toArray ∧ v.cells.toList = cs := by
  unfold Value.okWide at h
  rw [ht] at h
  obtain ⟨cs, rfl, _, _⟩ := h
  exact ⟨cs.toList, by simp, by simp [Value.cells]⟩
end
end Go.Proofs.Ytchlbnlhjllcbaa.Opn
namespace Go.Proofs.Ytchlbnlhjllcbaa.F
open Go.RowKit Go.Proofs.YtchlbnlhjllcbaaW.PrintWords Go.Proofs.YtchlbnlhjllcbaaW.PrintLast Go.Proofs.YtchlbnlhjllcbaaW.PrintMore
attribute [local go_sem] max2_int min2_int max_two min_two max_three min_three max_four min_four   -- for this text's walks alone
set_option linter.unusedVariables false
set_option linter.unusedSimpArgs false
def errW : Option Int → Value
  | none => .nilIface
  | some c => .iface 0 (.int .i64 c)
theorem errW_none : errW none = .nilIface := rfl
theorem errW_some (c : Int) : errW (some c) = .iface 0 (.int .i64 c) := rfl
theorem info3 : (Try.prog.info? 3).map (fun i => (i.zero, i.size, i.bytes)) = some (some (.int .i64 0), 1, 8) := by kernel_rfl
theorem info36 : (Try.prog.info? 36).map (fun i => (i.zero, i.size, i.bytes)) = some (some (.agg #[(.int .i64 0), (.int .i64 0), (.slice none 0 0), (.slice none 0 0)]), 4, 64) := by kernel_rfl
theorem info73 : (Try.prog.info? 73).map (fun i => (i.zero, i.size, i.bytes)) = some (some (.agg #[(.int .i64 0), (.int .i64 0), (.int .i64 0)]), 3, 24) := by kernel_rfl
structure S38 where
  f0 : Int
  f1 : Int
  f2 : Int
  f3 : Int
  f4 : Int
  f5 : Bool
def z38 : S38 := ⟨(0 : Int), (0 : Int), (0 : Int), (0 : Int), (0 : Int), false⟩
def k38 : Kd S38 := Kd.iso (Kd.pair (Kd.int .i64) (Kd.pair (Kd.int .i64) (Kd.pair (Kd.int .i64) (Kd.pair (Kd.int .i64) (Kd.pair (Kd.int .i64) Kd.bool))))) (fun x : S38 => (x.f0, x.f1, x.f2, x.f3, x.f4, x.f5))
theorem k38_open {w : World} {x : S38} {cs : List Value} (h : k38.K w x cs) : cs = [.int .i64 x.f0, .int .i64 x.f1, .int .i64 x.f2, .int .i64 x.f3, .int .i64 x.f4, .bool x.f5] := by
  obtain ⟨_, _, rfl, rfl, ⟨_, _, rfl, rfl, ⟨_, _, rfl, rfl, ⟨_, _, rfl, rfl, ⟨_, _, rfl, rfl, rfl⟩⟩⟩⟩⟩ := h
  exact rfl
def rd_T38 (xs : List S38) (i : Int) : S38 := xs.getD i.toNat z38
theorem at_T38 {w : World} {A : Option Addr} {n : Nat} {xs : List S38} (h : Kd.C k38 w A n xs) (i : Int) (h0 : 0 ≤ i) (h1 : i < n) : ∃ ad , A = some ad ∧ w.cell? (ad.add (i.toNat * 6)) = some (.int .i64 (rd_T38 xs i).f0) ∧ w.cell? ⟨(ad.add (i.toNat * 6)).block, (ad.add (i.toNat * 6)).off + 1, none⟩ = some (.int .i64 (rd_T38 xs i).f1) ∧ w.cell? ⟨(ad.add (i.toNat * 6)).block, (ad.add (i.toNat * 6)).off + 2, none⟩ = some (.int .i64 (rd_T38 xs i).f2) ∧ w.cell? ⟨(ad.add (i.toNat * 6)).block, (ad.add (i.toNat * 6)).off + 3, none⟩ = some (.int .i64 (rd_T38 xs i).f3) ∧ w.cell? ⟨(ad.add (i.toNat * 6)).block, (ad.add (i.toNat * 6)).off + 4, none⟩ = some (.int .i64 (rd_T38 xs i).f4) ∧ w.cell? ⟨(ad.add (i.toNat * 6)).block, (ad.add (i.toNat * 6)).off + 5, none⟩ = some (.bool (rd_T38 xs i).f5) := by
  obtain ⟨ad, c, e, _, hK, hc0⟩ := Kd.C_get h z38 i h0 h1
  have hc : ∀ j u, c[j]? = some u → w.cell? (ad.add (i.toNat * 6 + j)) = some u := hc0
  obtain rfl := k38_open hK
  exact ⟨ad, e, hc 0 _ rfl, by rw [← add_field _ _ 1 (by omega)]; exact hc 1 _ rfl, by rw [← add_field _ _ 2 (by omega)]; exact hc 2 _ rfl, by rw [← add_field _ _ 3 (by omega)]; exact hc 3 _ rfl, by rw [← add_field _ _ 4 (by omega)]; exact hc 4 _ rfl, by rw [← add_field _ _ 5 (by omega)]; exact hc 5 _ rfl⟩
structure S58 where
  f0 : Int
  f1 : Int
def z58 : S58 := ⟨(0 : Int), (0 : Int)⟩
def k58 : Kd S58 := Kd.iso (Kd.pair (Kd.int .i64) (Kd.int .i64)) (fun x : S58 => (x.f0, x.f1))
theorem k58_open {w : World} {x : S58} {cs : List Value} (h : k58.K w x cs) : cs = [.int .i64 x.f0, .int .i64 x.f1] := by
  obtain ⟨_, _, rfl, rfl, rfl⟩ := h
  exact rfl
theorem k58_mkM (w : World) (base : Nat) (ok : Nat → Prop) (x : S58)  : k58.M w base ok x [.int .i64 x.f0, .int .i64 x.f1] := ⟨[.int .i64 x.f0], [.int .i64 x.f1], rfl, rfl, rfl⟩
def rd_T58 (xs : List S58) (i : Int) : S58 := xs.getD i.toNat z58
theorem at_T58 {w : World} {A : Option Addr} {n : Nat} {xs : List S58} (h : Kd.C k58 w A n xs) (i : Int) (h0 : 0 ≤ i) (h1 : i < n) : ∃ ad , A = some ad ∧ w.cell? (ad.add (i.toNat * 2)) = some (.int .i64 (rd_T58 xs i).f0) ∧ w.cell? ⟨(ad.add (i.toNat * 2)).block, (ad.add (i.toNat * 2)).off + 1, none⟩ = some (.int .i64 (rd_T58 xs i).f1) := by
  obtain ⟨ad, c, e, _, hK, hc0⟩ := Kd.C_get h z58 i h0 h1
  have hc : ∀ j u, c[j]? = some u → w.cell? (ad.add (i.toNat * 2 + j)) = some u := hc0
  obtain rfl := k58_open hK
  exact ⟨ad, e, hc 0 _ rfl, by rw [← add_field _ _ 1 (by omega)]; exact hc 1 _ rfl⟩
structure S68 where
  f0 : Int
  f1 : Int
  f2 : Int
  f3 : Int
  f4 : Int
  f5 : Int
def z68 : S68 := ⟨(0 : Int), (0 : Int), (0 : Int), (0 : Int), (0 : Int), (0 : Int)⟩
def k68 : Kd S68 := Kd.iso (Kd.pair (Kd.int .i64) (Kd.pair (Kd.int .i64) (Kd.pair (Kd.int .i64) (Kd.pair (Kd.int .i64) (Kd.pair (Kd.int .i64) (Kd.int .i64)))))) (fun x : S68 => (x.f0, x.f1, x.f2, x.f3, x.f4, x.f5))
theorem k68_open {w : World} {x : S68} {cs : List Value} (h : k68.K w x cs) : cs = [.int .i64 x.f0, .int .i64 x.f1, .int .i64 x.f2, .int .i64 x.f3, .int .i64 x.f4, .int .i64 x.f5] := by
  obtain ⟨_, _, rfl, rfl, ⟨_, _, rfl, rfl, ⟨_, _, rfl, rfl, ⟨_, _, rfl, rfl, ⟨_, _, rfl, rfl, rfl⟩⟩⟩⟩⟩ := h
  exact rfl
def rd_T68 (xs : List S68) (i : Int) : S68 := xs.getD i.toNat z68
theorem at_T68 {w : World} {A : Option Addr} {n : Nat} {xs : List S68} (h : Kd.C k68 w A n xs) (i : Int) (h0 : 0 ≤ i) (h1 : i < n) : ∃ ad , A = some ad ∧ w.cell? (ad.add (i.toNat * 6)) = some (.int .i64 (rd_T68 xs i).f0) ∧ w.cell? ⟨(ad.add (i.toNat * 6)).block, (ad.add (i.toNat * 6)).off + 1, none⟩ = some (.int .i64 (rd_T68 xs i).f1) ∧ w.cell? ⟨(ad.add (i.toNat * 6)).block, (ad.add (i.toNat * 6)).off + 2, none⟩ = some (.int .i64 (rd_T68 xs i).f2) ∧ w.cell? ⟨(ad.add (i.toNat * 6)).block, (ad.add (i.toNat * 6)).off + 3, none⟩ = some (.int .i64 (rd_T68 xs i).f3) ∧ w.cell? ⟨(ad.add (i.toNat * 6)).block, (ad.add (i.toNat * 6)).off + 4, none⟩ = some (.int .i64 (rd_T68 xs i).f4) ∧ w.cell? ⟨(ad.add (i.toNat * 6)).block, (ad.add (i.toNat * 6)).off + 5, none⟩ = some (.int .i64 (rd_T68 xs i).f5) := by
  obtain ⟨ad, c, e, _, hK, hc0⟩ := Kd.C_get h z68 i h0 h1
  have hc : ∀ j u, c[j]? = some u → w.cell? (ad.add (i.toNat * 6 + j)) = some u := hc0
  obtain rfl := k68_open hK
  exact ⟨ad, e, hc 0 _ rfl, by rw [← add_field _ _ 1 (by omega)]; exact hc 1 _ rfl, by rw [← add_field _ _ 2 (by omega)]; exact hc 2 _ rfl, by rw [← add_field _ _ 3 (by omega)]; exact hc 3 _ rfl, by rw [← add_field _ _ 4 (by omega)]; exact hc 4 _ rfl, by rw [← add_field _ _ 5 (by omega)]; exact hc 5 _ rfl⟩
structure S71 where
  f0 : Int
  f1 : Int
  f2 : Int
  f3 : Int
  f4 : Int
  f5 : Int
  f6 : Int
def z71 : S71 := ⟨(0 : Int), (0 : Int), (0 : Int), (0 : Int), (0 : Int), (0 : Int), (0 : Int)⟩
def k71 : Kd S71 := Kd.iso (Kd.pair (Kd.int .i64) (Kd.pair (Kd.int .i64) (Kd.pair (Kd.int .i64) (Kd.pair (Kd.int .i64) (Kd.pair (Kd.int .i64) (Kd.pair (Kd.int .i64) (Kd.int .i64))))))) (fun x : S71 => (x.f0, x.f1, x.f2, x.f3, x.f4, x.f5, x.f6))
theorem k71_open {w : World} {x : S71} {cs : List Value} (h : k71.K w x cs) : cs = [.int .i64 x.f0, .int .i64 x.f1, .int .i64 x.f2, .int .i64 x.f3, .int .i64 x.f4, .int .i64 x.f5, .int .i64 x.f6] := by
  obtain ⟨_, _, rfl, rfl, ⟨_, _, rfl, rfl, ⟨_, _, rfl, rfl, ⟨_, _, rfl, rfl, ⟨_, _, rfl, rfl, ⟨_, _, rfl, rfl, rfl⟩⟩⟩⟩⟩⟩ := h
  exact rfl
def rd_T71 (xs : List S71) (i : Int) : S71 := xs.getD i.toNat z71
theorem at_T71 {w : World} {A : Option Addr} {n : Nat} {xs : List S71} (h : Kd.C k71 w A n xs) (i : Int) (h0 : 0 ≤ i) (h1 : i < n) : ∃ ad , A = some ad ∧ w.cell? (ad.add (i.toNat * 7)) = some (.int .i64 (rd_T71 xs i).f0) ∧ w.cell? ⟨(ad.add (i.toNat * 7)).block, (ad.add (i.toNat * 7)).off + 1, none⟩ = some (.int .i64 (rd_T71 xs i).f1) ∧ w.cell? ⟨(ad.add (i.toNat * 7)).block, (ad.add (i.toNat * 7)).off + 2, none⟩ = some (.int .i64 (rd_T71 xs i).f2) ∧ w.cell? ⟨(ad.add (i.toNat * 7)).block, (ad.add (i.toNat * 7)).off + 3, none⟩ = some (.int .i64 (rd_T71 xs i).f3) ∧ w.cell? ⟨(ad.add (i.toNat * 7)).block, (ad.add (i.toNat * 7)).off + 4, none⟩ = some (.int .i64 (rd_T71 xs i).f4) ∧ w.cell? ⟨(ad.add (i.toNat * 7)).block, (ad.add (i.toNat * 7)).off + 5, none⟩ = some (.int .i64 (rd_T71 xs i).f5) ∧ w.cell? ⟨(ad.add (i.toNat * 7)).block, (ad.add (i.toNat * 7)).off + 6, none⟩ = some (.int .i64 (rd_T71 xs i).f6) := by
  obtain ⟨ad, c, e, _, hK, hc0⟩ := Kd.C_get h z71 i h0 h1
  have hc : ∀ j u, c[j]? = some u → w.cell? (ad.add (i.toNat * 7 + j)) = some u := hc0
  obtain rfl := k71_open hK
  exact ⟨ad, e, hc 0 _ rfl, by rw [← add_field _ _ 1 (by omega)]; exact hc 1 _ rfl, by rw [← add_field _ _ 2 (by omega)]; exact hc 2 _ rfl, by rw [← add_field _ _ 3 (by omega)]; exact hc 3 _ rfl, by rw [← add_field _ _ 4 (by omega)]; exact hc 4 _ rfl, by rw [← add_field _ _ 5 (by omega)]; exact hc 5 _ rfl, by rw [← add_field _ _ 6 (by omega)]; exact hc 6 _ rfl⟩
structure S36 where
  f0 : Int
  f1 : Int
  f2 : (List Int)
  f3 : (List Int)
def z36 : S36 := ⟨(0 : Int), (0 : Int), ([] : List Int), ([] : List Int)⟩
def k36 : Kd S36 := Kd.iso (Kd.pair (Kd.int .i64) (Kd.pair (Kd.int .i64) (Kd.pair (Kd.slice 3 (Kd.int .i64)) (Kd.slice 3 (Kd.int .i64))))) (fun x : S36 => (x.f0, x.f1, x.f2, x.f3))
theorem k36_open {w : World} {x : S36} {cs : List Value} (h : k36.K w x cs) : ∃ A2 c2 A3 c3, cs = [.int .i64 x.f0, .int .i64 x.f1, .slice A2 x.f2.length c2, .slice A3 x.f3.length c3] ∧ x.f2.length ≤ c2 ∧ (Kd.int .i64).C w A2 x.f2.length x.f2 ∧ x.f3.length ≤ c3 ∧ (Kd.int .i64).C w A3 x.f3.length x.f3 := by
  obtain ⟨_, _, rfl, rfl, ⟨_, _, rfl, rfl, ⟨_, _, rfl, ⟨A2, c2, rfl, l2, g2⟩, ⟨A3, c3, rfl, l3, g3⟩⟩⟩⟩ := h
  exact ⟨A2, c2, A3, c3, rfl, l2, g2, l3, g3⟩
theorem k36_mkM (w : World) (base : Nat) (ok : Nat → Prop) (x : S36) {v2 : Value} (g2 : (Kd.int .i64).R 3 w base ok v2 x.f2) {v3 : Value} (g3 : (Kd.int .i64).R 3 w base ok v3 x.f3) : k36.M w base ok x [.int .i64 x.f0, .int .i64 x.f1, v2, v3] := ⟨[.int .i64 x.f0], [.int .i64 x.f1, v2, v3], rfl, rfl, ⟨[.int .i64 x.f1], [v2, v3], rfl, rfl, ⟨[v2], [v3], rfl, ⟨v2, rfl, g2⟩, ⟨v3, rfl, g3⟩⟩⟩⟩
def rd_T36 (xs : List S36) (i : Int) : S36 := xs.getD i.toNat z36
theorem at_T36 {w : World} {A : Option Addr} {n : Nat} {xs : List S36} (h : Kd.C k36 w A n xs) (i : Int) (h0 : 0 ≤ i) (h1 : i < n) : ∃ ad A2 c2 A3 c3, A = some ad ∧ w.cell? (ad.add (i.toNat * 4)) = some (.int .i64 (rd_T36 xs i).f0) ∧ w.cell? ⟨(ad.add (i.toNat * 4)).block, (ad.add (i.toNat * 4)).off + 1, none⟩ = some (.int .i64 (rd_T36 xs i).f1) ∧ w.cell? ⟨(ad.add (i.toNat * 4)).block, (ad.add (i.toNat * 4)).off + 2, none⟩ = some (.slice A2 (rd_T36 xs i).f2.length c2) ∧ w.cell? ⟨(ad.add (i.toNat * 4)).block, (ad.add (i.toNat * 4)).off + 3, none⟩ = some (.slice A3 (rd_T36 xs i).f3.length c3) ∧ (rd_T36 xs i).f2.length ≤ c2 ∧ (Kd.int .i64).C w A2 (rd_T36 xs i).f2.length (rd_T36 xs i).f2 ∧ (rd_T36 xs i).f3.length ≤ c3 ∧ (Kd.int .i64).C w A3 (rd_T36 xs i).f3.length (rd_T36 xs i).f3 := by
  obtain ⟨ad, c, e, _, hK, hc0⟩ := Kd.C_get h z36 i h0 h1
  have hc : ∀ j u, c[j]? = some u → w.cell? (ad.add (i.toNat * 4 + j)) = some u := hc0
  obtain ⟨A2, c2, A3, c3, rfl, l2, g2, l3, g3⟩ := k36_open hK
  exact ⟨ad, A2, c2, A3, c3, e, hc 0 _ rfl, by rw [← add_field _ _ 1 (by omega)]; exact hc 1 _ rfl, by rw [← add_field _ _ 2 (by omega)]; exact hc 2 _ rfl, by rw [← add_field _ _ 3 (by omega)]; exact hc 3 _ rfl, l2, g2, l3, g3⟩
structure S56 where
  f0 : Int
  f1 : Int
  f2 : Int
def z56 : S56 := ⟨(0 : Int), (0 : Int), (0 : Int)⟩
def k56 : Kd S56 := Kd.iso (Kd.pair (Kd.int .i64) (Kd.pair (Kd.int .i64) (Kd.int .i64))) (fun x : S56 => (x.f0, x.f1, x.f2))
theorem k56_open {w : World} {x : S56} {cs : List Value} (h : k56.K w x cs) : cs = [.int .i64 x.f0, .int .i64 x.f1, .int .i64 x.f2] := by
  obtain ⟨_, _, rfl, rfl, ⟨_, _, rfl, rfl, rfl⟩⟩ := h
  exact rfl
def rd_T56 (xs : List S56) (i : Int) : S56 := xs.getD i.toNat z56
theorem at_T56 {w : World} {A : Option Addr} {n : Nat} {xs : List S56} (h : Kd.C k56 w A n xs) (i : Int) (h0 : 0 ≤ i) (h1 : i < n) : ∃ ad , A = some ad ∧ w.cell? (ad.add (i.toNat * 3)) = some (.int .i64 (rd_T56 xs i).f0) ∧ w.cell? ⟨(ad.add (i.toNat * 3)).block, (ad.add (i.toNat * 3)).off + 1, none⟩ = some (.int .i64 (rd_T56 xs i).f1) ∧ w.cell? ⟨(ad.add (i.toNat * 3)).block, (ad.add (i.toNat * 3)).off + 2, none⟩ = some (.int .i64 (rd_T56 xs i).f2) := by
  obtain ⟨ad, c, e, _, hK, hc0⟩ := Kd.C_get h z56 i h0 h1
  have hc : ∀ j u, c[j]? = some u → w.cell? (ad.add (i.toNat * 3 + j)) = some u := hc0
  obtain rfl := k56_open hK
  exact ⟨ad, e, hc 0 _ rfl, by rw [← add_field _ _ 1 (by omega)]; exact hc 1 _ rfl, by rw [← add_field _ _ 2 (by omega)]; exact hc 2 _ rfl⟩
structure S73 where
  f0 : Int
  f1 : Int
  f2 : Int
def k73 : Kd S73 := Kd.iso (Kd.pair (Kd.int .i64) (Kd.pair (Kd.int .i64) (Kd.int .i64))) (fun x : S73 => (x.f0, x.f1, x.f2))
theorem k73_mkM (w : World) (base : Nat) (ok : Nat → Prop) (x : S73)  : k73.M w base ok x [.int .i64 x.f0, .int .i64 x.f1, .int .i64 x.f2] := ⟨[.int .i64 x.f0], [.int .i64 x.f1, .int .i64 x.f2], rfl, rfl, ⟨[.int .i64 x.f1], [.int .i64 x.f2], rfl, rfl, rfl⟩⟩
end Go.Proofs.Ytchlbnlhjllcbaa.F
namespace Go.Proofs.Ytchlbnlhjllcbaa.Opn
open Go.RowKit Go.ChangeShapes Go.WideShapes Go.Deep Go.Proofs.YtchlbnlhjllcbaaW.PrintWords Go.Proofs.YtchlbnlhjllcbaaW.PrintLast Go.Proofs.Ytchlbnlhjllcbaa.F
instance : Inhabited S58 := ⟨z58⟩
instance : Inhabited S68 := ⟨z68⟩
instance : Inhabited S71 := ⟨z71⟩
theorem oInt : Opens Try.prog 3 (Kd.int .i64) (fun n => (Lit.int .i64 n).wf = true) := opens_int Try.underlying3
theorem oAny : Opens Try.prog 3 (Kd.int .i64) (fun _ => True) := opens_imp oInt (fun _ _ => trivial)
theorem oLevel : Opens Try.prog 58 k58 (fun _ => True) :=
  opens_imp (opens_iso (f := fun x : S58 => (x.f0, x.f1)) (fun x => ⟨x.1, x.2⟩) (fun _ => rfl) (opens_struct Try.underlying58 (by kernel_rfl) (opensF_cons rfl (by kernel_rfl) oAny (opensF_one rfl (by kernel_rfl) oAny)))) (fun _ _ => trivial)
theorem oSleep : Opens Try.prog 68 k68 (fun _ => True) :=
  opens_imp (opens_iso (f := fun x : S68 => (x.f0, x.f1, x.f2, x.f3, x.f4, x.f5)) (fun x => ⟨x.1, x.2.1, x.2.2.1, x.2.2.2.1, x.2.2.2.2.1, x.2.2.2.2.2⟩) (fun _ => rfl) (opens_struct Try.underlying68 (by kernel_rfl)
    (opensF_cons rfl (by kernel_rfl) oAny (opensF_cons rfl (by kernel_rfl) oAny (opensF_cons rfl (by kernel_rfl) oAny (opensF_cons rfl (by kernel_rfl) oAny (opensF_cons rfl (by kernel_rfl) oAny (opensF_one rfl (by kernel_rfl) oAny)))))))) (fun _ _ => trivial)
theorem oDevice : Opens Try.prog 71 k71 (fun _ => True) :=
  opens_imp (opens_iso (f := fun x : S71 => (x.f0, x.f1, x.f2, x.f3, x.f4, x.f5, x.f6)) (fun x => ⟨x.1, x.2.1, x.2.2.1, x.2.2.2.1, x.2.2.2.2.1, x.2.2.2.2.2.1, x.2.2.2.2.2.2⟩) (fun _ => rfl) (opens_struct Try.underlying71 (by kernel_rfl)
    (opensF_cons rfl (by kernel_rfl) oAny (opensF_cons rfl (by kernel_rfl) oAny (opensF_cons rfl (by kernel_rfl) oAny (opensF_cons rfl (by kernel_rfl) oAny (opensF_cons rfl (by kernel_rfl) oAny (opensF_cons rfl (by kernel_rfl) oAny (opensF_one rfl (by kernel_rfl) oAny))))))))) (fun _ _ => trivial)
abbrev Plat := List S58 × List S68 × List S71 × Int × Int × Int × Int × Int × Int
def kPlat : Kd Plat := Kd.pair (Kd.slice 58 k58) (Kd.pair (Kd.slice 68 k68) (Kd.pair (Kd.slice 71 k71) (Kd.pair (Kd.int .i64) (Kd.pair (Kd.int .i64) (Kd.pair (Kd.int .i64) (Kd.pair (Kd.int .i64) (Kd.pair (Kd.int .i64) (Kd.int .i64))))))))
theorem oPlat : Opens Try.prog 26 kPlat (fun _ => True) :=
  opens_imp (opens_struct (d := kPlat) Try.underlying26 (by kernel_rfl)
    (opensF_cons rfl (by kernel_rfl) (opens_slice Try.underlying22 (by kernel_rfl) oLevel) (opensF_cons rfl (by kernel_rfl) (opens_slice Try.underlying23 (by kernel_rfl) oSleep) (opensF_cons rfl (by kernel_rfl) (opens_slice Try.underlying24 (by kernel_rfl) oDevice)
    (opensF_cons rfl (by kernel_rfl) oAny (opensF_cons rfl (by kernel_rfl) oAny (opensF_cons rfl (by kernel_rfl) oAny (opensF_cons rfl (by kernel_rfl) oAny (opensF_cons rfl (by kernel_rfl) oAny (opensF_one rfl (by kernel_rfl) oAny)))))))))) (fun _ _ => trivial)
theorem plat_open {w : World} {x : Plat} {cs : List Value} (h : kPlat.K w x cs) : ∃ (A0 : Option Addr) (c0 : Nat) (A1 : Option Addr) (c1 : Nat) (A2 : Option Addr) (c2 : Nat),
    cs = [.slice A0 x.1.length c0, .slice A1 x.2.1.length c1, .slice A2 x.2.2.1.length c2, .int .i64 x.2.2.2.1, .int .i64 x.2.2.2.2.1, .int .i64 x.2.2.2.2.2.1, .int .i64 x.2.2.2.2.2.2.1, .int .i64 x.2.2.2.2.2.2.2.1, .int .i64 x.2.2.2.2.2.2.2.2] ∧
    (x.1.length ≤ c0 ∧ Kd.C k58 w A0 x.1.length x.1) ∧ (x.2.1.length ≤ c1 ∧ Kd.C k68 w A1 x.2.1.length x.2.1) ∧ (x.2.2.1.length ≤ c2 ∧ Kd.C k71 w A2 x.2.2.1.length x.2.2.1) := by
  obtain ⟨_, _, rfl, ⟨A0, c0, rfl, l0, h0⟩, _, _, rfl, ⟨A1, c1, rfl, l1, h1⟩, _, _, rfl, ⟨A2, c2, rfl, l2, h2⟩, _, _, rfl, e3, _, _, rfl, e4, _, _, rfl, e5, _, _, rfl, e6, _, _, rfl, e7, e8⟩ := h
  cases e3; cases e4; cases e5; cases e6; cases e7; cases e8
  exact ⟨A0, c0, A1, c1, A2, c2, rfl, ⟨l0, h0⟩, ⟨l1, h1⟩, ⟨l2, h2⟩⟩
end Go.Proofs.Ytchlbnlhjllcbaa.Opn
namespace Go.Proofs.Ytchlbnlhjllcbaa.Opn
open Go.RowKit Go.ChangeShapes Go.WideShapes Go.Deep Go.Proofs.Ytchlbnlhjllcbaa.F Go.Proofs.YtchlbnlhjllcbaaW.PrintWords Go.Proofs.YtchlbnlhjllcbaaW.PrintLast
instance : Inhabited S36 := ⟨z36⟩
instance : Inhabited S38 := ⟨z38⟩
instance : Inhabited S56 := ⟨z56⟩
theorem oTask : Opens Try.prog 36 k36 (fun _ => True) :=
  opens_imp (opens_iso (f := fun x : S36 => (x.f0, x.f1, x.f2, x.f3)) (fun x => ⟨x.1, x.2.1, x.2.2.1, x.2.2.2⟩) (fun _ => rfl) (opens_struct Try.underlying36 (by kernel_rfl)
    (opensF_cons rfl (by kernel_rfl) oAny (opensF_cons rfl (by kernel_rfl) oAny (opensF_cons rfl (by kernel_rfl) (opens_slice Try.underlying28 (by kernel_rfl) oAny) (opensF_one rfl (by kernel_rfl) (opens_slice Try.underlying28 (by kernel_rfl) oAny))))))) (fun _ _ => trivial)
theorem oTasks : Opens Try.prog 27 (Kd.slice 36 k36) (fun _ => True) := opens_imp (opens_slice Try.underlying27 (by kernel_rfl) oTask) (fun _ _ => trivial)
theorem oInts : Opens Try.prog 28 (Kd.slice 3 (Kd.int .i64)) (fun _ => True) := opens_imp (opens_slice Try.underlying28 (by kernel_rfl) oAny) (fun _ _ => trivial)
theorem oJob : Opens Try.prog 38 k38 (fun _ => True) :=
  opens_imp (opens_iso (f := fun x : S38 => (x.f0, x.f1, x.f2, x.f3, x.f4, x.f5)) (fun x => ⟨x.1, x.2.1, x.2.2.1, x.2.2.2.1, x.2.2.2.2.1, x.2.2.2.2.2⟩) (fun _ => rfl) (opens_struct Try.underlying38 (by kernel_rfl)
    (opensF_cons rfl (by kernel_rfl) oAny (opensF_cons rfl (by kernel_rfl) oAny (opensF_cons rfl (by kernel_rfl) oAny (opensF_cons rfl (by kernel_rfl) oAny (opensF_cons rfl (by kernel_rfl) oAny (opensF_one rfl (by kernel_rfl) (opens_bool Try.underlying4)))))))) ) (fun _ _ => trivial)
theorem oJobs : Opens Try.prog 29 (Kd.slice 38 k38) (fun _ => True) := opens_imp (opens_slice Try.underlying29 (by kernel_rfl) oJob) (fun _ _ => trivial)
theorem oHeld : Opens Try.prog 56 k56 (fun _ => True) :=
  opens_imp (opens_iso (f := fun x : S56 => (x.f0, x.f1, x.f2)) (fun x => ⟨x.1, x.2.1, x.2.2⟩) (fun _ => rfl) (opens_struct Try.underlying56 (by kernel_rfl)
    (opensF_cons rfl (by kernel_rfl) oAny (opensF_cons rfl (by kernel_rfl) oAny (opensF_one rfl (by kernel_rfl) oAny))))) (fun _ _ => trivial)
theorem oHelds : Opens Try.prog 30 (Kd.slice 56 k56) (fun _ => True) := opens_imp (opens_slice Try.underlying30 (by kernel_rfl) oHeld) (fun _ _ => trivial)
abbrev VView := Plat × List S36 × List Int × List S38 × List S56 × Int × Int
def kView : Kd VView := Kd.pair kPlat (Kd.pair (Kd.slice 36 k36) (Kd.pair (Kd.slice 3 (Kd.int .i64)) (Kd.pair (Kd.slice 38 k38) (Kd.pair (Kd.slice 56 k56) (Kd.pair (Kd.int .i64) (Kd.int .i64))))))
theorem oView : Opens Try.prog 32 kView (fun _ => True) :=
  opens_imp (opens_struct (d := kView) Try.underlying32 (by kernel_rfl)
    (opensF_cons rfl (by kernel_rfl) oPlat (opensF_cons rfl (by kernel_rfl) oTasks (opensF_cons rfl (by kernel_rfl) oInts (opensF_cons rfl (by kernel_rfl) oJobs (opensF_cons rfl (by kernel_rfl) oHelds
    (opensF_cons rfl (by kernel_rfl) oAny (opensF_one rfl (by kernel_rfl) oAny)))))))) (fun _ _ => trivial)
theorem view_open {w : World} {x : VView} {cs : List Value} (h : kView.K w x cs) : ∃ (A0 : Option Addr) (c0 : Nat) (A1 : Option Addr) (c1 : Nat) (A2 : Option Addr) (c2 : Nat) (A3 : Option Addr) (c3 : Nat) (A4 : Option Addr) (c4 : Nat) (A5 : Option Addr) (c5 : Nat) (A6 : Option Addr) (c6 : Nat),
    cs = [.slice A0 x.1.1.length c0, .slice A1 x.1.2.1.length c1, .slice A2 x.1.2.2.1.length c2, .int .i64 x.1.2.2.2.1, .int .i64 x.1.2.2.2.2.1, .int .i64 x.1.2.2.2.2.2.1, .int .i64 x.1.2.2.2.2.2.2.1, .int .i64 x.1.2.2.2.2.2.2.2.1, .int .i64 x.1.2.2.2.2.2.2.2.2, .slice A3 x.2.1.length c3, .slice A4 x.2.2.1.length c4, .slice A5 x.2.2.2.1.length c5, .slice A6 x.2.2.2.2.1.length c6, .int .i64 x.2.2.2.2.2.1, .int .i64 x.2.2.2.2.2.2] ∧
    (x.1.1.length ≤ c0 ∧ Kd.C k58 w A0 x.1.1.length x.1.1) ∧ (x.1.2.1.length ≤ c1 ∧ Kd.C k68 w A1 x.1.2.1.length x.1.2.1) ∧ (x.1.2.2.1.length ≤ c2 ∧ Kd.C k71 w A2 x.1.2.2.1.length x.1.2.2.1) ∧
    (x.2.1.length ≤ c3 ∧ Kd.C k36 w A3 x.2.1.length x.2.1) ∧ (x.2.2.1.length ≤ c4 ∧ Kd.C (Kd.int .i64) w A4 x.2.2.1.length x.2.2.1) ∧ (x.2.2.2.1.length ≤ c5 ∧ Kd.C k38 w A5 x.2.2.2.1.length x.2.2.2.1) ∧ (x.2.2.2.2.1.length ≤ c6 ∧ Kd.C k56 w A6 x.2.2.2.2.1.length x.2.2.2.2.1) := by
  obtain ⟨pcs, _, rfl, hp, _, _, rfl, ⟨A3, c3, rfl, l3, h3⟩, _, _, rfl, ⟨A4, c4, rfl, l4, h4⟩, _, _, rfl, ⟨A5, c5, rfl, l5, h5⟩, _, _, rfl, ⟨A6, c6, rfl, l6, h6⟩, _, _, rfl, e7, e8⟩ := h
  obtain ⟨A0, c0, A1, c1, A2, c2, rfl, a0, a1, a2⟩ := plat_open hp
  cases e7; cases e8
  exact ⟨A0, c0, A1, c1, A2, c2, A3, c3, A4, c4, A5, c5, A6, c6, rfl, a0, a1, a2, ⟨l3, h3⟩, ⟨l4, h4⟩, ⟨l5, h5⟩, ⟨l6, h6⟩⟩
end Go.Proofs.Ytchlbnlhjllcbaa.Opn
namespace Go.Proofs.Ytchlbnlhjllcbaa.Sla
open Go.RowKit Go.Proofs.Ytchlbnlhjllcbaa.F Go.Proofs.Ytchlbnlhjllcbaa.Opn Go.Proofs.YtchlbnlhjllcbaaW.PrintWords Go.Proofs.YtchlbnlhjllcbaaW.PrintLast Go.Proofs.YtchlbnlhjllcbaaW.PrintMore
set_option linter.unusedVariables false
theorem below_undrew {w w2 : World} (h : Below w.drew.heap.size w.drew w2) : Below w.heap.size w w2 := ⟨h.os, h.tape, h.output, h.size, h.block⟩
theorem below_of_drawn {w w2 : World} (h : Drawn0 w w2) : Below w.heap.size w w2 := by obtain ⟨n, rfl⟩ := h.out; exact pw_below_drewN (Below.refl _ _) n
section
variable (w W : World) (A0 : Option Addr) (c0 : Nat) (l0 : List S58) (A1 : Option Addr) (c1 : Nat) (l1 : List S68) (A2 : Option Addr) (c2 : Nat) (l2 : List S71) (A3 : Option Addr) (c3 : Nat) (ts : List S36) (A4 : Option Addr) (c4 : Nat) (nx : List Int) (idle crit sw swE sems hor : Int) (jv hv : Value) (now at_ : Int)
abbrev vbox : Array Value := #[.slice A0 l0.length c0, .slice A1 l1.length c1, .slice A2 l2.length c2, .int .i64 idle, .int .i64 crit, .int .i64 sw, .int .i64 swE, .int .i64 sems, .int .i64 hor, .slice A3 ts.length c3, .slice A4 nx.length c4, jv, hv, .int .i64 now, .int .i64 at_]
structure VM : Prop where
  g0 : l0.length ≤ c0
  r0 : Kd.C k58 w A0 l0.length l0
  g1 : l1.length ≤ c1
  r1 : Kd.C k68 w A1 l1.length l1
  g2 : l2.length ≤ c2
  r2 : Kd.C k71 w A2 l2.length l2
  g3 : ts.length ≤ c3
  r3 : Kd.C k36 w A3 ts.length ts
  g4 : nx.length ≤ c4
  r4 : Kd.C (Kd.int .i64) w A4 nx.length nx
  bv : W.heap[w.heap.size]? = some (.cells (vbox A0 c0 l0 A1 c1 l1 A2 c2 l2 A3 c3 ts A4 c4 nx idle crit sw swE sems hor jv hv now at_) 32 (0, 0))
  hb : Below w.heap.size w W
end
section
variable {w W W' : World} {A0 : Option Addr} {c0 : Nat} {l0 : List S58} {A1 : Option Addr} {c1 : Nat} {l1 : List S68} {A2 : Option Addr} {c2 : Nat} {l2 : List S71} {A3 : Option Addr} {c3 : Nat} {ts : List S36} {A4 : Option Addr} {c4 : Nat} {nx : List Int} {idle crit sw swE sems hor : Int} {jv hv : Value} {now at_ : Int}
theorem VM.step (h : VM w W A0 c0 l0 A1 c1 l1 A2 c2 l2 A3 c3 ts A4 c4 nx idle crit sw swE sems hor jv hv now at_) (hb : Below W.heap.size W W') : VM w W' A0 c0 l0 A1 c1 l1 A2 c2 l2 A3 c3 ts A4 c4 nx idle crit sw swE sems hor jv hv now at_ := ⟨h.g0, h.r0, h.g1, h.r1, h.g2, h.r2, h.g3, h.r3, h.g4, h.r4, blk_below h.bv hb, below_step h.hb hb⟩
theorem VM.far (h : VM w W A0 c0 l0 A1 c1 l1 A2 c2 l2 A3 c3 ts A4 c4 nx idle crit sw swE sems hor jv hv now at_) {p : Addr} (hg : w.heap.size < p.block) (u : Value) : VM w (W.setCell p u) A0 c0 l0 A1 c1 l1 A2 c2 l2 A3 c3 ts A4 c4 nx idle crit sw swE sems hor jv hv now at_ := ⟨h.g0, h.r0, h.g1, h.r1, h.g2, h.r2, h.g3, h.r3, h.g4, h.r4, blk_far h.bv (Nat.ne_of_lt hg) u, h.hb.setCell (Nat.le_of_lt hg) _⟩
theorem VM.alloc (h : VM w W A0 c0 l0 A1 c1 l1 A2 c2 l2 A3 c3 ts A4 c4 nx idle crit sw swE sems hor jv hv now at_) (o : Obj) : VM w (W.alloc o) A0 c0 l0 A1 c1 l1 A2 c2 l2 A3 c3 ts A4 c4 nx idle crit sw swE sems hor jv hv now at_ := h.step ((Below.refl W.heap.size W).alloc (Nat.le_refl _) o)
theorem VM.drew (h : VM w W A0 c0 l0 A1 c1 l1 A2 c2 l2 A3 c3 ts A4 c4 nx idle crit sw swE sems hor jv hv now at_) : VM w W.drew A0 c0 l0 A1 c1 l1 A2 c2 l2 A3 c3 ts A4 c4 nx idle crit sw swE sems hor jv hv now at_ := h.step ((Below.refl W.heap.size W).drew)
theorem VM.start (g0 : l0.length ≤ c0) (r0 : Kd.C k58 w A0 l0.length l0) (g1 : l1.length ≤ c1) (r1 : Kd.C k68 w A1 l1.length l1) (g2 : l2.length ≤ c2) (r2 : Kd.C k71 w A2 l2.length l2) (g3 : ts.length ≤ c3) (r3 : Kd.C k36 w A3 ts.length ts) (g4 : nx.length ≤ c4) (r4 : Kd.C (Kd.int .i64) w A4 nx.length nx) :
    VM w (w.alloc (.cells (vbox A0 c0 l0 A1 c1 l1 A2 c2 l2 A3 c3 ts A4 c4 nx idle crit sw swE sems hor jv hv now at_) 32 (0, 0))) A0 c0 l0 A1 c1 l1 A2 c2 l2 A3 c3 ts A4 c4 nx idle crit sw swE sems hor jv hv now at_ := by
  exact ⟨g0, r0, g1, r1, g2, r2, g3, r3, g4, r4, heap_alloc_new _ _, (Below.refl w.heap.size w).alloc (Nat.le_refl _) _⟩
theorem VM.setj (h : VM w W A0 c0 l0 A1 c1 l1 A2 c2 l2 A3 c3 ts A4 c4 nx idle crit sw swE sems hor jv hv now at_) (u : Value) : VM w (W.setCell ⟨w.heap.size, 11, none⟩ u) A0 c0 l0 A1 c1 l1 A2 c2 l2 A3 c3 ts A4 c4 nx idle crit sw swE sems hor u hv now at_ := ⟨h.g0, h.r0, h.g1, h.r1, h.g2, h.r2, h.g3, h.r3, h.g4, h.r4, blk_put h.bv 11 u rfl, h.hb.setCell (Nat.le_refl _) _⟩
theorem VM.seth (h : VM w W A0 c0 l0 A1 c1 l1 A2 c2 l2 A3 c3 ts A4 c4 nx idle crit sw swE sems hor jv hv now at_) (u : Value) : VM w (W.setCell ⟨w.heap.size, 12, none⟩ u) A0 c0 l0 A1 c1 l1 A2 c2 l2 A3 c3 ts A4 c4 nx idle crit sw swE sems hor jv u now at_ := ⟨h.g0, h.r0, h.g1, h.r1, h.g2, h.r2, h.g3, h.r3, h.g4, h.r4, blk_put h.bv 12 u rfl, h.hb.setCell (Nat.le_refl _) _⟩
theorem VM.R0 (h : VM w W A0 c0 l0 A1 c1 l1 A2 c2 l2 A3 c3 ts A4 c4 nx idle crit sw swE sems hor jv hv now at_) : Kd.C k58 W A0 l0.length l0 := Kd.C_below h.r0 h.hb
theorem VM.R1 (h : VM w W A0 c0 l0 A1 c1 l1 A2 c2 l2 A3 c3 ts A4 c4 nx idle crit sw swE sems hor jv hv now at_) : Kd.C k68 W A1 l1.length l1 := Kd.C_below h.r1 h.hb
theorem VM.R2 (h : VM w W A0 c0 l0 A1 c1 l1 A2 c2 l2 A3 c3 ts A4 c4 nx idle crit sw swE sems hor jv hv now at_) : Kd.C k71 W A2 l2.length l2 := Kd.C_below h.r2 h.hb
theorem VM.R3 (h : VM w W A0 c0 l0 A1 c1 l1 A2 c2 l2 A3 c3 ts A4 c4 nx idle crit sw swE sems hor jv hv now at_) : Kd.C k36 W A3 ts.length ts := Kd.C_below h.r3 h.hb
theorem VM.R4 (h : VM w W A0 c0 l0 A1 c1 l1 A2 c2 l2 A3 c3 ts A4 c4 nx idle crit sw swE sems hor jv hv now at_) : Kd.C (Kd.int .i64) W A4 nx.length nx := Kd.C_below h.r4 h.hb
theorem VM.x (h : VM w W A0 c0 l0 A1 c1 l1 A2 c2 l2 A3 c3 ts A4 c4 nx idle crit sw swE sems hor jv hv now at_) :
    W.cell? ⟨w.heap.size, 0, none⟩ = some (.slice A0 l0.length c0) ∧ W.cell? ⟨w.heap.size, 1, none⟩ = some (.slice A1 l1.length c1) ∧ W.cell? ⟨w.heap.size, 2, none⟩ = some (.slice A2 l2.length c2) ∧ W.cell? ⟨w.heap.size, 3, none⟩ = some (.int .i64 idle) ∧ W.cell? ⟨w.heap.size, 4, none⟩ = some (.int .i64 crit) ∧ W.cell? ⟨w.heap.size, 5, none⟩ = some (.int .i64 sw) ∧ W.cell? ⟨w.heap.size, 6, none⟩ = some (.int .i64 swE) ∧ W.cell? ⟨w.heap.size, 7, none⟩ = some (.int .i64 sems) ∧ W.cell? ⟨w.heap.size, 8, none⟩ = some (.int .i64 hor) ∧ W.cell? ⟨w.heap.size, 9, none⟩ = some (.slice A3 ts.length c3) ∧ W.cell? ⟨w.heap.size, 10, none⟩ = some (.slice A4 nx.length c4) ∧ W.cell? ⟨w.heap.size, 11, none⟩ = some (jv) ∧ W.cell? ⟨w.heap.size, 12, none⟩ = some (hv) ∧ W.cell? ⟨w.heap.size, 13, none⟩ = some (.int .i64 now) ∧ W.cell? ⟨w.heap.size, 14, none⟩ = some (.int .i64 at_) :=
  ⟨(blk_cell h.bv 0).trans rfl, (blk_cell h.bv 1).trans rfl, (blk_cell h.bv 2).trans rfl, (blk_cell h.bv 3).trans rfl, (blk_cell h.bv 4).trans rfl, (blk_cell h.bv 5).trans rfl, (blk_cell h.bv 6).trans rfl, (blk_cell h.bv 7).trans rfl, (blk_cell h.bv 8).trans rfl, (blk_cell h.bv 9).trans rfl, (blk_cell h.bv 10).trans rfl, (blk_cell h.bv 11).trans rfl, (blk_cell h.bv 12).trans rfl, (blk_cell h.bv 13).trans rfl, (blk_cell h.bv 14).trans rfl⟩
end
section
variable {α : Type} {d : Kd α} {e : Nat} {w W W' : World} {g : Nat} {xs : List α}
/-- block g's cells read as the row xs; what its elements lead to was there in w -/
def Rows (d : Kd α) (e : Nat) (w W : World) (g : Nat) (xs : List α) : Prop :=
  ∃ cur : Array Value, W.heap[g]? = some (.cells cur e (0, 0)) ∧ xs.length * d.sz ≤ cur.size ∧ ∀ (j : Nat) (p : α), xs[j]? = some p → ∃ c, c.length = d.sz ∧ d.K w p c ∧ ∀ (i : Nat) (u : Value), c[i]? = some u → cur[j * d.sz + i]? = some u
theorem Rows.C (h : Rows d e w W g xs) (hb : Below w.heap.size w W) (hn : xs.length ≤ 9223372036854775807) : Kd.C d W (some ⟨g, 0, none⟩) xs.length xs := by
  obtain ⟨cur, hg, _, hx⟩ := h
  refine ⟨rfl, hn, fun _ => ⟨_, rfl, fun j p hj => ?_⟩⟩
  obtain ⟨c, h0, h1, h2⟩ := hx j p hj
  refine ⟨c, h0, d.K_below hb h1, fun i u hu => ?_⟩
  have := blk_cell hg (j * d.sz + i)
  rw [h2 i u hu] at this
  have e : ∀ n : Nat, (⟨g, 0, none⟩ : Addr).add n = ⟨g, n, none⟩ := fun n => by unfold Addr.add; split <;> simp_all
  rw [e]; exact this
theorem Rows.below (h : Rows d e w W g xs) (hb : Below W.heap.size W W') : Rows d e w W' g xs := by
  obtain ⟨cur, hg, hs, hx⟩ := h
  exact ⟨cur, blk_below hg hb, hs, hx⟩
theorem Rows.far (h : Rows d e w W g xs) {p : Addr} (hp : g ≠ p.block) (u : Value) : Rows d e w (W.setCell p u) g xs := by
  obtain ⟨cur, hg, hs, hx⟩ := h
  exact ⟨cur, blk_far hg hp u, hs, hx⟩
theorem Rows.frozen (h : Rows d e w W g xs) (i : Nat) : W.frozen? ⟨g, i, none⟩ = false := by
  obtain ⟨cur, hg, _⟩ := h
  exact blk_frozen hg i
theorem Rows.cell (h : Rows d e w W g xs) (i : Nat) (hi : i < xs.length * d.sz) : ∃ u, W.cell? ⟨g, i, none⟩ = some u := by
  obtain ⟨cur, hg, hs, _⟩ := h
  have := blk_cell hg i
  rw [Array.getElem?_eq_getElem (show i < cur.size by omega)] at this
  exact ⟨_, this⟩
/-- cells in a row, as lists: the elements of a list of rows -/
theorem flat_get : ∀ (rows : List (List Value)) (sz : Nat), (∀ c ∈ rows, c.length = sz) → ∀ (j : Nat) (c : List Value), rows[j]? = some c → ∀ (i : Nat) (u : Value), c[i]? = some u → rows.flatten[j * sz + i]? = some u
  | [], _, _, j, c, h, _, _, _ => by simp at h
  | r :: rows, sz, hs, 0, c, h, i, u, hu => by
    simp at h; subst h
    have hi : i < r.length := by rw [List.getElem?_eq_some_iff] at hu; exact hu.1
    rw [List.flatten_cons, Nat.zero_mul, Nat.zero_add, List.getElem?_append_left hi]; exact hu
  | r :: rows, sz, hs, j + 1, c, h, i, u, hu => by
    have hr := hs r (by simp)
    rw [List.flatten_cons, List.getElem?_append_right (by rw [hr, Nat.succ_mul]; omega), hr, show (j + 1) * sz + i - sz = j * sz + i from by rw [Nat.succ_mul]; omega]
    exact flat_get rows sz (fun c hc => hs c (by simp [hc])) j c (by simpa using h) i u hu
theorem flat_len : ∀ (rows : List (List Value)) (sz : Nat), (∀ c ∈ rows, c.length = sz) → rows.flatten.length = rows.length * sz
  | [], _, _ => by simp
  | r :: rows, sz, hs => by
    have := flat_len rows sz (fun c hc => hs c (by simp [hc]))
    rw [List.flatten_cons, List.length_append, this, hs r (by simp), List.length_cons, Nat.succ_mul]; omega
/-- A row that is owned and holds the cells that were read of another one reads as that one. -/
theorem rows_of_own {base n m c : Nat} {g : Nat} {rows : List (List Value)} (h : W.ownsRow base e d.sz (.slice (some ⟨g, 0, none⟩) m c) n rows.flatten) (hs : ∀ r ∈ rows, r.length = d.sz) (hl : rows.length = xs.length)
    (hK : ∀ (j : Nat) (p : α), xs[j]? = some p → ∃ c, rows[j]? = some c ∧ d.K w p c) : Rows d e w W g xs := by
  obtain ⟨hfl, h⟩ := h
  rcases h with ⟨h, _⟩ | ⟨g', cap, cur, hv, _, hg, _, _, _, ht⟩
  · cases h
  · injection hv with hv1 hv2 hv3
    injection hv1 with hv1
    injection hv1 with hv1
    subst hv1
    have hsz : rows.flatten.length ≤ cur.size := by
      have := congrArg List.length ht
      simp only [List.length_take, Array.length_toList] at this
      omega
    refine ⟨cur, hg, by rw [← hl, ← flat_len rows d.sz hs]; exact hsz, fun j p hj => ?_⟩
    obtain ⟨r, hr, hk⟩ := hK j p hj
    have hrl := hs r (List.mem_of_getElem? hr)
    refine ⟨r, hrl, hk, fun i u hu => ?_⟩
    have hf := flat_get rows d.sz hs j r hr i u hu
    have hi : j * d.sz + i < rows.flatten.length := by rw [List.getElem?_eq_some_iff] at hf; exact hf.1
    rw [← ht, List.getElem?_take] at hf
    split at hf
    · rw [← Array.getElem?_toList]; exact hf
    · cases hf
/-- One element set: so many cells from its place on. -/
theorem Rows.set {cs : List Value} (h : Rows d e w W g xs) (i : Nat) (x : α) (hi : i < xs.length) (hc : cs.length = d.sz)
    {W' : World} (hW : ∀ cur : Array Value, W.heap[g]? = some (.cells cur e (0, 0)) → xs.length * d.sz ≤ cur.size → ∃ cur' : Array Value, W'.heap[g]? = some (.cells cur' e (0, 0)) ∧ cur'.size = cur.size ∧ (∀ k u, cs[k]? = some u → cur'[i * d.sz + k]? = some u) ∧ ∀ k, (k < i * d.sz ∨ i * d.sz + d.sz ≤ k) → cur'[k]? = cur[k]?)
    (hK : d.K w x cs) : Rows d e w W' g (xs.set i x) := by
  obtain ⟨cur, hg, hs, hx⟩ := h
  obtain ⟨cur', hg', hs', h1, h2⟩ := hW cur hg hs
  refine ⟨cur', hg', by rw [List.length_set, hs']; exact hs, fun j p hj => ?_⟩
  rw [List.getElem?_set] at hj
  by_cases hij : i = j
  · subst hij
    rw [if_pos rfl, if_pos hi] at hj
    cases hj
    exact ⟨cs, hc, hK, h1⟩
  · rw [if_neg hij] at hj
    obtain ⟨c, a, b, k⟩ := hx j p hj
    refine ⟨c, a, b, fun q u hu => ?_⟩
    have hq : q < d.sz := by rw [List.getElem?_eq_some_iff] at hu; rw [← a]; exact hu.1
    rw [h2 _ ?_]
    · exact k q u hu
    · rcases Nat.lt_or_ge j i with hlt | hge
      · left
        have : (j + 1) * d.sz ≤ i * d.sz := Nat.mul_le_mul_right _ hlt
        rw [Nat.succ_mul] at this; omega
      · right
        have : (i + 1) * d.sz ≤ j * d.sz := Nat.mul_le_mul_right _ (by omega)
        rw [Nat.succ_mul] at this; omega
end
section
variable {P : Program} {ops : Array Oper} {rest : List Oper} {o : Oper} {a : Act} {Q : Exit → Act → World → Prop} {α : Type} {d : Kd α}
def OwnT (d : Kd α) (e : Nat) (w W : World) (base : Nat) (v : Value) (xs : List α) : Prop :=
  ∃ rows : List (List Value), W.ownsRow base e d.sz v xs.length rows.flatten ∧ (∀ r ∈ rows, r.length = d.sz) ∧ rows.length = xs.length ∧ ∀ (j : Nat) (p : α), xs[j]? = some p → ∃ c, rows[j]? = some c ∧ d.K w p c
theorem OwnT.nil (d : Kd α) (e : Nat) (w W : World) (base : Nat) : OwnT d e w W base (.slice none 0 0) [] :=
  ⟨[], ⟨by simp, .inl ⟨rfl, rfl⟩⟩, fun r h => by simp at h, rfl, fun j p h => by simp at h⟩
theorem OwnT.form {e : Nat} {w W : World} {base : Nat} {v : Value} {xs : List α} (h : OwnT d e w W base v xs) (hb : Below w.heap.size w W) (hn : xs.length ≤ 9223372036854775807) : ∃ A c, v = .slice A xs.length c ∧ xs.length ≤ c ∧ Kd.C d W A xs.length xs := by
  obtain ⟨rows, ho, hs, hl, hK⟩ := h
  obtain ⟨hfl, ho'⟩ := ho
  rcases ho' with ⟨hv, h0⟩ | ⟨g, cap, cur, hv, hbg, hgg, hcap, hmx, hsz, htk⟩
  · have : xs = [] := List.eq_nil_of_length_eq_zero h0
    subst this
    exact ⟨none, 0, hv, Nat.le_refl _, Kd.C_nil _ _⟩
  · have hr : Rows d e w W g xs := rows_of_own (base := base) (m := xs.length) (c := cap) (n := xs.length) ⟨hfl, .inr ⟨g, cap, cur, rfl, hbg, hgg, hcap, hmx, hsz, htk⟩⟩ hs hl hK
    exact ⟨some ⟨g, 0, none⟩, cap, hv, hcap, hr.C hb hn⟩
theorem OwnT.below {e : Nat} {w W W' : World} {base : Nat} {v : Value} {xs : List α} (h : OwnT d e w W base v xs) (hb : Below W.heap.size W W') : OwnT d e w W' base v xs := by
  obtain ⟨rows, ⟨hfl, ho⟩, r⟩ := h
  refine ⟨rows, ⟨hfl, ?_⟩, r⟩
  rcases ho with ho | ⟨g, cap, cur, hv, hbg, hgg, q⟩
  · exact .inl ho
  · exact .inr ⟨g, cap, cur, hv, hbg, blk_below hgg hb, q⟩
theorem app_one {wr w0 W : World} (hgd : o.guard = none) (s x : Operand) (t e : TypeId) (z : Value) (bytes : Nat)
    (ho : o.op = .call { callee := .builtin .append, args := #[s, x], argTypes := #[t, t] })
    (ht : P.underlying t = some (.slice e)) (hinfo : (P.info? e).map (fun i => (i.zero, i.size, i.bytes)) = some (some z, d.sz, bytes)) (hz : z.cells.size = d.sz) (hs0 : 0 < d.sz) (hb0 : 0 < bytes)
    (v : Value) (xs : List α) (ys : List Value) (p : α) (hs : a.eval s = v) (hx : a.eval x = .slice (some ⟨W.heap.size, 0, none⟩) 1 1) (HK : d.K wr p ys)
    (HO : OwnT d e wr W w0.heap.size v xs) (HB : Below w0.heap.size w0 W) (hl : (xs.length + 1) * bytes ≤ 140737488355328)
    (h : ∀ v1 w1, OwnT d e wr w1 w0.heap.size v1 (xs ++ [p]) → Below w0.heap.size w0 w1 → wpList P ops Q rest (a.put o.dst v1) w1) :
    wpList P ops Q (o :: rest) a (W.alloc (.cells ys.toArray e)) := by
  obtain ⟨rows, ho', hs', hl', hK⟩ := HO
  refine print_append_cells (w0 := w0) w0.heap.size hgd s x t e z d.sz bytes ho ht hinfo hz hs0 hb0 v xs.length rows.flatten ys hs hx (d.K_len HK) (d.K_one HK) ho' HB HB.size hl ?_
  intro v1 w1 hown hb _ _
  refine h v1 w1 ⟨rows ++ [ys], ?_, ?_, by simp [hl'], ?_⟩ hb
  · rw [List.flatten_append, List.length_append]; simpa using hown
  · intro r hr
    rcases List.mem_append.1 hr with hr | hr
    · exact hs' r hr
    · rw [List.mem_singleton] at hr; subst hr; exact d.K_len HK
  · intro j q hj
    by_cases c : j < xs.length
    · rw [List.getElem?_append_left c] at hj
      obtain ⟨r, h1, h2⟩ := hK j q hj
      exact ⟨r, by rw [List.getElem?_append_left (by omega)]; exact h1, h2⟩
    · rw [List.getElem?_append_right (by omega)] at hj
      have hj0 : j - xs.length = 0 := by
        have : j - xs.length < 1 := by rw [List.getElem?_eq_some_iff] at hj; exact hj.1
        omega
      rw [hj0] at hj
      cases hj
      exact ⟨ys, by rw [List.getElem?_append_right (by omega), hl', hj0]; rfl, HK⟩
end
end Go.Proofs.Ytchlbnlhjllcbaa.Sla
namespace Go.Proofs.Ytchlbnlhjllcbaa.F
open Go.RowKit Go.Proofs.YtchlbnlhjllcbaaW.PrintWords Go.Proofs.YtchlbnlhjllcbaaW.PrintLast Go.Proofs.YtchlbnlhjllcbaaW.PrintMore
attribute [local go_sem] max2_int min2_int max_two min_two max_three min_three max_four min_four   -- for this text's walks alone
set_option linter.unusedVariables false
set_option linter.unusedSimpArgs false
def dormouseref01_away.f (a0 : Int) (a1 : Int) (a2 : Int) (a3 : Int) (a4 : Int) (a5 : Int) (a6 : Int) : Option (Bool) := if a0 < 0 then (some false) else (if a0 > 256 then (some false) else (if a1 < 0 then (some false) else (if a1 > 256 then (some false) else (if a2 < 0 then (some false) else (if a2 > 65536 then (some false) else (if a3 < 0 then (some false) else (if a3 > 65536 then (some false) else (if a5 < 0 then (some false) else (if a5 > 65536 then (some false) else (if a4 < 0 then (some false) else (if a4 > a5 then (some false) else (if a6 ≥ (wrap64 (a0 + a1)) then (if a6 ≥ 1 then (if a6 ≤ 16384 then (some (decide ((wrap64 ((wrap64 (a2 + a3)) + (wrap64 (a4 * (wrap64 ((wrap64 (a6 - a0)) - a1)))))) ≤ (wrap64 (a5 * a6))))) else (some false)) else (some false)) else (some false)))))))))))))
set_option maxHeartbeats 8000000 in
set_option maxRecDepth 100000 in
theorem dormouseref01_away.calls (a0 : Int) (a1 : Int) (a2 : Int) (a3 : Int) (a4 : Int) (a5 : Int) (a6 : Int) (r : Bool) (w : World) (h : dormouseref01_away.f a0 a1 a2 a3 a4 a5 a6 = some r) :
    Calls Try.prog 51 #[.int .i64 a0, .int .i64 a1, .int .i64 a2, .int .i64 a3, .int .i64 a4, .int .i64 a5, .int .i64 a6] w fun e w' => e = .returned (.bool r) ∧ Drawn0 w w' := by
  have H : (if a0 < 0 then (some false) else (if a0 > 256 then (some false) else (if a1 < 0 then (some false) else (if a1 > 256 then (some false) else (if a2 < 0 then (some false) else (if a2 > 65536 then (some false) else (if a3 < 0 then (some false) else (if a3 > 65536 then (some false) else (if a5 < 0 then (some false) else (if a5 > 65536 then (some false) else (if a4 < 0 then (some false) else (if a4 > a5 then (some false) else (if a6 ≥ (wrap64 (a0 + a1)) then (if a6 ≥ 1 then (if a6 ≤ 16384 then (some (decide ((wrap64 ((wrap64 (a2 + a3)) + (wrap64 (a4 * (wrap64 ((wrap64 (a6 - a0)) - a1)))))) ≤ (wrap64 (a5 * a6))))) else (some false)) else (some false)) else (some false)))))))))))))) = some r := h
  clear h
  by_cases c8 : a0 < 0
  · rw [if_pos c8] at H
    have c8b0 : decide (a0 < 0) = true := decide_eq_true c8
    clear c8
    obtain rfl := Option.some.inj H
    go_enter Try.func51, Try.ntmps51
    go_wp2
    go_ret
    exact ⟨by first | rfl | (simp; done) | (simp [*]; done), by repeat (first | exact Drawn0.refl _ | apply Drawn0.step)⟩
  · rw [if_neg c8] at H
    have c8b0 : decide (a0 < 0) = false := decide_eq_false c8
    clear c8
    by_cases c9 : a0 > 256
    · rw [if_pos c9] at H
      have c9b0 : decide (256 < a0) = true := decide_eq_true c9
      clear c9
      obtain rfl := Option.some.inj H
      go_enter Try.func51, Try.ntmps51
      go_wp2
      go_ret
      exact ⟨by first | rfl | (simp; done) | (simp [*]; done), by repeat (first | exact Drawn0.refl _ | apply Drawn0.step)⟩
    · rw [if_neg c9] at H
      have c9b0 : decide (256 < a0) = false := decide_eq_false c9
      clear c9
      by_cases c10 : a1 < 0
      · rw [if_pos c10] at H
        have c10b0 : decide (a1 < 0) = true := decide_eq_true c10
        clear c10
        obtain rfl := Option.some.inj H
        go_enter Try.func51, Try.ntmps51
        go_wp2
        go_ret
        exact ⟨by first | rfl | (simp; done) | (simp [*]; done), by repeat (first | exact Drawn0.refl _ | apply Drawn0.step)⟩
      · rw [if_neg c10] at H
        have c10b0 : decide (a1 < 0) = false := decide_eq_false c10
        clear c10
        by_cases c11 : a1 > 256
        · rw [if_pos c11] at H
          have c11b0 : decide (256 < a1) = true := decide_eq_true c11
          clear c11
          obtain rfl := Option.some.inj H
          go_enter Try.func51, Try.ntmps51
          go_wp2
          go_ret
          exact ⟨by first | rfl | (simp; done) | (simp [*]; done), by repeat (first | exact Drawn0.refl _ | apply Drawn0.step)⟩
        · rw [if_neg c11] at H
          have c11b0 : decide (256 < a1) = false := decide_eq_false c11
          clear c11
          by_cases c12 : a2 < 0
          · rw [if_pos c12] at H
            have c12b0 : decide (a2 < 0) = true := decide_eq_true c12
            clear c12
            obtain rfl := Option.some.inj H
            go_enter Try.func51, Try.ntmps51
            go_wp2
            go_ret
            exact ⟨by first | rfl | (simp; done) | (simp [*]; done), by repeat (first | exact Drawn0.refl _ | apply Drawn0.step)⟩
          · rw [if_neg c12] at H
            have c12b0 : decide (a2 < 0) = false := decide_eq_false c12
            clear c12
            by_cases c13 : a2 > 65536
            · rw [if_pos c13] at H
              have c13b0 : decide (65536 < a2) = true := decide_eq_true c13
              clear c13
              obtain rfl := Option.some.inj H
              go_enter Try.func51, Try.ntmps51
              go_wp2
              go_ret
              exact ⟨by first | rfl | (simp; done) | (simp [*]; done), by repeat (first | exact Drawn0.refl _ | apply Drawn0.step)⟩
            · rw [if_neg c13] at H
              have c13b0 : decide (65536 < a2) = false := decide_eq_false c13
              clear c13
              by_cases c14 : a3 < 0
              · rw [if_pos c14] at H
                have c14b0 : decide (a3 < 0) = true := decide_eq_true c14
                clear c14
                obtain rfl := Option.some.inj H
                go_enter Try.func51, Try.ntmps51
                go_wp2
                go_ret
                exact ⟨by first | rfl | (simp; done) | (simp [*]; done), by repeat (first | exact Drawn0.refl _ | apply Drawn0.step)⟩
              · rw [if_neg c14] at H
                have c14b0 : decide (a3 < 0) = false := decide_eq_false c14
                clear c14
                by_cases c15 : a3 > 65536
                · rw [if_pos c15] at H
                  have c15b0 : decide (65536 < a3) = true := decide_eq_true c15
                  clear c15
                  obtain rfl := Option.some.inj H
                  go_enter Try.func51, Try.ntmps51
                  go_wp2
                  go_ret
                  exact ⟨by first | rfl | (simp; done) | (simp [*]; done), by repeat (first | exact Drawn0.refl _ | apply Drawn0.step)⟩
                · rw [if_neg c15] at H
                  have c15b0 : decide (65536 < a3) = false := decide_eq_false c15
                  clear c15
                  by_cases c16 : a5 < 0
                  · rw [if_pos c16] at H
                    have c16b0 : decide (a5 < 0) = true := decide_eq_true c16
                    clear c16
                    obtain rfl := Option.some.inj H
                    go_enter Try.func51, Try.ntmps51
                    go_wp2
                    go_ret
                    exact ⟨by first | rfl | (simp; done) | (simp [*]; done), by repeat (first | exact Drawn0.refl _ | apply Drawn0.step)⟩
                  · rw [if_neg c16] at H
                    have c16b0 : decide (a5 < 0) = false := decide_eq_false c16
                    clear c16
                    by_cases c17 : a5 > 65536
                    · rw [if_pos c17] at H
                      have c17b0 : decide (65536 < a5) = true := decide_eq_true c17
                      clear c17
                      obtain rfl := Option.some.inj H
                      go_enter Try.func51, Try.ntmps51
                      go_wp2
                      go_ret
                      exact ⟨by first | rfl | (simp; done) | (simp [*]; done), by repeat (first | exact Drawn0.refl _ | apply Drawn0.step)⟩
                    · rw [if_neg c17] at H
                      have c17b0 : decide (65536 < a5) = false := decide_eq_false c17
                      clear c17
                      by_cases c18 : a4 < 0
                      · rw [if_pos c18] at H
                        have c18b0 : decide (a4 < 0) = true := decide_eq_true c18
                        clear c18
                        obtain rfl := Option.some.inj H
                        go_enter Try.func51, Try.ntmps51
                        go_wp2
                        go_ret
                        exact ⟨by first | rfl | (simp; done) | (simp [*]; done), by repeat (first | exact Drawn0.refl _ | apply Drawn0.step)⟩
                      · rw [if_neg c18] at H
                        have c18b0 : decide (a4 < 0) = false := decide_eq_false c18
                        clear c18
                        by_cases c19 : a4 > a5
                        · rw [if_pos c19] at H
                          have c19b0 : decide (a5 < a4) = true := decide_eq_true c19
                          clear c19
                          obtain rfl := Option.some.inj H
                          go_enter Try.func51, Try.ntmps51
                          go_wp2
                          go_ret
                          exact ⟨by first | rfl | (simp; done) | (simp [*]; done), by repeat (first | exact Drawn0.refl _ | apply Drawn0.step)⟩
                        · rw [if_neg c19] at H
                          have c19b0 : decide (a5 < a4) = false := decide_eq_false c19
                          clear c19
                          by_cases c20 : a6 ≥ (wrap64 (a0 + a1))
                          · rw [if_pos c20] at H
                            have c20b0 : decide ((wrap64 (a0 + a1)) ≤ a6) = true := decide_eq_true c20
                            clear c20
                            by_cases c21 : a6 ≥ 1
                            · rw [if_pos c21] at H
                              have c21b0 : decide (1 ≤ a6) = true := decide_eq_true c21
                              clear c21
                              by_cases c22 : a6 ≤ 16384
                              · rw [if_pos c22] at H
                                have c22b0 : decide (a6 ≤ 16384) = true := decide_eq_true c22
                                clear c22
                                obtain rfl := Option.some.inj H
                                go_enter Try.func51, Try.ntmps51
                                go_wp2
                                go_ret
                                exact ⟨by first | rfl | (simp; done) | (simp [*]; done), by repeat (first | exact Drawn0.refl _ | apply Drawn0.step)⟩
                              · rw [if_neg c22] at H
                                have c22b0 : decide (a6 ≤ 16384) = false := decide_eq_false c22
                                clear c22
                                obtain rfl := Option.some.inj H
                                go_enter Try.func51, Try.ntmps51
                                go_wp2
                                go_ret
                                exact ⟨by first | rfl | (simp; done) | (simp [*]; done), by repeat (first | exact Drawn0.refl _ | apply Drawn0.step)⟩
                            · rw [if_neg c21] at H
                              have c21b0 : decide (1 ≤ a6) = false := decide_eq_false c21
                              clear c21
                              obtain rfl := Option.some.inj H
                              go_enter Try.func51, Try.ntmps51
                              go_wp2
                              go_ret
                              exact ⟨by first | rfl | (simp; done) | (simp [*]; done), by repeat (first | exact Drawn0.refl _ | apply Drawn0.step)⟩
                          · rw [if_neg c20] at H
                            have c20b0 : decide ((wrap64 (a0 + a1)) ≤ a6) = false := decide_eq_false c20
                            clear c20
                            obtain rfl := Option.some.inj H
                            go_enter Try.func51, Try.ntmps51
                            go_wp2
                            go_ret
                            exact ⟨by first | rfl | (simp; done) | (simp [*]; done), by repeat (first | exact Drawn0.refl _ | apply Drawn0.step)⟩
end Go.Proofs.Ytchlbnlhjllcbaa.F
namespace Go.Proofs.Ytchlbnlhjllcbaa.F
open Go.RowKit Go.Proofs.YtchlbnlhjllcbaaW.PrintWords Go.Proofs.YtchlbnlhjllcbaaW.PrintLast Go.Proofs.YtchlbnlhjllcbaaW.PrintMore
attribute [local go_sem] max2_int min2_int max_two min_two max_three min_three max_four min_four   -- for this text's walks alone
set_option linter.unusedVariables false
set_option linter.unusedSimpArgs false
def dormouseref01_Sleep.f (a0_0 : Int) (a0_1 : Int) (a0_2 : Int) (a0_3 : Int) (a0_4 : Int) (a0_5 : Int) (a1 : Int) : Option (Bool) := (dormouseref01_away.f a0_1 a0_2 a0_3 a0_4 a0_0 a1 a0_5).bind fun t105 => (some t105)
set_option maxHeartbeats 8000000 in
set_option maxRecDepth 100000 in
theorem dormouseref01_Sleep.calls (a0_0 : Int) (a0_1 : Int) (a0_2 : Int) (a0_3 : Int) (a0_4 : Int) (a0_5 : Int) (a1 : Int) (r : Bool) (w : World) (h : dormouseref01_Sleep.f a0_0 a0_1 a0_2 a0_3 a0_4 a0_5 a1 = some r) :
    Calls Try.prog 35 #[.agg #[.int .i64 a0_0, .int .i64 a0_1, .int .i64 a0_2, .int .i64 a0_3, .int .i64 a0_4, .int .i64 a0_5], .int .i64 a1] w fun e w' => e = .returned (.bool r) ∧ Below w.heap.size w w' := by
  have hu68 := Try.underlying68
  have HB := Aside0.mk (Below.refl w.heap.size w)
  have H : ((dormouseref01_away.f a0_1 a0_2 a0_3 a0_4 a0_0 a1 a0_5).bind fun t105 => (some t105)) = some r := h
  clear h
  replace H := Option.bind_eq_some_iff.mp H
  obtain ⟨t105, A30, H⟩ := H
  replace H : (some t105) = some r := H
  have A3 := Aside0.mk A30
  clear A30
  obtain rfl := Option.some.inj H
  go_enter Try.func35, Try.ntmps35
  go_wp2_with (first | ((with_reducible refine gate_dst (N := 2) rfl ?_); refine box_event ?hg (N := 2) ?hd (cs := #[.int .i64 a0_0, .int .i64 a0_1, .int .i64 a0_2, .int .i64 a0_3, .int .i64 a0_4, .int .i64 a0_5]) (t := 68) ?hr ?_; (case hd => rfl); (case hg => rfl); (case hr => first | (go_simp; done) | (go_simp; rfl)); intro gb104 hg w4 hbox hb; have n0_ := Aside0.mk (below_step (by repeat (first | (with_reducible first | exact HB.out | apply below_alloc | apply pw_below_drewN | apply below_drew1) | exact HB.out)) hb); have n1_ := Aside0.mk (hbox); have n2_ := Aside0.mk ((by rw [hg]; exact (below_size (by repeat (first | (with_reducible first | exact HB.out | apply below_alloc | apply pw_below_drewN | apply below_drew1) | exact HB.out))) : w.heap.size ≤ gb104)); have n3_ := Aside0.mk ((by rw [hg]; exact (below_size (by repeat (first | (with_reducible first | exact HB.out | apply below_alloc | apply pw_below_drewN | apply below_drew1) | exact HB.out))) : w.heap.size ≤ gb104)); clear HB; have HB := n0_; have BK104 := n1_; have GW104 := n2_; have GE104 := n3_; clear n0_ n1_ n2_ n3_; clear hb hbox hg; have hcz5_0 : w4.cell? ⟨gb104, 0, none⟩ = some (.int .i64 a0_0) := (blk_cell BK104.out 0).trans rfl; have hcz5_1 : w4.cell? ⟨gb104, 1, none⟩ = some (.int .i64 a0_1) := (blk_cell BK104.out 1).trans rfl; have hcz5_2 : w4.cell? ⟨gb104, 2, none⟩ = some (.int .i64 a0_2) := (blk_cell BK104.out 2).trans rfl; have hcz5_3 : w4.cell? ⟨gb104, 3, none⟩ = some (.int .i64 a0_3) := (blk_cell BK104.out 3).trans rfl; have hcz5_4 : w4.cell? ⟨gb104, 4, none⟩ = some (.int .i64 a0_4) := (blk_cell BK104.out 4).trans rfl; have hcz5_5 : w4.cell? ⟨gb104, 5, none⟩ = some (.int .i64 a0_5) := (blk_cell BK104.out 5).trans rfl; have hfz5_0 := blk_frozen BK104.out 0; have hfz5_1 := blk_frozen BK104.out 1; have hfz5_2 := blk_frozen BK104.out 2; have hfz5_3 := blk_frozen BK104.out 3; have hfz5_4 := blk_frozen BK104.out 4; have hfz5_5 := blk_frozen BK104.out 5) | ((with_reducible refine gate_callee (f := 51) rfl ?_); refine goesL_ (some 18) rfl rfl Try.func51 (by kernel_rfl) rfl #[.int .i64 a0_1, .int .i64 a0_2, .int .i64 a0_3, .int .i64 a0_4, .int .i64 a0_0, .int .i64 a1, .int .i64 a0_5] rfl (by (try simp only [List.map_toArray, List.map_cons, List.map_nil]); first | done | rfl | (simp only [List.length_drop, List.length_take]; rfl)) ?_; (with_reducible refine (dormouseref01_away.calls a0_1 a0_2 a0_3 a0_4 a0_0 a1 a0_5 t105 _ A3.out).mono ?_); rintro e w' ⟨rfl, ⟨nd, rfl⟩⟩; refine ⟨_, rfl, ?_⟩))
  go_ret
  exact ⟨by first | rfl | (simp [errW_none, errW_some] <;> rfl) | (simp [*, errW_none, errW_some] <;> rfl), by repeat (first | (with_reducible first | exact HB.out | apply below_alloc | apply pw_below_drewN | apply below_drew1 | refine below_set ?_ GE104.out) | exact HB.out)⟩
def dormouseref01_Device.f (a0_0 : Int) (a0_1 : Int) (a0_2 : Int) (a0_3 : Int) (a0_4 : Int) (a0_5 : Int) (a0_6 : Int) : Option (Bool) := (dormouseref01_away.f a0_2 a0_3 a0_4 a0_5 a0_1 a0_0 a0_6).bind fun t107 => (some t107)
set_option maxHeartbeats 8000000 in
set_option maxRecDepth 100000 in
theorem dormouseref01_Device.calls (a0_0 : Int) (a0_1 : Int) (a0_2 : Int) (a0_3 : Int) (a0_4 : Int) (a0_5 : Int) (a0_6 : Int) (r : Bool) (w : World) (h : dormouseref01_Device.f a0_0 a0_1 a0_2 a0_3 a0_4 a0_5 a0_6 = some r) :
    Calls Try.prog 36 #[.agg #[.int .i64 a0_0, .int .i64 a0_1, .int .i64 a0_2, .int .i64 a0_3, .int .i64 a0_4, .int .i64 a0_5, .int .i64 a0_6]] w fun e w' => e = .returned (.bool r) ∧ Below w.heap.size w w' := by
  have hu71 := Try.underlying71
  have HB := Aside0.mk (Below.refl w.heap.size w)
  have H : ((dormouseref01_away.f a0_2 a0_3 a0_4 a0_5 a0_1 a0_0 a0_6).bind fun t107 => (some t107)) = some r := h
  clear h
  replace H := Option.bind_eq_some_iff.mp H
  obtain ⟨t107, A20, H⟩ := H
  replace H : (some t107) = some r := H
  have A2 := Aside0.mk A20
  clear A20
  obtain rfl := Option.some.inj H
  go_enter Try.func36, Try.ntmps36
  go_wp2_with (first | ((with_reducible refine gate_dst (N := 1) rfl ?_); refine box_event ?hg (N := 1) ?hd (cs := #[.int .i64 a0_0, .int .i64 a0_1, .int .i64 a0_2, .int .i64 a0_3, .int .i64 a0_4, .int .i64 a0_5, .int .i64 a0_6]) (t := 71) ?hr ?_; (case hd => rfl); (case hg => rfl); (case hr => first | (go_simp; done) | (go_simp; rfl)); intro gb106 hg w3 hbox hb; have n0_ := Aside0.mk (below_step (by repeat (first | (with_reducible first | exact HB.out | apply below_alloc | apply pw_below_drewN | apply below_drew1) | exact HB.out)) hb); have n1_ := Aside0.mk (hbox); have n2_ := Aside0.mk ((by rw [hg]; exact (below_size (by repeat (first | (with_reducible first | exact HB.out | apply below_alloc | apply pw_below_drewN | apply below_drew1) | exact HB.out))) : w.heap.size ≤ gb106)); have n3_ := Aside0.mk ((by rw [hg]; exact (below_size (by repeat (first | (with_reducible first | exact HB.out | apply below_alloc | apply pw_below_drewN | apply below_drew1) | exact HB.out))) : w.heap.size ≤ gb106)); clear HB; have HB := n0_; have BK106 := n1_; have GW106 := n2_; have GE106 := n3_; clear n0_ n1_ n2_ n3_; clear hb hbox hg; have hcz4_0 : w3.cell? ⟨gb106, 0, none⟩ = some (.int .i64 a0_0) := (blk_cell BK106.out 0).trans rfl; have hcz4_1 : w3.cell? ⟨gb106, 1, none⟩ = some (.int .i64 a0_1) := (blk_cell BK106.out 1).trans rfl; have hcz4_2 : w3.cell? ⟨gb106, 2, none⟩ = some (.int .i64 a0_2) := (blk_cell BK106.out 2).trans rfl; have hcz4_3 : w3.cell? ⟨gb106, 3, none⟩ = some (.int .i64 a0_3) := (blk_cell BK106.out 3).trans rfl; have hcz4_4 : w3.cell? ⟨gb106, 4, none⟩ = some (.int .i64 a0_4) := (blk_cell BK106.out 4).trans rfl; have hcz4_5 : w3.cell? ⟨gb106, 5, none⟩ = some (.int .i64 a0_5) := (blk_cell BK106.out 5).trans rfl; have hcz4_6 : w3.cell? ⟨gb106, 6, none⟩ = some (.int .i64 a0_6) := (blk_cell BK106.out 6).trans rfl; have hfz4_0 := blk_frozen BK106.out 0; have hfz4_1 := blk_frozen BK106.out 1; have hfz4_2 := blk_frozen BK106.out 2; have hfz4_3 := blk_frozen BK106.out 3; have hfz4_4 := blk_frozen BK106.out 4; have hfz4_5 := blk_frozen BK106.out 5; have hfz4_6 := blk_frozen BK106.out 6) | ((with_reducible refine gate_callee (f := 51) rfl ?_); refine goesL_ (some 17) rfl rfl Try.func51 (by kernel_rfl) rfl #[.int .i64 a0_2, .int .i64 a0_3, .int .i64 a0_4, .int .i64 a0_5, .int .i64 a0_1, .int .i64 a0_0, .int .i64 a0_6] rfl (by (try simp only [List.map_toArray, List.map_cons, List.map_nil]); first | done | rfl | (simp only [List.length_drop, List.length_take]; rfl)) ?_; (with_reducible refine (dormouseref01_away.calls a0_2 a0_3 a0_4 a0_5 a0_1 a0_0 a0_6 t107 _ A2.out).mono ?_); rintro e w' ⟨rfl, ⟨nd, rfl⟩⟩; refine ⟨_, rfl, ?_⟩))
  go_ret
  exact ⟨by first | rfl | (simp [errW_none, errW_some] <;> rfl) | (simp [*, errW_none, errW_some] <;> rfl), by repeat (first | (with_reducible first | exact HB.out | apply below_alloc | apply pw_below_drewN | apply below_drew1 | refine below_set ?_ GE106.out) | exact HB.out)⟩
end Go.Proofs.Ytchlbnlhjllcbaa.F
namespace Go.Proofs.Ytchlbnlhjllcbaa.Tbl
open Go.RowKit Go.Proofs.Ytchlbnlhjllcbaa.F Go.Proofs.YtchlbnlhjllcbaaW.PrintWords Go.Proofs.YtchlbnlhjllcbaaW.PrintLast Go.Proofs.YtchlbnlhjllcbaaW.PrintMore
attribute [local go_sem] max2_int min2_int max_two min_two max_three min_three max_four min_four
/-- The plain numbers of a machine. -/
def Head (n0 n1 n2 : Nat) (idle crit sw swE sems hor : Int) : Prop :=
  1 ≤ (n0 : Int) ∧ (n0 : Int) ≤ 4 ∧ 0 ≤ idle ∧ idle ≤ 65536 ∧ 0 ≤ crit ∧ crit < n0 ∧ 0 ≤ sw ∧ sw ≤ 256 ∧ 0 ≤ swE ∧ swE ≤ 65536 ∧
  (n1 : Int) ≤ 3 ∧ (n2 : Int) ≤ 3 ∧ 0 ≤ sems ∧ sems ≤ 3 ∧ 1 ≤ hor ∧ hor ≤ 16384
/-- Level i is right. -/
def LevelOk (ls : List S58) (idle crit : Int) (i : Int) : Prop :=
  (1 ≤ (rd_T58 ls i).f0 ∧ (rd_T58 ls i).f0 ≤ 256 ∧ 0 ≤ (rd_T58 ls i).f1 ∧ (rd_T58 ls i).f1 ≤ 65536) ∧ (0 < i → (rd_T58 ls (i - 1)).f0 < (rd_T58 ls i).f0) ∧
  (0 < i → i ≤ crit → (rd_T58 ls i).f1 - (rd_T58 ls i).f0 * idle ≤ (rd_T58 ls (i - 1)).f1 - (rd_T58 ls (i - 1)).f0 * idle)
/-- May something be away so? -/
def AwayOk (down up downE upE off on even : Int) : Prop :=
  0 ≤ down ∧ down ≤ 256 ∧ 0 ≤ up ∧ up ≤ 256 ∧ 0 ≤ downE ∧ downE ≤ 65536 ∧ 0 ≤ upE ∧ upE ≤ 65536 ∧ 0 ≤ on ∧ on ≤ 65536 ∧ 0 ≤ off ∧ off ≤ on ∧ down + up ≤ even ∧ 1 ≤ even ∧ even ≤ 16384 ∧
  downE + upE + off * (even - down - up) ≤ on * even
def SleepOk (s : S68) (idle : Int) : Prop := AwayOk s.f1 s.f2 s.f3 s.f4 s.f0 idle s.f5
def DeviceOk (d : S71) : Prop := AwayOk d.f2 d.f3 d.f4 d.f5 d.f1 d.f0 d.f6
structure TableOk (ls : List S58) (ss : List S68) (ds : List S71) (idle crit sw swE sems hor : Int) : Prop where
  head : Head ls.length ss.length ds.length idle crit sw swE sems hor
  levels : ∀ i : Int, 0 ≤ i → i < ls.length → LevelOk ls idle crit i
  sleeps : ∀ i : Int, 0 ≤ i → i < ss.length → SleepOk (rd_T68 ss i) idle
  devices : ∀ i : Int, 0 ≤ i → i < ds.length → DeviceOk (rd_T71 ds i)
open Classical in
noncomputable def tableB (ls : List S58) (ss : List S68) (ds : List S71) (idle crit sw swE sems hor : Int) : Bool := decide (TableOk ls ss ds idle crit sw swE sems hor)
theorem tableB_no {ls ss ds idle crit sw swE sems hor} (h : ¬ TableOk ls ss ds idle crit sw swE sems hor) : Ending.returned (Value.bool false) = Ending.returned (Value.bool (tableB ls ss ds idle crit sw swE sems hor)) := by
  simp [tableB, h]
theorem tableB_yes {ls ss ds idle crit sw swE sems hor} (h : TableOk ls ss ds idle crit sw swE sems hor) : Ending.returned (Value.bool true) = Ending.returned (Value.bool (tableB ls ss ds idle crit sw swE sems hor)) := by
  simp [tableB, h]
theorem tableB_head {ls ss ds idle crit sw swE sems hor} (h : ¬ Head ls.length ss.length ds.length idle crit sw swE sems hor) : Ending.returned (Value.bool false) = Ending.returned (Value.bool (tableB ls ss ds idle crit sw swE sems hor)) :=
  tableB_no (fun x => h x.head)
theorem tableB_level {ls ss ds idle crit sw swE sems hor} {i : Int} (h0 : Aside0 (0 ≤ i)) (h1 : Aside0 (i < (ls.length : Int))) (h : ¬ LevelOk ls idle crit i) : Ending.returned (Value.bool false) = Ending.returned (Value.bool (tableB ls ss ds idle crit sw swE sems hor)) :=
  tableB_no (fun x => h (x.levels i h0.out h1.out))
theorem badw {w w0 wr wq : World} (h : Below w.heap.size w w0) (h' : Below w0.heap.size w0 wr) (hq : Below wr.heap.size wr wq) (n : Nat) : Below w.heap.size w (wq.drewN n) := pw_below_drewN (below_step (below_step h h') hq) n
theorem nextw {w0 wr wq : World} (h' : Below w0.heap.size w0 wr) (hq : Below wr.heap.size wr wq) (n : Nat) : Below w0.heap.size w0 (wq.drewN n) := pw_below_drewN (below_step h' hq) n
section
variable {ls : List S58} {idle crit i P E P' E' : Int}
theorem bad0 (hP : P = (rd_T58 ls i).f0) (_ : E = (rd_T58 ls i).f1) (h : P < 1) : ¬ LevelOk ls idle crit i := fun x => by have := x.1.1; omega
theorem bad1 (hP : P = (rd_T58 ls i).f0) (_ : E = (rd_T58 ls i).f1) (h : 256 < P) : ¬ LevelOk ls idle crit i := fun x => by have := x.1.2.1; omega
theorem bad2 (_ : P = (rd_T58 ls i).f0) (hE : E = (rd_T58 ls i).f1) (h : E < 0) : ¬ LevelOk ls idle crit i := fun x => by have := x.1.2.2.1; omega
theorem bad3 (_ : P = (rd_T58 ls i).f0) (hE : E = (rd_T58 ls i).f1) (h : 65536 < E) : ¬ LevelOk ls idle crit i := fun x => by have := x.1.2.2.2; omega
theorem bad4 (hP : P = (rd_T58 ls i).f0) (hP' : P' = (rd_T58 ls (i - 1)).f0) (hi : 0 < i) (h : P ≤ P') : ¬ LevelOk ls idle crit i := fun x => by have := x.2.1 hi; omega
theorem bad6 (hP : P = (rd_T58 ls i).f0) (hE : E = (rd_T58 ls i).f1) (hP' : P' = (rd_T58 ls (i - 1)).f0) (hE' : E' = (rd_T58 ls (i - 1)).f1) (hi : 0 < i) (hc : i ≤ crit) (h : E' - P' * idle < E - P * idle) : ¬ LevelOk ls idle crit i :=
  fun x => by have := x.2.2 hi hc; rw [← hP, ← hE, ← hP', ← hE'] at this; omega
theorem ok_level (hP : P = (rd_T58 ls i).f0) (hE : E = (rd_T58 ls i).f1) (h1 : 1 ≤ P) (h2 : P ≤ 256) (h3 : 0 ≤ E) (h4 : E ≤ 65536) (h5 : 0 < i → (rd_T58 ls (i - 1)).f0 < (rd_T58 ls i).f0)
    (h6 : 0 < i → i ≤ crit → (rd_T58 ls i).f1 - (rd_T58 ls i).f0 * idle ≤ (rd_T58 ls (i - 1)).f1 - (rd_T58 ls (i - 1)).f0 * idle) : LevelOk ls idle crit i := by
  subst hP hE; exact ⟨⟨h1, h2, h3, h4⟩, h5, h6⟩
theorem levels_next (h : ∀ j : Int, 0 ≤ j → j < i → LevelOk ls idle crit j) (hn : LevelOk ls idle crit i) : ∀ j : Int, 0 ≤ j → j < i + 1 → LevelOk ls idle crit j := by
  intro j h0 h1
  by_cases e : j = i
  · subst e; exact hn
  · exact h j h0 (by omega)
theorem prod_bd {a b : Int} (h0 : 0 ≤ a) (h1 : a ≤ 256) (h2 : 0 ≤ b) (h3 : b ≤ 65536) : 0 ≤ a * b ∧ a * b ≤ 16777216 := by
  refine ⟨Int.mul_nonneg h0 h2, ?_⟩
  have : a * b ≤ 256 * 65536 := Int.mul_le_mul h1 h3 h2 (by omega)
  omega
end
theorem w64 {n : Int} (h0 : -9223372036854775808 ≤ n) (h1 : n ≤ 9223372036854775807) : wrap64 n = n := by unfold wrap64; omega
theorem away_yes {down up downE upE off on even : Int} (h : AwayOk down up downE upE off on even) : dormouseref01_away.f down up downE upE off on even = some true := by
  obtain ⟨a0, a1, a2, a3, a4, a5, a6, a7, a8, a9, a10, a11, a12, a13, a14, a15⟩ := h
  unfold dormouseref01_away.f
  rw [if_neg (by omega), if_neg (by omega), if_neg (by omega), if_neg (by omega), if_neg (by omega), if_neg (by omega), if_neg (by omega), if_neg (by omega), if_neg (by omega), if_neg (by omega), if_neg (by omega), if_neg (by omega)]
  rw [w64 (n := down + up) (by omega) (by omega), if_pos (by omega), if_pos (by omega), if_pos (by omega)]
  rw [w64 (n := even - down) (by omega) (by omega), w64 (n := even - down - up) (by omega) (by omega), w64 (n := downE + upE) (by omega) (by omega)]
  have m1 : 0 ≤ off * (even - down - up) ∧ off * (even - down - up) ≤ 65536 * 16384 := ⟨Int.mul_nonneg a10 (by omega), Int.mul_le_mul (by omega) (by omega) (by omega) (by omega)⟩
  have m2 : 0 ≤ on * even ∧ on * even ≤ 65536 * 16384 := ⟨Int.mul_nonneg a8 (by omega), Int.mul_le_mul (by omega) (by omega) (by omega) (by omega)⟩
  rw [w64 (n := off * (even - down - up)) (by omega) (by omega), w64 (n := on * even) (by omega) (by omega), w64 (n := downE + upE + off * (even - down - up)) (by omega) (by omega)]
  rw [decide_eq_true a15]
theorem away_no {down up downE upE off on even : Int} (h : ¬ AwayOk down up downE upE off on even) : dormouseref01_away.f down up downE upE off on even = some false := by
  unfold dormouseref01_away.f
  by_cases b0 : down < 0
  · rw [if_pos b0]
  rw [if_neg b0]
  by_cases b1 : down > 256
  · rw [if_pos b1]
  rw [if_neg b1]
  by_cases b2 : up < 0
  · rw [if_pos b2]
  rw [if_neg b2]
  by_cases b3 : up > 256
  · rw [if_pos b3]
  rw [if_neg b3]
  by_cases b4 : downE < 0
  · rw [if_pos b4]
  rw [if_neg b4]
  by_cases b5 : downE > 65536
  · rw [if_pos b5]
  rw [if_neg b5]
  by_cases b6 : upE < 0
  · rw [if_pos b6]
  rw [if_neg b6]
  by_cases b7 : upE > 65536
  · rw [if_pos b7]
  rw [if_neg b7]
  by_cases b8 : on < 0
  · rw [if_pos b8]
  rw [if_neg b8]
  by_cases b9 : on > 65536
  · rw [if_pos b9]
  rw [if_neg b9]
  by_cases b10 : off < 0
  · rw [if_pos b10]
  rw [if_neg b10]
  by_cases b11 : off > on
  · rw [if_pos b11]
  rw [if_neg b11]
  rw [w64 (n := down + up) (by omega) (by omega)]
  by_cases b12 : even ≥ down + up
  case neg => rw [if_neg b12]
  rw [if_pos b12]
  by_cases b13 : even ≥ 1
  case neg => rw [if_neg b13]
  rw [if_pos b13]
  by_cases b14 : even ≤ 16384
  case neg => rw [if_neg b14]
  rw [if_pos b14]
  rw [w64 (n := even - down) (by omega) (by omega), w64 (n := even - down - up) (by omega) (by omega), w64 (n := downE + upE) (by omega) (by omega)]
  have m1 : 0 ≤ off * (even - down - up) ∧ off * (even - down - up) ≤ 65536 * 16384 := ⟨Int.mul_nonneg (by omega) (by omega), Int.mul_le_mul (by omega) (by omega) (by omega) (by omega)⟩
  have m2 : 0 ≤ on * even ∧ on * even ≤ 65536 * 16384 := ⟨Int.mul_nonneg (by omega) (by omega), Int.mul_le_mul (by omega) (by omega) (by omega) (by omega)⟩
  rw [w64 (n := off * (even - down - up)) (by omega) (by omega), w64 (n := on * even) (by omega) (by omega), w64 (n := downE + upE + off * (even - down - up)) (by omega) (by omega)]
  rw [decide_eq_false]
  intro hh
  exact h ⟨by omega, by omega, by omega, by omega, by omega, by omega, by omega, by omega, by omega, by omega, by omega, by omega, by omega, by omega, by omega, hh⟩
theorem sleep_yes {s : S68} {idle : Int} (h : SleepOk s idle) : dormouseref01_Sleep.f s.f0 s.f1 s.f2 s.f3 s.f4 s.f5 idle = some true := by
  unfold dormouseref01_Sleep.f; rw [away_yes h]; rfl
theorem sleep_no {s : S68} {idle : Int} (h : ¬ SleepOk s idle) : dormouseref01_Sleep.f s.f0 s.f1 s.f2 s.f3 s.f4 s.f5 idle = some false := by
  unfold dormouseref01_Sleep.f; rw [away_no h]; rfl
theorem device_yes {s : S71} (h : DeviceOk s) : dormouseref01_Device.f s.f0 s.f1 s.f2 s.f3 s.f4 s.f5 s.f6 = some true := by
  unfold dormouseref01_Device.f; rw [away_yes h]; rfl
theorem device_no {s : S71} (h : ¬ DeviceOk s) : dormouseref01_Device.f s.f0 s.f1 s.f2 s.f3 s.f4 s.f5 s.f6 = some false := by
  unfold dormouseref01_Device.f; rw [away_no h]; rfl
theorem tableB_sleep {ls ss ds idle crit sw swE sems hor} {i : Int} {s : S68} (hs : s = rd_T68 ss i) (h0 : 0 ≤ i) (h1 : i < (ss.length : Int)) (h : ¬ SleepOk s idle) : Ending.returned (Value.bool false) = Ending.returned (Value.bool (tableB ls ss ds idle crit sw swE sems hor)) :=
  tableB_no (fun x => h (by rw [hs]; exact x.sleeps i h0 h1))
theorem tableB_device {ls ss ds idle crit sw swE sems hor} {i : Int} {s : S71} (hs : s = rd_T71 ds i) (h0 : 0 ≤ i) (h1 : i < (ds.length : Int)) (h : ¬ DeviceOk s) : Ending.returned (Value.bool false) = Ending.returned (Value.bool (tableB ls ss ds idle crit sw swE sems hor)) :=
  tableB_no (fun x => h (by rw [hs]; exact x.devices i h0 h1))
theorem next_one {p : Int → Prop} {i : Int} (h : ∀ j : Int, 0 ≤ j → j < i → p j) (hn : p i) : ∀ j : Int, 0 ≤ j → j < i + 1 → p j := by
  intro j h0 h1
  by_cases e : j = i
  · subst e; exact hn
  · exact h j h0 (by omega)
theorem tail_w {w w1 wr w2 W : World} (h1 : Below w.heap.size w w1) (h : Below w1.heap.size w1 wr) (hd : Below wr.heap.size wr w2) (hb : Below w2.heap.size w2 W) : Below w.heap.size w W := below_step (below_step (below_step h1 h) hd) hb
theorem tail_w1 {w1 wr w2 W : World} (h : Below w1.heap.size w1 wr) (hd : Below wr.heap.size wr w2) (hb : Below w2.heap.size w2 W) : Below w1.heap.size w1 W := below_step (below_step h hd) hb
end Go.Proofs.Ytchlbnlhjllcbaa.Tbl
namespace Go.Proofs.Ytchlbnlhjllcbaa.F
open Go.RowKit Go.Proofs.YtchlbnlhjllcbaaW.PrintWords Go.Proofs.YtchlbnlhjllcbaaW.PrintLast Go.Proofs.YtchlbnlhjllcbaaW.PrintMore
attribute [local go_sem] max2_int min2_int max_two min_two max_three min_three max_four min_four   -- for this text's walks alone
set_option linter.unusedVariables false
set_option linter.unusedSimpArgs false
def job_Quanta.f (l0_0 : List (S58)) (l0_1 : List (S68)) (l0_2 : List (S71)) (a0_3 : Int) (a0_4 : Int) (a0_5 : Int) (a0_6 : Int) (a0_7 : Int) (a0_8 : Int) (a1_0 : Int) (a1_1 : Int) (a1_2 : Int) (a1_3 : Int) (a1_4 : Int) (a1_5 : Bool) : Option (Int) := if 0 < (l0_0.length : Int) then (if a1_5 = true then (some (wrap64 ((wrap64 ((mx a1_3 0) * ((rd_T58 l0_0 0).f0))) + a0_5))) else (some (wrap64 ((wrap64 ((wrap64 ((mx a1_3 0) * ((rd_T58 l0_0 0).f0))) + a0_5)) + a0_5)))) else (none)
set_option maxHeartbeats 8000000 in
set_option maxRecDepth 100000 in
theorem job_Quanta.calls (A0_0 : Option Addr) (c0_0 : Nat) (l0_0 : List (S58)) (A0_1 : Option Addr) (c0_1 : Nat) (l0_1 : List (S68)) (A0_2 : Option Addr) (c0_2 : Nat) (l0_2 : List (S71)) (a0_3 : Int) (a0_4 : Int) (a0_5 : Int) (a0_6 : Int) (a0_7 : Int) (a0_8 : Int) (a1_0 : Int) (a1_1 : Int) (a1_2 : Int) (a1_3 : Int) (a1_4 : Int) (a1_5 : Bool) (r : Int) (w : World) (hr0_0 : Kd.C k58 w A0_0 l0_0.length l0_0) (hc0_0 : l0_0.length ≤ c0_0) (hr0_1 : Kd.C k68 w A0_1 l0_1.length l0_1) (hc0_1 : l0_1.length ≤ c0_1) (hr0_2 : Kd.C k71 w A0_2 l0_2.length l0_2) (hc0_2 : l0_2.length ≤ c0_2) (h : job_Quanta.f l0_0 l0_1 l0_2 a0_3 a0_4 a0_5 a0_6 a0_7 a0_8 a1_0 a1_1 a1_2 a1_3 a1_4 a1_5 = some r) :
    Calls Try.prog 43 #[.agg #[.slice A0_0 l0_0.length c0_0, .slice A0_1 l0_1.length c0_1, .slice A0_2 l0_2.length c0_2, .int .i64 a0_3, .int .i64 a0_4, .int .i64 a0_5, .int .i64 a0_6, .int .i64 a0_7, .int .i64 a0_8], .agg #[.int .i64 a1_0, .int .i64 a1_1, .int .i64 a1_2, .int .i64 a1_3, .int .i64 a1_4, .bool a1_5]] w fun e w' => e = .returned (.int .i64 r) ∧ Below w.heap.size w w' := by
  have hu26 := Try.underlying26
  have hu38 := Try.underlying38
  have HR0_0 := Aside0.mk hr0_0
  have HC0_0 := Aside0.mk hc0_0
  clear hr0_0 hc0_0
  have HR0_1 := Aside0.mk hr0_1
  have HC0_1 := Aside0.mk hc0_1
  clear hr0_1 hc0_1
  have HR0_2 := Aside0.mk hr0_2
  have HC0_2 := Aside0.mk hc0_2
  clear hr0_2 hc0_2
  have HB := Aside0.mk (Below.refl w.heap.size w)
  have H : (if 0 < (l0_0.length : Int) then (if a1_5 = true then (some (wrap64 ((wrap64 ((mx a1_3 0) * ((rd_T58 l0_0 0).f0))) + a0_5))) else (some (wrap64 ((wrap64 ((wrap64 ((mx a1_3 0) * ((rd_T58 l0_0 0).f0))) + a0_5)) + a0_5)))) else (none)) = some r := h
  clear h
  obtain ⟨ji3, hji3⟩ : ∃ j_ : Int, (mx a1_3 0) = j_ := ⟨_, rfl⟩
  replace H : (if 0 < (l0_0.length : Int) then (if a1_5 = true then (some (wrap64 ((wrap64 ((ji3) * ((rd_T58 l0_0 0).f0))) + a0_5))) else (some (wrap64 ((wrap64 ((wrap64 ((ji3) * ((rd_T58 l0_0 0).f0))) + a0_5)) + a0_5)))) else (none)) = some r := by first | (rw [hji3] at H; exact H) | (simp only [hji3] at H ⊢; exact H)
  (try (have hji3l : 0 ≤ ji3 := by (rw [← hji3]; unfold mx; (repeat' split) <;> omega)))
  (try (have hji3m : 0 ≤ ji3 := by omega))
  have hji3_ : (if a1_3 < 0 then 0 else a1_3) = ji3 := hji3
  by_cases c4 : 0 < (l0_0.length : Int)
  · rw [if_pos c4] at H
    have c4b0 : decide (0 < (l0_0.length : Int)) = true := decide_eq_true c4
    have c4b1 : decide (0 < l0_0.length) = true := decide_eq_true (by omega)
    clear c4
    by_cases c5 : a1_5 = true
    · subst c5
      have H1 : (some (wrap64 ((wrap64 ((ji3) * ((rd_T58 l0_0 0).f0))) + a0_5))) = some r := by rw [if_pos rfl] at H; exact H
      clear H
      have H := H1
      clear H1
      obtain rfl := Option.some.inj H
      go_enter Try.func43, Try.ntmps43
      go_wp2_with (first | ((with_reducible refine gate_dst (N := 2) rfl ?_); refine box_event ?hg (N := 2) ?hd (cs := #[.slice A0_0 l0_0.length c0_0, .slice A0_1 l0_1.length c0_1, .slice A0_2 l0_2.length c0_2, .int .i64 a0_3, .int .i64 a0_4, .int .i64 a0_5, .int .i64 a0_6, .int .i64 a0_7, .int .i64 a0_8]) (t := 26) ?hr ?_; (case hd => rfl); (case hg => rfl); (case hr => first | (go_simp; done) | (go_simp; rfl)); intro gb207 hg w6 hbox hb; have n0_ := Aside0.mk (below_step (by repeat (first | (with_reducible first | exact HB.out | apply below_alloc | apply pw_below_drewN | apply below_drew1) | exact HB.out)) hb); have n1_ := Aside0.mk (hbox); have n2_ := Aside0.mk ((by rw [hg]; exact (below_size (by repeat (first | (with_reducible first | exact HB.out | apply below_alloc | apply pw_below_drewN | apply below_drew1) | exact HB.out))) : w.heap.size ≤ gb207)); have n3_ := Aside0.mk ((by rw [hg]; exact (below_size (by repeat (first | (with_reducible first | exact HB.out | apply below_alloc | apply pw_below_drewN | apply below_drew1) | exact HB.out))) : w.heap.size ≤ gb207)); clear HB; have HB := n0_; have BK207 := n1_; have GW207 := n2_; have GE207 := n3_; clear n0_ n1_ n2_ n3_; clear hb hbox hg) | ((with_reducible refine gate_dst (N := 3) rfl ?_); refine box_event ?hg (N := 3) ?hd (cs := #[.int .i64 a1_0, .int .i64 a1_1, .int .i64 a1_2, .int .i64 a1_3, .int .i64 a1_4, .bool true]) (t := 38) ?hr ?_; (case hd => rfl); (case hg => rfl); (case hr => first | (go_simp; done) | (go_simp; rfl)); intro gb208 hg w7 hbox hb; have n0_ := Aside0.mk (blk_below (g := gb207) (o := .cells #[.slice A0_0 l0_0.length c0_0, .slice A0_1 l0_1.length c0_1, .slice A0_2 l0_2.length c0_2, .int .i64 a0_3, .int .i64 a0_4, .int .i64 a0_5, .int .i64 a0_6, .int .i64 a0_7, .int .i64 a0_8] 26 (0, 0)) (by (with_reducible repeat (first | refine blk_drewN ?_ _ | refine blk_drew ?_ | refine blk_alloc ?_ _)); exact BK207.out) hb); have n1_ := Aside0.mk (below_step (by repeat (first | (with_reducible first | exact HB.out | apply below_alloc | apply pw_below_drewN | apply below_drew1 | refine below_set ?_ GE207.out) | exact HB.out)) hb); have n2_ := Aside0.mk (hbox); have n3_ := Aside0.mk ((by rw [hg]; exact (below_size (by repeat (first | (with_reducible first | exact HB.out | apply below_alloc | apply pw_below_drewN | apply below_drew1 | refine below_set ?_ GE207.out) | exact HB.out))) : w.heap.size ≤ gb208)); have n4_ := Aside0.mk ((by rw [hg]; exact (below_size (by repeat (first | (with_reducible first | exact HB.out | apply below_alloc | apply pw_below_drewN | apply below_drew1 | refine below_set ?_ GE207.out) | exact HB.out))) : w.heap.size ≤ gb208)); have n5_ := Aside0.mk ((by rw [hg]; exact Nat.ne_of_lt (blk_lt (g := gb207) (o := .cells #[.slice A0_0 l0_0.length c0_0, .slice A0_1 l0_1.length c0_1, .slice A0_2 l0_2.length c0_2, .int .i64 a0_3, .int .i64 a0_4, .int .i64 a0_5, .int .i64 a0_6, .int .i64 a0_7, .int .i64 a0_8] 26 (0, 0)) (by (with_reducible repeat (first | refine blk_drewN ?_ _ | refine blk_drew ?_ | refine blk_alloc ?_ _)); exact BK207.out)) : gb207 ≠ gb208)); have n6_ := Aside0.mk ((by rw [hg]; exact Nat.ne_of_gt (blk_lt (g := gb207) (o := .cells #[.slice A0_0 l0_0.length c0_0, .slice A0_1 l0_1.length c0_1, .slice A0_2 l0_2.length c0_2, .int .i64 a0_3, .int .i64 a0_4, .int .i64 a0_5, .int .i64 a0_6, .int .i64 a0_7, .int .i64 a0_8] 26 (0, 0)) (by (with_reducible repeat (first | refine blk_drewN ?_ _ | refine blk_drew ?_ | refine blk_alloc ?_ _)); exact BK207.out)) : gb208 ≠ gb207)); clear BK207; clear HB; have BK207 := n0_; have HB := n1_; have BK208 := n2_; have GW208 := n3_; have GE208 := n4_; have NB207_208 := n5_; have NB208_207 := n6_; clear n0_ n1_ n2_ n3_ n4_ n5_ n6_; clear hb hbox hg; have hnb8 := NB208_207.out; have hnc8 := NB207_208.out; have hcz9_0 : w7.cell? ⟨gb208, 0, none⟩ = some (.int .i64 a1_0) := (blk_cell BK208.out 0).trans rfl; have hcz9_1 : w7.cell? ⟨gb208, 1, none⟩ = some (.int .i64 a1_1) := (blk_cell BK208.out 1).trans rfl; have hcz9_2 : w7.cell? ⟨gb208, 2, none⟩ = some (.int .i64 a1_2) := (blk_cell BK208.out 2).trans rfl; have hcz9_3 : w7.cell? ⟨gb208, 3, none⟩ = some (.int .i64 a1_3) := (blk_cell BK208.out 3).trans rfl; have hcz9_4 : w7.cell? ⟨gb208, 4, none⟩ = some (.int .i64 a1_4) := (blk_cell BK208.out 4).trans rfl; have hcz9_5 : w7.cell? ⟨gb208, 5, none⟩ = some (.bool true) := (blk_cell BK208.out 5).trans rfl; have hfz9_0 := blk_frozen BK208.out 0; have hfz9_1 := blk_frozen BK208.out 1; have hfz9_2 := blk_frozen BK208.out 2; have hfz9_3 := blk_frozen BK208.out 3; have hfz9_4 := blk_frozen BK208.out 4; have hfz9_5 := blk_frozen BK208.out 5; have hcz10_0 : w7.cell? ⟨gb207, 0, none⟩ = some (.slice A0_0 l0_0.length c0_0) := (blk_cell BK207.out 0).trans rfl; have hcz10_1 : w7.cell? ⟨gb207, 1, none⟩ = some (.slice A0_1 l0_1.length c0_1) := (blk_cell BK207.out 1).trans rfl; have hcz10_2 : w7.cell? ⟨gb207, 2, none⟩ = some (.slice A0_2 l0_2.length c0_2) := (blk_cell BK207.out 2).trans rfl; have hcz10_3 : w7.cell? ⟨gb207, 3, none⟩ = some (.int .i64 a0_3) := (blk_cell BK207.out 3).trans rfl; have hcz10_4 : w7.cell? ⟨gb207, 4, none⟩ = some (.int .i64 a0_4) := (blk_cell BK207.out 4).trans rfl; have hcz10_5 : w7.cell? ⟨gb207, 5, none⟩ = some (.int .i64 a0_5) := (blk_cell BK207.out 5).trans rfl; have hcz10_6 : w7.cell? ⟨gb207, 6, none⟩ = some (.int .i64 a0_6) := (blk_cell BK207.out 6).trans rfl; have hcz10_7 : w7.cell? ⟨gb207, 7, none⟩ = some (.int .i64 a0_7) := (blk_cell BK207.out 7).trans rfl; have hcz10_8 : w7.cell? ⟨gb207, 8, none⟩ = some (.int .i64 a0_8) := (blk_cell BK207.out 8).trans rfl; have hfz10_0 := blk_frozen BK207.out 0; have hfz10_1 := blk_frozen BK207.out 1; have hfz10_2 := blk_frozen BK207.out 2; have hfz10_3 := blk_frozen BK207.out 3; have hfz10_4 := blk_frozen BK207.out 4; have hfz10_5 := blk_frozen BK207.out 5; have hfz10_6 := blk_frozen BK207.out 6; have hfz10_7 := blk_frozen BK207.out 7; have hfz10_8 := blk_frozen BK207.out 8; have p209 : 0 ≤ (0 : Int) := (by omega); have q209 : 0 < (l0_0.length : Int) := of_decide_eq_true (by first | (with_reducible assumption) | assumption); obtain ⟨ad209, e209, hx209_0, hx209_1⟩ := at_T58 HR0_0.out 0 p209 q209; cases e209; have qi209 : (0 < l0_0.length) = True := eq_true (by omega); (try rw [show ((0 : Int)).toNat = 0 from rfl] at hx209_0); (try rw [show 0 * 2 = 0 from rfl] at hx209_0); (try rw [Addr.add_zero'] at hx209_0); (try rw [show ((0 : Int)).toNat = 0 from rfl] at hx209_1); (try rw [show 0 * 2 = 0 from rfl] at hx209_1); (try rw [Addr.add_zero'] at hx209_1); replace hx209_0 := (HB.out.cell (World.block_lt_of_cell? w _ hx209_0)).trans hx209_0; replace hx209_1 := (HB.out.cell (World.block_lt_of_cell? w _ hx209_1)).trans hx209_1; replace p209 := eq_true p209; replace q209 := eq_true q209))
      repeat (go_quiet (first | ((with_reducible refine gate_dst (N := 2) rfl ?_); refine box_event ?hg (N := 2) ?hd (cs := #[.slice A0_0 l0_0.length c0_0, .slice A0_1 l0_1.length c0_1, .slice A0_2 l0_2.length c0_2, .int .i64 a0_3, .int .i64 a0_4, .int .i64 a0_5, .int .i64 a0_6, .int .i64 a0_7, .int .i64 a0_8]) (t := 26) ?hr ?_; (case hd => rfl); (case hg => rfl); (case hr => first | (go_simp; done) | (go_simp; rfl)); intro gb207 hg w6 hbox hb; have n0_ := Aside0.mk (below_step (by repeat (first | (with_reducible first | exact HB.out | apply below_alloc | apply pw_below_drewN | apply below_drew1) | exact HB.out)) hb); have n1_ := Aside0.mk (hbox); have n2_ := Aside0.mk ((by rw [hg]; exact (below_size (by repeat (first | (with_reducible first | exact HB.out | apply below_alloc | apply pw_below_drewN | apply below_drew1) | exact HB.out))) : w.heap.size ≤ gb207)); have n3_ := Aside0.mk ((by rw [hg]; exact (below_size (by repeat (first | (with_reducible first | exact HB.out | apply below_alloc | apply pw_below_drewN | apply below_drew1) | exact HB.out))) : w.heap.size ≤ gb207)); clear HB; have HB := n0_; have BK207 := n1_; have GW207 := n2_; have GE207 := n3_; clear n0_ n1_ n2_ n3_; clear hb hbox hg) | ((with_reducible refine gate_dst (N := 3) rfl ?_); refine box_event ?hg (N := 3) ?hd (cs := #[.int .i64 a1_0, .int .i64 a1_1, .int .i64 a1_2, .int .i64 a1_3, .int .i64 a1_4, .bool true]) (t := 38) ?hr ?_; (case hd => rfl); (case hg => rfl); (case hr => first | (go_simp; done) | (go_simp; rfl)); intro gb208 hg w7 hbox hb; have n0_ := Aside0.mk (blk_below (g := gb207) (o := .cells #[.slice A0_0 l0_0.length c0_0, .slice A0_1 l0_1.length c0_1, .slice A0_2 l0_2.length c0_2, .int .i64 a0_3, .int .i64 a0_4, .int .i64 a0_5, .int .i64 a0_6, .int .i64 a0_7, .int .i64 a0_8] 26 (0, 0)) (by (with_reducible repeat (first | refine blk_drewN ?_ _ | refine blk_drew ?_ | refine blk_alloc ?_ _)); exact BK207.out) hb); have n1_ := Aside0.mk (below_step (by repeat (first | (with_reducible first | exact HB.out | apply below_alloc | apply pw_below_drewN | apply below_drew1 | refine below_set ?_ GE207.out) | exact HB.out)) hb); have n2_ := Aside0.mk (hbox); have n3_ := Aside0.mk ((by rw [hg]; exact (below_size (by repeat (first | (with_reducible first | exact HB.out | apply below_alloc | apply pw_below_drewN | apply below_drew1 | refine below_set ?_ GE207.out) | exact HB.out))) : w.heap.size ≤ gb208)); have n4_ := Aside0.mk ((by rw [hg]; exact (below_size (by repeat (first | (with_reducible first | exact HB.out | apply below_alloc | apply pw_below_drewN | apply below_drew1 | refine below_set ?_ GE207.out) | exact HB.out))) : w.heap.size ≤ gb208)); have n5_ := Aside0.mk ((by rw [hg]; exact Nat.ne_of_lt (blk_lt (g := gb207) (o := .cells #[.slice A0_0 l0_0.length c0_0, .slice A0_1 l0_1.length c0_1, .slice A0_2 l0_2.length c0_2, .int .i64 a0_3, .int .i64 a0_4, .int .i64 a0_5, .int .i64 a0_6, .int .i64 a0_7, .int .i64 a0_8] 26 (0, 0)) (by (with_reducible repeat (first | refine blk_drewN ?_ _ | refine blk_drew ?_ | refine blk_alloc ?_ _)); exact BK207.out)) : gb207 ≠ gb208)); have n6_ := Aside0.mk ((by rw [hg]; exact Nat.ne_of_gt (blk_lt (g := gb207) (o := .cells #[.slice A0_0 l0_0.length c0_0, .slice A0_1 l0_1.length c0_1, .slice A0_2 l0_2.length c0_2, .int .i64 a0_3, .int .i64 a0_4, .int .i64 a0_5, .int .i64 a0_6, .int .i64 a0_7, .int .i64 a0_8] 26 (0, 0)) (by (with_reducible repeat (first | refine blk_drewN ?_ _ | refine blk_drew ?_ | refine blk_alloc ?_ _)); exact BK207.out)) : gb208 ≠ gb207)); clear BK207; clear HB; have BK207 := n0_; have HB := n1_; have BK208 := n2_; have GW208 := n3_; have GE208 := n4_; have NB207_208 := n5_; have NB208_207 := n6_; clear n0_ n1_ n2_ n3_ n4_ n5_ n6_; clear hb hbox hg; have hnb8 := NB208_207.out; have hnc8 := NB207_208.out; have hcz9_0 : w7.cell? ⟨gb208, 0, none⟩ = some (.int .i64 a1_0) := (blk_cell BK208.out 0).trans rfl; have hcz9_1 : w7.cell? ⟨gb208, 1, none⟩ = some (.int .i64 a1_1) := (blk_cell BK208.out 1).trans rfl; have hcz9_2 : w7.cell? ⟨gb208, 2, none⟩ = some (.int .i64 a1_2) := (blk_cell BK208.out 2).trans rfl; have hcz9_3 : w7.cell? ⟨gb208, 3, none⟩ = some (.int .i64 a1_3) := (blk_cell BK208.out 3).trans rfl; have hcz9_4 : w7.cell? ⟨gb208, 4, none⟩ = some (.int .i64 a1_4) := (blk_cell BK208.out 4).trans rfl; have hcz9_5 : w7.cell? ⟨gb208, 5, none⟩ = some (.bool true) := (blk_cell BK208.out 5).trans rfl; have hfz9_0 := blk_frozen BK208.out 0; have hfz9_1 := blk_frozen BK208.out 1; have hfz9_2 := blk_frozen BK208.out 2; have hfz9_3 := blk_frozen BK208.out 3; have hfz9_4 := blk_frozen BK208.out 4; have hfz9_5 := blk_frozen BK208.out 5; have hcz10_0 : w7.cell? ⟨gb207, 0, none⟩ = some (.slice A0_0 l0_0.length c0_0) := (blk_cell BK207.out 0).trans rfl; have hcz10_1 : w7.cell? ⟨gb207, 1, none⟩ = some (.slice A0_1 l0_1.length c0_1) := (blk_cell BK207.out 1).trans rfl; have hcz10_2 : w7.cell? ⟨gb207, 2, none⟩ = some (.slice A0_2 l0_2.length c0_2) := (blk_cell BK207.out 2).trans rfl; have hcz10_3 : w7.cell? ⟨gb207, 3, none⟩ = some (.int .i64 a0_3) := (blk_cell BK207.out 3).trans rfl; have hcz10_4 : w7.cell? ⟨gb207, 4, none⟩ = some (.int .i64 a0_4) := (blk_cell BK207.out 4).trans rfl; have hcz10_5 : w7.cell? ⟨gb207, 5, none⟩ = some (.int .i64 a0_5) := (blk_cell BK207.out 5).trans rfl; have hcz10_6 : w7.cell? ⟨gb207, 6, none⟩ = some (.int .i64 a0_6) := (blk_cell BK207.out 6).trans rfl; have hcz10_7 : w7.cell? ⟨gb207, 7, none⟩ = some (.int .i64 a0_7) := (blk_cell BK207.out 7).trans rfl; have hcz10_8 : w7.cell? ⟨gb207, 8, none⟩ = some (.int .i64 a0_8) := (blk_cell BK207.out 8).trans rfl; have hfz10_0 := blk_frozen BK207.out 0; have hfz10_1 := blk_frozen BK207.out 1; have hfz10_2 := blk_frozen BK207.out 2; have hfz10_3 := blk_frozen BK207.out 3; have hfz10_4 := blk_frozen BK207.out 4; have hfz10_5 := blk_frozen BK207.out 5; have hfz10_6 := blk_frozen BK207.out 6; have hfz10_7 := blk_frozen BK207.out 7; have hfz10_8 := blk_frozen BK207.out 8; have p209 : 0 ≤ (0 : Int) := (by omega); have q209 : 0 < (l0_0.length : Int) := of_decide_eq_true (by first | (with_reducible assumption) | assumption); obtain ⟨ad209, e209, hx209_0, hx209_1⟩ := at_T58 HR0_0.out 0 p209 q209; cases e209; have qi209 : (0 < l0_0.length) = True := eq_true (by omega); (try rw [show ((0 : Int)).toNat = 0 from rfl] at hx209_0); (try rw [show 0 * 2 = 0 from rfl] at hx209_0); (try rw [Addr.add_zero'] at hx209_0); (try rw [show ((0 : Int)).toNat = 0 from rfl] at hx209_1); (try rw [show 0 * 2 = 0 from rfl] at hx209_1); (try rw [Addr.add_zero'] at hx209_1); replace hx209_0 := (HB.out.cell (World.block_lt_of_cell? w _ hx209_0)).trans hx209_0; replace hx209_1 := (HB.out.cell (World.block_lt_of_cell? w _ hx209_1)).trans hx209_1; replace p209 := eq_true p209; replace q209 := eq_true q209)); try go_wp2_with (first | ((with_reducible refine gate_dst (N := 2) rfl ?_); refine box_event ?hg (N := 2) ?hd (cs := #[.slice A0_0 l0_0.length c0_0, .slice A0_1 l0_1.length c0_1, .slice A0_2 l0_2.length c0_2, .int .i64 a0_3, .int .i64 a0_4, .int .i64 a0_5, .int .i64 a0_6, .int .i64 a0_7, .int .i64 a0_8]) (t := 26) ?hr ?_; (case hd => rfl); (case hg => rfl); (case hr => first | (go_simp; done) | (go_simp; rfl)); intro gb207 hg w6 hbox hb; have n0_ := Aside0.mk (below_step (by repeat (first | (with_reducible first | exact HB.out | apply below_alloc | apply pw_below_drewN | apply below_drew1) | exact HB.out)) hb); have n1_ := Aside0.mk (hbox); have n2_ := Aside0.mk ((by rw [hg]; exact (below_size (by repeat (first | (with_reducible first | exact HB.out | apply below_alloc | apply pw_below_drewN | apply below_drew1) | exact HB.out))) : w.heap.size ≤ gb207)); have n3_ := Aside0.mk ((by rw [hg]; exact (below_size (by repeat (first | (with_reducible first | exact HB.out | apply below_alloc | apply pw_below_drewN | apply below_drew1) | exact HB.out))) : w.heap.size ≤ gb207)); clear HB; have HB := n0_; have BK207 := n1_; have GW207 := n2_; have GE207 := n3_; clear n0_ n1_ n2_ n3_; clear hb hbox hg) | ((with_reducible refine gate_dst (N := 3) rfl ?_); refine box_event ?hg (N := 3) ?hd (cs := #[.int .i64 a1_0, .int .i64 a1_1, .int .i64 a1_2, .int .i64 a1_3, .int .i64 a1_4, .bool true]) (t := 38) ?hr ?_; (case hd => rfl); (case hg => rfl); (case hr => first | (go_simp; done) | (go_simp; rfl)); intro gb208 hg w7 hbox hb; have n0_ := Aside0.mk (blk_below (g := gb207) (o := .cells #[.slice A0_0 l0_0.length c0_0, .slice A0_1 l0_1.length c0_1, .slice A0_2 l0_2.length c0_2, .int .i64 a0_3, .int .i64 a0_4, .int .i64 a0_5, .int .i64 a0_6, .int .i64 a0_7, .int .i64 a0_8] 26 (0, 0)) (by (with_reducible repeat (first | refine blk_drewN ?_ _ | refine blk_drew ?_ | refine blk_alloc ?_ _)); exact BK207.out) hb); have n1_ := Aside0.mk (below_step (by repeat (first | (with_reducible first | exact HB.out | apply below_alloc | apply pw_below_drewN | apply below_drew1 | refine below_set ?_ GE207.out) | exact HB.out)) hb); have n2_ := Aside0.mk (hbox); have n3_ := Aside0.mk ((by rw [hg]; exact (below_size (by repeat (first | (with_reducible first | exact HB.out | apply below_alloc | apply pw_below_drewN | apply below_drew1 | refine below_set ?_ GE207.out) | exact HB.out))) : w.heap.size ≤ gb208)); have n4_ := Aside0.mk ((by rw [hg]; exact (below_size (by repeat (first | (with_reducible first | exact HB.out | apply below_alloc | apply pw_below_drewN | apply below_drew1 | refine below_set ?_ GE207.out) | exact HB.out))) : w.heap.size ≤ gb208)); have n5_ := Aside0.mk ((by rw [hg]; exact Nat.ne_of_lt (blk_lt (g := gb207) (o := .cells #[.slice A0_0 l0_0.length c0_0, .slice A0_1 l0_1.length c0_1, .slice A0_2 l0_2.length c0_2, .int .i64 a0_3, .int .i64 a0_4, .int .i64 a0_5, .int .i64 a0_6, .int .i64 a0_7, .int .i64 a0_8] 26 (0, 0)) (by (with_reducible repeat (first | refine blk_drewN ?_ _ | refine blk_drew ?_ | refine blk_alloc ?_ _)); exact BK207.out)) : gb207 ≠ gb208)); have n6_ := Aside0.mk ((by rw [hg]; exact Nat.ne_of_gt (blk_lt (g := gb207) (o := .cells #[.slice A0_0 l0_0.length c0_0, .slice A0_1 l0_1.length c0_1, .slice A0_2 l0_2.length c0_2, .int .i64 a0_3, .int .i64 a0_4, .int .i64 a0_5, .int .i64 a0_6, .int .i64 a0_7, .int .i64 a0_8] 26 (0, 0)) (by (with_reducible repeat (first | refine blk_drewN ?_ _ | refine blk_drew ?_ | refine blk_alloc ?_ _)); exact BK207.out)) : gb208 ≠ gb207)); clear BK207; clear HB; have BK207 := n0_; have HB := n1_; have BK208 := n2_; have GW208 := n3_; have GE208 := n4_; have NB207_208 := n5_; have NB208_207 := n6_; clear n0_ n1_ n2_ n3_ n4_ n5_ n6_; clear hb hbox hg; have hnb8 := NB208_207.out; have hnc8 := NB207_208.out; have hcz9_0 : w7.cell? ⟨gb208, 0, none⟩ = some (.int .i64 a1_0) := (blk_cell BK208.out 0).trans rfl; have hcz9_1 : w7.cell? ⟨gb208, 1, none⟩ = some (.int .i64 a1_1) := (blk_cell BK208.out 1).trans rfl; have hcz9_2 : w7.cell? ⟨gb208, 2, none⟩ = some (.int .i64 a1_2) := (blk_cell BK208.out 2).trans rfl; have hcz9_3 : w7.cell? ⟨gb208, 3, none⟩ = some (.int .i64 a1_3) := (blk_cell BK208.out 3).trans rfl; have hcz9_4 : w7.cell? ⟨gb208, 4, none⟩ = some (.int .i64 a1_4) := (blk_cell BK208.out 4).trans rfl; have hcz9_5 : w7.cell? ⟨gb208, 5, none⟩ = some (.bool true) := (blk_cell BK208.out 5).trans rfl; have hfz9_0 := blk_frozen BK208.out 0; have hfz9_1 := blk_frozen BK208.out 1; have hfz9_2 := blk_frozen BK208.out 2; have hfz9_3 := blk_frozen BK208.out 3; have hfz9_4 := blk_frozen BK208.out 4; have hfz9_5 := blk_frozen BK208.out 5; have hcz10_0 : w7.cell? ⟨gb207, 0, none⟩ = some (.slice A0_0 l0_0.length c0_0) := (blk_cell BK207.out 0).trans rfl; have hcz10_1 : w7.cell? ⟨gb207, 1, none⟩ = some (.slice A0_1 l0_1.length c0_1) := (blk_cell BK207.out 1).trans rfl; have hcz10_2 : w7.cell? ⟨gb207, 2, none⟩ = some (.slice A0_2 l0_2.length c0_2) := (blk_cell BK207.out 2).trans rfl; have hcz10_3 : w7.cell? ⟨gb207, 3, none⟩ = some (.int .i64 a0_3) := (blk_cell BK207.out 3).trans rfl; have hcz10_4 : w7.cell? ⟨gb207, 4, none⟩ = some (.int .i64 a0_4) := (blk_cell BK207.out 4).trans rfl; have hcz10_5 : w7.cell? ⟨gb207, 5, none⟩ = some (.int .i64 a0_5) := (blk_cell BK207.out 5).trans rfl; have hcz10_6 : w7.cell? ⟨gb207, 6, none⟩ = some (.int .i64 a0_6) := (blk_cell BK207.out 6).trans rfl; have hcz10_7 : w7.cell? ⟨gb207, 7, none⟩ = some (.int .i64 a0_7) := (blk_cell BK207.out 7).trans rfl; have hcz10_8 : w7.cell? ⟨gb207, 8, none⟩ = some (.int .i64 a0_8) := (blk_cell BK207.out 8).trans rfl; have hfz10_0 := blk_frozen BK207.out 0; have hfz10_1 := blk_frozen BK207.out 1; have hfz10_2 := blk_frozen BK207.out 2; have hfz10_3 := blk_frozen BK207.out 3; have hfz10_4 := blk_frozen BK207.out 4; have hfz10_5 := blk_frozen BK207.out 5; have hfz10_6 := blk_frozen BK207.out 6; have hfz10_7 := blk_frozen BK207.out 7; have hfz10_8 := blk_frozen BK207.out 8; have p209 : 0 ≤ (0 : Int) := (by omega); have q209 : 0 < (l0_0.length : Int) := of_decide_eq_true (by first | (with_reducible assumption) | assumption); obtain ⟨ad209, e209, hx209_0, hx209_1⟩ := at_T58 HR0_0.out 0 p209 q209; cases e209; have qi209 : (0 < l0_0.length) = True := eq_true (by omega); (try rw [show ((0 : Int)).toNat = 0 from rfl] at hx209_0); (try rw [show 0 * 2 = 0 from rfl] at hx209_0); (try rw [Addr.add_zero'] at hx209_0); (try rw [show ((0 : Int)).toNat = 0 from rfl] at hx209_1); (try rw [show 0 * 2 = 0 from rfl] at hx209_1); (try rw [Addr.add_zero'] at hx209_1); replace hx209_0 := (HB.out.cell (World.block_lt_of_cell? w _ hx209_0)).trans hx209_0; replace hx209_1 := (HB.out.cell (World.block_lt_of_cell? w _ hx209_1)).trans hx209_1; replace p209 := eq_true p209; replace q209 := eq_true q209)))
      go_ret
      exact ⟨by first | rfl | (simp [errW_none, errW_some] <;> rfl) | (simp only [← hji3]; first | rfl | (simp [errW_none, errW_some] <;> rfl)) | (simp [*, errW_none, errW_some] <;> rfl), by repeat (first | (with_reducible first | exact HB.out | apply below_alloc | apply pw_below_drewN | apply below_drew1 | refine below_set ?_ GE207.out | refine below_set ?_ GE208.out) | exact HB.out)⟩
    · replace c5 := Bool.eq_false_iff.mpr c5
      subst c5
      have H1 : (some (wrap64 ((wrap64 ((wrap64 ((ji3) * ((rd_T58 l0_0 0).f0))) + a0_5)) + a0_5))) = some r := by rw [if_neg (show ¬ (false = true) by decide)] at H; exact H
      clear H
      have H := H1
      clear H1
      obtain rfl := Option.some.inj H
      go_enter Try.func43, Try.ntmps43
      go_wp2_with (first | ((with_reducible refine gate_dst (N := 2) rfl ?_); refine box_event ?hg (N := 2) ?hd (cs := #[.slice A0_0 l0_0.length c0_0, .slice A0_1 l0_1.length c0_1, .slice A0_2 l0_2.length c0_2, .int .i64 a0_3, .int .i64 a0_4, .int .i64 a0_5, .int .i64 a0_6, .int .i64 a0_7, .int .i64 a0_8]) (t := 26) ?hr ?_; (case hd => rfl); (case hg => rfl); (case hr => first | (go_simp; done) | (go_simp; rfl)); intro gb207 hg w11 hbox hb; have n0_ := Aside0.mk (below_step (by repeat (first | (with_reducible first | exact HB.out | apply below_alloc | apply pw_below_drewN | apply below_drew1) | exact HB.out)) hb); have n1_ := Aside0.mk (hbox); have n2_ := Aside0.mk ((by rw [hg]; exact (below_size (by repeat (first | (with_reducible first | exact HB.out | apply below_alloc | apply pw_below_drewN | apply below_drew1) | exact HB.out))) : w.heap.size ≤ gb207)); have n3_ := Aside0.mk ((by rw [hg]; exact (below_size (by repeat (first | (with_reducible first | exact HB.out | apply below_alloc | apply pw_below_drewN | apply below_drew1) | exact HB.out))) : w.heap.size ≤ gb207)); clear HB; have HB := n0_; have BK207 := n1_; have GW207 := n2_; have GE207 := n3_; clear n0_ n1_ n2_ n3_; clear hb hbox hg) | ((with_reducible refine gate_dst (N := 3) rfl ?_); refine box_event ?hg (N := 3) ?hd (cs := #[.int .i64 a1_0, .int .i64 a1_1, .int .i64 a1_2, .int .i64 a1_3, .int .i64 a1_4, .bool false]) (t := 38) ?hr ?_; (case hd => rfl); (case hg => rfl); (case hr => first | (go_simp; done) | (go_simp; rfl)); intro gb208 hg w12 hbox hb; have n0_ := Aside0.mk (blk_below (g := gb207) (o := .cells #[.slice A0_0 l0_0.length c0_0, .slice A0_1 l0_1.length c0_1, .slice A0_2 l0_2.length c0_2, .int .i64 a0_3, .int .i64 a0_4, .int .i64 a0_5, .int .i64 a0_6, .int .i64 a0_7, .int .i64 a0_8] 26 (0, 0)) (by (with_reducible repeat (first | refine blk_drewN ?_ _ | refine blk_drew ?_ | refine blk_alloc ?_ _)); exact BK207.out) hb); have n1_ := Aside0.mk (below_step (by repeat (first | (with_reducible first | exact HB.out | apply below_alloc | apply pw_below_drewN | apply below_drew1 | refine below_set ?_ GE207.out) | exact HB.out)) hb); have n2_ := Aside0.mk (hbox); have n3_ := Aside0.mk ((by rw [hg]; exact (below_size (by repeat (first | (with_reducible first | exact HB.out | apply below_alloc | apply pw_below_drewN | apply below_drew1 | refine below_set ?_ GE207.out) | exact HB.out))) : w.heap.size ≤ gb208)); have n4_ := Aside0.mk ((by rw [hg]; exact (below_size (by repeat (first | (with_reducible first | exact HB.out | apply below_alloc | apply pw_below_drewN | apply below_drew1 | refine below_set ?_ GE207.out) | exact HB.out))) : w.heap.size ≤ gb208)); have n5_ := Aside0.mk ((by rw [hg]; exact Nat.ne_of_lt (blk_lt (g := gb207) (o := .cells #[.slice A0_0 l0_0.length c0_0, .slice A0_1 l0_1.length c0_1, .slice A0_2 l0_2.length c0_2, .int .i64 a0_3, .int .i64 a0_4, .int .i64 a0_5, .int .i64 a0_6, .int .i64 a0_7, .int .i64 a0_8] 26 (0, 0)) (by (with_reducible repeat (first | refine blk_drewN ?_ _ | refine blk_drew ?_ | refine blk_alloc ?_ _)); exact BK207.out)) : gb207 ≠ gb208)); have n6_ := Aside0.mk ((by rw [hg]; exact Nat.ne_of_gt (blk_lt (g := gb207) (o := .cells #[.slice A0_0 l0_0.length c0_0, .slice A0_1 l0_1.length c0_1, .slice A0_2 l0_2.length c0_2, .int .i64 a0_3, .int .i64 a0_4, .int .i64 a0_5, .int .i64 a0_6, .int .i64 a0_7, .int .i64 a0_8] 26 (0, 0)) (by (with_reducible repeat (first | refine blk_drewN ?_ _ | refine blk_drew ?_ | refine blk_alloc ?_ _)); exact BK207.out)) : gb208 ≠ gb207)); clear BK207; clear HB; have BK207 := n0_; have HB := n1_; have BK208 := n2_; have GW208 := n3_; have GE208 := n4_; have NB207_208 := n5_; have NB208_207 := n6_; clear n0_ n1_ n2_ n3_ n4_ n5_ n6_; clear hb hbox hg; have hnb13 := NB208_207.out; have hnc13 := NB207_208.out; have hcz14_0 : w12.cell? ⟨gb208, 0, none⟩ = some (.int .i64 a1_0) := (blk_cell BK208.out 0).trans rfl; have hcz14_1 : w12.cell? ⟨gb208, 1, none⟩ = some (.int .i64 a1_1) := (blk_cell BK208.out 1).trans rfl; have hcz14_2 : w12.cell? ⟨gb208, 2, none⟩ = some (.int .i64 a1_2) := (blk_cell BK208.out 2).trans rfl; have hcz14_3 : w12.cell? ⟨gb208, 3, none⟩ = some (.int .i64 a1_3) := (blk_cell BK208.out 3).trans rfl; have hcz14_4 : w12.cell? ⟨gb208, 4, none⟩ = some (.int .i64 a1_4) := (blk_cell BK208.out 4).trans rfl; have hcz14_5 : w12.cell? ⟨gb208, 5, none⟩ = some (.bool false) := (blk_cell BK208.out 5).trans rfl; have hfz14_0 := blk_frozen BK208.out 0; have hfz14_1 := blk_frozen BK208.out 1; have hfz14_2 := blk_frozen BK208.out 2; have hfz14_3 := blk_frozen BK208.out 3; have hfz14_4 := blk_frozen BK208.out 4; have hfz14_5 := blk_frozen BK208.out 5; have hcz15_0 : w12.cell? ⟨gb207, 0, none⟩ = some (.slice A0_0 l0_0.length c0_0) := (blk_cell BK207.out 0).trans rfl; have hcz15_1 : w12.cell? ⟨gb207, 1, none⟩ = some (.slice A0_1 l0_1.length c0_1) := (blk_cell BK207.out 1).trans rfl; have hcz15_2 : w12.cell? ⟨gb207, 2, none⟩ = some (.slice A0_2 l0_2.length c0_2) := (blk_cell BK207.out 2).trans rfl; have hcz15_3 : w12.cell? ⟨gb207, 3, none⟩ = some (.int .i64 a0_3) := (blk_cell BK207.out 3).trans rfl; have hcz15_4 : w12.cell? ⟨gb207, 4, none⟩ = some (.int .i64 a0_4) := (blk_cell BK207.out 4).trans rfl; have hcz15_5 : w12.cell? ⟨gb207, 5, none⟩ = some (.int .i64 a0_5) := (blk_cell BK207.out 5).trans rfl; have hcz15_6 : w12.cell? ⟨gb207, 6, none⟩ = some (.int .i64 a0_6) := (blk_cell BK207.out 6).trans rfl; have hcz15_7 : w12.cell? ⟨gb207, 7, none⟩ = some (.int .i64 a0_7) := (blk_cell BK207.out 7).trans rfl; have hcz15_8 : w12.cell? ⟨gb207, 8, none⟩ = some (.int .i64 a0_8) := (blk_cell BK207.out 8).trans rfl; have hfz15_0 := blk_frozen BK207.out 0; have hfz15_1 := blk_frozen BK207.out 1; have hfz15_2 := blk_frozen BK207.out 2; have hfz15_3 := blk_frozen BK207.out 3; have hfz15_4 := blk_frozen BK207.out 4; have hfz15_5 := blk_frozen BK207.out 5; have hfz15_6 := blk_frozen BK207.out 6; have hfz15_7 := blk_frozen BK207.out 7; have hfz15_8 := blk_frozen BK207.out 8; have p209 : 0 ≤ (0 : Int) := (by omega); have q209 : 0 < (l0_0.length : Int) := of_decide_eq_true (by first | (with_reducible assumption) | assumption); obtain ⟨ad209, e209, hx209_0, hx209_1⟩ := at_T58 HR0_0.out 0 p209 q209; cases e209; have qi209 : (0 < l0_0.length) = True := eq_true (by omega); (try rw [show ((0 : Int)).toNat = 0 from rfl] at hx209_0); (try rw [show 0 * 2 = 0 from rfl] at hx209_0); (try rw [Addr.add_zero'] at hx209_0); (try rw [show ((0 : Int)).toNat = 0 from rfl] at hx209_1); (try rw [show 0 * 2 = 0 from rfl] at hx209_1); (try rw [Addr.add_zero'] at hx209_1); replace hx209_0 := (HB.out.cell (World.block_lt_of_cell? w _ hx209_0)).trans hx209_0; replace hx209_1 := (HB.out.cell (World.block_lt_of_cell? w _ hx209_1)).trans hx209_1; replace p209 := eq_true p209; replace q209 := eq_true q209))
      repeat (go_quiet (first | ((with_reducible refine gate_dst (N := 2) rfl ?_); refine box_event ?hg (N := 2) ?hd (cs := #[.slice A0_0 l0_0.length c0_0, .slice A0_1 l0_1.length c0_1, .slice A0_2 l0_2.length c0_2, .int .i64 a0_3, .int .i64 a0_4, .int .i64 a0_5, .int .i64 a0_6, .int .i64 a0_7, .int .i64 a0_8]) (t := 26) ?hr ?_; (case hd => rfl); (case hg => rfl); (case hr => first | (go_simp; done) | (go_simp; rfl)); intro gb207 hg w11 hbox hb; have n0_ := Aside0.mk (below_step (by repeat (first | (with_reducible first | exact HB.out | apply below_alloc | apply pw_below_drewN | apply below_drew1) | exact HB.out)) hb); have n1_ := Aside0.mk (hbox); have n2_ := Aside0.mk ((by rw [hg]; exact (below_size (by repeat (first | (with_reducible first | exact HB.out | apply below_alloc | apply pw_below_drewN | apply below_drew1) | exact HB.out))) : w.heap.size ≤ gb207)); have n3_ := Aside0.mk ((by rw [hg]; exact (below_size (by repeat (first | (with_reducible first | exact HB.out | apply below_alloc | apply pw_below_drewN | apply below_drew1) | exact HB.out))) : w.heap.size ≤ gb207)); clear HB; have HB := n0_; have BK207 := n1_; have GW207 := n2_; have GE207 := n3_; clear n0_ n1_ n2_ n3_; clear hb hbox hg) | ((with_reducible refine gate_dst (N := 3) rfl ?_); refine box_event ?hg (N := 3) ?hd (cs := #[.int .i64 a1_0, .int .i64 a1_1, .int .i64 a1_2, .int .i64 a1_3, .int .i64 a1_4, .bool false]) (t := 38) ?hr ?_; (case hd => rfl); (case hg => rfl); (case hr => first | (go_simp; done) | (go_simp; rfl)); intro gb208 hg w12 hbox hb; have n0_ := Aside0.mk (blk_below (g := gb207) (o := .cells #[.slice A0_0 l0_0.length c0_0, .slice A0_1 l0_1.length c0_1, .slice A0_2 l0_2.length c0_2, .int .i64 a0_3, .int .i64 a0_4, .int .i64 a0_5, .int .i64 a0_6, .int .i64 a0_7, .int .i64 a0_8] 26 (0, 0)) (by (with_reducible repeat (first | refine blk_drewN ?_ _ | refine blk_drew ?_ | refine blk_alloc ?_ _)); exact BK207.out) hb); have n1_ := Aside0.mk (below_step (by repeat (first | (with_reducible first | exact HB.out | apply below_alloc | apply pw_below_drewN | apply below_drew1 | refine below_set ?_ GE207.out) | exact HB.out)) hb); have n2_ := Aside0.mk (hbox); have n3_ := Aside0.mk ((by rw [hg]; exact (below_size (by repeat (first | (with_reducible first | exact HB.out | apply below_alloc | apply pw_below_drewN | apply below_drew1 | refine below_set ?_ GE207.out) | exact HB.out))) : w.heap.size ≤ gb208)); have n4_ := Aside0.mk ((by rw [hg]; exact (below_size (by repeat (first | (with_reducible first | exact HB.out | apply below_alloc | apply pw_below_drewN | apply below_drew1 | refine below_set ?_ GE207.out) | exact HB.out))) : w.heap.size ≤ gb208)); have n5_ := Aside0.mk ((by rw [hg]; exact Nat.ne_of_lt (blk_lt (g := gb207) (o := .cells #[.slice A0_0 l0_0.length c0_0, .slice A0_1 l0_1.length c0_1, .slice A0_2 l0_2.length c0_2, .int .i64 a0_3, .int .i64 a0_4, .int .i64 a0_5, .int .i64 a0_6, .int .i64 a0_7, .int .i64 a0_8] 26 (0, 0)) (by (with_reducible repeat (first | refine blk_drewN ?_ _ | refine blk_drew ?_ | refine blk_alloc ?_ _)); exact BK207.out)) : gb207 ≠ gb208)); have n6_ := Aside0.mk ((by rw [hg]; exact Nat.ne_of_gt (blk_lt (g := gb207) (o := .cells #[.slice A0_0 l0_0.length c0_0, .slice A0_1 l0_1.length c0_1, .slice A0_2 l0_2.length c0_2, .int .i64 a0_3, .int .i64 a0_4, .int .i64 a0_5, .int .i64 a0_6, .int .i64 a0_7, .int .i64 a0_8] 26 (0, 0)) (by (with_reducible repeat (first | refine blk_drewN ?_ _ | refine blk_drew ?_ | refine blk_alloc ?_ _)); exact BK207.out)) : gb208 ≠ gb207)); clear BK207; clear HB; have BK207 := n0_; have HB := n1_; have BK208 := n2_; have GW208 := n3_; have GE208 := n4_; have NB207_208 := n5_; have NB208_207 := n6_; clear n0_ n1_ n2_ n3_ n4_ n5_ n6_; clear hb hbox hg; have hnb13 := NB208_207.out; have hnc13 := NB207_208.out; have hcz14_0 : w12.cell? ⟨gb208, 0, none⟩ = some (.int .i64 a1_0) := (blk_cell BK208.out 0).trans rfl; have hcz14_1 : w12.cell? ⟨gb208, 1, none⟩ = some (.int .i64 a1_1) := (blk_cell BK208.out 1).trans rfl; have hcz14_2 : w12.cell? ⟨gb208, 2, none⟩ = some (.int .i64 a1_2) := (blk_cell BK208.out 2).trans rfl; have hcz14_3 : w12.cell? ⟨gb208, 3, none⟩ = some (.int .i64 a1_3) := (blk_cell BK208.out 3).trans rfl; have hcz14_4 : w12.cell? ⟨gb208, 4, none⟩ = some (.int .i64 a1_4) := (blk_cell BK208.out 4).trans rfl; have hcz14_5 : w12.cell? ⟨gb208, 5, none⟩ = some (.bool false) := (blk_cell BK208.out 5).trans rfl; have hfz14_0 := blk_frozen BK208.out 0; have hfz14_1 := blk_frozen BK208.out 1; have hfz14_2 := blk_frozen BK208.out 2; have hfz14_3 := blk_frozen BK208.out 3; have hfz14_4 := blk_frozen BK208.out 4; have hfz14_5 := blk_frozen BK208.out 5; have hcz15_0 : w12.cell? ⟨gb207, 0, none⟩ = some (.slice A0_0 l0_0.length c0_0) := (blk_cell BK207.out 0).trans rfl; have hcz15_1 : w12.cell? ⟨gb207, 1, none⟩ = some (.slice A0_1 l0_1.length c0_1) := (blk_cell BK207.out 1).trans rfl; have hcz15_2 : w12.cell? ⟨gb207, 2, none⟩ = some (.slice A0_2 l0_2.length c0_2) := (blk_cell BK207.out 2).trans rfl; have hcz15_3 : w12.cell? ⟨gb207, 3, none⟩ = some (.int .i64 a0_3) := (blk_cell BK207.out 3).trans rfl; have hcz15_4 : w12.cell? ⟨gb207, 4, none⟩ = some (.int .i64 a0_4) := (blk_cell BK207.out 4).trans rfl; have hcz15_5 : w12.cell? ⟨gb207, 5, none⟩ = some (.int .i64 a0_5) := (blk_cell BK207.out 5).trans rfl; have hcz15_6 : w12.cell? ⟨gb207, 6, none⟩ = some (.int .i64 a0_6) := (blk_cell BK207.out 6).trans rfl; have hcz15_7 : w12.cell? ⟨gb207, 7, none⟩ = some (.int .i64 a0_7) := (blk_cell BK207.out 7).trans rfl; have hcz15_8 : w12.cell? ⟨gb207, 8, none⟩ = some (.int .i64 a0_8) := (blk_cell BK207.out 8).trans rfl; have hfz15_0 := blk_frozen BK207.out 0; have hfz15_1 := blk_frozen BK207.out 1; have hfz15_2 := blk_frozen BK207.out 2; have hfz15_3 := blk_frozen BK207.out 3; have hfz15_4 := blk_frozen BK207.out 4; have hfz15_5 := blk_frozen BK207.out 5; have hfz15_6 := blk_frozen BK207.out 6; have hfz15_7 := blk_frozen BK207.out 7; have hfz15_8 := blk_frozen BK207.out 8; have p209 : 0 ≤ (0 : Int) := (by omega); have q209 : 0 < (l0_0.length : Int) := of_decide_eq_true (by first | (with_reducible assumption) | assumption); obtain ⟨ad209, e209, hx209_0, hx209_1⟩ := at_T58 HR0_0.out 0 p209 q209; cases e209; have qi209 : (0 < l0_0.length) = True := eq_true (by omega); (try rw [show ((0 : Int)).toNat = 0 from rfl] at hx209_0); (try rw [show 0 * 2 = 0 from rfl] at hx209_0); (try rw [Addr.add_zero'] at hx209_0); (try rw [show ((0 : Int)).toNat = 0 from rfl] at hx209_1); (try rw [show 0 * 2 = 0 from rfl] at hx209_1); (try rw [Addr.add_zero'] at hx209_1); replace hx209_0 := (HB.out.cell (World.block_lt_of_cell? w _ hx209_0)).trans hx209_0; replace hx209_1 := (HB.out.cell (World.block_lt_of_cell? w _ hx209_1)).trans hx209_1; replace p209 := eq_true p209; replace q209 := eq_true q209)); try go_wp2_with (first | ((with_reducible refine gate_dst (N := 2) rfl ?_); refine box_event ?hg (N := 2) ?hd (cs := #[.slice A0_0 l0_0.length c0_0, .slice A0_1 l0_1.length c0_1, .slice A0_2 l0_2.length c0_2, .int .i64 a0_3, .int .i64 a0_4, .int .i64 a0_5, .int .i64 a0_6, .int .i64 a0_7, .int .i64 a0_8]) (t := 26) ?hr ?_; (case hd => rfl); (case hg => rfl); (case hr => first | (go_simp; done) | (go_simp; rfl)); intro gb207 hg w11 hbox hb; have n0_ := Aside0.mk (below_step (by repeat (first | (with_reducible first | exact HB.out | apply below_alloc | apply pw_below_drewN | apply below_drew1) | exact HB.out)) hb); have n1_ := Aside0.mk (hbox); have n2_ := Aside0.mk ((by rw [hg]; exact (below_size (by repeat (first | (with_reducible first | exact HB.out | apply below_alloc | apply pw_below_drewN | apply below_drew1) | exact HB.out))) : w.heap.size ≤ gb207)); have n3_ := Aside0.mk ((by rw [hg]; exact (below_size (by repeat (first | (with_reducible first | exact HB.out | apply below_alloc | apply pw_below_drewN | apply below_drew1) | exact HB.out))) : w.heap.size ≤ gb207)); clear HB; have HB := n0_; have BK207 := n1_; have GW207 := n2_; have GE207 := n3_; clear n0_ n1_ n2_ n3_; clear hb hbox hg) | ((with_reducible refine gate_dst (N := 3) rfl ?_); refine box_event ?hg (N := 3) ?hd (cs := #[.int .i64 a1_0, .int .i64 a1_1, .int .i64 a1_2, .int .i64 a1_3, .int .i64 a1_4, .bool false]) (t := 38) ?hr ?_; (case hd => rfl); (case hg => rfl); (case hr => first | (go_simp; done) | (go_simp; rfl)); intro gb208 hg w12 hbox hb; have n0_ := Aside0.mk (blk_below (g := gb207) (o := .cells #[.slice A0_0 l0_0.length c0_0, .slice A0_1 l0_1.length c0_1, .slice A0_2 l0_2.length c0_2, .int .i64 a0_3, .int .i64 a0_4, .int .i64 a0_5, .int .i64 a0_6, .int .i64 a0_7, .int .i64 a0_8] 26 (0, 0)) (by (with_reducible repeat (first | refine blk_drewN ?_ _ | refine blk_drew ?_ | refine blk_alloc ?_ _)); exact BK207.out) hb); have n1_ := Aside0.mk (below_step (by repeat (first | (with_reducible first | exact HB.out | apply below_alloc | apply pw_below_drewN | apply below_drew1 | refine below_set ?_ GE207.out) | exact HB.out)) hb); have n2_ := Aside0.mk (hbox); have n3_ := Aside0.mk ((by rw [hg]; exact (below_size (by repeat (first | (with_reducible first | exact HB.out | apply below_alloc | apply pw_below_drewN | apply below_drew1 | refine below_set ?_ GE207.out) | exact HB.out))) : w.heap.size ≤ gb208)); have n4_ := Aside0.mk ((by rw [hg]; exact (below_size (by repeat (first | (with_reducible first | exact HB.out | apply below_alloc | apply pw_below_drewN | apply below_drew1 | refine below_set ?_ GE207.out) | exact HB.out))) : w.heap.size ≤ gb208)); have n5_ := Aside0.mk ((by rw [hg]; exact Nat.ne_of_lt (blk_lt (g := gb207) (o := .cells #[.slice A0_0 l0_0.length c0_0, .slice A0_1 l0_1.length c0_1, .slice A0_2 l0_2.length c0_2, .int .i64 a0_3, .int .i64 a0_4, .int .i64 a0_5, .int .i64 a0_6, .int .i64 a0_7, .int .i64 a0_8] 26 (0, 0)) (by (with_reducible repeat (first | refine blk_drewN ?_ _ | refine blk_drew ?_ | refine blk_alloc ?_ _)); exact BK207.out)) : gb207 ≠ gb208)); have n6_ := Aside0.mk ((by rw [hg]; exact Nat.ne_of_gt (blk_lt (g := gb207) (o := .cells #[.slice A0_0 l0_0.length c0_0, .slice A0_1 l0_1.length c0_1, .slice A0_2 l0_2.length c0_2, .int .i64 a0_3, .int .i64 a0_4, .int .i64 a0_5, .int .i64 a0_6, .int .i64 a0_7, .int .i64 a0_8] 26 (0, 0)) (by (with_reducible repeat (first | refine blk_drewN ?_ _ | refine blk_drew ?_ | refine blk_alloc ?_ _)); exact BK207.out)) : gb208 ≠ gb207)); clear BK207; clear HB; have BK207 := n0_; have HB := n1_; have BK208 := n2_; have GW208 := n3_; have GE208 := n4_; have NB207_208 := n5_; have NB208_207 := n6_; clear n0_ n1_ n2_ n3_ n4_ n5_ n6_; clear hb hbox hg; have hnb13 := NB208_207.out; have hnc13 := NB207_208.out; have hcz14_0 : w12.cell? ⟨gb208, 0, none⟩ = some (.int .i64 a1_0) := (blk_cell BK208.out 0).trans rfl; have hcz14_1 : w12.cell? ⟨gb208, 1, none⟩ = some (.int .i64 a1_1) := (blk_cell BK208.out 1).trans rfl; have hcz14_2 : w12.cell? ⟨gb208, 2, none⟩ = some (.int .i64 a1_2) := (blk_cell BK208.out 2).trans rfl; have hcz14_3 : w12.cell? ⟨gb208, 3, none⟩ = some (.int .i64 a1_3) := (blk_cell BK208.out 3).trans rfl; have hcz14_4 : w12.cell? ⟨gb208, 4, none⟩ = some (.int .i64 a1_4) := (blk_cell BK208.out 4).trans rfl; have hcz14_5 : w12.cell? ⟨gb208, 5, none⟩ = some (.bool false) := (blk_cell BK208.out 5).trans rfl; have hfz14_0 := blk_frozen BK208.out 0; have hfz14_1 := blk_frozen BK208.out 1; have hfz14_2 := blk_frozen BK208.out 2; have hfz14_3 := blk_frozen BK208.out 3; have hfz14_4 := blk_frozen BK208.out 4; have hfz14_5 := blk_frozen BK208.out 5; have hcz15_0 : w12.cell? ⟨gb207, 0, none⟩ = some (.slice A0_0 l0_0.length c0_0) := (blk_cell BK207.out 0).trans rfl; have hcz15_1 : w12.cell? ⟨gb207, 1, none⟩ = some (.slice A0_1 l0_1.length c0_1) := (blk_cell BK207.out 1).trans rfl; have hcz15_2 : w12.cell? ⟨gb207, 2, none⟩ = some (.slice A0_2 l0_2.length c0_2) := (blk_cell BK207.out 2).trans rfl; have hcz15_3 : w12.cell? ⟨gb207, 3, none⟩ = some (.int .i64 a0_3) := (blk_cell BK207.out 3).trans rfl; have hcz15_4 : w12.cell? ⟨gb207, 4, none⟩ = some (.int .i64 a0_4) := (blk_cell BK207.out 4).trans rfl; have hcz15_5 : w12.cell? ⟨gb207, 5, none⟩ = some (.int .i64 a0_5) := (blk_cell BK207.out 5).trans rfl; have hcz15_6 : w12.cell? ⟨gb207, 6, none⟩ = some (.int .i64 a0_6) := (blk_cell BK207.out 6).trans rfl; have hcz15_7 : w12.cell? ⟨gb207, 7, none⟩ = some (.int .i64 a0_7) := (blk_cell BK207.out 7).trans rfl; have hcz15_8 : w12.cell? ⟨gb207, 8, none⟩ = some (.int .i64 a0_8) := (blk_cell BK207.out 8).trans rfl; have hfz15_0 := blk_frozen BK207.out 0; have hfz15_1 := blk_frozen BK207.out 1; have hfz15_2 := blk_frozen BK207.out 2; have hfz15_3 := blk_frozen BK207.out 3; have hfz15_4 := blk_frozen BK207.out 4; have hfz15_5 := blk_frozen BK207.out 5; have hfz15_6 := blk_frozen BK207.out 6; have hfz15_7 := blk_frozen BK207.out 7; have hfz15_8 := blk_frozen BK207.out 8; have p209 : 0 ≤ (0 : Int) := (by omega); have q209 : 0 < (l0_0.length : Int) := of_decide_eq_true (by first | (with_reducible assumption) | assumption); obtain ⟨ad209, e209, hx209_0, hx209_1⟩ := at_T58 HR0_0.out 0 p209 q209; cases e209; have qi209 : (0 < l0_0.length) = True := eq_true (by omega); (try rw [show ((0 : Int)).toNat = 0 from rfl] at hx209_0); (try rw [show 0 * 2 = 0 from rfl] at hx209_0); (try rw [Addr.add_zero'] at hx209_0); (try rw [show ((0 : Int)).toNat = 0 from rfl] at hx209_1); (try rw [show 0 * 2 = 0 from rfl] at hx209_1); (try rw [Addr.add_zero'] at hx209_1); replace hx209_0 := (HB.out.cell (World.block_lt_of_cell? w _ hx209_0)).trans hx209_0; replace hx209_1 := (HB.out.cell (World.block_lt_of_cell? w _ hx209_1)).trans hx209_1; replace p209 := eq_true p209; replace q209 := eq_true q209)))
      go_ret
      exact ⟨by first | rfl | (simp [errW_none, errW_some] <;> rfl) | (simp only [← hji3]; first | rfl | (simp [errW_none, errW_some] <;> rfl)) | (simp [*, errW_none, errW_some] <;> rfl), by repeat (first | (with_reducible first | exact HB.out | apply below_alloc | apply pw_below_drewN | apply below_drew1 | refine below_set ?_ GE207.out | refine below_set ?_ GE208.out) | exact HB.out)⟩
  · rw [if_neg c4] at H
    exact absurd H (by simp)
def fix_clamp_int.f (a0 : Int) (a1 : Int) (a2 : Int) : Option (Int) := some (mn (mx a0 a1) a2)
set_option maxHeartbeats 8000000 in
set_option maxRecDepth 100000 in
theorem fix_clamp_int.calls (a0 : Int) (a1 : Int) (a2 : Int) (r : Int) (w : World) (h : fix_clamp_int.f a0 a1 a2 = some r) :
    Calls Try.prog 57 #[.int .i64 a0, .int .i64 a1, .int .i64 a2] w fun e w' => e = .returned (.int .i64 r) ∧ Below w.heap.size w w' := by
  have HB := Aside0.mk (Below.refl w.heap.size w)
  have H : (some (mn (mx a0 a1) a2)) = some r := h
  clear h
  obtain ⟨ji4, hji4⟩ : ∃ j_ : Int, (mx a0 a1) = j_ := ⟨_, rfl⟩
  replace H : (some (mn (ji4) a2)) = some r := by first | (rw [hji4] at H; exact H) | (simp only [hji4] at H ⊢; exact H)
  have hji4_ : (if a0 < a1 then a1 else a0) = ji4 := hji4
  obtain ⟨ji5, hji5⟩ : ∃ j_ : Int, (mn (ji4) a2) = j_ := ⟨_, rfl⟩
  replace H : (some ji5) = some r := by first | (rw [hji5] at H; exact H) | (simp only [hji5] at H ⊢; exact H)
  have hji5_ : (if a2 < (ji4) then a2 else (ji4)) = ji5 := hji5
  obtain rfl := Option.some.inj H
  go_enter Try.func57, Try.ntmps57
  go_wp2
  go_ret
  exact ⟨by first | rfl | (simp [errW_none, errW_some] <;> rfl) | (simp only [← hji4, ← hji5]; first | rfl | (simp [errW_none, errW_some] <;> rfl)) | (simp [*, errW_none, errW_some] <;> rfl), by repeat (first | (with_reducible first | exact HB.out | apply below_alloc | apply pw_below_drewN | apply below_drew1) | exact HB.out)⟩
def fix_Whole.f (a0 : Int) : Option (Int) := (fix_clamp_int.f a0 (-1073741824) 1073741824).bind fun t210 => (some (wrap64 (t210 * 4294967296)))
set_option maxHeartbeats 8000000 in
set_option maxRecDepth 100000 in
theorem fix_Whole.calls (a0 : Int) (r : Int) (w : World) (h : fix_Whole.f a0 = some r) :
    Calls Try.prog 44 #[.int .i64 a0] w fun e w' => e = .returned (.int .i64 r) ∧ Below w.heap.size w w' := by
  have HB := Aside0.mk (Below.refl w.heap.size w)
  have H : ((fix_clamp_int.f a0 (-1073741824) 1073741824).bind fun t210 => (some (wrap64 (t210 * 4294967296)))) = some r := h
  clear h
  replace H := Option.bind_eq_some_iff.mp H
  obtain ⟨t210, A20, H⟩ := H
  replace H : (some (wrap64 (t210 * 4294967296))) = some r := H
  have A2 := Aside0.mk A20
  clear A20
  obtain rfl := Option.some.inj H
  go_enter Try.func44, Try.ntmps44
  go_wp2_with (first | ((with_reducible refine gate_callee (f := 57) rfl ?_); refine goesL_ (some 4) rfl rfl Try.func57 (by kernel_rfl) rfl #[.int .i64 a0, .int .i64 (-1073741824), .int .i64 1073741824] rfl (by (try simp only [List.map_toArray, List.map_cons, List.map_nil]); first | done | rfl | (simp only [List.length_drop, List.length_take]; rfl)) ?_; (with_reducible refine (fix_clamp_int.calls a0 (-1073741824) 1073741824 t210 _ A2.out).mono ?_); rintro e w3 ⟨rfl, hb⟩; refine ⟨_, rfl, ?_⟩; have n0_ := Aside0.mk (below_step (by repeat (first | (with_reducible first | exact HB.out | apply below_alloc | apply pw_below_drewN | apply below_drew1) | exact HB.out)) hb); clear HB; have HB := n0_; clear n0_; (try clear hb); (try clear hb2); (try clear hk); (try clear hi)))
  go_ret
  exact ⟨by first | rfl | (simp [errW_none, errW_some] <;> rfl) | (simp [*, errW_none, errW_some] <;> rfl), by repeat (first | (with_reducible first | exact HB.out | apply below_alloc | apply pw_below_drewN | apply below_drew1) | exact HB.out)⟩
def fix_Times.f (a0 : Int) (a1 : Int) : Option (Int) := (fix_clamp_int.f a0 0 17179869184).bind fun t211 => ((fix_clamp_int.f a1 0 134217728).bind fun t212 => (some (wrap64 (t211 * t212))))
set_option maxHeartbeats 8000000 in
set_option maxRecDepth 100000 in
theorem fix_Times.calls (a0 : Int) (a1 : Int) (r : Int) (w : World) (h : fix_Times.f a0 a1 = some r) :
    Calls Try.prog 45 #[.int .i64 a0, .int .i64 a1] w fun e w' => e = .returned (.int .i64 r) ∧ Below w.heap.size w w' := by
  have HB := Aside0.mk (Below.refl w.heap.size w)
  have H : ((fix_clamp_int.f a0 0 17179869184).bind fun t211 => ((fix_clamp_int.f a1 0 134217728).bind fun t212 => (some (wrap64 (t211 * t212))))) = some r := h
  clear h
  replace H := Option.bind_eq_some_iff.mp H
  obtain ⟨t211, A30, H⟩ := H
  replace H : ((fix_clamp_int.f a1 0 134217728).bind fun t212 => (some (wrap64 (t211 * t212)))) = some r := H
  have A3 := Aside0.mk A30
  clear A30
  replace H := Option.bind_eq_some_iff.mp H
  obtain ⟨t212, A40, H⟩ := H
  replace H : (some (wrap64 (t211 * t212))) = some r := H
  have A4 := Aside0.mk A40
  clear A40
  obtain rfl := Option.some.inj H
  go_enter Try.func45, Try.ntmps45
  go_wp2_with (first | ((with_reducible refine gate_callee (f := 57) rfl ?_); refine goesL_ (some 6) rfl rfl Try.func57 (by kernel_rfl) rfl #[.int .i64 a0, .int .i64 0, .int .i64 17179869184] rfl (by (try simp only [List.map_toArray, List.map_cons, List.map_nil]); first | done | rfl | (simp only [List.length_drop, List.length_take]; rfl)) ?_; (with_reducible refine (fix_clamp_int.calls a0 0 17179869184 t211 _ A3.out).mono ?_); rintro e w5 ⟨rfl, hb⟩; refine ⟨_, rfl, ?_⟩; have n0_ := Aside0.mk (below_step (by repeat (first | (with_reducible first | exact HB.out | apply below_alloc | apply pw_below_drewN | apply below_drew1) | exact HB.out)) hb); clear HB; have HB := n0_; clear n0_; (try clear hb); (try clear hb2); (try clear hk); (try clear hi)) | ((with_reducible refine gate_callee (f := 57) rfl ?_); refine goesL_ (some 8) rfl rfl Try.func57 (by kernel_rfl) rfl #[.int .i64 a1, .int .i64 0, .int .i64 134217728] rfl (by (try simp only [List.map_toArray, List.map_cons, List.map_nil]); first | done | rfl | (simp only [List.length_drop, List.length_take]; rfl)) ?_; (with_reducible refine (fix_clamp_int.calls a1 0 134217728 t212 _ A4.out).mono ?_); rintro e w6 ⟨rfl, hb⟩; refine ⟨_, rfl, ?_⟩; have n0_ := Aside0.mk (below_step (by repeat (first | (with_reducible first | exact HB.out | apply below_alloc | apply pw_below_drewN | apply below_drew1) | exact HB.out)) hb); clear HB; have HB := n0_; clear n0_; (try clear hb); (try clear hb2); (try clear hk); (try clear hi)))
  go_ret
  exact ⟨by first | rfl | (simp [errW_none, errW_some] <;> rfl) | (simp [*, errW_none, errW_some] <;> rfl), by repeat (first | (with_reducible first | exact HB.out | apply below_alloc | apply pw_below_drewN | apply below_drew1) | exact HB.out)⟩
end Go.Proofs.Ytchlbnlhjllcbaa.F
namespace Go.Proofs.Ytchlbnlhjllcbaa.F
open Go.RowKit Go.Proofs.YtchlbnlhjllcbaaW.PrintWords Go.Proofs.YtchlbnlhjllcbaaW.PrintLast Go.Proofs.YtchlbnlhjllcbaaW.PrintMore
attribute [local go_sem] max2_int min2_int max_two min_two max_three min_three max_four min_four   -- for this text's walks alone
set_option linter.unusedVariables false
set_option linter.unusedSimpArgs false
def fix_Util.f (a0 : Int) (a1 : Int) : Option (Int) := if a1 < 1 then (some 1099511627776) else ((fix_clamp_int.f a0 0 536870912).bind fun t213 => (if a1 = 0 then (none) else (some (wrap64 ((wrap64 (Int.tdiv (wrap64 (t213 * 4294967296)) a1)) + (mn (Int.tmod (wrap64 (t213 * 4294967296)) a1) 1))))))
set_option maxHeartbeats 8000000 in
set_option maxRecDepth 100000 in
theorem fix_Util.calls (a0 : Int) (a1 : Int) (r : Int) (w : World) (h : fix_Util.f a0 a1 = some r) :
    Calls Try.prog 58 #[.int .i64 a0, .int .i64 a1] w fun e w' => e = .returned (.int .i64 r) ∧ Below w.heap.size w w' := by
  have HB := Aside0.mk (Below.refl w.heap.size w)
  have H : (if a1 < 1 then (some 1099511627776) else ((fix_clamp_int.f a0 0 536870912).bind fun t213 => (if a1 = 0 then (none) else (some (wrap64 ((wrap64 (Int.tdiv (wrap64 (t213 * 4294967296)) a1)) + (mn (Int.tmod (wrap64 (t213 * 4294967296)) a1) 1))))))) = some r := h
  clear h
  by_cases c3 : a1 < 1
  · rw [if_pos c3] at H
    have c3b0 : decide (a1 < 1) = true := decide_eq_true c3
    clear c3
    obtain rfl := Option.some.inj H
    go_enter Try.func58, Try.ntmps58
    go_wp2
    repeat (go_quiet (fail); try go_wp2)
    go_ret
    exact ⟨by first | rfl | (simp [errW_none, errW_some] <;> rfl) | (simp [*, errW_none, errW_some] <;> rfl), by repeat (first | (with_reducible first | exact HB.out | apply below_alloc | apply pw_below_drewN | apply below_drew1) | exact HB.out)⟩
  · rw [if_neg c3] at H
    have c3b0 : decide (a1 < 1) = false := decide_eq_false c3
    clear c3
    replace H := Option.bind_eq_some_iff.mp H
    obtain ⟨t213, A40, H⟩ := H
    replace H : (if a1 = 0 then (none) else (some (wrap64 ((wrap64 (Int.tdiv (wrap64 (t213 * 4294967296)) a1)) + (mn (Int.tmod (wrap64 (t213 * 4294967296)) a1) 1))))) = some r := H
    have A4 := Aside0.mk A40
    clear A40
    by_cases c5 : a1 = 0
    · rw [if_pos c5] at H
      exact absurd H (by simp)
    · rw [if_neg c5] at H
      have c5b0 : (a1 == 0) = false := beq_eq_false_iff_ne.mpr c5
      have c5b1 : (a1 != 0) = true := bne_iff_ne.mpr c5
      obtain ⟨ji6, hji6⟩ : ∃ j_ : Int, (mn (Int.tmod (wrap64 (t213 * 4294967296)) a1) 1) = j_ := ⟨_, rfl⟩
      replace H : (some (wrap64 ((wrap64 (Int.tdiv (wrap64 (t213 * 4294967296)) a1)) + (ji6)))) = some r := by first | (rw [hji6] at H; exact H) | (simp only [hji6] at H ⊢; exact H)
      (try rw [hji6] at A4)
      (try (have hji6h : ji6 ≤ 1 := by (rw [← hji6]; unfold mn; (repeat' split) <;> omega)))
      (try (have hji6g : ji6 ≤ 64 := by omega))
      have hji6_ : (if 1 < (Int.tmod (wrap64 (t213 * 4294967296)) a1) then 1 else (Int.tmod (wrap64 (t213 * 4294967296)) a1)) = ji6 := hji6
      obtain rfl := Option.some.inj H
      go_enter Try.func58, Try.ntmps58
      go_wp2_with (first | (go_at_call 57; (with_reducible refine (fix_clamp_int.calls a0 0 536870912 t213 _ A4.out).mono ?_); rintro e w7 ⟨rfl, hb⟩; have n0_ := Aside0.mk (below_step (by repeat (first | (with_reducible first | exact HB.out | apply below_alloc | apply pw_below_drewN | apply below_drew1) | exact HB.out)) hb); clear HB; have HB := n0_; clear n0_; (try clear hb); (try clear hb2); (try clear hk); (try clear hi)))
      repeat (go_quiet (first | (go_at_call 57; (with_reducible refine (fix_clamp_int.calls a0 0 536870912 t213 _ A4.out).mono ?_); rintro e w7 ⟨rfl, hb⟩; have n0_ := Aside0.mk (below_step (by repeat (first | (with_reducible first | exact HB.out | apply below_alloc | apply pw_below_drewN | apply below_drew1) | exact HB.out)) hb); clear HB; have HB := n0_; clear n0_; (try clear hb); (try clear hb2); (try clear hk); (try clear hi))); try go_wp2_with (first | (go_at_call 57; (with_reducible refine (fix_clamp_int.calls a0 0 536870912 t213 _ A4.out).mono ?_); rintro e w7 ⟨rfl, hb⟩; have n0_ := Aside0.mk (below_step (by repeat (first | (with_reducible first | exact HB.out | apply below_alloc | apply pw_below_drewN | apply below_drew1) | exact HB.out)) hb); clear HB; have HB := n0_; clear n0_; (try clear hb); (try clear hb2); (try clear hk); (try clear hi))))
      go_ret
      exact ⟨by first | rfl | (simp [errW_none, errW_some] <;> rfl) | (simp only [← hji6]; first | rfl | (simp [errW_none, errW_some] <;> rfl)) | (simp [*, errW_none, errW_some] <;> rfl), by repeat (first | (with_reducible first | exact HB.out | apply below_alloc | apply pw_below_drewN | apply below_drew1) | exact HB.out)⟩
def admit_Quanta.f (l0_0 : List (S58)) (l0_1 : List (S68)) (l0_2 : List (S71)) (a0_3 : Int) (a0_4 : Int) (a0_5 : Int) (a0_6 : Int) (a0_7 : Int) (a0_8 : Int) (a1_0 : Int) (a1_1 : Int) (l1_2 : List Int) (l1_3 : List Int) (a2 : Int) : Option (Int) := if a2 < 0 then (some 0) else (if a2 ≥ (l0_0.length : Int) then (some 0) else (if 0 ≤ a2 then (if a2 < (l0_0.length : Int) then (some (wrap64 ((wrap64 (a1_1 * ((rd_T58 l0_0 a2).f0))) + (wrap64 (2 * a0_5))))) else (none)) else (none)))
set_option maxHeartbeats 8000000 in
set_option maxRecDepth 100000 in
theorem admit_Quanta.calls (A0_0 : Option Addr) (c0_0 : Nat) (l0_0 : List (S58)) (A0_1 : Option Addr) (c0_1 : Nat) (l0_1 : List (S68)) (A0_2 : Option Addr) (c0_2 : Nat) (l0_2 : List (S71)) (a0_3 : Int) (a0_4 : Int) (a0_5 : Int) (a0_6 : Int) (a0_7 : Int) (a0_8 : Int) (a1_0 : Int) (a1_1 : Int) (A1_2 : Option Addr) (c1_2 : Nat) (l1_2 : List Int) (A1_3 : Option Addr) (c1_3 : Nat) (l1_3 : List Int) (a2 : Int) (r : Int) (w : World) (hr0_0 : Kd.C k58 w A0_0 l0_0.length l0_0) (hc0_0 : l0_0.length ≤ c0_0) (hr0_1 : Kd.C k68 w A0_1 l0_1.length l0_1) (hc0_1 : l0_1.length ≤ c0_1) (hr0_2 : Kd.C k71 w A0_2 l0_2.length l0_2) (hc0_2 : l0_2.length ≤ c0_2) (hr1_2 : Kd.C (Kd.int .i64) w A1_2 l1_2.length l1_2) (hc1_2 : l1_2.length ≤ c1_2) (hr1_3 : Kd.C (Kd.int .i64) w A1_3 l1_3.length l1_3) (hc1_3 : l1_3.length ≤ c1_3) (h : admit_Quanta.f l0_0 l0_1 l0_2 a0_3 a0_4 a0_5 a0_6 a0_7 a0_8 a1_0 a1_1 l1_2 l1_3 a2 = some r) :
    Calls Try.prog 59 #[.agg #[.slice A0_0 l0_0.length c0_0, .slice A0_1 l0_1.length c0_1, .slice A0_2 l0_2.length c0_2, .int .i64 a0_3, .int .i64 a0_4, .int .i64 a0_5, .int .i64 a0_6, .int .i64 a0_7, .int .i64 a0_8], .agg #[.int .i64 a1_0, .int .i64 a1_1, .slice A1_2 l1_2.length c1_2, .slice A1_3 l1_3.length c1_3], .int .i64 a2] w fun e w' => e = .returned (.int .i64 r) ∧ Below w.heap.size w w' := by
  have hu26 := Try.underlying26
  have hu36 := Try.underlying36
  have HR0_0 := Aside0.mk hr0_0
  have HC0_0 := Aside0.mk hc0_0
  clear hr0_0 hc0_0
  have HR0_1 := Aside0.mk hr0_1
  have HC0_1 := Aside0.mk hc0_1
  clear hr0_1 hc0_1
  have HR0_2 := Aside0.mk hr0_2
  have HC0_2 := Aside0.mk hc0_2
  clear hr0_2 hc0_2
  have HR1_2 := Aside0.mk hr1_2
  have HC1_2 := Aside0.mk hc1_2
  clear hr1_2 hc1_2
  have HR1_3 := Aside0.mk hr1_3
  have HC1_3 := Aside0.mk hc1_3
  clear hr1_3 hc1_3
  have HB := Aside0.mk (Below.refl w.heap.size w)
  have H : (if a2 < 0 then (some 0) else (if a2 ≥ (l0_0.length : Int) then (some 0) else (if 0 ≤ a2 then (if a2 < (l0_0.length : Int) then (some (wrap64 ((wrap64 (a1_1 * ((rd_T58 l0_0 a2).f0))) + (wrap64 (2 * a0_5))))) else (none)) else (none)))) = some r := h
  clear h
  by_cases c4 : a2 < 0
  · rw [if_pos c4] at H
    have c4b0 : decide (a2 < 0) = true := decide_eq_true c4
    clear c4
    obtain rfl := Option.some.inj H
    go_enter Try.func59, Try.ntmps59
    go_wp2_with (first | ((with_reducible refine gate_dst (N := 3) rfl ?_); (try (refine gate_guard (by rfl) ?_; dsimp only)); refine box_event ?hg (N := 3) ?hd (cs := #[.slice A0_0 l0_0.length c0_0, .slice A0_1 l0_1.length c0_1, .slice A0_2 l0_2.length c0_2, .int .i64 a0_3, .int .i64 a0_4, .int .i64 a0_5, .int .i64 a0_6, .int .i64 a0_7, .int .i64 a0_8]) (t := 26) ?hr ?_; (case hd => rfl); (case hg => rfl); (case hr => first | (go_simp; done) | (go_simp; rfl)); intro gb214 hg w5 hbox hb; have n0_ := Aside0.mk (below_step (by repeat (first | (with_reducible first | exact HB.out | apply below_alloc | apply pw_below_drewN | apply below_drew1) | exact HB.out)) hb); have n1_ := Aside0.mk (hbox); have n2_ := Aside0.mk ((by rw [hg]; exact (below_size (by repeat (first | (with_reducible first | exact HB.out | apply below_alloc | apply pw_below_drewN | apply below_drew1) | exact HB.out))) : w.heap.size ≤ gb214)); have n3_ := Aside0.mk ((by rw [hg]; exact (below_size (by repeat (first | (with_reducible first | exact HB.out | apply below_alloc | apply pw_below_drewN | apply below_drew1) | exact HB.out))) : w.heap.size ≤ gb214)); clear HB; have HB := n0_; have BK214 := n1_; have GW214 := n2_; have GE214 := n3_; clear n0_ n1_ n2_ n3_; clear hb hbox hg) | ((with_reducible refine gate_dst (N := 4) rfl ?_); (try (refine gate_guard (by rfl) ?_; dsimp only)); refine box_event ?hg (N := 4) ?hd (cs := #[.int .i64 a1_0, .int .i64 a1_1, .slice A1_2 l1_2.length c1_2, .slice A1_3 l1_3.length c1_3]) (t := 36) ?hr ?_; (case hd => rfl); (case hg => rfl); (case hr => first | (go_simp; done) | (go_simp; rfl)); intro gb215 hg w6 hbox hb; have n0_ := Aside0.mk (blk_below (g := gb214) (o := .cells #[.slice A0_0 l0_0.length c0_0, .slice A0_1 l0_1.length c0_1, .slice A0_2 l0_2.length c0_2, .int .i64 a0_3, .int .i64 a0_4, .int .i64 a0_5, .int .i64 a0_6, .int .i64 a0_7, .int .i64 a0_8] 26 (0, 0)) (by (with_reducible repeat (first | refine blk_drewN ?_ _ | refine blk_drew ?_ | refine blk_alloc ?_ _)); exact BK214.out) hb); have n1_ := Aside0.mk (below_step (by repeat (first | (with_reducible first | exact HB.out | apply below_alloc | apply pw_below_drewN | apply below_drew1 | refine below_set ?_ GE214.out) | exact HB.out)) hb); have n2_ := Aside0.mk (hbox); have n3_ := Aside0.mk ((by rw [hg]; exact (below_size (by repeat (first | (with_reducible first | exact HB.out | apply below_alloc | apply pw_below_drewN | apply below_drew1 | refine below_set ?_ GE214.out) | exact HB.out))) : w.heap.size ≤ gb215)); have n4_ := Aside0.mk ((by rw [hg]; exact (below_size (by repeat (first | (with_reducible first | exact HB.out | apply below_alloc | apply pw_below_drewN | apply below_drew1 | refine below_set ?_ GE214.out) | exact HB.out))) : w.heap.size ≤ gb215)); have n5_ := Aside0.mk ((by rw [hg]; exact Nat.ne_of_lt (blk_lt (g := gb214) (o := .cells #[.slice A0_0 l0_0.length c0_0, .slice A0_1 l0_1.length c0_1, .slice A0_2 l0_2.length c0_2, .int .i64 a0_3, .int .i64 a0_4, .int .i64 a0_5, .int .i64 a0_6, .int .i64 a0_7, .int .i64 a0_8] 26 (0, 0)) (by (with_reducible repeat (first | refine blk_drewN ?_ _ | refine blk_drew ?_ | refine blk_alloc ?_ _)); exact BK214.out)) : gb214 ≠ gb215)); have n6_ := Aside0.mk ((by rw [hg]; exact Nat.ne_of_gt (blk_lt (g := gb214) (o := .cells #[.slice A0_0 l0_0.length c0_0, .slice A0_1 l0_1.length c0_1, .slice A0_2 l0_2.length c0_2, .int .i64 a0_3, .int .i64 a0_4, .int .i64 a0_5, .int .i64 a0_6, .int .i64 a0_7, .int .i64 a0_8] 26 (0, 0)) (by (with_reducible repeat (first | refine blk_drewN ?_ _ | refine blk_drew ?_ | refine blk_alloc ?_ _)); exact BK214.out)) : gb215 ≠ gb214)); clear BK214; clear HB; have BK214 := n0_; have HB := n1_; have BK215 := n2_; have GW215 := n3_; have GE215 := n4_; have NB214_215 := n5_; have NB215_214 := n6_; clear n0_ n1_ n2_ n3_ n4_ n5_ n6_; clear hb hbox hg))
    repeat (go_quiet (first | ((with_reducible refine gate_dst (N := 3) rfl ?_); (try (refine gate_guard (by rfl) ?_; dsimp only)); refine box_event ?hg (N := 3) ?hd (cs := #[.slice A0_0 l0_0.length c0_0, .slice A0_1 l0_1.length c0_1, .slice A0_2 l0_2.length c0_2, .int .i64 a0_3, .int .i64 a0_4, .int .i64 a0_5, .int .i64 a0_6, .int .i64 a0_7, .int .i64 a0_8]) (t := 26) ?hr ?_; (case hd => rfl); (case hg => rfl); (case hr => first | (go_simp; done) | (go_simp; rfl)); intro gb214 hg w5 hbox hb; have n0_ := Aside0.mk (below_step (by repeat (first | (with_reducible first | exact HB.out | apply below_alloc | apply pw_below_drewN | apply below_drew1) | exact HB.out)) hb); have n1_ := Aside0.mk (hbox); have n2_ := Aside0.mk ((by rw [hg]; exact (below_size (by repeat (first | (with_reducible first | exact HB.out | apply below_alloc | apply pw_below_drewN | apply below_drew1) | exact HB.out))) : w.heap.size ≤ gb214)); have n3_ := Aside0.mk ((by rw [hg]; exact (below_size (by repeat (first | (with_reducible first | exact HB.out | apply below_alloc | apply pw_below_drewN | apply below_drew1) | exact HB.out))) : w.heap.size ≤ gb214)); clear HB; have HB := n0_; have BK214 := n1_; have GW214 := n2_; have GE214 := n3_; clear n0_ n1_ n2_ n3_; clear hb hbox hg) | ((with_reducible refine gate_dst (N := 4) rfl ?_); (try (refine gate_guard (by rfl) ?_; dsimp only)); refine box_event ?hg (N := 4) ?hd (cs := #[.int .i64 a1_0, .int .i64 a1_1, .slice A1_2 l1_2.length c1_2, .slice A1_3 l1_3.length c1_3]) (t := 36) ?hr ?_; (case hd => rfl); (case hg => rfl); (case hr => first | (go_simp; done) | (go_simp; rfl)); intro gb215 hg w6 hbox hb; have n0_ := Aside0.mk (blk_below (g := gb214) (o := .cells #[.slice A0_0 l0_0.length c0_0, .slice A0_1 l0_1.length c0_1, .slice A0_2 l0_2.length c0_2, .int .i64 a0_3, .int .i64 a0_4, .int .i64 a0_5, .int .i64 a0_6, .int .i64 a0_7, .int .i64 a0_8] 26 (0, 0)) (by (with_reducible repeat (first | refine blk_drewN ?_ _ | refine blk_drew ?_ | refine blk_alloc ?_ _)); exact BK214.out) hb); have n1_ := Aside0.mk (below_step (by repeat (first | (with_reducible first | exact HB.out | apply below_alloc | apply pw_below_drewN | apply below_drew1 | refine below_set ?_ GE214.out) | exact HB.out)) hb); have n2_ := Aside0.mk (hbox); have n3_ := Aside0.mk ((by rw [hg]; exact (below_size (by repeat (first | (with_reducible first | exact HB.out | apply below_alloc | apply pw_below_drewN | apply below_drew1 | refine below_set ?_ GE214.out) | exact HB.out))) : w.heap.size ≤ gb215)); have n4_ := Aside0.mk ((by rw [hg]; exact (below_size (by repeat (first | (with_reducible first | exact HB.out | apply below_alloc | apply pw_below_drewN | apply below_drew1 | refine below_set ?_ GE214.out) | exact HB.out))) : w.heap.size ≤ gb215)); have n5_ := Aside0.mk ((by rw [hg]; exact Nat.ne_of_lt (blk_lt (g := gb214) (o := .cells #[.slice A0_0 l0_0.length c0_0, .slice A0_1 l0_1.length c0_1, .slice A0_2 l0_2.length c0_2, .int .i64 a0_3, .int .i64 a0_4, .int .i64 a0_5, .int .i64 a0_6, .int .i64 a0_7, .int .i64 a0_8] 26 (0, 0)) (by (with_reducible repeat (first | refine blk_drewN ?_ _ | refine blk_drew ?_ | refine blk_alloc ?_ _)); exact BK214.out)) : gb214 ≠ gb215)); have n6_ := Aside0.mk ((by rw [hg]; exact Nat.ne_of_gt (blk_lt (g := gb214) (o := .cells #[.slice A0_0 l0_0.length c0_0, .slice A0_1 l0_1.length c0_1, .slice A0_2 l0_2.length c0_2, .int .i64 a0_3, .int .i64 a0_4, .int .i64 a0_5, .int .i64 a0_6, .int .i64 a0_7, .int .i64 a0_8] 26 (0, 0)) (by (with_reducible repeat (first | refine blk_drewN ?_ _ | refine blk_drew ?_ | refine blk_alloc ?_ _)); exact BK214.out)) : gb215 ≠ gb214)); clear BK214; clear HB; have BK214 := n0_; have HB := n1_; have BK215 := n2_; have GW215 := n3_; have GE215 := n4_; have NB214_215 := n5_; have NB215_214 := n6_; clear n0_ n1_ n2_ n3_ n4_ n5_ n6_; clear hb hbox hg)); try go_wp2_with (first | ((with_reducible refine gate_dst (N := 3) rfl ?_); (try (refine gate_guard (by rfl) ?_; dsimp only)); refine box_event ?hg (N := 3) ?hd (cs := #[.slice A0_0 l0_0.length c0_0, .slice A0_1 l0_1.length c0_1, .slice A0_2 l0_2.length c0_2, .int .i64 a0_3, .int .i64 a0_4, .int .i64 a0_5, .int .i64 a0_6, .int .i64 a0_7, .int .i64 a0_8]) (t := 26) ?hr ?_; (case hd => rfl); (case hg => rfl); (case hr => first | (go_simp; done) | (go_simp; rfl)); intro gb214 hg w5 hbox hb; have n0_ := Aside0.mk (below_step (by repeat (first | (with_reducible first | exact HB.out | apply below_alloc | apply pw_below_drewN | apply below_drew1) | exact HB.out)) hb); have n1_ := Aside0.mk (hbox); have n2_ := Aside0.mk ((by rw [hg]; exact (below_size (by repeat (first | (with_reducible first | exact HB.out | apply below_alloc | apply pw_below_drewN | apply below_drew1) | exact HB.out))) : w.heap.size ≤ gb214)); have n3_ := Aside0.mk ((by rw [hg]; exact (below_size (by repeat (first | (with_reducible first | exact HB.out | apply below_alloc | apply pw_below_drewN | apply below_drew1) | exact HB.out))) : w.heap.size ≤ gb214)); clear HB; have HB := n0_; have BK214 := n1_; have GW214 := n2_; have GE214 := n3_; clear n0_ n1_ n2_ n3_; clear hb hbox hg) | ((with_reducible refine gate_dst (N := 4) rfl ?_); (try (refine gate_guard (by rfl) ?_; dsimp only)); refine box_event ?hg (N := 4) ?hd (cs := #[.int .i64 a1_0, .int .i64 a1_1, .slice A1_2 l1_2.length c1_2, .slice A1_3 l1_3.length c1_3]) (t := 36) ?hr ?_; (case hd => rfl); (case hg => rfl); (case hr => first | (go_simp; done) | (go_simp; rfl)); intro gb215 hg w6 hbox hb; have n0_ := Aside0.mk (blk_below (g := gb214) (o := .cells #[.slice A0_0 l0_0.length c0_0, .slice A0_1 l0_1.length c0_1, .slice A0_2 l0_2.length c0_2, .int .i64 a0_3, .int .i64 a0_4, .int .i64 a0_5, .int .i64 a0_6, .int .i64 a0_7, .int .i64 a0_8] 26 (0, 0)) (by (with_reducible repeat (first | refine blk_drewN ?_ _ | refine blk_drew ?_ | refine blk_alloc ?_ _)); exact BK214.out) hb); have n1_ := Aside0.mk (below_step (by repeat (first | (with_reducible first | exact HB.out | apply below_alloc | apply pw_below_drewN | apply below_drew1 | refine below_set ?_ GE214.out) | exact HB.out)) hb); have n2_ := Aside0.mk (hbox); have n3_ := Aside0.mk ((by rw [hg]; exact (below_size (by repeat (first | (with_reducible first | exact HB.out | apply below_alloc | apply pw_below_drewN | apply below_drew1 | refine below_set ?_ GE214.out) | exact HB.out))) : w.heap.size ≤ gb215)); have n4_ := Aside0.mk ((by rw [hg]; exact (below_size (by repeat (first | (with_reducible first | exact HB.out | apply below_alloc | apply pw_below_drewN | apply below_drew1 | refine below_set ?_ GE214.out) | exact HB.out))) : w.heap.size ≤ gb215)); have n5_ := Aside0.mk ((by rw [hg]; exact Nat.ne_of_lt (blk_lt (g := gb214) (o := .cells #[.slice A0_0 l0_0.length c0_0, .slice A0_1 l0_1.length c0_1, .slice A0_2 l0_2.length c0_2, .int .i64 a0_3, .int .i64 a0_4, .int .i64 a0_5, .int .i64 a0_6, .int .i64 a0_7, .int .i64 a0_8] 26 (0, 0)) (by (with_reducible repeat (first | refine blk_drewN ?_ _ | refine blk_drew ?_ | refine blk_alloc ?_ _)); exact BK214.out)) : gb214 ≠ gb215)); have n6_ := Aside0.mk ((by rw [hg]; exact Nat.ne_of_gt (blk_lt (g := gb214) (o := .cells #[.slice A0_0 l0_0.length c0_0, .slice A0_1 l0_1.length c0_1, .slice A0_2 l0_2.length c0_2, .int .i64 a0_3, .int .i64 a0_4, .int .i64 a0_5, .int .i64 a0_6, .int .i64 a0_7, .int .i64 a0_8] 26 (0, 0)) (by (with_reducible repeat (first | refine blk_drewN ?_ _ | refine blk_drew ?_ | refine blk_alloc ?_ _)); exact BK214.out)) : gb215 ≠ gb214)); clear BK214; clear HB; have BK214 := n0_; have HB := n1_; have BK215 := n2_; have GW215 := n3_; have GE215 := n4_; have NB214_215 := n5_; have NB215_214 := n6_; clear n0_ n1_ n2_ n3_ n4_ n5_ n6_; clear hb hbox hg)))
    go_ret
    exact ⟨by first | rfl | (simp [errW_none, errW_some] <;> rfl) | (simp [*, errW_none, errW_some] <;> rfl), by repeat (first | (with_reducible first | exact HB.out | apply below_alloc | apply pw_below_drewN | apply below_drew1 | refine below_set ?_ GE214.out | refine below_set ?_ GE215.out) | exact HB.out)⟩
  · rw [if_neg c4] at H
    have c4b0 : decide (a2 < 0) = false := decide_eq_false c4
    clear c4
    by_cases c7 : a2 ≥ (l0_0.length : Int)
    · rw [if_pos c7] at H
      have c7b0 : decide ((l0_0.length : Int) ≤ a2) = true := decide_eq_true c7
      clear c7
      obtain rfl := Option.some.inj H
      go_enter Try.func59, Try.ntmps59
      go_wp2_with (first | ((with_reducible refine gate_dst (N := 3) rfl ?_); (try (refine gate_guard (by rfl) ?_; dsimp only)); refine box_event ?hg (N := 3) ?hd (cs := #[.slice A0_0 l0_0.length c0_0, .slice A0_1 l0_1.length c0_1, .slice A0_2 l0_2.length c0_2, .int .i64 a0_3, .int .i64 a0_4, .int .i64 a0_5, .int .i64 a0_6, .int .i64 a0_7, .int .i64 a0_8]) (t := 26) ?hr ?_; (case hd => rfl); (case hg => rfl); (case hr => first | (go_simp; done) | (go_simp; rfl)); intro gb214 hg w8 hbox hb; have n0_ := Aside0.mk (below_step (by repeat (first | (with_reducible first | exact HB.out | apply below_alloc | apply pw_below_drewN | apply below_drew1) | exact HB.out)) hb); have n1_ := Aside0.mk (hbox); have n2_ := Aside0.mk ((by rw [hg]; exact (below_size (by repeat (first | (with_reducible first | exact HB.out | apply below_alloc | apply pw_below_drewN | apply below_drew1) | exact HB.out))) : w.heap.size ≤ gb214)); have n3_ := Aside0.mk ((by rw [hg]; exact (below_size (by repeat (first | (with_reducible first | exact HB.out | apply below_alloc | apply pw_below_drewN | apply below_drew1) | exact HB.out))) : w.heap.size ≤ gb214)); clear HB; have HB := n0_; have BK214 := n1_; have GW214 := n2_; have GE214 := n3_; clear n0_ n1_ n2_ n3_; clear hb hbox hg) | ((with_reducible refine gate_dst (N := 4) rfl ?_); (try (refine gate_guard (by rfl) ?_; dsimp only)); refine box_event ?hg (N := 4) ?hd (cs := #[.int .i64 a1_0, .int .i64 a1_1, .slice A1_2 l1_2.length c1_2, .slice A1_3 l1_3.length c1_3]) (t := 36) ?hr ?_; (case hd => rfl); (case hg => rfl); (case hr => first | (go_simp; done) | (go_simp; rfl)); intro gb215 hg w9 hbox hb; have n0_ := Aside0.mk (blk_below (g := gb214) (o := .cells #[.slice A0_0 l0_0.length c0_0, .slice A0_1 l0_1.length c0_1, .slice A0_2 l0_2.length c0_2, .int .i64 a0_3, .int .i64 a0_4, .int .i64 a0_5, .int .i64 a0_6, .int .i64 a0_7, .int .i64 a0_8] 26 (0, 0)) (by (with_reducible repeat (first | refine blk_drewN ?_ _ | refine blk_drew ?_ | refine blk_alloc ?_ _)); exact BK214.out) hb); have n1_ := Aside0.mk (below_step (by repeat (first | (with_reducible first | exact HB.out | apply below_alloc | apply pw_below_drewN | apply below_drew1 | refine below_set ?_ GE214.out) | exact HB.out)) hb); have n2_ := Aside0.mk (hbox); have n3_ := Aside0.mk ((by rw [hg]; exact (below_size (by repeat (first | (with_reducible first | exact HB.out | apply below_alloc | apply pw_below_drewN | apply below_drew1 | refine below_set ?_ GE214.out) | exact HB.out))) : w.heap.size ≤ gb215)); have n4_ := Aside0.mk ((by rw [hg]; exact (below_size (by repeat (first | (with_reducible first | exact HB.out | apply below_alloc | apply pw_below_drewN | apply below_drew1 | refine below_set ?_ GE214.out) | exact HB.out))) : w.heap.size ≤ gb215)); have n5_ := Aside0.mk ((by rw [hg]; exact Nat.ne_of_lt (blk_lt (g := gb214) (o := .cells #[.slice A0_0 l0_0.length c0_0, .slice A0_1 l0_1.length c0_1, .slice A0_2 l0_2.length c0_2, .int .i64 a0_3, .int .i64 a0_4, .int .i64 a0_5, .int .i64 a0_6, .int .i64 a0_7, .int .i64 a0_8] 26 (0, 0)) (by (with_reducible repeat (first | refine blk_drewN ?_ _ | refine blk_drew ?_ | refine blk_alloc ?_ _)); exact BK214.out)) : gb214 ≠ gb215)); have n6_ := Aside0.mk ((by rw [hg]; exact Nat.ne_of_gt (blk_lt (g := gb214) (o := .cells #[.slice A0_0 l0_0.length c0_0, .slice A0_1 l0_1.length c0_1, .slice A0_2 l0_2.length c0_2, .int .i64 a0_3, .int .i64 a0_4, .int .i64 a0_5, .int .i64 a0_6, .int .i64 a0_7, .int .i64 a0_8] 26 (0, 0)) (by (with_reducible repeat (first | refine blk_drewN ?_ _ | refine blk_drew ?_ | refine blk_alloc ?_ _)); exact BK214.out)) : gb215 ≠ gb214)); clear BK214; clear HB; have BK214 := n0_; have HB := n1_; have BK215 := n2_; have GW215 := n3_; have GE215 := n4_; have NB214_215 := n5_; have NB215_214 := n6_; clear n0_ n1_ n2_ n3_ n4_ n5_ n6_; clear hb hbox hg; have hnb10 := NB214_215.out; have hnc10 := NB215_214.out; have hcz11_0 : w9.cell? ⟨gb214, 0, none⟩ = some (.slice A0_0 l0_0.length c0_0) := (blk_cell BK214.out 0).trans rfl; have hcz11_1 : w9.cell? ⟨gb214, 1, none⟩ = some (.slice A0_1 l0_1.length c0_1) := (blk_cell BK214.out 1).trans rfl; have hcz11_2 : w9.cell? ⟨gb214, 2, none⟩ = some (.slice A0_2 l0_2.length c0_2) := (blk_cell BK214.out 2).trans rfl; have hcz11_3 : w9.cell? ⟨gb214, 3, none⟩ = some (.int .i64 a0_3) := (blk_cell BK214.out 3).trans rfl; have hcz11_4 : w9.cell? ⟨gb214, 4, none⟩ = some (.int .i64 a0_4) := (blk_cell BK214.out 4).trans rfl; have hcz11_5 : w9.cell? ⟨gb214, 5, none⟩ = some (.int .i64 a0_5) := (blk_cell BK214.out 5).trans rfl; have hcz11_6 : w9.cell? ⟨gb214, 6, none⟩ = some (.int .i64 a0_6) := (blk_cell BK214.out 6).trans rfl; have hcz11_7 : w9.cell? ⟨gb214, 7, none⟩ = some (.int .i64 a0_7) := (blk_cell BK214.out 7).trans rfl; have hcz11_8 : w9.cell? ⟨gb214, 8, none⟩ = some (.int .i64 a0_8) := (blk_cell BK214.out 8).trans rfl; have hfz11_0 := blk_frozen BK214.out 0; have hfz11_1 := blk_frozen BK214.out 1; have hfz11_2 := blk_frozen BK214.out 2; have hfz11_3 := blk_frozen BK214.out 3; have hfz11_4 := blk_frozen BK214.out 4; have hfz11_5 := blk_frozen BK214.out 5; have hfz11_6 := blk_frozen BK214.out 6; have hfz11_7 := blk_frozen BK214.out 7; have hfz11_8 := blk_frozen BK214.out 8))
      repeat (go_quiet (first | ((with_reducible refine gate_dst (N := 3) rfl ?_); (try (refine gate_guard (by rfl) ?_; dsimp only)); refine box_event ?hg (N := 3) ?hd (cs := #[.slice A0_0 l0_0.length c0_0, .slice A0_1 l0_1.length c0_1, .slice A0_2 l0_2.length c0_2, .int .i64 a0_3, .int .i64 a0_4, .int .i64 a0_5, .int .i64 a0_6, .int .i64 a0_7, .int .i64 a0_8]) (t := 26) ?hr ?_; (case hd => rfl); (case hg => rfl); (case hr => first | (go_simp; done) | (go_simp; rfl)); intro gb214 hg w8 hbox hb; have n0_ := Aside0.mk (below_step (by repeat (first | (with_reducible first | exact HB.out | apply below_alloc | apply pw_below_drewN | apply below_drew1) | exact HB.out)) hb); have n1_ := Aside0.mk (hbox); have n2_ := Aside0.mk ((by rw [hg]; exact (below_size (by repeat (first | (with_reducible first | exact HB.out | apply below_alloc | apply pw_below_drewN | apply below_drew1) | exact HB.out))) : w.heap.size ≤ gb214)); have n3_ := Aside0.mk ((by rw [hg]; exact (below_size (by repeat (first | (with_reducible first | exact HB.out | apply below_alloc | apply pw_below_drewN | apply below_drew1) | exact HB.out))) : w.heap.size ≤ gb214)); clear HB; have HB := n0_; have BK214 := n1_; have GW214 := n2_; have GE214 := n3_; clear n0_ n1_ n2_ n3_; clear hb hbox hg) | ((with_reducible refine gate_dst (N := 4) rfl ?_); (try (refine gate_guard (by rfl) ?_; dsimp only)); refine box_event ?hg (N := 4) ?hd (cs := #[.int .i64 a1_0, .int .i64 a1_1, .slice A1_2 l1_2.length c1_2, .slice A1_3 l1_3.length c1_3]) (t := 36) ?hr ?_; (case hd => rfl); (case hg => rfl); (case hr => first | (go_simp; done) | (go_simp; rfl)); intro gb215 hg w9 hbox hb; have n0_ := Aside0.mk (blk_below (g := gb214) (o := .cells #[.slice A0_0 l0_0.length c0_0, .slice A0_1 l0_1.length c0_1, .slice A0_2 l0_2.length c0_2, .int .i64 a0_3, .int .i64 a0_4, .int .i64 a0_5, .int .i64 a0_6, .int .i64 a0_7, .int .i64 a0_8] 26 (0, 0)) (by (with_reducible repeat (first | refine blk_drewN ?_ _ | refine blk_drew ?_ | refine blk_alloc ?_ _)); exact BK214.out) hb); have n1_ := Aside0.mk (below_step (by repeat (first | (with_reducible first | exact HB.out | apply below_alloc | apply pw_below_drewN | apply below_drew1 | refine below_set ?_ GE214.out) | exact HB.out)) hb); have n2_ := Aside0.mk (hbox); have n3_ := Aside0.mk ((by rw [hg]; exact (below_size (by repeat (first | (with_reducible first | exact HB.out | apply below_alloc | apply pw_below_drewN | apply below_drew1 | refine below_set ?_ GE214.out) | exact HB.out))) : w.heap.size ≤ gb215)); have n4_ := Aside0.mk ((by rw [hg]; exact (below_size (by repeat (first | (with_reducible first | exact HB.out | apply below_alloc | apply pw_below_drewN | apply below_drew1 | refine below_set ?_ GE214.out) | exact HB.out))) : w.heap.size ≤ gb215)); have n5_ := Aside0.mk ((by rw [hg]; exact Nat.ne_of_lt (blk_lt (g := gb214) (o := .cells #[.slice A0_0 l0_0.length c0_0, .slice A0_1 l0_1.length c0_1, .slice A0_2 l0_2.length c0_2, .int .i64 a0_3, .int .i64 a0_4, .int .i64 a0_5, .int .i64 a0_6, .int .i64 a0_7, .int .i64 a0_8] 26 (0, 0)) (by (with_reducible repeat (first | refine blk_drewN ?_ _ | refine blk_drew ?_ | refine blk_alloc ?_ _)); exact BK214.out)) : gb214 ≠ gb215)); have n6_ := Aside0.mk ((by rw [hg]; exact Nat.ne_of_gt (blk_lt (g := gb214) (o := .cells #[.slice A0_0 l0_0.length c0_0, .slice A0_1 l0_1.length c0_1, .slice A0_2 l0_2.length c0_2, .int .i64 a0_3, .int .i64 a0_4, .int .i64 a0_5, .int .i64 a0_6, .int .i64 a0_7, .int .i64 a0_8] 26 (0, 0)) (by (with_reducible repeat (first | refine blk_drewN ?_ _ | refine blk_drew ?_ | refine blk_alloc ?_ _)); exact BK214.out)) : gb215 ≠ gb214)); clear BK214; clear HB; have BK214 := n0_; have HB := n1_; have BK215 := n2_; have GW215 := n3_; have GE215 := n4_; have NB214_215 := n5_; have NB215_214 := n6_; clear n0_ n1_ n2_ n3_ n4_ n5_ n6_; clear hb hbox hg; have hnb10 := NB214_215.out; have hnc10 := NB215_214.out; have hcz11_0 : w9.cell? ⟨gb214, 0, none⟩ = some (.slice A0_0 l0_0.length c0_0) := (blk_cell BK214.out 0).trans rfl; have hcz11_1 : w9.cell? ⟨gb214, 1, none⟩ = some (.slice A0_1 l0_1.length c0_1) := (blk_cell BK214.out 1).trans rfl; have hcz11_2 : w9.cell? ⟨gb214, 2, none⟩ = some (.slice A0_2 l0_2.length c0_2) := (blk_cell BK214.out 2).trans rfl; have hcz11_3 : w9.cell? ⟨gb214, 3, none⟩ = some (.int .i64 a0_3) := (blk_cell BK214.out 3).trans rfl; have hcz11_4 : w9.cell? ⟨gb214, 4, none⟩ = some (.int .i64 a0_4) := (blk_cell BK214.out 4).trans rfl; have hcz11_5 : w9.cell? ⟨gb214, 5, none⟩ = some (.int .i64 a0_5) := (blk_cell BK214.out 5).trans rfl; have hcz11_6 : w9.cell? ⟨gb214, 6, none⟩ = some (.int .i64 a0_6) := (blk_cell BK214.out 6).trans rfl; have hcz11_7 : w9.cell? ⟨gb214, 7, none⟩ = some (.int .i64 a0_7) := (blk_cell BK214.out 7).trans rfl; have hcz11_8 : w9.cell? ⟨gb214, 8, none⟩ = some (.int .i64 a0_8) := (blk_cell BK214.out 8).trans rfl; have hfz11_0 := blk_frozen BK214.out 0; have hfz11_1 := blk_frozen BK214.out 1; have hfz11_2 := blk_frozen BK214.out 2; have hfz11_3 := blk_frozen BK214.out 3; have hfz11_4 := blk_frozen BK214.out 4; have hfz11_5 := blk_frozen BK214.out 5; have hfz11_6 := blk_frozen BK214.out 6; have hfz11_7 := blk_frozen BK214.out 7; have hfz11_8 := blk_frozen BK214.out 8)); try go_wp2_with (first | ((with_reducible refine gate_dst (N := 3) rfl ?_); (try (refine gate_guard (by rfl) ?_; dsimp only)); refine box_event ?hg (N := 3) ?hd (cs := #[.slice A0_0 l0_0.length c0_0, .slice A0_1 l0_1.length c0_1, .slice A0_2 l0_2.length c0_2, .int .i64 a0_3, .int .i64 a0_4, .int .i64 a0_5, .int .i64 a0_6, .int .i64 a0_7, .int .i64 a0_8]) (t := 26) ?hr ?_; (case hd => rfl); (case hg => rfl); (case hr => first | (go_simp; done) | (go_simp; rfl)); intro gb214 hg w8 hbox hb; have n0_ := Aside0.mk (below_step (by repeat (first | (with_reducible first | exact HB.out | apply below_alloc | apply pw_below_drewN | apply below_drew1) | exact HB.out)) hb); have n1_ := Aside0.mk (hbox); have n2_ := Aside0.mk ((by rw [hg]; exact (below_size (by repeat (first | (with_reducible first | exact HB.out | apply below_alloc | apply pw_below_drewN | apply below_drew1) | exact HB.out))) : w.heap.size ≤ gb214)); have n3_ := Aside0.mk ((by rw [hg]; exact (below_size (by repeat (first | (with_reducible first | exact HB.out | apply below_alloc | apply pw_below_drewN | apply below_drew1) | exact HB.out))) : w.heap.size ≤ gb214)); clear HB; have HB := n0_; have BK214 := n1_; have GW214 := n2_; have GE214 := n3_; clear n0_ n1_ n2_ n3_; clear hb hbox hg) | ((with_reducible refine gate_dst (N := 4) rfl ?_); (try (refine gate_guard (by rfl) ?_; dsimp only)); refine box_event ?hg (N := 4) ?hd (cs := #[.int .i64 a1_0, .int .i64 a1_1, .slice A1_2 l1_2.length c1_2, .slice A1_3 l1_3.length c1_3]) (t := 36) ?hr ?_; (case hd => rfl); (case hg => rfl); (case hr => first | (go_simp; done) | (go_simp; rfl)); intro gb215 hg w9 hbox hb; have n0_ := Aside0.mk (blk_below (g := gb214) (o := .cells #[.slice A0_0 l0_0.length c0_0, .slice A0_1 l0_1.length c0_1, .slice A0_2 l0_2.length c0_2, .int .i64 a0_3, .int .i64 a0_4, .int .i64 a0_5, .int .i64 a0_6, .int .i64 a0_7, .int .i64 a0_8] 26 (0, 0)) (by (with_reducible repeat (first | refine blk_drewN ?_ _ | refine blk_drew ?_ | refine blk_alloc ?_ _)); exact BK214.out) hb); have n1_ := Aside0.mk (below_step (by repeat (first | (with_reducible first | exact HB.out | apply below_alloc | apply pw_below_drewN | apply below_drew1 | refine below_set ?_ GE214.out) | exact HB.out)) hb); have n2_ := Aside0.mk (hbox); have n3_ := Aside0.mk ((by rw [hg]; exact (below_size (by repeat (first | (with_reducible first | exact HB.out | apply below_alloc | apply pw_below_drewN | apply below_drew1 | refine below_set ?_ GE214.out) | exact HB.out))) : w.heap.size ≤ gb215)); have n4_ := Aside0.mk ((by rw [hg]; exact (below_size (by repeat (first | (with_reducible first | exact HB.out | apply below_alloc | apply pw_below_drewN | apply below_drew1 | refine below_set ?_ GE214.out) | exact HB.out))) : w.heap.size ≤ gb215)); have n5_ := Aside0.mk ((by rw [hg]; exact Nat.ne_of_lt (blk_lt (g := gb214) (o := .cells #[.slice A0_0 l0_0.length c0_0, .slice A0_1 l0_1.length c0_1, .slice A0_2 l0_2.length c0_2, .int .i64 a0_3, .int .i64 a0_4, .int .i64 a0_5, .int .i64 a0_6, .int .i64 a0_7, .int .i64 a0_8] 26 (0, 0)) (by (with_reducible repeat (first | refine blk_drewN ?_ _ | refine blk_drew ?_ | refine blk_alloc ?_ _)); exact BK214.out)) : gb214 ≠ gb215)); have n6_ := Aside0.mk ((by rw [hg]; exact Nat.ne_of_gt (blk_lt (g := gb214) (o := .cells #[.slice A0_0 l0_0.length c0_0, .slice A0_1 l0_1.length c0_1, .slice A0_2 l0_2.length c0_2, .int .i64 a0_3, .int .i64 a0_4, .int .i64 a0_5, .int .i64 a0_6, .int .i64 a0_7, .int .i64 a0_8] 26 (0, 0)) (by (with_reducible repeat (first | refine blk_drewN ?_ _ | refine blk_drew ?_ | refine blk_alloc ?_ _)); exact BK214.out)) : gb215 ≠ gb214)); clear BK214; clear HB; have BK214 := n0_; have HB := n1_; have BK215 := n2_; have GW215 := n3_; have GE215 := n4_; have NB214_215 := n5_; have NB215_214 := n6_; clear n0_ n1_ n2_ n3_ n4_ n5_ n6_; clear hb hbox hg; have hnb10 := NB214_215.out; have hnc10 := NB215_214.out; have hcz11_0 : w9.cell? ⟨gb214, 0, none⟩ = some (.slice A0_0 l0_0.length c0_0) := (blk_cell BK214.out 0).trans rfl; have hcz11_1 : w9.cell? ⟨gb214, 1, none⟩ = some (.slice A0_1 l0_1.length c0_1) := (blk_cell BK214.out 1).trans rfl; have hcz11_2 : w9.cell? ⟨gb214, 2, none⟩ = some (.slice A0_2 l0_2.length c0_2) := (blk_cell BK214.out 2).trans rfl; have hcz11_3 : w9.cell? ⟨gb214, 3, none⟩ = some (.int .i64 a0_3) := (blk_cell BK214.out 3).trans rfl; have hcz11_4 : w9.cell? ⟨gb214, 4, none⟩ = some (.int .i64 a0_4) := (blk_cell BK214.out 4).trans rfl; have hcz11_5 : w9.cell? ⟨gb214, 5, none⟩ = some (.int .i64 a0_5) := (blk_cell BK214.out 5).trans rfl; have hcz11_6 : w9.cell? ⟨gb214, 6, none⟩ = some (.int .i64 a0_6) := (blk_cell BK214.out 6).trans rfl; have hcz11_7 : w9.cell? ⟨gb214, 7, none⟩ = some (.int .i64 a0_7) := (blk_cell BK214.out 7).trans rfl; have hcz11_8 : w9.cell? ⟨gb214, 8, none⟩ = some (.int .i64 a0_8) := (blk_cell BK214.out 8).trans rfl; have hfz11_0 := blk_frozen BK214.out 0; have hfz11_1 := blk_frozen BK214.out 1; have hfz11_2 := blk_frozen BK214.out 2; have hfz11_3 := blk_frozen BK214.out 3; have hfz11_4 := blk_frozen BK214.out 4; have hfz11_5 := blk_frozen BK214.out 5; have hfz11_6 := blk_frozen BK214.out 6; have hfz11_7 := blk_frozen BK214.out 7; have hfz11_8 := blk_frozen BK214.out 8)))
      go_ret
      exact ⟨by first | rfl | (simp [errW_none, errW_some] <;> rfl) | (simp [*, errW_none, errW_some] <;> rfl), by repeat (first | (with_reducible first | exact HB.out | apply below_alloc | apply pw_below_drewN | apply below_drew1 | refine below_set ?_ GE214.out | refine below_set ?_ GE215.out) | exact HB.out)⟩
    · rw [if_neg c7] at H
      have c7b0 : decide ((l0_0.length : Int) ≤ a2) = false := decide_eq_false c7
      clear c7
      by_cases c12 : 0 ≤ a2
      · rw [if_pos c12] at H
        have c12b0 : decide (0 ≤ a2) = true := decide_eq_true c12
        clear c12
        by_cases c13 : a2 < (l0_0.length : Int)
        · rw [if_pos c13] at H
          have c13b0 : decide (a2 < (l0_0.length : Int)) = true := decide_eq_true c13
          clear c13
          obtain rfl := Option.some.inj H
          go_enter Try.func59, Try.ntmps59
          go_wp2_with (first | ((with_reducible refine gate_dst (N := 3) rfl ?_); (try (refine gate_guard (by rfl) ?_; dsimp only)); refine box_event ?hg (N := 3) ?hd (cs := #[.slice A0_0 l0_0.length c0_0, .slice A0_1 l0_1.length c0_1, .slice A0_2 l0_2.length c0_2, .int .i64 a0_3, .int .i64 a0_4, .int .i64 a0_5, .int .i64 a0_6, .int .i64 a0_7, .int .i64 a0_8]) (t := 26) ?hr ?_; (case hd => rfl); (case hg => rfl); (case hr => first | (go_simp; done) | (go_simp; rfl)); intro gb214 hg w14 hbox hb; have n0_ := Aside0.mk (below_step (by repeat (first | (with_reducible first | exact HB.out | apply below_alloc | apply pw_below_drewN | apply below_drew1) | exact HB.out)) hb); have n1_ := Aside0.mk (hbox); have n2_ := Aside0.mk ((by rw [hg]; exact (below_size (by repeat (first | (with_reducible first | exact HB.out | apply below_alloc | apply pw_below_drewN | apply below_drew1) | exact HB.out))) : w.heap.size ≤ gb214)); have n3_ := Aside0.mk ((by rw [hg]; exact (below_size (by repeat (first | (with_reducible first | exact HB.out | apply below_alloc | apply pw_below_drewN | apply below_drew1) | exact HB.out))) : w.heap.size ≤ gb214)); clear HB; have HB := n0_; have BK214 := n1_; have GW214 := n2_; have GE214 := n3_; clear n0_ n1_ n2_ n3_; clear hb hbox hg) | ((with_reducible refine gate_dst (N := 4) rfl ?_); (try (refine gate_guard (by rfl) ?_; dsimp only)); refine box_event ?hg (N := 4) ?hd (cs := #[.int .i64 a1_0, .int .i64 a1_1, .slice A1_2 l1_2.length c1_2, .slice A1_3 l1_3.length c1_3]) (t := 36) ?hr ?_; (case hd => rfl); (case hg => rfl); (case hr => first | (go_simp; done) | (go_simp; rfl)); intro gb215 hg w15 hbox hb; have n0_ := Aside0.mk (blk_below (g := gb214) (o := .cells #[.slice A0_0 l0_0.length c0_0, .slice A0_1 l0_1.length c0_1, .slice A0_2 l0_2.length c0_2, .int .i64 a0_3, .int .i64 a0_4, .int .i64 a0_5, .int .i64 a0_6, .int .i64 a0_7, .int .i64 a0_8] 26 (0, 0)) (by (with_reducible repeat (first | refine blk_drewN ?_ _ | refine blk_drew ?_ | refine blk_alloc ?_ _)); exact BK214.out) hb); have n1_ := Aside0.mk (below_step (by repeat (first | (with_reducible first | exact HB.out | apply below_alloc | apply pw_below_drewN | apply below_drew1 | refine below_set ?_ GE214.out) | exact HB.out)) hb); have n2_ := Aside0.mk (hbox); have n3_ := Aside0.mk ((by rw [hg]; exact (below_size (by repeat (first | (with_reducible first | exact HB.out | apply below_alloc | apply pw_below_drewN | apply below_drew1 | refine below_set ?_ GE214.out) | exact HB.out))) : w.heap.size ≤ gb215)); have n4_ := Aside0.mk ((by rw [hg]; exact (below_size (by repeat (first | (with_reducible first | exact HB.out | apply below_alloc | apply pw_below_drewN | apply below_drew1 | refine below_set ?_ GE214.out) | exact HB.out))) : w.heap.size ≤ gb215)); have n5_ := Aside0.mk ((by rw [hg]; exact Nat.ne_of_lt (blk_lt (g := gb214) (o := .cells #[.slice A0_0 l0_0.length c0_0, .slice A0_1 l0_1.length c0_1, .slice A0_2 l0_2.length c0_2, .int .i64 a0_3, .int .i64 a0_4, .int .i64 a0_5, .int .i64 a0_6, .int .i64 a0_7, .int .i64 a0_8] 26 (0, 0)) (by (with_reducible repeat (first | refine blk_drewN ?_ _ | refine blk_drew ?_ | refine blk_alloc ?_ _)); exact BK214.out)) : gb214 ≠ gb215)); have n6_ := Aside0.mk ((by rw [hg]; exact Nat.ne_of_gt (blk_lt (g := gb214) (o := .cells #[.slice A0_0 l0_0.length c0_0, .slice A0_1 l0_1.length c0_1, .slice A0_2 l0_2.length c0_2, .int .i64 a0_3, .int .i64 a0_4, .int .i64 a0_5, .int .i64 a0_6, .int .i64 a0_7, .int .i64 a0_8] 26 (0, 0)) (by (with_reducible repeat (first | refine blk_drewN ?_ _ | refine blk_drew ?_ | refine blk_alloc ?_ _)); exact BK214.out)) : gb215 ≠ gb214)); clear BK214; clear HB; have BK214 := n0_; have HB := n1_; have BK215 := n2_; have GW215 := n3_; have GE215 := n4_; have NB214_215 := n5_; have NB215_214 := n6_; clear n0_ n1_ n2_ n3_ n4_ n5_ n6_; clear hb hbox hg; have hnb16 := NB214_215.out; have hnc16 := NB215_214.out; have hcz17_0 : w15.cell? ⟨gb214, 0, none⟩ = some (.slice A0_0 l0_0.length c0_0) := (blk_cell BK214.out 0).trans rfl; have hcz17_1 : w15.cell? ⟨gb214, 1, none⟩ = some (.slice A0_1 l0_1.length c0_1) := (blk_cell BK214.out 1).trans rfl; have hcz17_2 : w15.cell? ⟨gb214, 2, none⟩ = some (.slice A0_2 l0_2.length c0_2) := (blk_cell BK214.out 2).trans rfl; have hcz17_3 : w15.cell? ⟨gb214, 3, none⟩ = some (.int .i64 a0_3) := (blk_cell BK214.out 3).trans rfl; have hcz17_4 : w15.cell? ⟨gb214, 4, none⟩ = some (.int .i64 a0_4) := (blk_cell BK214.out 4).trans rfl; have hcz17_5 : w15.cell? ⟨gb214, 5, none⟩ = some (.int .i64 a0_5) := (blk_cell BK214.out 5).trans rfl; have hcz17_6 : w15.cell? ⟨gb214, 6, none⟩ = some (.int .i64 a0_6) := (blk_cell BK214.out 6).trans rfl; have hcz17_7 : w15.cell? ⟨gb214, 7, none⟩ = some (.int .i64 a0_7) := (blk_cell BK214.out 7).trans rfl; have hcz17_8 : w15.cell? ⟨gb214, 8, none⟩ = some (.int .i64 a0_8) := (blk_cell BK214.out 8).trans rfl; have hfz17_0 := blk_frozen BK214.out 0; have hfz17_1 := blk_frozen BK214.out 1; have hfz17_2 := blk_frozen BK214.out 2; have hfz17_3 := blk_frozen BK214.out 3; have hfz17_4 := blk_frozen BK214.out 4; have hfz17_5 := blk_frozen BK214.out 5; have hfz17_6 := blk_frozen BK214.out 6; have hfz17_7 := blk_frozen BK214.out 7; have hfz17_8 := blk_frozen BK214.out 8; have hcz18_0 : w15.cell? ⟨gb215, 0, none⟩ = some (.int .i64 a1_0) := (blk_cell BK215.out 0).trans rfl; have hcz18_1 : w15.cell? ⟨gb215, 1, none⟩ = some (.int .i64 a1_1) := (blk_cell BK215.out 1).trans rfl; have hcz18_2 : w15.cell? ⟨gb215, 2, none⟩ = some (.slice A1_2 l1_2.length c1_2) := (blk_cell BK215.out 2).trans rfl; have hcz18_3 : w15.cell? ⟨gb215, 3, none⟩ = some (.slice A1_3 l1_3.length c1_3) := (blk_cell BK215.out 3).trans rfl; have hfz18_0 := blk_frozen BK215.out 0; have hfz18_1 := blk_frozen BK215.out 1; have hfz18_2 := blk_frozen BK215.out 2; have hfz18_3 := blk_frozen BK215.out 3; have p216 : 0 ≤ (a2 : Int) := of_decide_eq_true (by first | (with_reducible assumption) | assumption); have q216 : a2 < (l0_0.length : Int) := of_decide_eq_true (by first | (with_reducible assumption) | assumption); obtain ⟨ad216, e216, hx216_0, hx216_1⟩ := at_T58 HR0_0.out a2 p216 q216; cases e216; replace hx216_0 := (HB.out.cell (World.block_lt_of_cell? w _ hx216_0)).trans hx216_0; replace hx216_1 := (HB.out.cell (World.block_lt_of_cell? w _ hx216_1)).trans hx216_1; replace p216 := eq_true p216; replace q216 := eq_true q216))
          repeat (go_quiet (first | ((with_reducible refine gate_dst (N := 3) rfl ?_); (try (refine gate_guard (by rfl) ?_; dsimp only)); refine box_event ?hg (N := 3) ?hd (cs := #[.slice A0_0 l0_0.length c0_0, .slice A0_1 l0_1.length c0_1, .slice A0_2 l0_2.length c0_2, .int .i64 a0_3, .int .i64 a0_4, .int .i64 a0_5, .int .i64 a0_6, .int .i64 a0_7, .int .i64 a0_8]) (t := 26) ?hr ?_; (case hd => rfl); (case hg => rfl); (case hr => first | (go_simp; done) | (go_simp; rfl)); intro gb214 hg w14 hbox hb; have n0_ := Aside0.mk (below_step (by repeat (first | (with_reducible first | exact HB.out | apply below_alloc | apply pw_below_drewN | apply below_drew1) | exact HB.out)) hb); have n1_ := Aside0.mk (hbox); have n2_ := Aside0.mk ((by rw [hg]; exact (below_size (by repeat (first | (with_reducible first | exact HB.out | apply below_alloc | apply pw_below_drewN | apply below_drew1) | exact HB.out))) : w.heap.size ≤ gb214)); have n3_ := Aside0.mk ((by rw [hg]; exact (below_size (by repeat (first | (with_reducible first | exact HB.out | apply below_alloc | apply pw_below_drewN | apply below_drew1) | exact HB.out))) : w.heap.size ≤ gb214)); clear HB; have HB := n0_; have BK214 := n1_; have GW214 := n2_; have GE214 := n3_; clear n0_ n1_ n2_ n3_; clear hb hbox hg) | ((with_reducible refine gate_dst (N := 4) rfl ?_); (try (refine gate_guard (by rfl) ?_; dsimp only)); refine box_event ?hg (N := 4) ?hd (cs := #[.int .i64 a1_0, .int .i64 a1_1, .slice A1_2 l1_2.length c1_2, .slice A1_3 l1_3.length c1_3]) (t := 36) ?hr ?_; (case hd => rfl); (case hg => rfl); (case hr => first | (go_simp; done) | (go_simp; rfl)); intro gb215 hg w15 hbox hb; have n0_ := Aside0.mk (blk_below (g := gb214) (o := .cells #[.slice A0_0 l0_0.length c0_0, .slice A0_1 l0_1.length c0_1, .slice A0_2 l0_2.length c0_2, .int .i64 a0_3, .int .i64 a0_4, .int .i64 a0_5, .int .i64 a0_6, .int .i64 a0_7, .int .i64 a0_8] 26 (0, 0)) (by (with_reducible repeat (first | refine blk_drewN ?_ _ | refine blk_drew ?_ | refine blk_alloc ?_ _)); exact BK214.out) hb); have n1_ := Aside0.mk (below_step (by repeat (first | (with_reducible first | exact HB.out | apply below_alloc | apply pw_below_drewN | apply below_drew1 | refine below_set ?_ GE214.out) | exact HB.out)) hb); have n2_ := Aside0.mk (hbox); have n3_ := Aside0.mk ((by rw [hg]; exact (below_size (by repeat (first | (with_reducible first | exact HB.out | apply below_alloc | apply pw_below_drewN | apply below_drew1 | refine below_set ?_ GE214.out) | exact HB.out))) : w.heap.size ≤ gb215)); have n4_ := Aside0.mk ((by rw [hg]; exact (below_size (by repeat (first | (with_reducible first | exact HB.out | apply below_alloc | apply pw_below_drewN | apply below_drew1 | refine below_set ?_ GE214.out) | exact HB.out))) : w.heap.size ≤ gb215)); have n5_ := Aside0.mk ((by rw [hg]; exact Nat.ne_of_lt (blk_lt (g := gb214) (o := .cells #[.slice A0_0 l0_0.length c0_0, .slice A0_1 l0_1.length c0_1, .slice A0_2 l0_2.length c0_2, .int .i64 a0_3, .int .i64 a0_4, .int .i64 a0_5, .int .i64 a0_6, .int .i64 a0_7, .int .i64 a0_8] 26 (0, 0)) (by (with_reducible repeat (first | refine blk_drewN ?_ _ | refine blk_drew ?_ | refine blk_alloc ?_ _)); exact BK214.out)) : gb214 ≠ gb215)); have n6_ := Aside0.mk ((by rw [hg]; exact Nat.ne_of_gt (blk_lt (g := gb214) (o := .cells #[.slice A0_0 l0_0.length c0_0, .slice A0_1 l0_1.length c0_1, .slice A0_2 l0_2.length c0_2, .int .i64 a0_3, .int .i64 a0_4, .int .i64 a0_5, .int .i64 a0_6, .int .i64 a0_7, .int .i64 a0_8] 26 (0, 0)) (by (with_reducible repeat (first | refine blk_drewN ?_ _ | refine blk_drew ?_ | refine blk_alloc ?_ _)); exact BK214.out)) : gb215 ≠ gb214)); clear BK214; clear HB; have BK214 := n0_; have HB := n1_; have BK215 := n2_; have GW215 := n3_; have GE215 := n4_; have NB214_215 := n5_; have NB215_214 := n6_; clear n0_ n1_ n2_ n3_ n4_ n5_ n6_; clear hb hbox hg; have hnb16 := NB214_215.out; have hnc16 := NB215_214.out; have hcz17_0 : w15.cell? ⟨gb214, 0, none⟩ = some (.slice A0_0 l0_0.length c0_0) := (blk_cell BK214.out 0).trans rfl; have hcz17_1 : w15.cell? ⟨gb214, 1, none⟩ = some (.slice A0_1 l0_1.length c0_1) := (blk_cell BK214.out 1).trans rfl; have hcz17_2 : w15.cell? ⟨gb214, 2, none⟩ = some (.slice A0_2 l0_2.length c0_2) := (blk_cell BK214.out 2).trans rfl; have hcz17_3 : w15.cell? ⟨gb214, 3, none⟩ = some (.int .i64 a0_3) := (blk_cell BK214.out 3).trans rfl; have hcz17_4 : w15.cell? ⟨gb214, 4, none⟩ = some (.int .i64 a0_4) := (blk_cell BK214.out 4).trans rfl; have hcz17_5 : w15.cell? ⟨gb214, 5, none⟩ = some (.int .i64 a0_5) := (blk_cell BK214.out 5).trans rfl; have hcz17_6 : w15.cell? ⟨gb214, 6, none⟩ = some (.int .i64 a0_6) := (blk_cell BK214.out 6).trans rfl; have hcz17_7 : w15.cell? ⟨gb214, 7, none⟩ = some (.int .i64 a0_7) := (blk_cell BK214.out 7).trans rfl; have hcz17_8 : w15.cell? ⟨gb214, 8, none⟩ = some (.int .i64 a0_8) := (blk_cell BK214.out 8).trans rfl; have hfz17_0 := blk_frozen BK214.out 0; have hfz17_1 := blk_frozen BK214.out 1; have hfz17_2 := blk_frozen BK214.out 2; have hfz17_3 := blk_frozen BK214.out 3; have hfz17_4 := blk_frozen BK214.out 4; have hfz17_5 := blk_frozen BK214.out 5; have hfz17_6 := blk_frozen BK214.out 6; have hfz17_7 := blk_frozen BK214.out 7; have hfz17_8 := blk_frozen BK214.out 8; have hcz18_0 : w15.cell? ⟨gb215, 0, none⟩ = some (.int .i64 a1_0) := (blk_cell BK215.out 0).trans rfl; have hcz18_1 : w15.cell? ⟨gb215, 1, none⟩ = some (.int .i64 a1_1) := (blk_cell BK215.out 1).trans rfl; have hcz18_2 : w15.cell? ⟨gb215, 2, none⟩ = some (.slice A1_2 l1_2.length c1_2) := (blk_cell BK215.out 2).trans rfl; have hcz18_3 : w15.cell? ⟨gb215, 3, none⟩ = some (.slice A1_3 l1_3.length c1_3) := (blk_cell BK215.out 3).trans rfl; have hfz18_0 := blk_frozen BK215.out 0; have hfz18_1 := blk_frozen BK215.out 1; have hfz18_2 := blk_frozen BK215.out 2; have hfz18_3 := blk_frozen BK215.out 3; have p216 : 0 ≤ (a2 : Int) := of_decide_eq_true (by first | (with_reducible assumption) | assumption); have q216 : a2 < (l0_0.length : Int) := of_decide_eq_true (by first | (with_reducible assumption) | assumption); obtain ⟨ad216, e216, hx216_0, hx216_1⟩ := at_T58 HR0_0.out a2 p216 q216; cases e216; replace hx216_0 := (HB.out.cell (World.block_lt_of_cell? w _ hx216_0)).trans hx216_0; replace hx216_1 := (HB.out.cell (World.block_lt_of_cell? w _ hx216_1)).trans hx216_1; replace p216 := eq_true p216; replace q216 := eq_true q216)); try go_wp2_with (first | ((with_reducible refine gate_dst (N := 3) rfl ?_); (try (refine gate_guard (by rfl) ?_; dsimp only)); refine box_event ?hg (N := 3) ?hd (cs := #[.slice A0_0 l0_0.length c0_0, .slice A0_1 l0_1.length c0_1, .slice A0_2 l0_2.length c0_2, .int .i64 a0_3, .int .i64 a0_4, .int .i64 a0_5, .int .i64 a0_6, .int .i64 a0_7, .int .i64 a0_8]) (t := 26) ?hr ?_; (case hd => rfl); (case hg => rfl); (case hr => first | (go_simp; done) | (go_simp; rfl)); intro gb214 hg w14 hbox hb; have n0_ := Aside0.mk (below_step (by repeat (first | (with_reducible first | exact HB.out | apply below_alloc | apply pw_below_drewN | apply below_drew1) | exact HB.out)) hb); have n1_ := Aside0.mk (hbox); have n2_ := Aside0.mk ((by rw [hg]; exact (below_size (by repeat (first | (with_reducible first | exact HB.out | apply below_alloc | apply pw_below_drewN | apply below_drew1) | exact HB.out))) : w.heap.size ≤ gb214)); have n3_ := Aside0.mk ((by rw [hg]; exact (below_size (by repeat (first | (with_reducible first | exact HB.out | apply below_alloc | apply pw_below_drewN | apply below_drew1) | exact HB.out))) : w.heap.size ≤ gb214)); clear HB; have HB := n0_; have BK214 := n1_; have GW214 := n2_; have GE214 := n3_; clear n0_ n1_ n2_ n3_; clear hb hbox hg) | ((with_reducible refine gate_dst (N := 4) rfl ?_); (try (refine gate_guard (by rfl) ?_; dsimp only)); refine box_event ?hg (N := 4) ?hd (cs := #[.int .i64 a1_0, .int .i64 a1_1, .slice A1_2 l1_2.length c1_2, .slice A1_3 l1_3.length c1_3]) (t := 36) ?hr ?_; (case hd => rfl); (case hg => rfl); (case hr => first | (go_simp; done) | (go_simp; rfl)); intro gb215 hg w15 hbox hb; have n0_ := Aside0.mk (blk_below (g := gb214) (o := .cells #[.slice A0_0 l0_0.length c0_0, .slice A0_1 l0_1.length c0_1, .slice A0_2 l0_2.length c0_2, .int .i64 a0_3, .int .i64 a0_4, .int .i64 a0_5, .int .i64 a0_6, .int .i64 a0_7, .int .i64 a0_8] 26 (0, 0)) (by (with_reducible repeat (first | refine blk_drewN ?_ _ | refine blk_drew ?_ | refine blk_alloc ?_ _)); exact BK214.out) hb); have n1_ := Aside0.mk (below_step (by repeat (first | (with_reducible first | exact HB.out | apply below_alloc | apply pw_below_drewN | apply below_drew1 | refine below_set ?_ GE214.out) | exact HB.out)) hb); have n2_ := Aside0.mk (hbox); have n3_ := Aside0.mk ((by rw [hg]; exact (below_size (by repeat (first | (with_reducible first | exact HB.out | apply below_alloc | apply pw_below_drewN | apply below_drew1 | refine below_set ?_ GE214.out) | exact HB.out))) : w.heap.size ≤ gb215)); have n4_ := Aside0.mk ((by rw [hg]; exact (below_size (by repeat (first | (with_reducible first | exact HB.out | apply below_alloc | apply pw_below_drewN | apply below_drew1 | refine below_set ?_ GE214.out) | exact HB.out))) : w.heap.size ≤ gb215)); have n5_ := Aside0.mk ((by rw [hg]; exact Nat.ne_of_lt (blk_lt (g := gb214) (o := .cells #[.slice A0_0 l0_0.length c0_0, .slice A0_1 l0_1.length c0_1, .slice A0_2 l0_2.length c0_2, .int .i64 a0_3, .int .i64 a0_4, .int .i64 a0_5, .int .i64 a0_6, .int .i64 a0_7, .int .i64 a0_8] 26 (0, 0)) (by (with_reducible repeat (first | refine blk_drewN ?_ _ | refine blk_drew ?_ | refine blk_alloc ?_ _)); exact BK214.out)) : gb214 ≠ gb215)); have n6_ := Aside0.mk ((by rw [hg]; exact Nat.ne_of_gt (blk_lt (g := gb214) (o := .cells #[.slice A0_0 l0_0.length c0_0, .slice A0_1 l0_1.length c0_1, .slice A0_2 l0_2.length c0_2, .int .i64 a0_3, .int .i64 a0_4, .int .i64 a0_5, .int .i64 a0_6, .int .i64 a0_7, .int .i64 a0_8] 26 (0, 0)) (by (with_reducible repeat (first | refine blk_drewN ?_ _ | refine blk_drew ?_ | refine blk_alloc ?_ _)); exact BK214.out)) : gb215 ≠ gb214)); clear BK214; clear HB; have BK214 := n0_; have HB := n1_; have BK215 := n2_; have GW215 := n3_; have GE215 := n4_; have NB214_215 := n5_; have NB215_214 := n6_; clear n0_ n1_ n2_ n3_ n4_ n5_ n6_; clear hb hbox hg; have hnb16 := NB214_215.out; have hnc16 := NB215_214.out; have hcz17_0 : w15.cell? ⟨gb214, 0, none⟩ = some (.slice A0_0 l0_0.length c0_0) := (blk_cell BK214.out 0).trans rfl; have hcz17_1 : w15.cell? ⟨gb214, 1, none⟩ = some (.slice A0_1 l0_1.length c0_1) := (blk_cell BK214.out 1).trans rfl; have hcz17_2 : w15.cell? ⟨gb214, 2, none⟩ = some (.slice A0_2 l0_2.length c0_2) := (blk_cell BK214.out 2).trans rfl; have hcz17_3 : w15.cell? ⟨gb214, 3, none⟩ = some (.int .i64 a0_3) := (blk_cell BK214.out 3).trans rfl; have hcz17_4 : w15.cell? ⟨gb214, 4, none⟩ = some (.int .i64 a0_4) := (blk_cell BK214.out 4).trans rfl; have hcz17_5 : w15.cell? ⟨gb214, 5, none⟩ = some (.int .i64 a0_5) := (blk_cell BK214.out 5).trans rfl; have hcz17_6 : w15.cell? ⟨gb214, 6, none⟩ = some (.int .i64 a0_6) := (blk_cell BK214.out 6).trans rfl; have hcz17_7 : w15.cell? ⟨gb214, 7, none⟩ = some (.int .i64 a0_7) := (blk_cell BK214.out 7).trans rfl; have hcz17_8 : w15.cell? ⟨gb214, 8, none⟩ = some (.int .i64 a0_8) := (blk_cell BK214.out 8).trans rfl; have hfz17_0 := blk_frozen BK214.out 0; have hfz17_1 := blk_frozen BK214.out 1; have hfz17_2 := blk_frozen BK214.out 2; have hfz17_3 := blk_frozen BK214.out 3; have hfz17_4 := blk_frozen BK214.out 4; have hfz17_5 := blk_frozen BK214.out 5; have hfz17_6 := blk_frozen BK214.out 6; have hfz17_7 := blk_frozen BK214.out 7; have hfz17_8 := blk_frozen BK214.out 8; have hcz18_0 : w15.cell? ⟨gb215, 0, none⟩ = some (.int .i64 a1_0) := (blk_cell BK215.out 0).trans rfl; have hcz18_1 : w15.cell? ⟨gb215, 1, none⟩ = some (.int .i64 a1_1) := (blk_cell BK215.out 1).trans rfl; have hcz18_2 : w15.cell? ⟨gb215, 2, none⟩ = some (.slice A1_2 l1_2.length c1_2) := (blk_cell BK215.out 2).trans rfl; have hcz18_3 : w15.cell? ⟨gb215, 3, none⟩ = some (.slice A1_3 l1_3.length c1_3) := (blk_cell BK215.out 3).trans rfl; have hfz18_0 := blk_frozen BK215.out 0; have hfz18_1 := blk_frozen BK215.out 1; have hfz18_2 := blk_frozen BK215.out 2; have hfz18_3 := blk_frozen BK215.out 3; have p216 : 0 ≤ (a2 : Int) := of_decide_eq_true (by first | (with_reducible assumption) | assumption); have q216 : a2 < (l0_0.length : Int) := of_decide_eq_true (by first | (with_reducible assumption) | assumption); obtain ⟨ad216, e216, hx216_0, hx216_1⟩ := at_T58 HR0_0.out a2 p216 q216; cases e216; replace hx216_0 := (HB.out.cell (World.block_lt_of_cell? w _ hx216_0)).trans hx216_0; replace hx216_1 := (HB.out.cell (World.block_lt_of_cell? w _ hx216_1)).trans hx216_1; replace p216 := eq_true p216; replace q216 := eq_true q216)))
          go_ret
          exact ⟨by first | rfl | (simp [errW_none, errW_some] <;> rfl) | (simp [*, errW_none, errW_some] <;> rfl), by repeat (first | (with_reducible first | exact HB.out | apply below_alloc | apply pw_below_drewN | apply below_drew1 | refine below_set ?_ GE214.out | refine below_set ?_ GE215.out) | exact HB.out)⟩
        · rw [if_neg c13] at H
          exact absurd H (by simp)
      · rw [if_neg c12] at H
        exact absurd H (by simp)
end Go.Proofs.Ytchlbnlhjllcbaa.F
namespace Go.Proofs.Ytchlbnlhjllcbaa.F
open Go.RowKit Go.Proofs.YtchlbnlhjllcbaaW.PrintWords Go.Proofs.YtchlbnlhjllcbaaW.PrintLast Go.Proofs.YtchlbnlhjllcbaaW.PrintMore
attribute [local go_sem] max2_int min2_int max_two min_two max_three min_three max_four min_four   -- for this text's walks alone
set_option linter.unusedVariables false
set_option linter.unusedSimpArgs false
def admit_Part.f (l0_0 : List (S58)) (l0_1 : List (S68)) (l0_2 : List (S71)) (a0_3 : Int) (a0_4 : Int) (a0_5 : Int) (a0_6 : Int) (a0_7 : Int) (a0_8 : Int) (a1_0 : Int) (a1_1 : Int) (l1_2 : List Int) (l1_3 : List Int) (a2 : Int) : Option (Int) := (admit_Quanta.f l0_0 l0_1 l0_2 a0_3 a0_4 a0_5 a0_6 a0_7 a0_8 a1_0 a1_1 l1_2 l1_3 a2).bind fun t219 => ((fix_Util.f t219 a1_0).bind fun t220 => (some t220))
def admit_Part.T1 : Bool × List (List Nat × List Nat) := (true, [([], []), ([], []), ([], []), ([0, 1, 2], [0, 1, 2]), ([], []), ([4], [4]), ([3, 5, 3], [3, 5]), ([6, 6, 0, 1, 2, 3, 4, 5, 6], [6])])
def admit_Part.B1 : List Nat := [0, 0, 0, 7, 0, 16, 63, 127]
theorem admit_Part.tab1 : rtab .any (opsOf Try.f46 1) = admit_Part.T1 := by kernel_rfl
theorem admit_Part.bits1 : waitsOk admit_Part.T1.2 admit_Part.B1 = true := by kernel_rfl
set_option maxHeartbeats 8000000 in
set_option maxRecDepth 100000 in
theorem admit_Part.calls (A0_0 : Option Addr) (c0_0 : Nat) (l0_0 : List (S58)) (A0_1 : Option Addr) (c0_1 : Nat) (l0_1 : List (S68)) (A0_2 : Option Addr) (c0_2 : Nat) (l0_2 : List (S71)) (a0_3 : Int) (a0_4 : Int) (a0_5 : Int) (a0_6 : Int) (a0_7 : Int) (a0_8 : Int) (a1_0 : Int) (a1_1 : Int) (A1_2 : Option Addr) (c1_2 : Nat) (l1_2 : List Int) (A1_3 : Option Addr) (c1_3 : Nat) (l1_3 : List Int) (a2 : Int) (r : Int) (w : World) (hr0_0 : Kd.C k58 w A0_0 l0_0.length l0_0) (hc0_0 : l0_0.length ≤ c0_0) (hr0_1 : Kd.C k68 w A0_1 l0_1.length l0_1) (hc0_1 : l0_1.length ≤ c0_1) (hr0_2 : Kd.C k71 w A0_2 l0_2.length l0_2) (hc0_2 : l0_2.length ≤ c0_2) (hr1_2 : Kd.C (Kd.int .i64) w A1_2 l1_2.length l1_2) (hc1_2 : l1_2.length ≤ c1_2) (hr1_3 : Kd.C (Kd.int .i64) w A1_3 l1_3.length l1_3) (hc1_3 : l1_3.length ≤ c1_3) (h : admit_Part.f l0_0 l0_1 l0_2 a0_3 a0_4 a0_5 a0_6 a0_7 a0_8 a1_0 a1_1 l1_2 l1_3 a2 = some r) :
    Calls Try.prog 46 #[.agg #[.slice A0_0 l0_0.length c0_0, .slice A0_1 l0_1.length c0_1, .slice A0_2 l0_2.length c0_2, .int .i64 a0_3, .int .i64 a0_4, .int .i64 a0_5, .int .i64 a0_6, .int .i64 a0_7, .int .i64 a0_8], .agg #[.int .i64 a1_0, .int .i64 a1_1, .slice A1_2 l1_2.length c1_2, .slice A1_3 l1_3.length c1_3], .int .i64 a2] w fun e w' => e = .returned (.int .i64 r) ∧ Below w.heap.size w w' := by
  have hu26 := Try.underlying26
  have hu36 := Try.underlying36
  have HR0_0 := Aside0.mk hr0_0
  have HC0_0 := Aside0.mk hc0_0
  clear hr0_0 hc0_0
  have HR0_1 := Aside0.mk hr0_1
  have HC0_1 := Aside0.mk hc0_1
  clear hr0_1 hc0_1
  have HR0_2 := Aside0.mk hr0_2
  have HC0_2 := Aside0.mk hc0_2
  clear hr0_2 hc0_2
  have HR1_2 := Aside0.mk hr1_2
  have HC1_2 := Aside0.mk hc1_2
  clear hr1_2 hc1_2
  have HR1_3 := Aside0.mk hr1_3
  have HC1_3 := Aside0.mk hc1_3
  clear hr1_3 hc1_3
  have HB := Aside0.mk (Below.refl w.heap.size w)
  have H : ((admit_Quanta.f l0_0 l0_1 l0_2 a0_3 a0_4 a0_5 a0_6 a0_7 a0_8 a1_0 a1_1 l1_2 l1_3 a2).bind fun t219 => ((fix_Util.f t219 a1_0).bind fun t220 => (some t220))) = some r := h
  clear h
  replace H := Option.bind_eq_some_iff.mp H
  obtain ⟨t219, A40, H⟩ := H
  replace H : ((fix_Util.f t219 a1_0).bind fun t220 => (some t220)) = some r := H
  have A4 := Aside0.mk A40
  clear A40
  replace H := Option.bind_eq_some_iff.mp H
  obtain ⟨t220, A50, H⟩ := H
  replace H : (some t220) = some r := H
  have A5 := Aside0.mk A50
  clear A50
  obtain rfl := Option.some.inj H
  go_enter Try.func46, Try.ntmps46
  try go_wp2_with (first | ((with_reducible refine gate_dst (N := 3) rfl ?_); refine box_event ?hg (N := 3) ?hd (cs := #[.slice A0_0 l0_0.length c0_0, .slice A0_1 l0_1.length c0_1, .slice A0_2 l0_2.length c0_2, .int .i64 a0_3, .int .i64 a0_4, .int .i64 a0_5, .int .i64 a0_6, .int .i64 a0_7, .int .i64 a0_8]) (t := 26) ?hr ?_; (case hd => rfl); (case hg => rfl); (case hr => first | (go_simp; done) | (go_simp; rfl)); intro gb217 hg w6 hbox hb; have n0_ := Aside0.mk (below_step (by repeat (first | (with_reducible first | exact HB.out | apply below_alloc | apply pw_below_drewN | apply below_drew1) | exact HB.out)) hb); have n1_ := Aside0.mk (hbox); have n2_ := Aside0.mk ((by rw [hg]; exact (below_size (by repeat (first | (with_reducible first | exact HB.out | apply below_alloc | apply pw_below_drewN | apply below_drew1) | exact HB.out))) : w.heap.size ≤ gb217)); have n3_ := Aside0.mk ((by rw [hg]; exact (below_size (by repeat (first | (with_reducible first | exact HB.out | apply below_alloc | apply pw_below_drewN | apply below_drew1) | exact HB.out))) : w.heap.size ≤ gb217)); clear HB; have HB := n0_; have BK217 := n1_; have GW217 := n2_; have GE217 := n3_; clear n0_ n1_ n2_ n3_; clear hb hbox hg) | ((with_reducible refine gate_dst (N := 4) rfl ?_); refine box_event ?hg (N := 4) ?hd (cs := #[.int .i64 a1_0, .int .i64 a1_1, .slice A1_2 l1_2.length c1_2, .slice A1_3 l1_3.length c1_3]) (t := 36) ?hr ?_; (case hd => rfl); (case hg => rfl); (case hr => first | (go_simp; done) | (go_simp; rfl)); intro gb218 hg w7 hbox hb; have n0_ := Aside0.mk (blk_below (g := gb217) (o := .cells #[.slice A0_0 l0_0.length c0_0, .slice A0_1 l0_1.length c0_1, .slice A0_2 l0_2.length c0_2, .int .i64 a0_3, .int .i64 a0_4, .int .i64 a0_5, .int .i64 a0_6, .int .i64 a0_7, .int .i64 a0_8] 26 (0, 0)) (by (with_reducible repeat (first | refine blk_drewN ?_ _ | refine blk_drew ?_ | refine blk_alloc ?_ _)); exact BK217.out) hb); have n1_ := Aside0.mk (below_step (by repeat (first | (with_reducible first | exact HB.out | apply below_alloc | apply pw_below_drewN | apply below_drew1 | refine below_set ?_ GE217.out) | exact HB.out)) hb); have n2_ := Aside0.mk (hbox); have n3_ := Aside0.mk ((by rw [hg]; exact (below_size (by repeat (first | (with_reducible first | exact HB.out | apply below_alloc | apply pw_below_drewN | apply below_drew1 | refine below_set ?_ GE217.out) | exact HB.out))) : w.heap.size ≤ gb218)); have n4_ := Aside0.mk ((by rw [hg]; exact (below_size (by repeat (first | (with_reducible first | exact HB.out | apply below_alloc | apply pw_below_drewN | apply below_drew1 | refine below_set ?_ GE217.out) | exact HB.out))) : w.heap.size ≤ gb218)); have n5_ := Aside0.mk ((by rw [hg]; exact Nat.ne_of_lt (blk_lt (g := gb217) (o := .cells #[.slice A0_0 l0_0.length c0_0, .slice A0_1 l0_1.length c0_1, .slice A0_2 l0_2.length c0_2, .int .i64 a0_3, .int .i64 a0_4, .int .i64 a0_5, .int .i64 a0_6, .int .i64 a0_7, .int .i64 a0_8] 26 (0, 0)) (by (with_reducible repeat (first | refine blk_drewN ?_ _ | refine blk_drew ?_ | refine blk_alloc ?_ _)); exact BK217.out)) : gb217 ≠ gb218)); have n6_ := Aside0.mk ((by rw [hg]; exact Nat.ne_of_gt (blk_lt (g := gb217) (o := .cells #[.slice A0_0 l0_0.length c0_0, .slice A0_1 l0_1.length c0_1, .slice A0_2 l0_2.length c0_2, .int .i64 a0_3, .int .i64 a0_4, .int .i64 a0_5, .int .i64 a0_6, .int .i64 a0_7, .int .i64 a0_8] 26 (0, 0)) (by (with_reducible repeat (first | refine blk_drewN ?_ _ | refine blk_drew ?_ | refine blk_alloc ?_ _)); exact BK217.out)) : gb218 ≠ gb217)); clear BK217; clear HB; have BK217 := n0_; have HB := n1_; have BK218 := n2_; have GW218 := n3_; have GE218 := n4_; have NB217_218 := n5_; have NB218_217 := n6_; clear n0_ n1_ n2_ n3_ n4_ n5_ n6_; clear hb hbox hg))
  have n0_ := Aside0.mk (blk_drew BK217.out)
  have n1_ := Aside0.mk (blk_drew BK218.out)
  have n2_ := Aside0.mk (below_drew1 HB.out)
  clear BK217
  clear BK218
  clear HB
  have BK217 := n0_
  have BK218 := n1_
  have HB := n2_
  clear n0_ n1_ n2_
  refine start_ (n := 8) (S := fun w' => w'.cell? ⟨gb217, 0, none⟩ = some (.slice A0_0 l0_0.length c0_0) ∧ w'.cell? ⟨gb217, 1, none⟩ = some (.slice A0_1 l0_1.length c0_1) ∧ w'.cell? ⟨gb217, 2, none⟩ = some (.slice A0_2 l0_2.length c0_2) ∧ w'.cell? ⟨gb217, 3, none⟩ = some (.int .i64 a0_3) ∧ w'.cell? ⟨gb217, 4, none⟩ = some (.int .i64 a0_4) ∧ w'.cell? ⟨gb217, 5, none⟩ = some (.int .i64 a0_5) ∧ w'.cell? ⟨gb217, 6, none⟩ = some (.int .i64 a0_6) ∧ w'.cell? ⟨gb217, 7, none⟩ = some (.int .i64 a0_7) ∧ w'.cell? ⟨gb217, 8, none⟩ = some (.int .i64 a0_8) ∧ w'.cell? ⟨gb218, 0, none⟩ = some (.int .i64 a1_0) ∧ w'.cell? ⟨gb218, 1, none⟩ = some (.int .i64 a1_1) ∧ w'.cell? ⟨gb218, 2, none⟩ = some (.slice A1_2 l1_2.length c1_2) ∧ w'.cell? ⟨gb218, 3, none⟩ = some (.slice A1_3 l1_3.length c1_3)) (ds := []) #[false, false, false, false, false, false, false, false] (by kernel_rfl) rfl rfl ⟨(blk_cell BK217.out 0).trans rfl, (blk_cell BK217.out 1).trans rfl, (blk_cell BK217.out 2).trans rfl, (blk_cell BK217.out 3).trans rfl, (blk_cell BK217.out 4).trans rfl, (blk_cell BK217.out 5).trans rfl, (blk_cell BK217.out 6).trans rfl, (blk_cell BK217.out 7).trans rfl, (blk_cell BK217.out 8).trans rfl, (blk_cell BK218.out 0).trans rfl, (blk_cell BK218.out 1).trans rfl, (blk_cell BK218.out 2).trans rfl, (blk_cell BK218.out 3).trans rfl⟩ (fun hHeld => ?_); refine with_tabW admit_Part.tab1 admit_Part.bits1 (fun HT_ HW_ => ?_)
  generalize w7.drew = w8 at BK217 BK218 HB hHeld ⊢
  refine pure_ (i := 2) (N := some 9) (v := ?_) (a' := ?_) #[false, false, true, false, false, false, false, false] rfl rfl (any_of HT_.out (by kernel_rfl)) (fun _ _ _ h => h) (Or.inl ⟨by rfl, ?_⟩) ?_ ?_
  rotate_left
  · intro w'
    go_simp
    with_reducible rfl
  rotate_left
  · simp only [Act.put, List.setIfInBounds_toArray, List.set_cons_zero, List.set_cons_succ, i64_w, i32_w]
    rfl
  refine pure_ (i := 4) (N := some 11) (v := ?_) (a' := ?_) #[false, false, true, false, true, false, false, false] rfl rfl (any_of HT_.out (by kernel_rfl)) (fun _ _ _ h => h) (Or.inl ⟨by rfl, ?_⟩) ?_ ?_
  rotate_left
  · intro w'
    go_simp
    with_reducible rfl
  rotate_left
  · simp only [Act.put, List.setIfInBounds_toArray, List.set_cons_zero, List.set_cons_succ, i64_w, i32_w]
    rfl
  refine take_ (i := 0) (N := some 7) (v := ?_) (a' := ?_) #[true, false, true, false, true, false, false, false] rfl rfl (take_ofW HT_.out HW_.out (by kernel_rfl)) (fun _ _ _ h => h) (Or.inl ⟨by rfl, ?_⟩) hHeld ?_ ?_
  rotate_left
  · rintro w' ⟨s0, s1, s2, s3, s4, s5, s6, s7, s8, s9, s10, s11, s12⟩
    go_simp
    with_reducible rfl
  rotate_left
  · simp only [Act.put, List.setIfInBounds_toArray, List.set_cons_zero, List.set_cons_succ, i64_w, i32_w]
    rfl
  refine take_ (i := 1) (N := some 8) (v := ?_) (a' := ?_) #[true, true, true, false, true, false, false, false] rfl rfl (take_ofW HT_.out HW_.out (by kernel_rfl)) (fun _ _ _ h => h) (Or.inl ⟨by rfl, ?_⟩) hHeld ?_ ?_
  rotate_left
  · rintro w' ⟨s0, s1, s2, s3, s4, s5, s6, s7, s8, s9, s10, s11, s12⟩
    go_simp
    with_reducible rfl
  rotate_left
  · simp only [Act.put, List.setIfInBounds_toArray, List.set_cons_zero, List.set_cons_succ, i64_w, i32_w]
    rfl
  refine take_ (i := 5) (N := some 12) (v := ?_) (a' := ?_) #[true, true, true, false, true, true, false, false] rfl rfl (take_ofW HT_.out HW_.out (by kernel_rfl)) (fun _ _ _ h => h) (Or.inl ⟨by rfl, ?_⟩) hHeld ?_ ?_
  rotate_left
  · rintro w' ⟨s0, s1, s2, s3, s4, s5, s6, s7, s8, s9, s10, s11, s12⟩
    go_simp
    with_reducible rfl
  rotate_left
  · simp only [Act.put, List.setIfInBounds_toArray, List.set_cons_zero, List.set_cons_succ, i64_w, i32_w]
    rfl
  refine one_ (i := 3) (N := some 10) #[true, true, true, true, true, true, false, false] rfl rfl (one_of HT_.out (by kernel_rfl)) (by decide) (fun K hK => ?_)
  refine goes_ Try.func59 (by kernel_rfl) rfl #[.agg #[.slice A0_0 l0_0.length c0_0, .slice A0_1 l0_1.length c0_1, .slice A0_2 l0_2.length c0_2, .int .i64 a0_3, .int .i64 a0_4, .int .i64 a0_5, .int .i64 a0_6, .int .i64 a0_7, .int .i64 a0_8], .agg #[.int .i64 a1_0, .int .i64 a1_1, .slice A1_2 l1_2.length c1_2, .slice A1_3 l1_3.length c1_3], .int .i64 a2] (by rfl) rfl rfl (by (try simp only [List.map_toArray, List.map_cons, List.map_nil]); first | done | rfl | (simp only [List.length_drop, List.length_take]; rfl)) ?_
  with_reducible refine (admit_Quanta.calls _ _ l0_0 _ _ l0_1 _ _ l0_2 a0_3 a0_4 a0_5 a0_6 a0_7 a0_8 a1_0 a1_1 _ _ l1_2 _ _ l1_3 a2 t219 _ ?side1 ?side2 ?side3 ?side4 ?side5 ?side6 ?side7 ?side8 ?side9 ?side10 A4.out).mono ?_
  (case side1 => repeat (first | exact (Kd.C_below HR0_0.out HB.out) | (with_reducible refine Kd.C_alloc ?_ _) | (with_reducible refine Kd.C_drewN ?_ _) | (with_reducible refine Kd.C_drew ?_)))
  (case side2 => exact HC0_0.out)
  (case side3 => repeat (first | exact (Kd.C_below HR0_1.out HB.out) | (with_reducible refine Kd.C_alloc ?_ _) | (with_reducible refine Kd.C_drewN ?_ _) | (with_reducible refine Kd.C_drew ?_)))
  (case side4 => exact HC0_1.out)
  (case side5 => repeat (first | exact (Kd.C_below HR0_2.out HB.out) | (with_reducible refine Kd.C_alloc ?_ _) | (with_reducible refine Kd.C_drewN ?_ _) | (with_reducible refine Kd.C_drew ?_)))
  (case side6 => exact HC0_2.out)
  (case side7 => repeat (first | exact (Kd.C_below HR1_2.out HB.out) | (with_reducible refine Kd.C_alloc ?_ _) | (with_reducible refine Kd.C_drewN ?_ _) | (with_reducible refine Kd.C_drew ?_)))
  (case side8 => exact HC1_2.out)
  (case side9 => repeat (first | exact (Kd.C_below HR1_3.out HB.out) | (with_reducible refine Kd.C_alloc ?_ _) | (with_reducible refine Kd.C_drewN ?_ _) | (with_reducible refine Kd.C_drew ?_)))
  (case side10 => exact HC1_3.out)
  rintro e w9 ⟨rfl, hb⟩
  refine ⟨_, rfl, ?_⟩
  have n0_ := Aside0.mk (blk_below (g := gb217) (o := .cells #[.slice A0_0 l0_0.length c0_0, .slice A0_1 l0_1.length c0_1, .slice A0_2 l0_2.length c0_2, .int .i64 a0_3, .int .i64 a0_4, .int .i64 a0_5, .int .i64 a0_6, .int .i64 a0_7, .int .i64 a0_8] 26 (0, 0)) (by (with_reducible repeat (first | refine blk_drewN ?_ _ | refine blk_drew ?_ | refine blk_alloc ?_ _)); exact BK217.out) hb)
  have n1_ := Aside0.mk (blk_below (g := gb218) (o := .cells #[.int .i64 a1_0, .int .i64 a1_1, .slice A1_2 l1_2.length c1_2, .slice A1_3 l1_3.length c1_3] 36 (0, 0)) (by (with_reducible repeat (first | refine blk_drewN ?_ _ | refine blk_drew ?_ | refine blk_alloc ?_ _)); exact BK218.out) hb)
  have n2_ := Aside0.mk (below_step (by repeat (first | (with_reducible first | exact HB.out | apply below_alloc | apply pw_below_drewN | apply below_drew1 | refine below_set ?_ GE217.out | refine below_set ?_ GE218.out) | exact HB.out)) hb)
  clear BK217
  clear BK218
  clear HB
  have BK217 := n0_
  have BK218 := n1_
  have HB := n2_
  clear n0_ n1_ n2_
  (try clear hb)
  (try clear hb2)
  (try clear hk)
  (try clear hi)
  refine hK.out _ _ ⟨(blk_cell BK217.out 0).trans rfl, (blk_cell BK217.out 1).trans rfl, (blk_cell BK217.out 2).trans rfl, (blk_cell BK217.out 3).trans rfl, (blk_cell BK217.out 4).trans rfl, (blk_cell BK217.out 5).trans rfl, (blk_cell BK217.out 6).trans rfl, (blk_cell BK217.out 7).trans rfl, (blk_cell BK217.out 8).trans rfl, (blk_cell BK218.out 0).trans rfl, (blk_cell BK218.out 1).trans rfl, (blk_cell BK218.out 2).trans rfl, (blk_cell BK218.out 3).trans rfl⟩ (fun hHeld => ?_)
  clear hK K
  refine norm_ (a' := ?_) ?_ ?_
  rotate_left
  · show Act.put _ (some 10) _ = _
    simp only [Act.put, List.setIfInBounds_toArray, List.set_cons_zero, List.set_cons_succ, i64_w, i32_w]
    rfl
  refine one_ (i := 6) (N := some 13) #[true, true, true, true, true, true, true, false] rfl rfl (one_of HT_.out (by kernel_rfl)) (by decide) (fun K hK => ?_)
  refine goes_ Try.func58 (by kernel_rfl) rfl #[.int .i64 t219, .int .i64 a1_0] (by rfl) rfl rfl (by (try simp only [List.map_toArray, List.map_cons, List.map_nil]); first | done | rfl | (simp only [List.length_drop, List.length_take]; rfl)) ?_
  with_reducible refine (fix_Util.calls t219 a1_0 t220 _ A5.out).mono ?_
  rintro e w10 ⟨rfl, hb⟩
  refine ⟨_, rfl, ?_⟩
  have n0_ := Aside0.mk (blk_below (g := gb217) (o := .cells #[.slice A0_0 l0_0.length c0_0, .slice A0_1 l0_1.length c0_1, .slice A0_2 l0_2.length c0_2, .int .i64 a0_3, .int .i64 a0_4, .int .i64 a0_5, .int .i64 a0_6, .int .i64 a0_7, .int .i64 a0_8] 26 (0, 0)) (by (with_reducible repeat (first | refine blk_drewN ?_ _ | refine blk_drew ?_ | refine blk_alloc ?_ _)); exact BK217.out) hb)
  have n1_ := Aside0.mk (blk_below (g := gb218) (o := .cells #[.int .i64 a1_0, .int .i64 a1_1, .slice A1_2 l1_2.length c1_2, .slice A1_3 l1_3.length c1_3] 36 (0, 0)) (by (with_reducible repeat (first | refine blk_drewN ?_ _ | refine blk_drew ?_ | refine blk_alloc ?_ _)); exact BK218.out) hb)
  have n2_ := Aside0.mk (below_step (by repeat (first | (with_reducible first | exact HB.out | apply below_alloc | apply pw_below_drewN | apply below_drew1 | refine below_set ?_ GE217.out | refine below_set ?_ GE218.out) | exact HB.out)) hb)
  clear BK217
  clear BK218
  clear HB
  have BK217 := n0_
  have BK218 := n1_
  have HB := n2_
  clear n0_ n1_ n2_
  (try clear hb)
  (try clear hb2)
  (try clear hk)
  (try clear hi)
  refine hK.out _ _ ⟨(blk_cell BK217.out 0).trans rfl, (blk_cell BK217.out 1).trans rfl, (blk_cell BK217.out 2).trans rfl, (blk_cell BK217.out 3).trans rfl, (blk_cell BK217.out 4).trans rfl, (blk_cell BK217.out 5).trans rfl, (blk_cell BK217.out 6).trans rfl, (blk_cell BK217.out 7).trans rfl, (blk_cell BK217.out 8).trans rfl, (blk_cell BK218.out 0).trans rfl, (blk_cell BK218.out 1).trans rfl, (blk_cell BK218.out 2).trans rfl, (blk_cell BK218.out 3).trans rfl⟩ (fun hHeld => ?_)
  clear hK K
  refine norm_ (a' := ?_) ?_ ?_
  rotate_left
  · show Act.put _ (some 13) _ = _
    simp only [Act.put, List.setIfInBounds_toArray, List.set_cons_zero, List.set_cons_succ, i64_w, i32_w]
    rfl
  refine pure_ (i := 7) (N := some 6) (v := ?_) (a' := ?_) #[true, true, true, true, true, true, true, true] rfl rfl (any_of HT_.out (by kernel_rfl)) (fun _ _ _ h => h) (Or.inl ⟨by rfl, ?_⟩) ?_ ?_
  rotate_left
  · intro w'
    go_simp
    with_reducible rfl
  rotate_left
  · simp only [Act.put, List.setIfInBounds_toArray, List.set_cons_zero, List.set_cons_succ, i64_w, i32_w]
    rfl
  refine done_ (done_of HT_.out (by kernel_rfl)) ?_
  try go_wp2
  go_ret
  exact ⟨by first | rfl | (simp [errW_none, errW_some] <;> rfl) | (simp [*, errW_none, errW_some] <;> rfl), by repeat (first | (with_reducible first | exact HB.out | apply below_alloc | apply pw_below_drewN | apply below_drew1 | refine below_set ?_ GE217.out | refine below_set ?_ GE218.out) | exact HB.out)⟩
end Go.Proofs.Ytchlbnlhjllcbaa.F
namespace Go.Proofs.Ytchlbnlhjllcbaa.F
open Go.RowKit Go.Proofs.YtchlbnlhjllcbaaW.PrintWords Go.Proofs.YtchlbnlhjllcbaaW.PrintLast Go.Proofs.YtchlbnlhjllcbaaW.PrintMore
attribute [local go_sem] max2_int min2_int max_two min_two max_three min_three max_four min_four   -- for this text's walks alone
set_option linter.unusedVariables false
set_option linter.unusedSimpArgs false
def task_Uses.f (a0_0 : Int) (a0_1 : Int) (l0_2 : List Int) (l0_3 : List Int) (a1 : Int) : Option (Bool) := if a1 ≥ 0 then (if a1 < (l0_2.length : Int) then (if 0 ≤ a1 then (some (decide ((rd l0_2 a1) > 0))) else (none)) else (some false)) else (some false)
set_option maxHeartbeats 8000000 in
set_option maxRecDepth 100000 in
theorem task_Uses.calls (a0_0 : Int) (a0_1 : Int) (A0_2 : Option Addr) (c0_2 : Nat) (l0_2 : List Int) (A0_3 : Option Addr) (c0_3 : Nat) (l0_3 : List Int) (a1 : Int) (r : Bool) (w : World) (hr0_2 : Kd.C (Kd.int .i64) w A0_2 l0_2.length l0_2) (hc0_2 : l0_2.length ≤ c0_2) (hr0_3 : Kd.C (Kd.int .i64) w A0_3 l0_3.length l0_3) (hc0_3 : l0_3.length ≤ c0_3) (h : task_Uses.f a0_0 a0_1 l0_2 l0_3 a1 = some r) :
    Calls Try.prog 49 #[.agg #[.int .i64 a0_0, .int .i64 a0_1, .slice A0_2 l0_2.length c0_2, .slice A0_3 l0_3.length c0_3], .int .i64 a1] w fun e w' => e = .returned (.bool r) ∧ Below w.heap.size w w' := by
  have hu36 := Try.underlying36
  have HR0_2 := Aside0.mk hr0_2
  have HC0_2 := Aside0.mk hc0_2
  clear hr0_2 hc0_2
  have HR0_3 := Aside0.mk hr0_3
  have HC0_3 := Aside0.mk hc0_3
  clear hr0_3 hc0_3
  have HB := Aside0.mk (Below.refl w.heap.size w)
  have H : (if a1 ≥ 0 then (if a1 < (l0_2.length : Int) then (if 0 ≤ a1 then (some (decide ((rd l0_2 a1) > 0))) else (none)) else (some false)) else (some false)) = some r := h
  clear h
  by_cases c3 : a1 ≥ 0
  · rw [if_pos c3] at H
    have c3b0 : decide (0 ≤ a1) = true := decide_eq_true c3
    clear c3
    by_cases c4 : a1 < (l0_2.length : Int)
    · rw [if_pos c4] at H
      have c4b0 : decide (a1 < (l0_2.length : Int)) = true := decide_eq_true c4
      clear c4
      by_cases c5 : 0 ≤ a1
      · rw [if_pos c5] at H
        have c5b0 : decide (0 ≤ a1) = true := decide_eq_true c5
        clear c5
        obtain rfl := Option.some.inj H
        go_enter Try.func49, Try.ntmps49
        go_wp2_with (first | ((with_reducible refine gate_dst (N := 2) rfl ?_); (try (refine gate_guard (by rfl) ?_; dsimp only)); refine box_event ?hg (N := 2) ?hd (cs := #[.int .i64 a0_0, .int .i64 a0_1, .slice A0_2 l0_2.length c0_2, .slice A0_3 l0_3.length c0_3]) (t := 36) ?hr ?_; (case hd => rfl); (case hg => rfl); (case hr => first | (go_simp; done) | (go_simp; rfl)); intro gb155 hg w6 hbox hb; have n0_ := Aside0.mk (below_step (by repeat (first | (with_reducible first | exact HB.out | apply below_alloc | apply pw_below_drewN | apply below_drew1) | exact HB.out)) hb); have n1_ := Aside0.mk (hbox); have n2_ := Aside0.mk ((by rw [hg]; exact (below_size (by repeat (first | (with_reducible first | exact HB.out | apply below_alloc | apply pw_below_drewN | apply below_drew1) | exact HB.out))) : w.heap.size ≤ gb155)); have n3_ := Aside0.mk ((by rw [hg]; exact (below_size (by repeat (first | (with_reducible first | exact HB.out | apply below_alloc | apply pw_below_drewN | apply below_drew1) | exact HB.out))) : w.heap.size ≤ gb155)); clear HB; have HB := n0_; have BK155 := n1_; have GW155 := n2_; have GE155 := n3_; clear n0_ n1_ n2_ n3_; clear hb hbox hg; have hcz7_0 : w6.cell? ⟨gb155, 0, none⟩ = some (.int .i64 a0_0) := (blk_cell BK155.out 0).trans rfl; have hcz7_1 : w6.cell? ⟨gb155, 1, none⟩ = some (.int .i64 a0_1) := (blk_cell BK155.out 1).trans rfl; have hcz7_2 : w6.cell? ⟨gb155, 2, none⟩ = some (.slice A0_2 l0_2.length c0_2) := (blk_cell BK155.out 2).trans rfl; have hcz7_3 : w6.cell? ⟨gb155, 3, none⟩ = some (.slice A0_3 l0_3.length c0_3) := (blk_cell BK155.out 3).trans rfl; have hfz7_0 := blk_frozen BK155.out 0; have hfz7_1 := blk_frozen BK155.out 1; have hfz7_2 := blk_frozen BK155.out 2; have hfz7_3 := blk_frozen BK155.out 3; have p156 : 0 ≤ (a1 : Int) := of_decide_eq_true (by first | (with_reducible assumption) | assumption); have q156 : a1 < (l0_2.length : Int) := of_decide_eq_true (by first | (with_reducible assumption) | assumption); obtain ⟨ad156, e156, hx156_0⟩ := Kd.at_int HR0_2.out a1 p156 q156; cases e156; replace hx156_0 := (HB.out.cell (World.block_lt_of_cell? w _ hx156_0)).trans hx156_0; replace p156 := eq_true p156; replace q156 := eq_true q156))
        go_ret
        exact ⟨by first | rfl | (simp [errW_none, errW_some] <;> rfl) | (simp [*, errW_none, errW_some] <;> rfl), by repeat (first | (with_reducible first | exact HB.out | apply below_alloc | apply pw_below_drewN | apply below_drew1 | refine below_set ?_ GE155.out) | exact HB.out)⟩
      · rw [if_neg c5] at H
        exact absurd H (by simp)
    · rw [if_neg c4] at H
      have c4b0 : decide (a1 < (l0_2.length : Int)) = false := decide_eq_false c4
      clear c4
      obtain rfl := Option.some.inj H
      go_enter Try.func49, Try.ntmps49
      go_wp2_with (first | ((with_reducible refine gate_dst (N := 2) rfl ?_); (try (refine gate_guard (by rfl) ?_; dsimp only)); refine box_event ?hg (N := 2) ?hd (cs := #[.int .i64 a0_0, .int .i64 a0_1, .slice A0_2 l0_2.length c0_2, .slice A0_3 l0_3.length c0_3]) (t := 36) ?hr ?_; (case hd => rfl); (case hg => rfl); (case hr => first | (go_simp; done) | (go_simp; rfl)); intro gb155 hg w8 hbox hb; have n0_ := Aside0.mk (below_step (by repeat (first | (with_reducible first | exact HB.out | apply below_alloc | apply pw_below_drewN | apply below_drew1) | exact HB.out)) hb); have n1_ := Aside0.mk (hbox); have n2_ := Aside0.mk ((by rw [hg]; exact (below_size (by repeat (first | (with_reducible first | exact HB.out | apply below_alloc | apply pw_below_drewN | apply below_drew1) | exact HB.out))) : w.heap.size ≤ gb155)); have n3_ := Aside0.mk ((by rw [hg]; exact (below_size (by repeat (first | (with_reducible first | exact HB.out | apply below_alloc | apply pw_below_drewN | apply below_drew1) | exact HB.out))) : w.heap.size ≤ gb155)); clear HB; have HB := n0_; have BK155 := n1_; have GW155 := n2_; have GE155 := n3_; clear n0_ n1_ n2_ n3_; clear hb hbox hg; have hcz9_0 : w8.cell? ⟨gb155, 0, none⟩ = some (.int .i64 a0_0) := (blk_cell BK155.out 0).trans rfl; have hcz9_1 : w8.cell? ⟨gb155, 1, none⟩ = some (.int .i64 a0_1) := (blk_cell BK155.out 1).trans rfl; have hcz9_2 : w8.cell? ⟨gb155, 2, none⟩ = some (.slice A0_2 l0_2.length c0_2) := (blk_cell BK155.out 2).trans rfl; have hcz9_3 : w8.cell? ⟨gb155, 3, none⟩ = some (.slice A0_3 l0_3.length c0_3) := (blk_cell BK155.out 3).trans rfl; have hfz9_0 := blk_frozen BK155.out 0; have hfz9_1 := blk_frozen BK155.out 1; have hfz9_2 := blk_frozen BK155.out 2; have hfz9_3 := blk_frozen BK155.out 3))
      go_ret
      exact ⟨by first | rfl | (simp [errW_none, errW_some] <;> rfl) | (simp [*, errW_none, errW_some] <;> rfl), by repeat (first | (with_reducible first | exact HB.out | apply below_alloc | apply pw_below_drewN | apply below_drew1 | refine below_set ?_ GE155.out) | exact HB.out)⟩
  · rw [if_neg c3] at H
    have c3b0 : decide (0 ≤ a1) = false := decide_eq_false c3
    clear c3
    obtain rfl := Option.some.inj H
    go_enter Try.func49, Try.ntmps49
    go_wp2_with (first | ((with_reducible refine gate_dst (N := 2) rfl ?_); (try (refine gate_guard (by rfl) ?_; dsimp only)); refine box_event ?hg (N := 2) ?hd (cs := #[.int .i64 a0_0, .int .i64 a0_1, .slice A0_2 l0_2.length c0_2, .slice A0_3 l0_3.length c0_3]) (t := 36) ?hr ?_; (case hd => rfl); (case hg => rfl); (case hr => first | (go_simp; done) | (go_simp; rfl)); intro gb155 hg w10 hbox hb; have n0_ := Aside0.mk (below_step (by repeat (first | (with_reducible first | exact HB.out | apply below_alloc | apply pw_below_drewN | apply below_drew1) | exact HB.out)) hb); have n1_ := Aside0.mk (hbox); have n2_ := Aside0.mk ((by rw [hg]; exact (below_size (by repeat (first | (with_reducible first | exact HB.out | apply below_alloc | apply pw_below_drewN | apply below_drew1) | exact HB.out))) : w.heap.size ≤ gb155)); have n3_ := Aside0.mk ((by rw [hg]; exact (below_size (by repeat (first | (with_reducible first | exact HB.out | apply below_alloc | apply pw_below_drewN | apply below_drew1) | exact HB.out))) : w.heap.size ≤ gb155)); clear HB; have HB := n0_; have BK155 := n1_; have GW155 := n2_; have GE155 := n3_; clear n0_ n1_ n2_ n3_; clear hb hbox hg))
    go_ret
    exact ⟨by first | rfl | (simp [errW_none, errW_some] <;> rfl) | (simp [*, errW_none, errW_some] <;> rfl), by repeat (first | (with_reducible first | exact HB.out | apply below_alloc | apply pw_below_drewN | apply below_drew1 | refine below_set ?_ GE155.out) | exact HB.out)⟩
end Go.Proofs.Ytchlbnlhjllcbaa.F
namespace Go.Proofs.Ytchlbnlhjllcbaa.F
open Go.RowKit Go.Proofs.YtchlbnlhjllcbaaW.PrintWords Go.Proofs.YtchlbnlhjllcbaaW.PrintLast Go.Proofs.YtchlbnlhjllcbaaW.PrintMore
attribute [local go_sem] max2_int min2_int max_two min_two max_three min_three max_four min_four   -- for this text's walks alone
set_option linter.unusedVariables false
set_option linter.unusedSimpArgs false
def task_Ceiling.l0 : Nat → Int → Int → List (S36) → Int → Int → Option (Int)
  | 0, _, _, _, _, _ => none
  | k + 1, x1, x5, x8, x9, x10 => if x10 < x9 then (if 0 ≤ x10 then (if x10 < (x8.length : Int) then ((task_Uses.f ((rd_T36 x8 x10).f0) ((rd_T36 x8 x10).f1) ((rd_T36 x8 x10).f2) ((rd_T36 x8 x10).f3) x1).bind fun t159 => (if t159 = true then (task_Ceiling.l0 k x1 (mn x5 ((rd_T36 x8 x10).f0)) x8 x9 (wrap64 (x10 + 1))) else (task_Ceiling.l0 k x1 x5 x8 x9 (wrap64 (x10 + 1))))) else (none)) else (none)) else (some x5)
def task_Ceiling.f (k : Nat) (l0 : List (S36)) (a1 : Int) : Option (Int) := task_Ceiling.l0 k a1 1099511627776 l0 (l0.length : Int) 0
set_option maxHeartbeats 8000000 in
set_option maxRecDepth 100000 in
theorem task_Ceiling.calls (k : Nat) (A0 : Option Addr) (c0 : Nat) (l0 : List (S36)) (a1 : Int) (r : Int) (w : World) (hr0 : Kd.C k36 w A0 l0.length l0) (hc0 : l0.length ≤ c0) (h : task_Ceiling.f k l0 a1 = some r) :
    Calls Try.prog 50 #[.slice A0 l0.length c0, .int .i64 a1] w fun e w' => e = .returned (.int .i64 r) ∧ Below w.heap.size w w' := by
  have hu36 := Try.underlying36
  have HR0 := Aside0.mk hr0
  have HC0 := Aside0.mk hc0
  clear hr0 hc0
  have HB := Aside0.mk (Below.refl w.heap.size w)
  have H : (task_Ceiling.l0 k a1 1099511627776 l0 (l0.length : Int) 0) = some r := h
  clear h
  have H' := Aside0.mk H
  clear H
  go_enter Try.func50, Try.ntmps50
  go_wp2
  go_loopg [5, 10] k (fun kq v5 v10 w' => ∃ (x5_1 : Int) (x10_1 : Int), v5 = .int .i64 x5_1 ∧ v10 = .int .i64 x10_1 ∧ Aside0 (task_Ceiling.l0 kq a1 x5_1 l0 (l0.length : Int) x10_1 = some r) ∧ Aside0 (kq ≤ k) ∧ Aside0 (Below w.heap.size w w'))
  case atStart => exact ⟨(1099511627776), (0), (by first | rfl | (simp; done) | (simp [*]; done)), (by first | rfl | (simp; done) | (simp [*]; done)), H', ⟨Nat.le_refl _⟩, ⟨by repeat (first | (with_reducible first | exact HB.out | apply below_alloc | apply pw_below_drewN | apply below_drew1) | exact HB.out)⟩⟩
  case round =>
    clear H'
    try clear p2
    obtain ⟨x5_1, x10_1, rfl, rfl, HA, HK1, HB⟩ := hrel
    cases gk with
    | zero => exact absurd HA.out (by simp [task_Ceiling.l0])
    | succ k1 =>
      have H := HA.out
      clear HA
      simp only [task_Ceiling.l0] at H
      by_cases c3 : x10_1 < (l0.length : Int)
      · rw [if_pos c3] at H
        have c3b0 : decide (x10_1 < (l0.length : Int)) = true := decide_eq_true c3
        clear c3
        by_cases c4 : 0 ≤ x10_1
        · rw [if_pos c4] at H
          have c4b0 : decide (0 ≤ x10_1) = true := decide_eq_true c4
          clear c4
          by_cases c5 : x10_1 < (l0.length : Int)
          · rw [if_pos c5] at H
            have c5b0 : decide (x10_1 < (l0.length : Int)) = true := decide_eq_true c5
            clear c5
            replace H := Option.bind_eq_some_iff.mp H
            obtain ⟨t159, A60, H⟩ := H
            replace H : (if t159 = true then (task_Ceiling.l0 k1 a1 (mn x5_1 ((rd_T36 l0 x10_1).f0)) l0 (l0.length : Int) (wrap64 (x10_1 + 1))) else (task_Ceiling.l0 k1 a1 x5_1 l0 (l0.length : Int) (wrap64 (x10_1 + 1)))) = some r := H
            have A6 := Aside0.mk A60
            clear A60
            by_cases c7 : t159 = true
            · subst c7
              have H1 : (task_Ceiling.l0 k1 a1 (mn x5_1 ((rd_T36 l0 x10_1).f0)) l0 (l0.length : Int) (wrap64 (x10_1 + 1))) = some r := by rw [if_pos rfl] at H; exact H
              clear H
              have H := H1
              clear H1
              obtain ⟨ji8, hji8⟩ : ∃ j_ : Int, (mn x5_1 ((rd_T36 l0 x10_1).f0)) = j_ := ⟨_, rfl⟩
              replace H : (task_Ceiling.l0 k1 a1 ji8 l0 (l0.length : Int) (wrap64 (x10_1 + 1))) = some r := by first | (rw [hji8] at H; exact H) | (simp only [hji8] at H ⊢; exact H)
              (try rw [hji8] at A6)
              have hji8_ : (if ((rd_T36 l0 x10_1).f0) < x5_1 then ((rd_T36 l0 x10_1).f0) else x5_1) = ji8 := hji8
              have H' := Aside0.mk H
              clear H
              have p157 : 0 ≤ (x10_1 : Int) := of_decide_eq_true (by first | (with_reducible assumption) | assumption)
              have q157 : x10_1 < (l0.length : Int) := of_decide_eq_true (by first | (with_reducible assumption) | assumption)
              obtain ⟨ad157, A157_2, c157_2, A157_3, c157_3, e157, hx157_0, hx157_1, hx157_2, hx157_3, hl157_2, hi157_2, hl157_3, hi157_3⟩ := at_T36 HR0.out x10_1 p157 q157
              cases e157
              replace hx157_0 := (HB.out.cell (World.block_lt_of_cell? w _ hx157_0)).trans hx157_0
              replace hx157_1 := (HB.out.cell (World.block_lt_of_cell? w _ hx157_1)).trans hx157_1
              replace hx157_2 := (HB.out.cell (World.block_lt_of_cell? w _ hx157_2)).trans hx157_2
              replace hx157_3 := (HB.out.cell (World.block_lt_of_cell? w _ hx157_3)).trans hx157_3
              have HR157_2 := Aside0.mk hi157_2
              have HC157_2 := Aside0.mk hl157_2
              clear hi157_2 hl157_2
              have HR157_3 := Aside0.mk hi157_3
              have HC157_3 := Aside0.mk hl157_3
              clear hi157_3 hl157_3
              replace p157 := eq_true p157
              replace q157 := eq_true q157
              go_wp2_with (first | ((with_reducible refine gate_dst (N := 7) rfl ?_); refine box_event ?hg (N := 7) ?hd (cs := #[.int .i64 0, .int .i64 0, .slice none 0 0, .slice none 0 0]) (t := 36) ?hr ?_; (case hd => rfl); (case hg => rfl); (case hr => first | (go_simp; done) | (go_simp; rfl)); intro gb158 hg w9 hbox hb; have n0_ := Aside0.mk (below_step (by repeat (first | (with_reducible first | exact HB.out | apply below_alloc | apply pw_below_drewN | apply below_drew1) | exact HB.out)) hb); have n1_ := Aside0.mk (hbox); have n2_ := Aside0.mk ((by rw [hg]; exact (below_size (by repeat (first | (with_reducible first | exact HB.out | apply below_alloc | apply pw_below_drewN | apply below_drew1) | exact HB.out))) : w.heap.size ≤ gb158)); have n3_ := Aside0.mk ((by rw [hg]; exact (below_size (by repeat (first | (with_reducible first | exact HB.out | apply below_alloc | apply pw_below_drewN | apply below_drew1) | exact HB.out))) : w.heap.size ≤ gb158)); clear HB; have HB := n0_; have BK158 := n1_; have GW158 := n2_; have GE158 := n3_; clear n0_ n1_ n2_ n3_; clear hb hbox hg; have hcz10_0 : w9.cell? ⟨gb158, 0, none⟩ = some (.int .i64 0) := (blk_cell BK158.out 0).trans rfl; have hcz10_1 : w9.cell? ⟨gb158, 1, none⟩ = some (.int .i64 0) := (blk_cell BK158.out 1).trans rfl; have hcz10_2 : w9.cell? ⟨gb158, 2, none⟩ = some (.slice none 0 0) := (blk_cell BK158.out 2).trans rfl; have hcz10_3 : w9.cell? ⟨gb158, 3, none⟩ = some (.slice none 0 0) := (blk_cell BK158.out 3).trans rfl; have hfz10_0 := blk_frozen BK158.out 0; have hfz10_1 := blk_frozen BK158.out 1; have hfz10_2 := blk_frozen BK158.out 2; have hfz10_3 := blk_frozen BK158.out 3) | ((with_reducible refine gate_callee (f := 49) rfl ?_); refine goesL_ (some 16) rfl rfl Try.func49 (by kernel_rfl) rfl #[.agg #[.int .i64 ((rd_T36 l0 x10_1).f0), .int .i64 ((rd_T36 l0 x10_1).f1), .slice A157_2 ((rd_T36 l0 x10_1).f2).length c157_2, .slice A157_3 ((rd_T36 l0 x10_1).f3).length c157_3], .int .i64 a1] rfl (by (try simp only [List.map_toArray, List.map_cons, List.map_nil]); first | done | rfl | (simp only [List.length_drop, List.length_take]; rfl)) ?_; (with_reducible refine (task_Uses.calls ((rd_T36 l0 x10_1).f0) ((rd_T36 l0 x10_1).f1) _ _ ((rd_T36 l0 x10_1).f2) _ _ ((rd_T36 l0 x10_1).f3) a1 true _ ?side1 ?side2 ?side3 ?side4 A6.out).mono ?_); (case side1 => exact Kd.C_below HR157_2.out (by repeat (first | (with_reducible first | exact HB.out | apply below_alloc | apply pw_below_drewN | apply below_drew1 | refine below_set ?_ GE158.out) | exact HB.out))); (case side2 => exact HC157_2.out); (case side3 => exact Kd.C_below HR157_3.out (by repeat (first | (with_reducible first | exact HB.out | apply below_alloc | apply pw_below_drewN | apply below_drew1 | refine below_set ?_ GE158.out) | exact HB.out))); (case side4 => exact HC157_3.out); rintro e w11 ⟨rfl, hb⟩; refine ⟨_, rfl, ?_⟩; have n0_ := Aside0.mk (blk_below (g := gb158) (o := .cells #[.int .i64 ((rd_T36 l0 x10_1).f0), .int .i64 ((rd_T36 l0 x10_1).f1), .slice A157_2 ((rd_T36 l0 x10_1).f2).length c157_2, .slice A157_3 ((rd_T36 l0 x10_1).f3).length c157_3] 36 (0, 0)) (by (with_reducible repeat (first | refine blk_drewN ?_ _ | refine blk_drew ?_ | refine blk_alloc ?_ _)); refine blk_put (cs := #[.int .i64 ((rd_T36 l0 x10_1).f0), .int .i64 ((rd_T36 l0 x10_1).f1), .slice A157_2 ((rd_T36 l0 x10_1).f2).length c157_2, .slice none 0 0]) ?_ 3 _ rfl; (with_reducible repeat (first | refine blk_drewN ?_ _ | refine blk_drew ?_ | refine blk_alloc ?_ _)); refine blk_put (cs := #[.int .i64 ((rd_T36 l0 x10_1).f0), .int .i64 ((rd_T36 l0 x10_1).f1), .slice none 0 0, .slice none 0 0]) ?_ 2 _ rfl; (with_reducible repeat (first | refine blk_drewN ?_ _ | refine blk_drew ?_ | refine blk_alloc ?_ _)); refine blk_put (cs := #[.int .i64 ((rd_T36 l0 x10_1).f0), .int .i64 0, .slice none 0 0, .slice none 0 0]) ?_ 1 _ rfl; (with_reducible repeat (first | refine blk_drewN ?_ _ | refine blk_drew ?_ | refine blk_alloc ?_ _)); refine blk_put (cs := #[.int .i64 0, .int .i64 0, .slice none 0 0, .slice none 0 0]) ?_ 0 _ rfl; (with_reducible repeat (first | refine blk_drewN ?_ _ | refine blk_drew ?_ | refine blk_alloc ?_ _)); exact BK158.out) hb); have n1_ := Aside0.mk (below_step (by repeat (first | (with_reducible first | exact HB.out | apply below_alloc | apply pw_below_drewN | apply below_drew1 | refine below_set ?_ GE158.out) | exact HB.out)) hb); clear BK158; clear HB; have BK158 := n0_; have HB := n1_; clear n0_ n1_; (try clear hb); (try clear hb2); (try clear hk); (try clear hi); have hcz12_0 : w11.cell? ⟨gb158, 0, none⟩ = some (.int .i64 ((rd_T36 l0 x10_1).f0)) := (blk_cell BK158.out 0).trans rfl; have hcz12_1 : w11.cell? ⟨gb158, 1, none⟩ = some (.int .i64 ((rd_T36 l0 x10_1).f1)) := (blk_cell BK158.out 1).trans rfl; have hcz12_2 : w11.cell? ⟨gb158, 2, none⟩ = some (.slice A157_2 ((rd_T36 l0 x10_1).f2).length c157_2) := (blk_cell BK158.out 2).trans rfl; have hcz12_3 : w11.cell? ⟨gb158, 3, none⟩ = some (.slice A157_3 ((rd_T36 l0 x10_1).f3).length c157_3) := (blk_cell BK158.out 3).trans rfl; have hfz12_0 := blk_frozen BK158.out 0; have hfz12_1 := blk_frozen BK158.out 1; have hfz12_2 := blk_frozen BK158.out 2; have hfz12_3 := blk_frozen BK158.out 3))
              go_roundg k1
              case measure => have := HK1.out; omega
              case rel => exact ⟨(ji8), (wrap64 (x10_1 + 1)), (by first | rfl | (simp; done) | (simp only [← hji8] <;> (first | rfl | simp)) | (simp [*]; done)), (by first | rfl | (simp; done) | (simp [*]; done)), H', ⟨by have := HK1.out; omega⟩, ⟨by repeat (first | (with_reducible first | exact HB.out | apply below_alloc | apply pw_below_drewN | apply below_drew1 | refine below_set ?_ GE158.out) | exact HB.out)⟩⟩
            · replace c7 := Bool.eq_false_iff.mpr c7
              subst c7
              have H1 : (task_Ceiling.l0 k1 a1 x5_1 l0 (l0.length : Int) (wrap64 (x10_1 + 1))) = some r := by rw [if_neg (show ¬ (false = true) by decide)] at H; exact H
              clear H
              have H := H1
              clear H1
              have H' := Aside0.mk H
              clear H
              have p157 : 0 ≤ (x10_1 : Int) := of_decide_eq_true (by first | (with_reducible assumption) | assumption)
              have q157 : x10_1 < (l0.length : Int) := of_decide_eq_true (by first | (with_reducible assumption) | assumption)
              obtain ⟨ad157, A157_2, c157_2, A157_3, c157_3, e157, hx157_0, hx157_1, hx157_2, hx157_3, hl157_2, hi157_2, hl157_3, hi157_3⟩ := at_T36 HR0.out x10_1 p157 q157
              cases e157
              replace hx157_0 := (HB.out.cell (World.block_lt_of_cell? w _ hx157_0)).trans hx157_0
              replace hx157_1 := (HB.out.cell (World.block_lt_of_cell? w _ hx157_1)).trans hx157_1
              replace hx157_2 := (HB.out.cell (World.block_lt_of_cell? w _ hx157_2)).trans hx157_2
              replace hx157_3 := (HB.out.cell (World.block_lt_of_cell? w _ hx157_3)).trans hx157_3
              have HR157_2 := Aside0.mk hi157_2
              have HC157_2 := Aside0.mk hl157_2
              clear hi157_2 hl157_2
              have HR157_3 := Aside0.mk hi157_3
              have HC157_3 := Aside0.mk hl157_3
              clear hi157_3 hl157_3
              replace p157 := eq_true p157
              replace q157 := eq_true q157
              go_wp2_with (first | ((with_reducible refine gate_dst (N := 7) rfl ?_); refine box_event ?hg (N := 7) ?hd (cs := #[.int .i64 0, .int .i64 0, .slice none 0 0, .slice none 0 0]) (t := 36) ?hr ?_; (case hd => rfl); (case hg => rfl); (case hr => first | (go_simp; done) | (go_simp; rfl)); intro gb158 hg w13 hbox hb; have n0_ := Aside0.mk (below_step (by repeat (first | (with_reducible first | exact HB.out | apply below_alloc | apply pw_below_drewN | apply below_drew1) | exact HB.out)) hb); have n1_ := Aside0.mk (hbox); have n2_ := Aside0.mk ((by rw [hg]; exact (below_size (by repeat (first | (with_reducible first | exact HB.out | apply below_alloc | apply pw_below_drewN | apply below_drew1) | exact HB.out))) : w.heap.size ≤ gb158)); have n3_ := Aside0.mk ((by rw [hg]; exact (below_size (by repeat (first | (with_reducible first | exact HB.out | apply below_alloc | apply pw_below_drewN | apply below_drew1) | exact HB.out))) : w.heap.size ≤ gb158)); clear HB; have HB := n0_; have BK158 := n1_; have GW158 := n2_; have GE158 := n3_; clear n0_ n1_ n2_ n3_; clear hb hbox hg; have hcz14_0 : w13.cell? ⟨gb158, 0, none⟩ = some (.int .i64 0) := (blk_cell BK158.out 0).trans rfl; have hcz14_1 : w13.cell? ⟨gb158, 1, none⟩ = some (.int .i64 0) := (blk_cell BK158.out 1).trans rfl; have hcz14_2 : w13.cell? ⟨gb158, 2, none⟩ = some (.slice none 0 0) := (blk_cell BK158.out 2).trans rfl; have hcz14_3 : w13.cell? ⟨gb158, 3, none⟩ = some (.slice none 0 0) := (blk_cell BK158.out 3).trans rfl; have hfz14_0 := blk_frozen BK158.out 0; have hfz14_1 := blk_frozen BK158.out 1; have hfz14_2 := blk_frozen BK158.out 2; have hfz14_3 := blk_frozen BK158.out 3) | ((with_reducible refine gate_callee (f := 49) rfl ?_); refine goesL_ (some 16) rfl rfl Try.func49 (by kernel_rfl) rfl #[.agg #[.int .i64 ((rd_T36 l0 x10_1).f0), .int .i64 ((rd_T36 l0 x10_1).f1), .slice A157_2 ((rd_T36 l0 x10_1).f2).length c157_2, .slice A157_3 ((rd_T36 l0 x10_1).f3).length c157_3], .int .i64 a1] rfl (by (try simp only [List.map_toArray, List.map_cons, List.map_nil]); first | done | rfl | (simp only [List.length_drop, List.length_take]; rfl)) ?_; (with_reducible refine (task_Uses.calls ((rd_T36 l0 x10_1).f0) ((rd_T36 l0 x10_1).f1) _ _ ((rd_T36 l0 x10_1).f2) _ _ ((rd_T36 l0 x10_1).f3) a1 false _ ?side1 ?side2 ?side3 ?side4 A6.out).mono ?_); (case side1 => exact Kd.C_below HR157_2.out (by repeat (first | (with_reducible first | exact HB.out | apply below_alloc | apply pw_below_drewN | apply below_drew1 | refine below_set ?_ GE158.out) | exact HB.out))); (case side2 => exact HC157_2.out); (case side3 => exact Kd.C_below HR157_3.out (by repeat (first | (with_reducible first | exact HB.out | apply below_alloc | apply pw_below_drewN | apply below_drew1 | refine below_set ?_ GE158.out) | exact HB.out))); (case side4 => exact HC157_3.out); rintro e w15 ⟨rfl, hb⟩; refine ⟨_, rfl, ?_⟩; have n0_ := Aside0.mk (blk_below (g := gb158) (o := .cells #[.int .i64 ((rd_T36 l0 x10_1).f0), .int .i64 ((rd_T36 l0 x10_1).f1), .slice A157_2 ((rd_T36 l0 x10_1).f2).length c157_2, .slice A157_3 ((rd_T36 l0 x10_1).f3).length c157_3] 36 (0, 0)) (by (with_reducible repeat (first | refine blk_drewN ?_ _ | refine blk_drew ?_ | refine blk_alloc ?_ _)); refine blk_put (cs := #[.int .i64 ((rd_T36 l0 x10_1).f0), .int .i64 ((rd_T36 l0 x10_1).f1), .slice A157_2 ((rd_T36 l0 x10_1).f2).length c157_2, .slice none 0 0]) ?_ 3 _ rfl; (with_reducible repeat (first | refine blk_drewN ?_ _ | refine blk_drew ?_ | refine blk_alloc ?_ _)); refine blk_put (cs := #[.int .i64 ((rd_T36 l0 x10_1).f0), .int .i64 ((rd_T36 l0 x10_1).f1), .slice none 0 0, .slice none 0 0]) ?_ 2 _ rfl; (with_reducible repeat (first | refine blk_drewN ?_ _ | refine blk_drew ?_ | refine blk_alloc ?_ _)); refine blk_put (cs := #[.int .i64 ((rd_T36 l0 x10_1).f0), .int .i64 0, .slice none 0 0, .slice none 0 0]) ?_ 1 _ rfl; (with_reducible repeat (first | refine blk_drewN ?_ _ | refine blk_drew ?_ | refine blk_alloc ?_ _)); refine blk_put (cs := #[.int .i64 0, .int .i64 0, .slice none 0 0, .slice none 0 0]) ?_ 0 _ rfl; (with_reducible repeat (first | refine blk_drewN ?_ _ | refine blk_drew ?_ | refine blk_alloc ?_ _)); exact BK158.out) hb); have n1_ := Aside0.mk (below_step (by repeat (first | (with_reducible first | exact HB.out | apply below_alloc | apply pw_below_drewN | apply below_drew1 | refine below_set ?_ GE158.out) | exact HB.out)) hb); clear BK158; clear HB; have BK158 := n0_; have HB := n1_; clear n0_ n1_; (try clear hb); (try clear hb2); (try clear hk); (try clear hi)))
              go_roundg k1
              case measure => have := HK1.out; omega
              case rel => exact ⟨(x5_1), (wrap64 (x10_1 + 1)), (by first | rfl | (simp; done) | (simp [*]; done)), (by first | rfl | (simp; done) | (simp [*]; done)), H', ⟨by have := HK1.out; omega⟩, ⟨by repeat (first | (with_reducible first | exact HB.out | apply below_alloc | apply pw_below_drewN | apply below_drew1 | refine below_set ?_ GE158.out) | exact HB.out)⟩⟩
          · rw [if_neg c5] at H
            exact absurd H (by simp)
        · rw [if_neg c4] at H
          exact absurd H (by simp)
      · rw [if_neg c3] at H
        have c3b0 : decide (x10_1 < (l0.length : Int)) = false := decide_eq_false c3
        clear c3
        obtain rfl := Option.some.inj H
        go_wp2
        go_ret
        exact ⟨by first | rfl | (simp [errW_none, errW_some] <;> rfl) | (simp [*, errW_none, errW_some] <;> rfl), by repeat (first | (with_reducible first | exact HB.out | apply below_alloc | apply pw_below_drewN | apply below_drew1) | exact HB.out)⟩
end Go.Proofs.Ytchlbnlhjllcbaa.F
