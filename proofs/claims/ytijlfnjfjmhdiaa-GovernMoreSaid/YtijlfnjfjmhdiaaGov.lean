/- How fast: the last level for which there is time, as plain mathematics over the told functions. -/
import Derived.Test.YtijlfnjfjmhdiaaTblS
import Derived.Test.YtijlfnjfjmhdiaaFx12
import Derived.Test.YtijlfnjfjmhdiaaFx14
namespace Go.Proofs.Ytijlfnjfjmhdiaa.Gov
open Go.RowKit Go.Proofs.Ytijlfnjfjmhdiaa.F Go.Proofs.Ytijlfnjfjmhdiaa.Tbl Go.Proofs.YtijlfnjfjmhdiaaW.PrintWords Go.Proofs.YtijlfnjfjmhdiaaW.PrintLast

/-- The last number up to N, from 1 on, that is all right; 0: none is. -/
def pick (ok : Int → Bool) : Nat → Int
  | 0 => 0
  | n + 1 => if ok ((n : Int) + 1) = true then (n : Int) + 1 else pick ok n
theorem pick_bd (ok : Int → Bool) : ∀ N : Nat, 0 ≤ pick ok N ∧ pick ok N ≤ N
  | 0 => by simp [pick]
  | n + 1 => by
    have := pick_bd ok n
    unfold pick
    split <;> omega
theorem pick_ok (ok : Int → Bool) : ∀ N : Nat, pick ok N = 0 ∨ ok (pick ok N) = true
  | 0 => .inl rfl
  | n + 1 => by
    unfold pick
    split
    · rename_i h; exact .inr h
    · exact pick_ok ok n
theorem pick_ge {ok : Int → Bool} {N : Nat} {m : Int} (h0 : 0 < m) (h : m ≤ N) (hm : ok m = true) : m ≤ pick ok N := by
  induction N with
  | zero => omega
  | succ n ih =>
    unfold pick
    by_cases e : ok ((n : Int) + 1) = true
    · rw [if_pos e]; omega
    · rw [if_neg e]
      apply ih
      by_cases e2 : m = (n : Int) + 1
      · subst e2; exact absurd hm e
      · omega
theorem pick_mono {ok ok' : Int → Bool} {N N' : Nat} (hN : N ≤ N') (h : ∀ m : Int, 0 < m → m ≤ N → ok m = true → ok' m = true) : pick ok N ≤ pick ok' N' := by
  rcases pick_ok ok N with h0 | h0
  · rw [h0]; exact (pick_bd ok' N').1
  · by_cases hz : pick ok N = 0
    · rw [hz]; exact (pick_bd ok' N').1
    · have hb := pick_bd ok N
      exact pick_ge (by omega) (by omega) (h _ (by omega) hb.2 h0)

section
variable {l0 : List S45} {l1 : List S59} {l2 : List S62} {idle crit sw swE sems hor : Int}

/-- what level n costs more than the first one, for so many cycles, from a level on -/
def cost (l0 : List S45) (sw left level n : Int) : Int := left * ((rd_T45 l0 n).f0 - (rd_T45 l0 0).f0) + if n = level then 0 else sw
def fits (l0 : List S45) (sw left slack level : Int) (n : Int) : Bool := decide (cost l0 sw left level n * 4294967296 ≤ slack)

theorem rises (h : TableOk l0 l1 l2 idle crit sw swE sems hor) : ∀ (d : Nat) (i : Int), 0 ≤ i → i + d < l0.length → (rd_T45 l0 i).f0 ≤ (rd_T45 l0 (i + d)).f0
  | 0, i, _, _ => by simp
  | d + 1, i, h0, h1 => by
    have := rises h d i h0 (by omega)
    have hl := (h.levels (i + (d + 1 : Nat)) (by omega) (by omega)).2.1 (by omega)
    rw [show i + ((d + 1 : Nat) : Int) - 1 = i + (d : Int) from by omega] at hl
    omega
theorem above (h : TableOk l0 l1 l2 idle crit sw swE sems hor) {n : Int} (h0 : 0 ≤ n) (h1 : n < l0.length) : 0 ≤ (rd_T45 l0 n).f0 - (rd_T45 l0 0).f0 ∧ (rd_T45 l0 n).f0 - (rd_T45 l0 0).f0 ≤ 255 := by
  have a := rises h n.toNat 0 (by omega) (by omega)
  rw [show (0 : Int) + (n.toNat : Int) = n from by omega] at a
  have b := (h.levels n h0 h1).1
  have c := (h.levels 0 (by omega) (by omega)).1
  omega
theorem cost_bd (h : TableOk l0 l1 l2 idle crit sw swE sems hor) {left level n : Int} (hl0 : 0 ≤ left) (hl1 : left ≤ 8192) (h0 : 0 ≤ n) (h1 : n < l0.length) :
    0 ≤ left * ((rd_T45 l0 n).f0 - (rd_T45 l0 0).f0) ∧ left * ((rd_T45 l0 n).f0 - (rd_T45 l0 0).f0) ≤ 2088960 ∧ 0 ≤ cost l0 sw left level n ∧ cost l0 sw left level n ≤ 2089216 := by
  have a := above h h0 h1
  have m0 : 0 ≤ left * ((rd_T45 l0 n).f0 - (rd_T45 l0 0).f0) := Int.mul_nonneg hl0 a.1
  have m1 : left * ((rd_T45 l0 n).f0 - (rd_T45 l0 0).f0) ≤ 8192 * 255 := Int.mul_le_mul hl1 a.2 a.1 (by omega)
  have hs := h.head
  unfold Head at hs
  unfold cost
  split <;> omega
theorem cost_less (h : TableOk l0 l1 l2 idle crit sw swE sems hor) {left left' level n : Int} (hl : left' ≤ left) (h0 : 0 ≤ n) (h1 : n < l0.length) : cost l0 sw left' level n ≤ cost l0 sw left level n := by
  have a := above h h0 h1
  have := Int.mul_le_mul_of_nonneg_right hl a.1
  unfold cost; omega

theorem whole_some {n : Int} (h0 : 0 ≤ n) (h1 : n ≤ 1073741824) : fix_Whole.f n = some (n * 4294967296) := by
  unfold fix_Whole.f fix_clamp_int.f mn mx
  rw [if_neg (by omega), if_neg (by omega), Option.bind_some, w64 (by omega) (by omega)]
theorem refwhole_some {n : Int} (h0 : 0 ≤ n) (h1 : n ≤ 1073741824) : dormouseref01_Whole.f n = some (n * 4294967296) := by
  unfold dormouseref01_Whole.f dormouseref01_clamp.f
  rw [if_neg (by omega), if_neg (by omega), Option.bind_some, w64 (by omega) (by omega)]

/-- the slowest level that a policy lets be -/
def limit (crit policy static : Int) : Int := if policy = 1 ∨ policy = 3 then mn (mx static 0) crit else if policy = 2 then crit else 0
theorem limit_bd (hc : 0 ≤ crit) (policy static : Int) : 0 ≤ limit crit policy static ∧ limit crit policy static ≤ crit := by
  unfold limit mn mx; (repeat' split) <;> omega
theorem limit_some (policy static : Int) (k : Nat) : govern_limit.f (k + 1) l0 l1 l2 idle crit sw swE sems hor policy static = some (limit crit policy static) := by
  unfold govern_limit.f
  simp only [govern_limit.j0]
  unfold limit
  by_cases h1 : policy = 1
  · rw [if_pos h1, if_pos (by simp [h1]), if_pos (.inl h1)]
  · rw [if_neg h1]
    by_cases h3 : policy = 3
    · rw [if_pos (by simp [h3]), if_pos (.inr h3)]
    · rw [if_neg (by simp [h3]), if_neg (show ¬ (policy = 1 ∨ policy = 3) by omega)]
      by_cases h2 : policy = 2
      · rw [if_pos h2, if_pos h2]
      · rw [if_neg h2, if_neg h2]

theorem down_some (h : TableOk l0 l1 l2 idle crit sw swE sems hor) {left slack level : Int} (hl0 : 0 ≤ left) (hl1 : left ≤ 8192) :
    ∀ (N : Nat), (N : Int) < l0.length → ∀ k, N < k → govern_Choose.l0 k left slack level N l0 l1 l2 idle crit sw swE sems hor = some (pick (fits l0 sw left slack level) N) := by
  have hh := h.head
  unfold Head at hh
  intro N
  induction N with
  | zero =>
    intro _ k hk
    obtain ⟨k, rfl⟩ : ∃ m, k = m + 1 := ⟨k - 1, by omega⟩
    simp only [govern_Choose.l0]
    rw [if_neg (by omega)]; rfl
  | succ n ih =>
    intro hN k hk
    obtain ⟨k, rfl⟩ : ∃ m, k = m + 1 := ⟨k - 1, by omega⟩
    have ih' := ih (by omega) k (by omega)
    have c := cost_bd h (level := level) hl0 hl1 (show 0 ≤ ((n + 1 : Nat) : Int) by omega) hN
    have a := above h (show 0 ≤ ((n + 1 : Nat) : Int) by omega) hN
    simp only [govern_Choose.l0]
    rw [if_pos (by omega), if_pos (by omega), if_pos (by omega), if_pos (by omega)]
    rw [w64 (n := (rd_T45 l0 ((n + 1 : Nat) : Int)).f0 - (rd_T45 l0 0).f0) (by omega) (by omega), w64 (n := left * ((rd_T45 l0 ((n + 1 : Nat) : Int)).f0 - (rd_T45 l0 0).f0)) (by omega) (by omega)]
    rw [w64 (n := ((n + 1 : Nat) : Int) - 1) (by omega) (by omega), show ((n + 1 : Nat) : Int) - 1 = (n : Int) from by omega, ih']
    have hp : pick (fits l0 sw left slack level) (n + 1) = if fits l0 sw left slack level ((n + 1 : Nat) : Int) = true then ((n + 1 : Nat) : Int) else pick (fits l0 sw left slack level) n := by
      conv => lhs; unfold pick
      rfl
    rw [hp]
    unfold fits
    by_cases e : ((n + 1 : Nat) : Int) = level
    · have ce : cost l0 sw left level ((n + 1 : Nat) : Int) = left * ((rd_T45 l0 ((n + 1 : Nat) : Int)).f0 - (rd_T45 l0 0).f0) := by unfold cost; rw [if_pos e]; omega
      rw [if_pos e, whole_some (by omega) (by omega), Option.bind_some, ← ce]
      by_cases f : cost l0 sw left level ((n + 1 : Nat) : Int) * 4294967296 ≤ slack
      · rw [if_pos f, if_pos (by simpa using f)]
      · rw [if_neg f, if_neg (by simpa using f)]
    · have ce : cost l0 sw left level ((n + 1 : Nat) : Int) = left * ((rd_T45 l0 ((n + 1 : Nat) : Int)).f0 - (rd_T45 l0 0).f0) + sw := by unfold cost; rw [if_neg e]
      rw [if_neg e, w64 (by omega) (by omega), whole_some (by omega) (by omega), Option.bind_some, ← ce]
      by_cases f : cost l0 sw left level ((n + 1 : Nat) : Int) * 4294967296 ≤ slack
      · rw [if_pos f, if_pos (by simpa using f)]
      · rw [if_neg f, if_neg (by simpa using f)]

/-- What Choose tells. -/
def fast (l0 : List S45) (crit sw policy static left slack level : Int) : Int := pick (fits l0 sw left slack level) (limit crit policy static).toNat
theorem fast_bd (hc : 0 ≤ crit) (policy static left slack level : Int) : 0 ≤ fast l0 crit sw policy static left slack level ∧ fast l0 crit sw policy static left slack level ≤ crit := by
  have a := limit_bd hc policy static
  have b := pick_bd (fits l0 sw left slack level) (limit crit policy static).toNat
  unfold fast; omega
theorem choose_some (h : TableOk l0 l1 l2 idle crit sw swE sems hor) (policy static : Int) {left slack level : Int} (hl0 : 0 ≤ left) (hl1 : left ≤ 8192) :
    dormouselaw16_choose.f 10 l0 l1 l2 idle crit sw swE sems hor policy static left slack level = some (fast l0 crit sw policy static left slack level) := by
  have hh := h.head
  unfold Head at hh
  have a := limit_bd (show 0 ≤ crit by omega) policy static
  unfold dormouselaw16_choose.f govern_Choose.f
  rw [limit_some, Option.bind_some]
  have := down_some h hl0 hl1 (slack := slack) (level := level) (limit crit policy static).toNat (by omega) 10 (by omega)
  rw [show (((limit crit policy static).toNat : Nat) : Int) = limit crit policy static from by omega] at this
  rw [this, Option.bind_some]; rfl

theorem up_some (h : TableOk l0 l1 l2 idle crit sw swE sems hor) {left slack level lim : Int} (hl0 : 0 ≤ left) (hl1 : left ≤ 8192) (hlim : lim < l0.length) :
    ∀ (d : Nat) (n : Nat), lim - n = d → ∀ k, d < k → dormouseref09_Fast.l0 k left slack level lim (pick (fits l0 sw left slack level) n) ((n : Int) + 1) l0 l1 l2 idle crit sw swE sems hor = some (pick (fits l0 sw left slack level) lim.toNat) := by
  have hh := h.head
  unfold Head at hh
  intro d
  induction d with
  | zero =>
    intro n hn k hk
    obtain ⟨k, rfl⟩ : ∃ m, k = m + 1 := ⟨k - 1, by omega⟩
    simp only [dormouseref09_Fast.l0]
    rw [if_neg (by omega), show lim.toNat = n from by omega]
  | succ d ih =>
    intro n hn k hk
    obtain ⟨k, rfl⟩ : ∃ m, k = m + 1 := ⟨k - 1, by omega⟩
    have ih' := ih (n + 1) (by omega) k (by omega)
    have c := cost_bd h (level := level) hl0 hl1 (show 0 ≤ (n : Int) + 1 by omega) (show (n : Int) + 1 < l0.length by omega)
    have a := above h (show 0 ≤ (n : Int) + 1 by omega) (show (n : Int) + 1 < l0.length by omega)
    have hp : pick (fits l0 sw left slack level) (n + 1) = if fits l0 sw left slack level ((n : Int) + 1) = true then (n : Int) + 1 else pick (fits l0 sw left slack level) n := by
      conv => lhs; unfold pick
    rw [hp, show ((n + 1 : Nat) : Int) = (n : Int) + 1 from by omega] at ih'
    simp only [dormouseref09_Fast.l0]
    rw [if_pos (by omega), if_pos (by omega), if_pos (by omega), if_pos (by omega)]
    rw [w64 (n := (rd_T45 l0 ((n : Int) + 1)).f0 - (rd_T45 l0 0).f0) (by omega) (by omega), w64 (n := left * ((rd_T45 l0 ((n : Int) + 1)).f0 - (rd_T45 l0 0).f0)) (by omega) (by omega)]
    rw [w64 (n := (n : Int) + 1 + 1) (by omega) (by omega)]
    unfold fits at ih' ⊢
    by_cases e : (n : Int) + 1 = level
    · have ce : cost l0 sw left level ((n : Int) + 1) = left * ((rd_T45 l0 ((n : Int) + 1)).f0 - (rd_T45 l0 0).f0) := by unfold cost; rw [if_pos e]; omega
      rw [if_pos e, refwhole_some (by omega) (by omega), Option.bind_some, ← ce]
      by_cases f : cost l0 sw left level ((n : Int) + 1) * 4294967296 ≤ slack
      · rw [if_pos f]; rw [if_pos (by simpa using f)] at ih'; exact ih'
      · rw [if_neg f]; rw [if_neg (by simpa using f)] at ih'; exact ih'
    · have ce : cost l0 sw left level ((n : Int) + 1) = left * ((rd_T45 l0 ((n : Int) + 1)).f0 - (rd_T45 l0 0).f0) + sw := by unfold cost; rw [if_neg e]
      rw [if_neg e, w64 (n := left * ((rd_T45 l0 ((n : Int) + 1)).f0 - (rd_T45 l0 0).f0) + sw) (by omega) (by omega), refwhole_some (by omega) (by omega), Option.bind_some, ← ce]
      by_cases f : cost l0 sw left level ((n : Int) + 1) * 4294967296 ≤ slack
      · rw [if_pos f]; rw [if_pos (by simpa using f)] at ih'; exact ih'
      · rw [if_neg f]; rw [if_neg (by simpa using f)] at ih'; exact ih'

theorem max_some (a b : Int) : dormouseref01_Max.f a b = some (mx a b) := by unfold dormouseref01_Max.f mx; (repeat' split) <;> first | rfl | (congr 1; omega) | (exfalso; omega)
theorem min_some (a b : Int) : dormouseref01_Min.f a b = some (mn a b) := by unfold dormouseref01_Min.f mn; (repeat' split) <;> first | rfl | (congr 1; omega) | (exfalso; omega)

theorem ref_some (h : TableOk l0 l1 l2 idle crit sw swE sems hor) (policy static : Int) {left slack level : Int} (hl0 : 0 ≤ left) (hl1 : left ≤ 8192) :
    dormouseref09_Fast.f 20 l0 l1 l2 idle crit sw swE sems hor policy static left slack level = some (fast l0 crit sw policy static left slack level) := by
  have hh := h.head
  unfold Head at hh
  have a := limit_bd (show 0 ≤ crit by omega) policy static
  have key : ∀ k, 10 < k → dormouseref09_Fast.l0 k left slack level (limit crit policy static) 0 1 l0 l1 l2 idle crit sw swE sems hor = some (fast l0 crit sw policy static left slack level) := by
    intro k hk
    have := up_some h hl0 hl1 (slack := slack) (level := level) (lim := limit crit policy static) (by omega) (limit crit policy static).toNat 0 (by omega) k (by omega)
    simpa [pick, fast] using this
  unfold dormouseref09_Fast.f
  by_cases h1 : policy = 1
  · rw [if_pos h1]
    simp only [dormouseref09_Fast.j0, dormouseref09_Fast.j1, dormouseref09_Fast.j2, max_some, min_some, Option.bind_some, if_true]
    rw [if_neg (by omega)]
    have e : limit crit policy static = mn (mx static 0) crit := by unfold limit; rw [if_pos (.inl h1)]
    rw [← e]; exact key _ (by omega)
  · rw [if_neg h1]
    simp only [dormouseref09_Fast.j0, dormouseref09_Fast.j1, dormouseref09_Fast.j2, max_some, min_some, Option.bind_some]
    by_cases h3 : policy = 3
    · rw [if_pos (by simp [h3]), if_neg (by omega)]
      have e : limit crit policy static = mn (mx static 0) crit := by unfold limit; rw [if_pos (.inr h3)]
      rw [← e]; exact key _ (by omega)
    · rw [if_neg (by simp [h3])]
      by_cases h2 : policy = 2
      · rw [if_pos h2]
        have e : limit crit policy static = crit := by unfold limit; rw [if_neg (by omega), if_pos h2]
        have := key 17 (by omega)
        rw [e] at this
        exact this
      · rw [if_neg h2]
        have e : limit crit policy static = 0 := by unfold limit; rw [if_neg (by omega), if_neg h2]
        have := key 17 (by omega)
        rw [e] at this
        exact this
end
end Go.Proofs.Ytijlfnjfjmhdiaa.Gov
