/- The document's ceilings, hold-ups, reserve and load are the program's. -/
import Derived.Test.YtonlaboeodddeaaGood
import Derived.Test.YtonlaboeodddeaaG4
namespace Go.Proofs.Ytonlaboeodddeaa.Adm
open Go.RowKit Go.Proofs.Ytonlaboeodddeaa.F Go.Proofs.Ytonlaboeodddeaa.Tbl Go.Proofs.YtonlaboeodddeaaW.PrintWords Go.Proofs.YtonlaboeodddeaaW.PrintLast
theorem ruses_some (t : S29) (s : Int) : dormouseref09_Uses.f t.f0 t.f1 t.f2 t.f3 s = some (uses t s) := by
  unfold dormouseref09_Uses.f uses
  by_cases h0 : s ≥ 0
  · by_cases h1 : s < t.f2.length
    · rw [if_pos h0, if_pos h1, if_pos (by omega)]; simp [h1]; omega
    · rw [if_pos h0, if_neg h1]; simp [h1]
  · rw [if_neg h0]; simp; omega
theorem rceil_loop (l : List S29) (s : Int) (hn : l.length ≤ 1000) : ∀ (d k : Nat) (i : Nat) (acc : Int), i + d = l.length → d < k → acc ≤ 1099511627776 →
    dormouseref09_Ceiling.l0 k l s acc i = some (mn acc (ceil (l.drop i) s))
  | 0, k, i, acc, h, hk, ha => by
    obtain ⟨k, rfl⟩ : ∃ m, k = m + 1 := ⟨k - 1, by omega⟩
    simp only [dormouseref09_Ceiling.l0]
    rw [if_neg (by omega), List.drop_of_length_le (by omega)]
    congr 1; unfold ceil mn; simp; omega
  | d + 1, k, i, acc, h, hk, ha => by
    obtain ⟨k, rfl⟩ : ∃ m, k = m + 1 := ⟨k - 1, by omega⟩
    have hi : i < l.length := by omega
    simp only [dormouseref09_Ceiling.l0]
    rw [if_pos (by omega), if_pos (by omega), ruses_some, Option.bind_some, w64 (n := (i : Int) + 1) (by omega) (by omega)]
    rw [drop_at l hi, ceil_cons]
    have ih := fun acc h => rceil_loop l s hn d k (i + 1) acc (by omega) (by omega) h
    rw [show ((i + 1 : Nat) : Int) = (i : Int) + 1 from by omega] at ih
    by_cases u : uses (rd_T29 l i) s = true
    · rw [if_pos u, if_pos u]
      by_cases c : (rd_T29 l i).f0 < acc
      · rw [if_pos c, ih _ (by omega)]; congr 1; unfold mn; (repeat' split) <;> omega
      · rw [if_neg c, ih _ ha]; congr 1; unfold mn; (repeat' split) <;> omega
    · rw [if_neg u, if_neg u, ih _ ha]
theorem rceil_some (l : List S29) (s : Int) (hn : l.length ≤ 1000) {k : Nat} (hk : l.length < k) : dormouseref09_Ceiling.f k l s = some (ceil l s) := by
  unfold dormouseref09_Ceiling.f
  have := rceil_loop l s hn l.length k 0 1099511627776 (by omega) hk (by omega)
  rw [show ((0 : Nat) : Int) = 0 from rfl] at this
  rw [this, List.drop_zero]; congr 1
  have := ceil_never l s; unfold mn; split <;> omega
section
variable {l0 : List S34} {l1 : List S55} {l2 : List S58} {idle crit sw swE sems hor : Int} {l : List S29}
theorem rinner_loop (hn : l.length ≤ 1000) (period : Int) (i : Nat) (hi : i < l.length) (h3 : (rd_T29 l i).f2.length ≤ 1000) : ∀ (d j : Nat) (k : Nat) (m : Int), 0 ≤ m → j + d = (rd_T29 l i).f2.length → 1002 + d < k →
    dormouseref09_Block.l1 k l period m i j l0 l1 l2 idle crit sw swE sems hor = dormouseref09_Block.l0 (k - (d + 1)) l period (inner l period (rd_T29 l i) m j d) ((i : Int) + 1) l0 l1 l2 idle crit sw swE sems hor
  | 0, j, k, m, hm, h, hk => by
    obtain ⟨k, rfl⟩ : ∃ q, k = q + 1 := ⟨k - 1, by omega⟩
    simp only [dormouseref09_Block.l1]
    rw [if_pos (by omega), if_pos (by omega), if_neg (by omega), w64 (n := (i : Int) + 1) (by omega) (by omega)]; rfl
  | d + 1, j, k, m, hm, h, hk => by
    obtain ⟨k, rfl⟩ : ∃ q, k = q + 1 := ⟨k - 1, by omega⟩
    have ih := fun m hm => rinner_loop hn period i hi h3 d (j + 1) k m hm (by omega) (by omega)
    rw [show ((j + 1 : Nat) : Int) = (j : Int) + 1 from by omega] at ih
    have hk' : k + 1 - (d + 1 + 1) = k - (d + 1) := by omega
    rw [hk']
    simp only [dormouseref09_Block.l1]
    rw [if_pos (by omega), if_pos (by omega), if_pos (by omega), w64 (n := (j : Int) + 1) (by omega) (by omega)]
    have hin : inner l period (rd_T29 l i) m j (d + 1) = inner l period (rd_T29 l i) (step l period (rd_T29 l i) m j) (j + 1) d := rfl
    rw [hin]
    have same : ¬ holds l period (rd_T29 l i) j → step l period (rd_T29 l i) m j = m := fun x => by unfold step; rw [if_neg x]
    by_cases h1 : (rd_T29 l i).f0 > period
    · rw [if_pos h1, rceil_some l j hn (by omega), Option.bind_some]
      by_cases h4 : ceil l j ≤ period
      · rw [if_pos h4, if_pos (by omega)]
        by_cases h2 : uses (rd_T29 l i) j = true
        · have e : step l period (rd_T29 l i) m j = mx m (rd (rd_T29 l i).f2 j) := by unfold step; rw [if_pos ⟨h1, h2, h4⟩]
          rw [e]
          by_cases h5 : rd (rd_T29 l i).f2 j > m
          · rw [if_pos h5, ih _ (by omega)]
            have : mx m (rd (rd_T29 l i).f2 j) = rd (rd_T29 l i).f2 j := by unfold mx; split <;> omega
            rw [this]
          · rw [if_neg h5, ih _ hm]
            have : mx m (rd (rd_T29 l i).f2 j) = m := by unfold mx; split <;> omega
            rw [this]
        · have : ¬ rd (rd_T29 l i).f2 j > m := fun x => h2 (by unfold uses; exact decide_eq_true ⟨by omega, by omega, by omega⟩)
          rw [if_neg this, ih _ hm, same (fun x => h2 x.2.1)]
      · rw [if_neg h4, ih _ hm, same (fun x => h4 x.2.2)]
    · rw [if_neg h1, ih _ hm, same (fun x => h1 x.1)]
theorem router_loop (h : Mach l0 l1 l2 idle crit sw swE sems hor l) (period : Int) : ∀ (d i : Nat) (k : Nat) (m : Int), 0 ≤ m → i + d = l.length → outer l period m (l.drop i) = longest l period → 1010 + 5 * d < k →
    dormouseref09_Block.l0 k l period m i l0 l1 l2 idle crit sw swE sems hor = some (block l0 crit sw l period)
  | 0, i, k, m, hm, hi, ho, hk => by
    obtain ⟨k, rfl⟩ : ∃ q, k = q + 1 := ⟨k - 1, by omega⟩
    have hd := head_of h.table
    have hs := slow_bd h.table
    have hl := longest_bd h period
    rw [List.drop_of_length_le (by omega)] at ho
    have hm' : m = longest l period := ho
    simp only [dormouseref09_Block.l0]
    rw [if_neg (by omega), if_pos (by omega), if_pos (by omega)]
    have hmax : dormouseref01_Max.f (rd_T34 l0 crit).f0 sw = some (mx (slow l0 crit) sw) := by
      unfold dormouseref01_Max.f mx slow
      by_cases c : (rd_T34 l0 crit).f0 > sw
      · rw [if_pos c]; split <;> simp <;> omega
      · rw [if_neg c]; split <;> simp <;> omega
    rw [hmax, Option.bind_some, hm']
    have hb := block_bd h period
    have h1 : 0 ≤ longest l period * slow l0 crit := Int.mul_nonneg hl.1 (by omega)
    have h2 := mx_ge (slow l0 crit) sw
    unfold block at hb ⊢
    rw [show (rd_T34 l0 crit).f0 = slow l0 crit from rfl, w64 (n := longest l period * slow l0 crit) (by omega) (by omega), w64 (by omega) (by omega)]
  | d + 1, i, k, m, hm, hi, ho, hk => by
    obtain ⟨k, rfl⟩ : ∃ q, k = q + 1 := ⟨k - 1, by omega⟩
    have hd := head_of h.table
    have hil : i < l.length := by omega
    have few := h.few
    have h3 := (h.task _ (rd_mem l hil)).sem (by omega)
    simp only [dormouseref09_Block.l0]
    rw [if_pos (by omega)]
    have e := rinner_loop (l0 := l0) (l1 := l1) (l2 := l2) (idle := idle) (crit := crit) (sw := sw) (swE := swE) (sems := sems) (hor := hor) (l := l) (by omega) period i hil (by omega) (rd_T29 l i).f2.length 0 k m hm (by omega) (by omega)
    rw [show ((0 : Nat) : Int) = 0 from rfl] at e
    rw [e]
    rw [drop_at l hil] at ho
    have ih := router_loop h period d (i + 1) (k - ((rd_T29 l i).f2.length + 1)) (inner l period (rd_T29 l i) m 0 (rd_T29 l i).f2.length) (by have := (inner_ge l period (rd_T29 l i) (rd_T29 l i).f2.length 0 m).1; omega) (by omega) ho (by omega)
    rw [show ((i + 1 : Nat) : Int) = (i : Int) + 1 from by omega] at ih
    exact ih
theorem rblock_some (h : Mach l0 l1 l2 idle crit sw swE sems hor l) (period : Int) {k : Nat} (hk : 1400 < k) : dormouseref09_Block.f k l0 l1 l2 idle crit sw swE sems hor l period = some (block l0 crit sw l period) := by
  have few := h.few
  unfold dormouseref09_Block.f
  have := router_loop h period l.length 0 k 0 (by omega) (by omega) (by rw [List.drop_zero]; rfl) (by omega)
  rw [show ((0 : Nat) : Int) = 0 from rfl] at this
  exact this
theorem rmax (a b : Int) : dormouseref01_Max.f a b = some (mx a b) := by
  unfold dormouseref01_Max.f mx
  by_cases c : a > b
  · rw [if_pos c]; split <;> simp <;> omega
  · rw [if_neg c]; split <;> simp <;> omega
theorem rreserve_loop (h : Mach l0 l1 l2 idle crit sw swE sems hor l) : ∀ (d i k : Nat) (acc : Int), 0 ≤ acc → i + d = l.length → 1500 + d < k →
    dormouseref09_Reserve.l0 k l acc i l0 l1 l2 idle crit sw swE sems hor = some (mx acc (reserveOn l0 crit sw l (l.drop i)))
  | 0, i, k, acc, ha, hd, hk => by
    obtain ⟨k, rfl⟩ : ∃ q, k = q + 1 := ⟨k - 1, by omega⟩
    simp only [dormouseref09_Reserve.l0]
    rw [if_neg (by omega), List.drop_of_length_le (by omega)]
    congr 1; unfold reserveOn mx; simp; omega
  | d + 1, i, k, acc, ha, hd, hk => by
    obtain ⟨k, rfl⟩ : ∃ q, k = q + 1 := ⟨k - 1, by omega⟩
    have hi : i < l.length := by omega
    have hf := h.few
    have ht := (h.task _ (rd_mem l hi)).period
    have hh := head_of h.table
    have b := block_bd h (rd_T29 l i).f0
    simp only [dormouseref09_Reserve.l0]
    rw [if_pos (by omega), if_pos (by omega), rblock_some h _ (by omega), Option.bind_some, ref_util ht.1 (by omega) (by omega), Option.bind_some, rmax, Option.bind_some, w64 (n := (i : Int) + 1) (by omega) (by omega)]
    have hm := mx_ge acc (part (block l0 crit sw l (rd_T29 l i).f0) (rd_T29 l i).f0)
    have ih := rreserve_loop h d (i + 1) k (mx acc (part (block l0 crit sw l (rd_T29 l i).f0) (rd_T29 l i).f0)) (by omega) (by omega) (by omega)
    rw [show ((i + 1 : Nat) : Int) = (i : Int) + 1 from by omega] at ih
    rw [ih, drop_at l hi, reserveOn_cons]; congr 1; unfold mx; (repeat' split) <;> omega
theorem rreserve_some (h : Mach l0 l1 l2 idle crit sw swE sems hor l) {k : Nat} (hk : 1600 < k) : dormouseref09_Reserve.f k l0 l1 l2 idle crit sw swE sems hor l = some (reserve l0 crit sw l) := by
  unfold dormouseref09_Reserve.f
  have hf := h.few
  have := rreserve_loop h l.length 0 k 0 (by omega) (by omega) (by omega)
  rw [show ((0 : Nat) : Int) = 0 from rfl, List.drop_zero] at this
  rw [this]; congr 1; have := (reserve_bd h).1; unfold reserve at this ⊢; unfold mx; split <;> omega
theorem rload_loop (h : Mach l0 l1 l2 idle crit sw swE sems hor l) (level : Int) : ∀ (d i k : Nat) (acc : Int), i + d = l.length → d + 1 < k → 0 ≤ acc → acc + d * 4505798650626048 ≤ 4611686018427387904 →
    dormouseref09_Load.l0 k l level acc i l0 l1 l2 idle crit sw swE sems hor = some (acc + sumOf (partOf l0 sw level) (l.drop i))
  | 0, i, k, acc, hd, hk, h0, h1 => by
    obtain ⟨k, rfl⟩ : ∃ q, k = q + 1 := ⟨k - 1, by omega⟩
    simp only [dormouseref09_Load.l0]
    rw [if_neg (by omega), List.drop_of_length_le (by omega)]
    simp [sumOf]
  | d + 1, i, k, acc, hd, hk, h0, h1 => by
    obtain ⟨k, rfl⟩ : ∃ q, k = q + 1 := ⟨k - 1, by omega⟩
    have hi : i < l.length := by omega
    have hf := h.few
    have ht := h.task _ (rd_mem l hi)
    have b := partOf_bd h.table ht level
    simp only [dormouseref09_Load.l0]
    rw [if_pos (by omega), if_pos (by omega), ref_part h.table ht level (by omega), Option.bind_some, w64 (n := (i : Int) + 1) (by omega) (by omega), w64 (n := acc + partOf l0 sw level (rd_T29 l i)) (by omega) (by omega)]
    have ih := rload_loop h level d (i + 1) k (acc + partOf l0 sw level (rd_T29 l i)) (by omega) (by omega) (by omega) (by omega)
    rw [show ((i + 1 : Nat) : Int) = (i : Int) + 1 from by omega] at ih
    rw [ih, drop_at l hi, sumOf_cons]; congr 1; omega
theorem rload_some (h : Mach l0 l1 l2 idle crit sw swE sems hor l) (level : Int) {k : Nat} (hk : 1600 < k) : dormouseref09_Load.f k l0 l1 l2 idle crit sw swE sems hor l level = some (load l0 crit sw l level) := by
  have hf := h.few
  have a := reserve_bd h
  unfold dormouseref09_Load.f
  rw [rreserve_some h hk, Option.bind_some]
  have := rload_loop h level l.length 0 k (reserve l0 crit sw l) (by omega) (by omega) a.1 (by omega)
  rw [show ((0 : Nat) : Int) = 0 from rfl, List.drop_zero] at this
  exact this
end
end Go.Proofs.Ytonlaboeodddeaa.Adm
