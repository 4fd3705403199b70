/-
  Exchanging and turning stretches of a row; halving a sum: pure laws, single operations.
  No condition.
-/
import Derived.Test.YtnjomdjkbbhdoaaDoorSwap
namespace Go.Proofs.YtnjomdjkbbhdoaaDoor
open Go.RowKit
set_option linter.unusedVariables false

/-! ### Halving -/
section
variable {P : Program} {N : Nat} {L : TL} {S : World → Prop}
theorem ex_i2u {s t : TypeId} {x : Operand} {z : Int} (hs : P.underlying s = some (.int .i64)) (ht : P.underlying t = some (.int .u64)) (hx : ev L x = some (.int .i64 z)) (h0 : 0 ≤ z) (h1 : z ≤ 9223372036854775807) :
    Ex P (.convert s t x) N L S (.int .u64 z) := fun a w hf hsw d ty pos af g => by
  have hw : IntKind.u64.wrap z = z := by simp [IntKind.wrap, IntKind.bits, IntKind.signed]; omega
  simp [execOp, hf.eval hx, convert, run_underlying hs, run_underlying ht, Conv.intToInt, hw]
theorem ex_u2i {s t : TypeId} {x : Operand} {z : Int} (hs : P.underlying s = some (.int .u64)) (ht : P.underlying t = some (.int .i64)) (hx : ev L x = some (.int .u64 z)) (h0 : 0 ≤ z) (h1 : z ≤ 9223372036854775807) :
    Ex P (.convert s t x) N L S (.int .i64 z) := fun a w hf hsw d ty pos af g => by
  have hw : IntKind.i64.wrap z = z := i64_of (by omega) h1
  simp [execOp, hf.eval hx, convert, run_underlying hs, run_underlying ht, Conv.intToInt, hw]
theorem ex_half {t u : TypeId} {x y : Operand} {z : Int} (hx : ev L x = some (.int .u64 z)) (hy : ev L y = some (.int .u64 1)) : Ex P (.binOp .shr t x y u) N L S (.int .u64 (z / 2)) := fun a w hf hsw d ty pos af g => by
  have he : ∀ w, (eqGuard .shr t x y (.int .u64 z) (.int .u64 1)).run P w = .ok () w := fun w => by simp [eqGuard]
  have hb : ∀ w, (binOp .shr t (.int .u64 z) (.int .u64 1)).run P w = .ok (.int .u64 (z / 2)) w := fun w => by
    simp [binOp, Op.shift, IntKind.bits, Int.fdiv_eq_ediv]
  simp [execOp, hf.eval hx, hf.eval hy, he, hb]
end

theorem ex_muli {P : Program} {N : Nat} {L : TL} {S : World → Prop} {t u : TypeId} {x y : Operand} {m n z : Int} (hx : ev L x = some (.int .i64 m)) (hy : ev L y = some (.int .i64 n)) (hz : m * n = z) (h0 : -9223372036854775808 ≤ z) (h1 : z ≤ 9223372036854775807) :
    Ex P (.binOp .mul t x y u) N L S (.int .i64 z) := by subst hz; have := ex_mul (P := P) (N := N) (S := S) (t := t) (u := u) hx hy; rwa [i64_of h0 h1] at this
/-! ### Stretches that change places -/
/-- n from a on and n from b on change places. -/
def xchF {α : Type} (a b n : Nat) (f : Nat → α) (k : Nat) : α := if a ≤ k ∧ k < a + n then f (b + (k - a)) else if b ≤ k ∧ k < b + n then f (a + (k - b)) else f k
/-- What stands from m to b comes ahead of what stands from a to m. -/
def rotF {α : Type} (a m b : Nat) (f : Nat → α) (k : Nat) : α := if a ≤ k ∧ k < a + (b - m) then f (m + (k - a)) else if a + (b - m) ≤ k ∧ k < b then f (a + (k - (a + (b - m)))) else f k
def getF (us : List T) : Nat → Option T := fun k => us[k]?
theorem xchF_zero {α : Type} (a b : Nat) (f : Nat → α) : xchF a b 0 f = f := by
  funext k; unfold xchF; rw [if_neg (by omega), if_neg (by omega)]
theorem xchF_step {us : List T} {ts : List T} {a b i : Nat} (h : getF us = xchF a b i (getF ts)) (hab : a + i < b) (hl : us.length = ts.length) (hb : b + i < ts.length) :
    getF (swapL us (a + i) (b + i) (by omega) (by omega)) = xchF a b (i + 1) (getF ts) := by
  funext k
  have hk : ∀ k, us[k]? = xchF a b i (getF ts) k := fun k => congrFun h k
  unfold getF
  rw [swapL_get?, ← List.getElem?_eq_getElem, ← List.getElem?_eq_getElem, hk, hk, hk]
  unfold xchF
  simp only [getF]
  by_cases h1 : k = b + i
  · subst h1
    rw [if_pos rfl, if_neg (by omega), if_neg (by omega), if_neg (by omega), if_pos (by omega)]
    congr 1; omega
  · rw [if_neg h1]
    by_cases h2 : k = a + i
    · subst h2
      rw [if_pos rfl, if_neg (by omega), if_neg (by omega), if_pos (by omega)]
      congr 1; omega
    · rw [if_neg h2]
      by_cases h3 : a ≤ k ∧ k < a + i
      · rw [if_pos h3, if_pos (by omega)]
      · rw [if_neg h3, if_neg (show ¬(a ≤ k ∧ k < a + (i + 1)) by omega)]
        by_cases h4 : b ≤ k ∧ k < b + i
        · rw [if_pos h4, if_pos (by omega)]
        · rw [if_neg h4, if_neg (by omega)]
theorem rotF_left {α : Type} {m i j : Nat} (hij : j < i) (hi : i ≤ m) (f : Nat → α) : rotF (m - (i - j)) m (m + j) (xchF (m - i) m j f) = rotF (m - i) m (m + j) f := by
  funext k
  unfold rotF
  rw [show m + j - m = j by omega]
  by_cases h1 : m - i ≤ k ∧ k < m - i + j
  · rw [if_pos h1, if_neg (by omega), if_neg (by omega)]
    unfold xchF
    rw [if_pos h1]
  · rw [if_neg h1]
    by_cases h2 : m - (i - j) ≤ k ∧ k < m - (i - j) + j
    · rw [if_pos h2, if_pos (by omega)]
      unfold xchF
      rw [if_neg (by omega), if_pos (by omega)]
      congr 1; omega
    · rw [if_neg h2]
      by_cases h3 : m - i + j ≤ k ∧ k < m + j
      · rw [if_pos h3, if_pos (by omega)]
        unfold xchF
        rw [if_neg (by omega), if_neg (by omega)]
        congr 1; omega
      · rw [if_neg h3, if_neg (by omega)]
        unfold xchF
        rw [if_neg (by omega), if_neg (by omega)]
theorem rotF_right {α : Type} {m i j : Nat} (hij : i < j) (hi : i ≤ m) (f : Nat → α) : rotF (m - i) m (m + (j - i)) (xchF (m - i) (m + j - i) i f) = rotF (m - i) m (m + j) f := by
  funext k
  unfold rotF
  rw [show m + j - m = j by omega, show m + (j - i) - m = j - i by omega]
  by_cases h1 : m - i ≤ k ∧ k < m - i + (j - i)
  · rw [if_pos h1, if_pos (by omega)]
    unfold xchF
    rw [if_neg (by omega), if_neg (by omega)]
  · rw [if_neg h1]
    by_cases h2 : m - i + (j - i) ≤ k ∧ k < m + (j - i)
    · rw [if_pos h2]
      by_cases h3 : m - i ≤ k ∧ k < m - i + j
      · rw [if_pos h3]
        unfold xchF
        rw [if_pos (by omega)]
        congr 1; omega
      · omega
    · rw [if_neg h2]
      by_cases h3 : m - i ≤ k ∧ k < m - i + j
      · omega
      · rw [if_neg h3]
        by_cases h4 : m - i + j ≤ k ∧ k < m + j
        · rw [if_pos h4]
          unfold xchF
          rw [if_neg (by omega), if_pos (by omega)]
          congr 1; omega
        · rw [if_neg h4]
          unfold xchF
          rw [if_neg (by omega), if_neg (by omega)]
theorem rotF_eq {α : Type} {m i : Nat} (hi : i ≤ m) (f : Nat → α) : xchF (m - i) m i f = rotF (m - i) m (m + i) f := by
  funext k
  unfold rotF xchF
  rw [show m + i - m = i by omega]
  by_cases h1 : m - i ≤ k ∧ k < m - i + i
  · rw [if_pos h1, if_pos h1]
  · rw [if_neg h1, if_neg h1]
    by_cases h2 : m ≤ k ∧ k < m + i
    · rw [if_pos h2, if_pos (by omega)]
      congr 1; omega
    · rw [if_neg h2, if_neg (by omega)]

theorem ex_halfN {P : Program} {N : Nat} {L : TL} {S : World → Prop} {t u : TypeId} {x y : Operand} {z : Nat} (hx : ev L x = some (.int .u64 (z : Int))) (hy : ev L y = some (.int .u64 1)) : Ex P (.binOp .shr t x y u) N L S (.int .u64 ((z / 2 : Nat) : Int)) := by
  have := ex_half (P := P) (N := N) (S := S) (t := t) (u := u) hx hy
  rwa [show ((z : Int) / 2) = ((z / 2 : Nat) : Int) by omega] at this

/-! ### In order, place by place -/
def SortedF (a b : Nat) (f : Nat → Option T) : Prop := ∀ j x y, a ≤ j → j + 1 < b → f j = some x → f (j + 1) = some y → ord x y ≤ 0
theorem sortedF_iff {a b : Nat} {us : List T} (hb : b ≤ us.length) : SortedR a b us ↔ SortedF a b (getF us) := by
  constructor
  · intro h j x y h1 h2 hx hy
    unfold getF at hx hy
    rw [List.getElem?_eq_getElem (by omega)] at hx hy
    cases hx; cases hy
    exact h j (by omega) h1 h2
  · intro h j hj h1 h2
    exact h j _ _ h1 h2 (List.getElem?_eq_getElem (by omega)) (List.getElem?_eq_getElem hj)
theorem SortedF.le {a b : Nat} {us : List T} (h : SortedF a b (getF us)) (hb : b ≤ us.length) : ∀ (d i : Nat) (x y : T), a ≤ i → i + d < b → us[i]? = some x → us[i + d]? = some y → ord x y ≤ 0
  | 0, i, x, y, _, _, hx, hy => by
    rw [Nat.add_zero] at hy
    rw [hx] at hy; cases hy
    rw [ord_self]; omega
  | d + 1, i, x, y, h1, h2, hx, hy => by
    have hz : us[i + d]? = some (us[i + d]'(by omega)) := List.getElem?_eq_getElem (by omega)
    have h3 := SortedF.le h hb d i x _ h1 (by omega) hx hz
    exact ord_le_trans h3 (h (i + d) _ _ (by omega) (by omega) hz hy)
theorem SortedF.le' {a b i j : Nat} {us : List T} {x y : T} (h : SortedF a b (getF us)) (hb : b ≤ us.length) (h1 : a ≤ i) (hij : i ≤ j) (h2 : j < b) (hx : us[i]? = some x) (hy : us[j]? = some y) : ord x y ≤ 0 :=
  h.le hb (j - i) i x y h1 (by omega) hx (by rw [show i + (j - i) = j by omega]; exact hy)
/-- The one at a stands at k now. -/
def movF {α : Type} (a k : Nat) (f : Nat → α) (x : Nat) : α := if a ≤ x ∧ x < k then f (x + 1) else if x = k then f a else f x
def movD {α : Type} (m k : Nat) (f : Nat → α) (x : Nat) : α := if x = k then f m else if k < x ∧ x ≤ m then f (x - 1) else f x
theorem movF_self {α : Type} (a : Nat) (f : Nat → α) : movF a a f = f := by
  funext x; unfold movF
  rw [if_neg (by omega)]
  split
  · rename_i h; rw [h]
  · rfl
theorem movD_self {α : Type} (m : Nat) (f : Nat → α) : movD m m f = f := by
  funext x; unfold movD
  split
  · rename_i h; rw [h]
  · rw [if_neg (by omega)]
theorem movF_step {us ts : List T} {a k : Nat} (h : getF us = movF a k (getF ts)) (hak : a ≤ k) (hl : us.length = ts.length) (hk : k + 1 < ts.length) : getF (swapL us k (k + 1) (by omega) (by omega)) = movF a (k + 1) (getF ts) := by
  funext x
  have hx : ∀ x, us[x]? = movF a k (getF ts) x := fun x => congrFun h x
  unfold getF
  rw [swapL_get?, ← List.getElem?_eq_getElem, ← List.getElem?_eq_getElem, hx, hx, hx]
  unfold movF
  simp only [getF]
  by_cases h1 : x = k + 1
  · subst h1
    rw [if_pos rfl, if_neg (show ¬(a ≤ k ∧ k < k) by omega), if_neg (show ¬(a ≤ k + 1 ∧ k + 1 < k + 1) by omega)]
    simp
  · rw [if_neg h1]
    by_cases h2 : x = k
    · subst h2
      rw [if_pos rfl, if_neg (show ¬(a ≤ x + 1 ∧ x + 1 < x) by omega), if_neg (show ¬(x + 1 = x) by omega), if_pos (show a ≤ x ∧ x < x + 1 by omega)]
    · rw [if_neg h2]
      by_cases h3 : a ≤ x ∧ x < k
      · rw [if_pos h3, if_pos (show a ≤ x ∧ x < k + 1 by omega)]
      · rw [if_neg h3, if_neg h2, if_neg (show ¬(a ≤ x ∧ x < k + 1) by omega), if_neg h1]
theorem movD_step {us ts : List T} {m k : Nat} (h : getF us = movD m k (getF ts)) (hkm : k ≤ m) (hl : us.length = ts.length) (hm : m < ts.length) (hk : 0 < k) : getF (swapL us k (k - 1) (by omega) (by omega)) = movD m (k - 1) (getF ts) := by
  funext x
  have hx : ∀ x, us[x]? = movD m k (getF ts) x := fun x => congrFun h x
  unfold getF
  rw [swapL_get?, ← List.getElem?_eq_getElem, ← List.getElem?_eq_getElem, hx, hx, hx]
  unfold movD
  simp only [getF]
  by_cases h1 : x = k - 1
  · subst h1
    rw [if_pos rfl]; simp
  · rw [if_neg h1]
    by_cases h2 : x = k
    · subst h2
      rw [if_pos rfl, if_neg (show ¬(x - 1 = x) by omega), if_neg (show ¬(x < x - 1 ∧ x - 1 ≤ m) by omega), if_neg h1, if_pos (show x - 1 < x ∧ x ≤ m by omega)]
    · rw [if_neg h2, if_neg h2, if_neg h1]
      by_cases h3 : k < x ∧ x ≤ m
      · rw [if_pos h3, if_pos (show k - 1 < x ∧ x ≤ m by omega)]
      · rw [if_neg h3, if_neg (show ¬(k - 1 < x ∧ x ≤ m) by omega)]
theorem movF_sorted {ts : List T} {a i b : Nat} {z : T} (h : SortedF (a + 1) b (getF ts)) (hb : b ≤ ts.length) (hai : a + 1 ≤ i) (hib : i ≤ b) (hz : ts[a]? = some z) (hlo : ∀ k x, a + 1 ≤ k → k < i → ts[k]? = some x → ord x z < 0) (hhi : ∀ k x, i ≤ k → k < b → ts[k]? = some x → 0 ≤ ord x z) :
    SortedF a b (movF a (i - 1) (getF ts)) := fun j x y h1 h2 hx hy => by
  unfold movF at hx hy
  simp only [getF] at hx hy
  by_cases e1 : j + 1 < i - 1
  · rw [if_pos (by omega)] at hx hy
    exact h (j + 1) x y (by omega) (by omega) hx hy
  · by_cases e2 : j + 1 = i - 1
    · rw [if_pos (by omega)] at hx
      rw [if_neg (by omega), if_pos e2, hz] at hy
      cases hy
      have := hlo (j + 1) x (by omega) (by omega) hx
      omega
    · rw [if_neg (by omega), if_neg e2] at hy
      by_cases e3 : j = i - 1
      · rw [if_neg (by omega), if_pos e3, hz] at hx
        cases hx
        have := hhi (j + 1) y (by omega) (by omega) hy
        rw [ord_neg]; omega
      · rw [if_neg (by omega), if_neg e3] at hx
        exact h j x y (by omega) (by omega) hx hy
theorem movD_sorted {ts : List T} {a i m : Nat} {z : T} (h : SortedF a m (getF ts)) (hb : m < ts.length) (hai : a ≤ i) (him : i ≤ m) (hz : ts[m]? = some z) (hlo : ∀ k x, a ≤ k → k < i → ts[k]? = some x → 0 ≤ ord z x) (hhi : ∀ k x, i ≤ k → k < m → ts[k]? = some x → ord z x < 0) :
    SortedF a (m + 1) (movD m i (getF ts)) := fun j x y h1 h2 hx hy => by
  unfold movD at hx hy
  simp only [getF] at hx hy
  by_cases e1 : j + 1 < i
  · rw [if_neg (by omega), if_neg (by omega)] at hx hy
    exact h j x y h1 (by omega) hx hy
  · by_cases e2 : j + 1 = i
    · rw [if_neg (by omega), if_neg (by omega)] at hx
      rw [if_pos e2, hz] at hy
      cases hy
      have := hlo j x h1 (by omega) hx
      rw [ord_neg]; omega
    · rw [if_neg e2] at hy
      by_cases e3 : j = i
      · rw [if_pos e3, hz] at hx
        cases hx
        rw [if_pos (by omega), Nat.add_sub_cancel] at hy
        have := hhi j y (by omega) (by omega) hy
        omega
      · rw [if_neg e3, if_pos (by omega)] at hx
        rw [if_pos (by omega), Nat.add_sub_cancel] at hy
        exact h (j - 1) x y (by omega) (by omega) hx (by rw [show j - 1 + 1 = j by omega]; exact hy)

/-! ### Two stretches, each all below the other -/
def LeAt (ts : List T) (i j : Nat) : Prop := ∃ x y, ts[i]? = some x ∧ ts[j]? = some y ∧ ord x y ≤ 0
def LtAt (ts : List T) (i j : Nat) : Prop := ∃ x y, ts[i]? = some x ∧ ts[j]? = some y ∧ ord x y < 0
def CrossF (a mid b : Nat) (f : Nat → Option T) : Prop := ∀ x y p q, a ≤ x → x < mid → mid ≤ y → y < b → f x = some p → f y = some q → ord p q ≤ 0
section
variable {ts : List T} {a m b mid start e : Nat}
theorem rot_sorted (h1 : SortedF a m (getF ts)) (h2 : SortedF m b (getF ts)) (hb : b ≤ ts.length) (q1 : a ≤ start) (q2 : start ≤ m) (q3 : m ≤ e) (q4 : e ≤ b) (q5 : mid + m = start + e) :
    SortedF a start (rotF start m e (getF ts)) ∧ SortedF start mid (rotF start m e (getF ts)) ∧ SortedF mid e (rotF start m e (getF ts)) ∧ SortedF e b (rotF start m e (getF ts)) := by
  refine ⟨fun j x y k1 k2 hx hy => ?_, fun j x y k1 k2 hx hy => ?_, fun j x y k1 k2 hx hy => ?_, fun j x y k1 k2 hx hy => ?_⟩
  · unfold rotF at hx hy
    rw [if_neg (by omega), if_neg (by omega)] at hx hy
    exact h1 j x y k1 (by omega) hx hy
  · unfold rotF at hx hy
    rw [if_pos (by omega)] at hx hy
    exact h2 (m + (j - start)) x y (by omega) (by omega) hx (by rw [show m + (j - start) + 1 = m + (j + 1 - start) by omega]; exact hy)
  · unfold rotF at hx hy
    rw [if_neg (by omega), if_pos (by omega)] at hx hy
    exact h1 (start + (j - (start + (e - m)))) x y (by omega) (by omega) hx (by rw [show start + (j - (start + (e - m))) + 1 = start + (j + 1 - (start + (e - m))) by omega]; exact hy)
  · unfold rotF at hx hy
    rw [if_neg (by omega), if_neg (by omega)] at hx hy
    exact h2 j x y (by omega) k2 hx hy
theorem rot_cross (h1 : SortedF a m (getF ts)) (h2 : SortedF m b (getF ts)) (hb : b ≤ ts.length) (q1 : a ≤ start) (q2 : start ≤ m) (q3 : m ≤ e) (q4 : e ≤ b) (q5 : mid + m = start + e) (hmb : m ≤ b)
    (hA : start = a ∨ e = b ∨ LeAt ts (start - 1) e) (hB : start = m ∨ e = m ∨ LtAt ts (e - 1) start) :
    CrossF a mid b (rotF start m e (getF ts)) := fun x y p q k1 k2 k3 k4 hp hq => by
  have hm1 : m ≤ ts.length := by omega
  unfold rotF at hp hq
  simp only [getF] at hp hq
  by_cases c1 : x < start
  · rw [if_neg (by omega), if_neg (by omega)] at hp
    by_cases c2 : y < e
    · rw [if_neg (by omega), if_pos (by omega)] at hq
      exact h1.le' hm1 k1 (by omega) (by omega) hp hq
    · rw [if_neg (by omega), if_neg (by omega)] at hq
      rcases hA with hA | hA | ⟨u, v, hu, hv, hle⟩
      · omega
      · omega
      · have s1 := h1.le' hm1 k1 (show x ≤ start - 1 by omega) (by omega) hp hu
        have s2 := h2.le' hb q3 (show e ≤ y by omega) k4 hv hq
        exact ord_le_trans (ord_le_trans s1 hle) s2
  · rw [if_pos (by omega)] at hp
    by_cases c2 : y < e
    · rw [if_neg (by omega), if_pos (by omega)] at hq
      rcases hB with hB | hB | ⟨u, v, hu, hv, hlt⟩
      · omega
      · omega
      · have s1 := h2.le' hb (show m ≤ m + (x - start) by omega) (show m + (x - start) ≤ e - 1 by omega) (by omega) hp hu
        have s2 := h1.le' hm1 q1 (show start ≤ start + (y - (start + (e - m))) by omega) (by omega) hv hq
        exact ord_le_trans (ord_le_trans s1 (by omega)) s2
    · rw [if_neg (by omega), if_neg (by omega)] at hq
      exact h2.le' hb (by omega) (by omega) k4 hp hq
end
theorem rotF_none {α : Type} {start m e : Nat} (f : Nat → α) (h : start = m ∨ e = m) (h1 : start ≤ m) (h2 : m ≤ e) : rotF start m e f = f := by
  funext k
  unfold rotF
  rcases h with h | h
  · subst h
    split
    · congr 1; omega
    · split
      · omega
      · rfl
  · subst h
    rw [if_neg (by omega)]
    split
    · congr 1; omega
    · rfl
theorem InR.seg {a b : Nat} {us ts : List T} (h : InR a b us ts) (hab : a ≤ b) : ∀ x p, a ≤ x → x < b → us[x]? = some p → ∃ y, a ≤ y ∧ y < b ∧ ts[y]? = some p := fun x p h1 h2 hp => by
  have split3 : ∀ l : List T, l = l.take a ++ ((l.drop a).take (b - a) ++ l.drop b) := fun l => by
    have e : (l.drop a).drop (b - a) = l.drop b := by rw [List.drop_drop, show a + (b - a) = b by omega]
    rw [← e, List.take_append_drop, List.take_append_drop]
  have hperm := h.2.2.2
  rw [split3 us, split3 ts, h.2.1, h.2.2.1] at hperm
  have hseg := (List.perm_append_right_iff _).1 ((List.perm_append_left_iff _).1 hperm)
  have hmem : p ∈ (us.drop a).take (b - a) := by
    refine List.mem_of_getElem? (i := x - a) ?_
    rw [List.getElem?_take, if_pos (by omega), List.getElem?_drop, show a + (x - a) = x by omega]
    exact hp
  obtain ⟨i, hi⟩ := List.mem_iff_getElem?.1 (hseg.mem_iff.1 hmem)
  rw [List.getElem?_take] at hi
  split at hi
  · rw [List.getElem?_drop] at hi
    exact ⟨a + i, by omega, by omega, hi⟩
  · cases hi
theorem cross_fin {a mid b : Nat} {us1 us2 us3 : List T} (hc : CrossF a mid b (getF us1)) (h2 : InR a mid us2 us1) (s2 : SortedR a mid us2) (h3 : InR mid b us3 us2) (s3 : SortedR mid b us3) (ham : a ≤ mid) (hmb : mid ≤ b) : SortedR a b us3 := fun j hj k1 k2 => by
  by_cases c1 : j + 1 < mid
  · rw [h3.get_lt (show j < mid by omega) (by omega), h3.get_lt c1 hj]
    exact s2 j _ k1 c1
  · by_cases c2 : mid ≤ j
    · exact s3 j hj c2 k2
    · have hl3 := h3.1
      have hl2 := h2.1
      have e1 : us3[j] = us2[j]'(by omega) := h3.get_lt (by omega) (by omega)
      obtain ⟨x, x1, x2, hx⟩ := h2.seg ham j us2[j] k1 (by omega) (List.getElem?_eq_getElem (by omega))
      obtain ⟨y, y1, y2, hy⟩ := h3.seg hmb (j + 1) us3[j + 1] (by omega) k2 (List.getElem?_eq_getElem hj)
      have hyl := (List.getElem?_eq_some_iff.1 hy).1
      have e2 := h2.get_ge y1 hyl
      have hy' : us1[y]? = some us3[j + 1] := by
        rw [List.getElem?_eq_getElem (show y < us1.length by omega), ← e2]
        rw [← hy]
        exact (List.getElem?_eq_getElem hyl).symm
      rw [e1]
      exact hc x y _ _ x1 x2 y1 y2 hx hy'
/-- Makes one ordered stretch of two that stand side by side, together shorter than n. -/
def MergeAt (P : Program) (f o e n : Nat) : Prop := ∀ {g c k : Nat} {ts : List T} {xs tl : List Value} {a m b : Nat} {σ : Hp} {w : World}, k = ts.length → b - a < n → Imm σ w → w.heap[g]? = some (rowO xs tl e) → σ g = none → RowC σ xs ts → ts.length ≤ maxKids → ts.length ≤ c →
  a < m → m < b → b ≤ ts.length → SortedR a m ts → SortedR m b ts → Calls P f #[.slice (some ⟨g, 0, none⟩) k c, .int .i64 (a : Int), .int .i64 (m : Int), .int .i64 (b : Int), .func (.func o) #[] #[]] w (GiveM g tl e σ (fun us => InR a b us ts ∧ SortedR a b us) w)

/-! ### Blocks in order -/
def BlkBelow (s k : Nat) (us : List T) : Prop := ∀ q, q < k → SortedR (s * q) (s * q + s) us
def BlkFrom (s k : Nat) (us : List T) : Prop := ∀ q, k ≤ q → SortedR (s * q) (s * q + s) us
section
variable {s k n : Nat} {us us' : List T}
theorem mul_step {s q k : Nat} (h : q < k) : s * q + s ≤ s * k := by
  have := Nat.mul_le_mul_left s (show q + 1 ≤ k from h)
  rwa [Nat.mul_add, Nat.mul_one] at this
theorem sortedR_lt {a b x y : Nat} (h : SortedR a b us) (hin : InR x y us' us) (hb : b ≤ x) : SortedR a b us' := fun j hj k1 k2 => by
  rw [hin.get_lt (show j < x by omega) (by omega), hin.get_lt (show j + 1 < x by omega) hj]
  exact h j _ k1 k2
theorem sortedR_ge {a b x y : Nat} (h : SortedR a b us) (hin : InR x y us' us) (ha : y ≤ a) : SortedR a b us' := fun j hj k1 k2 => by
  rw [hin.get_ge (show y ≤ j by omega) (by omega), hin.get_ge (show y ≤ j + 1 by omega) hj]
  exact h j _ k1 k2
theorem below_step {e : Nat} (h : BlkBelow s k us) (hin : InR (s * k) e us' us) (hs : SortedR (s * k) (s * k + s) us') : BlkBelow s (k + 1) us' := fun q hq => by
  by_cases e : q = k
  · subst e; exact hs
  · exact sortedR_lt (h q (by omega)) hin (mul_step (by omega))
theorem below_last (h : BlkBelow s k us) (hin : InR (s * k) n us' us) (hn : n = us.length) (hlt : n ≤ s * k + s) (hs : SortedR (s * k) n us') : BlkFrom s 0 us' := fun q _ => by
  have hl := hin.1
  rcases Nat.lt_trichotomy q k with h1 | h1 | h1
  · exact sortedR_lt (h q h1) hin (mul_step h1)
  · subst h1; exact fun j hj k1 k2 => hs j hj k1 (by omega)
  · have := mul_step (s := s) h1
    exact fun j hj k1 k2 => absurd hj (by omega)
theorem from_step (h : BlkFrom s (2 * k) us) (hin : InR (2 * s * k) (2 * s * k + 2 * s) us' us) : BlkFrom s (2 * (k + 1)) us' := fun q hq => by
  refine sortedR_ge (h q (by omega)) hin ?_
  have := Nat.mul_le_mul_left s hq
  have e : s * (2 * (k + 1)) = 2 * s * k + 2 * s := by rw [Nat.mul_left_comm, Nat.mul_add, Nat.mul_one, Nat.mul_add, Nat.mul_assoc]
  omega
theorem from_even (h : BlkFrom s (2 * k) us) : SortedR (2 * s * k) (2 * s * k + s) us ∧ SortedR (2 * s * k + s) (2 * s * k + 2 * s) us := by
  have e : s * (2 * k) = 2 * s * k := by rw [Nat.mul_left_comm, Nat.mul_assoc]
  have h1 := h (2 * k) (Nat.le_refl _)
  have h2 := h (2 * k + 1) (by omega)
  rw [e] at h1
  rw [Nat.mul_add, e, Nat.mul_one] at h2
  refine ⟨h1, fun j hj k1 k2 => h2 j hj k1 (by omega)⟩
theorem from_half (hb : BlkBelow (2 * s) k us) (h : BlkFrom s (2 * k) us) (hn : us.length ≤ 2 * s * k + s) : BlkFrom (2 * s) 0 us := fun q _ => by
  rcases Nat.lt_trichotomy q k with h1 | h1 | h1
  · exact hb q h1
  · subst h1; exact fun j hj k1 k2 => (from_even h).1 j hj k1 (by omega)
  · have := mul_step (s := 2 * s) h1
    exact fun j hj k1 k2 => absurd hj (by omega)
theorem from_all (h : BlkFrom s 0 us) (hn : us.length ≤ s) : SortedR 0 us.length us := fun j hj k1 k2 => h 0 (Nat.le_refl _) j hj (by omega) (by omega)
end
end Go.Proofs.YtnjomdjkbbhdoaaDoor
