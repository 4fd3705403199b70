/-
  What a term is, written out: no two terms are written alike. A table of terms, and what it comes to. Plain Lean: no program, no memory.
  No condition.
-/
import Derived.Test.YtnjomdjkbbhdoaaDoorPow
import Derived.Lib.ItoaNum
import Derived.Lib.ItoaLen
namespace Go.Proofs.YtnjomdjkbbhdoaaDoor
open Go.Lib
set_option linter.unusedVariables false

theorem comma_split : ∀ {a b r s : List UInt8}, (∀ x ∈ a, x ≠ 44) → (∀ x ∈ b, x ≠ 44) → a ++ 44 :: r = b ++ 44 :: s → a = b ∧ r = s
  | [], [], r, s, _, _, h => by simpa using h
  | [], y :: b, r, s, _, hb, h => by
    simp only [List.nil_append, List.cons_append, List.cons.injEq] at h
    exact absurd h.1.symm (hb y (by simp))
  | x :: a, [], r, s, ha, _, h => by
    simp only [List.nil_append, List.cons_append, List.cons.injEq] at h
    exact absurd h.1 (ha x (by simp))
  | x :: a, y :: b, r, s, ha, hb, h => by
    simp only [List.cons_append, List.cons.injEq] at h
    obtain ⟨rfl, h⟩ := h
    obtain ⟨rfl, rfl⟩ := comma_split (fun z hz => ha z (List.mem_cons_of_mem _ hz)) (fun z hz => hb z (List.mem_cons_of_mem _ hz)) h
    exact ⟨rfl, rfl⟩

def valD (l : List UInt8) : Nat := l.foldl (fun a d => 10 * a + (d.toNat - 48)) 0
theorem valD_snoc (l : List UInt8) (d : UInt8) : valD (l ++ [d]) = 10 * valD l + (d.toNat - 48) := by simp [valD, List.foldl_append]
theorem dig_nat {k : Nat} (h : k < 10) : (UInt8.ofNat (48 + k)).toNat = 48 + k := by
  rw [UInt8.toNat_ofNat']; omega
theorem dec_digs : ∀ u, valD (decDigits u) = u ∧ ∀ x ∈ decDigits u, 48 ≤ x.toNat := by
  intro u
  induction u using Nat.strongRecOn with
  | _ u ih =>
    rw [decDigits]
    split
    · rename_i h
      refine ⟨?_, fun x hx => ?_⟩
      · simp only [valD, List.foldl_cons, List.foldl_nil, dig_nat h]; omega
      · simp only [List.mem_singleton] at hx
        subst hx
        rw [dig_nat h]; omega
    · rename_i h
      obtain ⟨h1, h2⟩ := ih (u / 10) (by omega)
      have hd := dig_nat (Nat.mod_lt u (show 0 < 10 by decide))
      refine ⟨?_, fun x hx => ?_⟩
      · rw [valD_snoc, h1, hd]; omega
      · rcases List.mem_append.1 hx with hx | hx
        · exact h2 x hx
        · simp only [List.mem_singleton] at hx
          subst hx
          rw [hd]; omega
theorem itoa_no44 (n : Int) : ∀ x ∈ itoa n, x ≠ 44 := by
  intro x hx e
  subst e
  unfold itoa at hx
  split at hx
  · rcases List.mem_cons.1 hx with hx | hx
    · exact absurd hx (by decide)
    · have := (dec_digs _).2 _ hx
      exact absurd this (by decide)
  · have := (dec_digs _).2 _ hx
    exact absurd this (by decide)
theorem decDigits_ne (u : Nat) : decDigits u ≠ [] := by
  rw [decDigits]; split <;> simp
theorem itoa_inj {a b : Int} (h : itoa a = itoa b) : a = b := by
  unfold itoa at h
  have key : ∀ (u : Nat) (r : List UInt8), decDigits u ≠ 45 :: r := fun u r e => by
    have := (dec_digs u).2 45 (by rw [e]; simp)
    exact absurd this (by decide)
  split at h <;> split at h
  · simp only [List.cons.injEq, true_and] at h
    have := congrArg valD h
    rw [(dec_digs _).1, (dec_digs _).1] at this
    omega
  · exact absurd h.symm (key _ _)
  · exact absurd h (key _ _)
  · have := congrArg valD h
    rw [(dec_digs _).1, (dec_digs _).1] at this
    omega

/-! ## What a term is, written out -/
def headB (o n : Int) (d k : Nat) : List UInt8 := itoa o ++ 44 :: (itoa n ++ 44 :: (itoa (d : Int) ++ 44 :: (itoa (k : Int) ++ [44])))
mutual
def keyB : T → List UInt8
  | .mk o n d ks => headB o n d.length ks.length ++ (d ++ keysB ks)
def keysB : List T → List UInt8
  | [] => []
  | k :: r => keyB k ++ keysB r
end
theorem headB_split {o n o' n' : Int} {d k d' k' : Nat} {r s : List UInt8} (h : headB o n d k ++ r = headB o' n' d' k' ++ s) : o = o' ∧ n = n' ∧ d = d' ∧ k = k' ∧ r = s := by
  unfold headB at h
  simp only [List.append_assoc, List.cons_append, List.nil_append] at h
  obtain ⟨h1, h⟩ := comma_split (itoa_no44 _) (itoa_no44 _) h
  obtain ⟨h2, h⟩ := comma_split (itoa_no44 _) (itoa_no44 _) h
  obtain ⟨h3, h⟩ := comma_split (itoa_no44 _) (itoa_no44 _) h
  obtain ⟨h4, h⟩ := comma_split (itoa_no44 _) (itoa_no44 _) h
  have e3 := itoa_inj h3
  have e4 := itoa_inj h4
  exact ⟨itoa_inj h1, itoa_inj h2, by omega, by omega, h⟩
mutual
theorem keyB_split : ∀ {t u : T} {r s : List UInt8}, keyB t ++ r = keyB u ++ s → t = u ∧ r = s
  | .mk o n d ks, .mk o' n' d' ks', r, s, h => by
    simp only [keyB, List.append_assoc] at h
    obtain ⟨rfl, rfl, h3, h4, h⟩ := headB_split h
    obtain ⟨e5, h5⟩ := List.append_inj h h3
    subst e5
    obtain ⟨e6, e7⟩ := keysB_split h4 h5
    subst e6 e7
    exact ⟨rfl, rfl⟩
theorem keysB_split : ∀ {ks ls : List T} {r s : List UInt8}, ks.length = ls.length → keysB ks ++ r = keysB ls ++ s → ks = ls ∧ r = s
  | [], [], r, s, _, h => by simpa [keysB] using h
  | [], _ :: _, _, _, h, _ => by simp at h
  | _ :: _, [], _, _, h, _ => by simp at h
  | k :: ks, l :: ls, r, s, hl, h => by
    simp only [keysB, List.append_assoc] at h
    obtain ⟨e5, h5⟩ := keyB_split h
    obtain ⟨e6, e7⟩ := keysB_split (by simpa using hl) h5
    subst e5 e6 e7
    exact ⟨rfl, rfl⟩
end
theorem keyB_inj {t u : T} (h : keyB t = keyB u) : t = u := (keyB_split (r := []) (s := []) (by rw [h])).1
theorem keysB_app : ∀ (a b : List T), keysB (a ++ b) = keysB a ++ keysB b
  | [], b => rfl
  | k :: r, b => by simp [keysB, keysB_app r b]
theorem keysB_take (ks : List T) (i : Nat) (h : i < ks.length) : keysB (ks.take (i + 1)) = keysB (ks.take i) ++ keyB ks[i] := by
  rw [List.take_succ_eq_append_getElem h, keysB_app]; simp [keysB]
theorem keysB_take_le (ks : List T) (i : Nat) : (keysB (ks.take i)).length ≤ (keysB ks).length := by
  have := keysB_app (ks.take i) (ks.drop i)
  rw [List.take_append_drop] at this
  rw [this, List.length_append]; omega
theorem itoa_len {n : Int} (h : -9223372036854775808 ≤ n ∧ n ≤ 9223372036854775807) : (itoa n).length ≤ 21 := itoa_length_le n h.1 h.2
theorem headB_len {o n : Int} {d k : Nat} (ho : -9223372036854775808 ≤ o ∧ o ≤ 9223372036854775807) (hn : -9223372036854775808 ≤ n ∧ n ≤ 9223372036854775807) (hd : d ≤ 9223372036854775807) (hk : k ≤ 9223372036854775807) : (headB o n d k).length ≤ 88 := by
  unfold headB
  have h1 := itoa_len ho
  have h2 := itoa_len hn
  have h3 := itoa_len (n := (d : Int)) (by omega)
  have h4 := itoa_len (n := (k : Int)) (by omega)
  simp only [List.length_append, List.length_cons, List.length_nil]
  omega
/-- The most bytes of a right term, written out, that lies in so many less than 16. -/
def mostB : Nat → Nat
  | 0 => 0
  | n + 1 => 8280 + 4 * mostB n
theorem mostB_16 : mostB 16 ≤ 17592186044416 := by decide
theorem mostB_mono (a b : Nat) : mostB a ≤ mostB (a + b) := by
  induction a generalizing b with
  | zero => simp [mostB]
  | succ a ih =>
    have := ih b
    rw [show a + 1 + b = (a + b) + 1 by omega]
    simp only [mostB]; omega
theorem shape_data {o n : Int} {d : List UInt8} {ks : List T} (h : shape o n d ks = true) : d.length ≤ 8192 ∧ (-9223372036854775808 ≤ o ∧ o ≤ 9223372036854775807) ∧ (-9223372036854775808 ≤ n ∧ n ≤ 9223372036854775807) := by
  unfold shape at h
  simp only [Bool.and_eq_true, Bool.or_eq_true, decide_eq_true_eq] at h
  by_cases ho : o = 1
  · subst ho; simp at h; omega
  · omega
theorem keysB_len {B : Nat} : ∀ {ks : List T}, (∀ k ∈ ks, (keyB k).length ≤ B) → (keysB ks).length ≤ ks.length * B
  | [], _ => by simp [keysB]
  | k :: r, h => by
    have h1 := h k (by simp)
    have h2 := keysB_len (B := B) (ks := r) (fun x hx => h x (List.mem_cons_of_mem _ hx))
    simp only [keysB, List.length_append, List.length_cons, Nat.add_mul]
    omega
theorem rightD_key : ∀ (t : T) {dp : Nat}, rightD t dp = true → (keyB t).length ≤ mostB (16 - dp) := by
  intro t
  induction t using T.ind with
  | _ o n d ks ih =>
    intro dp h
    rw [rightD_mk] at h
    simp only [Bool.and_eq_true, decide_eq_true_eq] at h
    obtain ⟨⟨⟨h1, h2⟩, h3⟩, h4⟩ := h
    obtain ⟨hd, ho, hn⟩ := shape_data h2
    have hk := shape_kids h2
    have hb : ∀ k ∈ ks, (keyB k).length ≤ mostB (16 - (dp + 1)) := fun k hm => by
      obtain ⟨i, hi, rfl⟩ := List.mem_iff_getElem.1 hm
      exact ih _ hm (rightsD_iff.1 h3 i hi)
    have hks := keysB_len hb
    have hm : ks.length * mostB (16 - (dp + 1)) ≤ 4 * mostB (16 - (dp + 1)) := Nat.mul_le_mul_right _ hk
    have hh := headB_len (d := d.length) (k := ks.length) ho hn (by omega) (by omega)
    rw [show 16 - dp = (16 - (dp + 1)) + 1 by omega]
    simp only [keyB, List.length_append, mostB]
    omega
/-- What may be written out. -/
def maxKey : Nat := 17592186044416
theorem right_key {t : T} (h : right t = true) : (keyB t).length ≤ maxKey := Nat.le_trans (rightD_key t h) mostB_16
end Go.Proofs.YtnjomdjkbbhdoaaDoor
