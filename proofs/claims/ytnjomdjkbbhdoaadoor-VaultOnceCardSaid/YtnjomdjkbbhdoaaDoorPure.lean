/-
  Terms as trees, and what is reckoned of them: the order, sizes, which are right, powers in order. Plain Lean: no program, no memory.
  No condition.
-/
namespace Go.Proofs.YtnjomdjkbbhdoaaDoor
set_option linter.unusedVariables false

inductive T where
  | mk (op num : Int) (data : List UInt8) (kids : List T)

namespace T
def op : T → Int | mk o _ _ _ => o
def num : T → Int | mk _ n _ _ => n
def data : T → List UInt8 | mk _ _ d _ => d
def kids : T → List T | mk _ _ _ k => k
theorem eta (t : T) : t = mk t.op t.num t.data t.kids := by cases t; rfl

theorem ind {p : T → Prop} (h : ∀ o n d ks, (∀ k, k ∈ ks → p k) → p (mk o n d ks)) : ∀ t, p t
  | mk o n d ks => h o n d ks (fun k hk => ind h k)
termination_by t => sizeOf t
decreasing_by
  have := List.sizeOf_lt_of_mem hk
  simp only [mk.sizeOf_spec]
  omega
end T

/-! ## The order -/
def cmpI (a b : Int) : Int := if a < b then -1 else if b < a then 1 else 0
def cmpB : List UInt8 → List UInt8 → Int
  | [], [] => 0
  | [], _ :: _ => -1
  | _ :: _, [] => 1
  | a :: r, b :: s => if a < b then -1 else if b < a then 1 else cmpB r s
/-- The first that is not 0. -/
def lex (x y : Int) : Int := if x = 0 then y else x
mutual
def ord : T → T → Int
  | .mk o n d ks, u => lex (cmpI o u.op) (lex (cmpI n u.num) (lex (cmpB d u.data) (ords ks u.kids)))
def ords : List T → List T → Int
  | [], [] => 0
  | [], _ :: _ => -1
  | _ :: _, [] => 1
  | a :: r, b :: s => lex (ord a b) (ords r s)
end
theorem lex_zero {x y : Int} : lex x y = 0 ↔ x = 0 ∧ y = 0 := by unfold lex; split <;> simp_all
theorem lex_m {x y : Int} : lex x y = -1 ↔ x = -1 ∨ (x = 0 ∧ y = -1) := by
  unfold lex; split
  · rename_i h; subst h; simp
  · rename_i h; simp [h]
theorem lex_neg (x y : Int) : lex (-x) (-y) = - lex x y := by unfold lex; split <;> split <;> omega
theorem lex_of0 {x y : Int} (h : x = 0) : lex x y = y := by simp [lex, h]
theorem lex_ne {x y : Int} (h : x ≠ 0) : lex x y = x := by simp [lex, h]

/-- Three values, and what they are told by. -/
def Tri (n : Int) : Prop := n = -1 ∨ n = 0 ∨ n = 1
theorem cmpI_tri (a b : Int) : Tri (cmpI a b) := by unfold cmpI Tri; split; exact .inl rfl; split; exact .inr (.inr rfl); exact .inr (.inl rfl)
theorem cmpB_tri : ∀ a b, Tri (cmpB a b)
  | [], [] => .inr (.inl rfl)
  | [], _ :: _ => .inl rfl
  | _ :: _, [] => .inr (.inr rfl)
  | a :: r, b :: s => by
    unfold cmpB; split; exact .inl rfl; split; exact .inr (.inr rfl); exact cmpB_tri r s
theorem lex_tri {x y : Int} (h : Tri x) (k : Tri y) : Tri (lex x y) := by unfold lex; split; exact k; exact h
mutual
theorem ord_tri : ∀ a b, Tri (ord a b)
  | .mk o n d ks, u => by unfold ord; exact lex_tri (cmpI_tri _ _) (lex_tri (cmpI_tri _ _) (lex_tri (cmpB_tri _ _) (ords_tri _ _)))
theorem ords_tri : ∀ a b, Tri (ords a b)
  | [], [] => .inr (.inl rfl)
  | [], _ :: _ => .inl rfl
  | _ :: _, [] => .inr (.inr rfl)
  | a :: r, b :: s => by unfold ords; exact lex_tri (ord_tri _ _) (ords_tri _ _)
end

theorem cmpI_zero {a b : Int} : cmpI a b = 0 ↔ a = b := by unfold cmpI; split <;> (try split) <;> omega
theorem cmpI_neg (a b : Int) : cmpI a b = - cmpI b a := by unfold cmpI; split <;> split <;> (try split) <;> omega
theorem cmpI_lt {a b : Int} : cmpI a b = -1 ↔ a < b := by unfold cmpI; split <;> (try split) <;> omega
theorem u8_cases (a b : UInt8) : a < b ∨ a = b ∨ b < a := by
  rcases Nat.lt_trichotomy a.toNat b.toNat with h | h | h
  · exact .inl (UInt8.lt_iff_toNat_lt.2 h)
  · exact .inr (.inl (UInt8.toNat_inj.1 h))
  · exact .inr (.inr (UInt8.lt_iff_toNat_lt.2 h))
theorem u8_irrefl (a : UInt8) : ¬ a < a := fun h => Nat.lt_irrefl _ (UInt8.lt_iff_toNat_lt.1 h)
theorem u8_asymm {a b : UInt8} (h : a < b) : ¬ b < a := fun k => Nat.lt_asymm (UInt8.lt_iff_toNat_lt.1 h) (UInt8.lt_iff_toNat_lt.1 k)
theorem u8_trans {a b c : UInt8} (h : a < b) (k : b < c) : a < c := UInt8.lt_iff_toNat_lt.2 (Nat.lt_trans (UInt8.lt_iff_toNat_lt.1 h) (UInt8.lt_iff_toNat_lt.1 k))

theorem cmpB_zero : ∀ {a b : List UInt8}, cmpB a b = 0 ↔ a = b
  | [], [] => by simp [cmpB]
  | [], _ :: _ => by simp [cmpB]
  | _ :: _, [] => by simp [cmpB]
  | a :: r, b :: s => by
    unfold cmpB
    rcases u8_cases a b with h | h | h
    · rw [if_pos h]; simp; rintro rfl; exact absurd h (u8_irrefl a)
    · subst h; rw [if_neg (u8_irrefl a), if_neg (u8_irrefl a), cmpB_zero]; simp
    · rw [if_neg (u8_asymm h), if_pos h]; simp; rintro rfl; exact absurd h (u8_irrefl a)
theorem cmpB_neg : ∀ (a b : List UInt8), cmpB a b = - cmpB b a
  | [], [] => rfl
  | [], _ :: _ => rfl
  | _ :: _, [] => rfl
  | a :: r, b :: s => by
    unfold cmpB
    rcases u8_cases a b with h | h | h
    · rw [if_pos h, if_neg (u8_asymm h), if_pos h]
    · subst h; rw [if_neg (u8_irrefl a), if_neg (u8_irrefl a), if_neg (u8_irrefl a), if_neg (u8_irrefl a)]; exact cmpB_neg r s
    · rw [if_neg (u8_asymm h), if_pos h, if_pos h]; rfl
theorem cmpB_self (a : List UInt8) : cmpB a a = 0 := cmpB_zero.2 rfl
theorem cmpB_trans : ∀ {a b c : List UInt8}, cmpB a b = -1 → cmpB b c = -1 → cmpB a c = -1
  | [], [], _, h, _ => by simp [cmpB] at h
  | [], _ :: _, [], _, k => by simp [cmpB] at k
  | [], _ :: _, _ :: _, _, _ => rfl
  | _ :: _, [], _, h, _ => by simp [cmpB] at h
  | _ :: _, _ :: _, [], _, k => by simp [cmpB] at k
  | a :: r, b :: s, c :: t, h, k => by
    unfold cmpB at h k ⊢
    rcases u8_cases a b with e | e | e
    · rcases u8_cases b c with e' | e' | e'
      · rw [if_pos (u8_trans e e')]
      · subst e'; rw [if_pos e]
      · rw [if_neg (u8_asymm e'), if_pos e'] at k; simp at k
    · subst e
      rw [if_neg (u8_irrefl a), if_neg (u8_irrefl a)] at h
      rcases u8_cases a c with e' | e' | e'
      · rw [if_pos e']
      · subst e'
        rw [if_neg (u8_irrefl a), if_neg (u8_irrefl a)] at k ⊢
        exact cmpB_trans h k
      · rw [if_neg (u8_asymm e'), if_pos e'] at k; simp at k
    · rw [if_neg (u8_asymm e), if_pos e] at h; simp at h

mutual
theorem ord_zero : ∀ {a b : T}, ord a b = 0 ↔ a = b
  | .mk o n d ks, .mk o' n' d' ks' => by
    unfold ord
    rw [lex_zero, lex_zero, lex_zero, cmpI_zero, cmpI_zero, cmpB_zero, ords_zero]
    simp only [T.op, T.num, T.data, T.kids, T.mk.injEq]
theorem ords_zero : ∀ {a b : List T}, ords a b = 0 ↔ a = b
  | [], [] => by simp [ords]
  | [], _ :: _ => by simp [ords]
  | _ :: _, [] => by simp [ords]
  | a :: r, b :: s => by
    unfold ords
    rw [lex_zero, ord_zero, ords_zero]
    simp
end
theorem ord_self (a : T) : ord a a = 0 := ord_zero.2 rfl
mutual
theorem ord_neg : ∀ (a b : T), ord a b = - ord b a
  | .mk o n d ks, .mk o' n' d' ks' => by
    unfold ord
    simp only [T.op, T.num, T.data, T.kids]
    rw [cmpI_neg o o', cmpI_neg n n', cmpB_neg d d', ords_neg ks ks', lex_neg, lex_neg, lex_neg]
theorem ords_neg : ∀ (a b : List T), ords a b = - ords b a
  | [], [] => rfl
  | [], _ :: _ => rfl
  | _ :: _, [] => rfl
  | a :: r, b :: s => by
    unfold ords
    rw [ord_neg a b, ords_neg r s, lex_neg]
end
theorem cmpI_trans {a b c : Int} (h : cmpI a b = -1) (k : cmpI b c = -1) : cmpI a c = -1 := cmpI_lt.2 (by have := cmpI_lt.1 h; have := cmpI_lt.1 k; omega)
/-- One level of a transitive comparing. -/
theorem lex_trans {α : Type} {f : α → α → Int} (hz : ∀ {a b}, f a b = 0 ↔ a = b) {a b c : α} (ht : f a b = -1 → f b c = -1 → f a c = -1) {x y z : Int} (hr : x = -1 → y = -1 → z = -1)
    (h : lex (f a b) x = -1) (k : lex (f b c) y = -1) : lex (f a c) z = -1 := by
  rcases lex_m.1 h with h1 | ⟨h1, h2⟩ <;> rcases lex_m.1 k with k1 | ⟨k1, k2⟩
  · exact lex_m.2 (.inl (ht h1 k1))
  · rw [← hz.1 k1]; exact lex_m.2 (.inl h1)
  · rw [hz.1 h1]; exact lex_m.2 (.inl k1)
  · exact lex_m.2 (.inr ⟨by rw [hz.1 h1]; exact k1, hr h2 k2⟩)
mutual
theorem ord_trans : ∀ {a b c : T}, ord a b = -1 → ord b c = -1 → ord a c = -1
  | .mk o n d ks, .mk o' n' d' ks', .mk o'' n'' d'' ks'', h, k => by
    unfold ord at h k ⊢
    simp only [T.op, T.num, T.data, T.kids] at h k ⊢
    exact lex_trans cmpI_zero cmpI_trans (fun h k => lex_trans cmpI_zero cmpI_trans (fun h k => lex_trans cmpB_zero cmpB_trans (fun h k => ords_trans h k) h k) h k) h k
theorem ords_trans : ∀ {a b c : List T}, ords a b = -1 → ords b c = -1 → ords a c = -1
  | [], [], _, h, _ => by simp [ords] at h
  | [], _ :: _, [], _, k => by simp [ords] at k
  | [], _ :: _, _ :: _, _, _ => rfl
  | _ :: _, [], _, h, _ => by simp [ords] at h
  | _ :: _, _ :: _, [], _, k => by simp [ords] at k
  | a :: r, b :: s, c :: t, h, k => by
    unfold ords at h k ⊢
    exact lex_trans ord_zero (fun h k => ord_trans h k) (fun h k => ords_trans h k) h k
end
theorem ord_le_trans {a b c : T} (h : ord a b ≤ 0) (k : ord b c ≤ 0) : ord a c ≤ 0 := by
  rcases ord_tri a b with h1 | h1 | h1
  · rcases ord_tri b c with k1 | k1 | k1
    · have := ord_trans h1 k1; omega
    · rw [← ord_zero.1 k1]; exact h
    · omega
  · rw [ord_zero.1 h1]; exact k
  · omega
theorem ord_lt_le_trans {a b c : T} (h : ord a b < 0) (k : ord b c ≤ 0) : ord a c < 0 := by
  rcases ord_tri a b with h1 | h1 | h1
  · rcases ord_tri b c with k1 | k1 | k1
    · have := ord_trans h1 k1; omega
    · rw [← ord_zero.1 k1]; exact h
    · omega
  · omega
  · omega

/-! ## Sizes -/
mutual
def size : T → Nat
  | .mk _ _ _ ks => sizes ks + 1
def sizes : List T → Nat
  | [] => 0
  | t :: r => size t + sizes r
end
theorem sizes_append : ∀ (a b : List T), sizes (a ++ b) = sizes a + sizes b
  | [], b => by simp [sizes]
  | t :: r, b => by simp [sizes, sizes_append r b]; omega
theorem size_pos (t : T) : 0 < size t := by cases t; simp [size]
theorem size_kid {k : T} : ∀ {ks : List T}, k ∈ ks → size k ≤ sizes ks
  | t :: r, h => by
    rcases List.mem_cons.1 h with rfl | h
    · simp [sizes]
    · have := size_kid h; simp [sizes]; omega
theorem length_le_sizes : ∀ (ks : List T), ks.length ≤ sizes ks
  | [] => by simp
  | t :: r => by have := length_le_sizes r; have := size_pos t; simp [sizes]; omega

/-! ## Which are right -/
def maxMsg : Nat := 8192
def maxAtom : Int := 1099511627776
def sorted : List T → Bool
  | [] => true
  | a :: r => (match r with
    | [] => true
    | b :: _ => decide (ord a b ≤ 0)) && sorted r
/-- What is asked of a term but for its Kids' own rightness. -/
def shape (o n : Int) (d : List UInt8) (ks : List T) : Bool :=
  decide (d.length ≤ 8192) && decide (0 ≤ n ∧ n ≤ 1099511627776) && (decide (n = 0) || decide (o = 1)) && (decide (d.length = 0) || decide (o = 3 ∨ o = 4 ∨ o = 5 ∨ o = 6)) &&
    decide (1 ≤ o ∧ o ≤ 7) && (if o = 1 ∨ o = 5 then decide (ks.length = 0) else if o = 7 then decide (ks.length ≤ 4) else decide (ks.length = 1))
mutual
def rightD : T → Nat → Bool
  | .mk o n d ks, deep => decide (deep < 16) && shape o n d ks && rightsD ks (deep + 1) && sorted ks
def rightsD : List T → Nat → Bool
  | [], _ => true
  | k :: r, deep => rightD k deep && rightsD r deep
end
def right (t : T) : Bool := rightD t 0

theorem rightD_mk (o n : Int) (d : List UInt8) (ks : List T) (deep : Nat) : rightD (.mk o n d ks) deep = (decide (deep < 16) && shape o n d ks && rightsD ks (deep + 1) && sorted ks) := by rw [rightD]
theorem rightsD_iff : ∀ {ks : List T} {dp : Nat}, rightsD ks dp = true ↔ ∀ i (h : i < ks.length), rightD ks[i] dp = true
  | [], dp => by simp [rightsD]
  | k :: r, dp => by
    simp only [rightsD, Bool.and_eq_true]
    rw [rightsD_iff]
    constructor
    · rintro ⟨h1, h2⟩ i hi
      cases i with
      | zero => exact h1
      | succ n => exact h2 n (by simpa using hi)
    · intro h
      exact ⟨h 0 (by simp), fun i hi => h (i + 1) (by simpa using hi)⟩
theorem sorted_iff : ∀ {ks : List T}, sorted ks = true ↔ ∀ i (h : i + 1 < ks.length), ord ks[i] ks[i + 1] ≤ 0
  | [] => by simp [sorted]
  | [a] => by simp [sorted]
  | a :: b :: r => by
    have ih := sorted_iff (ks := b :: r)
    simp only [sorted, Bool.and_eq_true, decide_eq_true_eq] at ih ⊢
    rw [ih]
    constructor
    · rintro ⟨h1, h2⟩ i hi
      cases i with
      | zero => exact h1
      | succ n => exact h2 n (by simpa using hi)
    · intro h
      exact ⟨h 0 (by simp), fun i hi => h (i + 1) (by simpa using hi)⟩

theorem right_shape {t : T} (h : right t = true) : shape t.op t.num t.data t.kids = true ∧ rightsD t.kids 1 = true ∧ sorted t.kids = true := by
  obtain ⟨o, n, d, ks⟩ := t
  unfold right at h
  rw [rightD_mk] at h
  simp only [Bool.and_eq_true] at h
  exact ⟨h.1.1.2, h.1.2, h.2⟩
theorem right_exps {t : T} (h : right t = true) (ho : t.op = 7) : t.kids.length ≤ 4 := by
  have := (right_shape h).1
  unfold shape at this
  simp [ho] at this
  exact this.2

/-! ## Powers in order -/
def zeroT : T := .mk 0 0 [] []
/-- Behind those that are alike. -/
def put : List T → T → List T
  | [], x => [x]
  | a :: r, x => if ord a x ≤ 0 then a :: put r x else x :: a :: r
/-- Where it goes in, looked for from behind. -/
def backAt (ks : List T) (x : T) : Nat → Nat
  | 0 => 0
  | n + 1 => if 0 < ord (ks.getD n zeroT) x then backAt ks x n else n + 1
def putB (ks : List T) (x : T) : List T := ks.take (backAt ks x ks.length) ++ x :: ks.drop (backAt ks x ks.length)
def sortB : List T → List T → List T
  | acc, [] => acc
  | acc, k :: r => sortB (putB acc k) r
mutual
def norm : T → T
  | .mk o n d ks => .mk o n d (if o = 7 then sortB [] (norms ks) else norms ks)
def norms : List T → List T
  | [] => []
  | k :: r => norm k :: norms r
end
def powT (t x : T) : T := .mk 7 0 [] (putB t.kids x)
def pow (t x : T) : T × Bool :=
  if right t = true ∧ right x = true ∧ t.op = 7 ∧ right (powT t x) = true then (powT t x, true) else (zeroT, false)
end Go.Proofs.YtnjomdjkbbhdoaaDoor
