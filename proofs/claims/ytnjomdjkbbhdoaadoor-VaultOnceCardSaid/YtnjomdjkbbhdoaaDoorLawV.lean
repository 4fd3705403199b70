/-
  The laws of a table of terms, in plain Lean.
  No condition.
-/
import Derived.Test.YtnjomdjkbbhdoaaDoorTable
namespace Go.Proofs.YtnjomdjkbbhdoaaDoor
set_option linter.unusedVariables false

theorem putVs_right {ks ts : List T} : ts.length ≤ (putVs ks ts).length := putVs_grow ks ts
theorem putV_len_new {t : T} {ts : List T} (h : ¬ 0 ≤ posT ts t) : (putV t ts).length = (putVs t.kids ts).length + 1 := by
  rw [putV_mk, if_neg h]; simp
/-- What putting a term in does to how many there are. -/
theorem intern_facts {ts : List T} {t : T} : (ts.length : Int) ≤ (intern ts t).2.2.length ∧ ((intern ts t).2.2.length : Int) - ts.length ≤ size t ∧
    ((0 ≤ posT ts t ∨ (intern ts t).2.1 ≠ 0) → ((intern ts t).2.2.length : Int) = ts.length) ∧
    ((¬ 0 ≤ posT ts t ∧ (intern ts t).2.1 = 0) → (ts.length : Int) + 1 ≤ (intern ts t).2.2.length ∧ (intern ts t).1 = ((intern ts t).2.2.length : Int) - 1) ∧
    ((intern ts t).2.1 ≠ 0 ↔ (intern ts t).1 = -1) := by
  have hs := size_pos t
  have hg := posT_ge ts t
  unfold intern
  by_cases hr : right t = true
  · rw [if_pos hr]
    by_cases hp : 0 ≤ posT ts t
    · rw [if_pos hp]
      simp only
      exact ⟨by omega, by omega, fun _ => by first | trivial | rfl, fun h => absurd hp h.1, by first | omega | simp⟩
    · rw [if_neg hp]
      by_cases hl : 4096 < ts.length + size t
      · rw [if_pos hl]
        simp only
        exact ⟨by omega, by omega, fun _ => by first | trivial | rfl, fun h => absurd h.2 (by decide), by first | omega | simp⟩
      · rw [if_neg hl]
        obtain ⟨es, e1, e2, _⟩ := putV_ext t ts
        have e3 := putV_len_new hp
        have e4 := putVs_grow t.kids ts
        have e5 : (putV t ts).length = ts.length + es.length := by rw [e1]; simp
        have e6 : numV t ts = ((putVs t.kids ts).length : Int) := by unfold numV; rw [if_neg hp]
        simp only [e6]
        exact ⟨by omega, by omega, fun h => by omega, fun _ => by omega, by first | omega | simp⟩
  · rw [if_neg hr]
    simp only
    exact ⟨by omega, by omega, fun _ => by first | trivial | rfl, fun h => absurd h.2 (by decide), by first | omega | simp⟩
theorem intern_again (ts : List T) (t : T) : intern (intern ts t).2.2 t = intern ts t := by
  by_cases hr : right t = true
  · by_cases hp : 0 ≤ posT ts t
    · have e : intern ts t = (posT ts t, 0, ts) := by unfold intern; rw [if_pos hr, if_pos hp]
      rw [e]; exact e
    · by_cases hl : 4096 < ts.length + size t
      · have e : intern ts t = (-1, 2, ts) := by unfold intern; rw [if_pos hr, if_neg hp, if_pos hl]
        rw [e]; exact e
      · have e : intern ts t = (numV t ts, 0, putV t ts) := by unfold intern; rw [if_pos hr, if_neg hp, if_neg hl]
        rw [e]
        have h0 : 0 ≤ posT (putV t ts) t := posT_iff.2 (mem_putV t ts)
        unfold intern
        simp only
        rw [if_pos hr, if_pos h0, numV_is]
  · have e : intern ts t = (-1, 51, ts) := by unfold intern; rw [if_neg hr]
    rw [e]; exact e
/-- Behind a term that was put in: its number is its place. -/
theorem intern_pos {ts : List T} {t : T} (h : (intern ts t).2.1 = 0) : (intern ts t).1 = posT (intern ts t).2.2 t ∧ 0 ≤ posT (intern ts t).2.2 t ∧ right t = true := by
  unfold intern at h ⊢
  by_cases hr : right t = true
  · rw [if_pos hr] at h ⊢
    by_cases hp : 0 ≤ posT ts t
    · rw [if_pos hp]; exact ⟨rfl, hp, hr⟩
    · rw [if_neg hp] at h ⊢
      by_cases hl : 4096 < ts.length + size t
      · rw [if_pos hl] at h; exact absurd (show (2 : Int) = 0 from h) (by decide)
      · rw [if_neg hl]
        exact ⟨(numV_is t ts).symm, posT_iff.2 (mem_putV t ts), hr⟩
  · rw [if_neg hr] at h; exact absurd (show (51 : Int) = 0 from h) (by decide)
theorem intern_ext (ts : List T) (t : T) : ∃ es, (intern ts t).2.2 = ts ++ es := by
  unfold intern
  split
  · split
    · exact ⟨[], by simp⟩
    · split
      · exact ⟨[], by simp⟩
      · obtain ⟨es, e, _⟩ := putV_ext t ts
        exact ⟨es, e⟩
  · exact ⟨[], by simp⟩
/-- Numbers that were answered, against the table as it stands. -/
def NumsOK (ls ts : List T) (nums : List Int) : Prop := ∀ j (h : j < nums.length) (h' : j < ls.length), nums[j] = -1 ∨ (0 ≤ posT ts ls[j] ∧ nums[j] = posT ts ls[j])
/-- What is written down of an answer. -/
def numI (ts : List T) (t : T) : Int := if (intern ts t).2.1 = 0 then (intern ts t).1 else -1
theorem NumsOK.nil (ls ts : List T) : NumsOK ls ts [] := fun j h => absurd h (Nat.not_lt_zero _)
theorem NumsOK.step {ls ts : List T} {nums : List Int} (h : NumsOK ls ts nums) (hi : nums.length < ls.length) : NumsOK ls (intern ts ls[nums.length]).2.2 (nums ++ [numI ts ls[nums.length]]) := by
  obtain ⟨es, e⟩ := intern_ext ts ls[nums.length]
  intro j hj hj'
  by_cases hlt : j < nums.length
  · rw [List.getElem_append_left hlt]
    rcases h j hlt hj' with h1 | ⟨h1, h2⟩
    · exact .inl h1
    · right
      rw [e, posT_old h1]
      exact ⟨h1, h2⟩
  · have : j = nums.length := by simp at hj; omega
    subst this
    simp only [List.getElem_append_right (Nat.le_refl _), Nat.sub_self, List.getElem_cons_zero]
    unfold numI
    by_cases h0 : (intern ts ls[nums.length]).2.1 = 0
    · obtain ⟨k1, k2, _⟩ := intern_pos h0
      rw [if_pos h0]
      exact .inr ⟨k2, k1⟩
    · rw [if_neg h0]; exact .inl rfl
theorem posT_eq {ts : List T} {a b : T} (ha : 0 ≤ posT ts a) (hb : 0 ≤ posT ts b) : posT ts a = posT ts b ↔ ord a b = 0 := by
  constructor
  · intro h
    obtain ⟨i, hi⟩ : ∃ i : Nat, posT ts a = (i : Int) := ⟨(posT ts a).toNat, by omega⟩
    have h1 := posT_is hi
    have h2 := posT_is (h ▸ hi)
    rw [h1] at h2
    cases h2
    exact ord_self a
  · intro h
    rw [ord_zero.1 h]
theorem termV_pos {ts : List T} {t : T} (h : 0 ≤ posT ts t) : termV ts (posT ts t) = (t, true) := by
  have hl := posT_lt ts t
  obtain ⟨i, hi⟩ : ∃ i : Nat, posT ts t = (i : Int) := ⟨(posT ts t).toNat, by omega⟩
  have h1 := posT_is hi
  unfold termV
  rw [if_pos ⟨h, hl⟩, hi]
  simp [List.getD_eq_getElem?_getD, h1]
/-- A Kid's number is below its term's. -/
theorem TabI.kid {ts : List T} {t k : T} (hI : TabI ts) (h : 0 ≤ posT ts t) (hk : k ∈ t.kids) : 0 ≤ posT ts k ∧ posT ts k < posT ts t := by
  obtain ⟨i, hi⟩ : ∃ i : Nat, posT ts t = (i : Int) := ⟨(posT ts t).toNat, by omega⟩
  have h1 := posT_is hi
  obtain ⟨hl, e⟩ := List.getElem?_eq_some_iff.1 h1
  obtain ⟨j, hj, hjk⟩ := hI.lo i hl k (by rw [e]; exact hk)
  have := posT_nodup hI.nd hjk
  omega
end Go.Proofs.YtnjomdjkbbhdoaaDoor
