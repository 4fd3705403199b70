/-
  The laws of a table of terms, in plain Lean.
  No condition.
-/
import Derived.Test.YtnjomdjkbbhdoaaDoorTable
namespace Go.Proofs.YtnjomdjkbbhdoaaDoor
set_option linter.unusedVariables false

theorem putVs_right {ks ts : List T} : ts.length ≤ (putVs ks ts).length := putVs_grow ks ts
theorem putV_len_new {t : T} {ts : List T} (h : ¬ 0 ≤ posT ts t) : (putV t ts).length = (putVs t.kids ts).length + 1 := by
  rw [putV_mk, if_neg h]; simp
/-- What putting a term in does to how many there are. -/
theorem intern_facts {ts : List T} {t : T} : (ts.length : Int) ≤ (intern ts t).2.2.length ∧ ((intern ts t).2.2.length : Int) - ts.length ≤ size t ∧
    ((0 ≤ posT ts t ∨ (intern ts t).2.1 ≠ 0) → ((intern ts t).2.2.length : Int) = ts.length) ∧
    ((¬ 0 ≤ posT ts t ∧ (intern ts t).2.1 = 0) → (ts.length : Int) + 1 ≤ (intern ts t).2.2.length ∧ (intern ts t).1 = ((intern ts t).2.2.length : Int) - 1) ∧
    ((intern ts t).2.1 ≠ 0 ↔ (intern ts t).1 = -1) := by
  have hs := size_pos t
  have hg := posT_ge ts t
  unfold intern
  by_cases hr : right t = true
  · rw [if_pos hr]
    by_cases hp : 0 ≤ posT ts t
    · rw [if_pos hp]
      simp only
      exact ⟨by omega, by omega, fun _ => by first | trivial | rfl, fun h => absurd hp h.1, by first | omega | simp⟩
    · rw [if_neg hp]
      by_cases hl : 4096 < ts.length + size t
      · rw [if_pos hl]
        simp only
        exact ⟨by omega, by omega, fun _ => by first | trivial | rfl, fun h => absurd h.2 (by decide), by first | omega | simp⟩
      · rw [if_neg hl]
        obtain ⟨es, e1, e2, _⟩ := putV_ext t ts
        have e3 := putV_len_new hp
        have e4 := putVs_grow t.kids ts
        have e5 : (putV t ts).length = ts.length + es.length := by rw [e1]; simp
        have e6 : numV t ts = ((putVs t.kids ts).length : Int) := by unfold numV; rw [if_neg hp]
        simp only [e6]
        exact ⟨by omega, by omega, fun h => by omega, fun _ => by omega, by first | omega | simp⟩
  · rw [if_neg hr]
    simp only
    exact ⟨by omega, by omega, fun _ => by first | trivial | rfl, fun h => absurd h.2 (by decide), by first | omega | simp⟩
theorem intern_again (ts : List T) (t : T) : intern (intern ts t).2.2 t = intern ts t := by
  by_cases hr : right t = true
  · by_cases hp : 0 ≤ posT ts t
    · have e : intern ts t = (posT ts t, 0, ts) := by unfold intern; rw [if_pos hr, if_pos hp]
      rw [e]; exact e
    · by_cases hl : 4096 < ts.length + size t
      · have e : intern ts t = (-1, 2, ts) := by unfold intern; rw [if_pos hr, if_neg hp, if_pos hl]
        rw [e]; exact e
      · have e : intern ts t = (numV t ts, 0, putV t ts) := by unfold intern; rw [if_pos hr, if_neg hp, if_neg hl]
        rw [e]
        have h0 : 0 ≤ posT (putV t ts) t := posT_iff.2 (mem_putV t ts)
        unfold intern
        simp only
        rw [if_pos hr, if_pos h0, numV_is]
  · have e : intern ts t = (-1, 51, ts) := by unfold intern; rw [if_neg hr]
    rw [e]; exact e
/-- Behind a term that was put in: its number is its place. -/
theorem intern_pos {ts : List T} {t : T} (h : (intern ts t).2.1 = 0) : (intern ts t).1 = posT (intern ts t).2.2 t ∧ 0 ≤ posT (intern ts t).2.2 t ∧ right t = true := by
  unfold intern at h ⊢
  by_cases hr : right t = true
  · rw [if_pos hr] at h ⊢
    by_cases hp : 0 ≤ posT ts t
    · rw [if_pos hp]; exact ⟨rfl, hp, hr⟩
    · rw [if_neg hp] at h ⊢
      by_cases hl : 4096 < ts.length + size t
      · rw [if_pos hl] at h; exact absurd (show (2 : Int) = 0 from h) (by decide)
      · rw [if_neg hl]
        exact ⟨(numV_is t ts).symm, posT_iff.2 (mem_putV t ts), hr⟩
  · rw [if_neg hr] at h; exact absurd (show (51 : Int) = 0 from h) (by decide)
theorem intern_ext (ts : List T) (t : T) : ∃ es, (intern ts t).2.2 = ts ++ es := by
  unfold intern
  split
  · split
    · exact ⟨[], by simp⟩
    · split
      · exact ⟨[], by simp⟩
      · obtain ⟨es, e, _⟩ := putV_ext t ts
        exact ⟨es, e⟩
  · exact ⟨[], by simp⟩
end Go.Proofs.YtnjomdjkbbhdoaaDoor
