/-
  What the law Laws leans on: in order twice is in order once; powers in either order; signs.
  No condition.
-/
import Derived.Test.YtnjomdjkbbhdoaaDoorMB
namespace Go.Proofs.YtnjomdjkbbhdoaaDoor
open Go.RowKit
set_option linter.unusedVariables false

theorem sortB_sorted {l : List T} (h : sorted l = true) : sortB [] l = l := (sortB_is (List.Perm.refl l) h).symm
theorem norms_fix : ∀ (l : List T), (∀ k ∈ l, norm (norm k) = norm k) → ∀ x ∈ norms l, norm x = x
  | [], _, x, hx => by simp [norms] at hx
  | k :: r, h, x, hx => by
    rw [norms] at hx
    rcases List.mem_cons.1 hx with rfl | hx
    · exact h k List.mem_cons_self
    · exact norms_fix r (fun y hy => h y (List.mem_cons_of_mem _ hy)) x hx
theorem norm_norm : ∀ (t : T), norm (norm t) = norm t := by
  intro t
  induction t using T.ind with
  | _ o n d ks ih =>
    have hfix := norms_fix ks ih
    rw [norm_mk]
    by_cases h7 : o = 7
    · simp only [h7, if_true]
      have hp := (sortB_spec (norms ks) [] rfl)
      have hf : ∀ k ∈ sortB [] (norms ks), norm k = k := fun k hk => hfix k (by simpa using hp.2.mem_iff.1 hk)
      rw [norm_mk, if_pos rfl, norms_map hf, sortB_sorted hp.1]
    · simp only [if_neg h7]
      rw [norm_mk, if_neg h7, norms_map hfix]
theorem putB_one (x y : T) : putB [x] y = putB [y] x :=
  sorted_unique (putB_sorted rfl) (putB_sorted rfl) (((putB_perm [x] y).trans (List.Perm.swap x y [])).trans (putB_perm [y] x).symm)
theorem signI_neg (x : Int) (h : Tri x) : signI (-x) = - signI x := by
  unfold Tri at h
  rcases h with h | h | h <;> subst h <;> decide
/-- A power of the first, then of the second; and the other way: one term. -/
theorem pow_swap {s x y p q : T} (hs : s = .mk 7 0 [] []) (hp : pow s x = (p, true)) (hq : pow s y = (q, true)) : pow p y = pow q x := by
  subst hs
  have h1 : ∀ {z r : T}, pow (.mk 7 0 [] []) z = (r, true) → r = .mk 7 0 [] [z] ∧ right z = true ∧ right r = true := fun {z r} h => by
    unfold pow at h
    split at h
    · rename_i hc
      cases h
      exact ⟨rfl, hc.2.1, hc.2.2.2⟩
    · cases h
  obtain ⟨rfl, rx, rp⟩ := h1 hp
  obtain ⟨rfl, ry, rq⟩ := h1 hq
  have e : powT (.mk 7 0 [] [x]) y = powT (.mk 7 0 [] [y]) x := by unfold powT; simp only [T.kids]; rw [putB_one]
  unfold pow
  rw [e]
  simp [rx, ry, rp, rq, T.op]
end Go.Proofs.YtnjomdjkbbhdoaaDoor
