/-
  Tables of terms as they are read; what rows come to when one term more is laid behind.
  No condition.
-/
import Derived.Test.YtnjomdjkbbhdoaaDoorBld
import Derived.Test.YtnjomdjkbbhdoaaDoorPow
namespace Go.Proofs.YtnjomdjkbbhdoaaDoor
open Go.RowKit
set_option linter.unusedVariables false

/-- The program's table, read. -/
structure SeenV (σ : Hp) (b : Nat) (ts : List T) (p : Option Addr) (c m : Nat) : Prop where
  c0 : CellsAt σ b 0 [.slice p ts.length c]
  c1 : CellsAt σ b 1 [.map (some m)]
  mp : σ m = some (mapObj ts)
  cap : ts.length ≤ c
  few : ts.length ≤ 4096
  tab : TabI ts
theorem OwnSl.slice {e size n : Nat} {v : Value} {xs : List Value} {Gs : List (Nat × Obj)} (h : OwnSl e size v n xs Gs) : ∃ p c, v = .slice p n c ∧ n ≤ c := by
  rcases h.2 with ⟨rfl, rfl, _⟩ | ⟨g, c, cur, rfl, _, h2, _⟩
  · exact ⟨_, _, rfl, Nat.le_refl _⟩
  · exact ⟨_, _, rfl, h2⟩
theorem VaultK.seen {tv te : TypeId} {b : Nat} {ts : List T} {σ τ : Hp} {K : List (Nat × Obj)} (h : VaultK tv te b ts σ K) (hs : ∀ q ∈ K, τ q.1 = some q.2) : ∃ p c m, SeenV τ b ts p c m := by
  obtain ⟨sv, xs, m, Gs, rfl, hO, hr, ht, hl⟩ := h
  obtain ⟨p, c, rfl, hc⟩ := hO.slice
  exact ⟨p, c, m, CellsAt.of1 (hs _ (List.mem_cons_self)) rfl, CellsAt.of1 (hs _ (List.mem_cons_self)) rfl, hs (m, mapObj ts) (by simp), hc, hl, ht⟩
theorem VaultK.seenX {tv te : TypeId} {b : Nat} {ts : List T} {σ : Hp} {K : List (Nat × Obj)} {w : World} (h : VaultK tv te b ts σ K) (hi : Has σ K w) : ∃ p c m, SeenV (exts σ K) b ts p c m :=
  h.seen fun q hq => exts_get hi.nd hq
theorem VaultK.nd {tv te : TypeId} {b : Nat} {ts : List T} {σ : Hp} {K : List (Nat × Obj)} (h : VaultK tv te b ts σ K) : TabI ts ∧ ts.length ≤ 4096 := by
  obtain ⟨sv, xs, m, Gs, rfl, hO, hr, ht, hl⟩ := h
  exact ⟨ht, hl⟩
theorem setX_snoc {xs co cs : List Value} {n : Nat} (hx : xs.length = n * 4) (hc : co.length = 4) : setX (xs ++ co) n cs = xs ++ cs := by
  unfold setX
  rw [List.take_append, List.drop_append, ← hx, List.take_length, Nat.sub_self, List.take_zero, List.append_nil, List.drop_eq_nil_of_le (by omega), show xs.length + 4 - xs.length = co.length by omega, List.drop_length]
  simp
def mostN : Nat → Nat
  | 0 => 0
  | n + 1 => 1 + 4 * mostN n
theorem mostN_16 : mostN 16 ≤ maxKids := by decide
theorem sizes_len {B : Nat} : ∀ {ks : List T}, (∀ k ∈ ks, size k ≤ B) → sizes ks ≤ ks.length * B
  | [], _ => by simp [sizes]
  | k :: r, h => by
    have h1 := h k (by simp)
    have h2 := sizes_len (B := B) (ks := r) (fun x hx => h x (List.mem_cons_of_mem _ hx))
    simp only [sizes, List.length_cons, Nat.add_mul]
    omega
theorem rightD_size : ∀ (t : T) {dp : Nat}, rightD t dp = true → size t ≤ mostN (16 - dp) := by
  intro t
  induction t using T.ind with
  | _ o n d ks ih =>
    intro dp h
    rw [rightD_mk] at h
    simp only [Bool.and_eq_true, decide_eq_true_eq] at h
    obtain ⟨⟨⟨h1, h2⟩, h3⟩, h4⟩ := h
    have hk := shape_kids h2
    have hb : ∀ k ∈ ks, size k ≤ mostN (16 - (dp + 1)) := fun k hm => by
      obtain ⟨i, hi, rfl⟩ := List.mem_iff_getElem.1 hm
      exact ih _ hm (rightsD_iff.1 h3 i hi)
    have hks := sizes_len hb
    have hm : ks.length * mostN (16 - (dp + 1)) ≤ 4 * mostN (16 - (dp + 1)) := Nat.mul_le_mul_right _ hk
    rw [show 16 - dp = (16 - (dp + 1)) + 1 by omega]
    simp only [size, mostN]
    omega
theorem right_size {t : T} (h : right t = true) : size t ≤ maxKids := Nat.le_trans (rightD_size t h) mostN_16
theorem right_slim {t : T} (h : right t = true) : norm t = t ∧ slim 19 t := ⟨(right_norm h).1, slim_mono (by decide) _ (right_norm h).2⟩
theorem zeroT_c (σ : Hp) : TermC σ [.int .i64 0, .int .i64 0, .slice none 0 0, .slice none 0 0] zeroT := TermC.mk (by omega) (by omega) (BytesV.nil σ) (KidsV.nil σ)
theorem right_lim {t : T} (h : right t = true) : (keyB t).length ≤ 140737488355328 := Nat.le_trans (right_key h) (by unfold maxKey; decide)
theorem putVs_len (ks ts : List T) (i : Nat) : (putVs (ks.take i) ts).length ≤ ts.length + sizes (ks.take i) := by
  obtain ⟨es, h, h2, _⟩ := putVs_ext (ks.take i) ts
  rw [h, List.length_append]; omega
end Go.Proofs.YtnjomdjkbbhdoaaDoor
