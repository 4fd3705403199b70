/-
  A table of terms: which number a term has, what it has when one is put in. Plain Lean: no program, no memory.
  No condition.
-/
import Derived.Test.YtnjomdjkbbhdoaaDoorKey
import Derived.Test.YtnjomdjkbbhdoaaDoorSpec
namespace Go.Proofs.YtnjomdjkbbhdoaaDoor
set_option linter.unusedVariables false

theorem findI_lt (p : T → Bool) : ∀ (ks : List T), findI p ks < (ks.length : Int)
  | [] => by simp [findI]
  | k :: r => by
    have := findI_lt p r
    simp only [findI, List.length_cons]
    split
    · omega
    · split <;> omega
theorem findI_sat {p : T → Bool} : ∀ {ks : List T} {i : Nat}, findI p ks = (i : Int) → ∃ h : i < ks.length, p ks[i] = true
  | [], i, h => by simp only [findI] at h; omega
  | k :: r, i, h => by
    have hg := findI_ge p r
    simp only [findI] at h
    split at h
    · rename_i hk
      obtain rfl : i = 0 := by omega
      exact ⟨by simp, hk⟩
    · split at h
      · omega
      · obtain ⟨j, rfl⟩ : ∃ j, i = j + 1 := ⟨i - 1, by omega⟩
        obtain ⟨h1, h2⟩ := findI_sat (p := p) (ks := r) (i := j) (by omega)
        exact ⟨by simpa using h1, by simpa using h2⟩
theorem findI_app (p : T → Bool) : ∀ (ks ls : List T), findI p (ks ++ ls) = if 0 ≤ findI p ks then findI p ks else if 0 ≤ findI p ls then (ks.length : Int) + findI p ls else -1
  | [], ls => by
    have := findI_ge p ls
    simp only [findI, List.nil_append, List.length_nil]
    rw [if_neg (by omega)]
    split <;> omega
  | k :: r, ls => by
    have ih := findI_app p r ls
    have h1 := findI_ge p r
    have h2 := findI_ge p ls
    simp only [List.cons_append, findI, List.length_cons]
    by_cases hk : p k = true
    · simp [hk]
    · simp only [hk, if_false, ih, Bool.false_eq_true]
      by_cases h3 : 0 ≤ findI p r
      · have e1 : ¬ findI p r = -1 := by omega
        have e2 : 0 ≤ findI p r + 1 := by omega
        simp only [h3, e1, e2, if_true, if_false]
      · have e1 : findI p r = -1 := by omega
        have e2 : ¬ (0 : Int) ≤ -1 := by omega
        by_cases h4 : 0 ≤ findI p ls
        · have e3 : ¬ (r.length : Int) + findI p ls = -1 := by omega
          simp only [e1, e2, e3, h4, if_true, if_false]
          omega
        · simp only [e1, e2, h4, if_true, if_false]

/-- A term's number in a table; -1 if it is not there. -/
def posT (ts : List T) (t : T) : Int := findI (fun u => decide (ord u t = 0)) ts
theorem posT_ge (ts : List T) (t : T) : -1 ≤ posT ts t := findI_ge _ _
theorem posT_lt (ts : List T) (t : T) : posT ts t < (ts.length : Int) := findI_lt _ _
theorem posT_iff {ts : List T} {t : T} : 0 ≤ posT ts t ↔ t ∈ ts := by
  have := findI_any (fun u => decide (ord u t = 0)) ts
  rw [Bool.eq_iff_iff, decide_eq_true_eq] at this
  unfold posT
  rw [this, List.any_eq_true]
  constructor
  · rintro ⟨x, h1, h2⟩
    have := ord_zero.1 (of_decide_eq_true h2)
    subst this; exact h1
  · intro h; exact ⟨t, h, by simp [ord_self]⟩
theorem posT_is {ts : List T} {t : T} {i : Nat} (h : posT ts t = (i : Int)) : ts[i]? = some t := by
  obtain ⟨h1, h2⟩ := findI_sat h
  have := ord_zero.1 (of_decide_eq_true h2)
  rw [List.getElem?_eq_getElem h1, this]
theorem posT_app (ts es : List T) (t : T) : posT (ts ++ es) t = if 0 ≤ posT ts t then posT ts t else if 0 ≤ posT es t then (ts.length : Int) + posT es t else -1 := findI_app _ _ _
theorem posT_old {ts es : List T} {t : T} (h : 0 ≤ posT ts t) : posT (ts ++ es) t = posT ts t := by rw [posT_app, if_pos h]
theorem posT_none {ts : List T} {t : T} (h : ¬ 0 ≤ posT ts t) : posT ts t = -1 := by have := posT_ge ts t; omega
theorem posT_snoc {ts : List T} {t : T} (h : ¬ 0 ≤ posT ts t) : posT (ts ++ [t]) t = (ts.length : Int) := by
  have : posT [t] t = 0 := by simp [posT, findI, ord_self]
  rw [posT_app, if_neg h, this]; simp
theorem posT_nodup {ts : List T} (hn : ts.Nodup) {t : T} {i : Nat} (h : ts[i]? = some t) : posT ts t = (i : Int) := by
  have hm : t ∈ ts := List.mem_of_getElem? h
  have h0 := posT_iff.2 hm
  obtain ⟨j, hj⟩ : ∃ j : Nat, posT ts t = (j : Int) := ⟨(posT ts t).toNat, by omega⟩
  have hk := posT_is hj
  obtain ⟨hi, ei⟩ := List.getElem?_eq_some_iff.1 h
  obtain ⟨hl, el⟩ := List.getElem?_eq_some_iff.1 hk
  rw [hj]
  congr 1
  exact (List.getElem_inj hn).1 (by rw [ei, el])

mutual
/-- A table, a term put in, its Kids ahead of it. -/
def putV : T → List T → List T
  | .mk o n d ks, ts => if 0 ≤ posT ts (.mk o n d ks) then ts else putVs ks ts ++ [.mk o n d ks]
def putVs : List T → List T → List T
  | [], ts => ts
  | k :: r, ts => putVs r (putV k ts)
end
theorem putV_mk (t : T) (ts : List T) : putV t ts = if 0 ≤ posT ts t then ts else putVs t.kids ts ++ [t] := by
  cases t; rw [putV]; rfl
theorem putVs_app : ∀ (a b ts : List T), putVs (a ++ b) ts = putVs b (putVs a ts)
  | [], b, ts => by simp [putVs]
  | k :: r, b, ts => by simp [putVs, putVs_app r b]
theorem putVs_take (ks ts : List T) (i : Nat) (h : i < ks.length) : putVs (ks.take (i + 1)) ts = putV ks[i] (putVs (ks.take i) ts) := by
  rw [List.take_succ_eq_append_getElem h, putVs_app]; simp [putVs]
mutual
theorem putV_ext : ∀ (t : T) (ts : List T), ∃ es, putV t ts = ts ++ es ∧ es.length ≤ size t ∧ ∀ u ∈ es, size u ≤ size t
  | .mk o n d ks, ts => by
    rw [putV]
    split
    · exact ⟨[], by simp, by simp, by simp⟩
    · obtain ⟨es, h1, h2, h3⟩ := putVs_ext ks ts
      refine ⟨es ++ [.mk o n d ks], by rw [h1, List.append_assoc], by simp [size]; omega, fun u hu => ?_⟩
      rcases List.mem_append.1 hu with hu | hu
      · have := h3 u hu; simp [size]; omega
      · simp at hu; subst hu; exact Nat.le_refl _
theorem putVs_ext : ∀ (ks : List T) (ts : List T), ∃ es, putVs ks ts = ts ++ es ∧ es.length ≤ sizes ks ∧ ∀ u ∈ es, size u ≤ sizes ks
  | [], ts => ⟨[], by simp [putVs], by simp, by simp⟩
  | k :: r, ts => by
    obtain ⟨es, h1, h2, h3⟩ := putV_ext k ts
    obtain ⟨fs, k1, k2, k3⟩ := putVs_ext r (ts ++ es)
    refine ⟨es ++ fs, by rw [putVs, h1, k1, List.append_assoc], by simp [sizes]; omega, fun u hu => ?_⟩
    rcases List.mem_append.1 hu with hu | hu
    · have := h3 u hu; simp [sizes]; omega
    · have := k3 u hu; simp [sizes]; omega
end
theorem putVs_new {t : T} {ts : List T} (h : ¬ 0 ≤ posT ts t) : ¬ 0 ≤ posT (putVs t.kids ts) t := by
  obtain ⟨es, h1, h2, h3⟩ := putVs_ext t.kids ts
  rw [posT_iff, h1, List.mem_append]
  rintro (hm | hm)
  · exact h (posT_iff.2 hm)
  · have := h3 t hm
    have e : size t = sizes t.kids + 1 := by cases t; rw [size]; rfl
    omega
theorem putVs_grow (ks ts : List T) : ts.length ≤ (putVs ks ts).length := by
  obtain ⟨es, h, _⟩ := putVs_ext ks ts
  rw [h]; simp
theorem putVs_some (ks ts : List T) (i : Nat) : (putVs (ks.take i) ts).length ≤ (putVs ks ts).length := by
  have := putVs_app (ks.take i) (ks.drop i) ts
  rw [List.take_append_drop] at this
  rw [this]; exact putVs_grow _ _
/-- The number that a term put in has. -/
def numV (t : T) (ts : List T) : Int := if 0 ≤ posT ts t then posT ts t else ((putVs t.kids ts).length : Int)
theorem numV_is (t : T) (ts : List T) : posT (putV t ts) t = numV t ts := by
  rw [putV_mk]; unfold numV
  split
  · rfl
  · rename_i h; exact posT_snoc (putVs_new h)
theorem mem_putV (t : T) (ts : List T) : t ∈ putV t ts := by
  rw [putV_mk]
  split
  · rename_i h; exact posT_iff.1 h
  · simp
theorem mem_old {t u : T} {ts : List T} (h : u ∈ ts) : u ∈ putV t ts := by
  obtain ⟨es, e, _⟩ := putV_ext t ts
  rw [e]; exact List.mem_append_left _ h
theorem mem_olds {u : T} {ks ts : List T} (h : u ∈ ts) : u ∈ putVs ks ts := by
  obtain ⟨es, e, _⟩ := putVs_ext ks ts
  rw [e]; exact List.mem_append_left _ h
theorem mem_putVs : ∀ {ks : List T} {k : T} (ts : List T), k ∈ ks → k ∈ putVs ks ts
  | x :: r, k, ts, h => by
    rw [putVs]
    rcases List.mem_cons.1 h with rfl | h
    · exact mem_olds (mem_putV _ _)
    · exact mem_putVs _ h
theorem right_kids' : ∀ (t : T) {dp : Nat}, rightD t (dp + 1) = true → rightD t dp = true := by
  intro t
  induction t using T.ind with
  | _ o n d ks ih =>
    intro dp h
    rw [rightD_mk] at h ⊢
    simp only [Bool.and_eq_true, decide_eq_true_eq] at h ⊢
    obtain ⟨⟨⟨h1, h2⟩, h3⟩, h4⟩ := h
    exact ⟨⟨⟨by omega, h2⟩, rightsD_iff.2 fun i hi => ih _ (List.getElem_mem hi) (rightsD_iff.1 h3 i hi)⟩, h4⟩
theorem right_in {t k : T} (h : right t = true) (hk : k ∈ t.kids) : right k = true := by
  obtain ⟨i, hi, rfl⟩ := List.mem_iff_getElem.1 hk
  exact right_kids' _ (rightsD_iff.1 (right_shape h).2.1 i hi)
/-- What a table keeps: no term twice, all right, each one's Kids ahead of it. -/
structure TabI (ts : List T) : Prop where
  nd : ts.Nodup
  rt : ∀ u ∈ ts, right u = true
  lo : ∀ (i : Nat) (h : i < ts.length), ∀ k ∈ ts[i].kids, ∃ j, j < i ∧ ts[j]? = some k
theorem TabI.nil : TabI [] := ⟨List.nodup_nil, by simp, fun i h => by simp at h⟩
theorem TabI.snoc {ts : List T} {t : T} (h : TabI ts) (hn : t ∉ ts) (hr : right t = true) (hk : ∀ k ∈ t.kids, k ∈ ts) : TabI (ts ++ [t]) := by
  refine ⟨?_, fun u hu => ?_, fun i hi k hkk => ?_⟩
  · rw [List.nodup_append]
    refine ⟨h.nd, by simp, fun a ha b hb => ?_⟩
    simp at hb; subst hb
    rintro rfl; exact hn ha
  · rcases List.mem_append.1 hu with hu | hu
    · exact h.rt u hu
    · simp at hu; subst hu; exact hr
  · by_cases e : i < ts.length
    · rw [List.getElem_append_left e] at hkk
      obtain ⟨j, h1, h2⟩ := h.lo i e k hkk
      exact ⟨j, h1, by rw [List.getElem?_append_left (by omega)]; exact h2⟩
    · have : i = ts.length := by simp at hi; omega
      subst this
      simp at hkk
      obtain ⟨j, hj, e2⟩ := List.mem_iff_getElem.1 (hk k hkk)
      exact ⟨j, hj, by rw [List.getElem?_append_left hj, List.getElem?_eq_getElem hj, e2]⟩
mutual
theorem TabI.put : ∀ (t : T) {ts : List T}, TabI ts → right t = true → TabI (putV t ts)
  | .mk o n d ks, ts, h, hr => by
    rw [putV]
    split
    · exact h
    · rename_i hn
      exact (TabI.puts ks h (fun k hk => right_in hr hk)).snoc (fun hm => putVs_new (t := .mk o n d ks) hn (posT_iff.2 hm)) hr (fun k hk => mem_putVs _ hk)
theorem TabI.puts : ∀ (ks : List T) {ts : List T}, TabI ts → (∀ k ∈ ks, right k = true) → TabI (putVs ks ts)
  | [], ts, h, _ => by rw [putVs]; exact h
  | k :: r, ts, h, hr => by
    rw [putVs]
    exact TabI.puts r (TabI.put k h (hr k (by simp))) (fun x hx => hr x (List.mem_cons_of_mem _ hx))
end
/-- What putting a term in answers: its number, which error, the table. -/
def intern (ts : List T) (t : T) : Int × Int × List T :=
  if right t = true then (if 0 ≤ posT ts t then (posT ts t, 0, ts) else if 4096 < ts.length + size t then (-1, 2, ts) else (numV t ts, 0, putV t ts)) else (-1, 51, ts)
theorem intern_tab {ts : List T} {t : T} (h : TabI ts) : TabI (intern ts t).2.2 := by
  unfold intern
  split
  · rename_i hr
    split
    · exact h
    · split
      · exact h
      · exact h.put t hr
  · exact h
theorem intern_len {ts : List T} {t : T} (h : ts.length ≤ 4096) : (intern ts t).2.2.length ≤ 4096 := by
  unfold intern
  split
  · split
    · exact h
    · split
      · exact h
      · obtain ⟨es, e, h2, _⟩ := putV_ext t ts
        simp only [e, List.length_append]; omega
  · exact h
/-- The term of a number. -/
def termV (ts : List T) (n : Int) : T × Bool := if 0 ≤ n ∧ n < ts.length then (ts.getD n.toNat zeroT, true) else (zeroT, false)
end Go.Proofs.YtnjomdjkbbhdoaaDoor
