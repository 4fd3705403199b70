/-
  The laws of what is done with keys, in plain Lean.
  No condition.
-/
import Derived.Test.YtnjomdjkbbhdoaaDoorMC
import Derived.Test.YtnjomdjkbbhdoaaDoorLaws
namespace Go.Proofs.YtnjomdjkbbhdoaaDoor
set_option linter.unusedVariables false

theorem termV_old {ts es : List T} {n : Int} (h : (termV ts n).2 = true) : termV (ts ++ es) n = termV ts n := by
  unfold termV at h ⊢
  split at h
  · rename_i hn
    have hl : n.toNat < ts.length := by omega
    rw [if_pos (by simp; omega), if_pos hn]
    simp [List.getD_eq_getElem?_getD, List.getElem?_append_left hl]
  · cases h
theorem termV_at {ts : List T} (hn : ts.Nodup) {n : Int} (h : (termV ts n).2 = true) : posT ts (termV ts n).1 = n := by
  unfold termV at h ⊢
  split at h
  · rename_i hc
    have hl : n.toNat < ts.length := by omega
    rw [if_pos hc]
    have := posT_nodup hn (List.getElem?_eq_getElem hl)
    simp only [List.getD_eq_getElem?_getD, List.getElem?_eq_getElem hl, Option.getD_some]
    omega
  · cases h
theorem termV_inj {ts : List T} (hn : ts.Nodup) {a b : Int} (ha : (termV ts a).2 = true) (hb : (termV ts b).2 = true) (h : (termV ts a).1 = (termV ts b).1) : a = b := by
  rw [← termV_at hn ha, ← termV_at hn hb, h]
theorem intern_keep {ts es : List T} {t : T} (h : (intern ts t).2.1 = 0 ∨ t ∉ es) : intern ((intern ts t).2.2 ++ es) t = ((intern ts t).1, (intern ts t).2.1, (intern ts t).2.2 ++ es) := by
  by_cases hr : right t = true
  · by_cases hp : 0 ≤ posT ts t
    · have e : intern ts t = (posT ts t, 0, ts) := by unfold intern; rw [if_pos hr, if_pos hp]
      rw [e]
      simp only
      unfold intern
      rw [if_pos hr, posT_old hp, if_pos hp]
    · by_cases hl : 4096 < ts.length + size t
      · have e : intern ts t = (-1, 2, ts) := by unfold intern; rw [if_pos hr, if_neg hp, if_pos hl]
        rw [e] at h ⊢
        have hn : t ∉ es := h.resolve_left (fun hc => absurd (show (2 : Int) = 0 from hc) (by decide))
        simp only
        unfold intern
        rw [if_pos hr, if_neg (fun hc => by
          rcases List.mem_append.1 (posT_iff.1 hc) with h1 | h1
          · exact hp (posT_iff.2 h1)
          · exact hn h1), if_pos (by simp; omega)]
      · have e : intern ts t = (numV t ts, 0, putV t ts) := by unfold intern; rw [if_pos hr, if_neg hp, if_neg hl]
        rw [e]
        have h0 : 0 ≤ posT (putV t ts) t := posT_iff.2 (mem_putV t ts)
        simp only
        unfold intern
        rw [if_pos hr, posT_old h0, if_pos h0, numV_is]
  · have e : intern ts t = (-1, 51, ts) := by unfold intern; rw [if_neg hr]
    rw [e]
    simp only
    unfold intern
    rw [if_neg hr]
theorem intern_one {ts : List T} {o n : Int} {d : List UInt8} {k : T} (hk : k ∈ ts) : ∃ es, (intern ts (.mk o n d [k])).2.2 = ts ++ es ∧ ∀ u ∈ es, u = .mk o n d [k] := by
  unfold intern
  split
  · split
    · exact ⟨[], by simp, by simp⟩
    · rename_i hp
      split
      · exact ⟨[], by simp, by simp⟩
      · refine ⟨[.mk o n d [k]], ?_, by simp⟩
        simp only
        rw [putV_mk, if_neg hp]
        simp only [T.kids, putVs]
        rw [putV_mk, if_pos (posT_iff.2 hk)]
  · exact ⟨[], by simp, by simp⟩
theorem gather1 {ts : List T} {a : Int} (h : (termV ts a).2 = true) : gatherT ts [a] = some [(termV ts a).1] := by simp [gatherT, h]
theorem gather0 {ts : List T} {a : Int} (h : ¬ (termV ts a).2 = true) : gatherT ts [a] = none := by simp [gatherT, h]
theorem made1 {ts : List T} {op : Int} {d : List UInt8} {a : Int} (h : (termV ts a).2 = true) : madeV ts (ofT op d) [a] = intern ts (.mk op 0 d [(termV ts a).1]) := by
  rw [madeV_some (gather1 h)]; rfl
theorem made0 {ts : List T} {op : Int} {d : List UInt8} {a : Int} (h : ¬ (termV ts a).2 = true) : madeV ts (ofT op d) [a] = (-1, 71, ts) := madeV_none (gather0 h)
theorem madeH {ts : List T} {op : Int} {d : List UInt8} : madeV ts (ofT op d) [] = intern ts (.mk op 0 d []) := by
  rw [madeV_some (l := []) rfl]; rfl
theorem made_ext (ts : List T) (op : Int) (d : List UInt8) (a : Int) : ∃ es, (madeV ts (ofT op d) [a]).2.2 = ts ++ es := by
  by_cases h : (termV ts a).2 = true
  · rw [made1 h]; exact intern_ext _ _
  · rw [made0 h]; exact ⟨[], by simp⟩
/-- The same again: the same answer, and nothing is put in, if no more than others were put in between. -/
theorem made_keep {ts es : List T} {op : Int} {d : List UInt8} {a : Int} (hn : ¬ (termV ts a).2 = true → es = [])
    (hne : ∀ u ∈ es, u.op ≠ op) : madeV ((madeV ts (ofT op d) [a]).2.2 ++ es) (ofT op d) [a] = ((madeV ts (ofT op d) [a]).1, (madeV ts (ofT op d) [a]).2.1, (madeV ts (ofT op d) [a]).2.2 ++ es) := by
  by_cases h : (termV ts a).2 = true
  · rw [made1 h]
    obtain ⟨fs, e⟩ := intern_ext ts (.mk op 0 d [(termV ts a).1])
    have h2 : termV ((intern ts (.mk op 0 d [(termV ts a).1])).2.2 ++ es) a = termV ts a := by
      rw [e, List.append_assoc, termV_old h]
    rw [made1 (by rw [h2]; exact h), h2]
    exact intern_keep (.inr fun hm => hne _ hm rfl)
  · obtain rfl := hn h
    rw [made0 h]
    simp only [List.append_nil]
    rw [made0 h]
theorem made_step {ts : List T} {op : Int} {d : List UInt8} {a : Int} : ∃ es, (madeV ts (ofT op d) [a]).2.2 = ts ++ es ∧ (∀ u ∈ es, u.op = op) ∧ (¬ (termV ts a).2 = true → es = []) := by
  by_cases h : (termV ts a).2 = true
  · rw [made1 h]
    obtain ⟨es, e, h2⟩ := intern_one (o := op) (n := 0) (d := d) (termV_mem h)
    exact ⟨es, e, fun u hu => by rw [h2 u hu]; rfl, fun hc => absurd h hc⟩
  · rw [made0 h]; exact ⟨[], by simp, by simp, fun _ => rfl⟩
/-- The law Again. -/
theorem again (ts : List T) (a : Int) (d : List UInt8) {t1 t2 t3 : List T} {x1 e1 x2 e2 x3 e3 : Int} (h1 : madeV ts (ofT 3 d) [a] = (x1, e1, t1)) (h2 : madeV t1 (ofT 4 d) [a] = (x2, e2, t2)) (h3 : madeV t2 (ofT 6 d) [a] = (x3, e3, t3)) :
    madeV t3 (ofT 3 d) [a] = (x1, e1, t3) ∧ madeV t3 (ofT 4 d) [a] = (x2, e2, t3) ∧ madeV t3 (ofT 6 d) [a] = (x3, e3, t3) ∧ (e1 = 0 → e2 = 0 → e3 = 0 → x1 ≠ x2 ∧ x2 ≠ x3 ∧ x1 ≠ x3) := by
  obtain ⟨s1, q1, p1, n1⟩ := made_step (ts := ts) (op := 3) (d := d) (a := a)
  obtain ⟨s2, q2, p2, n2⟩ := made_step (ts := t1) (op := 4) (d := d) (a := a)
  obtain ⟨s3, q3, p3, n3⟩ := made_step (ts := t2) (op := 6) (d := d) (a := a)
  rw [h1] at q1; rw [h2] at q2; rw [h3] at q3
  simp only at q1 q2 q3
  have v12 : ¬ (termV ts a).2 = true → ¬ (termV t1 a).2 = true := fun h => by rw [q1, n1 h, List.append_nil]; exact h
  have v23 : ¬ (termV t1 a).2 = true → ¬ (termV t2 a).2 = true := fun h => by rw [q2, n2 h, List.append_nil]; exact h
  have k1 := made_keep (ts := ts) (es := s2 ++ s3) (op := 3) (d := d) (a := a) (fun h => by rw [n2 (v12 h), n3 (v23 (v12 h))]; rfl) (fun u hu => by
    rcases List.mem_append.1 hu with h | h
    · rw [p2 u h]; decide
    · rw [p3 u h]; decide)
  have k2 := made_keep (ts := t1) (es := s3) (op := 4) (d := d) (a := a) (fun h => n3 (v23 h)) (fun u hu => by rw [p3 u hu]; decide)
  have k3 := made_keep (ts := t2) (es := []) (op := 6) (d := d) (a := a) (fun h => rfl) (fun u hu => by simp at hu)
  rw [h1] at k1; rw [h2] at k2; rw [h3] at k3
  simp only [List.append_nil] at k1 k2 k3
  rw [← List.append_assoc, ← q2, ← q3] at k1
  rw [← q3] at k2
  refine ⟨k1, k2, k3, fun z1 z2 z3 => ?_⟩
  subst z1; subst z2; subst z3
  by_cases h : (termV ts a).2 = true
  · have g1 : termV t1 a = termV ts a := by rw [q1, termV_old h]
    have g2 : termV t2 a = termV ts a := by rw [q2, termV_old (by rw [g1]; exact h), g1]
    have g3 : termV t3 a = termV ts a := by rw [q3, termV_old (by rw [g2]; exact h), g2]
    have g := fun {tt : List T} {op n : Int} (hg : termV tt a = termV ts a) (hm : madeV tt (ofT op d) [a] = (n, 0, t3)) => by
      rw [made1 (by rw [hg]; exact h), hg] at hm
      have hz : (intern tt (.mk op 0 d [(termV ts a).1])).2.1 = 0 := by rw [hm]
      have := intern_pos hz
      rw [hm] at this
      exact this
    obtain ⟨a1, b1, _⟩ := g g3 k1
    obtain ⟨a2, b2, _⟩ := g g3 k2
    obtain ⟨a3, b3, _⟩ := g g3 k3
    simp only at a1 a2 a3
    rw [a1, a2, a3]
    refine ⟨fun e => ?_, fun e => ?_, fun e => ?_⟩
    · have := ord_zero.1 ((posT_eq b1 b2).1 e); cases this
    · have := ord_zero.1 ((posT_eq b2 b3).1 e); cases this
    · have := ord_zero.1 ((posT_eq b1 b3).1 e); cases this
  · rw [made0 h] at h1; simp at h1

theorem verify_no {ts : List T} {a b : Int} {d : List UInt8} (h : decide ((termV ts b).1.op = 3) = false) : verifyV ts a d b = false := by
  unfold verifyV bothV; rw [h]; simp
theorem open_no {ts : List T} {a b : Int} (h : decide ((termV ts b).1.op = 4) = false) : (openV ts a b).2 = false := by
  unfold openV bothV; rw [h]; simp

/-! ## Seals -/
theorem right_key' {o o' : Int} {d d' : List UInt8} {k : T} (h : right (.mk o 0 d [k]) = true) (ho : o = 3 ∨ o = 4) (ho' : (o' = 3 ∧ d' = d) ∨ (o' = 2 ∧ d' = [])) : right (.mk o' 0 d' [k]) = true := by
  unfold right at h ⊢
  rw [rightD_mk] at h ⊢
  simp only [Bool.and_eq_true] at h ⊢
  refine ⟨⟨⟨h.1.1.1, ?_⟩, h.1.2⟩, h.2⟩
  have h2 := h.1.1.2
  unfold shape at h2 ⊢
  simp only [Bool.and_eq_true, Bool.or_eq_true, decide_eq_true_eq] at h2 ⊢
  rcases ho with rfl | rfl <;> rcases ho' with ⟨rfl, rfl⟩ | ⟨rfl, rfl⟩ <;> simp at h2 ⊢ <;> omega
theorem intern_err {ts : List T} {t : T} : (intern ts t).2.1 = 0 ∨ (intern ts t).2.1 = 2 ∨ ((intern ts t).2.1 = 51 ∧ ¬ right t = true) := by
  unfold intern
  split
  · split
    · exact .inl rfl
    · split
      · exact .inr (.inl rfl)
      · exact .inl rfl
  · rename_i h; exact .inr (.inr ⟨rfl, h⟩)
theorem intern_err2 {ts : List T} {t : T} (h : (intern ts t).2.1 ≠ 51) : right t = true := by
  unfold intern at h
  split at h
  · assumption
  · exact absurd rfl h
structure Seals (key other : Int) (d : List UInt8) (ts t1 t2 t3 t4 : List T) (s e g f p h q i : Int) : Prop where
  h1 : madeV ts (ofT 4 d) [key] = (s, e, t1)
  h2 : madeV t1 (ofT 3 d) [key] = (g, f, t2)
  h3 : madeV t2 (ofT 2 []) [key] = (p, h, t3)
  h4 : madeV t3 (ofT 2 []) [other] = (q, i, t4)
  hI : TabI ts
theorem Seals.bad {key other : Int} {d : List UInt8} {ts t1 t2 t3 t4 : List T} {s e g f p h q i : Int} (S : Seals key other d ts t1 t2 t3 t4 s e g f p h q i) (hn : ¬ (e = 0 ∧ f = 0 ∧ h = 0 ∧ i = 0)) :
    (e = f ∧ f = h) ∨ i ≠ 0 ∨ e = 51 ∨ e = 2 ∨ f = 2 ∨ h = 2 := by
  obtain ⟨s1, q1, p1, n1⟩ := made_step (ts := ts) (op := 4) (d := d) (a := key)
  obtain ⟨s2, q2, p2, n2⟩ := made_step (ts := t1) (op := 3) (d := d) (a := key)
  rw [S.h1] at q1; rw [S.h2] at q2
  simp only at q1 q2
  have h1 := S.h1
  have h2 := S.h2
  have h3 := S.h3
  by_cases hk : (termV ts key).2 = true
  · have g1 : termV t1 key = termV ts key := by rw [q1, termV_old hk]
    have g2 : termV t2 key = termV ts key := by rw [q2, termV_old (by rw [g1]; exact hk), g1]
    rw [made1 hk] at h1
    rw [made1 (by rw [g1]; exact hk), g1] at h2
    rw [made1 (by rw [g2]; exact hk), g2] at h3
    have e1 := intern_err (ts := ts) (t := .mk 4 0 d [(termV ts key).1])
    have e2 := intern_err (ts := t1) (t := .mk 3 0 d [(termV ts key).1])
    have e3 := intern_err (ts := t2) (t := .mk 2 0 [] [(termV ts key).1])
    have r1 := intern_err2 (ts := ts) (t := .mk 4 0 d [(termV ts key).1])
    rw [h1] at e1 r1; rw [h2] at e2; rw [h3] at e3
    simp only at e1 e2 e3 r1
    rcases e1 with z | z | z
    · have hr := r1 (by omega)
      have hr2 := right_key' (o' := 3) (d' := d) hr (.inr rfl) (.inl ⟨rfl, rfl⟩)
      have hr3 := right_key' (o' := 2) (d' := []) hr (.inr rfl) (.inr ⟨rfl, rfl⟩)
      rcases e2 with y | y | y
      · rcases e3 with x | x | x
        · omega
        · omega
        · exact absurd hr3 x.2
      · omega
      · exact absurd hr2 y.2
    · omega
    · omega
  · have v12 : ¬ (termV t1 key).2 = true := by rw [q1, n1 hk, List.append_nil]; exact hk
    have v23 : ¬ (termV t2 key).2 = true := by rw [q2, n2 v12, List.append_nil]; exact v12
    rw [made0 hk] at h1
    rw [made0 v12] at h2
    rw [made0 v23] at h3
    cases h1; cases h2; cases h3
    exact .inl ⟨rfl, rfl⟩
theorem made_ok {ts tt : List T} {op n : Int} {d : List UInt8} {a : Int} (h : madeV ts (ofT op d) [a] = (n, 0, tt)) : (termV ts a).2 = true ∧ n = posT tt (.mk op 0 d [(termV ts a).1]) ∧ 0 ≤ posT tt (.mk op 0 d [(termV ts a).1]) := by
  by_cases hk : (termV ts a).2 = true
  · rw [made1 hk] at h
    have := intern_pos (ts := ts) (t := .mk op 0 d [(termV ts a).1]) (by rw [h])
    rw [h] at this
    exact ⟨hk, this.1, this.2.1⟩
  · rw [made0 hk] at h; simp at h
theorem posT_olds {ts es : List T} {t : T} {n : Int} (h : n = posT ts t) (h0 : 0 ≤ posT ts t) : n = posT (ts ++ es) t ∧ 0 ≤ posT (ts ++ es) t := by
  rw [posT_old h0]; exact ⟨h, h0⟩
theorem Seals.good {key other : Int} {d : List UInt8} {ts t1 t2 t3 t4 : List T} {s g p q e f h i : Int} (S : Seals key other d ts t1 t2 t3 t4 s e g f p h q i) (hz : e = 0 ∧ f = 0 ∧ h = 0 ∧ i = 0) (more : List UInt8) :
    openV t4 key s = (d, true) ∧ (openV t4 other s).2 = decide (key = other) ∧ verifyV t4 p d g = true ∧ verifyV t4 q d g = decide (p = q) ∧ decide (p = q) = decide (key = other) ∧ verifyV t4 p more g = (more == d) ∧ verifyV t4 p d s = false := by
  obtain ⟨rfl, rfl, rfl, rfl⟩ := hz
  have hI4 : TabI t4 := by
    have := madeV_tab (g := ofT 4 d) (hs := [key]) S.hI; rw [S.h1] at this
    have := madeV_tab (g := ofT 3 d) (hs := [key]) this; rw [S.h2] at this
    have := madeV_tab (g := ofT 2 []) (hs := [key]) this; rw [S.h3] at this
    have := madeV_tab (g := ofT 2 []) (hs := [other]) this; rw [S.h4] at this
    exact this
  obtain ⟨s1, q1⟩ := made_ext ts 4 d key
  obtain ⟨s2, q2⟩ := made_ext t1 3 d key
  obtain ⟨s3, q3⟩ := made_ext t2 2 [] key
  obtain ⟨s4, q4⟩ := made_ext t3 2 [] other
  rw [S.h1] at q1; rw [S.h2] at q2; rw [S.h3] at q3; rw [S.h4] at q4
  simp only at q1 q2 q3 q4
  obtain ⟨k1, a1, b1⟩ := made_ok S.h1
  obtain ⟨k2, a2, b2⟩ := made_ok S.h2
  obtain ⟨k3, a3, b3⟩ := made_ok S.h3
  obtain ⟨k4, a4, b4⟩ := made_ok S.h4
  have g1 : termV t1 key = termV ts key := by rw [q1, termV_old k1]
  have g2 : termV t2 key = termV ts key := by rw [q2, termV_old (by rw [g1]; exact k1), g1]
  have g3 : termV t3 key = termV ts key := by rw [q3, termV_old (by rw [g2]; exact k1), g2]
  have g4 : termV t4 key = termV ts key := by rw [q4, termV_old (by rw [g3]; exact k1), g3]
  have o4 : termV t4 other = termV t3 other := by rw [q4, termV_old k4]
  rw [g1] at a2 b2
  rw [g2] at a3 b3
  obtain ⟨a1, b1⟩ := posT_olds (es := s2) a1 b1
  rw [← q2] at a1 b1
  obtain ⟨a1, b1⟩ := posT_olds (es := s3) a1 b1
  obtain ⟨a2, b2⟩ := posT_olds (es := s3) a2 b2
  rw [← q3] at a1 b1 a2 b2
  obtain ⟨a1, b1⟩ := posT_olds (es := s4) a1 b1
  obtain ⟨a2, b2⟩ := posT_olds (es := s4) a2 b2
  obtain ⟨a3, b3⟩ := posT_olds (es := s4) a3 b3
  rw [← q4] at a1 b1 a2 b2 a3 b3
  have hs := termV_pos b1; rw [← a1] at hs
  have hg := termV_pos b2; rw [← a2] at hg
  have hp := termV_pos b3; rw [← a3] at hp
  have hq := termV_pos b4; rw [← a4] at hq
  have hko : ((termV ts key).1 = (termV t3 other).1) ↔ key = other := by
    constructor
    · intro h
      exact termV_inj hI4.nd (by rw [g4]; exact k1) (by rw [o4]; exact k4) (by rw [g4, o4]; exact h)
    · intro h
      rw [← g4, ← o4, h]
  have hpq : (p = q) ↔ key = other := by
    rw [← hko, a3, a4, posT_eq b3 b4, ord_zero]
    constructor
    · intro h
      simp only [T.mk.injEq, List.cons.injEq, and_true, true_and] at h
      exact h
    · intro h; rw [h]
  have hz : ∀ x y : T, ord x y = 0 ↔ x = y := fun x y => ord_zero
  refine ⟨?_, ?_, ?_, ?_, by simp [hpq], ?_, ?_⟩
  · unfold openV bothV
    rw [hs, g4, k1]
    simp [T.op, T.kids, T.data, ord_self]
  · unfold openV bothV
    rw [hs, o4, k4]
    simp only [T.op, T.kids, T.data, List.getD_cons_zero, hz, hko]
    by_cases h : key = other <;> simp [h]
  · unfold verifyV bothV
    rw [hg, hp]
    simp [T.op, T.kids, T.data, ord_self]
  · unfold verifyV bothV
    rw [hg, hq]
    simp only [T.op, T.kids, T.data, List.getD_cons_zero, hz, hko, hpq]
    simp
  · unfold verifyV bothV
    rw [hg, hp]
    simp only [T.op, T.kids, T.data, List.getD_cons_zero, ord_self]
    rw [Bool.eq_iff_iff]
    simp
    exact eq_comm
  · unfold verifyV bothV
    rw [hs, hp]
    simp [T.op]

/-! ## Powers -/
theorem exp_swap {x y : T} (hx : right x = true) (hy : right y = true) (hp : right (.mk 7 0 [] [x]) = true) (hq : right (.mk 7 0 [] [y]) = true) : pow (.mk 7 0 [] [x]) y = pow (.mk 7 0 [] [y]) x := by
  have e : powT (.mk 7 0 [] [x]) y = powT (.mk 7 0 [] [y]) x := by unfold powT; simp only [T.kids]; rw [putB_one]
  unfold pow
  rw [e]
  simp [hx, hy, hp, hq, T.op]
structure Pows (x y : Int) (a b : List UInt8) (ts t1 t2 t3 t4 : List T) (p e q f h i k j : Int) : Prop where
  h1 : madeV ts (ofT 7 []) [x] = (p, e, t1)
  h2 : madeV t1 (ofT 7 []) [y] = (q, f, t2)
  h3 : madeV t2 (ofT 5 a) [] = (h, i, t3)
  h4 : madeV t3 (ofT 5 b) [] = (k, j, t4)
  hI : TabI ts
theorem Pows.hash {x y : Int} {a b : List UInt8} {ts t1 t2 t3 t4 : List T} {p e q f h k i j : Int} (S : Pows x y a b ts t1 t2 t3 t4 p e q f h i k j) (hi0 : i = 0) (hj0 : j = 0) : decide (h = k) = (a == b) := by
  subst hi0; subst hj0
  have h3 := S.h3
  have h4 := S.h4
  rw [madeH] at h3 h4
  have p3 := intern_pos (ts := t2) (t := .mk 5 0 a []) (by rw [h3])
  have p4 := intern_pos (ts := t3) (t := .mk 5 0 b []) (by rw [h4])
  obtain ⟨es, q4⟩ := intern_ext t3 (.mk 5 0 b [])
  rw [h3] at p3; rw [h4] at p4 q4
  simp only at p3 p4 q4
  obtain ⟨a3, b3⟩ := posT_olds (es := es) p3.1 p3.2.1
  rw [← q4] at a3 b3
  rw [Bool.eq_iff_iff]
  simp only [decide_eq_true_eq, beq_iff_eq]
  rw [a3, p4.1, posT_eq b3 p4.2.1, ord_zero]
  constructor
  · intro h; cases h; rfl
  · intro h; rw [h]
theorem madeH_ext (ts : List T) (op : Int) (d : List UInt8) : ∃ es, (madeV ts (ofT op d) []).2.2 = ts ++ es := by
  rw [madeH]; exact intern_ext _ _
theorem Pows.good {x y : Int} {a b : List UInt8} {ts t1 t2 t3 t4 : List T} {p q h i k j e f : Int} (S : Pows x y a b ts t1 t2 t3 t4 p e q f h i k j) (he0 : e = 0) (hf0 : f = 0) :
    decide (p = q) = decide (x = y) ∧ ((madeV t4 powG [p, y]).2.1 = 0 → (madeV (madeV t4 powG [p, y]).2.2 powG [q, x]).2.1 = 0 → (madeV t4 powG [p, y]).1 = (madeV (madeV t4 powG [p, y]).2.2 powG [q, x]).1) := by
  subst he0; subst hf0
  have hI2 : TabI t2 := by
    have := madeV_tab (g := ofT 7 []) (hs := [x]) S.hI; rw [S.h1] at this
    have := madeV_tab (g := ofT 7 []) (hs := [y]) this; rw [S.h2] at this
    exact this
  have hI4 : TabI t4 := by
    have := madeV_tab (g := ofT 5 a) (hs := []) hI2; rw [S.h3] at this
    have := madeV_tab (g := ofT 5 b) (hs := []) this; rw [S.h4] at this
    exact this
  obtain ⟨s1, q1⟩ := made_ext ts 7 [] x
  obtain ⟨s2, q2⟩ := made_ext t1 7 [] y
  obtain ⟨s3, q3⟩ := madeH_ext t2 5 a
  obtain ⟨s4, q4⟩ := madeH_ext t3 5 b
  rw [S.h1] at q1; rw [S.h2] at q2; rw [S.h3] at q3; rw [S.h4] at q4
  simp only at q1 q2 q3 q4
  obtain ⟨k1, a1, b1⟩ := made_ok S.h1
  obtain ⟨k2, a2, b2⟩ := made_ok S.h2
  have hx2 : termV t2 x = termV ts x := by rw [q2, termV_old (by rw [q1, termV_old k1]; exact k1), q1, termV_old k1]
  have hy2 : termV t2 y = termV t1 y := by rw [q2, termV_old k2]
  obtain ⟨a1, b1⟩ := posT_olds (es := s2) a1 b1
  rw [← q2] at a1 b1
  have hp2 := termV_pos b1; rw [← a1] at hp2
  have hq2 := termV_pos b2; rw [← a2] at hq2
  have hxy : ((termV ts x).1 = (termV t1 y).1) ↔ x = y := by
    constructor
    · intro h
      exact termV_inj hI2.nd (by rw [hx2]; exact k1) (by rw [hy2]; exact k2) (by rw [hx2, hy2]; exact h)
    · intro h
      rw [← hx2, ← hy2, h]
  constructor
  · have : p = q ↔ x = y := by
      rw [← hxy, a1, a2, posT_eq b1 b2, ord_zero]
      constructor
      · intro h
        simp only [T.mk.injEq, List.cons.injEq, and_true, true_and] at h
        exact h
      · intro h; rw [h]
    simp [this]
  have up : ∀ n, (termV t2 n).2 = true → termV t4 n = termV t2 n := fun n hn => by
    rw [q4, termV_old (by rw [q3, termV_old hn]; exact hn), q3, termV_old hn]
  have up5 : ∀ (es : List T) n, (termV t2 n).2 = true → termV (t4 ++ es) n = termV t2 n := fun es n hn => by
    rw [termV_old (by rw [up n hn]; exact hn), up n hn]
  have kx : (termV t2 x).2 = true := by rw [hx2]; exact k1
  have ky : (termV t2 y).2 = true := by rw [hy2]; exact k2
  have kp : (termV t2 p).2 = true := by rw [hp2]
  have kq : (termV t2 q).2 = true := by rw [hq2]
  have gat : ∀ (es : List T) (m n : Int), (termV t2 m).2 = true → (termV t2 n).2 = true → gatherT (t4 ++ es) [m, n] = some [(termV t2 m).1, (termV t2 n).1] := fun es m n hm hn => by
    simp [gatherT, up5 es m hm, up5 es n hn, hm, hn]
  have e1 := madeV_some (g := powG) (gat [] p y kp ky)
  rw [List.append_nil] at e1
  have rx : right (termV ts x).1 = true := by
    have := hI2.rt _ (termV_mem kx); rwa [hx2] at this
  have ry : right (termV t1 y).1 = true := by
    have := hI2.rt _ (termV_mem ky); rwa [hy2] at this
  have rp : right (.mk 7 0 [] [(termV ts x).1]) = true := hI2.rt _ (posT_iff.1 b1)
  have rq : right (.mk 7 0 [] [(termV t1 y).1]) = true := hI2.rt _ (posT_iff.1 b2)
  rw [hp2, hy2] at e1
  simp only at e1
  rw [e1]
  by_cases hc : (powG [T.mk 7 0 [] [(termV ts x).1], (termV t1 y).1]).2 = true
  · rw [if_pos hc]
    obtain ⟨es, e⟩ := intern_ext t4 (powG [T.mk 7 0 [] [(termV ts x).1], (termV t1 y).1]).1
    intro hz1 hz2
    have e2 := madeV_some (g := powG) (gat es q x kq kx)
    rw [hq2, hx2] at e2
    simp only at e2
    have sw : powG [T.mk 7 0 [] [(termV t1 y).1], (termV ts x).1] = powG [T.mk 7 0 [] [(termV ts x).1], (termV t1 y).1] := (exp_swap rx ry rp rq).symm
    rw [sw, if_pos hc, ← e] at e2
    rw [e2, intern_again]
  · rw [if_neg hc]
    intro h; exact absurd (show (72 : Int) = 0 from h) (by decide)
end Go.Proofs.YtnjomdjkbbhdoaaDoor
