/-
  A term behind the terms of another's slice, laid anew; what Pow comes to.
  No condition.
-/
import Derived.Test.YtnjomdjkbbhdoaaDoorSwap
namespace Go.Proofs.YtnjomdjkbbhdoaaDoor
open Go.RowKit
set_option linter.unusedVariables false

theorem QR.of {Rep : Hp → Value → Prop} {w0 w : World} {M : Nat → Prop} {σ : Hp} {H G : List (Nat × Obj)} {v : Value} (hs : St w0 M σ H G w) (hr : Rep σ v) : QR Rep σ w0 (H ++ G) w v :=
  ⟨σ, Le.refl _, Fresh.refl _ _, hs.im, hr, fun p hp => hs.fresh hp⟩
section
variable {P : Program} {l0 : List Oper} {N : Nat} {L : TL} {d : Nat} {ty : TypeId} {pos : String} {af : Array Edge} {g : Option (Nat × Bool)} {op : Op} {w0 : World} {M : Nat → Prop} {σ : Hp} {H G : List (Nat × Obj)}
theorem ob_valQ {Rep : Hp → Value → Prop} {v : Value} (hg : gd l0 L g = some true) (h : Ex P op N L (St w0 M σ H G) v) (hr : Rep σ v) : Ob P l0 ⟨some d, op, ty, pos, af, g⟩ N L (St w0 M σ H G) (.sat (QR Rep σ w0 (H ++ G))) :=
  ob_valS hg h fun w hs => QR.of hs hr
/-- A new block in a drawn region. -/
theorem QR.new {Rep : Hp → Value → Prop} {w : World} {v : Value} {o : Obj} (hs : St w0 M σ H G w) (hr : Rep (ext σ w.heap.size o) v) : QR Rep σ w0 (H ++ G) (w.alloc o) v := by
  have hs' : St w0 M σ ((w.heap.size, o) :: H) G (w.alloc o) := hs.alloc _
  refine ⟨ext σ w.heap.size o, le_ext (hs'.fresh (p := (w.heap.size, o)) (by simp)), fun k ob hk => ?_, hs'.freeze.im, hr, fun p hp => hs'.freeze.fresh hp⟩
  unfold ext at hk
  split at hk
  · rename_i hkb; subst hkb; exact .inr hs.ag.size
  · exact .inl hk
/-- append(ks[:len:len], x): laid anew. -/
theorem ob_appK {t e bytes : Nat} [h : AppT P t e 4 bytes] {x y : Operand} {p : Option Addr} {n b : Nat} {xs cx : List Value} {ks : List T} {u : T} (hg : gd l0 L g = some true) (hx : ev L x = some (.slice p n n)) (hy : ev L y = some (.slice (some ⟨b, 0, none⟩) 1 1))
    (hn : n = ks.length) (hrow : RowC σ xs ks) (hsrc : ks = [] ∨ ∃ b f, p = some ⟨b, f, none⟩ ∧ CellsAt σ b f xs) (hcx : CellsAt σ b 0 cx) (hu : TermC σ cx u) (hlen : ks.length < maxKids) (hb : (n + 1) * bytes ≤ 140737488355328) :
    Ob P l0 ⟨some d, .call { callee := .builtin .append, args := #[x, y], argTypes := #[t, t] }, ty, pos, af, g⟩ N L (St w0 M σ H G) (.sat (QR (RepK (ks ++ [u])) σ w0 (H ++ G))) := ob_w hg fun a w hf hs d ty pos af g => by
  obtain ⟨ht, ⟨i, z, hi, hz, hi4, rfl, hzs⟩, hpos⟩ := h.ok
  subst hn
  have hxl := hrow.len
  have hnews : ∀ j v, cx[j]? = some v → w.cell? ((⟨b, 0, none⟩ : Addr).add j) = some v := fun j v hj => by rw [addr_add]; exact hcx.range hs.im j v hj
  have hml : ks.length + 1 ≤ maxLen := by unfold maxKids at hlen; unfold maxLen; omega
  have h63 : ((ks.length + 1 : Nat) : Int) ≤ 9223372036854775807 := by unfold maxLen at hml; omega
  have hrun : ∃ c, ks.length + 1 ≤ c ∧ (Builtin.append_ #[t, t] ty #[.slice p ks.length ks.length, .slice (some ⟨b, 0, none⟩) 1 1]).run P w =
      .ok (.slice (some ⟨w.heap.size, 0, none⟩) (ks.length + 1) c) (w.drew.alloc (.cells (xs.toArray ++ cx.toArray ++ Builtin.zeroCells z.cells (c - (ks.length + 1))) e)) := by
    cases p with
    | none =>
      have hk : ks = [] := by
        rcases hsrc with h | ⟨_, _, h, _⟩
        · exact h
        · cases h
      subst hk
      have hx0 : xs = [] := List.eq_nil_of_length_eq_zero (by simpa using hxl)
      subst hx0
      have := run_append_nil (P := P) w t ty e i z ht hi hz ⟨b, 0, none⟩ 1 1 cx (by rw [hu.len, hi4]) hnews (by omega) (by omega) (by simp at hb; omega)
      exact ⟨_, by simpa using grownCap_ge w 1 0 e, by simpa using this⟩
    | some ad =>
      have holds : ∀ j v, xs[j]? = some v → w.cell? (ad.add j) = some v := fun j v hj => by
        rcases hsrc with hk | ⟨b', f, hp, hc⟩
        · subst hk
          have hx0 : xs = [] := List.eq_nil_of_length_eq_zero (by simpa using hxl)
          subst hx0; simp at hj
        · cases hp; rw [addr_add]; exact hc.range hs.im j v hj
      have := run_append_grow (P := P) w t ty e i z ht hi hz ad ks.length ks.length xs (by rw [hxl, hi4]) holds ⟨b, 0, none⟩ 1 1 cx (by rw [hu.len, hi4]) hnews (by omega) h63 (growslice_fits (by omega) hb)
      exact ⟨_, grownCap_ge w (ks.length + 1) ks.length e, this⟩
  obtain ⟨c, hc, hrun⟩ := hrun
  refine ⟨.slice (some ⟨w.heap.size, 0, none⟩) (ks.length + 1) c, w.drew.alloc (.cells (xs.toArray ++ cx.toArray ++ Builtin.zeroCells z.cells (c - (ks.length + 1))) e), by simp only [execOp, resolve, invoke, builtin]; simp [hf.eval hx, hf.eval hy, hrun], ((Below.refl w.heap.size w).drew).alloc (Nat.le_refl _) _, QR.new hs.drew ?_⟩
  have hle : Le σ (ext σ w.drew.heap.size (.cells (xs.toArray ++ cx.toArray ++ Builtin.zeroCells z.cells (c - (ks.length + 1))) e)) := le_ext ((hs.drew.alloc (.cells (xs.toArray ++ cx.toArray ++ Builtin.zeroCells z.cells (c - (ks.length + 1))) e)).fresh List.mem_cons_self)
  have hr2 : RowC (ext σ w.drew.heap.size (.cells (xs.toArray ++ cx.toArray ++ Builtin.zeroCells z.cells (c - (ks.length + 1))) e)) (xs ++ cx) (ks ++ [u]) := (hrow.append (RowC.one hu)).le hle
  refine ⟨some ⟨w.heap.size, 0, none⟩, c, by simp, by simpa using hc, by simp; omega, .inr ⟨w.heap.size, 0, rfl, hr2.elems ⟨_, e, (0, 0), ext_self _ _ _, fun j v hj => ?_⟩⟩⟩
  have hlt := (List.getElem?_eq_some_iff.1 hj).1
  rw [Nat.zero_add, ← Array.getElem?_toList]
  simp only [Array.toList_append]
  rw [List.getElem?_append_left (by simpa using hlt)]
  simpa using hj
end

section
variable {P : Program} {l0 : List Oper} {N : Nat} {L0 : TL} {K : List KE} {fin : List KE → Prop} {r : List Oper} {i d : Nat} {ty : TypeId} {pos : String} {af : Array Edge} {g : Option (Nat × Bool)} {op : Op} {w0 : World} {M : Nat → Prop} {σ : Hp} {H G : List (Nat × Obj)}
/-- What is known by a law alone, out of what is known by a law alone. -/
theorem flow_open {Rep RepA : Hp → Value → Prop} (t : Nat) (hq : satK af.toList K t = some (QR RepA σ w0 (H ++ G)))
    (h : ∀ v τ, Le σ τ → Fresh σ τ w0 → RepA τ v → Ob P l0 ⟨some d, op, ty, pos, af, g⟩ N ((t, v) :: tlK af.toList L0 K) (St w0 M τ H G) (.sat (QR Rep τ w0 (H ++ G))))
    (k : Flow P l0 L0 (St w0 M σ H G) N fin r (i + 1) (⟨i, d, .sat (QR Rep σ w0 (H ++ G))⟩ :: K)) : Flow P l0 L0 (St w0 M σ H G) N fin (⟨some d, op, ty, pos, af, g⟩ :: r) i K :=
  flow_sat QR.pers (obk_sat t hq fun v => ob_open fun τ hl hf hr => ob_up hl hf (h v τ hl hf hr)) k
end

/-! ### Right terms are in order already -/
theorem slim_mono {B C : Nat} (h : B ≤ C) : ∀ (t : T), slim B t → slim C t := by
  intro t
  induction t using T.ind with
  | _ o n d ks ih =>
    intro hs
    obtain ⟨h1, h2⟩ := slim_mk.1 hs
    exact slim_mk.2 ⟨Nat.le_trans h1 h, fun k hk => ih k hk (h2 k hk)⟩
theorem shape_kids {o n : Int} {d : List UInt8} {ks : List T} (h : shape o n d ks = true) : ks.length ≤ 4 := by
  unfold shape at h
  simp only [Bool.and_eq_true] at h
  have := h.2
  split at this
  · simp at this; simp [this]
  · split at this
    · simpa using this
    · simp at this; omega
theorem norms_map : ∀ {ks : List T}, (∀ k ∈ ks, norm k = k) → norms ks = ks
  | [], _ => rfl
  | k :: r, h => by rw [norms, h k List.mem_cons_self, norms_map fun x hx => h x (List.mem_cons_of_mem _ hx)]
theorem rightD_norm : ∀ (t : T) {dp : Nat}, rightD t dp = true → norm t = t ∧ slim 4 t := by
  intro t
  induction t using T.ind with
  | _ o n d ks ih =>
    intro dp h
    rw [rightD_mk] at h
    simp only [Bool.and_eq_true] at h
    obtain ⟨⟨⟨_, hsh⟩, hrs⟩, hso⟩ := h
    have hk : ∀ k ∈ ks, norm k = k ∧ slim 4 k := fun k hk => by
      obtain ⟨i, hi, e⟩ := List.mem_iff_getElem.1 hk
      have := rightsD_iff.1 hrs i hi
      rw [e] at this
      exact ih k hk this
    refine ⟨?_, slim_mk.2 ⟨shape_kids hsh, fun k hkk => (hk k hkk).2⟩⟩
    rw [norm_mk, norms_map fun k hkk => (hk k hkk).1, ← sortB_is (List.Perm.refl ks) hso]
    simp
theorem right_norm {t : T} (h : right t = true) : norm t = t ∧ slim 4 t := rightD_norm t h
/-- What the program lays: the power behind the others, all then put in order. -/
theorem pow_prog {t x : T} (ht : right t = true) (hx : right x = true) : norm (.mk 7 0 [] (t.kids ++ [x])) = powT t x ∧ slim 19 (.mk 7 0 [] (t.kids ++ [x])) ∨ t.op ≠ 7 := by
  by_cases ho : t.op = 7
  · left
    obtain ⟨o, n, d, ks⟩ := t
    have ho' : o = 7 := ho
    subst ho'
    obtain ⟨h1, h2⟩ := right_norm ht
    obtain ⟨h3, h4⟩ := slim_mk.1 h2
    obtain ⟨_, hrs, hso⟩ := right_shape ht
    simp only [T.kids] at *
    have hk : ∀ k ∈ ks, norm k = k := fun k hk => by
      obtain ⟨i, hi, e⟩ := List.mem_iff_getElem.1 hk
      have := rightsD_iff.1 hrs i hi
      rw [e] at this
      exact (rightD_norm k this).1
    have hx' := right_norm hx
    refine ⟨?_, slim_mk.2 ⟨by simp; omega, fun k hk => ?_⟩⟩
    · rw [norm_mk, if_pos rfl, norms_app, norms_map hk]
      unfold powT
      have e : norms [x] = [x] := by rw [norms, hx'.1]; rfl
      rw [e]
      congr 1
      symm
      exact sortB_is ((putB_perm ks x).trans (by simpa using (List.perm_append_singleton x ks).symm)) (putB_sorted hso)
    · rcases List.mem_append.1 hk with hk | hk
      · exact slim_mono (by omega) k (h4 k hk)
      · rw [List.mem_singleton] at hk; subst hk; exact slim_mono (by omega) k hx'.2
  · exact .inr ho

/-! ### A new variable among what is drawn -/
def minus (σ : Hp) (b : Nat) : Hp := fun k => if k = b then none else σ k
def zeroO (e : Nat) : Obj := .cells #[.int .i64 0, .int .i64 0, .slice none 0 0, .slice none 0 0] e (0, 0)
theorem CellsAt.minus {σ : Hp} {b b' o : Nat} {cs : List Value} (h : CellsAt σ b' o cs) (hne : b' ≠ b) : CellsAt (minus σ b) b' o cs := by
  obtain ⟨arr, ty, fz, h1, h2⟩ := h
  exact ⟨arr, ty, fz, by unfold Go.Proofs.YtnjomdjkbbhdoaaDoor.minus; rw [if_neg hne]; exact h1, h2⟩
theorem BytesV.minus {σ : Hp} {b e : Nat} {v : Value} {d : List UInt8} (h : BytesV σ v d) (hz : σ b = none ∨ σ b = some (zeroO e)) : BytesV (minus σ b) v d := by
  obtain ⟨p, c, h1, h2, h3, h4⟩ := h
  refine ⟨p, c, h1, h2, h3, ?_⟩
  by_cases hd : d = []
  · exact .inl hd
  · obtain ⟨b', o, h5, h6⟩ := h4.resolve_left hd
    refine .inr ⟨b', o, h5, h6.minus ?_⟩
    rintro rfl
    obtain ⟨arr, ty, fz, e1, e2⟩ := h6
    rcases hz with hz | hz
    · rw [hz] at e1; cases e1
    · rw [hz] at e1
      obtain ⟨u, r, rfl⟩ := List.exists_cons_of_ne_nil hd
      have := e2 0 (byteV u) rfl
      unfold zeroO at e1
      cases e1
      obtain _ | _ | _ | _ | o := o <;> simp [byteV] at this
/-- None within is the zero term. -/
def noZ : T → Prop := fun t => T.rec (motive_1 := fun _ => Prop) (motive_2 := fun _ => Prop) (fun _ _ _ _ ih => ih) True (fun k _ h1 h2 => (k ≠ zeroT ∧ h1) ∧ h2) t
theorem noZ_mk {o n : Int} {d : List UInt8} {ks : List T} : noZ (.mk o n d ks) ↔ ∀ k ∈ ks, k ≠ zeroT ∧ noZ k := by
  have key : ∀ (l : List T), T.rec_1 (motive_1 := fun _ => Prop) (motive_2 := fun _ => Prop) (fun _ _ _ _ ih => ih) True (fun k _ h1 h2 => (k ≠ zeroT ∧ h1) ∧ h2) l ↔ ∀ k ∈ l, k ≠ zeroT ∧ noZ k := by
    intro l
    induction l with
    | nil => simp
    | cons a r ih => rw [List.forall_mem_cons, ← ih]; rfl
  rw [← key ks]; rfl
theorem TermC.zero {σ : Hp} {k : T} (h : TermC σ [.int .i64 0, .int .i64 0, .slice none 0 0, .slice none 0 0] k) : k = zeroT := by
  obtain ⟨dv, kv, e, _, _, hd, hk⟩ := h.opn
  obtain ⟨pd, cd, rfl, _, _⟩ := hd.slice
  obtain ⟨pk, ck, rfl, _, _⟩ := hk.slice
  obtain ⟨o, n, d, ks⟩ := k
  simp only [T.op, T.num, T.data, T.kids, List.cons.injEq, Value.int.injEq, Value.slice.injEq, true_and, and_true] at e
  obtain ⟨e1, e2, ⟨_, e3, _⟩, _, e4, _⟩ := e
  rw [← e1, ← e2, List.eq_nil_of_length_eq_zero e3.symm, List.eq_nil_of_length_eq_zero e4.symm]
  rfl
theorem TermC.minus {σ : Hp} {b e : Nat} (hz : σ b = none ∨ σ b = some (zeroO e)) : ∀ (t : T) {cs : List Value}, noZ t → TermC σ cs t → TermC (minus σ b) cs t := by
  intro t
  induction t using T.ind with
  | _ o n d ks ih =>
    intro cs hnz h
    have hk := noZ_mk.1 hnz
    obtain ⟨dv, kv, rfl, ho, hn, hd, hkv⟩ := h.opn
    simp only [T.kids, T.op, T.num, T.data] at *
    refine TermC.mk ho hn (hd.minus hz) ?_
    obtain ⟨p, c, h1, h2, h3, h4⟩ := hkv
    refine ⟨p, c, h1, h2, h3, ?_⟩
    by_cases hks : ks = []
    · exact .inl hks
    · obtain ⟨b', f, h5, h6⟩ := h4.resolve_left hks
      refine .inr ⟨b', f, h5, ElemsC.of fun i hi => ?_⟩
      obtain ⟨cs, h7, h8⟩ := h6.get i hi
      refine ⟨cs, h7.minus ?_, ih _ (List.getElem_mem hi) (hk _ (List.getElem_mem hi)).2 h8⟩
      rintro rfl
      obtain ⟨arr, ty, fz, e1, e2⟩ := h7
      rcases hz with hz | hz
      · rw [hz] at e1; cases e1
      · rw [hz] at e1
        unfold zeroO at e1
        cases e1
        obtain ⟨v0, v1, v2, v3, rfl⟩ : ∃ v0 v1 v2 v3, cs = [v0, v1, v2, v3] := by
          obtain ⟨_, _, rfl, _⟩ := h8.opn; exact ⟨_, _, _, _, rfl⟩
        have q3 := e2 3 v3 rfl
        have hf : f + i * 4 = 0 := by
          have := (Array.getElem?_eq_some_iff.1 q3).1
          simp at this; omega
        rw [hf] at e2
        have q0 := e2 0 v0 rfl
        have q1 := e2 1 v1 rfl
        have q2 := e2 2 v2 rfl
        have q3 := e2 3 v3 rfl
        simp at q0 q1 q2 q3
        subst q0 q1 q2 q3
        exact (hk _ (List.getElem_mem hi)).1 h8.zero
theorem rightD_noZ : ∀ (t : T) {dp : Nat}, rightD t dp = true → noZ t ∧ t ≠ zeroT := by
  intro t
  induction t using T.ind with
  | _ o n d ks ih =>
    intro dp h
    rw [rightD_mk] at h
    simp only [Bool.and_eq_true] at h
    obtain ⟨⟨⟨_, hsh⟩, hrs⟩, _⟩ := h
    refine ⟨noZ_mk.2 fun k hk => ?_, fun e => ?_⟩
    · obtain ⟨i, hi, e⟩ := List.mem_iff_getElem.1 hk
      have := rightsD_iff.1 hrs i hi
      rw [e] at this
      exact (ih k hk this).symm
    · cases e
      unfold shape at hsh
      simp at hsh
theorem powT_noZ {t x : T} (ht : right t = true) (hx : right x = true) : noZ (powT t x) := by
  unfold powT
  refine noZ_mk.2 fun k hk => ?_
  rcases List.mem_cons.1 ((putB_perm t.kids x).mem_iff.1 hk) with rfl | hk
  · exact (rightD_noZ k hx).symm
  · obtain ⟨o, n, d, ks⟩ := t
    obtain ⟨_, hrs, _⟩ := right_shape ht
    obtain ⟨i, hi, e⟩ := List.mem_iff_getElem.1 hk
    have := rightsD_iff.1 hrs i hi
    rw [e] at this
    exact (rightD_noZ k this).symm
def QA (e : Nat) (σ : Hp) (w0 : World) (K : List (Nat × Obj)) (w : World) (v : Value) : Prop := ∃ b, v = .pointer (some ⟨b, 0, none⟩) ∧ w.heap[b]? = some (zeroO e) ∧ w0.heap.size ≤ b ∧ σ b = none ∧ ∀ p ∈ K, p.1 ≠ b
theorem QA.pers {e : Nat} {σ : Hp} {w0 : World} {K : List (Nat × Obj)} : ∀ (w w' : World) (v : Value), QA e σ w0 K w v → Below w.heap.size w w' → QA e σ w0 K w' v := fun w w' v ⟨b, h1, h2, h3, h4, h5⟩ hb =>
  ⟨b, h1, by rw [hb.block b (Array.getElem?_eq_some_iff.1 h2).1]; exact h2, h3, h4, h5⟩
section
variable {P : Program} {l0 : List Oper} {Q : Exit → Act → World → Prop} {tail : List Oper} {N : Nat} {L : TL} {j j' d d' : Nat} {ty : TypeId} {pos : String} {af : Array Edge} {g : Option (Nat × Bool)} {w0 : World} {M : Nat → Prop} {σ : Hp} {H G : List (Nat × Obj)}
theorem ob_allocA {e : Nat} [hz : ZeroT P e (.agg #[.int .i64 0, .int .i64 0, .slice none 0 0, .slice none 0 0])] (hg : gd l0 L g = some true) : Ob P l0 ⟨some d, .alloc e, ty, pos, af, g⟩ N L (St w0 M σ H G) (.sat (QA e σ w0 (H ++ G))) := ob_w hg fun a w hf hs d ty pos af g => by
  have hz' := hz.ok
  have hs' : St w0 M σ ((w.heap.size, zeroO e) :: H) G (w.alloc (zeroO e)) := hs.alloc _
  refine ⟨.pointer (some ⟨w.heap.size, 0, none⟩), w.alloc (zeroO e), ?_, below_alloc1 _ _, w.heap.size, rfl, heap_push_new _ _, hs.ag.size, hs'.fresh (p := (w.heap.size, zeroO e)) List.mem_cons_self, fun p hp => Nat.ne_of_lt (hs.lt hp)⟩
  cases hi : P.info? e with
  | none => simp [hi] at hz'
  | some i =>
    have hz2 : i.zero = some (.agg #[.int .i64 0, .int .i64 0, .slice none 0 0, .slice none 0 0]) := by simpa [hi] using hz'
    simp [execOp, Instr.alloc, zeroValue, typeInfo, hi, hz2, newVar, newRow, zeroO, Value.cells]
theorem fin_allocT {e : Nat} {t : T} {K : List KE} (hnz : noZ t) (h : ∀ b cs τ, Le σ τ → Fresh σ τ w0 → TermC τ cs t → Fin P l0 Q tail N ((d', .agg cs.toArray) :: (d, .pointer (some ⟨b, 0, none⟩)) :: L) (St w0 M τ ((b, zeroO e) :: H) G) K) :
    Fin P l0 Q tail N L (St w0 M σ H G) (⟨j, d, .sat (QA e σ w0 (H ++ G))⟩ :: ⟨j', d', .sat (QR (RepT t) σ w0 (H ++ G))⟩ :: K) := fun a w hf hs hk => by
  obtain ⟨u, hu, b, rfl, hb2, hb3, hb4, hb5⟩ := hk _ List.mem_cons_self
  obtain ⟨v, hv, τ, h1, h2, h3, ⟨cs, rfl, h4⟩, h5⟩ := hk ⟨j', d', .sat (QR (RepT t) σ w0 (H ++ G))⟩ (List.mem_cons_of_mem _ List.mem_cons_self)
  have hz : τ b = none ∨ τ b = some (zeroO e) := by
    cases hτ : τ b with
    | none => exact .inl rfl
    | some o => right; have := h3 b o hτ; rw [hb2] at this; exact this.symm
  refine h b cs (minus τ b) (fun k o ho => ?_) (fun k o ho => ?_) (TermC.minus hz t hnz h4) a w (fr_add (fr_add hf hu) hv) ?_ (fun x hx => hk x (List.mem_cons_of_mem _ (List.mem_cons_of_mem _ hx)))
  · unfold minus
    rw [if_neg (by rintro rfl; rw [hb4] at ho; cases ho)]
    exact h1 k o ho
  · unfold minus at ho
    split at ho
    · cases ho
    · exact h2 k o ho
  · refine ⟨hs.ag, fun k o ho => ?_, fun p hp => ?_, fun p hp => ?_, fun p hp => ?_, ?_⟩
    · unfold minus at ho
      split at ho
      · cases ho
      · exact h3 k o ho
    · rcases List.mem_cons.1 hp with rfl | hp
      · exact hb2
      · exact St0.ow hs p hp
    · unfold minus
      split
      · rfl
      · rcases List.mem_cons.1 hp with rfl | hp
        · rename_i hne; exact absurd rfl hne
        · exact h5 p hp
    · rcases List.mem_cons.1 hp with rfl | hp
      · exact .inr hb3
      · exact St0.mo hs p hp
    · rw [List.cons_append, List.map_cons, List.nodup_cons]
      refine ⟨fun hm => ?_, St0.nd hs⟩
      obtain ⟨p, hp, e1⟩ := List.mem_map.1 hm
      exact hb5 p hp e1
end
end Go.Proofs.YtnjomdjkbbhdoaaDoor
