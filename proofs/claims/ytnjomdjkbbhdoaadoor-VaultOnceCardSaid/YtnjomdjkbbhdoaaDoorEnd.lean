/-
  The beginning and the end of a walk; what is read of owned blocks; where ways meet again.
  No condition; nothing of the seat's program stands here.
-/
import Derived.Test.YtnjomdjkbbhdoaaDoorRep
namespace Go.Proofs.YtnjomdjkbbhdoaaDoor
open Go.RowKit
set_option linter.unusedVariables false

def argL (k : Nat) : List Value → TL
  | [] => []
  | v :: r => (k, v) :: argL (k + 1) r
theorem lk_argL : ∀ (vs : List Value) (k i : Nat) (v : Value), lk (argL k vs) i = some v → k ≤ i ∧ vs[i - k]? = some v
  | [], _, _, _, h => by cases h
  | u :: r, k, i, v, h => by
    simp only [argL] at h
    rw [lk_cons] at h
    split at h
    · rename_i e; subst e; cases h; simp
    · rename_i e
      obtain ⟨h1, h2⟩ := lk_argL r (k + 1) i v h
      refine ⟨by omega, ?_⟩
      rw [show i - k = (i - (k + 1)) + 1 by omega]
      simpa using h2

theorem enter {P : Program} {f : FuncId} {fn : Func} {c : Code} {vs : List Value} {w : World} {R : Ending → World → Prop} {N : Nat} (S : World → Prop) (hf : P.funcs[f]? = some fn) (hb : fn.body = some c)
    (hn : fn.ntmps = N) (hle : Nat.ble vs.length N = true) (hS : S w) (h : CW P c (bodyPost P fn R) N (argL 0 vs) S) : Calls P f vs.toArray w R := by
  refine calls_of_wp hf hb (h _ w ⟨rfl, ?_, fun i v hv => ?_⟩ hS)
  · have : vs.length ≤ N := Nat.le_of_ble_eq_true hle
    simp [hn]; omega
  · obtain ⟨_, h2⟩ := lk_argL vs 0 i v hv
    have hi : i < vs.length := by have := (List.getElem?_eq_some_iff.1 h2).1; omega
    simp at h2
    have h3 := (List.getElem?_eq_some_iff.1 h2).2
    simp [Array.getElem?_append, hi, h3]

section
variable {P : Program} {fn : Func} {R : Ending → World → Prop} {N : Nat} {L : TL} {S : World → Prop}
theorem getD_of {a : Act} {t : Nat} {v : Value} (hf : Fr N L a) (hl : lk L t = some v) : a.tmps[t]?.getD undef = v := by rw [hf.get t v hl]; rfl
theorem qw_ret0 (hr : fn.results = #[]) (h : ∀ w, S w → R (.returned (.tuple #[])) w) : QW (bodyPost P fn R) .ret N L S := fun a w hf hs =>
  ⟨hf.df, .tuple #[], by simp [results, hr], h w hs⟩
theorem qw_end0 (hr : fn.results = #[]) (h : ∀ w, S w → R (.returned (.tuple #[])) w) : QW (bodyPost P fn R) .normal N L S := fun a w hf hs =>
  ⟨hf.df, .tuple #[], by simp [results, hr], h w hs⟩
theorem qw_ret1 {t : Nat} {v : Value} (hr : fn.results = #[.tmp t]) (hl : lk L t = some v) (h : ∀ w, S w → R (.returned v) w) : QW (bodyPost P fn R) .ret N L S := fun a w hf hs =>
  ⟨hf.df, v, by simp [results, hr, getD_of hf hl], h w hs⟩
theorem qw_ret2 {t u : Nat} {v x : Value} (hr : fn.results = #[.tmp t, .tmp u]) (hl : lk L t = some v) (hl' : lk L u = some x) (h : ∀ w, S w → R (.returned (.tuple #[v, x])) w) :
    QW (bodyPost P fn R) .ret N L S := fun a w hf hs =>
  ⟨hf.df, .tuple #[v, x], by simp [results, hr, getD_of hf hl, getD_of hf hl'], h w hs⟩
theorem qw_ret3 {t u s : Nat} {v x y : Value} (hr : fn.results = #[.tmp t, .tmp u, .tmp s]) (hl : lk L t = some v) (hl' : lk L u = some x) (hl'' : lk L s = some y) (h : ∀ w, S w → R (.returned (.tuple #[v, x, y])) w) :
    QW (bodyPost P fn R) .ret N L S := fun a w hf hs =>
  ⟨hf.df, .tuple #[v, x, y], by simp [results, hr, getD_of hf hl, getD_of hf hl', getD_of hf hl''], h w hs⟩
theorem run_cell {ty k b o : Nat} {cs : List Value} [h : RowT P ty k] {w : World} (hl : cs.length = k) (hc : w.rangeAt b o cs) : (loadVar ty ⟨b, o, none⟩).run P w = .ok (.agg cs.toArray) w := by
  obtain ⟨d, h1, h2, h3⟩ := h.ok
  exact run_loadVar_mid w b o ty cs d hc h1 h2 (by rw [h3, hl])
theorem qw_retC {t ty k b o : Nat} {cs : List Value} [RowT P ty k] (hr : fn.results = #[.cell t ty]) (hl : lk L t = some (.pointer (some ⟨b, o, none⟩))) (hkc : cs.length = k ∧ ∀ w, S w → w.rangeAt b o cs)
    (h : ∀ w, S w → R (.returned (.agg cs.toArray)) w) : QW (bodyPost P fn R) .ret N L S := fun a w hf hs =>
  ⟨hf.df, .agg cs.toArray, by simp [results, hr, getD_of hf hl, asAddr, run_cell hkc.1 (hkc.2 w hs)], h w hs⟩
theorem qw_retC1 {t ty k b o u : Nat} {cs : List Value} {x : Value} [RowT P ty k] (hr : fn.results = #[.cell t ty, .tmp u]) (hl : lk L t = some (.pointer (some ⟨b, o, none⟩))) (hkc : cs.length = k ∧ ∀ w, S w → w.rangeAt b o cs) (hl' : lk L u = some x) (h : ∀ w, S w → R (.returned (.tuple #[.agg cs.toArray, x])) w) : QW (bodyPost P fn R) .ret N L S := fun a w hf hs =>
  ⟨hf.df, .tuple #[.agg cs.toArray, x], by simp [results, hr, getD_of hf hl, getD_of hf hl', asAddr, run_cell hkc.1 (hkc.2 w hs)], h w hs⟩
theorem qw_retCC1 {t s ty k b o b' o' u : Nat} {cs cs' : List Value} {x : Value} [RowT P ty k] (hr : fn.results = #[.cell t ty, .cell s ty, .tmp u]) (hl : lk L t = some (.pointer (some ⟨b, o, none⟩))) (hkc : cs.length = k ∧ ∀ w, S w → w.rangeAt b o cs) (hls : lk L s = some (.pointer (some ⟨b', o', none⟩))) (hkc' : cs'.length = k ∧ ∀ w, S w → w.rangeAt b' o' cs')
    (hl' : lk L u = some x) (h : ∀ w, S w → R (.returned (.tuple #[.agg cs.toArray, .agg cs'.toArray, x])) w) : QW (bodyPost P fn R) .ret N L S := fun a w hf hs =>
  ⟨hf.df, .tuple #[.agg cs.toArray, .agg cs'.toArray, x], by simp [results, hr, getD_of hf hl, getD_of hf hls, getD_of hf hl', asAddr, run_cell hkc.1 (hkc.2 w hs), run_cell hkc'.1 (hkc'.2 w hs)], h w hs⟩
end

/-! ### Where ways meet -/
section
variable {P : Program} {Q : Exit → Act → World → Prop} {N : Nat} {L : TL} {S : World → Prop}
def Meet (N : Nat) (L : TL) (S : World → Prop) (a : Act) (w : World) : Prop := Fr N L a ∧ S w
theorem cw_cut {x y : Code} (L' : TL) (S' : World → Prop) (h1 : CW P x (Exit.then (Meet N L' S') Q) N L S) (h2 : CW P y Q N L' S') : CW P (.seq x y) Q N L S := fun a w hf hs =>
  wp_seq (wp_mono (h1 a w hf hs) (fun e a' w' h => by
    cases e with
    | normal => exact h2 a' w' h.1 h.2
    | _ => exact h))
/-- Where ways meet, one temporary more is known. -/
theorem cw_cut1 {x y : Code} (d : Nat) (v : Value) (h1 : CW P x (Exit.then (Meet N ((d, v) :: L) S) Q) N L S) (h2 : CW P y Q N ((d, v) :: L) S) : CW P (.seq x y) Q N L S := cw_cut _ _ h1 h2
theorem qw_meet {L' : TL} {S' : World → Prop} (hl : subL L L') (hS : ∀ w, S w → S' w) : QW (Exit.then (Meet N L' S') Q) .normal N L S := fun a w hf hs => ⟨hf.sub hl, hS w hs⟩
end

/-! ### A loop that leaves memory as it is known -/
section
variable {P : Program} {Q : Exit → Act → World → Prop} {N : Nat} {L : TL} {S : World → Prop} {α : Type}
def Rnd (N : Nat) (I : α → TL) (p : α → Prop) (μ : α → Nat) (S : World → Prop) (m : Nat) (a : Act) (w : World) : Prop := ∃ y, μ y < m ∧ p y ∧ Fr N (I y) a ∧ S w
theorem cw_loopS {c : Code} (I : α → TL) (p : α → Prop) (μ : α → Nat) (x0 : α) (hL : subL L (I x0)) (hp : p x0) (round : ∀ x, p x → CW P c (Exit.then (Rnd N I p μ S (μ x)) Q) N (I x) S) :
    CW P (.loop c) Q N L S :=
  cw_loop I (fun x w => p x ∧ S w) μ x0 hL (fun w hs => ⟨hp, hs⟩) (fun x => cw_and fun hx a w hf hs => wp_mono (round x hx a w hf hs) (fun e a' w' h => by
    cases e with
    | normal => obtain ⟨y, h1, h2, h3, h4⟩ := h; exact ⟨y, h1, h3, h2, h4⟩
    | _ => exact h))
theorem qw_roundS {I : α → TL} {p : α → Prop} {μ : α → Nat} {m : Nat} {S' : World → Prop} (y : α) (hmu : μ y < m) (hL : subL L (I y)) (hp : p y) (hS : ∀ w, S w → S' w := by exact fun w h => h) :
    QW (Exit.then (Rnd N I p μ S' m) Q) .normal N L S := fun a w hf hs => ⟨y, hmu, hp, hf.sub hL, hS w hs⟩
end

/-! ### What is read -/
def nthV : List Value → Nat → Option Value
  | [], _ => none
  | v :: _, 0 => some v
  | _ :: r, n + 1 => nthV r n
def takeV : List Value → Nat → Option (List Value)
  | _, 0 => some []
  | [], _ + 1 => none
  | v :: r, n + 1 => match takeV r n with
    | some t => some (v :: t)
    | none => none
def dropV : List Value → Nat → List Value
  | l, 0 => l
  | [], _ + 1 => []
  | _ :: r, n + 1 => dropV r n
theorem nthV_eq : ∀ (l : List Value) (i : Nat), nthV l i = l[i]?
  | [], i => by simp [nthV]
  | v :: r, 0 => by simp [nthV]
  | v :: r, n + 1 => by rw [nthV, nthV_eq r n]; simp
theorem takeV_get : ∀ {l : List Value} {k : Nat} {cs : List Value}, takeV l k = some cs → cs.length = k ∧ ∀ (j : Nat) (v : Value), cs[j]? = some v → l[j]? = some v
  | l, 0, cs, h => by simp [takeV] at h; subst h; simp
  | [], k + 1, cs, h => by simp [takeV] at h
  | v :: r, k + 1, cs, h => by
    simp only [takeV] at h
    cases ht : takeV r k with
    | none => simp [ht] at h
    | some t =>
      rw [ht] at h
      cases h
      obtain ⟨h1, h2⟩ := takeV_get ht
      refine ⟨by simp [h1], fun j u hu => ?_⟩
      cases j with
      | zero => simpa using hu
      | succ j => exact h2 j u (by simpa using hu)
theorem dropV_eq : ∀ (l : List Value) (i : Nat), dropV l i = l.drop i
  | l, 0 => by simp [dropV]
  | [], i + 1 => by simp [dropV]
  | v :: r, i + 1 => by rw [dropV, dropV_eq r i]; simp
section
variable {w0 : World} {M : Nat → Prop} {σ : Hp} {H G : List (Nat × Obj)} {b o : Nat}
theorem ld_own1 (i : Nat) {arr : Array Value} {et : TypeId} {fz : Nat × Nat} {v : Value} (hH : H[i]? = some (b, .cells arr et fz)) (hv : nthV arr.toList o = some v) : ∀ w, St w0 M σ H G w → w.cell? ⟨b, o, none⟩ = some v := fun w hs => by
  rw [cell_of_blk (hs.own (List.mem_of_getElem? hH))]
  rw [nthV_eq] at hv
  simpa using hv
theorem ld_ownN (i : Nat) {arr : Array Value} {et : TypeId} {fz : Nat × Nat} {k : Nat} {cs : List Value} (hH : H[i]? = some (b, .cells arr et fz)) (hv : takeV (dropV arr.toList o) k = some cs) :
    cs.length = k ∧ ∀ w, St w0 M σ H G w → w.rangeAt b o cs := by
  obtain ⟨h1, h2⟩ := takeV_get hv
  refine ⟨h1, fun w hs j v hj => ?_⟩
  rw [cell_of_blk (hs.own (List.mem_of_getElem? hH))]
  have := h2 j v hj
  rw [dropV_eq, List.getElem?_drop] at this
  simpa using this
theorem ld_imm1 {v : Value} (h : CellsAt σ b o [v]) : ∀ w, St w0 M σ H G w → w.cell? ⟨b, o, none⟩ = some v := fun w hs => h.cell hs.im
theorem ld_immN {k : Nat} {cs : List Value} (h : CellsAt σ b o cs) (hl : cs.length = k) : cs.length = k ∧ ∀ w, St w0 M σ H G w → w.rangeAt b o cs := ⟨hl, fun w hs => h.range hs.im⟩
theorem ld_immT {cs : List Value} {t : T} (h : CellsAt σ b o cs) (ht : TermC σ cs t) : cs.length = 4 ∧ ∀ w, St w0 M σ H G w → w.rangeAt b o cs := ⟨ht.len, fun w hs => h.range hs.im⟩
end
theorem ex_loadR {P : Program} {N : Nat} {L : TL} {S : World → Prop} {ty b o k : Nat} {x : Operand} {cs : List Value} [RowT P ty k] (h : ev L x = some (.pointer (some ⟨b, o, none⟩)))
    (hc : cs.length = k ∧ ∀ w, S w → w.rangeAt b o cs) : Ex P (.load ty x) N L S (.agg cs.toArray) := ex_loadN h hc.1 hc.2

/-! ### Stores -/
section
variable {P : Program} {N : Nat} {L : TL} {w0 : World} {M : Nat → Prop} {σ : Hp} {H G : List (Nat × Obj)}
theorem exu_store1 (i : Nat) {ty b o : Nat} {x y : Operand} {v : Value} {arr : Array Value} {et : TypeId} [h : OneT P ty] (hx : ev L x = some (.pointer (some ⟨b, o, none⟩))) (hy : ev L y = some v)
    (hH : H[i]? = some (b, .cells arr et)) (hv : v.cells = #[v]) (ho : v.oneCell' = true) (hle0 : Nat.ble (o + 1) arr.size = true) :
    ExU P (.store ty x y) N L (St w0 M σ H G) (St w0 M σ (setH H i (.cells (over arr o [v]) et)) G) := by
  have hle := Nat.le_of_ble_eq_true hle0
  have := exu_store (P := P) (N := N) (w0 := w0) (M := M) (σ := σ) (G := G) (ty := ty) hx hy hH (by rw [hv]; exact (h.ok).choose_spec.2.2) (by rw [hv]; simp; omega) (by rw [hv]; simp [ho])
  rwa [hv] at this
theorem exu_storeN (i : Nat) {ty b o k : Nat} {x y : Operand} {cs : List Value} {arr : Array Value} {et : TypeId} [h : RowT P ty k] (hx : ev L x = some (.pointer (some ⟨b, o, none⟩)))
    (hy : ev L y = some (.agg cs.toArray)) (hH : H[i]? = some (b, .cells arr et)) (hl : cs.length = k) (ho : ∀ v ∈ cs, v.oneCell' = true) (hle0 : Nat.ble (o + k) arr.size = true) :
    ExU P (.store ty x y) N L (St w0 M σ H G) (St w0 M σ (setH H i (.cells (over arr o cs) et)) G) := by
  have hle := Nat.le_of_ble_eq_true hle0
  have := exu_store (P := P) (N := N) (w0 := w0) (M := M) (σ := σ) (G := G) (ty := ty) hx hy hH (by rw [(h.ok).choose_spec.2.2, ← hl]; simp [Value.cells]) (by simpa [Value.cells, hl] using hle)
    (Array.all_eq_true_iff_forall_mem.2 (fun v hv => ho v (by simpa [Value.cells] using hv)))
  simpa [Value.cells] using this
end
theorem TermC.one {σ : Hp} {cs : List Value} {t : T} (h : TermC σ cs t) : ∀ v ∈ cs, v.oneCell' = true := by
  obtain ⟨dv, kv, rfl, _, _, hb, hk⟩ := h.opn
  obtain ⟨p, c, rfl, _⟩ := hb.slice
  obtain ⟨p', c', rfl, _⟩ := hk.slice
  intro v hv
  simp at hv
  rcases hv with rfl | rfl | rfl | rfl <;> rfl

/-! ### What is known still -/
def clash (A : TL) : TL → Bool
  | [] => false
  | p :: r => match lk A p.1 with
    | some _ => true
    | none => clash A r
theorem lk_app {A B : TL} {i : Nat} (h : lk A i = none) : lk (A ++ B) i = lk B i := by
  induction A with
  | nil => rfl
  | cons p r ih =>
    obtain ⟨k, v⟩ := p
    rw [lk_cons] at h
    split at h
    · cases h
    · rename_i hk
      rw [List.cons_append, lk_cons, if_neg hk]
      exact ih h
theorem clash_lk {A : TL} : ∀ {B : TL}, clash A B = false → ∀ i v, lk B i = some v → lk A i = none
  | [], _, i, v, h => by cases h
  | q :: r, h, i, v, hi => by
    obtain ⟨k, u⟩ := q
    simp only [clash] at h
    have h1 : lk A k = none := by
      cases e : lk A k with
      | none => rfl
      | some v => rw [e] at h; cases h
    rw [h1] at h
    rw [lk_cons] at hi
    split at hi
    · rename_i e; subst e; exact h1
    · exact clash_lk h i v hi
theorem subL_cons {L L' : TL} {i : Nat} {v : Value} (h : lk L i = some v) (t : subL L L') : subL L ((i, v) :: L') := fun j u hj => by
  rw [lk_cons] at hj
  split at hj
  · rename_i e; subst e; cases hj; exact h
  · exact t j u hj
theorem subL_nil (L : TL) : subL L [] := fun i v h => by cases h
theorem subL_refl (L : TL) : subL L L := fun i v h => h
theorem lkv {L : TL} {i : Nat} {v u : Value} (h : lk L i = some v) (e : v = u) : lk L i = some u := by rw [h, e]
/-- What was known before those of A were written. -/
theorem subL_old {L L0 : TL} (A : TL) (h : L = A ++ L0) (hc : clash A L0 = false) : subL L L0 := fun i v hi => by
  subst h
  rw [lk_app (clash_lk hc i v hi)]; exact hi
theorem subL_drop (k : Nat) {L L0 : TL} (h : L.drop k = L0) (hc : clash (L.take k) L0 = false) : subL L L0 := by
  subst h
  exact subL_old (L.take k) (List.take_append_drop k L).symm hc
def clashX (d : Nat) (A : TL) : TL → Bool
  | [] => false
  | p :: r => match Nat.beq p.1 d with
    | true => clashX d A r
    | false => match lk A p.1 with
      | some _ => true
      | none => clashX d A r
theorem clashX_lk {d : Nat} {A : TL} : ∀ {B : TL}, clashX d A B = false → ∀ i v, i ≠ d → lk B i = some v → lk A i = none
  | [], _, i, v, _, h => by cases h
  | q :: r, h, i, v, hid, hi => by
    obtain ⟨k, u⟩ := q
    rw [lk_cons] at hi
    simp only [clashX] at h
    cases hb : Nat.beq k d with
    | true =>
      rw [hb] at h
      have : k = d := Nat.eq_of_beq_eq_true hb
      split at hi
      · rename_i e; exact absurd (e.symm.trans this) hid
      · exact clashX_lk h i v hid hi
    | false =>
      rw [hb] at h
      have h1 : lk A k = none := by
        cases e : lk A k with
        | none => rfl
        | some v => simp [e] at h
      simp only [h1] at h
      split at hi
      · rename_i e; subst e; exact h1
      · exact clashX_lk h i v hid hi
/-- Where ways meet: the temporary d is known anew, all that was known before still. -/
theorem subL_meet (k d : Nat) {L L0 : TL} {v : Value} (hv : lk L d = some v) (h : L.drop k = L0) (hc : clashX d (L.take k) L0 = false) : subL L ((d, v) :: L0) := fun i u hi => by
  rw [lk_cons] at hi
  split at hi
  · rename_i e; subst e; cases hi; exact hv
  · rename_i hid
    have e : L = L.take k ++ L0 := by rw [← h]; exact (List.take_append_drop k L).symm
    rw [e, lk_app (clashX_lk hc i u (fun e => hid (by first | exact e | exact e.symm)) hi)]
    exact hi
theorem subL_trans {A B C : TL} (h : subL A B) (k : subL B C) : subL A C := fun i v hi => h i v (k i v hi)

/-- An aggregate whose cells are a list. -/
theorem agg_cells (cs : List Value) : (Value.agg cs.toArray).cells = cs.toArray := rfl

theorem beq_t {b : Bool} (h : b = true) : (b == true) = true := by rw [h]; rfl
theorem beq_f {b : Bool} (h : b = false) : (b == false) = true := by rw [h]; rfl
theorem beq_tf {b : Bool} (h : b = true) : (b == false) = false := by rw [h]; rfl
theorem beq_ft {b : Bool} (h : b = false) : (b == true) = false := by rw [h]; rfl

section
variable {P : Program} {l0 : List Oper} {Q : Exit → Act → World → Prop} {rest : List Oper} {N : Nat} {L : TL} {S : World → Prop} {d : Nat} {ty : TypeId} {pos : String}
  {af : Array Edge} {g : Option (Nat × Bool)} {op : Op}
/-- What a guard hangs on. -/
def gb (l0 : List Oper) (L : TL) : Option (Nat × Bool) → Option Bool
  | none => none
  | some (j, want) => match nth l0 j with
    | some d => match lk L d with
      | some (.bool b) => some b
      | _ => none
    | none => none
theorem gd_gb {j : Nat} {want b : Bool} (h : gb l0 L (some (j, want)) = some b) : gd l0 L (some (j, want)) = some (b == want) := by
  simp only [gb] at h
  simp only [gd]
  cases hn : nth l0 j with
  | none => simp [hn] at h
  | some d =>
    rw [hn] at h
    simp only at h ⊢
    cases hl : lk L d with
    | none => simp [hl] at h
    | some v => cases v <;> simp [hl] at h ⊢; exact congrArg (· == want) h
theorem gd_go {j : Nat} {want b : Bool} (h : gb l0 L (some (j, want)) = some b) (hb : b = want) : gd l0 L (some (j, want)) = some true := by
  rw [gd_gb h, hb]; cases want <;> rfl
theorem gd_no {j : Nat} {want b : Bool} (h : gb l0 L (some (j, want)) = some b) (hb : b = !want) : gd l0 L (some (j, want)) = some false := by
  rw [gd_gb h, hb]; cases want <;> rfl
theorem ow_split {g : Option (Nat × Bool)} {b : Bool} {l : List Oper} (hb : gb l0 L g = some b) (ht : b = true → OW P l0 Q l N L S) (hf : b = false → OW P l0 Q l N L S) : OW P l0 Q l N L S := by
  cases b
  · exact hf rfl
  · exact ht rfl
theorem ow_splitv (t : Nat) {b : Bool} {l : List Oper} (hb : lk L t = some (.bool b)) (ht : b = true → OW P l0 Q l N L S) (hf : b = false → OW P l0 Q l N L S) : OW P l0 Q l N L S := by
  cases b
  · exact hf rfl
  · exact ht rfl
theorem flow_split {L0 : TL} {fin : List KE → Prop} {i : Nat} {K : List KE} {dd : Option Nat} {b : Bool} (hb : gb l0 (tlK af.toList L0 K) g = some b)
    (ht : b = true → Flow P l0 L0 S N fin (⟨dd, op, ty, pos, af, g⟩ :: rest) i K) (hf : b = false → Flow P l0 L0 S N fin (⟨dd, op, ty, pos, af, g⟩ :: rest) i K) :
    Flow P l0 L0 S N fin (⟨dd, op, ty, pos, af, g⟩ :: rest) i K := by
  cases b
  · exact hf rfl
  · exact ht rfl
theorem ex_pickt {c x y : Operand} {b : Bool} {v : Value} (hc : ev L c = some (.bool b)) (hb : b = true) (h : ev L x = some v) : Ex P (.pick c x y) N L S v := by
  subst hb; exact ex_pick_t hc h
theorem ex_pickf {c x y : Operand} {b : Bool} {v : Value} (hc : ev L c = some (.bool b)) (hb : b = false) (h : ev L y = some v) : Ex P (.pick c x y) N L S v := by
  subst hb; exact ex_pick_f hc h
theorem cw_cond_k {c : Operand} {x y : Code} {b : Bool} (hc : ev L c = some (.bool b)) (hb : b = true) (ht : CW P x Q N L S) : CW P (.cond c x y) Q N L S := by subst hb; exact cw_cond_t hc ht
theorem cw_cond_n {c : Operand} {x y : Code} {b : Bool} (hc : ev L c = some (.bool b)) (hb : b = false) (ht : CW P y Q N L S) : CW P (.cond c x y) Q N L S := by subst hb; exact cw_cond_f hc ht
end
end Go.Proofs.YtnjomdjkbbhdoaaDoor
