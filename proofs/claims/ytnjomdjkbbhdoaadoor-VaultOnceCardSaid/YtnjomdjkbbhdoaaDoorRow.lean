/-
  Rows that are appended to, slices that are cut, literals of slices and structs.
  No condition; nothing of the seat's program stands here.
-/
import Derived.Test.YtnjomdjkbbhdoaaDoorEnd
namespace Go.Proofs.YtnjomdjkbbhdoaaDoor
open Go.RowKit
set_option linter.unusedVariables false

/-- A slice whose row is the walk's own: its blocks are Gs. -/
def OwnSl (e size : Nat) (v : Value) (n : Nat) (xs : List Value) (Gs : List (Nat × Obj)) : Prop :=
  xs.length = n * size ∧ ((v = .slice none 0 0 ∧ n = 0 ∧ Gs = []) ∨
    ∃ g c cur, v = .slice (some ⟨g, 0, none⟩) n c ∧ Gs = [(g, .cells cur e (0, 0))] ∧ n ≤ c ∧ c ≤ maxLen ∧ cur.size = c * size ∧ cur.toList.take (n * size) = xs)
theorem OwnSl.nil (e size : Nat) : OwnSl e size (.slice none 0 0) 0 [] [] := ⟨by simp, .inl ⟨rfl, rfl, rfl⟩⟩

class AppT (P : Program) (t : TypeId) (e size bytes : outParam Nat) : Prop where
  ok : P.underlying t = some (.slice e) ∧ (∃ i z, P.info? e = some i ∧ i.zero = some z ∧ i.size = size ∧ i.bytes = bytes ∧ z.cells.size = size) ∧ 0 < size ∧ size ≤ 64

theorem St.drew {w0 w : World} {M : Nat → Prop} {σ : Hp} {H G : List (Nat × Obj)} (h : St w0 M σ H G w) : St w0 M σ H G w.drew := h.keep (Below.drewB w)

theorem st_append {P : Program} {t e size bytes : Nat} [hA : AppT P t e size bytes] {w0 w : World} {M : Nat → Prop} {σ : Hp} {H Gs Gr : List (Nat × Obj)} {v : Value} {n m c : Nat} {xs news : List Value} {p : Option Addr} {ty : TypeId}
    (hs : St w0 M σ H (Gs ++ Gr) w) (hO : OwnSl e size v n xs Gs) (hl : news.length = m * size) (hsrc : m = 0 ∨ ∃ b o, p = some ⟨b, o, none⟩ ∧ w.rangeAt b o news)
    (h1 : ∀ u ∈ news, u.oneCell' = true) (h63 : n + m ≤ maxLen) (hb : (n + m) * bytes ≤ 140737488355328) :
    ∃ v' w' Gs', (Builtin.append_ #[t, t] ty #[v, .slice p m c]).run P w = .ok v' w' ∧ OwnSl e size v' (n + m) (xs ++ news) Gs' ∧ St w0 M σ H (Gs' ++ Gr) w' ∧ (v' = .slice none 0 0 ↔ v = .slice none 0 0 ∧ m = 0) := by
  obtain ⟨ht, ⟨i, z, hi, hz, rfl, rfl, hzs⟩, hpos⟩ := hA.ok
  have hx := hO.1
  have hlen : (xs ++ news).length = (n + m) * i.size := by rw [List.length_append, hx, hl, Nat.add_mul]
  have h63' : n + m ≤ 9223372036854775807 := by unfold maxLen at h63; omega
  by_cases hm : m = 0
  · subst hm
    have hn : news = [] := List.eq_nil_of_length_eq_zero (by simpa using hl)
    subst hn
    refine ⟨v, w, Gs, ?_, by simpa using hO, hs, by simp⟩
    rcases hO.2 with ⟨rfl, rfl, rfl⟩ | ⟨g, cc, cur, rfl, rfl, h2, h3, h4, h5⟩
    · cases p <;> simp [Builtin.append_, run_underlying ht, sizeOf, typeInfo, hi, Builtin.lenOf, Builtin.firstCells, loadCells, loadCellsFrom]
    · cases p <;> simp [Builtin.append_, run_underlying ht, sizeOf, typeInfo, hi, Builtin.lenOf, Builtin.firstCells, loadCells, loadCellsFrom, h2, storeCells]
  · obtain ⟨b, o, rfl, hr⟩ := hsrc.resolve_left hm
    have hnews : ∀ j u, news[j]? = some u → w.cell? ((⟨b, o, none⟩ : Addr).add j) = some u := fun j u hj => by rw [addr_add]; exact hr j u hj
    have grown : ∀ (old : Nat), old < n + m → ∀ Gs0 : List (Nat × Obj), St w0 M σ H (Gs0 ++ Gr) w →
        ∃ g cc cur, OwnSl e i.size (.slice (some ⟨w.heap.size, 0, none⟩) (n + m) (grownCap w (n + m) old e)) (n + m) (xs ++ news) [(g, .cells cur e (0, 0))] ∧
          St w0 M σ H ([(g, .cells cur e (0, 0))] ++ Gr) (w.drew.alloc (.cells (xs.toArray ++ news.toArray ++ Builtin.zeroCells z.cells (grownCap w (n + m) old e - (n + m))) e)) ∧ cc = 0 := by
      intro old ho Gs0 hs0
      have hge := grownCap_ge w (n + m) old e
      have hcm : grownCap w (n + m) old e ≤ maxLen := grownCap_le_maxLen w (n + m) old e h63
      refine ⟨w.heap.size, 0, xs.toArray ++ news.toArray ++ Builtin.zeroCells z.cells (grownCap w (n + m) old e - (n + m)), ⟨hlen, .inr ⟨w.heap.size, _, _, rfl, rfl, hge, hcm, ?_, ?_⟩⟩, ?_, rfl⟩
      · simp only [Array.size_append, List.size_toArray, size_zeroCells, hzs, hx, hl, ← Nat.add_mul]
        congr 1
        omega
      · simp only [Array.toList_append, List.append_assoc]
        rw [← List.append_assoc, ← hlen]
        exact List.take_left
      · have h2 : St w0 M σ H Gr w.drew := (hs0.dropG (List.sublist_append_right _ _)).drew
        exact (h2.alloc _).toG
    rcases hO.2 with ⟨rfl, rfl, rfl⟩ | ⟨g, cc, cur, rfl, rfl, h2, h3, h4, h5⟩
    · have hx0 : xs = [] := List.eq_nil_of_length_eq_zero (by simpa using hx)
      subst hx0
      have hrun := run_append_nil (P := P) w t ty e i z ht hi hz ⟨b, o, none⟩ m c news hl hnews (by omega) (by omega) (by simp only [Nat.zero_add] at hb; omega)
      obtain ⟨g, _, cur, ho, hst, _⟩ := grown 0 (by omega) [] hs
      simp only [Nat.zero_add, List.nil_append, Array.empty_append] at ho hst ⊢
      exact ⟨_, _, _, hrun, ho, hst, by simp [hm]⟩
    · by_cases hroom : n + m ≤ cc
      · have hfit : n * i.size + news.length ≤ cur.size := by rw [hl, h4, ← Nat.add_mul]; exact Nat.mul_le_mul_right _ hroom
        have hg : w.heap[g]? = some (.cells cur e (0, 0)) := hs.ownG (p := (g, .cells cur e (0, 0))) (by simp)
        have hrun := run_append_room (P := P) w t ty e i ht hi g n cc cur hg ⟨b, o, none⟩ m c news hl hnews h1 hroom hfit
        rw [setRow_putBlk hg] at hrun
        refine ⟨_, _, [(g, .cells (cur.toList.take (n * i.size) ++ news ++ cur.toList.drop (n * i.size + news.length)).toArray e (0, 0))], hrun, ⟨hlen, .inr ⟨g, cc, _, rfl, rfl, hroom, h3, ?_, ?_⟩⟩,
          hs.putG (i := 0) rfl _, by simp⟩
        · simp only [List.size_toArray, List.length_append, List.length_take, List.length_drop, Array.length_toList]
          omega
        · rw [h5, ← hlen]
          exact List.take_left
      · have holds : ∀ j u, xs[j]? = some u → w.cell? ((⟨g, 0, none⟩ : Addr).add j) = some u := fun j u hj => by
          rw [addr_add, Nat.zero_add, cell_of_blk (hs.ownG (p := (g, .cells cur e (0, 0))) (by simp))]
          rw [← h5, List.getElem?_take] at hj
          split at hj
          · simpa using hj
          · cases hj
        have hrun := run_append_grow (P := P) w t ty e i z ht hi hz ⟨g, 0, none⟩ n cc xs hx holds ⟨b, o, none⟩ m c news hl hnews (by omega) (by omega) (growslice_fits (by omega) hb)
        obtain ⟨g', _, cur', ho, hst, _⟩ := grown cc (by omega) _ hs
        exact ⟨_, _, _, hrun, ho, hst, by simp⟩

section
variable {P : Program} {N : Nat} {L : TL} {w0 : World} {M : Nat → Prop} {σ : Hp} {H Gs Gr : List (Nat × Obj)}
/-- append(own slice, source...). -/
theorem exw_append {t e size bytes n m c : Nat} [AppT P t e size bytes] {x y : Operand} {v : Value} {xs news : List Value} {p : Option Addr} (hx : ev L x = some v) (hy : ev L y = some (.slice p m c))
    (hO : OwnSl e size v n xs Gs) (hl : news.length = m * size) (hsrc : m = 0 ∨ ∃ b o, p = some ⟨b, o, none⟩ ∧ ∀ w, St w0 M σ H (Gs ++ Gr) w → w.rangeAt b o news)
    (h1 : ∀ u ∈ news, u.oneCell' = true) (h63 : n + m ≤ maxLen) (hb : (n + m) * bytes ≤ 140737488355328) :
    ExW P (.call { callee := .builtin .append, args := #[x, y], argTypes := #[t, t] }) N L (St w0 M σ H (Gs ++ Gr))
      (fun v' w' => ∃ Gs', OwnSl e size v' (n + m) (xs ++ news) Gs' ∧ (v' = .slice none 0 0 ↔ v = .slice none 0 0 ∧ m = 0) ∧ St w0 M σ H (Gs' ++ Gr) w') := fun a w hf hs d ty pos af g => by
  obtain ⟨v', w', Gs', h2, h3, h4, h5⟩ := st_append (P := P) (t := t) (ty := ty) (c := c) (p := p) hs hO hl (hsrc.imp id fun ⟨b, o, e1, h⟩ => ⟨b, o, e1, h w hs⟩) h1 h63 hb
  exact ⟨v', w', by simp [execOp, resolve, invoke, builtin, hf.eval hx, hf.eval hy, h2], Gs', h3, h5, h4⟩
theorem ow_app {l0 : List Oper} {Q : Exit → Act → World → Prop} {rest : List Oper} {d : Nat} {ty : TypeId} {pos : String} {af : Array Edge} {g : Option (Nat × Bool)} {op : Op} {R : Value → List (Nat × Obj) → Prop} {z : Value → Prop}
    (hN : Nat.blt d N = true) (hg : gd l0 L g = some true)
    (h : ExW P op N L (St w0 M σ H (Gs ++ Gr)) (fun v' w' => ∃ Gs', R v' Gs' ∧ z v' ∧ St w0 M σ H (Gs' ++ Gr) w'))
    (k : ∀ v' Gs', R v' Gs' → z v' → OW P l0 Q rest N ((d, v') :: L) (St w0 M σ H (Gs' ++ Gr))) : OW P l0 Q (⟨some d, op, ty, pos, af, g⟩ :: rest) N L (St w0 M σ H (Gs ++ Gr)) :=
  ow_w hN hg h fun v' a w hf ⟨Gs', h1, hz, h2⟩ => k v' Gs' h1 hz a w hf h2

/-- xs[lo:hi] of a slice; xs[lo:hi:max]. -/
theorem ex_slice {t e k : Nat} [h : SlT P t e k] {S : World → Prop} {x lo hi : Operand} {b o n c : Nat} {i j : Nat} {ki kj : IntKind} (hx : ev L x = some (.slice (some ⟨b, o, none⟩) n c)) (hlo : ev L lo = some (.int ki (i : Int)))
    (hhi : ev L hi = some (.int kj (j : Int))) (h1 : i ≤ j) (h2 : j ≤ c) : Ex P (.slice t x (some lo) (some hi) none) N L S (.slice (some (if c = i then ⟨b, o, none⟩ else ⟨b, o + i * k, none⟩)) (j - i) (c - i)) := fun a w hf hs d ty pos af g => by
  obtain ⟨hu, hsz⟩ := h.ok
  cases hi' : P.info? e with
  | none => simp [hi'] at hsz
  | some ie =>
    have hk : ie.size = k := by simpa [hi'] using hsz
    simp [execOp, hf.eval hx, hf.eval hlo, hf.eval hhi, Instr.sliceAt, Instr.slice, Instr.sliceBounds, Instr.sliceBound, run_underlying hu, asIntOf, h1, h2, sizeOf, typeInfo, hi', hk, addr_add]
    split <;> rfl
theorem ex_slice_hi {t e k : Nat} [h : SlT P t e k] {S : World → Prop} {x hi : Operand} {p : Option Addr} {n c : Nat} {j : Nat} {kj : IntKind} (hx : ev L x = some (.slice p n c))
    (hhi : ev L hi = some (.int kj (j : Int))) (h2 : j ≤ c) : Ex P (.slice t x none (some hi) none) N L S (.slice p j c) := fun a w hf hs d ty pos af g => by
  obtain ⟨hu, hsz⟩ := h.ok
  cases hi' : P.info? e with
  | none => simp [hi'] at hsz
  | some ie =>
    cases p with
    | none => simp [execOp, hf.eval hx, hf.eval hhi, Instr.sliceAt, Instr.slice, Instr.sliceBounds, Instr.sliceBound, run_underlying hu, asIntOf, h2, sizeOf, typeInfo, hi']
    | some ad =>
      have : ad.add 0 = ad := by simp [Addr.add]
      simp [execOp, hf.eval hx, hf.eval hhi, Instr.sliceAt, Instr.slice, Instr.sliceBounds, Instr.sliceBound, run_underlying hu, asIntOf, h2, sizeOf, typeInfo, hi', this]
theorem ex_slice_him {t e k : Nat} [h : SlT P t e k] {S : World → Prop} {x hi mx : Operand} {p : Option Addr} {n c : Nat} {j m : Nat} {kj km : IntKind} (hx : ev L x = some (.slice p n c))
    (hhi : ev L hi = some (.int kj (j : Int))) (hmx : ev L mx = some (.int km (m : Int))) (h1 : j ≤ m) (h2 : m ≤ c) : Ex P (.slice t x none (some hi) (some mx)) N L S (.slice p j m) := fun a w hf hs d ty pos af g => by
  obtain ⟨hu, hsz⟩ := h.ok
  cases hi' : P.info? e with
  | none => simp [hi'] at hsz
  | some ie =>
    cases p with
    | none => simp [execOp, hf.eval hx, hf.eval hhi, hf.eval hmx, Instr.sliceAt, Instr.slice, Instr.sliceBounds, Instr.sliceBound, run_underlying hu, asIntOf, h1, h2, sizeOf, typeInfo, hi']
    | some ad =>
      have : ad.add 0 = ad := by simp [Addr.add]
      simp [execOp, hf.eval hx, hf.eval hhi, hf.eval hmx, Instr.sliceAt, Instr.slice, Instr.sliceBounds, Instr.sliceBound, run_underlying hu, asIntOf, h1, h2, sizeOf, typeInfo, hi', this]
theorem ex_slice_lo {t e k : Nat} [h : SlT P t e k] {S : World → Prop} {x lo : Operand} {p : Option Addr} {n c : Nat} {i : Nat} {ki : IntKind} (hx : ev L x = some (.slice p n c))
    (hlo : ev L lo = some (.int ki (i : Int))) (h1 : i ≤ n) (h2 : n ≤ c) : Ex P (.slice t x (some lo) none none) N L S (.slice (if c = i then p else p.map (·.add (i * k))) (n - i) (c - i)) := fun a w hf hs d ty pos af g => by
  obtain ⟨hu, hsz⟩ := h.ok
  cases hi' : P.info? e with
  | none => simp [hi'] at hsz
  | some ie =>
    have hk : ie.size = k := by simpa [hi'] using hsz
    simp [execOp, hf.eval hx, hf.eval hlo, Instr.sliceAt, Instr.slice, Instr.sliceBounds, Instr.sliceBound, run_underlying hu, asIntOf, h1, sizeOf, typeInfo, hi', hk]

/-- A struct written out. -/
def partsV (L : TL) : List (Nat × Operand) → Option (List (Nat × Value))
  | [] => some []
  | p :: r => match ev L p.2 with
    | some v => match partsV L r with
      | some vs => some ((p.1, v) :: vs)
      | none => none
    | none => none
theorem partsV_map {a : Act} (hf : Fr N L a) : ∀ (l : List (Nat × Operand)) (vs : List (Nat × Value)), partsV L l = some vs → l.map (fun p => (p.1, a.eval p.2)) = vs
  | [], vs, h => by simp [partsV] at h; simp [h]
  | p :: r, vs, h => by
    simp only [partsV] at h
    cases hx : ev L p.2 with
    | none => simp [hx] at h
    | some v =>
      cases hr : partsV L r with
      | none => simp [hx, hr] at h
      | some us =>
        simp [hx, hr] at h
        subst h
        simp [hf.eval hx, partsV_map hf r us hr]
class BuildT (P : Program) (t : TypeId) (f : outParam (List (Nat × Value) → Option (Array Value))) : Prop where
  ok : ∀ parts, P.built t parts = f parts
theorem ex_build {t : TypeId} {S : World → Prop} {parts : List (Nat × Operand)} {vs : List (Nat × Value)} {cells : Array Value} (hp : partsV L parts = some vs) (hb : P.built t vs = some cells) :
    Ex P (.build t parts.toArray) N L S (.agg cells) := fun a w hf hs d ty pos af g => by
  have e : (parts.toArray.map fun x => (x.1, a.eval x.2)) = vs.toArray := by
    rw [← partsV_map hf parts vs hp]; simp
  simp [execOp, e, run_build w t vs.toArray cells (by simpa using hb)]
theorem exw_slit {t e len : Nat} {parts : List (Nat × Operand)} {vs : List (Nat × Value)} {cells : Array Value} (hp : partsV L parts = some vs) (hu : P.underlying t = some (.slice e))
    (hi : ∃ ie z, P.info? e = some ie ∧ ie.zero = some z ∧ ¬ len * ie.size > 2 ^ 24 ∧ (if len * ie.size = 0 then vs = [] ∧ cells = #[] else
      Instr.fill (fun i => some (i * ie.size, ie.size)) ((Array.range (len * ie.size)).map (z.cells[· % z.cells.size]!)) vs = some cells)) :
    ExW P (.buildSlice t len parts.toArray) N L (St w0 M σ H Gr) (fun u w => ∃ b, u = .slice (some ⟨b, 0, none⟩) len len ∧ St w0 M σ ((b, .cells cells e) :: H) Gr w) := fun a w hf hs d ty pos af g => by
  obtain ⟨ie, z, h1, h2, h3, h4⟩ := hi
  have em : (parts.toArray.map fun x => (x.1, a.eval x.2)) = vs.toArray := by
    rw [← partsV_map hf parts vs hp]; simp
  refine ⟨.slice (some ⟨w.heap.size, 0, none⟩) len len, w.alloc (.cells cells e), ?_, w.heap.size, rfl, hs.alloc _⟩
  by_cases h0 : len * ie.size = 0
  · rw [if_pos h0] at h4
    obtain ⟨rfl, rfl⟩ := h4
    simp [execOp, em, Instr.buildSlice, run_underlying hu, sizeOf, typeInfo, h1, h0, Instr.fill, newRow]
    rw [show (Array.range 0) = #[] from by simp]
    simp
  · rw [if_neg h0] at h4
    simp [execOp, em, run_buildSlice w t e len vs.toArray cells ie z hu h1 h2 h3 h0 (by simpa using h4)]
theorem ow_slit {l0 : List Oper} {Q : Exit → Act → World → Prop} {rest : List Oper} {d len e : Nat} {cells : Array Value} {ty : TypeId} {pos : String} {af : Array Edge} {g : Option (Nat × Bool)} {op : Op}
    (hN : Nat.blt d N = true) (hg : gd l0 L g = some true)
    (h : ExW P op N L (St w0 M σ H Gr) (fun u w => ∃ b, u = .slice (some ⟨b, 0, none⟩) len len ∧ St w0 M σ ((b, .cells cells e) :: H) Gr w))
    (k : ∀ b, OW P l0 Q rest N ((d, .slice (some ⟨b, 0, none⟩) len len) :: L) (St w0 M σ ((b, .cells cells e) :: H) Gr)) : OW P l0 Q (⟨some d, op, ty, pos, af, g⟩ :: rest) N L (St w0 M σ H Gr) :=
  ow_w hN hg h fun u a w hf ⟨b, hu, hs⟩ => by subst hu; exact k b a w hf hs
/-- Literals of no element, of one. -/
theorem exw_slit0 {t e size bytes : Nat} [h : AppT P t e size bytes] :
    ExW P (.buildSlice t 0 #[]) N L (St w0 M σ H Gr) (fun u w => ∃ b, u = .slice (some ⟨b, 0, none⟩) 0 0 ∧ St w0 M σ ((b, .cells #[] e) :: H) Gr w) := by
  obtain ⟨h1, ⟨i, z, h2, h3, _⟩, _⟩ := h.ok
  exact exw_slit (parts := []) (vs := []) rfl h1 ⟨i, z, h2, h3, by simp, by simp⟩
theorem fill_one {size : Nat} {arr : Array Value} {v : Value} (h1 : arr.size = size) (h2 : v.cells.size = size) : Instr.fill (fun i => some (i * size, size)) arr [(0, v)] = some v.cells := by
  have key : ∀ (l : List Value) (k : Nat) (a : Array Value), k + l.length ≤ a.size → (l.zipIdx k).foldl (fun cs p => cs.setIfInBounds (0 + p.2) p.1) a = (a.toList.take k ++ l ++ a.toList.drop (k + l.length)).toArray := by
    intro l
    induction l with
    | nil => intro k a _; simp
    | cons x r ih =>
      intro k a hk
      simp only [List.length_cons] at hk
      rw [List.zipIdx_cons, List.foldl_cons, ih (k + 1) _ (by simp; omega)]
      apply congrArg List.toArray
      have hka : k < a.toList.length := by simp; omega
      simp only [Nat.zero_add, Array.toList_setIfInBounds]
      rw [List.take_succ_eq_append_getElem (by simpa using hka), List.getElem_set_self, List.take_set_of_le (Nat.le_refl k), List.drop_set_of_lt (by omega)]
      simp [Nat.add_assoc, Nat.add_comm 1]
  have hz : ∀ (b : Array Value) (a : Array Value), b.zipIdx.foldl (fun cs p => cs.setIfInBounds (0 + p.2) p.1) a = (b.toList.zipIdx 0).foldl (fun cs p => cs.setIfInBounds (0 + p.2) p.1) a := by
    intro b a
    rw [← Array.foldl_toList, Array.toList_zipIdx]
  simp only [Instr.fill, Nat.zero_mul, Nat.zero_add]
  rw [if_neg (by simp [h1, h2])]
  have := hz v.cells arr
  simp only [Nat.zero_add] at this
  rw [this]
  have h3 := key v.cells.toList 0 arr (by simp [h1, h2])
  simp only [Nat.zero_add] at h3
  rw [h3, List.take_zero, List.nil_append, List.drop_eq_nil_of_le (by simp [h1, h2]), List.append_nil]
theorem exw_slit1 {t e size bytes : Nat} [h : AppT P t e size bytes] {x : Operand} {v : Value} (hx : ev L x = some v) (hv : v.cells.size = size) :
    ExW P (.buildSlice t 1 #[(0, x)]) N L (St w0 M σ H Gr) (fun u w => ∃ b, u = .slice (some ⟨b, 0, none⟩) 1 1 ∧ St w0 M σ ((b, .cells v.cells e) :: H) Gr w) := by
  obtain ⟨h1, ⟨i, z, h2, h3, h4, _, h6⟩, h7⟩ := h.ok
  refine exw_slit (parts := [(0, x)]) (vs := [(0, v)]) (by simp [partsV, hx]) h1 ⟨i, z, h2, h3, by rw [h4]; omega, ?_⟩
  rw [if_neg (by omega)]
  exact fill_one (by simp [h4]) (by omega)
theorem run_slit1 {t e size bytes : Nat} [h : AppT P t e size bytes] {x : Operand} {v : Value} {a : Act} {w : World} (hf : Fr N L a) (hx : ev L x = some v) (hv : v.cells.size = size) (d : Option Tmp) (ty : TypeId) (pos : String)
    (af : Array Edge) (g : Option (Nat × Bool)) :
    (execOp a.eval ⟨d, .buildSlice t 1 #[(0, x)], ty, pos, af, g⟩).run P w = .ok (.value (.slice (some ⟨w.heap.size, 0, none⟩) 1 1)) (w.alloc (.cells v.cells e)) := by
  obtain ⟨h1, ⟨i, z, h2, h3, h4, _, h6⟩, h7⟩ := h.ok
  have hsm : ¬ 1 * i.size > 2 ^ 24 := by rw [h4]; omega
  have hp : ¬ 1 * i.size = 0 := by rw [h4]; omega
  have := run_buildSlice (P := P) w t e 1 #[(0, v)] v.cells i z h1 h2 h3 hsm hp (fill_one (by simp) (by omega))
  simp [execOp, hf.eval hx, this]
/-- append, nothing else being appended to. -/
theorem exw_append1 {t e size bytes n m c : Nat} [AppT P t e size bytes] {x y : Operand} {v : Value} {xs news : List Value} {p : Option Addr} (hx : ev L x = some v) (hy : ev L y = some (.slice p m c))
    (hO : OwnSl e size v n xs Gs) (hl : news.length = m * size) (hsrc : m = 0 ∨ ∃ b o, p = some ⟨b, o, none⟩ ∧ ∀ w, St w0 M σ H Gs w → w.rangeAt b o news)
    (h1 : ∀ u ∈ news, u.oneCell' = true) (h63 : n + m ≤ maxLen) (hb : (n + m) * bytes ≤ 140737488355328) :
    ExW P (.call { callee := .builtin .append, args := #[x, y], argTypes := #[t, t] }) N L (St w0 M σ H Gs)
      (fun v' w' => ∃ Gs', OwnSl e size v' (n + m) (xs ++ news) Gs' ∧ (v' = .slice none 0 0 ↔ v = .slice none 0 0 ∧ m = 0) ∧ St w0 M σ H Gs' w') := by
  have := exw_append (P := P) (N := N) (L := L) (w0 := w0) (M := M) (σ := σ) (H := H) (Gs := Gs) (Gr := []) (t := t) hx hy hO hl (by simpa using hsrc) h1 h63 hb
  simpa using this
theorem ow_app1 {l0 : List Oper} {Q : Exit → Act → World → Prop} {rest : List Oper} {d : Nat} {ty : TypeId} {pos : String} {af : Array Edge} {g : Option (Nat × Bool)} {op : Op} {R : Value → List (Nat × Obj) → Prop} {z : Value → Prop}
    (hN : Nat.blt d N = true) (hg : gd l0 L g = some true)
    (h : ExW P op N L (St w0 M σ H Gs) (fun v' w' => ∃ Gs', R v' Gs' ∧ z v' ∧ St w0 M σ H Gs' w'))
    (k : ∀ v' Gs', R v' Gs' → z v' → OW P l0 Q rest N ((d, v') :: L) (St w0 M σ H Gs')) : OW P l0 Q (⟨some d, op, ty, pos, af, g⟩ :: rest) N L (St w0 M σ H Gs) :=
  ow_w hN hg h fun v' a w hf ⟨Gs', h1, hz, h2⟩ => k v' Gs' h1 hz a w hf h2
theorem OwnSl.lit0 (e size b : Nat) : OwnSl e size (.slice (some ⟨b, 0, none⟩) 0 0) 0 [] [(b, .cells #[] e (0, 0))] := ⟨by simp, .inr ⟨b, 0, #[], rfl, rfl, Nat.le_refl _, Nat.zero_le _, by simp, by simp⟩⟩
end
end Go.Proofs.YtnjomdjkbbhdoaaDoor
