/-
  More single operations: pointers held against nil, strings joined, a string's bytes appended, a builder's bytes as a string; the library's table of powers.
  No condition.
-/
import Derived.Test.YtnjomdjkbbhdoaaDoorVault
import Derived.Lib.AppendStr
import Derived.Lib.UnsafeStr
import Derived.Lib.Builder
import Derived.Lib.LaidTab
namespace Go.Proofs.YtnjomdjkbbhdoaaDoor
open Go.RowKit
set_option linter.unusedVariables false

section
variable {P : Program} {N : Nat} {L : TL} {S : World → Prop} {w0 : World} {M : Nat → Prop} {σ : Hp} {H G Gs Gr : List (Nat × Obj)}
theorem St.flip {w : World} (h : St w0 M σ H G w) : St w0 M σ G H w := St0.perm h List.perm_append_comm
theorem exu_storeG1 (i : Nat) {ty b o : Nat} {x y : Operand} {v : Value} {arr : Array Value} {et : TypeId} [h : OneT P ty] (hx : ev L x = some (.pointer (some ⟨b, o, none⟩))) (hy : ev L y = some v)
    (hG : G[i]? = some (b, .cells arr et)) (hv : v.cells = #[v]) (ho : v.oneCell' = true) (hle0 : Nat.ble (o + 1) arr.size = true) :
    ExU P (.store ty x y) N L (St w0 M σ H G) (St w0 M σ H (setH G i (.cells (over arr o [v]) et))) := fun a w hf hs d ty' pos af g => by
  obtain ⟨w', h1, h2⟩ := exu_store1 (P := P) (w0 := w0) (M := M) (σ := σ) (H := G) (G := H) (ty := ty) i hx hy hG hv ho hle0 a w hf hs.flip d ty' pos af g
  exact ⟨w', h1, h2.flip⟩
theorem ex_nilck {x : Operand} {a : Addr} (hx : ev L x = some (.pointer (some a))) : Ex P (.nilCheck x) N L S (.pointer (some a)) := fun ac w hf hs d ty pos af g => by
  simp [execOp, hf.eval hx]
class PtrT (P : Program) (t : TypeId) (e : outParam Nat) : Prop where
  ok : P.underlying t = some (.pointer e) ∧ ∃ j, P.info? e = some j
theorem ex_ptrnil {t e : Nat} {u : TypeId} {x : Operand} {p : Option Addr} [h : PtrT P t e] (hx : ev L x = some (.pointer p)) : Ex P (.binOp .eql t x (.const (.pointer none)) u) N L S (.bool p.isNone) := fun a w hf hs d ty pos af g => by
  have he : a.eval (.const (.pointer none)) = .pointer none := rfl
  have hu := run_underlying h.ok.1 w
  have hq : (Op.equal t (.pointer p) (.pointer none)).run P w = .ok p.isNone w := by
    change (Op.equalIn (9999 + 1) t (.pointer p) (.pointer none)).run P w = _
    rw [Op.equalIn, Sem.run_bind, hu]
    cases p <;> rfl
  have hg : (eqGuard .eql t x (.const (.pointer none)) (.pointer p) (.pointer none)).run P w = .ok () w := by simp [eqGuard]
  have hb : (binOp .eql t (.pointer p) (.pointer none)).run P w = .ok (.bool p.isNone) w := by
    change (do pure (Value.bool (← Op.equal t (.pointer p) (.pointer none)))).run P w = _
    rw [Sem.run_bind, hq]; rfl
  simp [execOp, hf.eval hx, he, hg, hb]
theorem ex_ptrnnil {t e : Nat} {u : TypeId} {x : Operand} {p : Option Addr} [h : PtrT P t e] (hx : ev L x = some (.pointer p)) : Ex P (.binOp .neq t x (.const (.pointer none)) u) N L S (.bool (!p.isNone)) := fun a w hf hs d ty pos af g => by
  have he : a.eval (.const (.pointer none)) = .pointer none := rfl
  have hu := run_underlying h.ok.1 w
  have hq : (Op.equal t (.pointer p) (.pointer none)).run P w = .ok p.isNone w := by
    change (Op.equalIn (9999 + 1) t (.pointer p) (.pointer none)).run P w = _
    rw [Op.equalIn, Sem.run_bind, hu]
    cases p <;> rfl
  have hg : (eqGuard .neq t x (.const (.pointer none)) (.pointer p) (.pointer none)).run P w = .ok () w := by simp [eqGuard]
  have hb : (binOp .neq t (.pointer p) (.pointer none)).run P w = .ok (.bool (!p.isNone)) w := by
    change (do pure (Value.bool !(← Op.equal t (.pointer p) (.pointer none)))).run P w = _
    rw [Sem.run_bind, hq]; rfl
  simp [execOp, hf.eval hx, he, hg, hb]
theorem ex_ptrself {t e : Nat} {u : TypeId} {x y : Operand} {p : Addr} [h : PtrT P t e] (hx : ev L x = some (.pointer (some p))) (hy : ev L y = some (.pointer (some p))) : Ex P (.binOp .neq t x y u) N L S (.bool false) := fun a w hf hs d ty pos af g => by
  obtain ⟨h1, j, h2⟩ := h.ok
  have hb := Lib.run_neq_ptr_same (P := P) w p h1 h2
  have hg : (eqGuard .neq t x y (.pointer (some p)) (.pointer (some p))).run P w = .ok () w := by simp [eqGuard]
  simp [execOp, hf.eval hx, hf.eval hy, hg, hb]
/-- A pointer as an unsafe one, and back, at a block of its own type. -/
class BldT (P : Program) (tp tb tu te : Nat) : Prop where
  ok : P.underlying tp = some (.pointer tb) ∧ P.underlying tu = some .unsafePointer ∧ (∃ j, P.info? tb = some j ∧ j.size ≠ 0) ∧ liesAt P P.depth tb (2 / P.cellsOf tb) 0 tb 1 = true ∧ tb ≠ te
theorem ex_tounsafe {tp tb tu te b : Nat} {x : Operand} {p v : Value} (h : BldT P tp tb tu te) (hx : ev L x = some (.pointer (some ⟨b, 0, none⟩))) (hb : ∀ w, S w → w.heap[b]? = some (.cells #[p, v] tb (0, 0))) :
    Ex P (.convert tp tu x) N L S (.pointer (some ⟨b, 0, none⟩)) := fun a w hf hs d ty pos af g => by
  obtain ⟨h1, h2, ⟨j, h3, h5⟩, h4, _⟩ := h.ok
  have hc := Lib.run_to_unsafe (P := P) w (e := tb) (cells := 2) ⟨b, 0, none⟩ h1 h2 h3 h5 (by simp [World.shape?, hb w hs]) (by show 0 < 2; decide)
  simp [execOp, hf.eval hx, hc]
theorem ex_fromunsafe {tp tb tu te b : Nat} {x : Operand} {p v : Value} (h : BldT P tp tb tu te) (hx : ev L x = some (.pointer (some ⟨b, 0, none⟩))) (hb : ∀ w, S w → w.heap[b]? = some (.cells #[p, v] tb (0, 0))) :
    Ex P (.convert tu tp x) N L S (.pointer (some ⟨b, 0, none⟩)) := fun a w hf hs d ty pos af g => by
  obtain ⟨h1, h2, ⟨j, h3, h5⟩, h4, _⟩ := h.ok
  have hc := Lib.run_from_unsafe (P := P) w (e := tb) (cells := 2) ⟨b, 0, none⟩ h2 h1 h3 (by simp [World.shape?, hb w hs]) h4
  simp [execOp, hf.eval hx, hc]
class NoEscT (P : Program) (f : FuncId) : Prop where
  ok : ∃ fn, P.funcs[f]? = some fn ∧ (fn.name == "runtime.NumGoroutine") = false ∧ fn.body.isNone = true ∧ Extern.findNext fn = none ∧ Extern.find fn = some Extern.AbiNoEscape.same
theorem ex_noesc {f : FuncId} {x : Operand} {ats : Array TypeId} {v : Value} [h : NoEscT P f] (hx : ev L x = some v) : Ex P (.call { callee := .value (.func f), args := #[x], argTypes := ats }) N L S v := fun ac w hf hs d ty pos af g => by
  obtain ⟨fn, h1, h2, h3, h4, h5⟩ := h.ok
  have e := run_callFunc_extern h1 h2 h3 h4 h5 #[v] w
  rw [Lib.run_noEscape] at e
  have he : ac.eval (.func f) = .func (.func f) #[] #[] := rfl
  simp only [Result.andThen] at e
  simp [execOp, resolve, he, Deferred.ofValue, invoke, hf.eval hx, e]
theorem strOf_app (a b : List UInt8) : strOf a ++ strOf b = strOf (a ++ b) := by
  apply ByteArray.ext
  simp [strOf]
theorem strOf_size (a : List UInt8) : (strOf a).size = a.length := by simp [strOf, ByteArray.size]
theorem ex_stradd {t u : TypeId} {x y : Operand} {a b : List UInt8} (hx : ev L x = some (.string (strOf a))) (hy : ev L y = some (.string (strOf b))) (hl : a.length + b.length ≤ 9223372036854775807) :
    Ex P (.binOp .add t x y u) N L S (.string (strOf (a ++ b))) := fun ac w hf hS d ty pos af g => by
  have h2 : ¬ (9223372036854775807 : Int) < (a.length : Int) + (b.length : Int) := by omega
  have hmax : IntKind.i64.max = 9223372036854775807 := rfl
  simp [execOp, hf.eval hx, hf.eval hy, eqGuard, binOp, Op.stringOp, strOf_size, hmax, h2, strOf_app]
/-- A cell of an array of integers. -/
class ArrT (P : Program) (t : TypeId) (n : outParam Nat) : Prop where
  ok : ∃ e, P.underlying t = some (.array n e) ∧ (P.info? e).map (·.size) = some 1 ∧ P.underlying e = some (.int .i64)
theorem ex_arr {t n : Nat} {x y : Operand} {zs : List Int} {i : Nat} [h : ArrT P t n] (hx : ev L x = some (.agg (intsV zs).toArray)) (hy : ev L y = some (.int .i64 (i : Int))) (hi : i < zs.length) (hn : zs.length = n) :
    Ex P (.index t x y) N L S (.int .i64 zs[i]) := fun a w hf hs d ty pos af g => by
  obtain ⟨e, h1, h2, h3⟩ := h.ok
  cases hq : P.info? e with
  | none => simp [hq] at h2
  | some j =>
    have hsz : j.size = 1 := by simpa [hq] using h2
    have hna := run_isAgg_not h3 rfl w
    have hg := intsV_get hi
    simp [execOp, hf.eval hx, hf.eval hy, Instr.index, asIntOf, run_underlying h1, hi, ← hn, sizeOf, typeInfo, hq, hsz, part, hna, hg]
theorem strCells_of (d : List UInt8) : Lib.strCells (strOf d) = d.map byteV := by simp [Lib.strCells, strOf, byteV]
theorem st_appendS {t u e : Nat} [hA : AppT P t e 1 1] [hu : StrT P u] (hz : ∀ i, P.info? e = some i → i.zero = some (.int .u8 0)) {w : World} {v : Value} {n : Nat} {xs : List Value} {s : List UInt8} {ty : TypeId}
    (hs : St w0 M σ H (Gs ++ Gr) w) (hO : OwnSl e 1 v n xs Gs) (hb : n + s.length ≤ 140737488355328) :
    ∃ v' w' Gs', (Builtin.append_ #[t, u] ty #[v, .string (strOf s)]).run P w = .ok v' w' ∧ OwnSl e 1 v' (n + s.length) (xs ++ s.map byteV) Gs' ∧ St w0 M σ H (Gs' ++ Gr) w' := by
  obtain ⟨ht, ⟨i, z, hi, hz0, hsz, hby, hzs⟩, hpos⟩ := hA.ok
  have hz1 := hz i hi
  have hx : xs.length = n := by simpa using hO.1
  have hlen : (xs ++ s.map byteV).length = (n + s.length) * 1 := by simp [hx]
  have hss := strOf_size s
  have grown : ∀ (old : Nat), old < n + s.length → ∀ Gs0 : List (Nat × Obj), St w0 M σ H (Gs0 ++ Gr) w →
      ∃ g cur, OwnSl e 1 (.slice (some ⟨w.heap.size, 0, none⟩) (n + s.length) (grownCap w (n + s.length) old e)) (n + s.length) (xs ++ s.map byteV) [(g, .cells cur e (0, 0))] ∧
        St w0 M σ H ([(g, .cells cur e (0, 0))] ++ Gr) (w.drew.alloc (.cells (xs.toArray ++ (s.map byteV).toArray ++ Builtin.zeroCells (Value.int .u8 0).cells (grownCap w (n + s.length) old e - (n + s.length))) e)) := by
    intro old ho Gs0 hs0
    have hge := grownCap_ge w (n + s.length) old e
    have hcm : grownCap w (n + s.length) old e ≤ maxLen := grownCap_le_maxLen w (n + s.length) old e (by unfold maxLen; omega)
    refine ⟨w.heap.size, xs.toArray ++ (s.map byteV).toArray ++ Builtin.zeroCells (Value.int .u8 0).cells (grownCap w (n + s.length) old e - (n + s.length)), ⟨hlen, .inr ⟨w.heap.size, _, _, rfl, rfl, hge, hcm, ?_, ?_⟩⟩, ?_⟩
    · have hc1 : (Value.int IntKind.u8 0).cells.size = 1 := rfl
      simp only [Array.size_append, List.size_toArray, size_zeroCells, hc1, hx, List.length_map]
      omega
    · simp only [Array.toList_append, List.append_assoc]
      rw [← List.append_assoc, ← hlen]
      exact List.take_left
    · have h2 : St w0 M σ H Gr w.drew := (hs0.dropG (List.sublist_append_right _ _)).drew
      exact (h2.alloc _).toG
  rcases hO.2 with ⟨rfl, rfl, rfl⟩ | ⟨g, cc, cur, rfl, rfl, h2, h3, h4, h5⟩
  · have hx0 : xs = [] := List.eq_nil_of_length_eq_zero hx
    subst hx0
    by_cases hm : s.length = 0
    · obtain rfl : s = [] := List.eq_nil_of_length_eq_zero hm
      refine ⟨.slice none 0 0, w, [], ?_, by simpa using OwnSl.nil e 1, hs⟩
      have key : ∀ q : ByteArray, q.size = 0 → (Builtin.append_ #[t, u] ty #[.slice none 0 0, .string q]).run P w = .ok (.slice none 0 0) w := fun q hq => by
        have hf := Lib.run_firstCells_string (P := P) w 1 q
        rw [hq] at hf
        simp [Builtin.append_, run_underlying ht, run_underlying hu.ok, sizeOf, typeInfo, hi, hsz, Builtin.lenOf, hq, hf]
      exact key _ hss
    · have hr := run_append_nil_string (P := P) w t u ty e i (.int .u8 0) ht hu.ok hi hz1 (strOf s) (by omega) (by omega) (by rw [hby]; omega)
      obtain ⟨g, cur, ho, hst⟩ := grown 0 (by omega) [] hs
      have e1 : ((strOf s).data.map fun b => Value.int .u8 b.toNat) = (s.map byteV).toArray := by
        apply Array.ext'
        simp [strOf, byteV]
      rw [e1, hss] at hr
      simp only [Nat.zero_add, List.nil_append, Array.empty_append] at ho hst ⊢
      exact ⟨_, _, _, hr, ho, hst⟩
  · have h4' : cur.size = cc := by simpa using h4
    by_cases hroom : n + s.length ≤ cc
    · have hg : w.heap[g]? = some (.cells cur e (0, 0)) := hs.ownG (p := (g, .cells cur e (0, 0))) (by simp)
      have hr := Lib.run_append_room_string (P := P) w t u ty e i ht hu.ok hi hsz g n cc cur hg (strOf s) (by rw [hss]; exact hroom) (by rw [hss]; omega)
      rw [setRow_putBlk hg, strCells_of, hss] at hr
      refine ⟨_, _, [(g, .cells (cur.toList.take n ++ s.map byteV ++ cur.toList.drop (n + s.length)).toArray e (0, 0))], hr, ⟨hlen, .inr ⟨g, cc, _, rfl, rfl, hroom, h3, ?_, ?_⟩⟩, hs.putG (i := 0) rfl _⟩
      · simp only [List.size_toArray, List.length_append, List.length_take, List.length_drop, Array.length_toList, List.length_map]
        omega
      · have ht' : cur.toList.take n = xs := by simpa using h5
        rw [ht', ← hlen]
        exact List.take_left
    · have holds : ∀ j u, xs[j]? = some u → w.cell? ((⟨g, 0, none⟩ : Addr).add j) = some u := fun j u hj => by
        rw [addr_add, Nat.zero_add, cell_of_blk (hs.ownG (p := (g, .cells cur e (0, 0))) (by simp))]
        rw [← h5, List.getElem?_take] at hj
        split at hj
        · simpa using hj
        · cases hj
      have hr := Lib.run_append_grow_string (P := P) w t u ty e i (.int .u8 0) ht hu.ok hi hz1 ⟨g, 0, none⟩ n cc xs (by rw [hsz]; omega) holds (strOf s) (by rw [hss]; omega) (by rw [hss]; omega) (by rw [hss, hby]; exact growslice_fits (by omega) (by omega))
      rw [strCells_of, hss] at hr
      obtain ⟨g', cur', ho, hst⟩ := grown cc (by omega) _ hs
      exact ⟨_, _, _, hr, ho, hst⟩
class ByteZ (P : Program) (e : TypeId) : Prop where
  ok : ∀ i, P.info? e = some i → i.zero = some (.int .u8 0)
theorem ow_appS {l0 : List Oper} {Q : Exit → Act → World → Prop} {rest : List Oper} {d : Nat} {ty : TypeId} {pos : String} {af : Array Edge} {g : Option (Nat × Bool)} {t u e : Nat} [AppT P t e 1 1] [StrT P u] [hz : ByteZ P e]
    {x y : Operand} {v : Value} {n : Nat} {xs : List Value} {s : List UInt8} (hN : Nat.blt d N = true) (hg : gd l0 L g = some true) (hx : ev L x = some v) (hy : ev L y = some (.string (strOf s))) (hO : OwnSl e 1 v n xs Gs) (hb : n + s.length ≤ 140737488355328)
    (k : ∀ v' Gs', OwnSl e 1 v' (n + s.length) (xs ++ s.map byteV) Gs' → OW P l0 Q rest N ((d, v') :: L) (St w0 M σ H (Gs' ++ Gr))) :
    OW P l0 Q (⟨some d, .call { callee := .builtin .append, args := #[x, y], argTypes := #[t, u] }, ty, pos, af, g⟩ :: rest) N L (St w0 M σ H (Gs ++ Gr)) :=
  ow_w (T := fun v' w' => ∃ Gs', OwnSl e 1 v' (n + s.length) (xs ++ s.map byteV) Gs' ∧ St w0 M σ H (Gs' ++ Gr) w') hN hg (fun a w hf hs d ty pos af g => by
    obtain ⟨v', w', Gs', h1, h2, h3⟩ := st_appendS (P := P) (t := t) (u := u) (ty := ty) hz.ok hs hO hb
    exact ⟨v', w', by simp [execOp, resolve, invoke, builtin, hf.eval hx, hf.eval hy, h1], Gs', h2, h3⟩) fun v' a w hf ⟨Gs', h1, h2⟩ => k v' Gs' h1 a w hf h2

theorem ow_appS1 {l0 : List Oper} {Q : Exit → Act → World → Prop} {rest : List Oper} {d : Nat} {ty : TypeId} {pos : String} {af : Array Edge} {g : Option (Nat × Bool)} {t u e : Nat} [AppT P t e 1 1] [StrT P u] [hz : ByteZ P e]
    {x y : Operand} {v : Value} {n : Nat} {xs : List Value} {s : List UInt8} (hN : Nat.blt d N = true) (hg : gd l0 L g = some true) (hx : ev L x = some v) (hy : ev L y = some (.string (strOf s))) (hO : OwnSl e 1 v n xs Gs) (hb : n + s.length ≤ 140737488355328)
    (k : ∀ v' Gs', OwnSl e 1 v' (n + s.length) (xs ++ s.map byteV) Gs' → OW P l0 Q rest N ((d, v') :: L) (St w0 M σ H Gs')) :
    OW P l0 Q (⟨some d, .call { callee := .builtin .append, args := #[x, y], argTypes := #[t, u] }, ty, pos, af, g⟩ :: rest) N L (St w0 M σ H Gs) := by
  have := ow_appS (t := t) (u := u) (Gr := []) (w0 := w0) (M := M) (σ := σ) (H := H) (Gs := Gs) (P := P) (l0 := l0) (Q := Q) (rest := rest) (ty := ty) (pos := pos) (af := af) hN hg hx hy hO hb (fun v' Gs' h => by simpa using k v' Gs' h)
  simpa using this

/-! ## A builder's bytes as a string -/
theorem ex_sldata {t : TypeId} {x : Operand} {b o n c : Nat} (hx : ev L x = some (.slice (some ⟨b, o, none⟩) n c)) (hc : c ≠ 0) : Ex P (.call { callee := .builtin .unsafeSliceData, args := #[x], argTypes := #[t] }) N L S (.pointer (some ⟨b, o, none⟩)) :=
  fun a w hf hs d ty pos af g => by
    have := Lib.run_unsafeSliceData_row (P := P) (w := w) #[t] ty ⟨b, o, none⟩ n c hc
    simp [execOp, resolve, invoke, builtin, hf.eval hx, this]
class UStrT (P : Program) (pt : TypeId) (e : outParam Nat) : Prop where
  ok : P.underlying pt = some (.pointer e) ∧ P.cellsOf e = 1
/-- The bytes read as a string; their row turns no more (it is forgotten). -/
theorem ow_ustr {l0 : List Oper} {Q : Exit → Act → World → Prop} {rest : List Oper} {d : Nat} {ty : TypeId} {pos : String} {af : Array Edge} {g : Option (Nat × Bool)} {pt it e b : Nat} [h : UStrT P pt e]
    {x y : Operand} {l : List UInt8} {arr : Array Value} (hN : Nat.blt d N = true) (hg : gd l0 L g = some true) (hx : ev L x = some (.pointer (some ⟨b, 0, none⟩))) (hy : ev L y = some (.int .i64 (l.length : Int)))
    (h0 : l ≠ []) (hl : l.length ≤ arr.size) (h63 : l.length ≤ 9223372036854775807) (ht : arr.toList.take l.length = l.map byteV)
    (k : OW P l0 Q rest N ((d, .string (strOf l)) :: L) (St w0 M σ H G)) :
    OW P l0 Q (⟨some d, .call { callee := .builtin .unsafeString, args := #[x, y], argTypes := #[pt, it] }, ty, pos, af, g⟩ :: rest) N L (St w0 M σ H ((b, .cells arr e (0, 0)) :: G)) :=
  ow_w (T := fun v w => v = .string (strOf l) ∧ St w0 M σ H G w) hN hg (fun a w hf hs d ty pos af g => by
    obtain ⟨h1, h2⟩ := h.ok
    have hb : w.heap[b]? = some (.cells arr e (0, 0)) := hs.ownG (p := (b, .cells arr e (0, 0))) (by simp)
    have hr := Lib.run_unsafeString_row (P := P) (w := w) pt it ty e h1 h2 b arr.size (by simp [World.shape?, hb]) l h0 hl h63 (fun j x hj => by
      rw [addr_add, cell_of_blk hb]
      have : (l.map byteV)[j]? = some (byteV x) := by simp [hj]
      rw [← ht, List.getElem?_take] at this
      split at this
      · rw [Array.getElem?_toList] at this
        simpa [byteV] using this
      · cases this)
    refine ⟨.string (strOf l), w.freeze ⟨b, 0, none⟩ l.length, by simp [execOp, resolve, invoke, builtin, hf.eval hx, hf.eval hy, hr, strOf], rfl, ?_⟩
    have hf2 : w.freeze ⟨b, 0, none⟩ l.length = World.putBlk w b (.cells arr e (0, l.length)) := by
      have hlt := (Array.getElem?_eq_some_iff.1 hb).1
      have hge := (Array.getElem?_eq_some_iff.1 hb).2
      have hn0 : ¬ l.length = 0 := by simpa using h0
      unfold World.freeze World.putBlk
      rw [if_neg hn0]
      congr 1
      apply Array.ext_getElem?
      intro i
      rw [Array.getElem?_modify, Array.getElem?_setIfInBounds]
      by_cases hi : b = i
      · subst hi; simp [hlt, hge]
      · simp [hi]
    rw [hf2]
    exact (hs.putG (i := 0) rfl _).dropG (by simp [setH])) fun v a w hf ⟨hv, h2⟩ => by subst hv; exact k a w hf h2
end
/-! ## Calls on all the blocks at hand -/
theorem St.hasE {w0 w : World} {M : Nat → Prop} {σ : Hp} {H K : List (Nat × Obj)} (h : St w0 M σ H K w) : Has σ K w := St.has (G := []) (by simpa using h)
section
variable {P : Program} {l0 : List Oper} {Q : Exit → Act → World → Prop} {rest : List Oper} {N : Nat} {L : TL} {d : Nat} {ty : TypeId} {pos : String}
  {af : Array Edge} {g : Option (Nat × Bool)} {op : Op} {w0 : World} {M : Nat → Prop} {σ : Hp} {H K : List (Nat × Obj)} {R : Hp → Value → List (Nat × Obj) → Prop}
theorem ow_ckE (hN : Nat.blt d N = true) (hg : gd l0 L g = some true) (h : ExC P op N L (St w0 M σ H K) (TK R σ K))
    (k : ∀ u σ' K', Le σ σ' → Fresh σ σ' w0 → R σ' u K' → OW P l0 Q rest N ((d, u) :: L) (St w0 M σ' H K')) : OW P l0 Q (⟨some d, op, ty, pos, af, g⟩ :: rest) N L (St w0 M σ H K) := by
  have := ow_ck (G := []) (w0 := w0) (M := M) (H := H) (K := K) (Q := Q) (rest := rest) (ty := ty) (pos := pos) (af := af) hN hg (by simpa using h) (fun u σ' K' h1 h2 h3 => by simpa using k u σ' K' h1 h2 h3)
  simpa using this
end
/-! ## The library's table of powers -/
def TabC (P : Program) (σ : Hp) : Prop := ∃ g ty fz, P.globalNamed "internal/strconv.uint64pow10" = some g ∧ σ g = some (.cells (Lib.pow10Tab.map fun z => Value.int .u64 z).toArray ty fz)
theorem TabC.is {P : Program} {σ : Hp} {w : World} (h : TabC P σ) (hi : Imm σ w) : Lib.TabIs P w "internal/strconv.uint64pow10" .u64 Lib.pow10Tab := by
  obtain ⟨g, ty, fz, h1, h2⟩ := h
  unfold Lib.TabIs World.var?
  rw [h1]
  simp [hi g _ h2]
theorem TabC.of_is {P : Program} {W : World} (h : Lib.TabIs P W "internal/strconv.uint64pow10" .u64 Lib.pow10Tab) : TabC P (fun b => W.heap[b]?) := by
  unfold Lib.TabIs World.var? at h
  cases hg : P.globalNamed "internal/strconv.uint64pow10" with
  | none => rw [hg] at h; cases h
  | some g =>
    rw [hg] at h
    simp only [Option.bind_some] at h
    cases hb : W.heap[g]? with
    | none => rw [hb] at h; cases h
    | some ob =>
      rw [hb] at h
      cases ob with
      | cells cs ty fz => simp only [Option.some.injEq] at h; subst h; exact ⟨g, ty, fz, hg, hb⟩
      | _ => cases h
theorem TabC.le {P : Program} {σ τ : Hp} (hl : Le σ τ) (h : TabC P σ) : TabC P τ := by
  obtain ⟨g, ty, fz, h1, h2⟩ := h
  exact ⟨g, ty, fz, h1, hl g _ h2⟩
theorem below_sgrow (w : World) (k : Nat) (os : Array Obj) : Below w.heap.size w (Sort.grow (w.drewN k) os) :=
  ⟨rfl, rfl, rfl, by show w.heap.size ≤ (w.heap ++ os).size; simp, fun b hb => by
    show (w.heap ++ os)[b]? = _
    rw [Array.getElem?_append, if_pos hb]⟩

/-! ## A term's head, written out -/
def hdrB : List Int → List UInt8
  | [] => []
  | z :: r => Lib.itoa z ++ [44] ++ hdrB r
theorem hdrB_app : ∀ (a b : List Int), hdrB (a ++ b) = hdrB a ++ hdrB b
  | [], b => rfl
  | z :: r, b => by simp [hdrB, hdrB_app r b]
theorem hdrB_take (zs : List Int) (i : Nat) (h : i < zs.length) : hdrB (zs.take (i + 1)) = hdrB (zs.take i) ++ (Lib.itoa zs[i] ++ [44]) := by
  rw [List.take_succ_eq_append_getElem h, hdrB_app]; simp [hdrB]
theorem hdrB_take_le (zs : List Int) (i : Nat) : (hdrB (zs.take i)).length ≤ (hdrB zs).length := by
  have := hdrB_app (zs.take i) (zs.drop i)
  rw [List.take_append_drop] at this
  rw [this, List.length_append]; omega
theorem hdrB_head (o n : Int) (d k : Nat) : hdrB [o, n, (d : Int), (k : Int)] = headB o n d k := by simp [hdrB, headB]
theorem keyB_mk (o n : Int) (d : List UInt8) (ks : List T) : keyB (.mk o n d ks) = headB o n d.length ks.length ++ (d ++ keysB ks) := by rw [keyB]
end Go.Proofs.YtnjomdjkbbhdoaaDoor
