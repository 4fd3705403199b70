/-
  What the library's small functions need: bytes held against one another by the library's own entry, slices held against nil, short literals of one-cell elements.
  No condition.
-/
import Derived.Test.YtnjomdjkbbhdoaaDoorSpec
import Derived.Lib.BytesEntry
namespace Go.Proofs.YtnjomdjkbbhdoaaDoor
open Go.RowKit
set_option linter.unusedVariables false

theorem compareBytes_eq : ∀ (a b : List UInt8), Lib.compareBytes a b = cmpB a b
  | [], [] => rfl
  | [], _ :: _ => rfl
  | _ :: _, [] => rfl
  | a :: r, b :: s => by unfold Lib.compareBytes cmpB; rw [compareBytes_eq r s]
theorem run_bytesOf {P : Program} {σ : Hp} {w : World} {v : Value} {d : List UInt8} (hi : Imm σ w) (h : BytesV σ v d) : (Extern.Bytes.bytesOf v).run P w = .ok (strOf d) w := by
  obtain ⟨p, c, rfl, _, _, h4⟩ := h
  by_cases hd : d = []
  · subst hd
    cases p <;> simp [Extern.Bytes.bytesOf, Extern.Bytes.loadBytes, strOf] <;> rfl
  · obtain ⟨b, o, rfl, hc⟩ := h4.resolve_left hd
    have hr := hc.range hi
    have hl := Lib.run_loadBytesX (P := P) w (d.map fun b => (b.toNat : Int)) ⟨b, o, none⟩ .empty (fun j x hj => by
      rw [addr_add]
      have : (d.map byteV)[j]? = some (.int .u8 x) := by
        rw [List.getElem?_map] at hj ⊢
        cases hdj : d[j]? with
        | none => rw [hdj] at hj; cases hj
        | some u => rw [hdj] at hj; simp at hj; subst hj; rfl
      exact hr j _ this)
    rw [List.length_map] at hl
    simp only [Extern.Bytes.bytesOf]
    rw [hl]
    congr 1
    apply ByteArray.ext
    have : Lib.bytesOf (d.map fun b => (b.toNat : Int)) = d := by
      unfold Lib.bytesOf
      rw [List.map_map]
      conv => rhs; rw [← List.map_id d]
      apply List.map_congr_left
      intro u _
      simp
    rw [this]
    show (#[] : Array UInt8) ++ d.toArray = d.toArray
    simp

def RepCells (n : Nat) (cs : List Value) (σ : Hp) (v : Value) : Prop := ∃ b, v = .slice (some ⟨b, 0, none⟩) n n ∧ CellsAt σ b 0 cs
instance (n : Nat) (cs : List Value) : MonoR (RepCells n cs) := ⟨fun hl ⟨b, e, h⟩ => ⟨b, e, h.le hl⟩⟩

section
variable {P : Program} {l0 : List Oper} {Q : Exit → Act → World → Prop} {rest : List Oper} {N : Nat} {L : TL} {d : Nat} {ty : TypeId} {pos : String}
  {af : Array Edge} {g : Option (Nat × Bool)} {op : Op} {w0 : World} {M : Nat → Prop} {σ : Hp} {H G : List (Nat × Obj)}
theorem ex_bytescmp {f : FuncId} {x y : Operand} {ats : Array TypeId} {va vb : Value} {a b : List UInt8} [h : CmpT P f] (hx : ev L x = some va) (hy : ev L y = some vb) (ha : BytesV σ va a) (hb : BytesV σ vb b) :
    Ex P (.call { callee := .value (.func f), args := #[x, y], argTypes := ats }) N L (St w0 M σ H G) (.int .i64 (cmpB a b)) := fun ac w hf hs d ty pos af g => by
  obtain ⟨fn, h1, h2, h3, h4, h5⟩ := h.ok
  have e := run_callFunc_extern h1 h2 h3 h4 h5 #[va, vb] w
  have e2 : (Extern.BytealgCompare.compare #[va, vb]).run P w = .ok (.int .i64 (cmpB a b)) w := by
    change Sem.run P (do pure (goInt (Extern.BytealgCompare.cmp (← Extern.Bytes.bytesOf va) (← Extern.Bytes.bytesOf vb)))) w = _
    simp only [Sem.run_bind, run_bytesOf hs.im ha, run_bytesOf hs.im hb, Sem.run_pure, Result.andThen]
    rw [Lib.cmp_eq, compareBytes_eq]
    rfl
  rw [e2] at e
  have he : ac.eval (.func f) = .func (.func f) #[] #[] := rfl
  simp only [Result.andThen] at e
  simp [execOp, resolve, he, Deferred.ofValue, invoke, hf.eval hx, hf.eval hy, e]
theorem ex_isnil {t e k : Nat} {u : TypeId} {x : Operand} {p : Option Addr} {n c : Nat} {S : World → Prop} [h : SlT P t e k] (hx : ev L x = some (.slice p n c)) :
    Ex P (.binOp .eql t x (.const (.slice none 0 0)) u) N L S (.bool p.isNone) := fun a w hf hs d ty pos af g => by
  have he : a.eval (.const (.slice none 0 0)) = .slice none 0 0 := rfl
  have hu := run_underlying h.ok.1 w
  have hq : (Op.equal t (.slice p n c) (.slice none 0 0)).run P w = .ok p.isNone w := by
    change (Op.equalIn (9999 + 1) t (.slice p n c) (.slice none 0 0)).run P w = _
    rw [Op.equalIn, Sem.run_bind, hu]
    cases p <;> rfl
  have hg : (eqGuard .eql t x (.const (.slice none 0 0)) (.slice p n c) (.slice none 0 0)).run P w = .ok () w := by simp [eqGuard]
  have hb : (binOp .eql t (.slice p n c) (.slice none 0 0)).run P w = .ok (.bool p.isNone) w := by
    change (do pure (Value.bool (← Op.equal t (.slice p n c) (.slice none 0 0)))).run P w = _
    rw [Sem.run_bind, hq]; rfl
  simp [execOp, hf.eval hx, he, hg, hb]
theorem fill2 {arr : Array Value} {v0 v1 : Value} (h : arr.size = 2) (h0 : v0.cells = #[v0]) (h1 : v1.cells = #[v1]) : Instr.fill (fun i => some (i * 1, 1)) arr [(0, v0), (1, v1)] = some #[v0, v1] := by
  obtain ⟨⟨⟩⟩ := arr
  · simp at h
  · rename_i a l
    obtain _ | ⟨b, _ | ⟨c, l⟩⟩ := l <;> simp at h
    simp [Instr.fill, h0, h1]
theorem fill3 {arr : Array Value} {v0 v1 v2 : Value} (h : arr.size = 3) (h0 : v0.cells = #[v0]) (h1 : v1.cells = #[v1]) (h2 : v2.cells = #[v2]) : Instr.fill (fun i => some (i * 1, 1)) arr [(0, v0), (1, v1), (2, v2)] = some #[v0, v1, v2] := by
  obtain ⟨⟨⟩⟩ := arr
  · simp at h
  · rename_i a l
    obtain _ | ⟨b, _ | ⟨c, _ | ⟨d, l⟩⟩⟩ := l <;> simp at h
    simp [Instr.fill, h0, h1, h2]
theorem exw_slit2 {t e bytes : Nat} [h : AppT P t e 1 bytes] {x y : Operand} {v0 v1 : Value} (hx : ev L x = some v0) (hy : ev L y = some v1) (h0 : v0.cells = #[v0]) (h1 : v1.cells = #[v1]) :
    ExW P (.buildSlice t 2 #[(0, x), (1, y)]) N L (St w0 M σ H G) (fun u w => ∃ b, u = .slice (some ⟨b, 0, none⟩) 2 2 ∧ St w0 M σ ((b, .cells #[v0, v1] e) :: H) G w) := by
  obtain ⟨k1, ⟨i, z, k2, k3, k4, _, k6⟩, k7⟩ := h.ok
  refine exw_slit (parts := [(0, x), (1, y)]) (vs := [(0, v0), (1, v1)]) (by simp [partsV, hx, hy]) k1 ⟨i, z, k2, k3, by rw [k4]; omega, ?_⟩
  rw [if_neg (by omega), k4]
  exact fill2 (by simp) h0 h1
theorem exw_slit3 {t e bytes : Nat} [h : AppT P t e 1 bytes] {x y z : Operand} {v0 v1 v2 : Value} (hx : ev L x = some v0) (hy : ev L y = some v1) (hz : ev L z = some v2) (h0 : v0.cells = #[v0]) (h1 : v1.cells = #[v1]) (h2 : v2.cells = #[v2]) :
    ExW P (.buildSlice t 3 #[(0, x), (1, y), (2, z)]) N L (St w0 M σ H G) (fun u w => ∃ b, u = .slice (some ⟨b, 0, none⟩) 3 3 ∧ St w0 M σ ((b, .cells #[v0, v1, v2] e) :: H) G w) := by
  obtain ⟨k1, ⟨i, zv, k2, k3, k4, _, k6⟩, k7⟩ := h.ok
  refine exw_slit (parts := [(0, x), (1, y), (2, z)]) (vs := [(0, v0), (1, v1), (2, v2)]) (by simp [partsV, hx, hy, hz]) k1 ⟨i, zv, k2, k3, by rw [k4]; omega, ?_⟩
  rw [if_neg (by omega), k4]
  exact fill3 (by simp) h0 h1 h2
/-- A literal in a drawn region. -/
theorem ob_lit3 {t e bytes : Nat} [h : AppT P t e 1 bytes] {x y z : Operand} {v0 v1 v2 : Value} (hg : gd l0 L g = some true) (hx : ev L x = some v0) (hy : ev L y = some v1) (hz : ev L z = some v2) (h0 : v0.cells = #[v0]) (h1 : v1.cells = #[v1]) (h2 : v2.cells = #[v2]) :
    Ob P l0 ⟨some d, .buildSlice t 3 #[(0, x), (1, y), (2, z)], ty, pos, af, g⟩ N L (St w0 M σ H G) (.sat (QR (RepCells 3 [v0, v1, v2]) σ w0 (H ++ G))) := ob_w hg fun a w hf hs d ty pos af g => by
  obtain ⟨k1, ⟨i, zv, k2, k3, k4, _, k6⟩, k7⟩ := h.ok
  have em : (#[(0, x), (1, y), (2, z)].map fun p => (p.1, a.eval p.2)) = #[(0, v0), (1, v1), (2, v2)] := by simp [hf.eval hx, hf.eval hy, hf.eval hz]
  have hr := run_buildSlice (P := P) w t e 3 #[(0, v0), (1, v1), (2, v2)] #[v0, v1, v2] i zv k1 k2 k3 (by rw [k4]; omega) (by rw [k4]; omega) (by rw [k4]; exact fill3 (by simp) h0 h1 h2)
  have hs' : St w0 M σ ((w.heap.size, .cells #[v0, v1, v2] e (0, 0)) :: H) G (w.alloc (.cells #[v0, v1, v2] e)) := hs.alloc _
  have hle : Le σ (ext σ w.heap.size (.cells #[v0, v1, v2] e)) := le_ext (hs'.fresh (p := (w.heap.size, .cells #[v0, v1, v2] e)) (by simp))
  refine ⟨.slice (some ⟨w.heap.size, 0, none⟩) 3 3, w.alloc (.cells #[v0, v1, v2] e), ?_, below_alloc1 _ _, ext σ w.heap.size (.cells #[v0, v1, v2] e), hle, fun k o hk => ?_, hs'.freeze.im, ⟨w.heap.size, rfl, #[v0, v1, v2], e, (0, 0), ext_self _ _ _, fun j v hj => by simpa using hj⟩, fun p hp => hs'.freeze.fresh hp⟩
  · simp only [execOp, em]; simp [hr]
  · unfold ext at hk
    split at hk
    · rename_i hkb; subst hkb; exact .inr hs.ag.size
    · exact .inl hk
end
end Go.Proofs.YtnjomdjkbbhdoaaDoor
