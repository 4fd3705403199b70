/-
  What the law VaultTellsUpto needs, part 2.
  No condition.
-/
import Derived.Test.YtnjomdjkbbhdoaaDoorP1
set_option linter.unusedVariables false
set_option linter.unusedSimpArgs false
set_option linter.unusedSectionVars false
namespace Go.Proofs.YtnjomdjkbbhdoaaDoor
open Go.RowKit
set_option linter.unusedVariables false
theorem compareBytes_eq : ∀ (a b : List UInt8), Lib.compareBytes a b = cmpB a b
  | [], [] => rfl
  | [], _ :: _ => rfl
  | _ :: _, [] => rfl
  | a :: r, b :: s => by unfold Lib.compareBytes cmpB; rw [compareBytes_eq r s]
theorem run_bytesOf {P : Program} {σ : Hp} {w : World} {v : Value} {d : List UInt8} (hi : Imm σ w) (h : BytesV σ v d) : (Extern.Bytes.bytesOf v).run P w = .ok (strOf d) w := by
  obtain ⟨p, c, rfl, _, _, h4⟩ := h
  by_cases hd : d = []
  · subst hd
    cases p <;> simp [Extern.Bytes.bytesOf, Extern.Bytes.loadBytes, strOf] <;> rfl
  · obtain ⟨b, o, rfl, hc⟩ := h4.resolve_left hd
    have hr := hc.range hi
    have hl := Lib.run_loadBytesX (P := P) w (d.map fun b => (b.toNat : Int)) ⟨b, o, none⟩ .empty (fun j x hj => by
      rw [addr_add]
      have : (d.map byteV)[j]? = some (.int .u8 x) := by
        rw [List.getElem?_map] at hj ⊢
        cases hdj : d[j]? with
        | none => rw [hdj] at hj; cases hj
        | some u => rw [hdj] at hj; simp at hj; subst hj; rfl
      exact hr j _ this)
    rw [List.length_map] at hl
    simp only [Extern.Bytes.bytesOf]
    rw [hl]
    congr 1
    apply ByteArray.ext
    have : Lib.bytesOf (d.map fun b => (b.toNat : Int)) = d := by
      unfold Lib.bytesOf
      rw [List.map_map]
      conv => rhs; rw [← List.map_id d]
      apply List.map_congr_left
      intro u _
      simp
    rw [this]
    show (#[] : Array UInt8) ++ d.toArray = d.toArray
    simp
def RepCells (n : Nat) (cs : List Value) (σ : Hp) (v : Value) : Prop := ∃ b, v = .slice (some ⟨b, 0, none⟩) n n ∧ CellsAt σ b 0 cs
instance (n : Nat) (cs : List Value) : MonoR (RepCells n cs) := ⟨fun hl ⟨b, e, h⟩ => ⟨b, e, h.le hl⟩⟩
section
variable {P : Program} {l0 : List Oper} {Q : Exit → Act → World → Prop} {rest : List Oper} {N : Nat} {L : TL} {d : Nat} {ty : TypeId} {pos : String}
  {af : Array Edge} {g : Option (Nat × Bool)} {op : Op} {w0 : World} {M : Nat → Prop} {σ : Hp} {H G : List (Nat × Obj)}
theorem ex_bytescmp {f : FuncId} {x y : Operand} {ats : Array TypeId} {va vb : Value} {a b : List UInt8} [h : CmpT P f] (hx : ev L x = some va) (hy : ev L y = some vb) (ha : BytesV σ va a) (hb : BytesV σ vb b) :
    Ex P (.call { callee := .value (.func f), args := #[x, y], argTypes := ats }) N L (St w0 M σ H G) (.int .i64 (cmpB a b)) := fun ac w hf hs d ty pos af g => by
  obtain ⟨fn, h1, h2, h3, h4, h5⟩ := h.ok
  have e := run_callFunc_extern h1 h2 h3 h4 h5 #[va, vb] w
  have e2 : (Extern.BytealgCompare.compare #[va, vb]).run P w = .ok (.int .i64 (cmpB a b)) w := by
    change Sem.run P (do pure (goInt (Extern.BytealgCompare.cmp (← Extern.Bytes.bytesOf va) (← Extern.Bytes.bytesOf vb)))) w = _
    simp only [Sem.run_bind, run_bytesOf hs.im ha, run_bytesOf hs.im hb, Sem.run_pure, Result.andThen]
    rw [Lib.cmp_eq, compareBytes_eq]
    rfl
  rw [e2] at e
  have he : ac.eval (.func f) = .func (.func f) #[] #[] := rfl
  simp only [Result.andThen] at e
  simp [execOp, resolve, he, Deferred.ofValue, invoke, hf.eval hx, hf.eval hy, e]
theorem ex_isnil {t e k : Nat} {u : TypeId} {x : Operand} {p : Option Addr} {n c : Nat} {S : World → Prop} [h : SlT P t e k] (hx : ev L x = some (.slice p n c)) :
    Ex P (.binOp .eql t x (.const (.slice none 0 0)) u) N L S (.bool p.isNone) := fun a w hf hs d ty pos af g => by
  have he : a.eval (.const (.slice none 0 0)) = .slice none 0 0 := rfl
  have hu := run_underlying h.ok.1 w
  have hq : (Op.equal t (.slice p n c) (.slice none 0 0)).run P w = .ok p.isNone w := by
    change (Op.equalIn (9999 + 1) t (.slice p n c) (.slice none 0 0)).run P w = _
    rw [Op.equalIn, Sem.run_bind, hu]
    cases p <;> rfl
  have hg : (eqGuard .eql t x (.const (.slice none 0 0)) (.slice p n c) (.slice none 0 0)).run P w = .ok () w := by simp [eqGuard]
  have hb : (binOp .eql t (.slice p n c) (.slice none 0 0)).run P w = .ok (.bool p.isNone) w := by
    change (do pure (Value.bool (← Op.equal t (.slice p n c) (.slice none 0 0)))).run P w = _
    rw [Sem.run_bind, hq]; rfl
  simp [execOp, hf.eval hx, he, hg, hb]
theorem fill2 {arr : Array Value} {v0 v1 : Value} (h : arr.size = 2) (h0 : v0.cells = #[v0]) (h1 : v1.cells = #[v1]) : Instr.fill (fun i => some (i * 1, 1)) arr [(0, v0), (1, v1)] = some #[v0, v1] := by
  obtain ⟨⟨⟩⟩ := arr
  · simp at h
  · rename_i a l
    obtain _ | ⟨b, _ | ⟨c, l⟩⟩ := l <;> simp at h
    simp [Instr.fill, h0, h1]
theorem fill3 {arr : Array Value} {v0 v1 v2 : Value} (h : arr.size = 3) (h0 : v0.cells = #[v0]) (h1 : v1.cells = #[v1]) (h2 : v2.cells = #[v2]) : Instr.fill (fun i => some (i * 1, 1)) arr [(0, v0), (1, v1), (2, v2)] = some #[v0, v1, v2] := by
  obtain ⟨⟨⟩⟩ := arr
  · simp at h
  · rename_i a l
    obtain _ | ⟨b, _ | ⟨c, _ | ⟨d, l⟩⟩⟩ := l <;> simp at h
    simp [Instr.fill, h0, h1, h2]
theorem exw_slit2 {t e bytes : Nat} [h : AppT P t e 1 bytes] {x y : Operand} {v0 v1 : Value} (hx : ev L x = some v0) (hy : ev L y = some v1) (h0 : v0.cells = #[v0]) (h1 : v1.cells = #[v1]) :
    ExW P (.buildSlice t 2 #[(0, x), (1, y)]) N L (St w0 M σ H G) (fun u w => ∃ b, u = .slice (some ⟨b, 0, none⟩) 2 2 ∧ St w0 M σ ((b, .cells #[v0, v1] e) :: H) G w) := by
  obtain ⟨k1, ⟨i, z, k2, k3, k4, _, k6⟩, k7⟩ := h.ok
  refine exw_slit (parts := [(0, x), (1, y)]) (vs := [(0, v0), (1, v1)]) (by simp [partsV, hx, hy]) k1 ⟨i, z, k2, k3, by rw [k4]; omega, ?_⟩
  rw [if_neg (by omega), k4]
  exact fill2 (by simp) h0 h1
theorem exw_slit3 {t e bytes : Nat} [h : AppT P t e 1 bytes] {x y z : Operand} {v0 v1 v2 : Value} (hx : ev L x = some v0) (hy : ev L y = some v1) (hz : ev L z = some v2) (h0 : v0.cells = #[v0]) (h1 : v1.cells = #[v1]) (h2 : v2.cells = #[v2]) :
    ExW P (.buildSlice t 3 #[(0, x), (1, y), (2, z)]) N L (St w0 M σ H G) (fun u w => ∃ b, u = .slice (some ⟨b, 0, none⟩) 3 3 ∧ St w0 M σ ((b, .cells #[v0, v1, v2] e) :: H) G w) := by
  obtain ⟨k1, ⟨i, zv, k2, k3, k4, _, k6⟩, k7⟩ := h.ok
  refine exw_slit (parts := [(0, x), (1, y), (2, z)]) (vs := [(0, v0), (1, v1), (2, v2)]) (by simp [partsV, hx, hy, hz]) k1 ⟨i, zv, k2, k3, by rw [k4]; omega, ?_⟩
  rw [if_neg (by omega), k4]
  exact fill3 (by simp) h0 h1 h2
theorem ob_lit3 {t e bytes : Nat} [h : AppT P t e 1 bytes] {x y z : Operand} {v0 v1 v2 : Value} (hg : gd l0 L g = some true) (hx : ev L x = some v0) (hy : ev L y = some v1) (hz : ev L z = some v2) (h0 : v0.cells = #[v0]) (h1 : v1.cells = #[v1]) (h2 : v2.cells = #[v2]) :
    Ob P l0 ⟨some d, .buildSlice t 3 #[(0, x), (1, y), (2, z)], ty, pos, af, g⟩ N L (St w0 M σ H G) (.sat (QR (RepCells 3 [v0, v1, v2]) σ w0 (H ++ G))) := ob_w hg fun a w hf hs d ty pos af g => by
  obtain ⟨k1, ⟨i, zv, k2, k3, k4, _, k6⟩, k7⟩ := h.ok
  have em : (#[(0, x), (1, y), (2, z)].map fun p => (p.1, a.eval p.2)) = #[(0, v0), (1, v1), (2, v2)] := by simp [hf.eval hx, hf.eval hy, hf.eval hz]
  have hr := run_buildSlice (P := P) w t e 3 #[(0, v0), (1, v1), (2, v2)] #[v0, v1, v2] i zv k1 k2 k3 (by rw [k4]; omega) (by rw [k4]; omega) (by rw [k4]; exact fill3 (by simp) h0 h1 h2)
  have hs' : St w0 M σ ((w.heap.size, .cells #[v0, v1, v2] e (0, 0)) :: H) G (w.alloc (.cells #[v0, v1, v2] e)) := hs.alloc _
  have hle : Le σ (ext σ w.heap.size (.cells #[v0, v1, v2] e)) := le_ext (hs'.fresh (p := (w.heap.size, .cells #[v0, v1, v2] e)) (by simp))
  refine ⟨.slice (some ⟨w.heap.size, 0, none⟩) 3 3, w.alloc (.cells #[v0, v1, v2] e), ?_, below_alloc1 _ _, ext σ w.heap.size (.cells #[v0, v1, v2] e), hle, fun k o hk => ?_, hs'.freeze.im, ⟨w.heap.size, rfl, #[v0, v1, v2], e, (0, 0), ext_self _ _ _, fun j v hj => by simpa using hj⟩, fun p hp => hs'.freeze.fresh hp⟩
  · simp only [execOp, em]; simp [hr]
  · unfold ext at hk
    split at hk
    · rename_i hkb; subst hkb; exact .inr hs.ag.size
    · exact .inl hk
end
end Go.Proofs.YtnjomdjkbbhdoaaDoor
namespace Go.Proofs.YtnjomdjkbbhdoaaDoor
open Go.RowKit
set_option linter.unusedVariables false
theorem RowC.at {σ : Hp} : ∀ {ts : List T} {xs : List Value}, RowC σ xs ts → ∀ (i : Nat) (h : i < ts.length), ∃ cs, TermC σ cs ts[i] ∧ (xs.drop (i * 4)).take 4 = cs
  | [], xs, h, i, hi => absurd hi (Nat.not_lt_zero _)
  | t :: r, xs, h, 0, hi => by
    simp only [RowC] at h
    obtain ⟨c, rest, rfl, h1, h2⟩ := h
    exact ⟨c, h1, by rw [Nat.zero_mul, List.drop_zero, ← h1.len, List.take_left]⟩
  | t :: r, xs, h, i + 1, hi => by
    simp only [RowC] at h
    obtain ⟨c, rest, rfl, h1, h2⟩ := h
    obtain ⟨cs, h3, h4⟩ := h2.at i (by simpa using hi)
    refine ⟨cs, h3, ?_⟩
    rw [List.drop_append, List.drop_eq_nil_of_le (by rw [h1.len]; omega), h1.len, show (i + 1) * 4 - 4 = i * 4 by omega, List.nil_append]
    exact h4
def setX (xs : List Value) (i : Nat) (cs : List Value) : List Value := xs.take (i * 4) ++ cs ++ xs.drop (i * 4 + 4)
theorem setX_len {xs cs : List Value} {i : Nat} (hc : cs.length = 4) (h : i * 4 + 4 ≤ xs.length) : (setX xs i cs).length = xs.length := by
  simp [setX, hc]; omega
theorem RowC.set {σ : Hp} : ∀ {ts : List T} {xs cs : List Value} {t : T} (i : Nat), RowC σ xs ts → TermC σ cs t → i < ts.length → RowC σ (setX xs i cs) (ts.set i t)
  | [], xs, cs, t, i, h, ht, hi => absurd hi (Nat.not_lt_zero _)
  | u :: r, xs, cs, t, 0, h, ht, hi => by
    simp only [RowC] at h
    obtain ⟨c, rest, rfl, h1, h2⟩ := h
    have e : (c ++ rest).drop (0 * 4 + 4) = rest := by rw [Nat.zero_mul, Nat.zero_add, ← h1.len, List.drop_left]
    unfold setX
    rw [e]
    exact ⟨cs, rest, by simp, ht, h2⟩
  | u :: r, xs, cs, t, i + 1, h, ht, hi => by
    simp only [RowC] at h
    obtain ⟨c, rest, rfl, h1, h2⟩ := h
    have ih := h2.set i ht (by simpa using hi)
    refine ⟨c, setX rest i cs, ?_, h1, ih⟩
    unfold setX
    rw [List.take_append, List.take_of_length_le (by rw [h1.len]; omega), List.drop_append, List.drop_eq_nil_of_le (by rw [h1.len]; omega), h1.len, show (i + 1) * 4 - 4 = i * 4 by omega, show (i + 1) * 4 + 4 - 4 = i * 4 + 4 by omega]
    simp [List.append_assoc]
def rowO (xs tl : List Value) (e : Nat) : Obj := .cells (xs ++ tl).toArray e (0, 0)
section
variable {P : Program} {N : Nat} {L : TL} {w0 w : World} {M : Nat → Prop} {σ : Hp} {H G : List (Nat × Obj)}
theorem ld_rowH (k : Nat) {g e i : Nat} {xs tl cs : List Value} (hH : H[k]? = some (g, rowO xs tl e)) (hl : cs.length = 4) (hc : (xs.drop (i * 4)).take 4 = cs) : cs.length = 4 ∧ ∀ w, St w0 M σ H G w → w.rangeAt g (0 + i * 4) cs := by
  refine ⟨hl, fun w hs j v hj => ?_⟩
  rw [cell_of_blk (hs.own (List.mem_of_getElem? hH))]
  rw [← hc, List.getElem?_take] at hj
  split at hj
  · rw [List.getElem?_drop] at hj
    have hlt : i * 4 + j < xs.length := (List.getElem?_eq_some_iff.1 hj).1
    rw [Nat.zero_add]
    simpa [List.getElem?_append_left hlt] using hj
  · cases hj
theorem exu_storeX (k : Nat) {ty g e i : Nat} {x y : Operand} {xs tl cs : List Value} [h : RowT P ty 4] (hx : ev L x = some (.pointer (some ⟨g, 0 + i * 4, none⟩))) (hy : ev L y = some (.agg cs.toArray))
    (hH : H[k]? = some (g, rowO xs tl e)) (hl : cs.length = 4) (ho : ∀ v ∈ cs, v.oneCell' = true) (hle : i * 4 + 4 ≤ xs.length) :
    ExU P (.store ty x y) N L (St w0 M σ H G) (St w0 M σ (setH H k (rowO (setX xs i cs) tl e)) G) := by
  rw [Nat.zero_add] at hx
  have := exu_store (P := P) (N := N) (w0 := w0) (M := M) (σ := σ) (G := G) (ty := ty) hx hy hH (by rw [(h.ok).choose_spec.2.2, ← hl]; simp [Value.cells]) (by simp [Value.cells, hl]; omega)
    (Array.all_eq_true_iff_forall_mem.2 (fun v hv => ho v (by simpa [Value.cells] using hv)))
  have e1 : over (xs ++ tl).toArray (i * 4) cs = (setX xs i cs ++ tl).toArray := by
    unfold over setX
    rw [show (xs ++ tl).toArray.toList = xs ++ tl from rfl, hl, List.take_append_of_le_length (by omega), List.drop_append_of_le_length (by omega)]
    simp [List.append_assoc]
  have e2 : (Value.agg cs.toArray).cells.toList = cs := rfl
  rw [e2, e1] at this
  exact this
end
def GiveM (g : Nat) (tl : List Value) (e : Nat) (σ : Hp) (R : List T → Prop) (w : World) (en : Ending) (w' : World) : Prop :=
  en = .returned (.tuple #[]) ∧ ∃ us xs, R us ∧ RowC σ xs us ∧ w'.heap[g]? = some (rowO xs tl e) ∧ Ag (· = g) w w'
theorem St.mut {w0 w w' : World} {M : Nat → Prop} {σ : Hp} {g : Nat} {o o' : Obj} {H G : List (Nat × Obj)} (h : St w0 M σ ((g, o) :: H) G w) (hg : w'.heap[g]? = some o') (ha : Ag (· = g) w w') : St w0 M σ ((g, o') :: H) G w' := by
  have hnd : ((((g, o) :: H) ++ G).map (·.1)).Nodup := St0.nd h
  simp only [List.cons_append, List.map_cons, List.nodup_cons] at hnd
  have hne : ∀ p ∈ H ++ G, p.1 ≠ g := fun p hp e => hnd.1 (by rw [← e]; exact List.mem_map_of_mem hp)
  have hmo := St0.mo h
  refine ⟨⟨ha.os.trans h.ag.os, ha.tape.trans h.ag.tape, ha.output.trans h.ag.output, Nat.le_trans h.ag.size ha.size, fun k hk hM => ?_⟩, fun b ob e => ?_, fun p hp => ?_, fun p hp => ?_, fun p hp => ?_, ?_⟩
  · have : k ≠ g := by
      rintro rfl
      rcases hmo (k, o) List.mem_cons_self with h1 | h1
      · exact hM h1
      · exact absurd hk (Nat.not_lt.2 h1)
    rw [ha.block k (Nat.lt_of_lt_of_le hk h.ag.size) this]; exact h.ag.block k hk hM
  · have : b ≠ g := by rintro rfl; rw [h.fresh (p := (b, o)) List.mem_cons_self] at e; cases e
    rw [ha.block b (h.im.lt e) this]; exact h.im b ob e
  · rcases List.mem_cons.1 hp with rfl | hp
    · exact hg
    · rw [ha.block p.1 (h.lt (List.mem_cons_of_mem _ hp)) (hne p hp)]; exact St0.ow h p (List.mem_cons_of_mem _ hp)
  · rcases List.mem_cons.1 hp with rfl | hp
    · exact h.fresh (p := (g, o)) List.mem_cons_self
    · exact h.fresh (List.mem_cons_of_mem _ hp)
  · rcases List.mem_cons.1 hp with rfl | hp
    · exact hmo (g, o) List.mem_cons_self
    · exact hmo p (List.mem_cons_of_mem _ hp)
  · simpa using hnd
section
variable {P : Program} {l0 : List Oper} {Q : Exit → Act → World → Prop} {rest : List Oper} {N : Nat} {L : TL} {d : Nat} {ty : TypeId} {pos : String}
  {af : Array Edge} {gd' : Option (Nat × Bool)} {op : Op} {w0 : World} {M : Nat → Prop} {σ : Hp} {H G : List (Nat × Obj)}
def TM (g : Nat) (tl : List Value) (e : Nat) (σ : Hp) (R : List T → Prop) (w : World) (u : Value) (w' : World) : Prop := ∃ us xs, R us ∧ RowC σ xs us ∧ w'.heap[g]? = some (rowO xs tl e) ∧ Ag (· = g) w w'
theorem callM {f : FuncId} {args : Array Value} {w : World} {g e : Nat} {tl : List Value} {R : List T → Prop} (h : Calls P f args w (GiveM g tl e σ R w)) : Calls P f args w fun en w' => ∃ u, en = .returned u ∧ TM g tl e σ R w u w' :=
  h.mono fun en w' ⟨he, hx⟩ => ⟨_, he, hx⟩
theorem ow_cmd {g e : Nat} {tl : List Value} {R : List T → Prop} {o : Obj} (hd : Nat.blt d N = true) (hg : gd l0 L gd' = some true) (h : ExC P op N L (St w0 M σ ((g, o) :: H) G) (TM g tl e σ R))
    (k : ∀ v us xs, R us → RowC σ xs us → OW P l0 Q rest N ((d, v) :: L) (St w0 M σ ((g, rowO xs tl e) :: H) G)) : OW P l0 Q (⟨some d, op, ty, pos, af, gd'⟩ :: rest) N L (St w0 M σ ((g, o) :: H) G) :=
  ow_c hd hg h fun v a w' hf ⟨w, hs, us, xs, hR, hr, hb, ha⟩ => k v us xs hR hr a w' hf (hs.mut hb ha)
end
theorem St.startM {w : World} {σ : Hp} {g : Nat} {o : Obj} (hi : Imm σ w) (hg : w.heap[g]? = some o) (hd : σ g = none) : St w (· = g) σ [(g, o)] [] w :=
  ⟨.refl _ _, hi, fun p hp => by simp at hp; subst hp; exact hg, fun p hp => by simp at hp; subst hp; exact hd, fun p hp => by simp at hp; subst hp; exact .inl rfl, by simp⟩
theorem St.givesM {w0 w : World} {σ : Hp} {g e : Nat} {xs tl : List Value} {us : List T} {R : List T → Prop} (h : St w0 (· = g) σ [(g, rowO xs tl e)] [] w) (hr : RowC σ xs us) (hR : R us) : GiveM g tl e σ R w0 (.returned (.tuple #[])) w :=
  ⟨rfl, us, xs, hR, hr, h.own (p := (g, rowO xs tl e)) List.mem_cons_self, h.ag⟩
def GiveO (e size n : Nat) (xs : List Value) (w : World) (en : Ending) (w' : World) : Prop :=
  ∃ v Gs, en = .returned v ∧ OwnSl e size v n xs Gs ∧ Own Gs w' ∧ (∀ p ∈ Gs, w.heap.size ≤ p.1) ∧ Below w.heap.size w w'
theorem OwnSl.nd {e size n : Nat} {v : Value} {xs : List Value} {Gs : List (Nat × Obj)} (h : OwnSl e size v n xs Gs) : (Gs.map (·.1)).Nodup := by
  rcases h.2 with ⟨_, _, rfl⟩ | ⟨g, c, cur, _, rfl, _⟩ <;> simp
theorem St.givesO {w0 w : World} {σ : Hp} {H Gs : List (Nat × Obj)} {e size n : Nat} {v : Value} {xs : List Value} (h : St w0 (fun _ => False) σ H Gs w) (hO : OwnSl e size v n xs Gs) : GiveO e size n xs w0 (.returned v) w :=
  ⟨v, Gs, rfl, hO, fun p hp => h.ownG hp, fun p hp => (St0.mo h p (List.mem_append_right _ hp)).resolve_left id, h.ag.below⟩
section
variable {P : Program} {l0 : List Oper} {Q : Exit → Act → World → Prop} {rest : List Oper} {N : Nat} {L : TL} {d : Nat} {ty : TypeId} {pos : String}
  {af : Array Edge} {g : Option (Nat × Bool)} {op : Op} {w0 : World} {M : Nat → Prop} {σ : Hp} {H : List (Nat × Obj)}
def TO (e size n : Nat) (xs : List Value) (w : World) (v : Value) (w' : World) : Prop := ∃ Gs, OwnSl e size v n xs Gs ∧ Own Gs w' ∧ (∀ p ∈ Gs, w.heap.size ≤ p.1) ∧ Below w.heap.size w w'
theorem callO {f : FuncId} {args : Array Value} {w : World} {e size n : Nat} {xs : List Value} (h : Calls P f args w (GiveO e size n xs w)) : Calls P f args w fun en w' => ∃ u, en = .returned u ∧ TO e size n xs w u w' :=
  h.mono fun en w' ⟨v, Gs, he, hx⟩ => ⟨v, he, Gs, hx⟩
theorem ow_co {e size n : Nat} {xs : List Value} (hN : Nat.blt d N = true) (hg : gd l0 L g = some true) (h : ExC P op N L (St w0 M σ H []) (TO e size n xs))
    (k : ∀ v Gs, OwnSl e size v n xs Gs → OW P l0 Q rest N ((d, v) :: L) (St w0 M σ H Gs)) : OW P l0 Q (⟨some d, op, ty, pos, af, g⟩ :: rest) N L (St w0 M σ H []) :=
  ow_c hN hg h fun v a w' hf ⟨w, hs, Gs, hO, ho, hlt, hb⟩ => k v Gs hO a w' hf (by
    have hk := hs.keep hb
    refine ⟨hk.ag, hk.im, fun p hp => ?_, fun p hp => ?_, fun p hp => ?_, ?_⟩
    · rcases List.mem_append.1 hp with hp | hp
      · exact hk.own hp
      · exact ho p hp
    · rcases List.mem_append.1 hp with hp | hp
      · exact hk.fresh (List.mem_append_left _ hp)
      · cases hσ : σ p.1 with
        | none => rfl
        | some o => exact absurd (hs.im.lt hσ) (Nat.not_lt.2 (hlt p hp))
    · rcases List.mem_append.1 hp with hp | hp
      · exact St0.mo hk p (List.mem_append_left _ hp)
      · exact .inr (Nat.le_trans hs.ag.size (hlt p hp))
    · rw [List.map_append, List.nodup_append]
      refine ⟨by simpa using St0.nd hk, hO.nd, fun a ha b hb e => ?_⟩
      subst e
      obtain ⟨p, hp, rfl⟩ := List.mem_map.1 ha
      obtain ⟨q, hq, e⟩ := List.mem_map.1 hb
      have h1 := hs.lt (List.mem_append_left [] hp)
      have h2 := hlt q hq
      omega)
end
theorem OwnSl.open {e size n : Nat} {v : Value} {xs : List Value} {Gs : List (Nat × Obj)} (h : OwnSl e size v n xs Gs) (hn : 0 < n) :
    ∃ g c tl, v = .slice (some ⟨g, 0, none⟩) n c ∧ Gs = [(g, rowO xs tl e)] ∧ n ≤ c ∧ c ≤ maxLen ∧ (xs ++ tl).length = c * size := by
  rcases h.2 with ⟨_, h0, _⟩ | ⟨g, c, cur, rfl, rfl, h2, h3, h4, h5⟩
  · omega
  · refine ⟨g, c, cur.toList.drop (n * size), rfl, ?_, h2, h3, ?_⟩
    · unfold rowO; rw [← h5, List.take_append_drop]
    · rw [← h5, List.take_append_drop]; simpa using h4
theorem OwnSl.close {e size n g c : Nat} {xs tl : List Value} (hx : xs.length = n * size) (h2 : n ≤ c) (h3 : c ≤ maxLen) (h4 : (xs ++ tl).length = c * size) : OwnSl e size (.slice (some ⟨g, 0, none⟩) n c) n xs [(g, rowO xs tl e)] :=
  ⟨hx, .inr ⟨g, c, (xs ++ tl).toArray, rfl, rfl, h2, h3, by simpa using h4, by rw [← hx]; simp⟩⟩
def InR (a b : Nat) (us ts : List T) : Prop := us.length = ts.length ∧ us.take a = ts.take a ∧ us.drop b = ts.drop b ∧ us.Perm ts
def SortedR (a b : Nat) (us : List T) : Prop := ∀ j (h : j + 1 < us.length), a ≤ j → j + 1 < b → ord us[j] us[j + 1] ≤ 0
theorem InR.refl (a b : Nat) (ts : List T) : InR a b ts ts := ⟨rfl, rfl, rfl, List.Perm.refl _⟩
theorem InR.trans {a b : Nat} {us vs ts : List T} (h : InR a b us vs) (k : InR a b vs ts) : InR a b us ts := ⟨h.1.trans k.1, h.2.1.trans k.2.1, h.2.2.1.trans k.2.2.1, h.2.2.2.trans k.2.2.2⟩
def swapL (ts : List T) (i j : Nat) (hi : i < ts.length) (hj : j < ts.length) : List T := (ts.set i ts[j]).set j ts[i]
theorem swapL_len (ts : List T) (i j : Nat) (hi hj) : (swapL ts i j hi hj).length = ts.length := by simp [swapL]
theorem swapL_get? (ts : List T) (i j : Nat) (hi : i < ts.length) (hj : j < ts.length) (k : Nat) : (swapL ts i j hi hj)[k]? = if k = j then some ts[i] else if k = i then some ts[j] else ts[k]? := by
  simp only [swapL, List.getElem?_set, List.length_set]
  by_cases h1 : k = j
  · subst h1; simp [hj]
  · rw [if_neg (fun e => h1 e.symm), if_neg h1]
    by_cases h2 : k = i
    · subst h2; simp [hi]
    · rw [if_neg (fun e => h2 e.symm), if_neg h2]
theorem swapL_get (ts : List T) (i j : Nat) (hi : i < ts.length) (hj : j < ts.length) (k : Nat) (hk : k < ts.length) : (swapL ts i j hi hj)[k]'(by rw [swapL_len]; exact hk) = if k = j then ts[i] else if k = i then ts[j] else ts[k] := by
  have := swapL_get? ts i j hi hj k
  rw [List.getElem?_eq_getElem (by rw [swapL_len]; exact hk), List.getElem?_eq_getElem hk] at this
  split at this
  · rename_i h; rw [if_pos h]; exact Option.some.inj this
  · rename_i h
    rw [if_neg h]
    split at this
    · rename_i h'; rw [if_pos h']; exact Option.some.inj this
    · rename_i h'; rw [if_neg h']; exact Option.some.inj this
theorem swapL_inR {a b i j : Nat} {ts : List T} (hi : i < ts.length) (hj : j < ts.length) (h1 : a ≤ i) (h2 : i < b) (h3 : a ≤ j) (h4 : j < b) : InR a b (swapL ts i j hi hj) ts := by
  refine ⟨swapL_len _ _ _ _ _, ?_, ?_, ?_⟩
  · apply List.ext_getElem?
    intro k
    simp only [List.getElem?_take]
    split
    · rename_i hk; simp only [swapL, List.getElem?_set]; rw [if_neg (by omega), if_neg (by omega)]
    · rfl
  · apply List.ext_getElem?
    intro k
    simp only [List.getElem?_drop, swapL, List.getElem?_set]
    rw [if_neg (by omega), if_neg (by omega)]
  · by_cases hij : i = j
    · subst hij
      simp [swapL]
    · classical
      rw [List.perm_iff_count]
      intro t
      unfold swapL
      rw [List.count_set (by simpa using hj), List.count_set hi, List.getElem_set_ne hij]
      have ci : ts[i] ∈ ts := List.getElem_mem _
      have cj : ts[j] ∈ ts := List.getElem_mem _
      have p1 : 0 < ts.count ts[i] := List.count_pos_iff.2 ci
      have p2 : 0 < ts.count ts[j] := List.count_pos_iff.2 cj
      by_cases e1 : ts[i] = t <;> by_cases e2 : ts[j] = t <;> simp [e1, e2] <;> subst_vars <;> omega
def InsInv (a i j : Nat) (us : List T) : Prop := (∀ k (h : k + 1 < us.length), a ≤ k → k + 1 ≤ i → k + 1 ≠ j → ord us[k] us[k + 1] ≤ 0) ∧ (∀ (h : j + 1 < us.length), a < j → j + 1 ≤ i → ord us[j - 1] us[j + 1] ≤ 0)
theorem InsInv.start {a i : Nat} {us : List T} (h : SortedR a i us) : InsInv a i i us := ⟨fun k hk h1 h2 h3 => h k hk h1 (by omega), fun _ _ h => absurd h (by omega)⟩
theorem InsInv.fin {a i j : Nat} {us : List T} (hj : j < us.length) (h : InsInv a i j us) (hn : a < j → 0 ≤ ord us[j] us[j - 1]) : SortedR a (i + 1) us := fun k hk h1 h2 => by
  by_cases e : k + 1 = j
  · have := hn (by omega)
    rw [ord_neg]
    have e1 : j - 1 = k := by omega
    simp only [e1] at this
    subst e
    omega
  · exact h.1 k hk h1 (by omega) e
theorem InsInv.step {a i j : Nat} {us : List T} (hj : j < us.length) (haj : a < j) (hji : j ≤ i) (h : InsInv a i j us) (hlt : ord us[j] us[j - 1] < 0) : InsInv a i (j - 1) (swapL us j (j - 1) hj (by omega)) := by
  have hl := swapL_len us j (j - 1) hj (by omega)
  refine ⟨fun k hk h1 h2 h3 => ?_, fun hk h1 h2 => ?_⟩
  · have hk' : k + 1 < us.length := by rw [hl] at hk; exact hk
    rw [swapL_get us j (j - 1) hj (by omega) k (by omega), swapL_get us j (j - 1) hj (by omega) (k + 1) hk']
    by_cases e1 : k = j - 1
    · rw [if_pos e1, if_neg (by omega), if_pos (by omega)]; omega
    · rw [if_neg e1]
      by_cases e2 : k = j
      · subst e2
        rw [if_pos rfl, if_neg (by omega), if_neg (by omega)]
        exact h.2 hk' haj h2
      · rw [if_neg e2, if_neg h3, if_neg (by omega)]
        exact h.1 k hk' h1 h2 (by omega)
  · have hk' : j - 1 + 1 < us.length := by rw [hl] at hk; exact hk
    rw [swapL_get us j (j - 1) hj (by omega) (j - 1 - 1) (by omega), swapL_get us j (j - 1) hj (by omega) (j - 1 + 1) hk', if_neg (by omega), if_neg (by omega), if_neg (by omega), if_pos (by omega)]
    have := h.1 (j - 1 - 1) (by omega) (by omega) (by omega) (by omega)
    have e : j - 1 - 1 + 1 = j - 1 := by omega
    simp only [e] at this
    exact this
theorem sorted_le {a : T} : ∀ {r : List T}, sorted (a :: r) = true → ∀ x ∈ r, ord a x ≤ 0
  | [], _, x, hx => by cases hx
  | b :: r, h, x, hx => by
    simp only [sorted, Bool.and_eq_true, decide_eq_true_eq] at h
    rcases List.mem_cons.1 hx with rfl | hx
    · exact h.1
    · exact ord_le_trans h.1 (sorted_le (r := r) (by simp only [sorted, Bool.and_eq_true, decide_eq_true_eq]; exact h.2) x hx)
theorem sorted_tail {a : T} {r : List T} (h : sorted (a :: r) = true) : sorted r = true := by
  simp only [sorted, Bool.and_eq_true] at h; exact h.2
theorem sorted_unique : ∀ {l m : List T}, sorted l = true → sorted m = true → l.Perm m → l = m
  | [], m, _, _, hp => (List.nil_perm.1 hp).symm
  | a :: r, [], _, _, hp => by simpa using hp.length_eq
  | a :: r, b :: s, h, k, hp => by
    have hab : a = b := by
      have h1 : b ∈ a :: r := hp.mem_iff.2 List.mem_cons_self
      have h2 : a ∈ b :: s := hp.mem_iff.1 List.mem_cons_self
      rcases List.mem_cons.1 h1 with e | h1
      · exact e.symm
      · rcases List.mem_cons.1 h2 with e | h2
        · exact e
        · have h3 := sorted_le h b h1
          have h4 := sorted_le k a h2
          rw [ord_neg] at h4
          exact ord_zero.1 (by omega)
    subst hab
    rw [sorted_unique (sorted_tail h) (sorted_tail k) ((List.perm_cons a).1 hp)]
theorem sorted_of {us ts : List T} (h : InR 0 ts.length us ts) (k : SortedR 0 ts.length us) : us.Perm ts ∧ sorted us = true :=
  ⟨h.2.2.2, sorted_iff.2 fun i hi => k i hi (Nat.zero_le _) (by rw [← h.1]; exact hi)⟩
def SortsAt (P : Program) (f o e B : Nat) : Prop := ∀ {g c n : Nat} {ts : List T} {xs tl : List Value} {σ : Hp} {w : World}, n = ts.length → Imm σ w → w.heap[g]? = some (rowO xs tl e) → σ g = none → RowC σ xs ts → ts.length ≤ B → ts.length ≤ c →
  Calls P f #[.slice (some ⟨g, 0, none⟩) n c, .func (.func o) #[] #[]] w (GiveM g tl e σ (fun us => us.Perm ts ∧ sorted us = true) w)
theorem sorted_pw : ∀ {l : List T}, sorted l = true ↔ l.Pairwise (fun a b => ord a b ≤ 0)
  | [] => by simp [sorted]
  | a :: r => by
    rw [List.pairwise_cons, ← sorted_pw (l := r)]
    constructor
    · exact fun h => ⟨sorted_le h, sorted_tail h⟩
    · rintro ⟨h1, h2⟩
      cases r with
      | nil => rfl
      | cons b s => simp only [sorted, Bool.and_eq_true, decide_eq_true_eq] at h2 ⊢; exact ⟨h1 b List.mem_cons_self, h2⟩
theorem backAt_le (ks : List T) (x : T) : ∀ n, backAt ks x n ≤ n
  | 0 => Nat.le_refl _
  | n + 1 => by have := backAt_le ks x n; unfold backAt; split <;> omega
theorem backAt_hi (ks : List T) (x : T) : ∀ n j, backAt ks x n ≤ j → j < n → 0 < ord (ks.getD j zeroT) x
  | 0, j, h, k => absurd k (Nat.not_lt_zero _)
  | n + 1, j, h, k => by
    unfold backAt at h
    split at h
    · rename_i hp
      by_cases e : j = n
      · subst e; exact hp
      · exact backAt_hi ks x n j h (by omega)
    · omega
theorem backAt_lo (ks : List T) (x : T) : ∀ n, 0 < backAt ks x n → ord (ks.getD (backAt ks x n - 1) zeroT) x ≤ 0
  | 0, h => absurd h (Nat.lt_irrefl _)
  | n + 1, h => by
    unfold backAt at h ⊢
    split
    · rename_i hp
      rw [if_pos hp] at h
      exact backAt_lo ks x n h
    · rename_i hp
      rw [Nat.add_sub_cancel]; omega
theorem putB_perm (ks : List T) (x : T) : (putB ks x).Perm (x :: ks) := by
  unfold putB
  refine List.perm_middle.trans ?_
  rw [List.take_append_drop]
theorem putB_sorted {ks : List T} {x : T} (h : sorted ks = true) : sorted (putB ks x) = true := by
  have hp := sorted_pw.1 h
  rw [sorted_pw]
  unfold putB
  have hk := backAt_le ks x ks.length
  have hhi := backAt_hi ks x ks.length
  have hlo := backAt_lo ks x ks.length
  generalize backAt ks x ks.length = k at *
  have hgt : ∀ b ∈ ks.drop k, 0 < ord b x := fun b hb => by
    obtain ⟨i, hi, e⟩ := List.mem_iff_getElem.1 hb
    rw [List.length_drop] at hi
    have := hhi (k + i) (by omega) (by omega)
    rw [List.getElem_drop] at e
    rw [List.getD_eq_getElem?_getD, List.getElem?_eq_getElem (show k + i < ks.length by omega), Option.getD_some, e] at this
    exact this
  have hle : ∀ b ∈ ks.take k, ord b x ≤ 0 := fun b hb => by
    obtain ⟨i, hi, e⟩ := List.mem_iff_getElem.1 hb
    rw [List.length_take] at hi
    rw [List.getElem_take] at e
    have h1 := hlo (by omega)
    rw [List.getD_eq_getElem?_getD, List.getElem?_eq_getElem (show k - 1 < ks.length by omega), Option.getD_some] at h1
    by_cases hik : i = k - 1
    · subst hik; rw [← e]; exact h1
    · have h2 := (List.pairwise_iff_getElem.1 hp) i (k - 1) (by omega) (by omega) (by omega)
      rw [e] at h2
      exact ord_le_trans h2 h1
  rw [List.pairwise_append]
  refine ⟨hp.sublist (List.take_sublist _ _), List.pairwise_cons.2 ⟨fun b hb => by have := hgt b hb; rw [ord_neg]; omega, hp.sublist (List.drop_sublist _ _)⟩, fun a ha b hb => ?_⟩
  rcases List.mem_cons.1 hb with rfl | hb
  · exact hle a ha
  · have h1 := hle a ha
    have h2 := hgt b hb
    exact ord_le_trans h1 (by rw [ord_neg]; omega)
theorem sortB_spec : ∀ (l acc : List T), sorted acc = true → sorted (sortB acc l) = true ∧ (sortB acc l).Perm (acc ++ l)
  | [], acc, h => ⟨h, by simp [sortB]⟩
  | k :: r, acc, h => by
    rw [sortB]
    obtain ⟨h1, h2⟩ := sortB_spec r (putB acc k) (putB_sorted h)
    refine ⟨h1, h2.trans ?_⟩
    exact ((putB_perm acc k).append_right r).trans (by rw [List.cons_append]; exact List.perm_middle.symm)
theorem sortB_is {us l : List T} (hp : us.Perm l) (hs : sorted us = true) : us = sortB [] l := by
  obtain ⟨h1, h2⟩ := sortB_spec l [] rfl
  exact sorted_unique hs h1 (hp.trans (by simpa using h2.symm))
theorem norms_set (ks : List T) (i : Nat) (h : i < ks.length) : (norms (ks.take i) ++ ks.drop i).set i (norm ks[i]) = norms (ks.take (i + 1)) ++ ks.drop (i + 1) := by
  have hl : (norms (ks.take i)).length = i := by rw [norms_len, List.length_take]; omega
  rw [norms_take ks i h, List.drop_eq_getElem_cons h, List.set_append, if_neg (by omega), hl, Nat.sub_self, List.set_cons_zero, List.append_assoc]
  rfl
theorem norms_at (ks : List T) (i : Nat) (h : i < ks.length) (h' : i < (norms (ks.take i) ++ ks.drop i).length) : (norms (ks.take i) ++ ks.drop i)[i] = ks[i] := by
  have hl : (norms (ks.take i)).length = i := by rw [norms_len, List.length_take]; omega
  rw [List.getElem_append_right (by omega)]
  simp [hl]
def slim (B : Nat) : T → Prop := fun t => T.rec (motive_1 := fun _ => Prop) (motive_2 := fun _ => Prop) (fun _ _ _ ks ih => ks.length ≤ B ∧ ih) True (fun _ _ h1 h2 => h1 ∧ h2) t
theorem slim_mk {B : Nat} {o n : Int} {d : List UInt8} {ks : List T} : slim B (.mk o n d ks) ↔ ks.length ≤ B ∧ ∀ k ∈ ks, slim B k := by
  have key : ∀ (l : List T), T.rec_1 (motive_1 := fun _ => Prop) (motive_2 := fun _ => Prop) (fun _ _ _ ks ih => ks.length ≤ B ∧ ih) True (fun _ _ h1 h2 => h1 ∧ h2) l ↔ ∀ k ∈ l, slim B k := by
    intro l
    induction l with
    | nil => simp
    | cons a r ih => rw [List.forall_mem_cons, ← ih]; rfl
  rw [← key ks]; rfl
def RepB (d : List UInt8) (σ : Hp) (v : Value) : Prop := BytesV σ v d
instance (d : List UInt8) : MonoR (RepB d) := ⟨fun hl h => BytesV.le hl h⟩
end Go.Proofs.YtnjomdjkbbhdoaaDoor
namespace Go.Proofs.YtnjomdjkbbhdoaaDoor
open Go.RowKit
set_option linter.unusedVariables false
def Pures (P : Program) (l0 : List Oper) (L0 : TL) (N : Nat) (K : List KE) : List Nat → Prop
  | [] => True
  | i :: r => (∃ o v d, l0[i]? = some o ∧ o.dst = some d ∧ (⟨i, d, .is v⟩ : KE) ∈ K ∧ ObK P l0 o N L0 K (fun _ => True) (.is v)) ∧ Pures P l0 L0 N K r
theorem Pures.get {P : Program} {l0 : List Oper} {L0 : TL} {N : Nat} {K : List KE} : ∀ {F : List Nat}, Pures P l0 L0 N K F → ∀ i ∈ F, ∃ o v d, l0[i]? = some o ∧ o.dst = some d ∧ (⟨i, d, .is v⟩ : KE) ∈ K ∧ ObK P l0 o N L0 K (fun _ => True) (.is v)
  | [], _, i, h => by cases h
  | j :: r, h, i, hi => by
    rcases List.mem_cons.1 hi with rfl | hi
    · exact h.1
    · exact Pures.get h.2 i hi
def allIs : List KE → Bool
  | [] => true
  | e :: r => match e.p with
    | .is _ => allIs r
    | .sat _ => false
theorem allIs_get : ∀ {K : List KE}, allIs K = true → ∀ e ∈ K, ∃ v, e.p = .is v
  | [], _, e, he => by cases he
  | x :: r, h, e, he => by
    simp only [allIs] at h
    cases hp : x.p with
    | sat q => simp [hp] at h
    | is v =>
      rw [hp] at h
      rcases List.mem_cons.1 he with rfl | he
      · exact ⟨v, hp⟩
      · exact allIs_get h e he
def memN (i : Nat) : List Nat → Bool
  | [] => false
  | j :: r => match Nat.beq i j with
    | true => true
    | false => memN i r
theorem memN_mem : ∀ {F : List Nat} {i : Nat}, memN i F = true → i ∈ F
  | [], i, h => by cases h
  | j :: r, i, h => by
    simp only [memN] at h
    cases hb : Nat.beq i j with
    | true => rw [Nat.eq_of_beq_eq_true hb]; exact List.mem_cons_self
    | false => rw [hb] at h; exact List.mem_cons_of_mem _ (memN_mem h)
def depsL : List Edge → List Nat
  | [] => []
  | e :: r => match Region.binds .any e with
    | true => e.on :: depsL r
    | false => depsL r
theorem depsL_mem : ∀ {af : List Edge} {j : Nat}, j ∈ depsL af → ∃ e ∈ af, e.on = j ∧ Region.binds .any e = true
  | [], j, h => by cases h
  | e :: r, j, h => by
    simp only [depsL] at h
    cases hb : Region.binds .any e with
    | true =>
      rw [hb] at h
      rcases List.mem_cons.1 h with rfl | h
      · exact ⟨e, List.mem_cons_self, rfl, hb⟩
      · obtain ⟨x, hx, hj⟩ := depsL_mem h; exact ⟨x, List.mem_cons_of_mem _ hx, hj⟩
    | false => rw [hb] at h; obtain ⟨x, hx, hj⟩ := depsL_mem h; exact ⟨x, List.mem_cons_of_mem _ hx, hj⟩
def clos (l : List Oper) : Nat → List Nat → List Nat
  | 0, M => M
  | k + 1, M => match memN k M with
    | true => clos l k ((match l[k]? with
      | some o => depsL o.after.toList
      | none => []) ++ M)
    | false => clos l k M
theorem clos_listed {l : List Oper} {n : Nat} {listed : Array Bool} (inv : HeadInv .any l.toArray n listed) : ∀ (k : Nat) (M : List Nat), (∀ j ∈ M, listed.getD j false = true) → ∀ j ∈ clos l k M, listed.getD j false = true
  | 0, M, h, j, hj => h j hj
  | k + 1, M, h, j, hj => by
    simp only [clos] at hj
    cases hm : memN k M with
    | false => rw [hm] at hj; exact clos_listed inv k M h j hj
    | true =>
      rw [hm] at hj
      refine clos_listed inv k _ (fun i hi => ?_) j hj
      rcases List.mem_append.1 hi with hi | hi
      · cases ho : l[k]? with
        | none => rw [ho] at hi; cases hi
        | some o =>
          rw [ho] at hi
          obtain ⟨e, he, hej, heb⟩ := depsL_mem hi
          rw [← hej]
          exact inv.closed k o (by simpa using ho) (h k (memN_mem hm)) e (by simpa using he) heb
      · exact h i hi
def waitsB (l : List Oper) (o : Oper) (F : List Nat) (n : Nat) : Bool := (List.range n).all fun j => memN j F || memN j (clos l n (depsL o.after.toList))
def swapB (N : Nat) (l : List Oper) (n : Nat) (F : List Nat) : Bool :=
  Nat.blt (n + 1) l.length && ownDst N (l.take n) && aheadB 0 l && Region.sinkB .any l.toArray (n + 1) && Region.chainB .any l.toArray (n + 1) &&
    Region.seqB .any l.toArray (l.length - (n + 1)) (n + 1) (firsts (n + 1) l.length) && (match l[n]? with
      | some o => o.dst.isNone && o.guard.isNone && waitsB l o F n
      | none => false)
theorem flow_sound2 {P : Program} {l : List Oper} {L : TL} {S S' : World → Prop} [hSta : Sta S] [hSta' : Sta S'] {N : Nat} {Q : Exit → Act → World → Prop} {id : Nat} [hm : MixT P] (n : Nat) (F : List Nat) (hB : swapB N l n F = true)
    (h : Flow P l (Go.Proofs.YtnjomdjkbbhdoaaDoor.cut (l.take n) L) S N (fun K => allIs K = true ∧ Pures P l (Go.Proofs.YtnjomdjkbbhdoaaDoor.cut (l.take n) L) N K F ∧
      (∀ o, l[n]? = some o → ∀ a w, Fr N (Go.Proofs.YtnjomdjkbbhdoaaDoor.cut (l.take n) L) a → S w → (∀ e ∈ K, memN e.j F = false → ∃ v, a.tmps[e.d]? = some v ∧ e.p.holds w v) → o.wp P a w (fun a' w' => a' = a ∧ S' w') (fun _ _ _ => False)) ∧
      (∀ a w, Fr N (Go.Proofs.YtnjomdjkbbhdoaaDoor.cut (l.take n) L) a → S' w → (∀ e ∈ K, ∃ v, a.tmps[e.d]? = some v ∧ e.p.holds w v) → wpList P l.toArray Q (l.drop (n + 1)) a w)) (l.take n) 0 []) :
    CW P (.region id l.toArray true) Q N L S := by
  simp only [swapB, Bool.and_eq_true] at hB
  obtain ⟨⟨⟨⟨⟨⟨hn, hown⟩, hahead⟩, hsink⟩, hchain⟩, hseq⟩, hst⟩ := hB
  have hn' : n + 1 < l.length := by have := hn; simp [Nat.blt] at this; omega
  obtain ⟨on, hon, hond, hong, honw⟩ : ∃ o, l[n]? = some o ∧ o.dst = none ∧ o.guard = none ∧ waitsB l o F n = true := by
    cases hl : l[n]? with
    | none => rw [hl] at hst; cases hst
    | some o => rw [hl] at hst; simp only [Bool.and_eq_true, Option.isNone_iff_eq_none] at hst; exact ⟨o, rfl, hst.1.1, hst.1.2, hst.2⟩
  obtain ⟨Kf, ⟨hisK, hpure, hstore, hfin⟩, -, hK, hcov, huni⟩ := flow_all (l.take n) 0 [] (fun j hj => by
    rw [List.length_take] at hj
    rw [List.getElem?_take_of_lt (by omega)]; simp) (fun _ he => absurd he List.not_mem_nil) h
  have hK' : ∀ e ∈ Kf, e.j < n ∧ ∃ o, l[e.j]? = some o ∧ o.dst = some e.d ∧ e.p.pers ∧ ∀ a w, Fr N (Go.Proofs.YtnjomdjkbbhdoaaDoor.cut (l.take n) L) a → S w →
      (∀ e' ∈ Kf, edge o.after.toList e'.j = true → ∃ v, a.tmps[e'.d]? = some v ∧ e'.p.holds w v) → stepOK P l o a w e.p := fun e he => by
    rcases hK e he with h0 | ⟨_, h1, h2⟩
    · cases h0
    · exact ⟨by rw [List.length_take] at h1; omega, h2⟩
  have hsz : l.toArray.size = l.length := by simp
  have key : ∀ (g : Nat) (listed : Array Bool) (a : Act) (w : World), HeadInv .any l.toArray (n + 1) listed → cnt listed (n + 1) = g → Fr N (Go.Proofs.YtnjomdjkbbhdoaaDoor.cut (l.take n) L) a →
      (listed.getD n true = false → S w) → (listed.getD n true = true → S' w ∧ ∀ j, j < n → listed.getD j true = false → memN j F = true) →
      (∀ e ∈ Kf, listed.getD e.j true = true → ∃ v, a.tmps[e.d]? = some v ∧ e.p.holds w v) → wpAny P .any l.toArray Q (g + (l.length - (n + 1))) listed a w := by
    intro g
    induction g with
    | zero =>
      intro listed a w inv hc hf hs hs' hk
      have hall := cnt_zero hc
      have hlist : listed = firsts (n + 1) l.length := by
        apply Array.ext_getElem?
        intro i
        have hs1 : listed.size = l.length := by rw [inv.size, hsz]
        unfold firsts
        rcases Nat.lt_or_ge i (n + 1) with h1 | h1
        · have := hall i h1
          have hi : i < listed.size := by omega
          simp [hi] at this
          simp [hi, this, List.getElem?_append, h1]
        · rcases Nat.lt_or_ge i l.length with h2 | h2
          · have := inv.tail i h1 (by rw [hsz]; exact h2)
            have hi : i < listed.size := by omega
            simp [hi] at this
            simp [hi, this, List.getElem?_append, show ¬ i < n + 1 by omega, show i - (n + 1) < l.length - (n + 1) by omega]
          · rw [Array.getElem?_eq_none (by omega)]
            simp [List.getElem?_append, show ¬ i < n + 1 by omega, show ¬ i - (n + 1) < l.length - (n + 1) by omega]
      have hw := hfin a w hf (hs' (hall n (by omega))).1 (fun e he => hk e he (hall e.j (by have := (hK' e he).1; omega)))
      have := wpAny_of_seq (P := P) (md := .any) (ops := l.toArray) (l.drop (n + 1)) (n + 1) listed a w (fun j => by simp) (by rw [List.length_drop, hlist]; exact hseq) hw
      rwa [List.length_drop, ← Nat.zero_add (l.length - (n + 1))] at this
    | succ g ih =>
      intro listed a w inv hc hf hs hs' hk
      rw [show g + 1 + (l.length - (n + 1)) = (g + (l.length - (n + 1))) + 1 by omega]
      obtain ⟨i0, hi0, hun0, hbelow⟩ := cnt_pos (show 0 < cnt listed (n + 1) by omega)
      have hs1 : listed.size = l.length := by rw [inv.size, hsz]
      have hready : i0 ∈ Region.ready .any l.toArray listed := by
        have hlt : i0 < l.length := by omega
        refine mem_ready.2 ⟨hun0, l[i0], by simp [hlt], fun e he hb => ?_⟩
        have h1 := ahead_get hahead i0 l[i0] (by simp [hlt]) e he hb
        have h2 := hbelow e.on (by omega)
        have hlt2 : e.on < listed.size := by omega
        simp [hlt2] at h2 ⊢
        exact h2
      refine ⟨fun hnil => (by rw [hnil] at hready; cases hready), fun i hi => ?_⟩
      have hin : i < n + 1 := by
        rcases Nat.lt_or_ge i (n + 1) with h1 | h1
        · exact h1
        · exact absurd hi (tail_waits hsink hchain (by rw [hsz]; omega) inv (n + 1 - i0) i0 rfl hi0 hun0 i h1)
      obtain ⟨huni1, oi, hoi, hdeps⟩ := mem_ready.1 hi
      have hoi' : l[i]? = some oi := by simpa using hoi
      have hcnt : cnt (listed.setIfInBounds i true) (n + 1) = g := by have := cnt_set huni1 (n + 1) hin; omega
      have hset : (listed.setIfInBounds i true).getD i true = true := by
        rcases Nat.lt_or_ge i listed.size with hlt | hge
        · simp [hlt]
        · simp [hge]
      have hbound : ∀ x, edge oi.after.toList x = true → x < n → listed.getD x true = true := fun x hx hxn => by
        obtain ⟨y, hy, hyj, hyb⟩ := edge_mem hx
        have h1 := hdeps y (by simpa using hy) hyb
        rw [hyj] at h1
        have hlt2 : x < listed.size := by omega
        simp [hlt2] at h1 ⊢
        exact h1
      by_cases hie : i = n
      · -- the store
        subst hie
        have : oi = on := Option.some.inj (hoi'.symm.trans hon)
        subst this
        have hfree : ∀ j, j < i → memN j F = false → listed.getD j true = true := fun j hj hjf => by
          have := (List.all_eq_true.1 honw) j (List.mem_range.2 hj)
          rw [hjf, Bool.false_or] at this
          have h2 := clos_listed inv i _ (fun x hx => by
            obtain ⟨e, he, hej, heb⟩ := depsL_mem hx
            rw [← hej]; exact hdeps e (by simpa using he) heb) j (memN_mem this)
          have hlt2 : j < listed.size := by omega
          simp [hlt2] at h2 ⊢
          exact h2
        have hwp := hstore oi hoi' a w hf (hs huni1) (fun e he hef => hk e he (hfree e.j (hK' e he).1 hef))
        unfold wpOp
        simp only [hoi]
        rw [if_pos (by simp [Region.wanted, hong])]
        refine .inl (wp_false hwp fun a' w' ⟨ha, hsw⟩ => ?_)
        subst ha
        refine ih _ _ _ (inv.set hi hin) hcnt hf (fun hx => by rw [hset] at hx; cases hx) (fun _ => ⟨hsw, fun j hj hjl => ?_⟩) (fun e he hel => ?_)
        · rw [getD_set_ne true (by omega)] at hjl
          cases hjf : memN j F with
          | true => rfl
          | false => rw [hfree j hj hjf] at hjl; cases hjl
        · have hlt := (hK' e he).1
          rw [getD_set_ne true (by omega)] at hel
          obtain ⟨v, hv, hp⟩ := hk e he hel
          obtain ⟨u, hu⟩ := allIs_get hisK e he
          rw [hu] at hp ⊢
          exact ⟨v, hv, hp⟩
      · have hlt : i < n := by omega
        obtain ⟨e, heK, hej⟩ := hcov i (by rw [List.length_take]; omega)
        have hej' : e.j = i := by omega
        obtain ⟨_, o, ho, hod, hpers, hstep⟩ := hK' e heK
        rw [hej'] at ho
        have : o = oi := Option.some.inj (ho.symm.trans hoi')
        subst this
        have hdn : e.d < N := by
          obtain ⟨d, hd1, hd2⟩ := ownDst_get hown i o (by rw [List.getElem?_take_of_lt hlt]; exact ho)
          rw [hod] at hd1; cases hd1; exact hd2
        have hcutd : ∀ v, lk (Go.Proofs.YtnjomdjkbbhdoaaDoor.cut (l.take n) L) e.d = some v → False := fun v hv => by
          have h1 := (lk_cut hv).1
          rw [anyDst_of (List.mem_of_getElem? (l := l.take n) (i := i) (by rw [List.getElem?_take_of_lt hlt]; exact ho)) hod] at h1
          cases h1
        have hfacts : ∀ e' ∈ Kf, edge o.after.toList e'.j = true → ∃ v, a.tmps[e'.d]? = some v ∧ e'.p.holds w v := fun e' he' hed => hk e' he' (hbound e'.j hed (hK' e' he').1)
        have hso : stepOK P l o a w e.p := by
          cases hln : listed.getD n true with
          | false => exact hstep a w hf (hs hln) hfacts
          | true =>
            have hF := (hs' hln).2 i hlt huni1
            obtain ⟨o2, v2, d2, ho2, hd2, hm2, hob⟩ := hpure.get i (memN_mem hF)
            have : o2 = o := Option.some.inj (ho2.symm.trans ho)
            subst this
            have he2 : e = ⟨i, d2, .is v2⟩ := huni e heK _ hm2 (Nat.zero_le _) (by omega)
            have := hob a w hf (fun e' he' hed => hfacts e' he' hed) trivial
            rw [he2]
            exact this
        have next : ∀ v w', Below w.heap.size w w' → e.p.holds w' v → wpAny P .any l.toArray Q (g + (l.length - (n + 1))) (listed.setIfInBounds i true) (a.put o.dst v) w' := by
          intro v w' hb hv
          rw [hod]
          refine ih _ _ _ (inv.set hi hin) hcnt ?_ (fun hx => ?_) (fun hx => ?_) ?_
          · have hp := hf.put v (d := e.d) (by simp [Nat.blt]; omega)
            exact ⟨hp.df, hp.sz, fun k u hu => hp.get k u (by
              rw [lk_cons]
              split
              · rename_i hk2; subst hk2; exact (hcutd u hu).elim
              · exact hu)⟩
          · rw [getD_set_ne true (by omega)] at hx
            exact hSta.keep w w' (hs hx) hb
          · rw [getD_set_ne true (by omega)] at hx
            refine ⟨hSta'.keep w w' (hs' hx).1 hb, fun j hj hjl => ?_⟩
            by_cases hji : j = i
            · subst hji; rw [hset] at hjl; cases hjl
            · rw [getD_set_ne true (fun h => hji h.symm)] at hjl
              exact (hs' hx).2 j hj hjl
          · intro x hx hxl
            by_cases hxi : x.j = i
            · have : x = e := huni x hx e heK (Nat.zero_le _) (by omega)
              subst this
              exact ⟨v, by simp [Act.put, hf.sz, hdn], hv⟩
            · rw [getD_set_ne true (fun h => hxi h.symm)] at hxl
              obtain ⟨u, hu, hxu⟩ := hk x hx hxl
              obtain ⟨hxn, ox, hox, hxd, hxp, _⟩ := hK' x hx
              have hne : e.d ≠ x.d := fun hee => by
                have := ownDst_ne hown i x.j o ox e.d (by rw [List.getElem?_take_of_lt hlt]; exact ho) (by rw [List.getElem?_take_of_lt hxn]; exact hox) hod (by rw [hee]; exact hxd)
                omega
              refine ⟨u, ?_, VP.pers_keep hxp hxu hb⟩
              simp only [Act.put]
              rw [Array.getElem?_setIfInBounds_ne hne]
              exact hu
        unfold wpOp
        simp only [hoi]
        unfold stepOK at hso
        split
        · rename_i hw
          rw [if_pos hw] at hso
          exact .inl (wp_false hso (fun a' w' ⟨v, ha, hb, hv⟩ => by rw [ha]; exact next v w' hb hv))
        · rename_i hw
          rw [if_neg hw] at hso
          exact next undef w (Below.refl _ _) hso
  intro a w hf hs
  refine wp_region_any hm.ok ?_
  have hrep : ∀ j, (Array.replicate l.toArray.size false).getD j false = false := fun j => getD_replicate_false _ _
  have hrepT : ∀ j, j < l.length → (Array.replicate l.toArray.size false).getD j true = false := fun j hj => by simp [hj]
  have := key (n + 1) (Array.replicate l.toArray.size false) a w.drew
    ⟨by simp, fun j oj hj hl => (by rw [hrep] at hl; cases hl), fun t ht ht' => by simp at ht'; simp [ht']⟩
    (by rw [hsz]; exact cnt_fresh _ _ (by omega)) (fr_cut hf (lk_cut_sub L)) (fun _ => hSta.keep _ _ hs (Below.drewB w)) (fun hx => by rw [hrepT n (by omega)] at hx; cases hx) (fun e he hl => by
      have h1 := (hK' e he).1
      rw [hrepT e.j (by omega)] at hl; cases hl)
  rw [show n + 1 + (l.length - (n + 1)) = l.toArray.size by rw [hsz]; omega] at this
  exact this
section
variable {P : Program} {l0 : List Oper} {Q : Exit → Act → World → Prop} {tail : List Oper} {N : Nat} {S S' : World → Prop} {d j : Nat} {F : List Nat} {ty : TypeId} {pos : String} {af : Array Edge} {op : Op}
def FinU (P : Program) (o : Oper) (N : Nat) (F : List Nat) (L : TL) (S S' : World → Prop) (K : List KE) : Prop :=
  ∀ a w, Fr N L a → S w → (∀ e ∈ K, memN e.j F = false → ∃ v, a.tmps[e.d]? = some v ∧ e.p.holds w v) → o.wp P a w (fun a' w' => a' = a ∧ S' w') (fun _ _ _ => False)
theorem finu_nil {L : TL} (h : ExU P op N L S S') : FinU P ⟨none, op, ty, pos, af, none⟩ N F L S S' [] := fun a w hf hs _ => by
  obtain ⟨w', h1, h2⟩ := h a w hf hs none ty pos af none
  unfold Oper.wp
  rw [h1]
  exact ⟨rfl, h2⟩
theorem finu_is {o : Oper} {L : TL} {v : Value} {K : List KE} (hj : memN j F = false) (h : FinU P o N F ((d, v) :: L) S S' K) : FinU P o N F L S S' (⟨j, d, .is v⟩ :: K) := fun a w hf hs hk => by
  obtain ⟨u, hu, hp⟩ := hk _ List.mem_cons_self hj
  have : u = v := hp
  subst this
  exact h a w (fr_add hf hu) hs (fun e he => hk e (List.mem_cons_of_mem _ he))
theorem finu_drop {o : Oper} {L : TL} {e : KE} {K : List KE} (h : FinU P o N F L S S' K) : FinU P o N F L S S' (e :: K) := fun a w hf hs hk => h a w hf hs (fun x hx => hk x (List.mem_cons_of_mem _ hx))
theorem pures_nil {L0 : TL} {K : List KE} : Pures P l0 L0 N K [] := trivial
theorem pures_cons {L0 : TL} {K : List KE} {i : Nat} {r : List Nat} {o : Oper} {v : Value} (h0 : l0[i]? = some o) (hd : o.dst = some d) (hm : (⟨i, d, .is v⟩ : KE) ∈ K) (h : ObK P l0 o N L0 K (fun _ => True) (.is v)) (k : Pures P l0 L0 N K r) :
    Pures P l0 L0 N K (i :: r) := ⟨⟨o, v, d, h0, hd, hm, h⟩, k⟩
theorem flow_nil2 {L0 : TL} {i n : Nat} {K : List KE} {o : Oper} (ho : l0[n]? = some o) (his : allIs K = true) (hp : Pures P l0 L0 N K F) (hu : FinU P o N F L0 S S' K) (h : Fin P l0 Q (l0.drop (n + 1)) N L0 S' K) :
    Flow P l0 L0 S N (fun K => allIs K = true ∧ Pures P l0 L0 N K F ∧
      (∀ o, l0[n]? = some o → ∀ a w, Fr N L0 a → S w → (∀ e ∈ K, memN e.j F = false → ∃ v, a.tmps[e.d]? = some v ∧ e.p.holds w v) → o.wp P a w (fun a' w' => a' = a ∧ S' w') (fun _ _ _ => False)) ∧
      (∀ a w, Fr N L0 a → S' w → (∀ e ∈ K, ∃ v, a.tmps[e.d]? = some v ∧ e.p.holds w v) → wpList P l0.toArray Q (l0.drop (n + 1)) a w)) [] i K :=
  ⟨his, hp, fun o' ho' => by rw [ho] at ho'; cases ho'; exact hu, h⟩
end
end Go.Proofs.YtnjomdjkbbhdoaaDoor
namespace Go.Proofs.YtnjomdjkbbhdoaaDoor
open Go.RowKit
set_option linter.unusedVariables false
theorem QR.of {Rep : Hp → Value → Prop} {w0 w : World} {M : Nat → Prop} {σ : Hp} {H G : List (Nat × Obj)} {v : Value} (hs : St w0 M σ H G w) (hr : Rep σ v) : QR Rep σ w0 (H ++ G) w v :=
  ⟨σ, Le.refl _, Fresh.refl _ _, hs.im, hr, fun p hp => hs.fresh hp⟩
theorem slim_mono {B C : Nat} (h : B ≤ C) : ∀ (t : T), slim B t → slim C t := by
  intro t
  induction t using T.ind with
  | _ o n d ks ih =>
    intro hs
    obtain ⟨h1, h2⟩ := slim_mk.1 hs
    exact slim_mk.2 ⟨Nat.le_trans h1 h, fun k hk => ih k hk (h2 k hk)⟩
theorem shape_kids {o n : Int} {d : List UInt8} {ks : List T} (h : shape o n d ks = true) : ks.length ≤ 4 := by
  unfold shape at h
  simp only [Bool.and_eq_true] at h
  have := h.2
  split at this
  · simp at this; simp [this]
  · split at this
    · simpa using this
    · simp at this; omega
theorem norms_map : ∀ {ks : List T}, (∀ k ∈ ks, norm k = k) → norms ks = ks
  | [], _ => rfl
  | k :: r, h => by rw [norms, h k List.mem_cons_self, norms_map fun x hx => h x (List.mem_cons_of_mem _ hx)]
theorem rightD_norm : ∀ (t : T) {dp : Nat}, rightD t dp = true → norm t = t ∧ slim 4 t := by
  intro t
  induction t using T.ind with
  | _ o n d ks ih =>
    intro dp h
    rw [rightD_mk] at h
    simp only [Bool.and_eq_true] at h
    obtain ⟨⟨⟨_, hsh⟩, hrs⟩, hso⟩ := h
    have hk : ∀ k ∈ ks, norm k = k ∧ slim 4 k := fun k hk => by
      obtain ⟨i, hi, e⟩ := List.mem_iff_getElem.1 hk
      have := rightsD_iff.1 hrs i hi
      rw [e] at this
      exact ih k hk this
    refine ⟨?_, slim_mk.2 ⟨shape_kids hsh, fun k hkk => (hk k hkk).2⟩⟩
    rw [norm_mk, norms_map fun k hkk => (hk k hkk).1, ← sortB_is (List.Perm.refl ks) hso]
    simp
theorem right_norm {t : T} (h : right t = true) : norm t = t ∧ slim 4 t := rightD_norm t h
def zeroO (e : Nat) : Obj := .cells #[.int .i64 0, .int .i64 0, .slice none 0 0, .slice none 0 0] e (0, 0)
theorem TermC.zero {σ : Hp} {k : T} (h : TermC σ [.int .i64 0, .int .i64 0, .slice none 0 0, .slice none 0 0] k) : k = zeroT := by
  obtain ⟨dv, kv, e, _, _, hd, hk⟩ := h.opn
  obtain ⟨pd, cd, rfl, _, _⟩ := hd.slice
  obtain ⟨pk, ck, rfl, _, _⟩ := hk.slice
  obtain ⟨o, n, d, ks⟩ := k
  simp only [T.op, T.num, T.data, T.kids, List.cons.injEq, Value.int.injEq, Value.slice.injEq, true_and, and_true] at e
  obtain ⟨e1, e2, ⟨_, e3, _⟩, _, e4, _⟩ := e
  rw [← e1, ← e2, List.eq_nil_of_length_eq_zero e3.symm, List.eq_nil_of_length_eq_zero e4.symm]
  rfl
def QA (e : Nat) (σ : Hp) (w0 : World) (K : List (Nat × Obj)) (w : World) (v : Value) : Prop := ∃ b, v = .pointer (some ⟨b, 0, none⟩) ∧ w.heap[b]? = some (zeroO e) ∧ w0.heap.size ≤ b ∧ σ b = none ∧ ∀ p ∈ K, p.1 ≠ b
theorem QA.pers {e : Nat} {σ : Hp} {w0 : World} {K : List (Nat × Obj)} : ∀ (w w' : World) (v : Value), QA e σ w0 K w v → Below w.heap.size w w' → QA e σ w0 K w' v := fun w w' v ⟨b, h1, h2, h3, h4, h5⟩ hb =>
  ⟨b, h1, by rw [hb.block b (Array.getElem?_eq_some_iff.1 h2).1]; exact h2, h3, h4, h5⟩
end Go.Proofs.YtnjomdjkbbhdoaaDoor
namespace Go.Proofs.YtnjomdjkbbhdoaaDoor
open Go.RowKit
set_option linter.unusedVariables false
def getF (us : List T) : Nat → Option T := fun k => us[k]?
def SortedF (a b : Nat) (f : Nat → Option T) : Prop := ∀ j x y, a ≤ j → j + 1 < b → f j = some x → f (j + 1) = some y → ord x y ≤ 0
theorem SortedF.le {a b : Nat} {us : List T} (h : SortedF a b (getF us)) (hb : b ≤ us.length) : ∀ (d i : Nat) (x y : T), a ≤ i → i + d < b → us[i]? = some x → us[i + d]? = some y → ord x y ≤ 0
  | 0, i, x, y, _, _, hx, hy => by
    rw [Nat.add_zero] at hy
    rw [hx] at hy; cases hy
    rw [ord_self]; omega
  | d + 1, i, x, y, h1, h2, hx, hy => by
    have hz : us[i + d]? = some (us[i + d]'(by omega)) := List.getElem?_eq_getElem (by omega)
    have h3 := SortedF.le h hb d i x _ h1 (by omega) hx hz
    exact ord_le_trans h3 (h (i + d) _ _ (by omega) (by omega) hz hy)
end Go.Proofs.YtnjomdjkbbhdoaaDoor
namespace Go.Proofs.YtnjomdjkbbhdoaaDoor
open Go.RowKit Go.ChangeShapes
set_option linter.unusedVariables false
class TermTy (P : Program) (t : TypeId) : Prop where
  ok : ∃ f0 f1 f2 f3 e, P.underlying t = some (.struct #[f0, f1, f2, f3]) ∧ P.cellsOf t = 4 ∧ P.bytesOf t = 64 ∧ (P.underlying f0.type = some (.int .i64) ∧ f0.offset = 0 ∧ P.cellsOf f0.type = 1) ∧ (P.underlying f1.type = some (.int .i64) ∧ f1.offset = 1 ∧ P.cellsOf f1.type = 1) ∧
    (P.underlying f2.type = some (.slice e) ∧ f2.offset = 2 ∧ P.cellsOf f2.type = 1 ∧ P.underlying e = some (.int .u8) ∧ P.cellsOf e = 1 ∧ P.bytesOf e = 1) ∧ (P.underlying f3.type = some (.slice t) ∧ f3.offset = 3 ∧ P.cellsOf f3.type = 1)
def nowH (w : World) : Hp := fun b => w.heap[b]?
theorem Imm.now (w : World) : Imm (nowH w) w := fun _ _ h => h
theorem cell_open {w : World} {a : Addr} {v : Value} (h : w.cell? a = some v) : a.spot = none ∧ ∃ arr ty fz, w.heap[a.block]? = some (.cells arr ty fz) ∧ arr[a.off]? = some v := by
  unfold World.cell? at h
  split at h
  · rename_i c ty fz hb
    split at h
    · cases h
    · rename_i hs
      exact ⟨by simpa using hs, c, ty, fz, hb, h⟩
  · cases h
theorem cellsAt_now {w : World} {b o : Nat} {cs : List Value} (hn : cs ≠ []) (h : ∀ i v, cs[i]? = some v → w.cell? ⟨b, o + i, none⟩ = some v) : CellsAt (nowH w) b o cs := by
  obtain ⟨v, r, rfl⟩ := List.exists_cons_of_ne_nil hn
  obtain ⟨_, arr, ty, fz, h1, h2⟩ := cell_open (h 0 v rfl)
  refine ⟨arr, ty, fz, h1, fun j u hj => ?_⟩
  obtain ⟨_, arr', ty', fz', h3, h4⟩ := cell_open (h j u hj)
  have h1' : w.heap[b]? = some (.cells arr ty fz) := h1
  have h3' : w.heap[b]? = some (.cells arr' ty' fz') := h3
  rw [h1'] at h3'
  cases h3'
  exact h4
theorem list_of {α : Type} {q : Nat → α → Prop} : ∀ (n : Nat), (∀ i, i < n → ∃ t, q i t) → ∃ ts : List α, ts.length = n ∧ ∀ i (h : i < ts.length), q i ts[i]
  | 0, _ => ⟨[], rfl, fun i h => absurd h (Nat.not_lt_zero _)⟩
  | n + 1, h => by
    obtain ⟨ts, h1, h2⟩ := list_of n (fun i hi => h i (by omega))
    obtain ⟨t, ht⟩ := h n (by omega)
    refine ⟨ts ++ [t], by simp [h1], fun i hi => ?_⟩
    by_cases e : i < ts.length
    · rw [List.getElem_append_left e]; exact h2 i e
    · have : i = n := by simp at hi; omega
      subst this
      rw [List.getElem_append_right (by omega)]
      simpa [h1] using ht
end Go.Proofs.YtnjomdjkbbhdoaaDoor
namespace Go.Proofs.YtnjomdjkbbhdoaaDoor
open Go.Lib
set_option linter.unusedVariables false
theorem comma_split : ∀ {a b r s : List UInt8}, (∀ x ∈ a, x ≠ 44) → (∀ x ∈ b, x ≠ 44) → a ++ 44 :: r = b ++ 44 :: s → a = b ∧ r = s
  | [], [], r, s, _, _, h => by simpa using h
  | [], y :: b, r, s, _, hb, h => by
    simp only [List.nil_append, List.cons_append, List.cons.injEq] at h
    exact absurd h.1.symm (hb y (by simp))
  | x :: a, [], r, s, ha, _, h => by
    simp only [List.nil_append, List.cons_append, List.cons.injEq] at h
    exact absurd h.1 (ha x (by simp))
  | x :: a, y :: b, r, s, ha, hb, h => by
    simp only [List.cons_append, List.cons.injEq] at h
    obtain ⟨rfl, h⟩ := h
    obtain ⟨rfl, rfl⟩ := comma_split (fun z hz => ha z (List.mem_cons_of_mem _ hz)) (fun z hz => hb z (List.mem_cons_of_mem _ hz)) h
    exact ⟨rfl, rfl⟩
def valD (l : List UInt8) : Nat := l.foldl (fun a d => 10 * a + (d.toNat - 48)) 0
theorem valD_snoc (l : List UInt8) (d : UInt8) : valD (l ++ [d]) = 10 * valD l + (d.toNat - 48) := by simp [valD, List.foldl_append]
theorem dig_nat {k : Nat} (h : k < 10) : (UInt8.ofNat (48 + k)).toNat = 48 + k := by
  rw [UInt8.toNat_ofNat']; omega
theorem dec_digs : ∀ u, valD (decDigits u) = u ∧ ∀ x ∈ decDigits u, 48 ≤ x.toNat := by
  intro u
  induction u using Nat.strongRecOn with
  | _ u ih =>
    rw [decDigits]
    split
    · rename_i h
      refine ⟨?_, fun x hx => ?_⟩
      · simp only [valD, List.foldl_cons, List.foldl_nil, dig_nat h]; omega
      · simp only [List.mem_singleton] at hx
        subst hx
        rw [dig_nat h]; omega
    · rename_i h
      obtain ⟨h1, h2⟩ := ih (u / 10) (by omega)
      have hd := dig_nat (Nat.mod_lt u (show 0 < 10 by decide))
      refine ⟨?_, fun x hx => ?_⟩
      · rw [valD_snoc, h1, hd]; omega
      · rcases List.mem_append.1 hx with hx | hx
        · exact h2 x hx
        · simp only [List.mem_singleton] at hx
          subst hx
          rw [hd]; omega
theorem itoa_no44 (n : Int) : ∀ x ∈ itoa n, x ≠ 44 := by
  intro x hx e
  subst e
  unfold itoa at hx
  split at hx
  · rcases List.mem_cons.1 hx with hx | hx
    · exact absurd hx (by decide)
    · have := (dec_digs _).2 _ hx
      exact absurd this (by decide)
  · have := (dec_digs _).2 _ hx
    exact absurd this (by decide)
theorem itoa_inj {a b : Int} (h : itoa a = itoa b) : a = b := by
  unfold itoa at h
  have key : ∀ (u : Nat) (r : List UInt8), decDigits u ≠ 45 :: r := fun u r e => by
    have := (dec_digs u).2 45 (by rw [e]; simp)
    exact absurd this (by decide)
  split at h <;> split at h
  · simp only [List.cons.injEq, true_and] at h
    have := congrArg valD h
    rw [(dec_digs _).1, (dec_digs _).1] at this
    omega
  · exact absurd h.symm (key _ _)
  · exact absurd h (key _ _)
  · have := congrArg valD h
    rw [(dec_digs _).1, (dec_digs _).1] at this
    omega
def headB (o n : Int) (d k : Nat) : List UInt8 := itoa o ++ 44 :: (itoa n ++ 44 :: (itoa (d : Int) ++ 44 :: (itoa (k : Int) ++ [44])))
mutual
def keyB : T → List UInt8
  | .mk o n d ks => headB o n d.length ks.length ++ (d ++ keysB ks)
def keysB : List T → List UInt8
  | [] => []
  | k :: r => keyB k ++ keysB r
end
theorem headB_split {o n o' n' : Int} {d k d' k' : Nat} {r s : List UInt8} (h : headB o n d k ++ r = headB o' n' d' k' ++ s) : o = o' ∧ n = n' ∧ d = d' ∧ k = k' ∧ r = s := by
  unfold headB at h
  simp only [List.append_assoc, List.cons_append, List.nil_append] at h
  obtain ⟨h1, h⟩ := comma_split (itoa_no44 _) (itoa_no44 _) h
  obtain ⟨h2, h⟩ := comma_split (itoa_no44 _) (itoa_no44 _) h
  obtain ⟨h3, h⟩ := comma_split (itoa_no44 _) (itoa_no44 _) h
  obtain ⟨h4, h⟩ := comma_split (itoa_no44 _) (itoa_no44 _) h
  have e3 := itoa_inj h3
  have e4 := itoa_inj h4
  exact ⟨itoa_inj h1, itoa_inj h2, by omega, by omega, h⟩
mutual
theorem keyB_split : ∀ {t u : T} {r s : List UInt8}, keyB t ++ r = keyB u ++ s → t = u ∧ r = s
  | .mk o n d ks, .mk o' n' d' ks', r, s, h => by
    simp only [keyB, List.append_assoc] at h
    obtain ⟨rfl, rfl, h3, h4, h⟩ := headB_split h
    obtain ⟨e5, h5⟩ := List.append_inj h h3
    subst e5
    obtain ⟨e6, e7⟩ := keysB_split h4 h5
    subst e6 e7
    exact ⟨rfl, rfl⟩
theorem keysB_split : ∀ {ks ls : List T} {r s : List UInt8}, ks.length = ls.length → keysB ks ++ r = keysB ls ++ s → ks = ls ∧ r = s
  | [], [], r, s, _, h => by simpa [keysB] using h
  | [], _ :: _, _, _, h, _ => by simp at h
  | _ :: _, [], _, _, h, _ => by simp at h
  | k :: ks, l :: ls, r, s, hl, h => by
    simp only [keysB, List.append_assoc] at h
    obtain ⟨e5, h5⟩ := keyB_split h
    obtain ⟨e6, e7⟩ := keysB_split (by simpa using hl) h5
    subst e5 e6 e7
    exact ⟨rfl, rfl⟩
end
theorem keyB_inj {t u : T} (h : keyB t = keyB u) : t = u := (keyB_split (r := []) (s := []) (by rw [h])).1
theorem keysB_app : ∀ (a b : List T), keysB (a ++ b) = keysB a ++ keysB b
  | [], b => rfl
  | k :: r, b => by simp [keysB, keysB_app r b]
theorem keysB_take (ks : List T) (i : Nat) (h : i < ks.length) : keysB (ks.take (i + 1)) = keysB (ks.take i) ++ keyB ks[i] := by
  rw [List.take_succ_eq_append_getElem h, keysB_app]; simp [keysB]
theorem keysB_take_le (ks : List T) (i : Nat) : (keysB (ks.take i)).length ≤ (keysB ks).length := by
  have := keysB_app (ks.take i) (ks.drop i)
  rw [List.take_append_drop] at this
  rw [this, List.length_append]; omega
theorem itoa_len {n : Int} (h : -9223372036854775808 ≤ n ∧ n ≤ 9223372036854775807) : (itoa n).length ≤ 21 := itoa_length_le n h.1 h.2
theorem headB_len {o n : Int} {d k : Nat} (ho : -9223372036854775808 ≤ o ∧ o ≤ 9223372036854775807) (hn : -9223372036854775808 ≤ n ∧ n ≤ 9223372036854775807) (hd : d ≤ 9223372036854775807) (hk : k ≤ 9223372036854775807) : (headB o n d k).length ≤ 88 := by
  unfold headB
  have h1 := itoa_len ho
  have h2 := itoa_len hn
  have h3 := itoa_len (n := (d : Int)) (by omega)
  have h4 := itoa_len (n := (k : Int)) (by omega)
  simp only [List.length_append, List.length_cons, List.length_nil]
  omega
def mostB : Nat → Nat
  | 0 => 0
  | n + 1 => 8280 + 4 * mostB n
theorem mostB_16 : mostB 16 ≤ 17592186044416 := by decide
theorem shape_data {o n : Int} {d : List UInt8} {ks : List T} (h : shape o n d ks = true) : d.length ≤ 8192 ∧ (-9223372036854775808 ≤ o ∧ o ≤ 9223372036854775807) ∧ (-9223372036854775808 ≤ n ∧ n ≤ 9223372036854775807) := by
  unfold shape at h
  simp only [Bool.and_eq_true, Bool.or_eq_true, decide_eq_true_eq] at h
  by_cases ho : o = 1
  · subst ho; simp at h; omega
  · omega
theorem keysB_len {B : Nat} : ∀ {ks : List T}, (∀ k ∈ ks, (keyB k).length ≤ B) → (keysB ks).length ≤ ks.length * B
  | [], _ => by simp [keysB]
  | k :: r, h => by
    have h1 := h k (by simp)
    have h2 := keysB_len (B := B) (ks := r) (fun x hx => h x (List.mem_cons_of_mem _ hx))
    simp only [keysB, List.length_append, List.length_cons, Nat.add_mul]
    omega
theorem rightD_key : ∀ (t : T) {dp : Nat}, rightD t dp = true → (keyB t).length ≤ mostB (16 - dp) := by
  intro t
  induction t using T.ind with
  | _ o n d ks ih =>
    intro dp h
    rw [rightD_mk] at h
    simp only [Bool.and_eq_true, decide_eq_true_eq] at h
    obtain ⟨⟨⟨h1, h2⟩, h3⟩, h4⟩ := h
    obtain ⟨hd, ho, hn⟩ := shape_data h2
    have hk := shape_kids h2
    have hb : ∀ k ∈ ks, (keyB k).length ≤ mostB (16 - (dp + 1)) := fun k hm => by
      obtain ⟨i, hi, rfl⟩ := List.mem_iff_getElem.1 hm
      exact ih _ hm (rightsD_iff.1 h3 i hi)
    have hks := keysB_len hb
    have hm : ks.length * mostB (16 - (dp + 1)) ≤ 4 * mostB (16 - (dp + 1)) := Nat.mul_le_mul_right _ hk
    have hh := headB_len (d := d.length) (k := ks.length) ho hn (by omega) (by omega)
    rw [show 16 - dp = (16 - (dp + 1)) + 1 by omega]
    simp only [keyB, List.length_append, mostB]
    omega
def maxKey : Nat := 17592186044416
theorem right_key {t : T} (h : right t = true) : (keyB t).length ≤ maxKey := Nat.le_trans (rightD_key t h) mostB_16
end Go.Proofs.YtnjomdjkbbhdoaaDoor
namespace Go.Proofs.YtnjomdjkbbhdoaaDoor
set_option linter.unusedVariables false
theorem findI_app (p : T → Bool) : ∀ (ks ls : List T), findI p (ks ++ ls) = if 0 ≤ findI p ks then findI p ks else if 0 ≤ findI p ls then (ks.length : Int) + findI p ls else -1
  | [], ls => by
    have := findI_ge p ls
    simp only [findI, List.nil_append, List.length_nil]
    rw [if_neg (by omega)]
    split <;> omega
  | k :: r, ls => by
    have ih := findI_app p r ls
    have h1 := findI_ge p r
    have h2 := findI_ge p ls
    simp only [List.cons_append, findI, List.length_cons]
    by_cases hk : p k = true
    · simp [hk]
    · simp only [hk, if_false, ih, Bool.false_eq_true]
      by_cases h3 : 0 ≤ findI p r
      · have e1 : ¬ findI p r = -1 := by omega
        have e2 : 0 ≤ findI p r + 1 := by omega
        simp only [h3, e1, e2, if_true, if_false]
      · have e1 : findI p r = -1 := by omega
        have e2 : ¬ (0 : Int) ≤ -1 := by omega
        by_cases h4 : 0 ≤ findI p ls
        · have e3 : ¬ (r.length : Int) + findI p ls = -1 := by omega
          simp only [e1, e2, e3, h4, if_true, if_false]
          omega
        · simp only [e1, e2, h4, if_true, if_false]
def posT (ts : List T) (t : T) : Int := findI (fun u => decide (ord u t = 0)) ts
theorem posT_ge (ts : List T) (t : T) : -1 ≤ posT ts t := findI_ge _ _
theorem posT_iff {ts : List T} {t : T} : 0 ≤ posT ts t ↔ t ∈ ts := by
  have := findI_any (fun u => decide (ord u t = 0)) ts
  rw [Bool.eq_iff_iff, decide_eq_true_eq] at this
  unfold posT
  rw [this, List.any_eq_true]
  constructor
  · rintro ⟨x, h1, h2⟩
    have := ord_zero.1 (of_decide_eq_true h2)
    subst this; exact h1
  · intro h; exact ⟨t, h, by simp [ord_self]⟩
theorem posT_app (ts es : List T) (t : T) : posT (ts ++ es) t = if 0 ≤ posT ts t then posT ts t else if 0 ≤ posT es t then (ts.length : Int) + posT es t else -1 := findI_app _ _ _
theorem posT_old {ts es : List T} {t : T} (h : 0 ≤ posT ts t) : posT (ts ++ es) t = posT ts t := by rw [posT_app, if_pos h]
theorem posT_none {ts : List T} {t : T} (h : ¬ 0 ≤ posT ts t) : posT ts t = -1 := by have := posT_ge ts t; omega
theorem posT_snoc {ts : List T} {t : T} (h : ¬ 0 ≤ posT ts t) : posT (ts ++ [t]) t = (ts.length : Int) := by
  have : posT [t] t = 0 := by simp [posT, findI, ord_self]
  rw [posT_app, if_neg h, this]; simp
mutual
def putV : T → List T → List T
  | .mk o n d ks, ts => if 0 ≤ posT ts (.mk o n d ks) then ts else putVs ks ts ++ [.mk o n d ks]
def putVs : List T → List T → List T
  | [], ts => ts
  | k :: r, ts => putVs r (putV k ts)
end
theorem putV_mk (t : T) (ts : List T) : putV t ts = if 0 ≤ posT ts t then ts else putVs t.kids ts ++ [t] := by
  cases t; rw [putV]; rfl
theorem putVs_app : ∀ (a b ts : List T), putVs (a ++ b) ts = putVs b (putVs a ts)
  | [], b, ts => by simp [putVs]
  | k :: r, b, ts => by simp [putVs, putVs_app r b]
theorem putVs_take (ks ts : List T) (i : Nat) (h : i < ks.length) : putVs (ks.take (i + 1)) ts = putV ks[i] (putVs (ks.take i) ts) := by
  rw [List.take_succ_eq_append_getElem h, putVs_app]; simp [putVs]
mutual
theorem putV_ext : ∀ (t : T) (ts : List T), ∃ es, putV t ts = ts ++ es ∧ es.length ≤ size t ∧ ∀ u ∈ es, size u ≤ size t
  | .mk o n d ks, ts => by
    rw [putV]
    split
    · exact ⟨[], by simp, by simp, by simp⟩
    · obtain ⟨es, h1, h2, h3⟩ := putVs_ext ks ts
      refine ⟨es ++ [.mk o n d ks], by rw [h1, List.append_assoc], by simp [size]; omega, fun u hu => ?_⟩
      rcases List.mem_append.1 hu with hu | hu
      · have := h3 u hu; simp [size]; omega
      · simp at hu; subst hu; exact Nat.le_refl _
theorem putVs_ext : ∀ (ks : List T) (ts : List T), ∃ es, putVs ks ts = ts ++ es ∧ es.length ≤ sizes ks ∧ ∀ u ∈ es, size u ≤ sizes ks
  | [], ts => ⟨[], by simp [putVs], by simp, by simp⟩
  | k :: r, ts => by
    obtain ⟨es, h1, h2, h3⟩ := putV_ext k ts
    obtain ⟨fs, k1, k2, k3⟩ := putVs_ext r (ts ++ es)
    refine ⟨es ++ fs, by rw [putVs, h1, k1, List.append_assoc], by simp [sizes]; omega, fun u hu => ?_⟩
    rcases List.mem_append.1 hu with hu | hu
    · have := h3 u hu; simp [sizes]; omega
    · have := k3 u hu; simp [sizes]; omega
end
theorem putVs_new {t : T} {ts : List T} (h : ¬ 0 ≤ posT ts t) : ¬ 0 ≤ posT (putVs t.kids ts) t := by
  obtain ⟨es, h1, h2, h3⟩ := putVs_ext t.kids ts
  rw [posT_iff, h1, List.mem_append]
  rintro (hm | hm)
  · exact h (posT_iff.2 hm)
  · have := h3 t hm
    have e : size t = sizes t.kids + 1 := by cases t; rw [size]; rfl
    omega
def numV (t : T) (ts : List T) : Int := if 0 ≤ posT ts t then posT ts t else ((putVs t.kids ts).length : Int)
theorem numV_is (t : T) (ts : List T) : posT (putV t ts) t = numV t ts := by
  rw [putV_mk]; unfold numV
  split
  · rfl
  · rename_i h; exact posT_snoc (putVs_new h)
theorem mem_putV (t : T) (ts : List T) : t ∈ putV t ts := by
  rw [putV_mk]
  split
  · rename_i h; exact posT_iff.1 h
  · simp
theorem mem_olds {u : T} {ks ts : List T} (h : u ∈ ts) : u ∈ putVs ks ts := by
  obtain ⟨es, e, _⟩ := putVs_ext ks ts
  rw [e]; exact List.mem_append_left _ h
theorem mem_putVs : ∀ {ks : List T} {k : T} (ts : List T), k ∈ ks → k ∈ putVs ks ts
  | x :: r, k, ts, h => by
    rw [putVs]
    rcases List.mem_cons.1 h with rfl | h
    · exact mem_olds (mem_putV _ _)
    · exact mem_putVs _ h
theorem right_kids' : ∀ (t : T) {dp : Nat}, rightD t (dp + 1) = true → rightD t dp = true := by
  intro t
  induction t using T.ind with
  | _ o n d ks ih =>
    intro dp h
    rw [rightD_mk] at h ⊢
    simp only [Bool.and_eq_true, decide_eq_true_eq] at h ⊢
    obtain ⟨⟨⟨h1, h2⟩, h3⟩, h4⟩ := h
    exact ⟨⟨⟨by omega, h2⟩, rightsD_iff.2 fun i hi => ih _ (List.getElem_mem hi) (rightsD_iff.1 h3 i hi)⟩, h4⟩
theorem right_in {t k : T} (h : right t = true) (hk : k ∈ t.kids) : right k = true := by
  obtain ⟨i, hi, rfl⟩ := List.mem_iff_getElem.1 hk
  exact right_kids' _ (rightsD_iff.1 (right_shape h).2.1 i hi)
structure TabI (ts : List T) : Prop where
  nd : ts.Nodup
  rt : ∀ u ∈ ts, right u = true
  lo : ∀ (i : Nat) (h : i < ts.length), ∀ k ∈ ts[i].kids, ∃ j, j < i ∧ ts[j]? = some k
theorem TabI.nil : TabI [] := ⟨List.nodup_nil, by simp, fun i h => by simp at h⟩
theorem TabI.snoc {ts : List T} {t : T} (h : TabI ts) (hn : t ∉ ts) (hr : right t = true) (hk : ∀ k ∈ t.kids, k ∈ ts) : TabI (ts ++ [t]) := by
  refine ⟨?_, fun u hu => ?_, fun i hi k hkk => ?_⟩
  · rw [List.nodup_append]
    refine ⟨h.nd, by simp, fun a ha b hb => ?_⟩
    simp at hb; subst hb
    rintro rfl; exact hn ha
  · rcases List.mem_append.1 hu with hu | hu
    · exact h.rt u hu
    · simp at hu; subst hu; exact hr
  · by_cases e : i < ts.length
    · rw [List.getElem_append_left e] at hkk
      obtain ⟨j, h1, h2⟩ := h.lo i e k hkk
      exact ⟨j, h1, by rw [List.getElem?_append_left (by omega)]; exact h2⟩
    · have : i = ts.length := by simp at hi; omega
      subst this
      simp at hkk
      obtain ⟨j, hj, e2⟩ := List.mem_iff_getElem.1 (hk k hkk)
      exact ⟨j, hj, by rw [List.getElem?_append_left hj, List.getElem?_eq_getElem hj, e2]⟩
mutual
theorem TabI.put : ∀ (t : T) {ts : List T}, TabI ts → right t = true → TabI (putV t ts)
  | .mk o n d ks, ts, h, hr => by
    rw [putV]
    split
    · exact h
    · rename_i hn
      exact (TabI.puts ks h (fun k hk => right_in hr hk)).snoc (fun hm => putVs_new (t := .mk o n d ks) hn (posT_iff.2 hm)) hr (fun k hk => mem_putVs _ hk)
theorem TabI.puts : ∀ (ks : List T) {ts : List T}, TabI ts → (∀ k ∈ ks, right k = true) → TabI (putVs ks ts)
  | [], ts, h, _ => by rw [putVs]; exact h
  | k :: r, ts, h, hr => by
    rw [putVs]
    exact TabI.puts r (TabI.put k h (hr k (by simp))) (fun x hx => hr x (List.mem_cons_of_mem _ hx))
end
def intern (ts : List T) (t : T) : Int × Int × List T :=
  if right t = true then (if 0 ≤ posT ts t then (posT ts t, 0, ts) else if 4096 < ts.length + size t then (-1, 2, ts) else (numV t ts, 0, putV t ts)) else (-1, 51, ts)
def termV (ts : List T) (n : Int) : T × Bool := if 0 ≤ n ∧ n < ts.length then (ts.getD n.toNat zeroT, true) else (zeroT, false)
end Go.Proofs.YtnjomdjkbbhdoaaDoor
namespace Go.Proofs.YtnjomdjkbbhdoaaDoor
open Go.RowKit
set_option linter.unusedVariables false
def keysOf (K : List (Nat × Obj)) (b : Nat) : Prop := ∃ p ∈ K, p.1 = b
structure Has (σ : Hp) (K : List (Nat × Obj)) (w : World) : Prop where
  im : Imm σ w
  ow : Own K w
  dj : ∀ p ∈ K, σ p.1 = none
  nd : (K.map (·.1)).Nodup
theorem Has.start {σ : Hp} {K : List (Nat × Obj)} {w : World} (h : Has σ K w) : St w (keysOf K) σ [] K w :=
  ⟨.refl _ _, h.im, fun p hp => h.ow p (by simpa using hp), fun p hp => h.dj p (by simpa using hp), fun p hp => .inl ⟨p, by simpa using hp, rfl⟩, by simpa using h.nd⟩
theorem Has.nil {σ : Hp} {w : World} (h : Imm σ w) : Has σ [] w := { im := h, ow := fun p hp => (by cases hp), dj := fun p hp => (by cases hp), nd := (by simp) }
theorem St.has {w0 w : World} {M : Nat → Prop} {σ : Hp} {H K G : List (Nat × Obj)} (h : St w0 M σ H (K ++ G) w) : Has σ K w := by
  have hn := St0.nd h
  rw [List.map_append, List.map_append] at hn
  exact ⟨h.im, fun p hp => h.ownG (List.mem_append_left _ hp), fun p hp => h.fresh (by simp [hp]), (List.nodup_append.1 (List.nodup_append.1 hn).2.1).1⟩
def TK (R : Hp → Value → List (Nat × Obj) → Prop) (σ : Hp) (K : List (Nat × Obj)) (w : World) (u : Value) (w' : World) : Prop :=
  ∃ σ' K', Le σ σ' ∧ Fresh σ σ' w ∧ R σ' u K' ∧ St w (keysOf K) σ' [] K' w'
def GiveK (R : Hp → Value → List (Nat × Obj) → Prop) (σ : Hp) (K : List (Nat × Obj)) (w : World) (e : Ending) (w' : World) : Prop := ∃ u, e = .returned u ∧ TK R σ K w u w'
theorem St.givesK {w0 w : World} {σ σ' : Hp} {K K' : List (Nat × Obj)} {R : Hp → Value → List (Nat × Obj) → Prop} {v : Value} (h : St w0 (keysOf K) σ' [] K' w) (hl : Le σ σ') (hf : Fresh σ σ' w0) (hr : R σ' v K') :
    GiveK R σ K w0 (.returned v) w := ⟨v, rfl, σ', K', hl, hf, hr, h⟩
theorem St.mutK {w0 w w' : World} {M : Nat → Prop} {σ σ' : Hp} {H K K' G : List (Nat × Obj)} (h : St w0 M σ H (K ++ G) w) (hf : Fresh σ σ' w) (hl : Le σ σ') (k : St w (keysOf K) σ' [] K' w') : St w0 M σ' H (K' ++ G) w' := by
  have hnd := St0.nd h
  rw [List.map_append, List.map_append, List.nodup_append] at hnd
  obtain ⟨hH, hKG, hHK⟩ := hnd
  rw [List.nodup_append] at hKG
  obtain ⟨hK, hG, hKG⟩ := hKG
  have hk' : (K'.map (·.1)).Nodup := by simpa using St0.nd k
  have hmoK : ∀ p ∈ K, M p.1 ∨ w0.heap.size ≤ p.1 := fun p hp => St0.mo h p (by simp [hp])
  have hmo' : ∀ p ∈ K', M p.1 ∨ w0.heap.size ≤ p.1 := fun p hp => by
    rcases St0.mo k p (by simpa using hp) with ⟨q, hq, e⟩ | h1
    · rw [← e]; exact hmoK q hq
    · exact .inr (Nat.le_trans h.ag.size h1)
  have hout : ∀ p, p ∈ H ∨ p ∈ G → ¬ keysOf K p.1 := fun p hp ⟨q, hq, e⟩ => by
    rcases hp with hp | hp
    · exact hHK p.1 (List.mem_map_of_mem hp) q.1 (List.mem_append_left _ (List.mem_map_of_mem hq)) e.symm
    · exact hKG q.1 (List.mem_map_of_mem hq) p.1 (List.mem_map_of_mem hp) e
  have hlt : ∀ p, p ∈ H ∨ p ∈ G → p.1 < w.heap.size := fun p hp => h.lt (by rcases hp with hp | hp <;> simp [hp])
  have hkeep : ∀ p, p ∈ H ∨ p ∈ G → w'.heap[p.1]? = some p.2 := fun p hp => by
    rw [k.ag.block p.1 (hlt p hp) (hout p hp)]
    exact St0.ow h p (by rcases hp with hp | hp <;> simp [hp])
  have hnew : ∀ p ∈ K', keysOf K p.1 ∨ w.heap.size ≤ p.1 := fun p hp => St0.mo k p (by simpa using hp)
  have hapart : ∀ p, p ∈ H ∨ p ∈ G → ∀ q ∈ K', p.1 ≠ q.1 := fun p hp q hq e => by
    rcases hnew q hq with h1 | h1
    · rw [← e] at h1; exact hout p hp h1
    · have := hlt p hp; omega
  refine ⟨⟨k.ag.os.trans h.ag.os, k.ag.tape.trans h.ag.tape, k.ag.output.trans h.ag.output, Nat.le_trans h.ag.size k.ag.size, fun i hi hm => ?_⟩, k.im, fun p hp => ?_, fun p hp => ?_, fun p hp => ?_, ?_⟩
  · rw [k.ag.block i (Nat.lt_of_lt_of_le hi h.ag.size) (fun ⟨q, hq, e⟩ => by
      subst e
      rcases hmoK q hq with h1 | h1
      · exact hm h1
      · exact absurd hi (Nat.not_lt.2 h1))]
    exact h.ag.block i hi hm
  · rcases List.mem_append.1 hp with hp | hp
    · exact hkeep p (.inl hp)
    · rcases List.mem_append.1 hp with hp | hp
      · exact k.ownG hp
      · exact hkeep p (.inr hp)
  · have hfr : ∀ p, p ∈ H ∨ p ∈ G → σ' p.1 = none := fun p hp => by
      cases e : σ' p.1 with
      | none => rfl
      | some o =>
        rcases hf p.1 o e with h1 | h1
        · rw [h.fresh (p := p) (by rcases hp with hp | hp <;> simp [hp])] at h1; cases h1
        · exact absurd (hlt p hp) (Nat.not_lt.2 h1)
    rcases List.mem_append.1 hp with hp | hp
    · exact hfr p (.inl hp)
    · rcases List.mem_append.1 hp with hp | hp
      · exact k.fresh (by simpa using hp)
      · exact hfr p (.inr hp)
  · rcases List.mem_append.1 hp with hp | hp
    · exact St0.mo h p (by simp [hp])
    · rcases List.mem_append.1 hp with hp | hp
      · exact hmo' p hp
      · exact St0.mo h p (by simp [hp])
  · rw [List.map_append, List.map_append, List.nodup_append, List.nodup_append]
    refine ⟨hH, ⟨hk', hG, fun a ha b hb e => ?_⟩, fun a ha b hb e => ?_⟩
    · subst e
      obtain ⟨p, hp, rfl⟩ := List.mem_map.1 ha
      obtain ⟨q, hq, e⟩ := List.mem_map.1 hb
      exact hapart q (.inr hq) p hp e
    · subst e
      obtain ⟨p, hp, rfl⟩ := List.mem_map.1 ha
      rcases List.mem_append.1 hb with hb | hb
      · obtain ⟨q, hq, e⟩ := List.mem_map.1 hb
        exact hapart p (.inl hp) q hq e.symm
      · exact hHK p.1 (List.mem_map_of_mem hp) p.1 (List.mem_append_right _ hb) rfl
theorem St.permG {w0 w : World} {M : Nat → Prop} {σ : Hp} {H G G' : List (Nat × Obj)} (h : St w0 M σ H G w) (hp : G'.Perm G) : St w0 M σ H G' w := St0.perm h (hp.append_left H)
theorem St.swapG {w0 w : World} {M : Nat → Prop} {σ : Hp} {H A B G : List (Nat × Obj)} (h : St w0 M σ H (A ++ (B ++ G)) w) : St w0 M σ H (B ++ (A ++ G)) w := h.permG (by
  rw [← List.append_assoc, ← List.append_assoc]; exact List.perm_append_comm.append_right G)
section
variable {P : Program} {l0 : List Oper} {Q : Exit → Act → World → Prop} {rest : List Oper} {N : Nat} {L : TL} {d : Nat} {ty : TypeId} {pos : String}
  {af : Array Edge} {g : Option (Nat × Bool)} {op : Op} {w0 : World} {M : Nat → Prop} {σ : Hp} {H K G : List (Nat × Obj)} {R : Hp → Value → List (Nat × Obj) → Prop}
theorem ow_ck (hN : Nat.blt d N = true) (hg : gd l0 L g = some true) (h : ExC P op N L (St w0 M σ H (K ++ G)) (TK R σ K))
    (k : ∀ u σ' K', Le σ σ' → Fresh σ σ' w0 → R σ' u K' → OW P l0 Q rest N ((d, u) :: L) (St w0 M σ' H (K' ++ G))) : OW P l0 Q (⟨some d, op, ty, pos, af, g⟩ :: rest) N L (St w0 M σ H (K ++ G)) :=
  ow_c hN hg h fun u a w' hf ⟨w, hs, σ', K', h1, h2, h3, h4⟩ => k u σ' K' h1 (h2.mono hs.ag.size) h3 a w' hf (hs.mutK h2 h1 h4)
theorem ow_ck0 (hN : Nat.blt d N = true) (hg : gd l0 L g = some true) (h : ExC P op N L (St w0 M σ H G) (TK R σ []))
    (k : ∀ u σ' K', Le σ σ' → Fresh σ σ' w0 → R σ' u K' → OW P l0 Q rest N ((d, u) :: L) (St w0 M σ' H (K' ++ G))) : OW P l0 Q (⟨some d, op, ty, pos, af, g⟩ :: rest) N L (St w0 M σ H G) :=
  ow_ck (K := []) hN hg h k
end
def exts (σ : Hp) : List (Nat × Obj) → Hp
  | [] => σ
  | p :: r => ext (exts σ r) p.1 p.2
theorem exts_none {σ : Hp} : ∀ {K : List (Nat × Obj)} {b : Nat}, σ b = none → (∀ p ∈ K, p.1 ≠ b) → exts σ K b = none
  | [], b, h, _ => h
  | p :: r, b, h, hk => by
    unfold exts ext
    rw [if_neg (fun e => hk p (by simp) e.symm)]
    exact exts_none h (fun q hq => hk q (List.mem_cons_of_mem _ hq))
theorem le_exts {σ : Hp} : ∀ {K : List (Nat × Obj)}, (∀ p ∈ K, σ p.1 = none) → (K.map (·.1)).Nodup → Le σ (exts σ K)
  | [], _, _ => Le.refl _
  | p :: r, h, hn => by
    simp only [List.map_cons, List.nodup_cons] at hn
    refine (le_exts (fun q hq => h q (List.mem_cons_of_mem _ hq)) hn.2).trans (le_ext (exts_none (h p (by simp)) fun q hq e => hn.1 ?_))
    rw [← e]; exact List.mem_map_of_mem hq
theorem exts_get {σ : Hp} : ∀ {K : List (Nat × Obj)} {p : Nat × Obj}, (K.map (·.1)).Nodup → p ∈ K → exts σ K p.1 = some p.2
  | q :: r, p, hn, hp => by
    simp only [List.map_cons, List.nodup_cons] at hn
    unfold exts ext
    rcases List.mem_cons.1 hp with rfl | hp
    · rw [if_pos rfl]
    · rw [if_neg (fun e => hn.1 (by rw [← e]; exact List.mem_map_of_mem hp))]
      exact exts_get hn.2 hp
theorem Imm.exts {σ : Hp} {w : World} (h : Imm σ w) : ∀ {K : List (Nat × Obj)}, Own K w → Imm (exts σ K) w
  | [], _ => h
  | p :: r, ho => Imm.ext (Imm.exts h (fun q hq => ho q (List.mem_cons_of_mem _ hq))) (ho p (by simp))
theorem Has.exts {σ : Hp} {K : List (Nat × Obj)} {w : World} (h : Has σ K w) : Imm (exts σ K) w := h.im.exts h.ow
theorem Has.le {σ : Hp} {K : List (Nat × Obj)} {w : World} (h : Has σ K w) : Le σ (Go.Proofs.YtnjomdjkbbhdoaaDoor.exts σ K) := le_exts h.dj h.nd
theorem Has.more {σ : Hp} {K G : List (Nat × Obj)} {w : World} (h : Has σ (K ++ G) w) : Has (Go.Proofs.YtnjomdjkbbhdoaaDoor.exts σ K) G w := by
  have hn := h.nd
  rw [List.map_append, List.nodup_append] at hn
  refine ⟨h.im.exts fun p hp => h.ow p (List.mem_append_left _ hp), fun p hp => h.ow p (List.mem_append_right _ hp), fun p hp => exts_none (h.dj p (List.mem_append_right _ hp)) fun q hq e => ?_, hn.2.1⟩
  exact hn.2.2 q.1 (List.mem_map_of_mem hq) p.1 (List.mem_map_of_mem hp) e
section
variable {P : Program} {l0 : List Oper} {Q : Exit → Act → World → Prop} {rest : List Oper} {N : Nat} {L : TL} {d : Nat} {ty : TypeId} {pos : String}
  {af : Array Edge} {g : Option (Nat × Bool)} {op : Op} {w0 : World} {M : Nat → Prop} {σ σK : Hp} {H G : List (Nat × Obj)} {Rep : Hp → Value → Prop}
theorem ow_crs (hN : Nat.blt d N = true) (hg : gd l0 L g = some true) (hle : Le σ σK) (h : ExC P op N L (St w0 M σK H G) (TR Rep σ))
    (k : ∀ u σ' σK', Le σ σ' → Fresh σ σ' w0 → Rep σ' u → Le σK σK' → Le σ' σK' → OW P l0 Q rest N ((d, u) :: L) (St w0 M σK' H G)) : OW P l0 Q (⟨some d, op, ty, pos, af, g⟩ :: rest) N L (St w0 M σK H G) :=
  ow_c hN hg h fun u a w' hf ⟨w, hs, σ', h1, h2, h3, h4, h5⟩ => by
    have hk := hs.keep h5
    refine k u σ' (join σK σ') h1 (h2.mono hs.ag.size) h4 (le_join _ _) (le_join' hk.im h3) a w' hf (hk.le (hk.im.join h3) fun p hp => ?_)
    unfold join
    rw [hk.fresh hp]
    cases e : σ' p.1 with
    | none => rfl
    | some o =>
      rcases h2 p.1 o e with h6 | h6
      · have := hle p.1 o h6
        rw [hs.fresh hp] at this; cases this
      · exact absurd (hs.lt hp) (Nat.not_lt.2 h6)
theorem St.givesS {w0 w : World} {σ σ' σK : Hp} {H G : List (Nat × Obj)} {Rep : Hp → Value → Prop} {v : Value} (h : St w0 (fun _ => False) σK H G w) (hk : Le σ' σK) (hl : Le σ σ') (hf : Fresh σ σ' w0) (hr : Rep σ' v) :
    GiveR Rep σ w0 (.returned v) w := ⟨v, σ', rfl, hl, hf, fun b o e => h.im b o (hk b o e), hr, h.ag.below⟩
end
section
variable {P : Program} {N : Nat} {L : TL} {w0 : World} {M : Nat → Prop} {σ : Hp} {H G : List (Nat × Obj)} {b o : Nat}
theorem ld_ownG1 (i : Nat) {arr : Array Value} {et : TypeId} {fz : Nat × Nat} {v : Value} (hG : G[i]? = some (b, .cells arr et fz)) (hv : nthV arr.toList o = some v) : ∀ w, St w0 M σ H G w → w.cell? ⟨b, o, none⟩ = some v := fun w hs => by
  rw [cell_of_blk (hs.ownG (List.mem_of_getElem? hG))]
  rw [nthV_eq] at hv
  simpa using hv
theorem ld_ownGN (i : Nat) {arr : Array Value} {et : TypeId} {fz : Nat × Nat} {k : Nat} {cs : List Value} (hG : G[i]? = some (b, .cells arr et fz)) (hv : takeV (dropV arr.toList o) k = some cs) :
    cs.length = k ∧ ∀ w, St w0 M σ H G w → w.rangeAt b o cs := by
  obtain ⟨h1, h2⟩ := takeV_get hv
  refine ⟨h1, fun w hs j v hj => ?_⟩
  rw [cell_of_blk (hs.ownG (List.mem_of_getElem? hG))]
  have := h2 j v hj
  rw [dropV_eq, List.getElem?_drop] at this
  simpa using this
theorem CellsAt.of1 {b : Nat} {arr : Array Value} {ty : TypeId} {fz : Nat × Nat} {o : Nat} {v : Value} (h : σ b = some (.cells arr ty fz)) (hv : nthV arr.toList o = some v) : CellsAt σ b o [v] := by
  refine ⟨arr, ty, fz, h, fun j u hj => ?_⟩
  cases j with
  | zero => simp at hj; subst hj; rw [nthV_eq] at hv; simpa using hv
  | succ j => simp at hj
theorem OwnSl.seen {e size n : Nat} {v : Value} {xs : List Value} {Gs : List (Nat × Obj)} (h : OwnSl e size v n xs Gs) (hs : ∀ p ∈ Gs, σ p.1 = some p.2) :
    ∃ p c, v = .slice p n c ∧ n ≤ c ∧ (n = 0 ∨ ∃ b o, p = some ⟨b, o, none⟩ ∧ CellsAt σ b o xs) := by
  rcases h.2 with ⟨rfl, rfl, rfl⟩ | ⟨g, c, cur, rfl, rfl, h2, h3, h4, h5⟩
  · exact ⟨none, 0, rfl, Nat.le_refl _, .inl rfl⟩
  · refine ⟨_, c, rfl, h2, .inr ⟨g, 0, rfl, cur, e, (0, 0), hs (g, .cells cur e (0, 0)) (by simp), fun j u hj => ?_⟩⟩
    rw [← h5, List.getElem?_take] at hj
    split at hj
    · simpa using hj
    · cases hj
end
def entT (i : Nat) (t : T) : MapEntry := { key := .string (strOf (keyB t)), val := .int .i64 (i : Int), born := i }
def entsT : Nat → List T → List MapEntry
  | _, [] => []
  | i, t :: r => entT i t :: entsT (i + 1) r
def mapObj (ts : List T) : Obj := .map (entsT 0 ts).toArray ts.length
theorem entsT_snoc : ∀ (ts : List T) (i : Nat) (t : T), entsT i (ts ++ [t]) = entsT i ts ++ [entT (i + ts.length) t]
  | [], i, t => by simp [entsT]
  | u :: r, i, t => by simp [entsT, entsT_snoc r (i + 1) t, Nat.add_assoc, Nat.add_comm 1]
theorem strOf_inj {a b : List UInt8} : strOf a = strOf b ↔ a = b := by
  constructor
  · intro h
    have := congrArg ByteArray.toList h
    rwa [strOf_toList, strOf_toList] at this
  · rintro rfl; rfl
theorem findNow_ents (t : T) : ∀ (ts : List T) (i j : Nat), Instr.findNow .string (.string (strOf (keyB t))) (entsT i ts) j =
    some (if 0 ≤ posT ts t then some (j + (posT ts t).toNat, .int .i64 ((i : Int) + posT ts t)) else none)
  | [], i, j => by simp [entsT, Instr.findNow, posT, findI]
  | u :: r, i, j => by
    have ih := findNow_ents t r (i + 1) (j + 1)
    have hp : posT (u :: r) t = if ord u t = 0 then 0 else if posT r t = -1 then -1 else posT r t + 1 := by
      unfold posT; rw [findI]; simp only [decide_eq_true_eq]
    have hg := posT_ge r t
    rw [entsT, Instr.findNow]
    show (match some (strOf (keyB t) == strOf (keyB u)) with | some true => _ | some false => _ | none => _) = _
    by_cases h : ord u t = 0
    · have e := ord_zero.1 h
      subst e
      have hb : (strOf (keyB u) == strOf (keyB u)) = true := by rw [beq_toListBytes]; simp
      rw [hp, if_pos h, hb]
      simp [entT]
    · have hne : ¬ strOf (keyB t) = strOf (keyB u) := fun e => h (ord_zero.2 (keyB_inj (strOf_inj.1 e)).symm)
      have hb : (strOf (keyB t) == strOf (keyB u)) = false := by
        rw [beq_toListBytes, strOf_toList, strOf_toList]
        simpa using fun e => hne (strOf_inj.2 e)
      rw [hb, hp, if_neg h]
      simp only
      rw [ih]
      by_cases h2 : 0 ≤ posT r t
      · rw [if_pos h2, if_neg (show ¬ posT r t = -1 by omega), if_pos (by omega)]
        congr 3
        · omega
        · congr 1; omega
      · rw [if_neg h2, if_pos (show posT r t = -1 by omega), if_neg (show ¬ (0 : Int) ≤ -1 by omega)]
section
variable {P : Program} {N : Nat} {L : TL} {S : World → Prop} {w0 : World} {M : Nat → Prop} {σ : Hp} {H G : List (Nat × Obj)}
theorem run_findKeyT {w : World} {k : TypeId} (hk : P.underlying k = some .string) (t : T) (ts : List T) (i : Nat) :
    (Instr.findKey k (.string (strOf (keyB t))) (entsT i ts)).run P w = .ok (if 0 ≤ posT ts t then some ((posT ts t).toNat, .int .i64 ((i : Int) + posT ts t)) else none) w := by
  unfold Instr.findKey
  rw [Sem.run_bind, run_underlying hk w]
  simp only [Result.andThen]
  rw [findNow_ents]
  simp
theorem run_checkStr {w : World} {k : TypeId} (hk : P.underlying k = some .string) (b : Bool) (s : ByteArray) : (Instr.checkKey b 10000 k (.string s)).run P w = .ok () w := by
  show (Instr.checkKey b (9999 + 1) k (.string s)).run P w = _
  unfold Instr.checkKey
  rw [Sem.run_bind, run_underlying hk w]
  rfl
theorem ex_mapget {t k e m : Nat} {x y : Operand} {u : T} {ts : List T} [h : MapT P t k e] (hx : ev L x = some (.map (some m))) (hy : ev L y = some (.string (strOf (keyB u)))) (hm : ∀ w, S w → w.heap[m]? = some (mapObj ts)) :
    Ex P (.lookup t x y true) N L S (.tuple #[.int .i64 (if 0 ≤ posT ts u then posT ts u else 0), .bool (decide (0 ≤ posT ts u))]) := fun a w hf hs d ty pos af g => by
  obtain ⟨h1, h2, h3⟩ := h.ok
  have hz : (zeroValue e).run P w = .ok (.int .i64 0) w := by
    cases hi : P.info? e with
    | none => simp [hi] at h3
    | some i =>
      have : i.zero = some (.int .i64 0) := by simpa [hi] using h3
      simp [zeroValue, typeInfo, hi, this]
  have hl : (Instr.lookup t (.map (some m)) (.string (strOf (keyB u))) true).run P w = .ok (.tuple #[.int .i64 (if 0 ≤ posT ts u then posT ts u else 0), .bool (decide (0 ≤ posT ts u))]) w := by
    have ho : (getObj m).run P w = .ok (mapObj ts) w := by
      have := hm w hs
      unfold mapObj at *
      simp [getObj, Sem.run, this]
    unfold Instr.lookup
    rw [Sem.run_bind, run_underlying h1 w]
    simp only [Result.andThen, Sem.run_bind, ho, mapObj, Sem.run_pure, run_checkStr h2, run_findKeyT h2]
    by_cases hp : 0 ≤ posT ts u
    · simp [hp]
    · simp [hp, hz]
  simp [execOp, hf.eval hx, hf.eval hy, hl]
theorem exu_mapput (i : Nat) {t k e m : Nat} {x y z : Operand} {u : T} {ts : List T} [h : MapT P t k e] (hx : ev L x = some (.map (some m))) (hy : ev L y = some (.string (strOf (keyB u)))) (hz : ev L z = some (.int .i64 (ts.length : Int)))
    (hH : H[i]? = some (m, mapObj ts)) (hn : ¬ 0 ≤ posT ts u) : ExU P (.mapUpdate t x y z) N L (St w0 M σ H G) (St w0 M σ (setH H i (mapObj (ts ++ [u]))) G) := fun a w hf hs d ty pos af g => by
  obtain ⟨h1, h2, h3⟩ := h.ok
  have hb := hs.own (List.mem_of_getElem? hH)
  have ho : (getObj m).run P w = .ok (mapObj ts) w := by
    have hb' : w.heap[m]? = some (mapObj ts) := hb
    unfold mapObj at *
    simp [getObj, Sem.run, hb']
  have hset : ∀ o, (setObj m o).run P w = .ok () (World.putBlk w m o) := fun o => by
    have hb' : w.heap[m]? = some (mapObj ts) := hb
    unfold mapObj at hb'
    simp [setObj, Sem.run, hb', World.putBlk]
  have hl : (Instr.mapUpdate t (.map (some m)) (.string (strOf (keyB u))) (.int .i64 (ts.length : Int))).run P w = .ok () (World.putBlk w m (mapObj (ts ++ [u]))) := by
    unfold Instr.mapUpdate
    rw [Sem.run_bind, run_underlying h1 w]
    simp only [Result.andThen, Sem.run_bind, ho, mapObj, run_checkStr h2, run_findKeyT h2, if_neg hn, hset]
    rw [entsT_snoc]
    simp [entT]
  exact ⟨_, by simp [execOp, hf.eval hx, hf.eval hy, hf.eval hz, hl], hs.put hH _⟩
theorem exw_mkmap {t : TypeId} : ExW P (.makeMap t none) N L (St w0 M σ H G) (fun u w => ∃ b, u = .map (some b) ∧ St w0 M σ ((b, mapObj []) :: H) G w) := fun a w hf hs d ty pos af g =>
  ⟨.map (some w.heap.size), w.alloc (mapObj []), by simp [execOp, Instr.makeMap, newObj, Sem.run, mapObj, entsT], _, rfl, hs.alloc _⟩
theorem ow_mkmap {l0 : List Oper} {Q : Exit → Act → World → Prop} {rest : List Oper} {d : Nat} {ty : TypeId} {pos : String} {af : Array Edge} {g : Option (Nat × Bool)} {op : Op}
    (hN : Nat.blt d N = true) (hg : gd l0 L g = some true) (h : ExW P op N L (St w0 M σ H G) (fun u w => ∃ b, u = .map (some b) ∧ St w0 M σ ((b, mapObj []) :: H) G w))
    (k : ∀ b, OW P l0 Q rest N ((d, .map (some b)) :: L) (St w0 M σ ((b, mapObj []) :: H) G)) : OW P l0 Q (⟨some d, op, ty, pos, af, g⟩ :: rest) N L (St w0 M σ H G) :=
  ow_w hN hg h fun u a w hf ⟨b, hu, hs⟩ => by subst hu; exact k b a w hf hs
end
def VaultK (tv te : TypeId) (b : Nat) (ts : List T) (σ : Hp) (K : List (Nat × Obj)) : Prop :=
  ∃ sv xs m Gs, K = (b, .cells #[sv, .map (some m)] tv) :: (m, mapObj ts) :: Gs ∧ OwnSl te 4 sv ts.length xs Gs ∧ RowC σ xs ts ∧ TabI ts ∧ ts.length ≤ 4096
def RefK (tr te : TypeId) (b : Nat) (ts : List T) (σ : Hp) (K : List (Nat × Obj)) : Prop :=
  ∃ sv xs Gs, K = (b, .cells #[sv] tr) :: Gs ∧ OwnSl te 4 sv ts.length xs Gs ∧ RowC σ xs ts ∧ ts.length ≤ 4096
def BldK (tb te : TypeId) (b : Nat) (bs : List UInt8) (σ : Hp) (K : List (Nat × Obj)) : Prop :=
  ∃ p sv Gs, K = (b, .cells #[p, sv] tb) :: Gs ∧ (p = .pointer none ∨ p = .pointer (some ⟨b, 0, none⟩)) ∧ OwnSl te 1 sv bs.length (bs.map byteV) Gs
theorem VaultK.le {tv te : TypeId} {b : Nat} {ts : List T} {σ τ : Hp} {K : List (Nat × Obj)} (hl : Le σ τ) (h : VaultK tv te b ts σ K) : VaultK tv te b ts τ K := by
  obtain ⟨sv, xs, m, Gs, h1, h2, h3, h4⟩ := h
  exact ⟨sv, xs, m, Gs, h1, h2, h3.le hl, h4⟩
theorem RefK.le {tv te : TypeId} {b : Nat} {ts : List T} {σ τ : Hp} {K : List (Nat × Obj)} (hl : Le σ τ) (h : RefK tv te b ts σ K) : RefK tv te b ts τ K := by
  obtain ⟨sv, xs, Gs, h1, h2, h3, h4⟩ := h
  exact ⟨sv, xs, Gs, h1, h2, h3.le hl, h4⟩
end Go.Proofs.YtnjomdjkbbhdoaaDoor
namespace Go.Proofs.YtnjomdjkbbhdoaaDoor
open Go.RowKit
set_option linter.unusedVariables false
section
variable {P : Program} {N : Nat} {L : TL} {S : World → Prop} {w0 : World} {M : Nat → Prop} {σ : Hp} {H G Gs Gr : List (Nat × Obj)}
theorem St.flip {w : World} (h : St w0 M σ H G w) : St w0 M σ G H w := St0.perm h List.perm_append_comm
theorem exu_storeG1 (i : Nat) {ty b o : Nat} {x y : Operand} {v : Value} {arr : Array Value} {et : TypeId} [h : OneT P ty] (hx : ev L x = some (.pointer (some ⟨b, o, none⟩))) (hy : ev L y = some v)
    (hG : G[i]? = some (b, .cells arr et)) (hv : v.cells = #[v]) (ho : v.oneCell' = true) (hle0 : Nat.ble (o + 1) arr.size = true) :
    ExU P (.store ty x y) N L (St w0 M σ H G) (St w0 M σ H (setH G i (.cells (over arr o [v]) et))) := fun a w hf hs d ty' pos af g => by
  obtain ⟨w', h1, h2⟩ := exu_store1 (P := P) (w0 := w0) (M := M) (σ := σ) (H := G) (G := H) (ty := ty) i hx hy hG hv ho hle0 a w hf hs.flip d ty' pos af g
  exact ⟨w', h1, h2.flip⟩
theorem ex_nilck {x : Operand} {a : Addr} (hx : ev L x = some (.pointer (some a))) : Ex P (.nilCheck x) N L S (.pointer (some a)) := fun ac w hf hs d ty pos af g => by
  simp [execOp, hf.eval hx]
class PtrT (P : Program) (t : TypeId) (e : outParam Nat) : Prop where
  ok : P.underlying t = some (.pointer e) ∧ ∃ j, P.info? e = some j
theorem ex_ptrnil {t e : Nat} {u : TypeId} {x : Operand} {p : Option Addr} [h : PtrT P t e] (hx : ev L x = some (.pointer p)) : Ex P (.binOp .eql t x (.const (.pointer none)) u) N L S (.bool p.isNone) := fun a w hf hs d ty pos af g => by
  have he : a.eval (.const (.pointer none)) = .pointer none := rfl
  have hu := run_underlying h.ok.1 w
  have hq : (Op.equal t (.pointer p) (.pointer none)).run P w = .ok p.isNone w := by
    change (Op.equalIn (9999 + 1) t (.pointer p) (.pointer none)).run P w = _
    rw [Op.equalIn, Sem.run_bind, hu]
    cases p <;> rfl
  have hg : (eqGuard .eql t x (.const (.pointer none)) (.pointer p) (.pointer none)).run P w = .ok () w := by simp [eqGuard]
  have hb : (binOp .eql t (.pointer p) (.pointer none)).run P w = .ok (.bool p.isNone) w := by
    change (do pure (Value.bool (← Op.equal t (.pointer p) (.pointer none)))).run P w = _
    rw [Sem.run_bind, hq]; rfl
  simp [execOp, hf.eval hx, he, hg, hb]
theorem ex_ptrnnil {t e : Nat} {u : TypeId} {x : Operand} {p : Option Addr} [h : PtrT P t e] (hx : ev L x = some (.pointer p)) : Ex P (.binOp .neq t x (.const (.pointer none)) u) N L S (.bool (!p.isNone)) := fun a w hf hs d ty pos af g => by
  have he : a.eval (.const (.pointer none)) = .pointer none := rfl
  have hu := run_underlying h.ok.1 w
  have hq : (Op.equal t (.pointer p) (.pointer none)).run P w = .ok p.isNone w := by
    change (Op.equalIn (9999 + 1) t (.pointer p) (.pointer none)).run P w = _
    rw [Op.equalIn, Sem.run_bind, hu]
    cases p <;> rfl
  have hg : (eqGuard .neq t x (.const (.pointer none)) (.pointer p) (.pointer none)).run P w = .ok () w := by simp [eqGuard]
  have hb : (binOp .neq t (.pointer p) (.pointer none)).run P w = .ok (.bool (!p.isNone)) w := by
    change (do pure (Value.bool !(← Op.equal t (.pointer p) (.pointer none)))).run P w = _
    rw [Sem.run_bind, hq]; rfl
  simp [execOp, hf.eval hx, he, hg, hb]
theorem ex_ptrself {t e : Nat} {u : TypeId} {x y : Operand} {p : Addr} [h : PtrT P t e] (hx : ev L x = some (.pointer (some p))) (hy : ev L y = some (.pointer (some p))) : Ex P (.binOp .neq t x y u) N L S (.bool false) := fun a w hf hs d ty pos af g => by
  obtain ⟨h1, j, h2⟩ := h.ok
  have hb := Lib.run_neq_ptr_same (P := P) w p h1 h2
  have hg : (eqGuard .neq t x y (.pointer (some p)) (.pointer (some p))).run P w = .ok () w := by simp [eqGuard]
  simp [execOp, hf.eval hx, hf.eval hy, hg, hb]
class BldT (P : Program) (tp tb tu te : Nat) : Prop where
  ok : P.underlying tp = some (.pointer tb) ∧ P.underlying tu = some .unsafePointer ∧ (∃ j, P.info? tb = some j ∧ j.size ≠ 0) ∧ liesAt P P.depth tb (2 / P.cellsOf tb) 0 tb 1 = true ∧ tb ≠ te
theorem ex_tounsafe {tp tb tu te b : Nat} {x : Operand} {p v : Value} (h : BldT P tp tb tu te) (hx : ev L x = some (.pointer (some ⟨b, 0, none⟩))) (hb : ∀ w, S w → w.heap[b]? = some (.cells #[p, v] tb (0, 0))) :
    Ex P (.convert tp tu x) N L S (.pointer (some ⟨b, 0, none⟩)) := fun a w hf hs d ty pos af g => by
  obtain ⟨h1, h2, ⟨j, h3, h5⟩, h4, _⟩ := h.ok
  have hc := Lib.run_to_unsafe (P := P) w (e := tb) (cells := 2) ⟨b, 0, none⟩ h1 h2 h3 h5 (by simp [World.shape?, hb w hs]) (by show 0 < 2; decide)
  simp [execOp, hf.eval hx, hc]
theorem ex_fromunsafe {tp tb tu te b : Nat} {x : Operand} {p v : Value} (h : BldT P tp tb tu te) (hx : ev L x = some (.pointer (some ⟨b, 0, none⟩))) (hb : ∀ w, S w → w.heap[b]? = some (.cells #[p, v] tb (0, 0))) :
    Ex P (.convert tu tp x) N L S (.pointer (some ⟨b, 0, none⟩)) := fun a w hf hs d ty pos af g => by
  obtain ⟨h1, h2, ⟨j, h3, h5⟩, h4, _⟩ := h.ok
  have hc := Lib.run_from_unsafe (P := P) w (e := tb) (cells := 2) ⟨b, 0, none⟩ h2 h1 h3 (by simp [World.shape?, hb w hs]) h4
  simp [execOp, hf.eval hx, hc]
class NoEscT (P : Program) (f : FuncId) : Prop where
  ok : ∃ fn, P.funcs[f]? = some fn ∧ (fn.name == "runtime.NumGoroutine") = false ∧ fn.body.isNone = true ∧ Extern.findNext fn = none ∧ Extern.find fn = some Extern.AbiNoEscape.same
theorem ex_noesc {f : FuncId} {x : Operand} {ats : Array TypeId} {v : Value} [h : NoEscT P f] (hx : ev L x = some v) : Ex P (.call { callee := .value (.func f), args := #[x], argTypes := ats }) N L S v := fun ac w hf hs d ty pos af g => by
  obtain ⟨fn, h1, h2, h3, h4, h5⟩ := h.ok
  have e := run_callFunc_extern h1 h2 h3 h4 h5 #[v] w
  rw [Lib.run_noEscape] at e
  have he : ac.eval (.func f) = .func (.func f) #[] #[] := rfl
  simp only [Result.andThen] at e
  simp [execOp, resolve, he, Deferred.ofValue, invoke, hf.eval hx, e]
theorem strOf_app (a b : List UInt8) : strOf a ++ strOf b = strOf (a ++ b) := by
  apply ByteArray.ext
  simp [strOf]
theorem strOf_size (a : List UInt8) : (strOf a).size = a.length := by simp [strOf, ByteArray.size]
theorem ex_stradd {t u : TypeId} {x y : Operand} {a b : List UInt8} (hx : ev L x = some (.string (strOf a))) (hy : ev L y = some (.string (strOf b))) (hl : a.length + b.length ≤ 9223372036854775807) :
    Ex P (.binOp .add t x y u) N L S (.string (strOf (a ++ b))) := fun ac w hf hS d ty pos af g => by
  have h2 : ¬ (9223372036854775807 : Int) < (a.length : Int) + (b.length : Int) := by omega
  have hmax : IntKind.i64.max = 9223372036854775807 := rfl
  simp [execOp, hf.eval hx, hf.eval hy, eqGuard, binOp, Op.stringOp, strOf_size, hmax, h2, strOf_app]
class ArrT (P : Program) (t : TypeId) (n : outParam Nat) : Prop where
  ok : ∃ e, P.underlying t = some (.array n e) ∧ (P.info? e).map (·.size) = some 1 ∧ P.underlying e = some (.int .i64)
theorem ex_arr {t n : Nat} {x y : Operand} {zs : List Int} {i : Nat} [h : ArrT P t n] (hx : ev L x = some (.agg (intsV zs).toArray)) (hy : ev L y = some (.int .i64 (i : Int))) (hi : i < zs.length) (hn : zs.length = n) :
    Ex P (.index t x y) N L S (.int .i64 zs[i]) := fun a w hf hs d ty pos af g => by
  obtain ⟨e, h1, h2, h3⟩ := h.ok
  cases hq : P.info? e with
  | none => simp [hq] at h2
  | some j =>
    have hsz : j.size = 1 := by simpa [hq] using h2
    have hna := run_isAgg_not h3 rfl w
    have hg := intsV_get hi
    simp [execOp, hf.eval hx, hf.eval hy, Instr.index, asIntOf, run_underlying h1, hi, ← hn, sizeOf, typeInfo, hq, hsz, part, hna, hg]
theorem strCells_of (d : List UInt8) : Lib.strCells (strOf d) = d.map byteV := by simp [Lib.strCells, strOf, byteV]
theorem st_appendS {t u e : Nat} [hA : AppT P t e 1 1] [hu : StrT P u] (hz : ∀ i, P.info? e = some i → i.zero = some (.int .u8 0)) {w : World} {v : Value} {n : Nat} {xs : List Value} {s : List UInt8} {ty : TypeId}
    (hs : St w0 M σ H (Gs ++ Gr) w) (hO : OwnSl e 1 v n xs Gs) (hb : n + s.length ≤ 140737488355328) :
    ∃ v' w' Gs', (Builtin.append_ #[t, u] ty #[v, .string (strOf s)]).run P w = .ok v' w' ∧ OwnSl e 1 v' (n + s.length) (xs ++ s.map byteV) Gs' ∧ St w0 M σ H (Gs' ++ Gr) w' := by
  obtain ⟨ht, ⟨i, z, hi, hz0, hsz, hby, hzs⟩, hpos⟩ := hA.ok
  have hz1 := hz i hi
  have hx : xs.length = n := by simpa using hO.1
  have hlen : (xs ++ s.map byteV).length = (n + s.length) * 1 := by simp [hx]
  have hss := strOf_size s
  have grown : ∀ (old : Nat), old < n + s.length → ∀ Gs0 : List (Nat × Obj), St w0 M σ H (Gs0 ++ Gr) w →
      ∃ g cur, OwnSl e 1 (.slice (some ⟨w.heap.size, 0, none⟩) (n + s.length) (grownCap w (n + s.length) old e)) (n + s.length) (xs ++ s.map byteV) [(g, .cells cur e (0, 0))] ∧
        St w0 M σ H ([(g, .cells cur e (0, 0))] ++ Gr) (w.drew.alloc (.cells (xs.toArray ++ (s.map byteV).toArray ++ Builtin.zeroCells (Value.int .u8 0).cells (grownCap w (n + s.length) old e - (n + s.length))) e)) := by
    intro old ho Gs0 hs0
    have hge := grownCap_ge w (n + s.length) old e
    have hcm : grownCap w (n + s.length) old e ≤ maxLen := grownCap_le_maxLen w (n + s.length) old e (by unfold maxLen; omega)
    refine ⟨w.heap.size, xs.toArray ++ (s.map byteV).toArray ++ Builtin.zeroCells (Value.int .u8 0).cells (grownCap w (n + s.length) old e - (n + s.length)), ⟨hlen, .inr ⟨w.heap.size, _, _, rfl, rfl, hge, hcm, ?_, ?_⟩⟩, ?_⟩
    · have hc1 : (Value.int IntKind.u8 0).cells.size = 1 := rfl
      simp only [Array.size_append, List.size_toArray, size_zeroCells, hc1, hx, List.length_map]
      omega
    · simp only [Array.toList_append, List.append_assoc]
      rw [← List.append_assoc, ← hlen]
      exact List.take_left
    · have h2 : St w0 M σ H Gr w.drew := (hs0.dropG (List.sublist_append_right _ _)).drew
      exact (h2.alloc _).toG
  rcases hO.2 with ⟨rfl, rfl, rfl⟩ | ⟨g, cc, cur, rfl, rfl, h2, h3, h4, h5⟩
  · have hx0 : xs = [] := List.eq_nil_of_length_eq_zero hx
    subst hx0
    by_cases hm : s.length = 0
    · obtain rfl : s = [] := List.eq_nil_of_length_eq_zero hm
      refine ⟨.slice none 0 0, w, [], ?_, by simpa using OwnSl.nil e 1, hs⟩
      have key : ∀ q : ByteArray, q.size = 0 → (Builtin.append_ #[t, u] ty #[.slice none 0 0, .string q]).run P w = .ok (.slice none 0 0) w := fun q hq => by
        have hf := Lib.run_firstCells_string (P := P) w 1 q
        rw [hq] at hf
        simp [Builtin.append_, run_underlying ht, run_underlying hu.ok, sizeOf, typeInfo, hi, hsz, Builtin.lenOf, hq, hf]
      exact key _ hss
    · have hr := run_append_nil_string (P := P) w t u ty e i (.int .u8 0) ht hu.ok hi hz1 (strOf s) (by omega) (by omega) (by rw [hby]; omega)
      obtain ⟨g, cur, ho, hst⟩ := grown 0 (by omega) [] hs
      have e1 : ((strOf s).data.map fun b => Value.int .u8 b.toNat) = (s.map byteV).toArray := by
        apply Array.ext'
        simp [strOf, byteV]
      rw [e1, hss] at hr
      simp only [Nat.zero_add, List.nil_append, Array.empty_append] at ho hst ⊢
      exact ⟨_, _, _, hr, ho, hst⟩
  · have h4' : cur.size = cc := by simpa using h4
    by_cases hroom : n + s.length ≤ cc
    · have hg : w.heap[g]? = some (.cells cur e (0, 0)) := hs.ownG (p := (g, .cells cur e (0, 0))) (by simp)
      have hr := Lib.run_append_room_string (P := P) w t u ty e i ht hu.ok hi hsz g n cc cur hg (strOf s) (by rw [hss]; exact hroom) (by rw [hss]; omega)
      rw [setRow_putBlk hg, strCells_of, hss] at hr
      refine ⟨_, _, [(g, .cells (cur.toList.take n ++ s.map byteV ++ cur.toList.drop (n + s.length)).toArray e (0, 0))], hr, ⟨hlen, .inr ⟨g, cc, _, rfl, rfl, hroom, h3, ?_, ?_⟩⟩, hs.putG (i := 0) rfl _⟩
      · simp only [List.size_toArray, List.length_append, List.length_take, List.length_drop, Array.length_toList, List.length_map]
        omega
      · have ht' : cur.toList.take n = xs := by simpa using h5
        rw [ht', ← hlen]
        exact List.take_left
    · have holds : ∀ j u, xs[j]? = some u → w.cell? ((⟨g, 0, none⟩ : Addr).add j) = some u := fun j u hj => by
        rw [addr_add, Nat.zero_add, cell_of_blk (hs.ownG (p := (g, .cells cur e (0, 0))) (by simp))]
        rw [← h5, List.getElem?_take] at hj
        split at hj
        · simpa using hj
        · cases hj
      have hr := Lib.run_append_grow_string (P := P) w t u ty e i (.int .u8 0) ht hu.ok hi hz1 ⟨g, 0, none⟩ n cc xs (by rw [hsz]; omega) holds (strOf s) (by rw [hss]; omega) (by rw [hss]; omega) (by rw [hss, hby]; exact growslice_fits (by omega) (by omega))
      rw [strCells_of, hss] at hr
      obtain ⟨g', cur', ho, hst⟩ := grown cc (by omega) _ hs
      exact ⟨_, _, _, hr, ho, hst⟩
class ByteZ (P : Program) (e : TypeId) : Prop where
  ok : ∀ i, P.info? e = some i → i.zero = some (.int .u8 0)
theorem ow_appS {l0 : List Oper} {Q : Exit → Act → World → Prop} {rest : List Oper} {d : Nat} {ty : TypeId} {pos : String} {af : Array Edge} {g : Option (Nat × Bool)} {t u e : Nat} [AppT P t e 1 1] [StrT P u] [hz : ByteZ P e]
    {x y : Operand} {v : Value} {n : Nat} {xs : List Value} {s : List UInt8} (hN : Nat.blt d N = true) (hg : gd l0 L g = some true) (hx : ev L x = some v) (hy : ev L y = some (.string (strOf s))) (hO : OwnSl e 1 v n xs Gs) (hb : n + s.length ≤ 140737488355328)
    (k : ∀ v' Gs', OwnSl e 1 v' (n + s.length) (xs ++ s.map byteV) Gs' → OW P l0 Q rest N ((d, v') :: L) (St w0 M σ H (Gs' ++ Gr))) :
    OW P l0 Q (⟨some d, .call { callee := .builtin .append, args := #[x, y], argTypes := #[t, u] }, ty, pos, af, g⟩ :: rest) N L (St w0 M σ H (Gs ++ Gr)) :=
  ow_w (T := fun v' w' => ∃ Gs', OwnSl e 1 v' (n + s.length) (xs ++ s.map byteV) Gs' ∧ St w0 M σ H (Gs' ++ Gr) w') hN hg (fun a w hf hs d ty pos af g => by
    obtain ⟨v', w', Gs', h1, h2, h3⟩ := st_appendS (P := P) (t := t) (u := u) (ty := ty) hz.ok hs hO hb
    exact ⟨v', w', by simp [execOp, resolve, invoke, builtin, hf.eval hx, hf.eval hy, h1], Gs', h2, h3⟩) fun v' a w hf ⟨Gs', h1, h2⟩ => k v' Gs' h1 a w hf h2
theorem ow_appS1 {l0 : List Oper} {Q : Exit → Act → World → Prop} {rest : List Oper} {d : Nat} {ty : TypeId} {pos : String} {af : Array Edge} {g : Option (Nat × Bool)} {t u e : Nat} [AppT P t e 1 1] [StrT P u] [hz : ByteZ P e]
    {x y : Operand} {v : Value} {n : Nat} {xs : List Value} {s : List UInt8} (hN : Nat.blt d N = true) (hg : gd l0 L g = some true) (hx : ev L x = some v) (hy : ev L y = some (.string (strOf s))) (hO : OwnSl e 1 v n xs Gs) (hb : n + s.length ≤ 140737488355328)
    (k : ∀ v' Gs', OwnSl e 1 v' (n + s.length) (xs ++ s.map byteV) Gs' → OW P l0 Q rest N ((d, v') :: L) (St w0 M σ H Gs')) :
    OW P l0 Q (⟨some d, .call { callee := .builtin .append, args := #[x, y], argTypes := #[t, u] }, ty, pos, af, g⟩ :: rest) N L (St w0 M σ H Gs) := by
  have := ow_appS (t := t) (u := u) (Gr := []) (w0 := w0) (M := M) (σ := σ) (H := H) (Gs := Gs) (P := P) (l0 := l0) (Q := Q) (rest := rest) (ty := ty) (pos := pos) (af := af) hN hg hx hy hO hb (fun v' Gs' h => by simpa using k v' Gs' h)
  simpa using this
theorem ex_sldata {t : TypeId} {x : Operand} {b o n c : Nat} (hx : ev L x = some (.slice (some ⟨b, o, none⟩) n c)) (hc : c ≠ 0) : Ex P (.call { callee := .builtin .unsafeSliceData, args := #[x], argTypes := #[t] }) N L S (.pointer (some ⟨b, o, none⟩)) :=
  fun a w hf hs d ty pos af g => by
    have := Lib.run_unsafeSliceData_row (P := P) (w := w) #[t] ty ⟨b, o, none⟩ n c hc
    simp [execOp, resolve, invoke, builtin, hf.eval hx, this]
class UStrT (P : Program) (pt : TypeId) (e : outParam Nat) : Prop where
  ok : P.underlying pt = some (.pointer e) ∧ P.cellsOf e = 1
theorem ow_ustr {l0 : List Oper} {Q : Exit → Act → World → Prop} {rest : List Oper} {d : Nat} {ty : TypeId} {pos : String} {af : Array Edge} {g : Option (Nat × Bool)} {pt it e b : Nat} [h : UStrT P pt e]
    {x y : Operand} {l : List UInt8} {arr : Array Value} (hN : Nat.blt d N = true) (hg : gd l0 L g = some true) (hx : ev L x = some (.pointer (some ⟨b, 0, none⟩))) (hy : ev L y = some (.int .i64 (l.length : Int)))
    (h0 : l ≠ []) (hl : l.length ≤ arr.size) (h63 : l.length ≤ 9223372036854775807) (ht : arr.toList.take l.length = l.map byteV)
    (k : OW P l0 Q rest N ((d, .string (strOf l)) :: L) (St w0 M σ H G)) :
    OW P l0 Q (⟨some d, .call { callee := .builtin .unsafeString, args := #[x, y], argTypes := #[pt, it] }, ty, pos, af, g⟩ :: rest) N L (St w0 M σ H ((b, .cells arr e (0, 0)) :: G)) :=
  ow_w (T := fun v w => v = .string (strOf l) ∧ St w0 M σ H G w) hN hg (fun a w hf hs d ty pos af g => by
    obtain ⟨h1, h2⟩ := h.ok
    have hb : w.heap[b]? = some (.cells arr e (0, 0)) := hs.ownG (p := (b, .cells arr e (0, 0))) (by simp)
    have hr := Lib.run_unsafeString_row (P := P) (w := w) pt it ty e h1 h2 b arr.size (by simp [World.shape?, hb]) l h0 hl h63 (fun j x hj => by
      rw [addr_add, cell_of_blk hb]
      have : (l.map byteV)[j]? = some (byteV x) := by simp [hj]
      rw [← ht, List.getElem?_take] at this
      split at this
      · rw [Array.getElem?_toList] at this
        simpa [byteV] using this
      · cases this)
    refine ⟨.string (strOf l), w.freeze ⟨b, 0, none⟩ l.length, by simp [execOp, resolve, invoke, builtin, hf.eval hx, hf.eval hy, hr, strOf], rfl, ?_⟩
    have hf2 : w.freeze ⟨b, 0, none⟩ l.length = World.putBlk w b (.cells arr e (0, l.length)) := by
      have hlt := (Array.getElem?_eq_some_iff.1 hb).1
      have hge := (Array.getElem?_eq_some_iff.1 hb).2
      have hn0 : ¬ l.length = 0 := by simpa using h0
      unfold World.freeze World.putBlk
      rw [if_neg hn0]
      congr 1
      apply Array.ext_getElem?
      intro i
      rw [Array.getElem?_modify, Array.getElem?_setIfInBounds]
      by_cases hi : b = i
      · subst hi; simp [hlt, hge]
      · simp [hi]
    rw [hf2]
    exact (hs.putG (i := 0) rfl _).dropG (by simp [setH])) fun v a w hf ⟨hv, h2⟩ => by subst hv; exact k a w hf h2
end
theorem St.hasE {w0 w : World} {M : Nat → Prop} {σ : Hp} {H K : List (Nat × Obj)} (h : St w0 M σ H K w) : Has σ K w := St.has (G := []) (by simpa using h)
section
variable {P : Program} {l0 : List Oper} {Q : Exit → Act → World → Prop} {rest : List Oper} {N : Nat} {L : TL} {d : Nat} {ty : TypeId} {pos : String}
  {af : Array Edge} {g : Option (Nat × Bool)} {op : Op} {w0 : World} {M : Nat → Prop} {σ : Hp} {H K : List (Nat × Obj)} {R : Hp → Value → List (Nat × Obj) → Prop}
theorem ow_ckE (hN : Nat.blt d N = true) (hg : gd l0 L g = some true) (h : ExC P op N L (St w0 M σ H K) (TK R σ K))
    (k : ∀ u σ' K', Le σ σ' → Fresh σ σ' w0 → R σ' u K' → OW P l0 Q rest N ((d, u) :: L) (St w0 M σ' H K')) : OW P l0 Q (⟨some d, op, ty, pos, af, g⟩ :: rest) N L (St w0 M σ H K) := by
  have := ow_ck (G := []) (w0 := w0) (M := M) (H := H) (K := K) (Q := Q) (rest := rest) (ty := ty) (pos := pos) (af := af) hN hg (by simpa using h) (fun u σ' K' h1 h2 h3 => by simpa using k u σ' K' h1 h2 h3)
  simpa using this
end
def TabC (P : Program) (σ : Hp) : Prop := ∃ g ty fz, P.globalNamed "internal/strconv.uint64pow10" = some g ∧ σ g = some (.cells (Lib.pow10Tab.map fun z => Value.int .u64 z).toArray ty fz)
theorem TabC.is {P : Program} {σ : Hp} {w : World} (h : TabC P σ) (hi : Imm σ w) : Lib.TabIs P w "internal/strconv.uint64pow10" .u64 Lib.pow10Tab := by
  obtain ⟨g, ty, fz, h1, h2⟩ := h
  unfold Lib.TabIs World.var?
  rw [h1]
  simp [hi g _ h2]
theorem TabC.of_is {P : Program} {W : World} (h : Lib.TabIs P W "internal/strconv.uint64pow10" .u64 Lib.pow10Tab) : TabC P (fun b => W.heap[b]?) := by
  unfold Lib.TabIs World.var? at h
  cases hg : P.globalNamed "internal/strconv.uint64pow10" with
  | none => rw [hg] at h; cases h
  | some g =>
    rw [hg] at h
    simp only [Option.bind_some] at h
    cases hb : W.heap[g]? with
    | none => rw [hb] at h; cases h
    | some ob =>
      rw [hb] at h
      cases ob with
      | cells cs ty fz => simp only [Option.some.injEq] at h; subst h; exact ⟨g, ty, fz, hg, hb⟩
      | _ => cases h
theorem TabC.le {P : Program} {σ τ : Hp} (hl : Le σ τ) (h : TabC P σ) : TabC P τ := by
  obtain ⟨g, ty, fz, h1, h2⟩ := h
  exact ⟨g, ty, fz, h1, hl g _ h2⟩
theorem below_sgrow (w : World) (k : Nat) (os : Array Obj) : Below w.heap.size w (Sort.grow (w.drewN k) os) :=
  ⟨rfl, rfl, rfl, by show w.heap.size ≤ (w.heap ++ os).size; simp, fun b hb => by
    show (w.heap ++ os)[b]? = _
    rw [Array.getElem?_append, if_pos hb]⟩
def hdrB : List Int → List UInt8
  | [] => []
  | z :: r => Lib.itoa z ++ [44] ++ hdrB r
theorem hdrB_app : ∀ (a b : List Int), hdrB (a ++ b) = hdrB a ++ hdrB b
  | [], b => rfl
  | z :: r, b => by simp [hdrB, hdrB_app r b]
theorem hdrB_take (zs : List Int) (i : Nat) (h : i < zs.length) : hdrB (zs.take (i + 1)) = hdrB (zs.take i) ++ (Lib.itoa zs[i] ++ [44]) := by
  rw [List.take_succ_eq_append_getElem h, hdrB_app]; simp [hdrB]
theorem hdrB_take_le (zs : List Int) (i : Nat) : (hdrB (zs.take i)).length ≤ (hdrB zs).length := by
  have := hdrB_app (zs.take i) (zs.drop i)
  rw [List.take_append_drop] at this
  rw [this, List.length_append]; omega
theorem hdrB_head (o n : Int) (d k : Nat) : hdrB [o, n, (d : Int), (k : Int)] = headB o n d k := by simp [hdrB, headB]
theorem keyB_mk (o n : Int) (d : List UInt8) (ks : List T) : keyB (.mk o n d ks) = headB o n d.length ks.length ++ (d ++ keysB ks) := by rw [keyB]
end Go.Proofs.YtnjomdjkbbhdoaaDoor
namespace Go.Proofs.YtnjomdjkbbhdoaaDoor
open Go.RowKit
set_option linter.unusedVariables false
set_option linter.unusedSimpArgs false
set_option maxRecDepth 100000
set_option maxHeartbeats 400000 in
theorem pNan22 {n : Int} {w : World} : Calls Tryd.prog 91 #[.int .i64 n] w fun e w' => e = .returned (.bool false) ∧ Below w.heap.size w w' := by
  refine enter (St w (fun _ => False) (fun _ => none) [] []) Tryd.func91 rfl Tryd.ntmps91 rfl (St.start (fun _ _ h => by cases h)) ?_
  refine cw_seq ?_
  refine cw_region ?_
  refine ow_val rfl rfl (ex_assign rfl) ?_
  refine ow_nil ?_
  refine qw_seq ?_
  refine cw_seq ?_
  refine cw_region ?_
  refine ow_val rfl rfl (ex_move rfl) ?_
  refine ow_val rfl rfl (ex_move rfl) ?_
  refine ow_val rfl rfl (ex_neq rfl rfl) ?_
  refine ow_val rfl rfl (ex_assign rfl) ?_
  refine ow_nil ?_
  refine qw_seq ?_
  refine cw_ret ?_
  refine qw_ret1 rfl rfl (fun w' h => ⟨by simp, h.ag.below⟩)
set_option maxHeartbeats 400000 in
theorem pNan2 {n : Int} {w : World} : Calls Tryd.prog 92 #[.int .i64 n] w fun e w' => e = .returned (.bool false) ∧ Below w.heap.size w w' := by
  refine enter (St w (fun _ => False) (fun _ => none) [] []) Tryd.func92 rfl Tryd.ntmps92 rfl (St.start (fun _ _ h => by cases h)) ?_
  refine cw_seq ?_
  refine cw_region ?_
  refine ow_val rfl rfl (ex_assign rfl) ?_
  refine ow_nil ?_
  refine qw_seq ?_
  refine cw_seq ?_
  refine cw_region ?_
  refine ow_val rfl rfl (ex_move rfl) ?_
  refine ow_val rfl rfl (ex_move rfl) ?_
  refine ow_val rfl rfl (ex_neq rfl rfl) ?_
  refine ow_val rfl rfl (ex_assign rfl) ?_
  refine ow_nil ?_
  refine qw_seq ?_
  refine cw_ret ?_
  refine qw_ret1 rfl rfl (fun w' h => ⟨by simp, h.ag.below⟩)
set_option maxHeartbeats 400000 in
theorem pComp22 {m n : Int} {w : World} : Calls Tryd.prog 75 #[.int .i64 m, .int .i64 n] w fun e w' => e = .returned (.int .i64 (cmpI m n)) ∧ Below w.heap.size w w' := by
  refine enter (St w (fun _ => False) (fun _ => none) [] []) Tryd.func75 rfl Tryd.ntmps75 rfl (St.start (fun _ _ h => by cases h)) ?_
  refine cw_seq ?_
  refine cw_region ?_
  refine ow_val rfl rfl (ex_assign rfl) ?_
  refine ow_nil ?_
  refine qw_seq ?_
  refine cw_seq ?_
  refine cw_region ?_
  refine ow_val rfl rfl (ex_move rfl) ?_
  refine ow_cv rfl rfl (ex_callf rfl (fun w h => callB (pNan22))) ?_
  refine ow_val rfl rfl (ex_assign rfl) ?_
  refine ow_nil ?_
  refine qw_seq ?_
  refine cw_seq ?_
  refine cw_region ?_
  refine ow_val rfl rfl (ex_move rfl) ?_
  refine ow_cv rfl rfl (ex_callf rfl (fun w h => callB (pNan22))) ?_
  refine ow_val rfl rfl (ex_assign rfl) ?_
  refine ow_nil ?_
  refine qw_seq ?_
  refine cw_seq ?_
  refine cw_seq ?_
  refine cw_region ?_
  refine ow_val rfl rfl (ex_move rfl) ?_
  refine ow_nil ?_
  refine qw_seq ?_
  refine cw_cond rfl (fun c11 => ?_) (fun c11 => ?_)
  ·
    exact absurd c11 (by simp)
  ·
    refine cw_skip ?_
    refine qw_seq ?_
    refine cw_seq ?_
    refine cw_seq ?_
    refine cw_region ?_
    refine ow_val rfl rfl (ex_move rfl) ?_
    refine ow_nil ?_
    refine qw_seq ?_
    refine cw_cond rfl (fun c13 => ?_) (fun c13 => ?_)
    ·
      exact absurd c13 (by simp)
    ·
      refine cw_skip ?_
      refine qw_seq ?_
      refine cw_seq ?_
      refine cw_seq ?_
      refine cw_region ?_
      refine ow_val rfl rfl (ex_move rfl) ?_
      refine ow_val rfl rfl (ex_move rfl) ?_
      refine ow_val rfl rfl (ex_lss rfl rfl) ?_
      refine ow_nil ?_
      refine qw_seq ?_
      refine cw_cond rfl (fun c16 => ?_) (fun c16 => ?_)
      ·
        refine cw_seq ?_
        refine cw_region ?_
        refine ow_val rfl rfl (ex_assign rfl) ?_
        refine ow_nil ?_
        refine qw_seq ?_
        refine cw_ret ?_
        refine qw_then_ret ?_
        refine qw_ret1 rfl rfl (fun w' h => ⟨congrArg (fun z => Ending.returned (.int .i64 z)) ?_, h.ag.below⟩)
        simp at c16
        rw [cmpI_m (by omega)]
      ·
        refine cw_skip ?_
        refine qw_seq ?_
        refine cw_seq ?_
        refine cw_seq ?_
        refine cw_region ?_
        refine ow_val rfl rfl (ex_move rfl) ?_
        refine ow_val rfl rfl (ex_move rfl) ?_
        refine ow_val rfl rfl (ex_gtr rfl rfl) ?_
        refine ow_nil ?_
        refine qw_seq ?_
        refine cw_cond rfl (fun c19 => ?_) (fun c19 => ?_)
        ·
          refine cw_seq ?_
          refine cw_region ?_
          refine ow_val rfl rfl (ex_assign rfl) ?_
          refine ow_nil ?_
          refine qw_seq ?_
          refine cw_ret ?_
          refine qw_then_ret ?_
          refine qw_ret1 rfl rfl (fun w' h => ⟨congrArg (fun z => Ending.returned (.int .i64 z)) ?_, h.ag.below⟩)
          simp at c16 c19
          rw [cmpI_p (by omega)]
        ·
          refine cw_skip ?_
          refine qw_seq ?_
          refine cw_seq ?_
          refine cw_region ?_
          refine ow_val rfl rfl (ex_assign rfl) ?_
          refine ow_nil ?_
          refine qw_seq ?_
          refine cw_ret ?_
          refine qw_ret1 rfl rfl (fun w' h => ⟨congrArg (fun z => Ending.returned (.int .i64 z)) ?_, h.ag.below⟩)
          simp at c16 c19
          rw [cmpI_0 (by omega)]
set_option maxHeartbeats 400000 in
theorem pComp2 {m n : Int} {w : World} : Calls Tryd.prog 76 #[.int .i64 m, .int .i64 n] w fun e w' => e = .returned (.int .i64 (cmpI m n)) ∧ Below w.heap.size w w' := by
  refine enter (St w (fun _ => False) (fun _ => none) [] []) Tryd.func76 rfl Tryd.ntmps76 rfl (St.start (fun _ _ h => by cases h)) ?_
  refine cw_seq ?_
  refine cw_region ?_
  refine ow_val rfl rfl (ex_assign rfl) ?_
  refine ow_nil ?_
  refine qw_seq ?_
  refine cw_seq ?_
  refine cw_region ?_
  refine ow_val rfl rfl (ex_move rfl) ?_
  refine ow_cv rfl rfl (ex_callf rfl (fun w h => callB (pNan2))) ?_
  refine ow_val rfl rfl (ex_assign rfl) ?_
  refine ow_nil ?_
  refine qw_seq ?_
  refine cw_seq ?_
  refine cw_region ?_
  refine ow_val rfl rfl (ex_move rfl) ?_
  refine ow_cv rfl rfl (ex_callf rfl (fun w h => callB (pNan2))) ?_
  refine ow_val rfl rfl (ex_assign rfl) ?_
  refine ow_nil ?_
  refine qw_seq ?_
  refine cw_seq ?_
  refine cw_seq ?_
  refine cw_region ?_
  refine ow_val rfl rfl (ex_move rfl) ?_
  refine ow_nil ?_
  refine qw_seq ?_
  refine cw_cond rfl (fun c11 => ?_) (fun c11 => ?_)
  ·
    exact absurd c11 (by simp)
  ·
    refine cw_skip ?_
    refine qw_seq ?_
    refine cw_seq ?_
    refine cw_seq ?_
    refine cw_region ?_
    refine ow_val rfl rfl (ex_move rfl) ?_
    refine ow_nil ?_
    refine qw_seq ?_
    refine cw_cond rfl (fun c13 => ?_) (fun c13 => ?_)
    ·
      exact absurd c13 (by simp)
    ·
      refine cw_skip ?_
      refine qw_seq ?_
      refine cw_seq ?_
      refine cw_seq ?_
      refine cw_region ?_
      refine ow_val rfl rfl (ex_move rfl) ?_
      refine ow_val rfl rfl (ex_move rfl) ?_
      refine ow_val rfl rfl (ex_lss rfl rfl) ?_
      refine ow_nil ?_
      refine qw_seq ?_
      refine cw_cond rfl (fun c16 => ?_) (fun c16 => ?_)
      ·
        refine cw_seq ?_
        refine cw_region ?_
        refine ow_val rfl rfl (ex_assign rfl) ?_
        refine ow_nil ?_
        refine qw_seq ?_
        refine cw_ret ?_
        refine qw_then_ret ?_
        refine qw_ret1 rfl rfl (fun w' h => ⟨congrArg (fun z => Ending.returned (.int .i64 z)) ?_, h.ag.below⟩)
        simp at c16
        rw [cmpI_m (by omega)]
      ·
        refine cw_skip ?_
        refine qw_seq ?_
        refine cw_seq ?_
        refine cw_seq ?_
        refine cw_region ?_
        refine ow_val rfl rfl (ex_move rfl) ?_
        refine ow_val rfl rfl (ex_move rfl) ?_
        refine ow_val rfl rfl (ex_gtr rfl rfl) ?_
        refine ow_nil ?_
        refine qw_seq ?_
        refine cw_cond rfl (fun c19 => ?_) (fun c19 => ?_)
        ·
          refine cw_seq ?_
          refine cw_region ?_
          refine ow_val rfl rfl (ex_assign rfl) ?_
          refine ow_nil ?_
          refine qw_seq ?_
          refine cw_ret ?_
          refine qw_then_ret ?_
          refine qw_ret1 rfl rfl (fun w' h => ⟨congrArg (fun z => Ending.returned (.int .i64 z)) ?_, h.ag.below⟩)
          simp at c16 c19
          rw [cmpI_p (by omega)]
        ·
          refine cw_skip ?_
          refine qw_seq ?_
          refine cw_seq ?_
          refine cw_region ?_
          refine ow_val rfl rfl (ex_assign rfl) ?_
          refine ow_nil ?_
          refine qw_seq ?_
          refine cw_ret ?_
          refine qw_ret1 rfl rfl (fun w' h => ⟨congrArg (fun z => Ending.returned (.int .i64 z)) ?_, h.ag.below⟩)
          simp at c16 c19
          rw [cmpI_0 (by omega)]
set_option maxHeartbeats 400000 in
theorem pSize : ∀ (t : T) {σ : Hp} {cs : List Value} {w : World}, Imm σ w → TermC σ cs t → size t ≤ maxKids → Calls Tryd.prog 47 #[.agg cs.toArray] w fun e w' => e = .returned (.int .i64 (size t : Int)) ∧ Below w.heap.size w w' := by
  intro t
  induction t using T.ind with
  | _ o n d ks ih =>
  intro σ cs w hi ht hsz
  obtain ⟨dv, kv, rfl, ho, hn, hd, hk⟩ := ht.opn
  simp only [T.kids, T.op, T.num] at *
  obtain ⟨p, c, rfl, hc, hm⟩ := hk.slice
  unfold maxKids at hsz
  simp only [size] at hsz ⊢
  have hm2 := hm
  unfold maxKids at hm2
  refine enter (St w (fun _ => False) σ [] []) Tryd.func47 rfl Tryd.ntmps47 rfl (St.start hi) ?_
  refine cw_seq ?_
  refine cw_region ?_
  refine ow_blk rfl rfl (exw_box rfl) ?_; intro b1
  refine ow_val rfl rfl (ex_assign rfl) ?_
  refine ow_nil ?_
  refine qw_seq ?_
  refine cw_seq ?_
  refine cw_region ?_
  refine ow_val rfl rfl (ex_assign rfl) ?_
  refine ow_nil ?_
  refine qw_seq ?_
  refine cw_seq ?_
  refine cw_seq ?_
  refine cw_region ?_
  refine ow_val rfl rfl (ex_field rfl) ?_
  refine ow_val rfl rfl (ex_load1 rfl (by first | exact ld_own1 0 rfl rfl | exact ld_own1 1 rfl rfl | exact ld_own1 2 rfl rfl | exact ld_own1 3 rfl rfl | exact ld_own1 4 rfl rfl | exact ld_own1 5 rfl rfl | exact ld_own1 6 rfl rfl | exact ld_own1 7 rfl rfl | exact ld_ownG1 0 rfl rfl | exact ld_ownG1 1 rfl rfl | exact ld_imm1 (by assumption))) ?_
  refine ow_val rfl rfl (ex_len (ty := 0) rfl) ?_
  refine ow_val rfl rfl (ex_move rfl) ?_
  refine ow_nil ?_
  refine qw_seq ?_
  refine cw_block ?_
  refine cw_loopS (α := Nat) (fun i => [(3, .int .i64 ((sizes (ks.take i) + 1 : Nat) : Int)), (7, .slice p ks.length c), (8, .int .i64 (ks.length : Int)), (9, .int .i64 (i : Int))]) (fun i => i ≤ ks.length) (fun i => ks.length - i) 0 (subL_cons (lkv rfl (by first | rfl | simp)) (subL_cons (lkv rfl (by first | rfl | simp)) (subL_cons (lkv rfl (by first | rfl | simp)) (subL_cons (lkv rfl (by first | rfl | simp)) (subL_nil _))))) (Nat.zero_le _) ?_
  intro i hle
  refine cw_seq ?_
  refine cw_region ?_
  refine ow_val rfl rfl (ex_lss rfl rfl) ?_
  refine ow_nil ?_
  refine qw_seq ?_
  refine cw_seq ?_
  refine cw_cond rfl (fun c10 => ?_) (fun c10 => ?_)
  ·
    refine cw_skip ?_
    refine qw_seq ?_
    refine cw_seq ?_
    refine cw_block ?_
    refine cw_seq ?_
    have hlt : i < ks.length := by simpa using c10
    obtain ⟨bk, f, c', cs, e1, e2, hc1, ht1⟩ := hk.get i hlt
    cases e1
    have hst := sizes_take ks i hlt
    have hsl := sizes_take_le ks (i + 1)
    have ht1' := ht1
    obtain ⟨dv1, kv1, rfl, _, _, _, _⟩ := ht1'.opn
    refine cw_region ?_
    refine ow_val rfl rfl (ex_index_nat rfl rfl (by omega)) ?_
    refine ow_val rfl rfl (ex_loadR rfl (by first | exact ld_ownN 0 rfl rfl | exact ld_ownN 1 rfl rfl | exact ld_ownN 2 rfl rfl | exact ld_ownN 3 rfl rfl | exact ld_ownN 4 rfl rfl | exact ld_ownN 5 rfl rfl | exact ld_ownN 6 rfl rfl | exact ld_ownN 7 rfl rfl | exact ld_ownGN 0 rfl rfl | exact ld_ownGN 1 rfl rfl | exact ld_immT (by assumption) (by assumption))) ?_
    refine ow_blk rfl rfl exw_alloc ?_; intro b5
    refine ow_u rfl (exu_storeN 0 rfl rfl rfl rfl ht1.one rfl) ?_
    refine ow_nil ?_
    refine qw_seq ?_
    refine cw_region ?_
    refine ow_val rfl rfl (ex_move rfl) ?_
    refine ow_val rfl rfl (ex_loadR rfl (by first | exact ld_ownN 0 rfl rfl | exact ld_ownN 1 rfl rfl | exact ld_ownN 2 rfl rfl | exact ld_ownN 3 rfl rfl | exact ld_ownN 4 rfl rfl | exact ld_ownN 5 rfl rfl | exact ld_ownN 6 rfl rfl | exact ld_ownN 7 rfl rfl | exact ld_ownGN 0 rfl rfl | exact ld_ownGN 1 rfl rfl | exact ld_immT (by assumption) (by assumption))) ?_
    refine ow_cv rfl rfl (ex_callf rfl (fun w h => callB ((ih _ (List.getElem_mem hlt) h.im ht1 (by have := size_kid (List.getElem_mem hlt); unfold maxKids; omega))))) ?_
    refine ow_val rfl rfl (ex_addi (z := ((sizes (ks.take (i + 1)) + 1 : Nat) : Int)) rfl rfl (by omega) (by omega) (by omega)) ?_
    refine ow_val rfl rfl (ex_assign rfl) ?_
    refine ow_nil ?_
    refine qw_block_normal ?_
    refine qw_seq ?_
    refine cw_region ?_
    refine ow_val rfl rfl (ex_addi (z := ((i + 1 : Nat) : Int)) rfl rfl (by omega) (by omega) (by omega)) ?_
    refine ow_val rfl rfl (ex_move rfl) ?_
    refine ow_nil ?_
    exact qw_roundS (i + 1) (by omega) (subL_cons (lkv rfl (by first | rfl | simp)) (subL_cons (lkv rfl (by first | rfl | simp)) (subL_cons (lkv rfl (by first | rfl | simp)) (subL_cons (lkv rfl (by first | rfl | simp)) (subL_nil _))))) (by omega) (fun w h => h.drop (List.sublist_cons_self _ _))
  ·
    refine cw_exit ?_
    refine qw_then_exit ?_
    refine qw_then_exit ?_
    refine qw_block_exit ?_
    refine qw_seq ?_
    refine cw_seq ?_
    refine cw_region ?_
    refine ow_val rfl rfl (ex_move rfl) ?_
    refine ow_val rfl rfl (ex_assign rfl) ?_
    refine ow_nil ?_
    refine qw_seq ?_
    refine cw_ret ?_
    refine qw_ret1 rfl rfl (fun w' h => ⟨?_, h.ag.below⟩)
    have he : i = ks.length := by simp at c10; omega
    rw [he, List.take_length]
set_option maxHeartbeats 400000 in
theorem pBytes {a b : List UInt8} {σ : Hp} {va vb : Value} {w : World} (hi : Imm σ w) (ha : BytesV σ va a) (hb : BytesV σ vb b) : Calls Tryd.prog 77 #[va, vb] w fun e w' => e = .returned (.int .i64 (cmpB a b)) ∧ Below w.heap.size w w' := by
  refine enter (St w (fun _ => False) σ [] []) Tryd.func77 rfl Tryd.ntmps77 rfl (St.start hi) ?_
  refine cw_seq ?_
  refine cw_region ?_
  refine ow_val rfl rfl (ex_assign rfl) ?_
  refine ow_nil ?_
  refine qw_seq ?_
  refine cw_seq ?_
  refine cw_region ?_
  refine ow_val rfl rfl (ex_move rfl) ?_
  refine ow_val rfl rfl (ex_move rfl) ?_
  refine ow_val rfl rfl (ex_bytescmp rfl rfl ha hb) ?_
  refine ow_val rfl rfl (ex_assign rfl) ?_
  refine ow_nil ?_
  refine qw_seq ?_
  refine cw_ret ?_
  refine qw_ret1 rfl rfl (fun w' h => ⟨rfl, h.ag.below⟩)
set_option maxHeartbeats 400000 in
theorem pOr {b : Nat} {zs : List Int} {σ : Hp} {w : World} (hi : Imm σ w) (hc : CellsAt σ b 0 (intsV zs)) (hl : zs.length < 1000) : Calls Tryd.prog 74 #[.slice (some ⟨b, 0, none⟩) zs.length zs.length] w fun e w' => e = .returned (.int .i64 (firstNZ zs)) ∧ Below w.heap.size w w' := by
  refine enter (St w (fun _ => False) σ [] []) Tryd.func74 rfl Tryd.ntmps74 rfl (St.start hi) ?_
  refine cw_seq ?_
  refine cw_region ?_
  refine ow_val rfl rfl (ex_assign rfl) ?_
  refine ow_nil ?_
  refine qw_seq ?_
  refine cw_seq ?_
  refine cw_region ?_
  refine ow_val rfl rfl (ex_assign rfl) ?_
  refine ow_nil ?_
  refine qw_seq ?_
  refine cw_seq ?_
  refine cw_seq ?_
  refine cw_region ?_
  refine ow_val rfl rfl (ex_move rfl) ?_
  refine ow_val rfl rfl (ex_len (ty := 0) rfl) ?_
  refine ow_val rfl rfl (ex_move rfl) ?_
  refine ow_nil ?_
  refine qw_seq ?_
  refine cw_block ?_
  refine cw_loopS (α := Nat) (fun i => [(3, .int .i64 0), (6, .slice (some ⟨b, 0, none⟩) zs.length zs.length), (7, .int .i64 (zs.length : Int)), (8, .int .i64 (i : Int))]) (fun i => i ≤ zs.length ∧ ∀ j (h : j < zs.length), j < i → zs[j] = 0) (fun i => zs.length - i) 0 (subL_cons (lkv rfl (by first | rfl | simp)) (subL_cons (lkv rfl (by first | rfl | simp)) (subL_cons (lkv rfl (by first | rfl | simp)) (subL_cons (lkv rfl (by first | rfl | simp)) (subL_nil _))))) ⟨Nat.zero_le _, fun j _ h => absurd h (Nat.not_lt_zero _)⟩ ?_
  intro i ⟨hle, hz⟩
  refine cw_seq ?_
  refine cw_region ?_
  refine ow_val rfl rfl (ex_lss rfl rfl) ?_
  refine ow_nil ?_
  refine qw_seq ?_
  refine cw_seq ?_
  refine cw_cond rfl (fun c9 => ?_) (fun c9 => ?_)
  ·
    refine cw_skip ?_
    refine qw_seq ?_
    refine cw_seq ?_
    refine cw_block ?_
    refine cw_seq ?_
    have hlt : i < zs.length := by simpa using c9
    refine cw_region ?_
    refine ow_val rfl rfl (ex_index_nat rfl rfl (by omega)) ?_
    refine ow_val rfl rfl (ex_load1 rfl (fun w h => by have := hc.range h.im i _ (intsV_get hlt); simpa using this)) ?_
    refine ow_val rfl rfl (ex_assign rfl) ?_
    refine ow_nil ?_
    refine qw_seq ?_
    refine cw_seq ?_
    refine cw_region ?_
    refine ow_val rfl rfl (ex_move rfl) ?_
    refine ow_val rfl rfl (ex_move rfl) ?_
    refine ow_val rfl rfl (ex_neq rfl rfl) ?_
    refine ow_nil ?_
    refine qw_seq ?_
    refine cw_cond rfl (fun c14 => ?_) (fun c14 => ?_)
    ·
      refine cw_seq ?_
      refine cw_region ?_
      refine ow_val rfl rfl (ex_move rfl) ?_
      refine ow_val rfl rfl (ex_assign rfl) ?_
      refine ow_nil ?_
      refine qw_seq ?_
      refine cw_ret ?_
      refine qw_block_ret ?_
      refine qw_then_ret ?_
      refine qw_then_ret ?_
      refine qw_block_ret ?_
      refine qw_then_ret ?_
      refine qw_ret1 rfl rfl (fun w' h => ⟨congrArg (fun z => Ending.returned (.int .i64 z)) ?_, h.ag.below⟩)
      simp only [ne_eq, decide_eq_true_eq] at c14
      rw [firstNZ_take hz, List.drop_eq_getElem_cons hlt, firstNZ, if_neg c14]
    ·
      refine cw_skip ?_
      refine qw_block_normal ?_
      refine qw_seq ?_
      refine cw_region ?_
      refine ow_val rfl rfl (ex_addi (z := ((i + 1 : Nat) : Int)) rfl rfl (by omega) (by omega) (by omega)) ?_
      refine ow_val rfl rfl (ex_move rfl) ?_
      refine ow_nil ?_
      exact qw_roundS (i + 1) (by omega) (subL_cons (lkv rfl (by first | rfl | simp)) (subL_cons (lkv rfl (by first | rfl | simp)) (subL_cons (lkv rfl (by first | rfl | simp)) (subL_cons (lkv rfl (by first | rfl | simp)) (subL_nil _))))) ⟨by omega, fun j h hj => by
        by_cases e : j = i
        · subst e; simpa using c14
        · exact hz j h (by omega)⟩
  ·
    refine cw_exit ?_
    refine qw_then_exit ?_
    refine qw_then_exit ?_
    refine qw_block_exit ?_
    refine qw_seq ?_
    refine cw_seq ?_
    refine cw_region ?_
    refine ow_val rfl rfl (ex_move rfl) ?_
    refine ow_val rfl rfl (ex_assign rfl) ?_
    refine ow_nil ?_
    refine qw_seq ?_
    refine cw_ret ?_
    refine qw_ret1 rfl rfl (fun w' h => ⟨congrArg (fun z => Ending.returned (.int .i64 z)) ?_, h.ag.below⟩)
    have he : i = zs.length := by simp at c9; omega
    rw [firstNZ_take hz, he, List.drop_length, firstNZ]
set_option maxHeartbeats 400000 in
theorem pIndex {b : Nat} {zs : List Int} {o : Int} {σ : Hp} {w : World} (hi : Imm σ w) (hc : CellsAt σ b 0 (intsV zs)) (hl : zs.length < 1000) : Calls Tryd.prog 122 #[.slice (some ⟨b, 0, none⟩) zs.length zs.length, .int .i64 o] w fun e w' => e = .returned (.int .i64 (idxI zs o)) ∧ Below w.heap.size w w' := by
  refine enter (St w (fun _ => False) σ [] []) Tryd.func122 rfl Tryd.ntmps122 rfl (St.start hi) ?_
  refine cw_seq ?_
  refine cw_region ?_
  refine ow_val rfl rfl (ex_assign rfl) ?_
  refine ow_nil ?_
  refine qw_seq ?_
  refine cw_seq ?_
  refine cw_seq ?_
  refine cw_region ?_
  refine ow_val rfl rfl (ex_move rfl) ?_
  refine ow_val rfl rfl (ex_len (ty := 0) rfl) ?_
  refine ow_val rfl rfl (ex_move rfl) ?_
  refine ow_nil ?_
  refine qw_seq ?_
  refine cw_block ?_
  refine cw_loopS (α := Nat) (fun i => [(0, .slice (some ⟨b, 0, none⟩) zs.length zs.length), (1, .int .i64 o), (7, .int .i64 (zs.length : Int)), (8, .int .i64 (i : Int))]) (fun i => i ≤ zs.length ∧ ∀ j (h : j < zs.length), j < i → zs[j] ≠ o) (fun i => zs.length - i) 0 (subL_cons (lkv rfl (by first | rfl | simp)) (subL_cons (lkv rfl (by first | rfl | simp)) (subL_cons (lkv rfl (by first | rfl | simp)) (subL_cons (lkv rfl (by first | rfl | simp)) (subL_nil _))))) ⟨Nat.zero_le _, fun j _ h => absurd h (Nat.not_lt_zero _)⟩ ?_
  intro i ⟨hle, hz⟩
  refine cw_seq ?_
  refine cw_region ?_
  refine ow_val rfl rfl (ex_lss rfl rfl) ?_
  refine ow_nil ?_
  refine qw_seq ?_
  refine cw_seq ?_
  refine cw_cond rfl (fun c9 => ?_) (fun c9 => ?_)
  ·
    refine cw_skip ?_
    refine qw_seq ?_
    refine cw_seq ?_
    refine cw_block ?_
    refine cw_seq ?_
    refine cw_region ?_
    refine ow_val rfl rfl (ex_move rfl) ?_
    refine ow_val rfl rfl (ex_assign rfl) ?_
    refine ow_nil ?_
    refine qw_seq ?_
    refine cw_seq ?_
    have hlt : i < zs.length := by simpa using c9
    refine cw_region ?_
    refine ow_val rfl rfl (ex_move rfl) ?_
    refine ow_val rfl rfl (ex_move rfl) ?_
    refine ow_val rfl rfl (ex_move rfl) ?_
    refine ow_val rfl rfl (ex_index_nat rfl rfl (by omega)) ?_
    refine ow_val rfl rfl (ex_load1 rfl (fun w h => by have := hc.range h.im i _ (intsV_get hlt); simpa using this)) ?_
    refine ow_val rfl rfl (ex_eql rfl rfl) ?_
    refine ow_nil ?_
    refine qw_seq ?_
    refine cw_cond rfl (fun c16 => ?_) (fun c16 => ?_)
    ·
      refine cw_seq ?_
      refine cw_region ?_
      refine ow_val rfl rfl (ex_move rfl) ?_
      refine ow_val rfl rfl (ex_assign rfl) ?_
      refine ow_nil ?_
      refine qw_seq ?_
      refine cw_ret ?_
      refine qw_block_ret ?_
      refine qw_then_ret ?_
      refine qw_then_ret ?_
      refine qw_block_ret ?_
      refine qw_then_ret ?_
      refine qw_ret1 rfl rfl (fun w' h => ⟨congrArg (fun z => Ending.returned (.int .i64 z)) ?_, h.ag.below⟩)
      simp at c16
      rw [idxI_at hlt c16.symm hz]
    ·
      refine cw_skip ?_
      refine qw_block_normal ?_
      refine qw_seq ?_
      refine cw_region ?_
      refine ow_val rfl rfl (ex_addi (z := ((i + 1 : Nat) : Int)) rfl rfl (by omega) (by omega) (by omega)) ?_
      refine ow_val rfl rfl (ex_move rfl) ?_
      refine ow_nil ?_
      exact qw_roundS (i + 1) (by omega) (subL_cons (lkv rfl (by first | rfl | simp)) (subL_cons (lkv rfl (by first | rfl | simp)) (subL_cons (lkv rfl (by first | rfl | simp)) (subL_cons (lkv rfl (by first | rfl | simp)) (subL_nil _))))) ⟨by omega, fun j h hj => by
        by_cases e : j = i
        · subst e; simp at c16; exact fun h => c16 h.symm
        · exact hz j h (by omega)⟩
  ·
    refine cw_exit ?_
    refine qw_then_exit ?_
    refine qw_then_exit ?_
    refine qw_block_exit ?_
    refine qw_seq ?_
    refine cw_seq ?_
    refine cw_region ?_
    refine ow_val rfl rfl (ex_assign rfl) ?_
    refine ow_nil ?_
    refine qw_seq ?_
    refine cw_ret ?_
    refine qw_ret1 rfl rfl (fun w' h => ⟨congrArg (fun z => Ending.returned (.int .i64 z)) ?_, h.ag.below⟩)
    have he : i = zs.length := by simp at c9; omega
    rw [idxI_none (fun j h => hz j h (by omega))]
set_option maxHeartbeats 400000 in
theorem pContains {b : Nat} {zs : List Int} {o : Int} {σ : Hp} {w : World} (hi : Imm σ w) (hc : CellsAt σ b 0 (intsV zs)) (hl : zs.length < 1000) : Calls Tryd.prog 107 #[.slice (some ⟨b, 0, none⟩) zs.length zs.length, .int .i64 o] w fun e w' => e = .returned (.bool (decide (o ∈ zs))) ∧ Below w.heap.size w w' := by
  refine enter (St w (fun _ => False) σ [] []) Tryd.func107 rfl Tryd.ntmps107 rfl (St.start hi) ?_
  refine cw_seq ?_
  refine cw_region ?_
  refine ow_val rfl rfl (ex_assign rfl) ?_
  refine ow_nil ?_
  refine qw_seq ?_
  refine cw_seq ?_
  refine cw_region ?_
  refine ow_val rfl rfl (ex_move rfl) ?_
  refine ow_val rfl rfl (ex_move rfl) ?_
  refine ow_cv rfl rfl (ex_callf rfl (fun w h => callB ((pIndex h.im hc hl)))) ?_
  refine ow_val rfl rfl (ex_geq rfl rfl) ?_
  refine ow_val rfl rfl (ex_assign rfl) ?_
  refine ow_nil ?_
  refine qw_seq ?_
  refine cw_ret ?_
  refine qw_ret1 rfl rfl (fun w' h => ⟨congrArg (fun z => Ending.returned (.bool z)) ?_, h.ag.below⟩)
  rw [decide_eq_decide]
  exact idxI_mem
set_option maxHeartbeats 400000 in
theorem pAmong {b : Nat} {zs : List Int} {o : Int} {σ : Hp} {w : World} (hi : Imm σ w) (hc : CellsAt σ b 0 (intsV zs)) (hl : zs.length < 1000) : Calls Tryd.prog 85 #[.int .i64 o, .slice (some ⟨b, 0, none⟩) zs.length zs.length] w fun e w' => e = .returned (.bool (decide (o ∈ zs))) ∧ Below w.heap.size w w' := by
  refine enter (St w (fun _ => False) σ [] []) Tryd.func85 rfl Tryd.ntmps85 rfl (St.start hi) ?_
  refine cw_seq ?_
  refine cw_region ?_
  refine ow_val rfl rfl (ex_assign rfl) ?_
  refine ow_nil ?_
  refine qw_seq ?_
  refine cw_seq ?_
  refine cw_region ?_
  refine ow_val rfl rfl (ex_move rfl) ?_
  refine ow_val rfl rfl (ex_move rfl) ?_
  refine ow_cv rfl rfl (ex_callf rfl (fun w h => callB ((pContains h.im hc hl)))) ?_
  refine ow_val rfl rfl (ex_assign rfl) ?_
  refine ow_nil ?_
  refine qw_seq ?_
  refine cw_ret ?_
  refine qw_ret1 rfl rfl (fun w' h => ⟨rfl, h.ag.below⟩)
end Go.Proofs.YtnjomdjkbbhdoaaDoor
namespace Go.Proofs.YtnjomdjkbbhdoaaDoor
open Go.RowKit
set_option linter.unusedVariables false
set_option linter.unusedSimpArgs false
set_option maxRecDepth 100000
set_option maxHeartbeats 400000 in
theorem pCompareFunc {ks ls : List T} (ih : ∀ k, k ∈ ks → ∀ (u : T) {σ : Hp} {ca cb : List Value} {w : World}, Imm σ w → TermC σ ca k → TermC σ cb u → Calls Tryd.prog 57 #[.agg ca.toArray, .agg cb.toArray] w fun e w' => e = .returned (.int .i64 (ord k u)) ∧ Below w.heap.size w w') {σ : Hp} {va vb : Value} {w : World} (hi : Imm σ w) (ha : KidsV σ va ks) (hb : KidsV σ vb ls) : Calls Tryd.prog 78 #[va, vb, .func (.func 57) #[] #[]] w fun e w' => e = .returned (.int .i64 (ords ks ls)) ∧ Below w.heap.size w w' := by
  obtain ⟨p, c, rfl, hc, hm⟩ := ha.slice
  obtain ⟨p', c', rfl, hc', hm'⟩ := hb.slice
  have hm2 := hm
  unfold maxKids at hm2
  have hm2' := hm'
  unfold maxKids at hm2'
  refine enter (St w (fun _ => False) σ [] []) Tryd.func78 rfl Tryd.ntmps78 rfl (St.start hi) ?_
  refine cw_seq ?_
  refine cw_region ?_
  refine ow_val rfl rfl (ex_assign rfl) ?_
  refine ow_nil ?_
  refine qw_seq ?_
  refine cw_seq ?_
  refine cw_seq ?_
  refine cw_region ?_
  refine ow_val rfl rfl (ex_move rfl) ?_
  refine ow_val rfl rfl (ex_len (ty := 0) rfl) ?_
  refine ow_val rfl rfl (ex_move rfl) ?_
  refine ow_nil ?_
  refine qw_seq ?_
  refine cw_block ?_
  refine cw_loopS (α := Nat) (fun i => [(0, .slice p ks.length c), (1, .slice p' ls.length c'), (2, .func (.func 57) #[] #[]), (11, .slice p ks.length c), (12, .int .i64 (ks.length : Int)), (13, .int .i64 (i : Int))]) (fun i => i ≤ ks.length ∧ i ≤ ls.length ∧ ords ks ls = ords (ks.drop i) (ls.drop i)) (fun i => ks.length - i) 0 (subL_cons (lkv rfl (by first | rfl | simp)) (subL_cons (lkv rfl (by first | rfl | simp)) (subL_cons (lkv rfl (by first | rfl | simp)) (subL_cons (lkv rfl (by first | rfl | simp)) (subL_cons (lkv rfl (by first | rfl | simp)) (subL_cons (lkv rfl (by first | rfl | simp)) (subL_nil _))))))) ⟨Nat.zero_le _, Nat.zero_le _, by simp⟩ ?_
  intro i ⟨hle, hle', hords⟩
  refine cw_seq ?_
  refine cw_region ?_
  refine ow_val rfl rfl (ex_lss rfl rfl) ?_
  refine ow_nil ?_
  refine qw_seq ?_
  refine cw_seq ?_
  refine cw_cond rfl (fun c14 => ?_) (fun c14 => ?_)
  ·
    refine cw_skip ?_
    refine qw_seq ?_
    refine cw_seq ?_
    refine cw_block ?_
    refine cw_seq ?_
    have hlt : i < ks.length := by simpa using c14
    obtain ⟨bk, f, ck, cs, e1, e2, hc1, ht1⟩ := ha.get i hlt
    cases e1
    have ht1' := ht1
    obtain ⟨dv1, kv1, rfl, _, _, _, _⟩ := ht1'.opn
    refine cw_region ?_
    refine ow_val rfl rfl (ex_move rfl) ?_
    refine ow_val rfl rfl (ex_index_nat rfl rfl (by omega)) ?_
    refine ow_val rfl rfl (ex_loadR rfl (by first | exact ld_ownN 0 rfl rfl | exact ld_ownN 1 rfl rfl | exact ld_ownN 2 rfl rfl | exact ld_ownN 3 rfl rfl | exact ld_ownN 4 rfl rfl | exact ld_ownN 5 rfl rfl | exact ld_ownN 6 rfl rfl | exact ld_ownN 7 rfl rfl | exact ld_ownGN 0 rfl rfl | exact ld_ownGN 1 rfl rfl | exact ld_immT (by assumption) (by assumption))) ?_
    refine ow_blk rfl rfl exw_alloc ?_; intro b8
    refine ow_val rfl rfl (ex_assign rfl) ?_
    refine ow_u rfl (exu_storeN 0 rfl rfl rfl rfl ht1.one rfl) ?_
    refine ow_nil ?_
    refine qw_seq ?_
    refine cw_seq ?_
    refine cw_seq ?_
    refine cw_region ?_
    refine ow_val rfl rfl (ex_move rfl) ?_
    refine ow_val rfl rfl (ex_move rfl) ?_
    refine ow_val rfl rfl (ex_len (ty := 0) rfl) ?_
    refine ow_val rfl rfl (ex_geq rfl rfl) ?_
    refine ow_nil ?_
    refine qw_seq ?_
    refine cw_cond rfl (fun c21 => ?_) (fun c21 => ?_)
    ·
      refine cw_seq ?_
      refine cw_region ?_
      refine ow_val rfl rfl (ex_assign rfl) ?_
      refine ow_nil ?_
      refine qw_seq ?_
      refine cw_ret ?_
      refine qw_then_ret ?_
      refine qw_block_ret ?_
      refine qw_then_ret ?_
      refine qw_then_ret ?_
      refine qw_block_ret ?_
      refine qw_then_ret ?_
      refine qw_ret1 rfl rfl (fun w' h => ⟨congrArg (fun z => Ending.returned (.int .i64 z)) ?_, h.ag.below⟩)
      simp at c21
      rw [hords, ords_long hlt (by omega)]
    ·
      refine cw_skip ?_
      refine qw_seq ?_
      refine cw_seq ?_
      have hlt' : i < ls.length := by simp at c21; omega
      obtain ⟨bk2, f2, ck2, cs2, e1', e2', hc2, ht2⟩ := hb.get i hlt'
      cases e1'
      have ht2' := ht2
      obtain ⟨dv2, kv2, rfl, _, _, _, _⟩ := ht2'.opn
      refine cw_region ?_
      refine ow_val rfl rfl (ex_move rfl) ?_
      refine ow_val rfl rfl (ex_move rfl) ?_
      refine ow_val rfl rfl (ex_index_nat rfl rfl (by omega)) ?_
      refine ow_val rfl rfl (ex_loadR rfl (by first | exact ld_ownN 0 rfl rfl | exact ld_ownN 1 rfl rfl | exact ld_ownN 2 rfl rfl | exact ld_ownN 3 rfl rfl | exact ld_ownN 4 rfl rfl | exact ld_ownN 5 rfl rfl | exact ld_ownN 6 rfl rfl | exact ld_ownN 7 rfl rfl | exact ld_ownGN 0 rfl rfl | exact ld_ownGN 1 rfl rfl | exact ld_immT (by assumption) (by assumption))) ?_
      refine ow_blk rfl rfl exw_alloc ?_; intro b9
      refine ow_u rfl (exu_storeN 0 rfl rfl rfl rfl ht2.one rfl) ?_
      refine ow_nil ?_
      refine qw_seq ?_
      refine cw_seq ?_
      refine cw_region ?_
      refine ow_val rfl rfl (ex_move rfl) ?_
      refine ow_val rfl rfl (ex_loadR rfl (by first | exact ld_ownN 0 rfl rfl | exact ld_ownN 1 rfl rfl | exact ld_ownN 2 rfl rfl | exact ld_ownN 3 rfl rfl | exact ld_ownN 4 rfl rfl | exact ld_ownN 5 rfl rfl | exact ld_ownN 6 rfl rfl | exact ld_ownN 7 rfl rfl | exact ld_ownGN 0 rfl rfl | exact ld_ownGN 1 rfl rfl | exact ld_immT (by assumption) (by assumption))) ?_
      refine ow_val rfl rfl (ex_loadR rfl (by first | exact ld_ownN 0 rfl rfl | exact ld_ownN 1 rfl rfl | exact ld_ownN 2 rfl rfl | exact ld_ownN 3 rfl rfl | exact ld_ownN 4 rfl rfl | exact ld_ownN 5 rfl rfl | exact ld_ownN 6 rfl rfl | exact ld_ownN 7 rfl rfl | exact ld_ownGN 0 rfl rfl | exact ld_ownGN 1 rfl rfl | exact ld_immT (by assumption) (by assumption))) ?_
      refine ow_cv rfl rfl (ex_call (cs := []) rfl rfl (fun w h => callB ((ih _ (List.getElem_mem hlt) _ h.im ht1 ht2)))) ?_
      refine ow_val rfl rfl (ex_assign rfl) ?_
      refine ow_nil ?_
      refine qw_seq ?_
      refine cw_seq ?_
      refine cw_region ?_
      refine ow_val rfl rfl (ex_move rfl) ?_
      refine ow_val rfl rfl (ex_neq rfl rfl) ?_
      refine ow_nil ?_
      refine qw_seq ?_
      refine cw_cond rfl (fun c31 => ?_) (fun c31 => ?_)
      ·
        refine cw_seq ?_
        refine cw_region ?_
        refine ow_val rfl rfl (ex_move rfl) ?_
        refine ow_val rfl rfl (ex_assign rfl) ?_
        refine ow_nil ?_
        refine qw_seq ?_
        refine cw_ret ?_
        refine qw_block_ret ?_
        refine qw_then_ret ?_
        refine qw_then_ret ?_
        refine qw_block_ret ?_
        refine qw_then_ret ?_
        refine qw_ret1 rfl rfl (fun w' h => ⟨congrArg (fun z => Ending.returned (.int .i64 z)) ?_, h.ag.below⟩)
        simp at c31
        rw [hords, ords_step hlt hlt', lex_ne c31]
      ·
        refine cw_skip ?_
        refine qw_block_normal ?_
        refine qw_seq ?_
        refine cw_region ?_
        refine ow_val rfl rfl (ex_addi (z := ((i + 1 : Nat) : Int)) rfl rfl (by omega) (by omega) (by omega)) ?_
        refine ow_val rfl rfl (ex_move rfl) ?_
        refine ow_nil ?_
        exact qw_roundS (i + 1) (by omega) (subL_cons (lkv rfl (by first | rfl | simp)) (subL_cons (lkv rfl (by first | rfl | simp)) (subL_cons (lkv rfl (by first | rfl | simp)) (subL_cons (lkv rfl (by first | rfl | simp)) (subL_cons (lkv rfl (by first | rfl | simp)) (subL_cons (lkv rfl (by first | rfl | simp)) (subL_nil _))))))) ⟨by omega, by omega, by rw [hords, ords_step hlt hlt', lex_of0 (by simpa using c31)]⟩ (fun w h => h.drop ((List.sublist_cons_self _ _).trans (List.sublist_cons_self _ _)))
  ·
    refine cw_exit ?_
    refine qw_then_exit ?_
    refine qw_then_exit ?_
    refine qw_block_exit ?_
    refine qw_seq ?_
    refine cw_seq ?_
    refine cw_seq ?_
    refine cw_region ?_
    refine ow_val rfl rfl (ex_move rfl) ?_
    refine ow_val rfl rfl (ex_len (ty := 0) rfl) ?_
    refine ow_val rfl rfl (ex_move rfl) ?_
    refine ow_val rfl rfl (ex_len (ty := 0) rfl) ?_
    refine ow_val rfl rfl (ex_lss rfl rfl) ?_
    refine ow_nil ?_
    refine qw_seq ?_
    refine cw_cond rfl (fun c38 => ?_) (fun c38 => ?_)
    ·
      refine cw_seq ?_
      refine cw_region ?_
      refine ow_val rfl rfl (ex_assign rfl) ?_
      refine ow_nil ?_
      refine qw_seq ?_
      refine cw_ret ?_
      refine qw_then_ret ?_
      refine qw_ret1 rfl rfl (fun w' h => ⟨congrArg (fun z => Ending.returned (.int .i64 z)) ?_, h.ag.below⟩)
      simp at c14 c38
      rw [hords, ords_short (by omega) (by omega)]
    ·
      refine cw_skip ?_
      refine qw_seq ?_
      refine cw_seq ?_
      refine cw_region ?_
      refine ow_val rfl rfl (ex_assign rfl) ?_
      refine ow_nil ?_
      refine qw_seq ?_
      refine cw_ret ?_
      refine qw_ret1 rfl rfl (fun w' h => ⟨congrArg (fun z => Ending.returned (.int .i64 z)) ?_, h.ag.below⟩)
      simp at c14 c38
      rw [hords, ords_end (by omega) (by omega)]
set_option maxHeartbeats 400000 in
theorem pOrder : ∀ (t u : T) {σ : Hp} {ca cb : List Value} {w : World}, Imm σ w → TermC σ ca t → TermC σ cb u → Calls Tryd.prog 57 #[.agg ca.toArray, .agg cb.toArray] w fun e w' => e = .returned (.int .i64 (ord t u)) ∧ Below w.heap.size w w' := by
  intro t
  induction t using T.ind with
  | _ o n d ks ih =>
  intro u
  obtain ⟨o', n', d', ks'⟩ := u
  intro σ ca cb w hi ha hb
  obtain ⟨dv, kv, rfl, ho, hn, hd, hk⟩ := ha.opn
  obtain ⟨dv', kv', rfl, ho', hn', hd', hk'⟩ := hb.opn
  obtain ⟨p, c, rfl, hc, hm⟩ := hk.slice
  obtain ⟨p', c', rfl, hc', hm'⟩ := hk'.slice
  simp only [T.kids, T.op, T.num, T.data] at *
  rw [ord_mk]
  simp only [T.kids, T.op, T.num, T.data]
  refine enter (St w (fun _ => False) σ [] []) Tryd.func57 rfl Tryd.ntmps57 rfl (St.start hi) ?_
  refine cw_seq ?_
  refine cw_region ?_
  refine ow_blk rfl rfl (exw_box rfl) ?_; intro b2
  refine ow_blk rfl rfl (exw_box rfl) ?_; intro b3
  refine ow_val rfl rfl (ex_assign rfl) ?_
  refine ow_nil ?_
  refine qw_seq ?_
  refine cw_seq ?_
  refine cw_seq ?_
  refine flow_sound 18 (by kernel_rfl) ?_
  refine flow_val rfl (ex_field rfl) ?_
  refine flow_val rfl (ex_load1 rfl (by first | exact ld_own1 0 rfl rfl | exact ld_own1 1 rfl rfl | exact ld_own1 2 rfl rfl | exact ld_own1 3 rfl rfl | exact ld_own1 4 rfl rfl | exact ld_own1 5 rfl rfl | exact ld_own1 6 rfl rfl | exact ld_own1 7 rfl rfl | exact ld_ownG1 0 rfl rfl | exact ld_ownG1 1 rfl rfl | exact ld_imm1 (by assumption))) ?_
  refine flow_val rfl (ex_field rfl) ?_
  refine flow_val rfl (ex_load1 rfl (by first | exact ld_own1 0 rfl rfl | exact ld_own1 1 rfl rfl | exact ld_own1 2 rfl rfl | exact ld_own1 3 rfl rfl | exact ld_own1 4 rfl rfl | exact ld_own1 5 rfl rfl | exact ld_own1 6 rfl rfl | exact ld_own1 7 rfl rfl | exact ld_ownG1 0 rfl rfl | exact ld_ownG1 1 rfl rfl | exact ld_imm1 (by assumption))) ?_
  refine flow_cv rfl (ex_callf rfl (fun w h => callB ((pComp22)))) ?_
  refine flow_val rfl (ex_field rfl) ?_
  refine flow_val rfl (ex_load1 rfl (by first | exact ld_own1 0 rfl rfl | exact ld_own1 1 rfl rfl | exact ld_own1 2 rfl rfl | exact ld_own1 3 rfl rfl | exact ld_own1 4 rfl rfl | exact ld_own1 5 rfl rfl | exact ld_own1 6 rfl rfl | exact ld_own1 7 rfl rfl | exact ld_ownG1 0 rfl rfl | exact ld_ownG1 1 rfl rfl | exact ld_imm1 (by assumption))) ?_
  refine flow_val rfl (ex_field rfl) ?_
  refine flow_val rfl (ex_load1 rfl (by first | exact ld_own1 0 rfl rfl | exact ld_own1 1 rfl rfl | exact ld_own1 2 rfl rfl | exact ld_own1 3 rfl rfl | exact ld_own1 4 rfl rfl | exact ld_own1 5 rfl rfl | exact ld_own1 6 rfl rfl | exact ld_own1 7 rfl rfl | exact ld_ownG1 0 rfl rfl | exact ld_ownG1 1 rfl rfl | exact ld_imm1 (by assumption))) ?_
  refine flow_cv rfl (ex_callf rfl (fun w h => callB ((pComp2)))) ?_
  refine flow_val rfl (ex_field rfl) ?_
  refine flow_val rfl (ex_load1 rfl (by first | exact ld_own1 0 rfl rfl | exact ld_own1 1 rfl rfl | exact ld_own1 2 rfl rfl | exact ld_own1 3 rfl rfl | exact ld_own1 4 rfl rfl | exact ld_own1 5 rfl rfl | exact ld_own1 6 rfl rfl | exact ld_own1 7 rfl rfl | exact ld_ownG1 0 rfl rfl | exact ld_ownG1 1 rfl rfl | exact ld_imm1 (by assumption))) ?_
  refine flow_val rfl (ex_field rfl) ?_
  refine flow_val rfl (ex_load1 rfl (by first | exact ld_own1 0 rfl rfl | exact ld_own1 1 rfl rfl | exact ld_own1 2 rfl rfl | exact ld_own1 3 rfl rfl | exact ld_own1 4 rfl rfl | exact ld_own1 5 rfl rfl | exact ld_own1 6 rfl rfl | exact ld_own1 7 rfl rfl | exact ld_ownG1 0 rfl rfl | exact ld_ownG1 1 rfl rfl | exact ld_imm1 (by assumption))) ?_
  refine flow_cv rfl (ex_callf rfl (fun w h => callB ((pBytes h.im hd hd')))) ?_
  refine flow_sat (q := QR (RepCells 3 (intsV [cmpI o o', cmpI n n', cmpB d d'])) σ w ([(b3, .cells (Value.agg #[.int .i64 o', .int .i64 n', dv', .slice p' ks'.length c']).cells 30), (b2, .cells (Value.agg #[.int .i64 o, .int .i64 n, dv, .slice p ks.length c]).cells 30)] ++ [])) QR.pers (obk (ob_lit3 rfl rfl rfl rfl rfl rfl rfl)) ?_
  refine flow_is (v := .int .i64 (firstNZ [cmpI o o', cmpI n n', cmpB d d'])) (obk_sat 21 rfl (fun v21 => ob_open (fun τ' hl' hf' hr' => ?_))) ?_
  · obtain ⟨bo, rfl, hco⟩ := hr'
    exact ob_cv rfl (ex_callf rfl (fun w h => callB (pOr (zs := [cmpI o o', cmpI n n', cmpB d d']) h.im hco (by simp))))
  refine flow_val rfl (ex_assign rfl) ?_
  refine flow_nil ?_
  refine fin_is ?_
  refine fin_is ?_
  refine fin_drop ?_
  refine fin_is ?_
  refine fin_is ?_
  refine fin_is ?_
  refine fin_is ?_
  refine fin_is ?_
  refine fin_is ?_
  refine fin_is ?_
  refine fin_is ?_
  refine fin_is ?_
  refine fin_is ?_
  refine fin_is ?_
  refine fin_is ?_
  refine fin_is ?_
  refine fin_is ?_
  refine fin_is ?_
  refine fin_nil ?_
  refine ow_nil ?_
  refine qw_seq ?_
  refine cw_seq ?_
  refine cw_region ?_
  refine ow_val rfl rfl (ex_move rfl) ?_
  refine ow_val rfl rfl (ex_neq rfl rfl) ?_
  refine ow_nil ?_
  refine qw_seq ?_
  refine cw_cond rfl (fun c24 => ?_) (fun c24 => ?_)
  ·
    refine cw_seq ?_
    refine cw_region ?_
    refine ow_val rfl rfl (ex_move rfl) ?_
    refine ow_val rfl rfl (ex_assign rfl) ?_
    refine ow_nil ?_
    refine qw_seq ?_
    refine cw_ret ?_
    refine qw_then_ret ?_
    refine qw_ret1 rfl rfl (fun w' h => ⟨congrArg (fun z => Ending.returned (.int .i64 z)) ?_, h.ag.below⟩)
    simp at c24
    rw [firstNZ3, lex_ne c24]
  ·
    refine cw_skip ?_
    refine qw_seq ?_
    refine cw_seq ?_
    refine cw_region ?_
    refine ow_val rfl rfl (ex_field rfl) ?_
    refine ow_val rfl rfl (ex_load1 rfl (by first | exact ld_own1 0 rfl rfl | exact ld_own1 1 rfl rfl | exact ld_own1 2 rfl rfl | exact ld_own1 3 rfl rfl | exact ld_own1 4 rfl rfl | exact ld_own1 5 rfl rfl | exact ld_own1 6 rfl rfl | exact ld_own1 7 rfl rfl | exact ld_ownG1 0 rfl rfl | exact ld_ownG1 1 rfl rfl | exact ld_imm1 (by assumption))) ?_
    refine ow_val rfl rfl (ex_field rfl) ?_
    refine ow_val rfl rfl (ex_load1 rfl (by first | exact ld_own1 0 rfl rfl | exact ld_own1 1 rfl rfl | exact ld_own1 2 rfl rfl | exact ld_own1 3 rfl rfl | exact ld_own1 4 rfl rfl | exact ld_own1 5 rfl rfl | exact ld_own1 6 rfl rfl | exact ld_own1 7 rfl rfl | exact ld_ownG1 0 rfl rfl | exact ld_ownG1 1 rfl rfl | exact ld_imm1 (by assumption))) ?_
    refine ow_cv rfl rfl (ex_callf rfl (fun w h => callB ((pCompareFunc ih h.im hk hk')))) ?_
    refine ow_val rfl rfl (ex_assign rfl) ?_
    refine ow_nil ?_
    refine qw_seq ?_
    refine cw_ret ?_
    refine qw_ret1 rfl rfl (fun w' h => ⟨congrArg (fun z => Ending.returned (.int .i64 z)) ?_, h.ag.below⟩)
    simp at c24
    rw [firstNZ3, lex_of0 c24]
end Go.Proofs.YtnjomdjkbbhdoaaDoor
namespace Go.Proofs.YtnjomdjkbbhdoaaDoor
open Go.RowKit
set_option linter.unusedVariables false
set_option linter.unusedSimpArgs false
set_option maxRecDepth 100000
theorem pAmong' {b : Nat} {zs : List Int} {o : Int} {k : Bool} {σ : Hp} {w : World} (hk : k = decide (o ∈ zs)) (hi : Imm σ w) (hc : CellsAt σ b 0 (intsV zs)) (hl : zs.length < 1000) : Calls Tryd.prog 85 #[.int .i64 o, .slice (some ⟨b, 0, none⟩) zs.length zs.length] w fun e w' => e = .returned (.bool k) ∧ Below w.heap.size w w' := by
  rw [hk]; exact pAmong hi hc hl
set_option maxHeartbeats 400000 in
theorem pIndexFunc {ks : List T} {p : T → Bool} {b : Nat} {z : Int} (hp : ∀ k, k ∈ ks → ∀ {σ : Hp} {cs : List Value} {w : World}, Imm σ w → TermC σ cs k → CellsAt σ b 0 [.int .i64 z] → Calls Tryd.prog 86 #[.agg cs.toArray, .pointer (some ⟨b, 0, none⟩)] w fun e w' => e = .returned (.bool (p k)) ∧ Below w.heap.size w w') {σ : Hp} {v : Value} {w : World} (hi : Imm σ w) (hk : KidsV σ v ks) (hb : CellsAt σ b 0 [.int .i64 z]) : Calls Tryd.prog 108 #[v, .func (.func 86) #[] #[.pointer (some ⟨b, 0, none⟩)]] w fun e w' => e = .returned (.int .i64 (findI p ks)) ∧ Below w.heap.size w w' := by
  obtain ⟨q, c, rfl, hc, hm⟩ := hk.slice
  have hm2 := hm
  unfold maxKids at hm2
  refine enter (St w (fun _ => False) σ [] []) Tryd.func108 rfl Tryd.ntmps108 rfl (St.start hi) ?_
  refine cw_seq ?_
  refine cw_region ?_
  refine ow_val rfl rfl (ex_assign rfl) ?_
  refine ow_nil ?_
  refine qw_seq ?_
  refine cw_seq ?_
  refine cw_seq ?_
  refine cw_region ?_
  refine ow_val rfl rfl (ex_move rfl) ?_
  refine ow_val rfl rfl (ex_len (ty := 0) rfl) ?_
  refine ow_val rfl rfl (ex_move rfl) ?_
  refine ow_nil ?_
  refine qw_seq ?_
  refine cw_block ?_
  refine cw_loopS (α := Nat) (fun i => [(0, .slice q ks.length c), (1, .func (.func 86) #[] #[.pointer (some ⟨b, 0, none⟩)]), (7, .int .i64 (ks.length : Int)), (8, .int .i64 (i : Int))]) (fun i => i ≤ ks.length ∧ ∀ j (h : j < ks.length), j < i → p ks[j] = false) (fun i => ks.length - i) 0 (subL_cons (lkv rfl (by first | rfl | simp)) (subL_cons (lkv rfl (by first | rfl | simp)) (subL_cons (lkv rfl (by first | rfl | simp)) (subL_cons (lkv rfl (by first | rfl | simp)) (subL_nil _))))) ⟨Nat.zero_le _, fun j _ h => absurd h (Nat.not_lt_zero _)⟩ ?_
  intro i ⟨hle, hz⟩
  refine cw_seq ?_
  refine cw_region ?_
  refine ow_val rfl rfl (ex_lss rfl rfl) ?_
  refine ow_nil ?_
  refine qw_seq ?_
  refine cw_seq ?_
  refine cw_cond rfl (fun c9 => ?_) (fun c9 => ?_)
  ·
    refine cw_skip ?_
    refine qw_seq ?_
    refine cw_seq ?_
    refine cw_block ?_
    refine cw_seq ?_
    refine cw_region ?_
    refine ow_val rfl rfl (ex_move rfl) ?_
    refine ow_val rfl rfl (ex_assign rfl) ?_
    refine ow_nil ?_
    refine qw_seq ?_
    refine cw_seq ?_
    have hlt : i < ks.length := by simpa using c9
    obtain ⟨bk, f, ck, cs, e1, e2, hc1, ht1⟩ := hk.get i hlt
    cases e1
    refine cw_region ?_
    refine ow_val rfl rfl (ex_move rfl) ?_
    refine ow_val rfl rfl (ex_move rfl) ?_
    refine ow_val rfl rfl (ex_move rfl) ?_
    refine ow_val rfl rfl (ex_index_nat rfl rfl (by omega)) ?_
    refine ow_val rfl rfl (ex_loadR rfl (by first | exact ld_ownN 0 rfl rfl | exact ld_ownN 1 rfl rfl | exact ld_ownN 2 rfl rfl | exact ld_ownN 3 rfl rfl | exact ld_ownN 4 rfl rfl | exact ld_ownN 5 rfl rfl | exact ld_ownN 6 rfl rfl | exact ld_ownN 7 rfl rfl | exact ld_ownGN 0 rfl rfl | exact ld_ownGN 1 rfl rfl | exact ld_immT (by assumption) (by assumption))) ?_
    refine ow_cv rfl rfl (ex_call (cs := [.pointer (some ⟨b, 0, none⟩)]) rfl rfl (fun w h => callB ((hp _ (List.getElem_mem hlt) h.im ht1 hb)))) ?_
    refine ow_nil ?_
    refine qw_seq ?_
    refine cw_cond rfl (fun c16 => ?_) (fun c16 => ?_)
    ·
      refine cw_seq ?_
      refine cw_region ?_
      refine ow_val rfl rfl (ex_move rfl) ?_
      refine ow_val rfl rfl (ex_assign rfl) ?_
      refine ow_nil ?_
      refine qw_seq ?_
      refine cw_ret ?_
      refine qw_block_ret ?_
      refine qw_then_ret ?_
      refine qw_then_ret ?_
      refine qw_block_ret ?_
      refine qw_then_ret ?_
      refine qw_ret1 rfl rfl (fun w' h => ⟨congrArg (fun z => Ending.returned (.int .i64 z)) ?_, h.ag.below⟩)
      rw [findI_at hlt c16 hz]
    ·
      refine cw_skip ?_
      refine qw_block_normal ?_
      refine qw_seq ?_
      refine cw_region ?_
      refine ow_val rfl rfl (ex_addi (z := ((i + 1 : Nat) : Int)) rfl rfl (by omega) (by omega) (by omega)) ?_
      refine ow_val rfl rfl (ex_move rfl) ?_
      refine ow_nil ?_
      exact qw_roundS (i + 1) (by omega) (subL_cons (lkv rfl (by first | rfl | simp)) (subL_cons (lkv rfl (by first | rfl | simp)) (subL_cons (lkv rfl (by first | rfl | simp)) (subL_cons (lkv rfl (by first | rfl | simp)) (subL_nil _))))) ⟨by omega, fun j h hj => by
        by_cases e : j = i
        · subst e; exact c16
        · exact hz j h (by omega)⟩
  ·
    refine cw_exit ?_
    refine qw_then_exit ?_
    refine qw_then_exit ?_
    refine qw_block_exit ?_
    refine qw_seq ?_
    refine cw_seq ?_
    refine cw_region ?_
    refine ow_val rfl rfl (ex_assign rfl) ?_
    refine ow_nil ?_
    refine qw_seq ?_
    refine cw_ret ?_
    refine qw_ret1 rfl rfl (fun w' h => ⟨congrArg (fun z => Ending.returned (.int .i64 z)) ?_, h.ag.below⟩)
    have he : i = ks.length := by simp at c9; omega
    rw [findI_none (fun j h => hz j h (by omega))]
set_option maxHeartbeats 400000 in
theorem pContainsFunc {ks : List T} {p : T → Bool} {b : Nat} {z : Int} (hp : ∀ k, k ∈ ks → ∀ {σ : Hp} {cs : List Value} {w : World}, Imm σ w → TermC σ cs k → CellsAt σ b 0 [.int .i64 z] → Calls Tryd.prog 86 #[.agg cs.toArray, .pointer (some ⟨b, 0, none⟩)] w fun e w' => e = .returned (.bool (p k)) ∧ Below w.heap.size w w') {σ : Hp} {v : Value} {w : World} (hi : Imm σ w) (hk : KidsV σ v ks) (hb : CellsAt σ b 0 [.int .i64 z]) : Calls Tryd.prog 87 #[v, .func (.func 86) #[] #[.pointer (some ⟨b, 0, none⟩)]] w fun e w' => e = .returned (.bool (ks.any p)) ∧ Below w.heap.size w w' := by
  refine enter (St w (fun _ => False) σ [] []) Tryd.func87 rfl Tryd.ntmps87 rfl (St.start hi) ?_
  refine cw_seq ?_
  refine cw_region ?_
  refine ow_val rfl rfl (ex_assign rfl) ?_
  refine ow_nil ?_
  refine qw_seq ?_
  refine cw_seq ?_
  refine cw_region ?_
  refine ow_val rfl rfl (ex_move rfl) ?_
  refine ow_val rfl rfl (ex_move rfl) ?_
  refine ow_cv rfl rfl (ex_callf rfl (fun w h => callB ((pIndexFunc hp h.im hk hb)))) ?_
  refine ow_val rfl rfl (ex_geq rfl rfl) ?_
  refine ow_val rfl rfl (ex_assign rfl) ?_
  refine ow_nil ?_
  refine qw_seq ?_
  refine cw_ret ?_
  refine qw_ret1 rfl rfl (fun w' h => ⟨congrArg (fun z => Ending.returned (.bool z)) ?_, h.ag.below⟩)
  exact findI_any p ks
set_option maxHeartbeats 400000 in
theorem pIsSorted {ks : List T} {σ : Hp} {v : Value} {w : World} (hi : Imm σ w) (hk : KidsV σ v ks) : Calls Tryd.prog 88 #[v, .func (.func 57) #[] #[]] w fun e w' => e = .returned (.bool (sorted ks)) ∧ Below w.heap.size w w' := by
  obtain ⟨q, c, rfl, hc, hm⟩ := hk.slice
  have hm2 := hm
  unfold maxKids at hm2
  refine enter (St w (fun _ => False) σ [] []) Tryd.func88 rfl Tryd.ntmps88 rfl (St.start hi) ?_
  refine cw_seq ?_
  refine cw_region ?_
  refine ow_val rfl rfl (ex_assign rfl) ?_
  refine ow_nil ?_
  refine qw_seq ?_
  refine cw_seq ?_
  refine cw_seq ?_
  refine cw_region ?_
  refine ow_val rfl rfl (ex_move rfl) ?_
  refine ow_val rfl rfl (ex_len (ty := 0) rfl) ?_
  refine ow_val rfl rfl (ex_subi (z := ((ks.length : Int) - 1)) rfl rfl (by omega) (by omega) (by omega)) ?_
  refine ow_val rfl rfl (ex_assign rfl) ?_
  refine ow_nil ?_
  refine qw_seq ?_
  refine cw_block ?_
  refine cw_loopS (α := Int) (fun i => [(0, .slice q ks.length c), (1, .func (.func 57) #[] #[]), (5, .int .i64 i)]) (fun i => -1 ≤ i ∧ i < ks.length ∧ ∀ j (h : j + 1 < ks.length), i ≤ (j : Int) → ord ks[j] ks[j + 1] ≤ 0) (fun i => i.toNat) ((ks.length : Int) - 1) (subL_cons (lkv rfl (by first | rfl | simp)) (subL_cons (lkv rfl (by first | rfl | simp)) (subL_cons (lkv rfl (by first | rfl | simp)) (subL_nil _)))) ⟨by omega, by omega, fun j h hj => absurd hj (by omega)⟩ ?_
  intro i ⟨hge, hle, hz⟩
  refine cw_seq ?_
  refine cw_seq ?_
  refine cw_region ?_
  refine ow_val rfl rfl (ex_move rfl) ?_
  refine ow_val rfl rfl (ex_gtr rfl rfl) ?_
  refine ow_nil ?_
  refine qw_seq ?_
  refine cw_cond rfl (fun c10 => ?_) (fun c10 => ?_)
  ·
    refine cw_skip ?_
    refine qw_seq ?_
    refine cw_seq ?_
    refine cw_block ?_
    refine cw_seq ?_
    obtain ⟨m, rfl⟩ : ∃ m : Nat, i = (m : Int) := ⟨i.toNat, by simp at c10; omega⟩
    have hpos : 0 < m := by simp at c10; omega
    have hlt : m < ks.length := by omega
    obtain ⟨bk, f, ck, cs, e1, e2, hc1, ht1⟩ := hk.get m hlt
    cases e1
    obtain ⟨bk2, f2, ck2, cs2, e1', e2', hc2, ht2⟩ := hk.get (m - 1) (by omega)
    cases e1'
    refine flow_sound 12 (by kernel_rfl) ?_
    refine flow_val rfl (ex_move rfl) ?_
    refine flow_val rfl (ex_move rfl) ?_
    refine flow_val rfl (ex_move rfl) ?_
    refine flow_val rfl (ex_index_nat rfl rfl (by omega)) ?_
    refine flow_val rfl (ex_loadR rfl (by first | exact ld_ownN 0 rfl rfl | exact ld_ownN 1 rfl rfl | exact ld_ownN 2 rfl rfl | exact ld_ownN 3 rfl rfl | exact ld_ownN 4 rfl rfl | exact ld_ownN 5 rfl rfl | exact ld_ownN 6 rfl rfl | exact ld_ownN 7 rfl rfl | exact ld_ownGN 0 rfl rfl | exact ld_ownGN 1 rfl rfl | exact ld_immT (by assumption) (by assumption))) ?_
    refine flow_val rfl (ex_move rfl) ?_
    refine flow_val rfl (ex_move rfl) ?_
    refine flow_val rfl (ex_subi (z := ((m - 1 : Nat) : Int)) rfl rfl (by omega) (by omega) (by omega)) ?_
    refine flow_val rfl (ex_index_nat rfl rfl (by omega)) ?_
    refine flow_val rfl (ex_loadR rfl (by first | exact ld_ownN 0 rfl rfl | exact ld_ownN 1 rfl rfl | exact ld_ownN 2 rfl rfl | exact ld_ownN 3 rfl rfl | exact ld_ownN 4 rfl rfl | exact ld_ownN 5 rfl rfl | exact ld_ownN 6 rfl rfl | exact ld_ownN 7 rfl rfl | exact ld_ownGN 0 rfl rfl | exact ld_ownGN 1 rfl rfl | exact ld_immT (by assumption) (by assumption))) ?_
    refine flow_cv rfl (ex_call (cs := []) rfl rfl (fun w h => callB ((pOrder _ _ h.im ht1 ht2)))) ?_
    refine flow_val rfl (ex_lss rfl rfl) ?_
    refine flow_nil ?_
    refine fin_is ?_
    refine fin_is ?_
    refine fin_is ?_
    refine fin_is ?_
    refine fin_is ?_
    refine fin_is ?_
    refine fin_is ?_
    refine fin_is ?_
    refine fin_is ?_
    refine fin_is ?_
    refine fin_is ?_
    refine fin_is ?_
    refine fin_nil ?_
    refine ow_nil ?_
    refine qw_seq ?_
    refine cw_cond rfl (fun c24 => ?_) (fun c24 => ?_)
    ·
      refine cw_seq ?_
      refine cw_region ?_
      refine ow_val rfl rfl (ex_assign rfl) ?_
      refine ow_nil ?_
      refine qw_seq ?_
      refine cw_ret ?_
      refine qw_block_ret ?_
      refine qw_then_ret ?_
      refine qw_then_ret ?_
      refine qw_block_ret ?_
      refine qw_then_ret ?_
      refine qw_ret1 rfl rfl (fun w' h => ⟨congrArg (fun z => Ending.returned (.bool z)) ?_, h.ag.below⟩)
      symm
      cases hq : sorted ks with
      | false => rfl
      | true =>
        have := sorted_iff.1 hq (m - 1) (by omega)
        have e2 : m - 1 + 1 = m := by omega
        simp only [e2] at this
        rw [ord_neg] at this
        simp at c24
        omega
    ·
      refine cw_skip ?_
      refine qw_block_normal ?_
      refine qw_seq ?_
      refine cw_region ?_
      refine ow_val rfl rfl (ex_move rfl) ?_
      refine ow_val rfl rfl (ex_subi (z := ((m : Int) - 1)) rfl rfl (by omega) (by omega) (by omega)) ?_
      refine ow_val rfl rfl (ex_assign rfl) ?_
      refine ow_nil ?_
      exact qw_roundS ((m : Int) - 1) (by omega) (subL_cons (lkv rfl (by first | rfl | simp)) (subL_cons (lkv rfl (by first | rfl | simp)) (subL_cons (lkv rfl (by first | rfl | simp)) (subL_nil _)))) ⟨by omega, by omega, fun j h hj => by
        by_cases e : j = m - 1
        · subst e
          simp at c24
          rw [ord_neg]
          have e2 : m - 1 + 1 = m := by omega
          simp only [e2]
          omega
        · exact hz j h (by omega)⟩
  ·
    refine cw_exit ?_
    refine qw_then_exit ?_
    refine qw_then_exit ?_
    refine qw_block_exit ?_
    refine qw_seq ?_
    refine cw_seq ?_
    refine cw_region ?_
    refine ow_val rfl rfl (ex_assign rfl) ?_
    refine ow_nil ?_
    refine qw_seq ?_
    refine cw_ret ?_
    refine qw_ret1 rfl rfl (fun w' h => ⟨congrArg (fun z => Ending.returned (.bool z)) ?_, h.ag.below⟩)
    symm
    exact sorted_iff.2 (fun j h => hz j h (by simp at c10; omega))
set_option maxHeartbeats 400000 in
theorem pRight1 {t : T} {deep b : Nat} (hde : deep ≤ 100) (ih : ∀ {σ : Hp} {cs : List Value} {w : World}, Imm σ w → TermC σ cs t → Calls Tryd.prog 67 #[.agg cs.toArray, .int .i64 ((deep + 1 : Nat) : Int)] w fun e w' => e = .returned (.bool (rightD t (deep + 1))) ∧ Below w.heap.size w w') {σ : Hp} {cs : List Value} {w : World} (hi : Imm σ w) (ht : TermC σ cs t) (hb : CellsAt σ b 0 [.int .i64 (deep : Int)]) : Calls Tryd.prog 86 #[.agg cs.toArray, .pointer (some ⟨b, 0, none⟩)] w fun e w' => e = .returned (.bool (!rightD t (deep + 1))) ∧ Below w.heap.size w w' := by
  have ht0 := ht
  obtain ⟨dv, kv, rfl, ho, hn, hd, hk⟩ := ht.opn
  refine enter (St w (fun _ => False) σ [] []) Tryd.func86 rfl Tryd.ntmps86 rfl (St.start hi) ?_
  refine cw_seq ?_
  refine cw_region ?_
  refine ow_blk rfl rfl (exw_box rfl) ?_; intro b2
  refine ow_val rfl rfl (ex_assign rfl) ?_
  refine ow_nil ?_
  refine qw_seq ?_
  refine cw_seq ?_
  refine cw_region ?_
  refine ow_val rfl rfl (ex_loadR rfl (by first | exact ld_ownN 0 rfl rfl | exact ld_ownN 1 rfl rfl | exact ld_ownN 2 rfl rfl | exact ld_ownN 3 rfl rfl | exact ld_ownN 4 rfl rfl | exact ld_ownN 5 rfl rfl | exact ld_ownN 6 rfl rfl | exact ld_ownN 7 rfl rfl | exact ld_ownGN 0 rfl rfl | exact ld_ownGN 1 rfl rfl | exact ld_immT (by assumption) (by assumption))) ?_
  refine ow_val rfl rfl (ex_load1 rfl (by first | exact ld_own1 0 rfl rfl | exact ld_own1 1 rfl rfl | exact ld_own1 2 rfl rfl | exact ld_own1 3 rfl rfl | exact ld_own1 4 rfl rfl | exact ld_own1 5 rfl rfl | exact ld_own1 6 rfl rfl | exact ld_own1 7 rfl rfl | exact ld_ownG1 0 rfl rfl | exact ld_ownG1 1 rfl rfl | exact ld_imm1 (by assumption))) ?_
  refine ow_val rfl rfl (ex_addi (z := ((deep + 1 : Nat) : Int)) rfl rfl (by omega) (by omega) (by omega)) ?_
  refine ow_cv rfl rfl (ex_callf rfl (fun w h => callB ((ih h.im ht0)))) ?_
  refine ow_val rfl rfl (ex_not rfl) ?_
  refine ow_val rfl rfl (ex_assign rfl) ?_
  refine ow_nil ?_
  refine qw_seq ?_
  refine cw_ret ?_
  refine qw_ret1 rfl rfl (fun w' h => ⟨rfl, h.ag.below⟩)
set_option maxHeartbeats 400000 in
theorem pRightD : ∀ (t : T) {deep : Nat} {σ : Hp} {cs : List Value} {w : World}, Imm σ w → TermC σ cs t → deep ≤ 16 → Calls Tryd.prog 67 #[.agg cs.toArray, .int .i64 (deep : Int)] w fun e w' => e = .returned (.bool (rightD t deep)) ∧ Below w.heap.size w w' := by
  intro t
  induction t using T.ind with
  | _ o n d ks ih =>
  intro deep σ cs w hi ht hde
  obtain ⟨dv, kv, rfl, ho, hn, hd, hk⟩ := ht.opn
  simp only [T.kids, T.op, T.num, T.data] at *
  obtain ⟨p, c, rfl, hc, hm⟩ := hk.slice
  obtain ⟨pd, cd, rfl, hcd, hmd⟩ := hd.slice
  have hm2 := hm
  unfold maxKids at hm2
  obtain ⟨kA, hkA⟩ : ∃ b, b = decide (o ∈ [(3 : Int), 4, 6]) := ⟨_, rfl⟩
  obtain ⟨kB, hkB⟩ : ∃ b, b = decide (o ∈ [(1 : Int), 5]) := ⟨_, rfl⟩
  refine enter (St w (fun _ => False) σ [] []) Tryd.func67 rfl Tryd.ntmps67 rfl (St.start hi) ?_
  refine cw_seq ?_
  refine cw_region ?_
  refine ow_blk rfl rfl (exw_box rfl) ?_; intro b2
  refine ow_blk rfl rfl (exw_box rfl) ?_; intro b3
  refine ow_val rfl rfl (ex_assign rfl) ?_
  refine ow_nil ?_
  refine qw_seq ?_
  refine cw_seq ?_
  refine cw_region ?_
  refine ow_val rfl rfl (ex_field rfl) ?_
  refine ow_val rfl rfl (ex_load1 rfl (by first | exact ld_own1 0 rfl rfl | exact ld_own1 1 rfl rfl | exact ld_own1 2 rfl rfl | exact ld_own1 3 rfl rfl | exact ld_own1 4 rfl rfl | exact ld_own1 5 rfl rfl | exact ld_own1 6 rfl rfl | exact ld_own1 7 rfl rfl | exact ld_ownG1 0 rfl rfl | exact ld_ownG1 1 rfl rfl | exact ld_imm1 (by assumption))) ?_
  refine ow_val rfl rfl (ex_len (ty := 0) rfl) ?_
  refine ow_val rfl rfl (ex_assign rfl) ?_
  refine ow_nil ?_
  refine qw_seq ?_
  refine cw_seq ?_
  refine cw_region ?_
  refine ow_val rfl rfl (ex_field rfl) ?_
  refine ow_val rfl rfl (ex_load1 rfl (by first | exact ld_own1 0 rfl rfl | exact ld_own1 1 rfl rfl | exact ld_own1 2 rfl rfl | exact ld_own1 3 rfl rfl | exact ld_own1 4 rfl rfl | exact ld_own1 5 rfl rfl | exact ld_own1 6 rfl rfl | exact ld_own1 7 rfl rfl | exact ld_ownG1 0 rfl rfl | exact ld_ownG1 1 rfl rfl | exact ld_imm1 (by assumption))) ?_
  refine ow_slit rfl rfl (exw_slit3 rfl rfl rfl rfl rfl rfl) ?_; intro b13
  refine ow_cv rfl rfl (ex_callf rfl (fun w h => callB ((pAmong' (zs := [3, 4, 6]) hkA h.freeze.im (CellsAt.ext_self σ (fun j v hj => by simpa [intsV] using hj)) (by simp))))) ?_
  refine ow_val rfl rfl (ex_assign rfl) ?_
  refine ow_mono (fun w h => h.drop (List.sublist_cons_self _ _)) ?_
  refine ow_nil ?_
  refine qw_seq ?_
  refine cw_seq ?_
  refine cw_block ?_
  refine cw_cut1 15 (.bool (decide ((deep : Int) = 16) || (decide (8192 < (d.length : Int)) || decide (n < 0) || decide (1099511627776 < n)))) ?_ ?_
  ·
    refine cw_seq ?_
    refine cw_region ?_
    refine ow_val rfl rfl (ex_load1 rfl (by first | exact ld_own1 0 rfl rfl | exact ld_own1 1 rfl rfl | exact ld_own1 2 rfl rfl | exact ld_own1 3 rfl rfl | exact ld_own1 4 rfl rfl | exact ld_own1 5 rfl rfl | exact ld_own1 6 rfl rfl | exact ld_own1 7 rfl rfl | exact ld_ownG1 0 rfl rfl | exact ld_ownG1 1 rfl rfl | exact ld_imm1 (by assumption))) ?_
    refine ow_val rfl rfl (ex_eql rfl rfl) ?_
    refine ow_val rfl rfl (ex_assign rfl) ?_
    refine ow_nil ?_
    refine qw_seq ?_
    refine cw_cond rfl (fun c15 => ?_) (fun c15 => ?_)
    ·
      refine cw_skip ?_
      exact qw_meet (subL_meet 3 15 (lkv rfl (by clear hkA hkB; first | rfl | (simp only [*, Bool.false_or, Bool.true_or, Bool.or_false, Bool.or_true, Bool.true_and, Bool.false_and, Bool.and_true, Bool.and_false]; done) | (simp_all; done) | (simp_all <;> omega))) rfl rfl) (fun w h => h)
    ·
      refine cw_seq ?_
      refine cw_region ?_
      refine ow_val rfl rfl (ex_field rfl) ?_
      refine ow_val rfl rfl (ex_load1 rfl (by first | exact ld_own1 0 rfl rfl | exact ld_own1 1 rfl rfl | exact ld_own1 2 rfl rfl | exact ld_own1 3 rfl rfl | exact ld_own1 4 rfl rfl | exact ld_own1 5 rfl rfl | exact ld_own1 6 rfl rfl | exact ld_own1 7 rfl rfl | exact ld_ownG1 0 rfl rfl | exact ld_ownG1 1 rfl rfl | exact ld_imm1 (by assumption))) ?_
      refine ow_val rfl rfl (ex_len (ty := 0) rfl) ?_
      refine ow_val rfl rfl (ex_gtr rfl rfl) ?_
      refine ow_val rfl rfl (ex_assign rfl) ?_
      refine ow_nil ?_
      refine qw_seq ?_
      refine cw_cond rfl (fun c15 => ?_) (fun c15 => ?_)
      ·
        refine cw_skip ?_
        exact qw_meet (subL_meet 8 15 (lkv rfl (by clear hkA hkB; first | rfl | (simp only [*, Bool.false_or, Bool.true_or, Bool.or_false, Bool.or_true, Bool.true_and, Bool.false_and, Bool.and_true, Bool.and_false]; done) | (simp_all; done) | (simp_all <;> omega))) rfl rfl) (fun w h => h)
      ·
        refine cw_seq ?_
        refine cw_region ?_
        refine ow_val rfl rfl (ex_field rfl) ?_
        refine ow_val rfl rfl (ex_load1 rfl (by first | exact ld_own1 0 rfl rfl | exact ld_own1 1 rfl rfl | exact ld_own1 2 rfl rfl | exact ld_own1 3 rfl rfl | exact ld_own1 4 rfl rfl | exact ld_own1 5 rfl rfl | exact ld_own1 6 rfl rfl | exact ld_own1 7 rfl rfl | exact ld_ownG1 0 rfl rfl | exact ld_ownG1 1 rfl rfl | exact ld_imm1 (by assumption))) ?_
        refine ow_val rfl rfl (ex_lss rfl rfl) ?_
        refine ow_val rfl rfl (ex_assign rfl) ?_
        refine ow_nil ?_
        refine qw_seq ?_
        refine cw_cond rfl (fun c15 => ?_) (fun c15 => ?_)
        ·
          refine cw_skip ?_
          exact qw_meet (subL_meet 12 15 (lkv rfl (by clear hkA hkB; first | rfl | (simp only [*, Bool.false_or, Bool.true_or, Bool.or_false, Bool.or_true, Bool.true_and, Bool.false_and, Bool.and_true, Bool.and_false]; done) | (simp_all; done) | (simp_all <;> omega))) rfl rfl) (fun w h => h)
        ·
          refine cw_region ?_
          refine ow_val rfl rfl (ex_field rfl) ?_
          refine ow_val rfl rfl (ex_load1 rfl (by first | exact ld_own1 0 rfl rfl | exact ld_own1 1 rfl rfl | exact ld_own1 2 rfl rfl | exact ld_own1 3 rfl rfl | exact ld_own1 4 rfl rfl | exact ld_own1 5 rfl rfl | exact ld_own1 6 rfl rfl | exact ld_own1 7 rfl rfl | exact ld_ownG1 0 rfl rfl | exact ld_ownG1 1 rfl rfl | exact ld_imm1 (by assumption))) ?_
          refine ow_val rfl rfl (ex_gtr rfl rfl) ?_
          refine ow_val rfl rfl (ex_assign rfl) ?_
          refine ow_nil ?_
          exact qw_meet (subL_meet 16 15 (lkv rfl (by clear hkA hkB; first | rfl | (simp only [*, Bool.false_or, Bool.true_or, Bool.or_false, Bool.or_true, Bool.true_and, Bool.false_and, Bool.and_true, Bool.and_false]; done) | (simp_all; done) | (simp_all <;> omega))) rfl rfl) (fun w h => h)
  ·
    refine cw_cond rfl (fun c15 => ?_) (fun c15 => ?_)
    ·
      refine cw_seq ?_
      refine cw_region ?_
      refine ow_val rfl rfl (ex_assign rfl) ?_
      refine ow_nil ?_
      refine qw_seq ?_
      refine cw_ret ?_
      refine qw_block_ret ?_
      refine qw_then_ret ?_
      refine qw_ret1 rfl rfl (fun w' h => ⟨congrArg (fun z => Ending.returned (.bool z)) ?_, h.ag.below⟩)
      symm
      rw [rightD_mk]
      simp only [Bool.or_eq_true, decide_eq_true_eq] at c15
      rcases c15 with c15 | c15
      · rw [show decide (deep < 16) = false by rw [decide_eq_false_iff_not]; omega]; rfl
      · rw [shape_prog hkA hkB]
        have : (decide (8192 < (d.length : Int)) || decide (n < 0) || decide (1099511627776 < n)) = true := by simpa using c15
        rw [this]; simp
    ·
      refine cw_cut1 28 (.bool (decide (0 < n) && decide (o ≠ 1) || decide (0 < (d.length : Int)) && !kA && decide (o ≠ 5))) ?_ ?_
      ·
        refine cw_seq ?_
        refine cw_region ?_
        refine ow_val rfl rfl (ex_field rfl) ?_
        refine ow_val rfl rfl (ex_load1 rfl (by first | exact ld_own1 0 rfl rfl | exact ld_own1 1 rfl rfl | exact ld_own1 2 rfl rfl | exact ld_own1 3 rfl rfl | exact ld_own1 4 rfl rfl | exact ld_own1 5 rfl rfl | exact ld_own1 6 rfl rfl | exact ld_own1 7 rfl rfl | exact ld_ownG1 0 rfl rfl | exact ld_ownG1 1 rfl rfl | exact ld_imm1 (by assumption))) ?_
        refine ow_val rfl rfl (ex_gtr rfl rfl) ?_
        refine ow_val rfl rfl (ex_move rfl) ?_
        refine ow_split (g := some (3, true)) rfl (fun s32 => ?_) (fun s32 => ?_)
        ·
          refine ow_val rfl (gd_go rfl s32) (ex_field rfl) ?_
          refine ow_val rfl (gd_go rfl s32) (ex_load1 rfl (by first | exact ld_own1 0 rfl rfl | exact ld_own1 1 rfl rfl | exact ld_own1 2 rfl rfl | exact ld_own1 3 rfl rfl | exact ld_own1 4 rfl rfl | exact ld_own1 5 rfl rfl | exact ld_own1 6 rfl rfl | exact ld_own1 7 rfl rfl | exact ld_ownG1 0 rfl rfl | exact ld_ownG1 1 rfl rfl | exact ld_imm1 (by assumption))) ?_
          refine ow_val rfl (gd_go rfl s32) (ex_neq rfl rfl) ?_
          refine ow_val rfl rfl (ex_pickt rfl s32 rfl) ?_
          refine ow_val rfl rfl (ex_assign rfl) ?_
          refine ow_nil ?_
          refine qw_seq ?_
          refine cw_cond rfl (fun c28 => ?_) (fun c28 => ?_)
          ·
            refine cw_skip ?_
            exact qw_meet (subL_meet 9 28 (lkv rfl (by clear hkA hkB; first | rfl | (simp only [*, Bool.false_or, Bool.true_or, Bool.or_false, Bool.or_true, Bool.true_and, Bool.false_and, Bool.and_true, Bool.and_false]; done) | (simp_all; done) | (simp_all <;> omega))) rfl rfl) (fun w h => h)
          ·
            refine cw_region ?_
            refine ow_val rfl rfl (ex_field rfl) ?_
            refine ow_val rfl rfl (ex_load1 rfl (by first | exact ld_own1 0 rfl rfl | exact ld_own1 1 rfl rfl | exact ld_own1 2 rfl rfl | exact ld_own1 3 rfl rfl | exact ld_own1 4 rfl rfl | exact ld_own1 5 rfl rfl | exact ld_own1 6 rfl rfl | exact ld_own1 7 rfl rfl | exact ld_ownG1 0 rfl rfl | exact ld_ownG1 1 rfl rfl | exact ld_imm1 (by assumption))) ?_
            refine ow_val rfl rfl (ex_len (ty := 0) rfl) ?_
            refine ow_val rfl rfl (ex_gtr rfl rfl) ?_
            refine ow_val rfl rfl (ex_move rfl) ?_
            refine ow_split (g := some (4, true)) rfl (fun s41 => ?_) (fun s41 => ?_)
            ·
              refine ow_val rfl (gd_go rfl s41) (ex_move rfl) ?_
              refine ow_val rfl (gd_go rfl s41) (ex_not rfl) ?_
              refine ow_val rfl rfl (ex_pickt rfl s41 rfl) ?_
              refine ow_val rfl rfl (ex_move rfl) ?_
              refine ow_split (g := some (8, true)) rfl (fun s45 => ?_) (fun s45 => ?_)
              ·
                refine ow_val rfl (gd_go rfl s45) (ex_field rfl) ?_
                refine ow_val rfl (gd_go rfl s45) (ex_load1 rfl (by first | exact ld_own1 0 rfl rfl | exact ld_own1 1 rfl rfl | exact ld_own1 2 rfl rfl | exact ld_own1 3 rfl rfl | exact ld_own1 4 rfl rfl | exact ld_own1 5 rfl rfl | exact ld_own1 6 rfl rfl | exact ld_own1 7 rfl rfl | exact ld_ownG1 0 rfl rfl | exact ld_ownG1 1 rfl rfl | exact ld_imm1 (by assumption))) ?_
                refine ow_val rfl (gd_go rfl s45) (ex_neq rfl rfl) ?_
                refine ow_val rfl rfl (ex_pickt rfl s45 rfl) ?_
                refine ow_val rfl rfl (ex_assign rfl) ?_
                refine ow_nil ?_
                exact qw_meet (subL_meet 23 28 (lkv rfl (by clear hkA hkB; first | rfl | (simp only [*, Bool.false_or, Bool.true_or, Bool.or_false, Bool.or_true, Bool.true_and, Bool.false_and, Bool.and_true, Bool.and_false]; done) | (simp_all; done) | (simp_all <;> omega))) rfl rfl) (fun w h => h)
              ·
                refine ow_skip rfl (gd_no rfl s45) ?_
                refine ow_skip rfl (gd_no rfl s45) ?_
                refine ow_skip rfl (gd_no rfl s45) ?_
                refine ow_val rfl rfl (ex_pickf rfl s45 rfl) ?_
                refine ow_val rfl rfl (ex_assign rfl) ?_
                refine ow_nil ?_
                exact qw_meet (subL_meet 23 28 (lkv rfl (by clear hkA hkB; first | rfl | (simp only [*, Bool.false_or, Bool.true_or, Bool.or_false, Bool.or_true, Bool.true_and, Bool.false_and, Bool.and_true, Bool.and_false]; done) | (simp_all; done) | (simp_all <;> omega))) rfl rfl) (fun w h => h)
            ·
              refine ow_skip rfl (gd_no rfl s41) ?_
              refine ow_skip rfl (gd_no rfl s41) ?_
              refine ow_val rfl rfl (ex_pickf rfl s41 rfl) ?_
              refine ow_val rfl rfl (ex_move rfl) ?_
              refine ow_skip rfl rfl ?_
              refine ow_skip rfl rfl ?_
              refine ow_skip rfl rfl ?_
              refine ow_val rfl rfl (ex_pick_f rfl rfl) ?_
              refine ow_val rfl rfl (ex_assign rfl) ?_
              refine ow_nil ?_
              exact qw_meet (subL_meet 23 28 (lkv rfl (by clear hkA hkB; first | rfl | (simp only [*, Bool.false_or, Bool.true_or, Bool.or_false, Bool.or_true, Bool.true_and, Bool.false_and, Bool.and_true, Bool.and_false]; done) | (simp_all; done) | (simp_all <;> omega))) rfl rfl) (fun w h => h)
        ·
          refine ow_skip rfl (gd_no rfl s32) ?_
          refine ow_skip rfl (gd_no rfl s32) ?_
          refine ow_skip rfl (gd_no rfl s32) ?_
          refine ow_val rfl rfl (ex_pickf rfl s32 rfl) ?_
          refine ow_val rfl rfl (ex_assign rfl) ?_
          refine ow_nil ?_
          refine qw_seq ?_
          refine cw_cond_f rfl ?_
          refine cw_region ?_
          refine ow_val rfl rfl (ex_field rfl) ?_
          refine ow_val rfl rfl (ex_load1 rfl (by first | exact ld_own1 0 rfl rfl | exact ld_own1 1 rfl rfl | exact ld_own1 2 rfl rfl | exact ld_own1 3 rfl rfl | exact ld_own1 4 rfl rfl | exact ld_own1 5 rfl rfl | exact ld_own1 6 rfl rfl | exact ld_own1 7 rfl rfl | exact ld_ownG1 0 rfl rfl | exact ld_ownG1 1 rfl rfl | exact ld_imm1 (by assumption))) ?_
          refine ow_val rfl rfl (ex_len (ty := 0) rfl) ?_
          refine ow_val rfl rfl (ex_gtr rfl rfl) ?_
          refine ow_val rfl rfl (ex_move rfl) ?_
          refine ow_split (g := some (4, true)) rfl (fun s41 => ?_) (fun s41 => ?_)
          ·
            refine ow_val rfl (gd_go rfl s41) (ex_move rfl) ?_
            refine ow_val rfl (gd_go rfl s41) (ex_not rfl) ?_
            refine ow_val rfl rfl (ex_pickt rfl s41 rfl) ?_
            refine ow_val rfl rfl (ex_move rfl) ?_
            refine ow_split (g := some (8, true)) rfl (fun s45 => ?_) (fun s45 => ?_)
            ·
              refine ow_val rfl (gd_go rfl s45) (ex_field rfl) ?_
              refine ow_val rfl (gd_go rfl s45) (ex_load1 rfl (by first | exact ld_own1 0 rfl rfl | exact ld_own1 1 rfl rfl | exact ld_own1 2 rfl rfl | exact ld_own1 3 rfl rfl | exact ld_own1 4 rfl rfl | exact ld_own1 5 rfl rfl | exact ld_own1 6 rfl rfl | exact ld_own1 7 rfl rfl | exact ld_ownG1 0 rfl rfl | exact ld_ownG1 1 rfl rfl | exact ld_imm1 (by assumption))) ?_
              refine ow_val rfl (gd_go rfl s45) (ex_neq rfl rfl) ?_
              refine ow_val rfl rfl (ex_pickt rfl s45 rfl) ?_
              refine ow_val rfl rfl (ex_assign rfl) ?_
              refine ow_nil ?_
              exact qw_meet (subL_meet 23 28 (lkv rfl (by clear hkA hkB; first | rfl | (simp only [*, Bool.false_or, Bool.true_or, Bool.or_false, Bool.or_true, Bool.true_and, Bool.false_and, Bool.and_true, Bool.and_false]; done) | (simp_all; done) | (simp_all <;> omega))) rfl rfl) (fun w h => h)
            ·
              refine ow_skip rfl (gd_no rfl s45) ?_
              refine ow_skip rfl (gd_no rfl s45) ?_
              refine ow_skip rfl (gd_no rfl s45) ?_
              refine ow_val rfl rfl (ex_pickf rfl s45 rfl) ?_
              refine ow_val rfl rfl (ex_assign rfl) ?_
              refine ow_nil ?_
              exact qw_meet (subL_meet 23 28 (lkv rfl (by clear hkA hkB; first | rfl | (simp only [*, Bool.false_or, Bool.true_or, Bool.or_false, Bool.or_true, Bool.true_and, Bool.false_and, Bool.and_true, Bool.and_false]; done) | (simp_all; done) | (simp_all <;> omega))) rfl rfl) (fun w h => h)
          ·
            refine ow_skip rfl (gd_no rfl s41) ?_
            refine ow_skip rfl (gd_no rfl s41) ?_
            refine ow_val rfl rfl (ex_pickf rfl s41 rfl) ?_
            refine ow_val rfl rfl (ex_move rfl) ?_
            refine ow_skip rfl rfl ?_
            refine ow_skip rfl rfl ?_
            refine ow_skip rfl rfl ?_
            refine ow_val rfl rfl (ex_pick_f rfl rfl) ?_
            refine ow_val rfl rfl (ex_assign rfl) ?_
            refine ow_nil ?_
            exact qw_meet (subL_meet 23 28 (lkv rfl (by clear hkA hkB; first | rfl | (simp only [*, Bool.false_or, Bool.true_or, Bool.or_false, Bool.or_true, Bool.true_and, Bool.false_and, Bool.and_true, Bool.and_false]; done) | (simp_all; done) | (simp_all <;> omega))) rfl rfl) (fun w h => h)
      ·
        refine cw_cond rfl (fun c28 => ?_) (fun c28 => ?_)
        ·
          refine cw_seq ?_
          refine cw_region ?_
          refine ow_val rfl rfl (ex_assign rfl) ?_
          refine ow_nil ?_
          refine qw_seq ?_
          refine cw_ret ?_
          refine qw_block_ret ?_
          refine qw_then_ret ?_
          refine qw_ret1 rfl rfl (fun w' h => ⟨congrArg (fun z => Ending.returned (.bool z)) ?_, h.ag.below⟩)
          symm
          rw [rightD_mk]
          rw [shape_prog hkA hkB, c28]; simp
        ·
          refine cw_cut1 50 (.bool (kB && decide ((ks.length : Int) ≠ 0) || (kA || decide (o = 2)) && decide ((ks.length : Int) ≠ 1) || decide (o = 7) && decide (4 < (ks.length : Int)))) ?_ ?_
          ·
            refine cw_cut1 50 (.bool (kB && decide ((ks.length : Int) ≠ 0))) ?_ ?_
            ·
              refine cw_region ?_
              refine ow_val rfl rfl (ex_field rfl) ?_
              refine ow_val rfl rfl (ex_load1 rfl (by first | exact ld_own1 0 rfl rfl | exact ld_own1 1 rfl rfl | exact ld_own1 2 rfl rfl | exact ld_own1 3 rfl rfl | exact ld_own1 4 rfl rfl | exact ld_own1 5 rfl rfl | exact ld_own1 6 rfl rfl | exact ld_own1 7 rfl rfl | exact ld_ownG1 0 rfl rfl | exact ld_ownG1 1 rfl rfl | exact ld_imm1 (by assumption))) ?_
              refine ow_slit rfl rfl (exw_slit2 rfl rfl rfl rfl) ?_; intro b53
              refine ow_cv rfl rfl (ex_callf rfl (fun w h => callB ((pAmong' (zs := [1, 5]) hkB h.freeze.im (CellsAt.ext_self σ (fun j v hj => by simpa [intsV] using hj)) (by simp))))) ?_
              refine ow_val rfl rfl (ex_move rfl) ?_
              refine ow_split (g := some (4, true)) rfl (fun s55 => ?_) (fun s55 => ?_)
              ·
                refine ow_val rfl (gd_go rfl s55) (ex_move rfl) ?_
                refine ow_val rfl (gd_go rfl s55) (ex_neq rfl rfl) ?_
                refine ow_val rfl rfl (ex_pickt rfl s55 rfl) ?_
                refine ow_val rfl rfl (ex_assign rfl) ?_
                refine ow_mono (fun w h => h.drop (List.sublist_cons_self _ _)) ?_
                refine ow_nil ?_
                exact qw_meet (subL_meet 9 50 (lkv rfl (by clear hkA hkB; first | rfl | (simp only [*, Bool.false_or, Bool.true_or, Bool.or_false, Bool.or_true, Bool.true_and, Bool.false_and, Bool.and_true, Bool.and_false]; done) | (simp_all; done) | (simp_all <;> omega))) rfl rfl) (fun w h => h)
              ·
                refine ow_skip rfl (gd_no rfl s55) ?_
                refine ow_skip rfl (gd_no rfl s55) ?_
                refine ow_val rfl rfl (ex_pickf rfl s55 rfl) ?_
                refine ow_val rfl rfl (ex_assign rfl) ?_
                refine ow_mono (fun w h => h.drop (List.sublist_cons_self _ _)) ?_
                refine ow_nil ?_
                exact qw_meet (subL_meet 9 50 (lkv rfl (by clear hkA hkB; first | rfl | (simp only [*, Bool.false_or, Bool.true_or, Bool.or_false, Bool.or_true, Bool.true_and, Bool.false_and, Bool.and_true, Bool.and_false]; done) | (simp_all; done) | (simp_all <;> omega))) rfl rfl) (fun w h => h)
            ·
              refine cw_cond rfl (fun c50 => ?_) (fun c50 => ?_)
              ·
                refine cw_skip ?_
                exact qw_meet (subL_meet 1 50 (lkv rfl (by clear hkA hkB; first | rfl | (simp only [*, Bool.false_or, Bool.true_or, Bool.or_false, Bool.or_true, Bool.true_and, Bool.false_and, Bool.and_true, Bool.and_false]; done) | (simp_all; done) | (simp_all <;> omega))) rfl rfl) (fun w h => h)
              ·
                refine cw_cut1 50 (.bool ((kA || decide (o = 2)) && decide ((ks.length : Int) ≠ 1))) ?_ ?_
                ·
                  refine cw_region ?_
                  refine ow_val rfl rfl (ex_move rfl) ?_
                  refine ow_val rfl rfl (ex_move rfl) ?_
                  refine ow_split (g := some (1, false)) rfl (fun s60 => ?_) (fun s60 => ?_)
                  ·
                    refine ow_skip rfl (gd_no rfl s60) ?_
                    refine ow_skip rfl (gd_no rfl s60) ?_
                    refine ow_skip rfl (gd_no rfl s60) ?_
                    refine ow_val rfl rfl (ex_pickt rfl s60 rfl) ?_
                    refine ow_val rfl rfl (ex_move rfl) ?_
                    refine ow_val rfl rfl (ex_move rfl) ?_
                    refine ow_val rfl rfl (ex_neq rfl rfl) ?_
                    refine ow_val rfl rfl (ex_pick_t rfl rfl) ?_
                    refine ow_val rfl rfl (ex_assign rfl) ?_
                    refine ow_nil ?_
                    exact qw_meet (subL_meet 11 50 (lkv rfl (by clear hkA hkB; first | rfl | (simp only [*, Bool.false_or, Bool.true_or, Bool.or_false, Bool.or_true, Bool.true_and, Bool.false_and, Bool.and_true, Bool.and_false]; done) | (simp_all; done) | (simp_all <;> omega))) rfl rfl) (fun w h => h)
                  ·
                    refine ow_val rfl (gd_go rfl s60) (ex_field rfl) ?_
                    refine ow_val rfl (gd_go rfl s60) (ex_load1 rfl (by first | exact ld_own1 0 rfl rfl | exact ld_own1 1 rfl rfl | exact ld_own1 2 rfl rfl | exact ld_own1 3 rfl rfl | exact ld_own1 4 rfl rfl | exact ld_own1 5 rfl rfl | exact ld_own1 6 rfl rfl | exact ld_own1 7 rfl rfl | exact ld_ownG1 0 rfl rfl | exact ld_ownG1 1 rfl rfl | exact ld_imm1 (by assumption))) ?_
                    refine ow_val rfl (gd_go rfl s60) (ex_eql rfl rfl) ?_
                    refine ow_val rfl rfl (ex_pickf rfl s60 rfl) ?_
                    refine ow_val rfl rfl (ex_move rfl) ?_
                    refine ow_split (g := some (6, true)) rfl (fun s65 => ?_) (fun s65 => ?_)
                    ·
                      refine ow_val rfl (gd_go rfl s65) (ex_move rfl) ?_
                      refine ow_val rfl (gd_go rfl s65) (ex_neq rfl rfl) ?_
                      refine ow_val rfl rfl (ex_pickt rfl s65 rfl) ?_
                      refine ow_val rfl rfl (ex_assign rfl) ?_
                      refine ow_nil ?_
                      exact qw_meet (subL_meet 11 50 (lkv rfl (by clear hkA hkB; first | rfl | (simp only [*, Bool.false_or, Bool.true_or, Bool.or_false, Bool.or_true, Bool.true_and, Bool.false_and, Bool.and_true, Bool.and_false]; done) | (simp_all; done) | (simp_all <;> omega))) rfl rfl) (fun w h => h)
                    ·
                      refine ow_skip rfl (gd_no rfl s65) ?_
                      refine ow_skip rfl (gd_no rfl s65) ?_
                      refine ow_val rfl rfl (ex_pickf rfl s65 rfl) ?_
                      refine ow_val rfl rfl (ex_assign rfl) ?_
                      refine ow_nil ?_
                      exact qw_meet (subL_meet 11 50 (lkv rfl (by clear hkA hkB; first | rfl | (simp only [*, Bool.false_or, Bool.true_or, Bool.or_false, Bool.or_true, Bool.true_and, Bool.false_and, Bool.and_true, Bool.and_false]; done) | (simp_all; done) | (simp_all <;> omega))) rfl rfl) (fun w h => h)
                ·
                  refine cw_cond rfl (fun c50 => ?_) (fun c50 => ?_)
                  ·
                    refine cw_skip ?_
                    exact qw_meet (subL_meet 2 50 (lkv rfl (by clear hkA hkB; first | rfl | (simp only [*, Bool.false_or, Bool.true_or, Bool.or_false, Bool.or_true, Bool.true_and, Bool.false_and, Bool.and_true, Bool.and_false]; done) | (simp_all; done) | (simp_all <;> omega))) rfl rfl) (fun w h => h)
                  ·
                    refine cw_region ?_
                    refine ow_val rfl rfl (ex_field rfl) ?_
                    refine ow_val rfl rfl (ex_load1 rfl (by first | exact ld_own1 0 rfl rfl | exact ld_own1 1 rfl rfl | exact ld_own1 2 rfl rfl | exact ld_own1 3 rfl rfl | exact ld_own1 4 rfl rfl | exact ld_own1 5 rfl rfl | exact ld_own1 6 rfl rfl | exact ld_own1 7 rfl rfl | exact ld_ownG1 0 rfl rfl | exact ld_ownG1 1 rfl rfl | exact ld_imm1 (by assumption))) ?_
                    refine ow_val rfl rfl (ex_eql rfl rfl) ?_
                    refine ow_val rfl rfl (ex_move rfl) ?_
                    refine ow_split (g := some (3, true)) rfl (fun s72 => ?_) (fun s72 => ?_)
                    ·
                      refine ow_val rfl (gd_go rfl s72) (ex_move rfl) ?_
                      refine ow_val rfl (gd_go rfl s72) (ex_gtr rfl rfl) ?_
                      refine ow_val rfl rfl (ex_pickt rfl s72 rfl) ?_
                      refine ow_val rfl rfl (ex_assign rfl) ?_
                      refine ow_nil ?_
                      exact qw_meet (subL_meet 10 50 (lkv rfl (by clear hkA hkB; first | rfl | (simp only [*, Bool.false_or, Bool.true_or, Bool.or_false, Bool.or_true, Bool.true_and, Bool.false_and, Bool.and_true, Bool.and_false]; done) | (simp_all; done) | (simp_all <;> omega))) rfl rfl) (fun w h => h)
                    ·
                      refine ow_skip rfl (gd_no rfl s72) ?_
                      refine ow_skip rfl (gd_no rfl s72) ?_
                      refine ow_val rfl rfl (ex_pickf rfl s72 rfl) ?_
                      refine ow_val rfl rfl (ex_assign rfl) ?_
                      refine ow_nil ?_
                      exact qw_meet (subL_meet 10 50 (lkv rfl (by clear hkA hkB; first | rfl | (simp only [*, Bool.false_or, Bool.true_or, Bool.or_false, Bool.or_true, Bool.true_and, Bool.false_and, Bool.and_true, Bool.and_false]; done) | (simp_all; done) | (simp_all <;> omega))) rfl rfl) (fun w h => h)
          ·
            refine cw_cond rfl (fun c50 => ?_) (fun c50 => ?_)
            ·
              refine cw_seq ?_
              refine cw_region ?_
              refine ow_val rfl rfl (ex_assign rfl) ?_
              refine ow_nil ?_
              refine qw_seq ?_
              refine cw_ret ?_
              refine qw_block_ret ?_
              refine qw_then_ret ?_
              refine qw_ret1 rfl rfl (fun w' h => ⟨congrArg (fun z => Ending.returned (.bool z)) ?_, h.ag.below⟩)
              symm
              rw [rightD_mk]
              rw [shape_prog hkA hkB, c50]; simp
            ·
              refine cw_cut1 76 (.bool (decide (o < 1) || decide (7 < o))) ?_ ?_
              ·
                refine cw_seq ?_
                refine cw_region ?_
                refine ow_val rfl rfl (ex_field rfl) ?_
                refine ow_val rfl rfl (ex_load1 rfl (by first | exact ld_own1 0 rfl rfl | exact ld_own1 1 rfl rfl | exact ld_own1 2 rfl rfl | exact ld_own1 3 rfl rfl | exact ld_own1 4 rfl rfl | exact ld_own1 5 rfl rfl | exact ld_own1 6 rfl rfl | exact ld_own1 7 rfl rfl | exact ld_ownG1 0 rfl rfl | exact ld_ownG1 1 rfl rfl | exact ld_imm1 (by assumption))) ?_
                refine ow_val rfl rfl (ex_lss rfl rfl) ?_
                refine ow_val rfl rfl (ex_assign rfl) ?_
                refine ow_nil ?_
                refine qw_seq ?_
                refine cw_cond rfl (fun c76 => ?_) (fun c76 => ?_)
                ·
                  refine cw_skip ?_
                  exact qw_meet (subL_meet 4 76 (lkv rfl (by clear hkA hkB; first | rfl | (simp only [*, Bool.false_or, Bool.true_or, Bool.or_false, Bool.or_true, Bool.true_and, Bool.false_and, Bool.and_true, Bool.and_false]; done) | (simp_all; done) | (simp_all <;> omega))) rfl rfl) (fun w h => h)
                ·
                  refine cw_region ?_
                  refine ow_val rfl rfl (ex_field rfl) ?_
                  refine ow_val rfl rfl (ex_load1 rfl (by first | exact ld_own1 0 rfl rfl | exact ld_own1 1 rfl rfl | exact ld_own1 2 rfl rfl | exact ld_own1 3 rfl rfl | exact ld_own1 4 rfl rfl | exact ld_own1 5 rfl rfl | exact ld_own1 6 rfl rfl | exact ld_own1 7 rfl rfl | exact ld_ownG1 0 rfl rfl | exact ld_ownG1 1 rfl rfl | exact ld_imm1 (by assumption))) ?_
                  refine ow_val rfl rfl (ex_gtr rfl rfl) ?_
                  refine ow_val rfl rfl (ex_assign rfl) ?_
                  refine ow_nil ?_
                  exact qw_meet (subL_meet 8 76 (lkv rfl (by clear hkA hkB; first | rfl | (simp only [*, Bool.false_or, Bool.true_or, Bool.or_false, Bool.or_true, Bool.true_and, Bool.false_and, Bool.and_true, Bool.and_false]; done) | (simp_all; done) | (simp_all <;> omega))) rfl rfl) (fun w h => h)
              ·
                refine cw_cond rfl (fun c76 => ?_) (fun c76 => ?_)
                ·
                  refine cw_seq ?_
                  refine cw_region ?_
                  refine ow_val rfl rfl (ex_assign rfl) ?_
                  refine ow_nil ?_
                  refine qw_seq ?_
                  refine cw_ret ?_
                  refine qw_block_ret ?_
                  refine qw_then_ret ?_
                  refine qw_ret1 rfl rfl (fun w' h => ⟨congrArg (fun z => Ending.returned (.bool z)) ?_, h.ag.below⟩)
                  symm
                  rw [rightD_mk]
                  rw [shape_prog hkA hkB, c76]; simp
                ·
                  refine cw_skip ?_
                  refine qw_block_normal ?_
                  refine qw_seq ?_
                  refine cw_seq ?_
                  have hdp : deep < 16 := by simp at c15; omega
                  have hsh : shape o n d ks = true := by
                    rw [shape_prog hkA hkB]
                    simp only [Bool.or_eq_false_iff] at c15
                    rw [c28, c50, c76, c15.2.1.1, c15.2.1.2, c15.2.2]
                    rfl
                  refine cw_region ?_
                  refine ow_val rfl rfl (ex_makeFunc rfl rfl) ?_
                  refine ow_val rfl rfl (ex_assign rfl) ?_
                  refine ow_nil ?_
                  refine qw_seq ?_
                  refine cw_seq ?_
                  refine cw_region ?_
                  refine ow_val rfl rfl (ex_field rfl) ?_
                  refine ow_val rfl rfl (ex_load1 rfl (by first | exact ld_own1 0 rfl rfl | exact ld_own1 1 rfl rfl | exact ld_own1 2 rfl rfl | exact ld_own1 3 rfl rfl | exact ld_own1 4 rfl rfl | exact ld_own1 5 rfl rfl | exact ld_own1 6 rfl rfl | exact ld_own1 7 rfl rfl | exact ld_ownG1 0 rfl rfl | exact ld_ownG1 1 rfl rfl | exact ld_imm1 (by assumption))) ?_
                  refine ow_val rfl rfl (ex_move rfl) ?_
                  refine ow_cv rfl rfl (ex_callf rfl (fun w h => callB ((pContainsFunc (p := fun k => !rightD k (deep + 1)) (fun k hk' {_ _ _} hi' ht' hb' => pRight1 (by omega) (fun hi'' ht'' => ih k hk' hi'' ht'' (by omega)) hi' ht' hb') (σ := ext σ b3 (.cells #[.int .i64 (deep : Int)] 3)) h.freeze.im (hk.le (le_ext (h.fresh (List.mem_append_left [] List.mem_cons_self)))) (CellsAt.ext_self σ (fun j v hj => by simpa using hj)))))) ?_
                  refine ow_val rfl rfl (ex_not rfl) ?_
                  refine ow_val rfl rfl (ex_move rfl) ?_
                  refine ow_split (g := some (5, true)) rfl (fun s89 => ?_) (fun s89 => ?_)
                  ·
                    refine ow_val rfl (gd_go rfl s89) (ex_field rfl) ?_
                    refine ow_val rfl (gd_go rfl s89) (ex_load1 rfl (by first | exact ld_own1 0 rfl rfl | exact ld_own1 1 rfl rfl | exact ld_own1 2 rfl rfl | exact ld_own1 3 rfl rfl | exact ld_own1 4 rfl rfl | exact ld_own1 5 rfl rfl | exact ld_own1 6 rfl rfl | exact ld_own1 7 rfl rfl | exact ld_ownG1 0 rfl rfl | exact ld_ownG1 1 rfl rfl | exact ld_imm1 (by assumption))) ?_
                    refine ow_cv rfl (gd_go rfl s89) (ex_callf rfl (fun w h => callB ((pIsSorted h.im hk)))) ?_
                    refine ow_val rfl rfl (ex_pickt rfl s89 rfl) ?_
                    refine ow_val rfl rfl (ex_assign rfl) ?_
                    refine ow_nil ?_
                    refine qw_seq ?_
                    refine cw_ret ?_
                    refine qw_ret1 rfl rfl (fun w' h => ⟨congrArg (fun z => Ending.returned (.bool z)) ?_, h.ag.below⟩)
                    symm
                    rw [rightD_mk]
                    rw [hsh, rightsD_any, s89]
                    simp [hdp]
                  ·
                    refine ow_skip rfl (gd_no rfl s89) ?_
                    refine ow_skip rfl (gd_no rfl s89) ?_
                    refine ow_skip rfl (gd_no rfl s89) ?_
                    refine ow_val rfl rfl (ex_pickf rfl s89 rfl) ?_
                    refine ow_val rfl rfl (ex_assign rfl) ?_
                    refine ow_nil ?_
                    refine qw_seq ?_
                    refine cw_ret ?_
                    refine qw_ret1 rfl rfl (fun w' h => ⟨congrArg (fun z => Ending.returned (.bool z)) ?_, h.ag.below⟩)
                    symm
                    rw [rightD_mk]
                    rw [rightsD_any, s89]
                    simp
set_option maxHeartbeats 400000 in
theorem pRight (t : T) {σ : Hp} {cs : List Value} {w : World} (hi : Imm σ w) (ht : TermC σ cs t) : Calls Tryd.prog 46 #[.agg cs.toArray] w fun e w' => e = .returned (.bool (right t)) ∧ Below w.heap.size w w' := by
  have ht0 := ht
  obtain ⟨dv, kv, rfl, ho, hn, hd, hk⟩ := ht.opn
  refine enter (St w (fun _ => False) σ [] []) Tryd.func46 rfl Tryd.ntmps46 rfl (St.start hi) ?_
  refine cw_seq ?_
  refine cw_region ?_
  refine ow_blk rfl rfl (exw_box rfl) ?_; intro b1
  refine ow_val rfl rfl (ex_assign rfl) ?_
  refine ow_nil ?_
  refine qw_seq ?_
  refine cw_seq ?_
  refine cw_region ?_
  refine ow_val rfl rfl (ex_loadR rfl (by first | exact ld_ownN 0 rfl rfl | exact ld_ownN 1 rfl rfl | exact ld_ownN 2 rfl rfl | exact ld_ownN 3 rfl rfl | exact ld_ownN 4 rfl rfl | exact ld_ownN 5 rfl rfl | exact ld_ownN 6 rfl rfl | exact ld_ownN 7 rfl rfl | exact ld_ownGN 0 rfl rfl | exact ld_ownGN 1 rfl rfl | exact ld_immT (by assumption) (by assumption))) ?_
  refine ow_cv rfl rfl (ex_callf rfl (fun w h => callB ((pRightD t (deep := 0) h.im ht0 (by omega))))) ?_
  refine ow_val rfl rfl (ex_assign rfl) ?_
  refine ow_nil ?_
  refine qw_seq ?_
  refine cw_ret ?_
  refine qw_ret1 rfl rfl (fun w' h => ⟨rfl, h.ag.below⟩)
end Go.Proofs.YtnjomdjkbbhdoaaDoor
namespace Go.Proofs.YtnjomdjkbbhdoaaDoor
open Go.RowKit
set_option linter.unusedVariables false
set_option linter.unusedSimpArgs false
set_option maxRecDepth 100000
set_option maxHeartbeats 400000 in
theorem pInsertion {g c : Nat} {ts : List T} {xs tl : List Value} {a b : Nat} {σ : Hp} {w : World} (hi : Imm σ w) (hg : w.heap[g]? = some (rowO xs tl 30)) (hd : σ g = none) (hr : RowC σ xs ts) (hm : ts.length ≤ maxKids) (hab : a ≤ b) (hb : b ≤ ts.length) (hc : ts.length ≤ c) :
    Calls Tryd.prog 109 #[.slice (some ⟨g, 0, none⟩) ts.length c, .int .i64 (a : Int), .int .i64 (b : Int), .func (.func 57) #[] #[]] w (GiveM g tl 30 σ (fun us => InR a b us ts ∧ SortedR a b us) w) := by
  have hm2 := hm
  unfold maxKids at hm2
  refine enter (St w (· = g) σ [(g, rowO xs tl 30)] []) Tryd.func109 rfl Tryd.ntmps109 rfl (St.startM hi hg hd) ?_
  refine cw_seq ?_
  refine cw_region ?_
  refine ow_val rfl rfl (ex_move rfl) ?_
  refine ow_val rfl rfl (ex_addi (z := ((a + 1 : Nat) : Int)) rfl rfl (by omega) (by omega) (by omega)) ?_
  refine ow_val rfl rfl (ex_assign rfl) ?_
  refine ow_nil ?_
  refine qw_seq ?_
  refine cw_block ?_
  refine cw_loopH3 (fun (i : Nat) (us : List T) (ys : List Value) => [(0, .slice (some ⟨g, 0, none⟩) ts.length c), (1, .int .i64 (a : Int)), (2, .int .i64 (b : Int)), (3, .func (.func 57) #[] #[]), (8, .int .i64 (i : Int))]) (fun i us ys => a + 1 ≤ i ∧ (i ≤ b ∨ i = a + 1) ∧ InR a b us ts ∧ SortedR a i us ∧ RowC σ ys us) (fun i us ys => σ) (fun i us ys => [(g, rowO ys tl 30)]) (fun i us ys => []) (fun i us ys => b - i) (a + 1) ts xs (subL_cons (lkv rfl (by first | rfl | simp)) (subL_cons (lkv rfl (by first | rfl | simp)) (subL_cons (lkv rfl (by first | rfl | simp)) (subL_cons (lkv rfl (by first | rfl | simp)) (subL_cons (lkv rfl (by first | rfl | simp)) (subL_nil _)))))) ⟨Nat.le_refl _, .inr rfl, InR.refl _ _ _, fun j _ h1 h2 => absurd h2 (by omega), hr⟩ (fun w h => h) ?_
  intro i us ys ⟨hai, hib', hin, hso, hrow⟩
  refine cw_seq ?_
  refine cw_seq ?_
  refine cw_region ?_
  refine ow_val rfl rfl (ex_move rfl) ?_
  refine ow_val rfl rfl (ex_move rfl) ?_
  refine ow_val rfl rfl (ex_lss rfl rfl) ?_
  refine ow_nil ?_
  refine qw_seq ?_
  refine cw_cond rfl (fun c14 => ?_) (fun c14 => ?_)
  ·
    refine cw_skip ?_
    refine qw_seq ?_
    refine cw_seq ?_
    refine cw_block ?_
    refine cw_seq ?_
    have hib : i < b := by simpa using c14
    refine cw_region ?_
    refine ow_val rfl rfl (ex_move rfl) ?_
    refine ow_val rfl rfl (ex_assign rfl) ?_
    refine ow_nil ?_
    refine qw_seq ?_
    refine cw_block ?_
    refine cw_loopH3 (fun (j : Nat) (ui : List T) (yi : List Value) => [(0, .slice (some ⟨g, 0, none⟩) ts.length c), (1, .int .i64 (a : Int)), (2, .int .i64 (b : Int)), (3, .func (.func 57) #[] #[]), (8, .int .i64 (i : Int)), (9, .int .i64 (j : Int))]) (fun j ui yi => a ≤ j ∧ j ≤ i ∧ InR a b ui ts ∧ InsInv a i j ui ∧ RowC σ yi ui) (fun j ui yi => σ) (fun j ui yi => [(g, rowO yi tl 30)]) (fun j ui yi => []) (fun j ui yi => j) i us ys (subL_cons (lkv rfl (by first | rfl | simp)) (subL_cons (lkv rfl (by first | rfl | simp)) (subL_cons (lkv rfl (by first | rfl | simp)) (subL_cons (lkv rfl (by first | rfl | simp)) (subL_cons (lkv rfl (by first | rfl | simp)) (subL_cons (lkv rfl (by first | rfl | simp)) (subL_nil _))))))) ⟨by omega, Nat.le_refl _, hin, InsInv.start hso, hrow⟩ (fun w h => h) ?_
    intro j ui yi ⟨haj, hji, hini, hinv, hri⟩
    have hul := hini.1
    refine cw_seq ?_
    refine cw_cut1 34 (.bool (decide ((a : Int) < (j : Int)) && decide (ord (ui.getD j zeroT) (ui.getD (j - 1) zeroT) < 0))) ?_ ?_
    ·
      refine flow_sound 17 (by kernel_rfl) ?_
      refine flow_val rfl (ex_move rfl) ?_
      refine flow_val rfl (ex_move rfl) ?_
      refine flow_val rfl (ex_gtr rfl rfl) ?_
      refine flow_val rfl (ex_move rfl) ?_
      refine flow_split rfl (fun s21 => ?_) (fun s21 => ?_)
      ·
        have hpos : a < j := by simpa using s21
        obtain ⟨csj, htj, hxj⟩ := hri.at j (by omega)
        obtain ⟨csk, htk, hxk⟩ := hri.at (j - 1) (by omega)
        rw [show ui[j] = ui.getD j zeroT by simp [List.getD_eq_getElem?_getD, show j < ui.length by omega]] at htj
        rw [show ui[j - 1] = ui.getD (j - 1) zeroT by simp [List.getD_eq_getElem?_getD, show j - 1 < ui.length by omega]] at htk
        refine flow_val (gd_go rfl s21) (ex_move rfl) ?_
        refine flow_val (gd_go rfl s21) (ex_move rfl) ?_
        refine flow_val (gd_go rfl s21) (ex_move rfl) ?_
        refine flow_val (gd_go rfl s21) (ex_index_nat rfl rfl (by omega)) ?_
        refine flow_val (gd_go rfl s21) (ex_loadR rfl (ld_rowH 0 rfl htj.len hxj)) ?_
        refine flow_val (gd_go rfl s21) (ex_move rfl) ?_
        refine flow_val (gd_go rfl s21) (ex_move rfl) ?_
        refine flow_val (gd_go rfl s21) (ex_subi (z := ((j - 1 : Nat) : Int)) rfl rfl (by omega) (by omega) (by omega)) ?_
        refine flow_val (gd_go rfl s21) (ex_index_nat rfl rfl (by omega)) ?_
        refine flow_val (gd_go rfl s21) (ex_loadR rfl (ld_rowH 0 rfl htk.len hxk)) ?_
        refine flow_cv (gd_go rfl s21) (ex_call (cs := []) rfl rfl (fun w h => callB ((pOrder _ _ h.im htj htk)))) ?_
        refine flow_val (gd_go rfl s21) (ex_lss rfl rfl) ?_
        refine flow_val rfl (ex_pickt rfl s21 rfl) ?_
        refine flow_nil ?_
        refine fin_is ?_
        refine fin_is ?_
        refine fin_is ?_
        refine fin_is ?_
        refine fin_is ?_
        refine fin_is ?_
        refine fin_is ?_
        refine fin_is ?_
        refine fin_is ?_
        refine fin_is ?_
        refine fin_is ?_
        refine fin_is ?_
        refine fin_is ?_
        refine fin_is ?_
        refine fin_is ?_
        refine fin_is ?_
        refine fin_is ?_
        refine fin_nil ?_
        refine ow_nil ?_
        exact qw_meet (subL_meet 17 34 (lkv rfl (by first | rfl | (simp_all; done) | (simp_all <;> omega))) rfl rfl) (fun w h => h)
      ·
        refine flow_skip (gd_no rfl s21) ?_
        refine flow_skip (gd_no rfl s21) ?_
        refine flow_skip (gd_no rfl s21) ?_
        refine flow_skip (gd_no rfl s21) ?_
        refine flow_skip (gd_no rfl s21) ?_
        refine flow_skip (gd_no rfl s21) ?_
        refine flow_skip (gd_no rfl s21) ?_
        refine flow_skip (gd_no rfl s21) ?_
        refine flow_skip (gd_no rfl s21) ?_
        refine flow_skip (gd_no rfl s21) ?_
        refine flow_skip (gd_no rfl s21) ?_
        refine flow_skip (gd_no rfl s21) ?_
        refine flow_val rfl (ex_pickf rfl s21 rfl) ?_
        refine flow_nil ?_
        refine fin_is ?_
        refine fin_is ?_
        refine fin_is ?_
        refine fin_is ?_
        refine fin_is ?_
        refine fin_is ?_
        refine fin_is ?_
        refine fin_is ?_
        refine fin_is ?_
        refine fin_is ?_
        refine fin_is ?_
        refine fin_is ?_
        refine fin_is ?_
        refine fin_is ?_
        refine fin_is ?_
        refine fin_is ?_
        refine fin_is ?_
        refine fin_nil ?_
        refine ow_nil ?_
        exact qw_meet (subL_meet 17 34 (lkv rfl (by first | rfl | (simp_all; done) | (simp_all <;> omega))) rfl rfl) (fun w h => h)
    ·
      refine cw_cond rfl (fun c34 => ?_) (fun c34 => ?_)
      ·
        refine cw_skip ?_
        refine qw_seq ?_
        refine cw_seq ?_
        refine cw_block ?_
        have hpos : a < j := by simp at c34; omega
        have hlt : ord (ui.getD j zeroT) (ui.getD (j - 1) zeroT) < 0 := by simp only [Bool.and_eq_true, decide_eq_true_eq] at c34; exact c34.2
        obtain ⟨csj, htj, hxj⟩ := hri.at j (by omega)
        obtain ⟨csk, htk, hxk⟩ := hri.at (j - 1) (by omega)
        have hxl := hri.len
        refine flow_sound2 (S' := St w (· = g) σ [(g, rowO (setX yi j csk) tl 30)] []) 15 [2, 3, 4] (by kernel_rfl) ?_
        refine flow_val rfl (ex_move rfl) ?_
        refine flow_val rfl (ex_move rfl) ?_
        refine flow_val rfl (ex_move rfl) ?_
        refine flow_val rfl (ex_move rfl) ?_
        refine flow_val rfl (ex_subi (z := ((j - 1 : Nat) : Int)) rfl rfl (by omega) (by omega) (by omega)) ?_
        refine flow_val rfl (ex_move rfl) ?_
        refine flow_val rfl (ex_move rfl) ?_
        refine flow_val rfl (ex_subi (z := ((j - 1 : Nat) : Int)) rfl rfl (by omega) (by omega) (by omega)) ?_
        refine flow_val rfl (ex_index_nat rfl rfl (by omega)) ?_
        refine flow_val rfl (ex_loadR rfl (ld_rowH 0 rfl htk.len hxk)) ?_
        refine flow_val rfl (ex_move rfl) ?_
        refine flow_val rfl (ex_move rfl) ?_
        refine flow_val rfl (ex_index_nat rfl rfl (by omega)) ?_
        refine flow_val rfl (ex_loadR rfl (ld_rowH 0 rfl htj.len hxj)) ?_
        refine flow_val rfl (ex_index_nat rfl rfl (by omega)) ?_
        refine flow_nil2 (n := 15) rfl rfl (pures_cons rfl rfl (.tail _ (.tail _ (.tail _ (.tail _ (.tail _ (.tail _ (.tail _ (.tail _ (.tail _ (.tail _ (.tail _ (.tail _ (.head _))))))))))))) (obk (ob_val rfl (ex_move rfl))) (pures_cons rfl rfl (.tail _ (.tail _ (.tail _ (.tail _ (.tail _ (.tail _ (.tail _ (.tail _ (.tail _ (.tail _ (.tail _ (.head _)))))))))))) (obk (ob_val rfl (ex_move rfl))) (pures_cons rfl rfl (.tail _ (.tail _ (.tail _ (.tail _ (.tail _ (.tail _ (.tail _ (.tail _ (.tail _ (.tail _ (.head _))))))))))) (obk (ob_val rfl (ex_subi (z := ((j - 1 : Nat) : Int)) rfl rfl (by omega) (by omega) (by omega)))) pures_nil))) ?_ ?_
        ·
          refine finu_is rfl ?_
          refine finu_is rfl ?_
          refine finu_is rfl ?_
          refine finu_is rfl ?_
          refine finu_is rfl ?_
          refine finu_is rfl ?_
          refine finu_is rfl ?_
          refine finu_is rfl ?_
          refine finu_is rfl ?_
          refine finu_is rfl ?_
          refine finu_drop ?_
          refine finu_drop ?_
          refine finu_drop ?_
          refine finu_is rfl ?_
          refine finu_is rfl ?_
          exact finu_nil (exu_storeX 0 rfl rfl rfl htk.len htk.one (by omega))
        ·
          refine fin_is ?_
          refine fin_is ?_
          refine fin_is ?_
          refine fin_is ?_
          refine fin_is ?_
          refine fin_is ?_
          refine fin_is ?_
          refine fin_is ?_
          refine fin_is ?_
          refine fin_is ?_
          refine fin_is ?_
          refine fin_is ?_
          refine fin_is ?_
          refine fin_is ?_
          refine fin_is ?_
          refine fin_nil ?_
          refine ow_val rfl rfl (ex_index_nat rfl rfl (by omega)) ?_
          refine ow_u rfl (exu_storeX 0 rfl rfl rfl htj.len htj.one (by rw [setX_len htk.len (by omega)]; omega)) ?_
          refine ow_nil ?_
          refine qw_block_normal ?_
          refine qw_seq ?_
          refine cw_region ?_
          refine ow_val rfl rfl (ex_move rfl) ?_
          refine ow_val rfl rfl (ex_subi (z := ((j - 1 : Nat) : Int)) rfl rfl (by omega) (by omega) (by omega)) ?_
          refine ow_val rfl rfl (ex_assign rfl) ?_
          refine ow_nil ?_
          refine qw_roundH3 (j - 1) (swapL ui j (j - 1) (by omega) (by omega)) (setX (setX yi j csk) (j - 1) csj) (by omega) (subL_cons (lkv rfl (by first | rfl | simp)) (subL_cons (lkv rfl (by first | rfl | simp)) (subL_cons (lkv rfl (by first | rfl | simp)) (subL_cons (lkv rfl (by first | rfl | simp)) (subL_cons (lkv rfl (by first | rfl | simp)) (subL_cons (lkv rfl (by first | rfl | simp)) (subL_nil _))))))) ⟨by omega, by omega, (swapL_inR (by omega) (by omega) (by omega) (by omega) (by omega) (by omega)).trans hini, InsInv.step (by omega) hpos hji hinv ?_, ?_⟩ (fun w h => h)
          · simpa only [List.getD_eq_getElem?_getD, List.getElem?_eq_getElem (show j < ui.length by omega), List.getElem?_eq_getElem (show j - 1 < ui.length by omega), Option.getD_some] using hlt
          · exact (hri.set j htk (by omega)).set (j - 1) htj (by rw [List.length_set]; omega)
      ·
        refine cw_exit ?_
        refine qw_then_exit ?_
        refine qw_then_exit ?_
        refine qw_block_exit ?_
        refine qw_block_normal ?_
        refine qw_seq ?_
        refine cw_region ?_
        refine ow_val rfl rfl (ex_move rfl) ?_
        refine ow_val rfl rfl (ex_addi (z := ((i + 1 : Nat) : Int)) rfl rfl (by omega) (by omega) (by omega)) ?_
        refine ow_val rfl rfl (ex_assign rfl) ?_
        refine ow_nil ?_
        exact qw_roundH3 (i + 1) ui yi (by omega) (subL_cons (lkv rfl (by first | rfl | simp)) (subL_cons (lkv rfl (by first | rfl | simp)) (subL_cons (lkv rfl (by first | rfl | simp)) (subL_cons (lkv rfl (by first | rfl | simp)) (subL_cons (lkv rfl (by first | rfl | simp)) (subL_nil _)))))) ⟨by omega, by omega, hini, InsInv.fin (by omega) hinv (fun haj => by
          simp only [Bool.and_eq_false_iff, decide_eq_false_iff_not] at c34
          rcases c34 with c34 | c34
          · omega
          · simp only [List.getD_eq_getElem?_getD, List.getElem?_eq_getElem (show j < ui.length by omega), List.getElem?_eq_getElem (show j - 1 < ui.length by omega), Option.getD_some] at c34
            omega), hri⟩ (fun w h => h)
  ·
    refine cw_exit ?_
    refine qw_then_exit ?_
    refine qw_then_exit ?_
    refine qw_block_exit ?_
    refine qw_end0 rfl (fun w' h => h.givesM hrow ⟨hin, fun j h h1 h2 => hso j h h1 ?_⟩)
    simp at c14
    omega
end Go.Proofs.YtnjomdjkbbhdoaaDoor
namespace Go.Proofs.YtnjomdjkbbhdoaaDoor
open Go.RowKit
set_option linter.unusedVariables false
set_option linter.unusedSimpArgs false
set_option maxRecDepth 100000
set_option maxHeartbeats 400000 in
theorem pInsertion0 {p : Option Addr} {c : Nat} {w : World} : Calls Tryd.prog 109 #[.slice p 0 c, .int .i64 (0 : Int), .int .i64 (0 : Int), .func (.func 57) #[] #[]] w fun e w' => e = .returned (.tuple #[]) ∧ Below w.heap.size w w' := by
  refine enter (St w (fun _ => False) (fun _ => none) [] []) Tryd.func109 rfl Tryd.ntmps109 rfl (St.start (fun _ _ h => by cases h)) ?_
  refine cw_seq ?_
  refine cw_region ?_
  refine ow_val rfl rfl (ex_move rfl) ?_
  refine ow_val rfl rfl (ex_addi (z := (1 : Int)) rfl rfl (by omega) (by omega) (by omega)) ?_
  refine ow_val rfl rfl (ex_assign rfl) ?_
  refine ow_nil ?_
  refine qw_seq ?_
  refine cw_block ?_
  refine cw_loopS (α := Unit) (fun _ => [(0, .slice p 0 c), (1, .int .i64 (0 : Int)), (2, .int .i64 (0 : Int)), (3, .func (.func 57) #[] #[]), (8, .int .i64 (1 : Int))]) (fun _ => True) (fun _ => 0) () (subL_cons (lkv rfl (by first | rfl | simp)) (subL_cons (lkv rfl (by first | rfl | simp)) (subL_cons (lkv rfl (by first | rfl | simp)) (subL_cons (lkv rfl (by first | rfl | simp)) (subL_cons (lkv rfl (by first | rfl | simp)) (subL_nil _)))))) trivial ?_
  intro _ _
  refine cw_seq ?_
  refine cw_seq ?_
  refine cw_region ?_
  refine ow_val rfl rfl (ex_move rfl) ?_
  refine ow_val rfl rfl (ex_move rfl) ?_
  refine ow_val rfl rfl (ex_lss rfl rfl) ?_
  refine ow_nil ?_
  refine qw_seq ?_
  refine cw_cond rfl (fun c14 => ?_) (fun c14 => ?_)
  ·
    simp at c14
  ·
    refine cw_exit ?_
    refine qw_then_exit ?_
    refine qw_then_exit ?_
    refine qw_block_exit ?_
    refine qw_end0 rfl (fun w' h => ⟨rfl, h.ag.below⟩)
set_option maxHeartbeats 400000 in
theorem pStable0 {p : Option Addr} {c : Nat} {w : World} : Calls Tryd.prog 90 #[.slice p 0 c, .int .i64 (0 : Int), .func (.func 57) #[] #[]] w fun e w' => e = .returned (.tuple #[]) ∧ Below w.heap.size w w' := by
  refine enter (St w (fun _ => False) (fun _ => none) [] []) Tryd.func90 rfl Tryd.ntmps90 rfl (St.start (fun _ _ h => by cases h)) ?_
  refine cw_seq ?_
  refine cw_region ?_
  refine ow_val rfl rfl (ex_assign rfl) ?_
  refine ow_nil ?_
  refine qw_seq ?_
  refine cw_seq ?_
  refine cw_region ?_
  refine ow_val rfl rfl (ex_move rfl) ?_
  refine ow_val rfl rfl (ex_assign rfl) ?_
  refine ow_val rfl rfl (ex_assign rfl) ?_
  refine ow_nil ?_
  refine qw_seq ?_
  refine cw_seq ?_
  refine cw_block ?_
  refine cw_loopS (α := Unit) (fun _ => [(0, .slice p 0 c), (1, .int .i64 (0 : Int)), (2, .func (.func 57) #[] #[]), (6, .int .i64 (20 : Int)), (7, .int .i64 (0 : Int)), (8, .int .i64 (20 : Int))]) (fun _ => True) (fun _ => 0) () (subL_cons (lkv rfl (by first | rfl | simp)) (subL_cons (lkv rfl (by first | rfl | simp)) (subL_cons (lkv rfl (by first | rfl | simp)) (subL_cons (lkv rfl (by first | rfl | simp)) (subL_cons (lkv rfl (by first | rfl | simp)) (subL_cons (lkv rfl (by first | rfl | simp)) (subL_nil _))))))) trivial ?_
  intro _ _
  refine cw_seq ?_
  refine cw_seq ?_
  refine cw_region ?_
  refine ow_val rfl rfl (ex_move rfl) ?_
  refine ow_val rfl rfl (ex_move rfl) ?_
  refine ow_val rfl rfl (ex_leq rfl rfl) ?_
  refine ow_nil ?_
  refine qw_seq ?_
  refine cw_cond rfl (fun c13 => ?_) (fun c13 => ?_)
  ·
    simp at c13
  ·
    refine cw_exit ?_
    refine qw_then_exit ?_
    refine qw_then_exit ?_
    refine qw_block_exit ?_
    refine qw_seq ?_
    refine cw_seq ?_
    refine cw_region ?_
    refine ow_val rfl rfl (ex_move rfl) ?_
    refine ow_val rfl rfl (ex_move rfl) ?_
    refine ow_val rfl rfl (ex_move rfl) ?_
    refine ow_val rfl rfl (ex_move rfl) ?_
    refine ow_cv rfl rfl (ex_callf rfl (fun w h => callB (pInsertion0))) ?_
    refine ow_nil ?_
    refine qw_seq ?_
    refine cw_block ?_
    refine cw_loopS (α := Unit) (fun _ => [(0, .slice p 0 c), (1, .int .i64 (0 : Int)), (2, .func (.func 57) #[] #[]), (6, .int .i64 (20 : Int)), (7, .int .i64 (0 : Int))]) (fun _ => True) (fun _ => 0) () (subL_cons (lkv rfl (by first | rfl | simp)) (subL_cons (lkv rfl (by first | rfl | simp)) (subL_cons (lkv rfl (by first | rfl | simp)) (subL_cons (lkv rfl (by first | rfl | simp)) (subL_cons (lkv rfl (by first | rfl | simp)) (subL_nil _)))))) trivial ?_
    intro _ _
    refine cw_seq ?_
    refine cw_seq ?_
    refine cw_region ?_
    refine ow_val rfl rfl (ex_move rfl) ?_
    refine ow_val rfl rfl (ex_move rfl) ?_
    refine ow_val rfl rfl (ex_lss rfl rfl) ?_
    refine ow_nil ?_
    refine qw_seq ?_
    refine cw_cond rfl (fun c30 => ?_) (fun c30 => ?_)
    ·
      simp at c30
    ·
      refine cw_exit ?_
      refine qw_then_exit ?_
      refine qw_then_exit ?_
      refine qw_block_exit ?_
      refine qw_end0 rfl (fun w' h => ⟨rfl, h.ag.below⟩)
set_option maxHeartbeats 400000 in
theorem pSort0 {p : Option Addr} {c : Nat} {w : World} : Calls Tryd.prog 70 #[.slice p 0 c, .func (.func 57) #[] #[]] w fun e w' => e = .returned (.tuple #[]) ∧ Below w.heap.size w w' := by
  refine enter (St w (fun _ => False) (fun _ => none) [] []) Tryd.func70 rfl Tryd.ntmps70 rfl (St.start (fun _ _ h => by cases h)) ?_
  refine cw_region ?_
  refine ow_val rfl rfl (ex_move rfl) ?_
  refine ow_val rfl rfl (ex_move rfl) ?_
  refine ow_val rfl rfl (ex_len (ty := 0) rfl) ?_
  refine ow_val rfl rfl (ex_move rfl) ?_
  refine ow_cv rfl rfl (ex_callf rfl (fun w h => callB (pStable0))) ?_
  refine ow_nil ?_
  refine qw_end0 rfl (fun w' h => ⟨rfl, h.ag.below⟩)
set_option maxHeartbeats 400000 in
theorem pStableS {g c : Nat} {ts : List T} {xs tl : List Value} {σ : Hp} {w : World} (hi : Imm σ w) (hg : w.heap[g]? = some (rowO xs tl 30)) (hd : σ g = none) (hr : RowC σ xs ts) (hm : ts.length < 20) (hc : ts.length ≤ c) : Calls Tryd.prog 90 #[.slice (some ⟨g, 0, none⟩) ts.length c, .int .i64 (ts.length : Int), .func (.func 57) #[] #[]] w (GiveM g tl 30 σ (fun us => us.Perm ts ∧ sorted us = true) w) := by
  refine enter (St w (· = g) σ [(g, rowO xs tl 30)] []) Tryd.func90 rfl Tryd.ntmps90 rfl (St.startM hi hg hd) ?_
  refine cw_seq ?_
  refine cw_region ?_
  refine ow_val rfl rfl (ex_assign rfl) ?_
  refine ow_nil ?_
  refine qw_seq ?_
  refine cw_seq ?_
  refine cw_region ?_
  refine ow_val rfl rfl (ex_move rfl) ?_
  refine ow_val rfl rfl (ex_assign rfl) ?_
  refine ow_val rfl rfl (ex_assign rfl) ?_
  refine ow_nil ?_
  refine qw_seq ?_
  refine cw_seq ?_
  refine cw_block ?_
  refine cw_loopS (α := Unit) (fun _ => [(0, .slice (some ⟨g, 0, none⟩) ts.length c), (1, .int .i64 (ts.length : Int)), (2, .func (.func 57) #[] #[]), (6, .int .i64 (20 : Int)), (7, .int .i64 (0 : Int)), (8, .int .i64 (20 : Int))]) (fun _ => True) (fun _ => 0) () (subL_cons (lkv rfl (by first | rfl | simp)) (subL_cons (lkv rfl (by first | rfl | simp)) (subL_cons (lkv rfl (by first | rfl | simp)) (subL_cons (lkv rfl (by first | rfl | simp)) (subL_cons (lkv rfl (by first | rfl | simp)) (subL_cons (lkv rfl (by first | rfl | simp)) (subL_nil _))))))) trivial ?_
  intro _ _
  refine cw_seq ?_
  refine cw_seq ?_
  refine cw_region ?_
  refine ow_val rfl rfl (ex_move rfl) ?_
  refine ow_val rfl rfl (ex_move rfl) ?_
  refine ow_val rfl rfl (ex_leq rfl rfl) ?_
  refine ow_nil ?_
  refine qw_seq ?_
  refine cw_cond rfl (fun c13 => ?_) (fun c13 => ?_)
  ·
    simp at c13; omega
  ·
    refine cw_exit ?_
    refine qw_then_exit ?_
    refine qw_then_exit ?_
    refine qw_block_exit ?_
    refine qw_seq ?_
    refine cw_seq ?_
    refine cw_region ?_
    refine ow_val rfl rfl (ex_move rfl) ?_
    refine ow_val rfl rfl (ex_move rfl) ?_
    refine ow_val rfl rfl (ex_move rfl) ?_
    refine ow_val rfl rfl (ex_move rfl) ?_
    refine ow_cmd rfl rfl (ex_callf rfl (fun w h => callM (pInsertion (a := 0) (b := ts.length) h.im (h.own (p := (g, rowO xs tl 30)) List.mem_cons_self) (h.fresh (p := (g, rowO xs tl 30)) List.mem_cons_self) hr (by unfold maxKids; omega) (Nat.zero_le _) (Nat.le_refl _) hc))) (fun v27 us ys hR hr2 => ?_)
    refine ow_nil ?_
    refine qw_seq ?_
    refine cw_block ?_
    refine cw_loopS (α := Unit) (fun _ => [(0, .slice (some ⟨g, 0, none⟩) ts.length c), (1, .int .i64 (ts.length : Int)), (2, .func (.func 57) #[] #[]), (6, .int .i64 (20 : Int)), (7, .int .i64 (0 : Int))]) (fun _ => True) (fun _ => 0) () (subL_cons (lkv rfl (by first | rfl | simp)) (subL_cons (lkv rfl (by first | rfl | simp)) (subL_cons (lkv rfl (by first | rfl | simp)) (subL_cons (lkv rfl (by first | rfl | simp)) (subL_cons (lkv rfl (by first | rfl | simp)) (subL_nil _)))))) trivial ?_
    intro _ _
    refine cw_seq ?_
    refine cw_seq ?_
    refine cw_region ?_
    refine ow_val rfl rfl (ex_move rfl) ?_
    refine ow_val rfl rfl (ex_move rfl) ?_
    refine ow_val rfl rfl (ex_lss rfl rfl) ?_
    refine ow_nil ?_
    refine qw_seq ?_
    refine cw_cond rfl (fun c30 => ?_) (fun c30 => ?_)
    ·
      simp at c30; omega
    ·
      refine cw_exit ?_
      refine qw_then_exit ?_
      refine qw_then_exit ?_
      refine qw_block_exit ?_
      refine qw_end0 rfl (fun w' h => h.givesM hr2 (sorted_of hR.1 hR.2))
set_option maxHeartbeats 400000 in
theorem pSortS {g c : Nat} {ts : List T} {xs tl : List Value} {σ : Hp} {w : World} (hi : Imm σ w) (hg : w.heap[g]? = some (rowO xs tl 30)) (hd : σ g = none) (hr : RowC σ xs ts) (hm : ts.length < 20) (hc : ts.length ≤ c) : Calls Tryd.prog 70 #[.slice (some ⟨g, 0, none⟩) ts.length c, .func (.func 57) #[] #[]] w (GiveM g tl 30 σ (fun us => us.Perm ts ∧ sorted us = true) w) := by
  refine enter (St w (· = g) σ [(g, rowO xs tl 30)] []) Tryd.func70 rfl Tryd.ntmps70 rfl (St.startM hi hg hd) ?_
  refine cw_region ?_
  refine ow_val rfl rfl (ex_move rfl) ?_
  refine ow_val rfl rfl (ex_move rfl) ?_
  refine ow_val rfl rfl (ex_len (ty := 0) rfl) ?_
  refine ow_val rfl rfl (ex_move rfl) ?_
  refine ow_cmd rfl rfl (ex_callf rfl (fun w h => callM (pStableS h.im (h.own (p := (g, rowO xs tl 30)) List.mem_cons_self) (h.fresh (p := (g, rowO xs tl 30)) List.mem_cons_self) hr hm hc))) (fun v8 us ys hR hr2 => ?_)
  refine ow_nil ?_
  refine qw_end0 rfl (fun w' h => h.givesM hr2 hR)
theorem pSortsS : SortsAt Tryd.prog 70 57 30 19 := fun hn hi hg hd hr hm hc => by subst hn; exact pSortS hi hg hd hr (by omega) hc
end Go.Proofs.YtnjomdjkbbhdoaaDoor
namespace Go.Proofs.YtnjomdjkbbhdoaaDoor
open Go.RowKit
set_option linter.unusedVariables false
set_option linter.unusedSimpArgs false
set_option maxRecDepth 100000
set_option maxHeartbeats 400000 in
theorem pBytesClone {d : List UInt8} {σ : Hp} {v : Value} {w : World} (hi : Imm σ w) (hd : BytesV σ v d) : Calls Tryd.prog 58 #[v] w (GiveR (RepB d) σ w) := by
  have hd0 := hd
  obtain ⟨pd, cd, rfl, hcd, hmd, hsrc⟩ := hd.row
  have hmd2 := hmd
  unfold maxData at hmd2
  have hml : (140737488355328 : Nat) ≤ maxLen := by unfold maxLen; omega
  refine enter (St w (fun _ => False) σ [] []) Tryd.func58 rfl Tryd.ntmps58 rfl (St.start hi) ?_
  refine cw_seq ?_
  refine cw_region ?_
  refine ow_val rfl rfl (ex_assign rfl) ?_
  refine ow_nil ?_
  refine qw_seq ?_
  refine cw_seq ?_
  refine cw_seq ?_
  refine cw_region ?_
  refine ow_val rfl rfl (ex_move rfl) ?_
  refine ow_val rfl rfl (ex_isnil rfl) ?_
  refine ow_nil ?_
  refine qw_seq ?_
  refine cw_cond rfl (fun c4 => ?_) (fun c4 => ?_)
  ·
    refine cw_seq ?_
    refine cw_region ?_
    refine ow_val rfl rfl (ex_assign rfl) ?_
    refine ow_nil ?_
    refine qw_seq ?_
    refine cw_ret ?_
    refine qw_then_ret ?_
    refine qw_ret1 rfl rfl (fun w' h => ?_)
    have : d = [] := by
      rcases hsrc with h0 | ⟨b, o, hp, _⟩
      · exact List.eq_nil_of_length_eq_zero h0
      · rw [hp] at c4; cases c4
    rw [this]
    exact h.gives (Le.refl _) (Fresh.refl _ _) (BytesV.nil σ)
  ·
    refine cw_skip ?_
    refine qw_seq ?_
    refine cw_seq ?_
    refine cw_region ?_
    refine ow_slit rfl rfl exw_slit0 ?_; intro b5
    refine ow_mono (fun w h => h.toG) ?_
    refine ow_val rfl rfl (ex_move rfl) ?_
    refine ow_app1 rfl rfl (exw_append1 (news := d.map byteV) rfl rfl (OwnSl.lit0 5 1 b5) (by simp) (hsrc.imp id fun ⟨b, f, hp, hca⟩ => ⟨b, f, hp, fun w h => hca.range h.im⟩) (bytes_one d) (by omega) (by omega)) (fun v7 G7 hO7 hz7 => ?_)
    refine ow_val rfl rfl (ex_assign rfl) ?_
    refine ow_nil ?_
    refine qw_seq ?_
    refine cw_ret ?_
    refine qw_ret1 rfl rfl (fun w' h => ?_)
    obtain ⟨σ', h1, h2, h3, h4⟩ := freezeB (Gr := []) (by simpa using h) (fun _ h => h) hO7 (by simp) hmd
    exact h2.gives h1 h4 h3
set_option maxHeartbeats 400000 in
theorem pTermsClone {ks : List T} {p : Option Addr} {c : Nat} {xs : List Value} {σ : Hp} {w : World} (hi : Imm σ w) (hx : RowC σ xs ks) (hm : ks.length ≤ maxKids) (hsrc : ks = [] ∨ ∃ b f, p = some ⟨b, f, none⟩ ∧ CellsAt σ b f xs) : Calls Tryd.prog 69 #[.slice p ks.length c] w (GiveO 30 4 ks.length xs w) := by
  have hm2 := hm
  unfold maxKids at hm2
  have hxl := hx.len
  have hml : (2199023255553 : Nat) ≤ maxLen := by unfold maxLen; omega
  refine enter (St w (fun _ => False) σ [] []) Tryd.func69 rfl Tryd.ntmps69 rfl (St.start hi) ?_
  refine cw_seq ?_
  refine cw_region ?_
  refine ow_val rfl rfl (ex_assign rfl) ?_
  refine ow_nil ?_
  refine qw_seq ?_
  refine cw_seq ?_
  refine cw_seq ?_
  refine cw_region ?_
  refine ow_val rfl rfl (ex_move rfl) ?_
  refine ow_val rfl rfl (ex_isnil rfl) ?_
  refine ow_nil ?_
  refine qw_seq ?_
  refine cw_cond rfl (fun c4 => ?_) (fun c4 => ?_)
  ·
    refine cw_seq ?_
    refine cw_region ?_
    refine ow_val rfl rfl (ex_assign rfl) ?_
    refine ow_nil ?_
    refine qw_seq ?_
    refine cw_ret ?_
    refine qw_then_ret ?_
    refine qw_ret1 rfl rfl (fun w' h => ?_)
    have : ks = [] := by
      rcases hsrc with h0 | ⟨b, o, hp, _⟩
      · exact h0
      · rw [hp] at c4; cases c4
    subst this
    simp only [RowC] at hx
    subst hx
    exact h.givesO (OwnSl.nil _ _)
  ·
    refine cw_skip ?_
    refine qw_seq ?_
    refine cw_seq ?_
    refine cw_region ?_
    refine ow_slit rfl rfl exw_slit0 ?_; intro b5
    refine ow_mono (fun w h => h.toG) ?_
    refine ow_val rfl rfl (ex_move rfl) ?_
    refine ow_app1 rfl rfl (exw_append1 (news := xs) rfl rfl (OwnSl.lit0 30 4 b5) hxl (hsrc.imp (fun h => by rw [h]; rfl) fun ⟨b, f, hp, hca⟩ => ⟨b, f, hp, fun w h => hca.range h.im⟩) hx.oneCell (by omega) (by omega)) (fun v7 G7 hO7 hz7 => ?_)
    refine ow_val rfl rfl (ex_assign rfl) ?_
    refine ow_nil ?_
    refine qw_seq ?_
    refine cw_ret ?_
    refine qw_ret1 rfl rfl (fun w' h => ?_)
    rw [Nat.zero_add, List.nil_append] at hO7
    exact h.givesO hO7
set_option maxHeartbeats 400000 in
theorem pNorm0 {o n : Int} {d : List UInt8} {σ : Hp} {cs : List Value} {w : World} (hi : Imm σ w) (ht : TermC σ cs (.mk o n d [])) : Calls Tryd.prog 51 #[.agg cs.toArray] w (GiveR (RepT (norm (.mk o n d []))) σ w) := by
  obtain ⟨dv, kv, rfl, ho, hn, hd, hk⟩ := ht.opn
  simp only [T.kids, T.op, T.num, T.data] at *
  obtain ⟨p, c, xs, rfl, hc, hm, hrow, hsrc⟩ := hk.row
  have hm2 := hm
  unfold maxKids at hm2
  simp only [RowC] at hrow
  subst hrow
  refine enter (St w (fun _ => False) σ [] []) Tryd.func51 rfl Tryd.ntmps51 rfl (St.start hi) ?_
  refine cw_seq ?_
  refine cw_region ?_
  refine ow_blk rfl rfl (exw_box rfl) ?_; intro b1
  refine ow_blk rfl rfl exw_alloc ?_; intro b2
  refine ow_nil ?_
  refine qw_seq ?_
  refine cw_seq ?_
  refine cw_region ?_
  refine ow_val rfl rfl (ex_field rfl) ?_
  refine ow_val rfl rfl (ex_load1 rfl (by first | exact ld_own1 0 rfl rfl | exact ld_own1 1 rfl rfl | exact ld_own1 2 rfl rfl | exact ld_own1 3 rfl rfl | exact ld_own1 4 rfl rfl | exact ld_own1 5 rfl rfl | exact ld_own1 6 rfl rfl | exact ld_own1 7 rfl rfl | exact ld_ownG1 0 rfl rfl | exact ld_ownG1 1 rfl rfl | exact ld_imm1 (by assumption))) ?_
  refine ow_cr rfl rfl (ex_callf rfl (fun w h => callR (pBytesClone h.im hd))) (fun v7 σ1 hl1 hf1 hb7 => ?_)
  refine ow_val rfl rfl (ex_field rfl) ?_
  refine ow_u rfl (exu_store1 1 rfl rfl rfl (BytesV.cell hb7).1 (BytesV.cell hb7).2 rfl) ?_
  refine ow_nil ?_
  refine qw_seq ?_
  refine cw_seq ?_
  refine cw_region ?_
  refine ow_val rfl rfl (ex_field rfl) ?_
  refine ow_val rfl rfl (ex_load1 rfl (by first | exact ld_own1 0 rfl rfl | exact ld_own1 1 rfl rfl | exact ld_own1 2 rfl rfl | exact ld_own1 3 rfl rfl | exact ld_own1 4 rfl rfl | exact ld_own1 5 rfl rfl | exact ld_own1 6 rfl rfl | exact ld_own1 7 rfl rfl | exact ld_ownG1 0 rfl rfl | exact ld_ownG1 1 rfl rfl | exact ld_imm1 (by assumption))) ?_
  refine ow_co rfl rfl (ex_callf rfl (fun w h => callO (pTermsClone (ks := []) (xs := []) h.im rfl (Nat.zero_le _) (.inl rfl)))) (fun v11 G11 hO11 => ?_)
  obtain ⟨q, c2, rfl⟩ : ∃ q c2, v11 = .slice q 0 c2 := by
    rcases hO11.2 with ⟨rfl, _⟩ | ⟨g, c2, cur, rfl, _⟩
    · exact ⟨_, _, rfl⟩
    · exact ⟨_, _, rfl⟩
  refine ow_val rfl rfl (ex_field rfl) ?_
  refine ow_u rfl (exu_store1 1 rfl rfl rfl rfl rfl rfl) ?_
  refine ow_nil ?_
  refine qw_seq ?_
  refine cw_seq ?_
  refine cw_seq ?_
  refine cw_region ?_
  refine ow_val rfl rfl (ex_field rfl) ?_
  refine ow_val rfl rfl (ex_load1 rfl (by first | exact ld_own1 0 rfl rfl | exact ld_own1 1 rfl rfl | exact ld_own1 2 rfl rfl | exact ld_own1 3 rfl rfl | exact ld_own1 4 rfl rfl | exact ld_own1 5 rfl rfl | exact ld_own1 6 rfl rfl | exact ld_own1 7 rfl rfl | exact ld_ownG1 0 rfl rfl | exact ld_ownG1 1 rfl rfl | exact ld_imm1 (by assumption))) ?_
  refine ow_val rfl rfl (ex_len (ty := 0) rfl) ?_
  refine ow_val rfl rfl (ex_move rfl) ?_
  refine ow_nil ?_
  refine qw_seq ?_
  refine cw_block ?_
  refine cw_loopS (α := Unit) (fun _ => [(1, .pointer (some ⟨b1, 0, none⟩)), (2, .pointer (some ⟨b2, 0, none⟩)), (14, .slice q 0 c2), (15, .int .i64 (0 : Int)), (16, .int .i64 (0 : Int))]) (fun _ => True) (fun _ => 0) () (subL_cons (lkv rfl (by first | rfl | simp)) (subL_cons (lkv rfl (by first | rfl | simp)) (subL_cons (lkv rfl (by first | rfl | simp)) (subL_cons (lkv rfl (by first | rfl | simp)) (subL_cons (lkv rfl (by first | rfl | simp)) (subL_nil _)))))) trivial ?_
  intro _ _
  refine cw_seq ?_
  refine cw_region ?_
  refine ow_val rfl rfl (ex_lss rfl rfl) ?_
  refine ow_nil ?_
  refine qw_seq ?_
  refine cw_seq ?_
  refine cw_cond rfl (fun c17 => ?_) (fun c17 => ?_)
  ·
    simp at c17
  ·
    refine cw_exit ?_
    refine qw_then_exit ?_
    refine qw_then_exit ?_
    refine qw_block_exit ?_
    refine qw_seq ?_
    refine cw_seq ?_
    refine cw_seq ?_
    refine cw_region ?_
    refine ow_val rfl rfl (ex_field rfl) ?_
    refine ow_val rfl rfl (ex_load1 rfl (by first | exact ld_own1 0 rfl rfl | exact ld_own1 1 rfl rfl | exact ld_own1 2 rfl rfl | exact ld_own1 3 rfl rfl | exact ld_own1 4 rfl rfl | exact ld_own1 5 rfl rfl | exact ld_own1 6 rfl rfl | exact ld_own1 7 rfl rfl | exact ld_ownG1 0 rfl rfl | exact ld_ownG1 1 rfl rfl | exact ld_imm1 (by assumption))) ?_
    refine ow_val rfl rfl (ex_eql rfl rfl) ?_
    refine ow_nil ?_
    refine qw_seq ?_
    refine cw_cond rfl (fun c30 => ?_) (fun c30 => ?_)
    ·
      refine cw_region ?_
      refine ow_val rfl rfl (ex_field rfl) ?_
      refine ow_val rfl rfl (ex_load1 rfl (by first | exact ld_own1 0 rfl rfl | exact ld_own1 1 rfl rfl | exact ld_own1 2 rfl rfl | exact ld_own1 3 rfl rfl | exact ld_own1 4 rfl rfl | exact ld_own1 5 rfl rfl | exact ld_own1 6 rfl rfl | exact ld_own1 7 rfl rfl | exact ld_ownG1 0 rfl rfl | exact ld_ownG1 1 rfl rfl | exact ld_imm1 (by assumption))) ?_
      refine ow_cv rfl rfl (ex_callf rfl (fun w h => callB (pSort0))) ?_
      refine ow_nil ?_
      refine qw_seq ?_
      refine cw_seq ?_
      refine cw_region ?_
      refine ow_val rfl rfl (ex_loadR rfl (by first | exact ld_ownN 0 rfl rfl | exact ld_ownN 1 rfl rfl | exact ld_ownN 2 rfl rfl | exact ld_ownN 3 rfl rfl | exact ld_ownN 4 rfl rfl | exact ld_ownN 5 rfl rfl | exact ld_ownN 6 rfl rfl | exact ld_ownN 7 rfl rfl | exact ld_ownGN 0 rfl rfl | exact ld_ownGN 1 rfl rfl | exact ld_immT (by assumption) (by assumption))) ?_
      refine ow_u rfl (exu_storeN 0 rfl rfl rfl rfl (four_one (BytesV.cell hb7).2 rfl) rfl) ?_
      refine ow_nil ?_
      refine qw_seq ?_
      refine cw_ret ?_
      refine qw_retC rfl rfl (ld_ownN 0 rfl rfl) (fun w' h => ?_)
      obtain ⟨σ', h1, h2, h3, h4⟩ := freezeG (ts := []) (Gr := []) (by simpa using h) (fun _ h => h) hO11 rfl (Nat.zero_le _)
      refine h2.gives (hl1.trans h1) (hf1.trans h4) ⟨_, rfl, ?_⟩
      rw [norm_mk, show (if o = 7 then sortB [] (norms []) else norms []) = ([] : List T) by split <;> rfl]
      exact TermC.mk ho hn (BytesV.le h1 hb7) h3
    ·
      refine cw_skip ?_
      refine qw_seq ?_
      refine cw_seq ?_
      refine cw_region ?_
      refine ow_val rfl rfl (ex_loadR rfl (by first | exact ld_ownN 0 rfl rfl | exact ld_ownN 1 rfl rfl | exact ld_ownN 2 rfl rfl | exact ld_ownN 3 rfl rfl | exact ld_ownN 4 rfl rfl | exact ld_ownN 5 rfl rfl | exact ld_ownN 6 rfl rfl | exact ld_ownN 7 rfl rfl | exact ld_ownGN 0 rfl rfl | exact ld_ownGN 1 rfl rfl | exact ld_immT (by assumption) (by assumption))) ?_
      refine ow_u rfl (exu_storeN 0 rfl rfl rfl rfl (four_one (BytesV.cell hb7).2 rfl) rfl) ?_
      refine ow_nil ?_
      refine qw_seq ?_
      refine cw_ret ?_
      refine qw_retC rfl rfl (ld_ownN 0 rfl rfl) (fun w' h => ?_)
      obtain ⟨σ', h1, h2, h3, h4⟩ := freezeG (ts := []) (Gr := []) (by simpa using h) (fun _ h => h) hO11 rfl (Nat.zero_le _)
      refine h2.gives (hl1.trans h1) (hf1.trans h4) ⟨_, rfl, ?_⟩
      rw [norm_mk, show (if o = 7 then sortB [] (norms []) else norms []) = ([] : List T) by split <;> rfl]
      exact TermC.mk ho hn (BytesV.le h1 hb7) h3
set_option maxHeartbeats 400000 in
theorem pNormN {o : Int} {n : Int} {d : List UInt8} {ks : List T} {B : Nat} (hS : SortsAt Tryd.prog 70 57 30 B) (hBm : B ≤ maxKids) (ih : ∀ k, k ∈ ks → ∀ {σ : Hp} {cs : List Value} {w : World}, Imm σ w → TermC σ cs k → Calls Tryd.prog 51 #[.agg cs.toArray] w (GiveR (RepT (norm k)) σ w)) (hB : ks.length ≤ B) (hpos : 0 < ks.length) {σ : Hp} {cs : List Value} {w : World} (hi : Imm σ w) (ht : TermC σ cs (.mk o n d ks)) : Calls Tryd.prog 51 #[.agg cs.toArray] w (GiveR (RepT (norm (.mk o n d ks))) σ w) := by
  obtain ⟨dv, kv, rfl, ho, hn, hd, hk⟩ := ht.opn
  simp only [T.kids, T.op, T.num, T.data] at *
  obtain ⟨p, c, xs, rfl, hc, hm, hrow, hsrc⟩ := hk.row
  have hm2 := hm
  unfold maxKids at hm2
  refine enter (St w (fun _ => False) σ [] []) Tryd.func51 rfl Tryd.ntmps51 rfl (St.start hi) ?_
  refine cw_seq ?_
  refine cw_region ?_
  refine ow_blk rfl rfl (exw_box rfl) ?_; intro b1
  refine ow_blk rfl rfl exw_alloc ?_; intro b2
  refine ow_nil ?_
  refine qw_seq ?_
  refine cw_seq ?_
  refine cw_region ?_
  refine ow_val rfl rfl (ex_field rfl) ?_
  refine ow_val rfl rfl (ex_load1 rfl (by first | exact ld_own1 0 rfl rfl | exact ld_own1 1 rfl rfl | exact ld_own1 2 rfl rfl | exact ld_own1 3 rfl rfl | exact ld_own1 4 rfl rfl | exact ld_own1 5 rfl rfl | exact ld_own1 6 rfl rfl | exact ld_own1 7 rfl rfl | exact ld_ownG1 0 rfl rfl | exact ld_ownG1 1 rfl rfl | exact ld_imm1 (by assumption))) ?_
  refine ow_cr rfl rfl (ex_callf rfl (fun w h => callR (pBytesClone h.im hd))) (fun v7 σ1 hl1 hf1 hb7 => ?_)
  refine ow_val rfl rfl (ex_field rfl) ?_
  refine ow_u rfl (exu_store1 1 rfl rfl rfl (BytesV.cell hb7).1 (BytesV.cell hb7).2 rfl) ?_
  refine ow_nil ?_
  refine qw_seq ?_
  refine cw_seq ?_
  refine cw_region ?_
  refine ow_val rfl rfl (ex_field rfl) ?_
  refine ow_val rfl rfl (ex_load1 rfl (by first | exact ld_own1 0 rfl rfl | exact ld_own1 1 rfl rfl | exact ld_own1 2 rfl rfl | exact ld_own1 3 rfl rfl | exact ld_own1 4 rfl rfl | exact ld_own1 5 rfl rfl | exact ld_own1 6 rfl rfl | exact ld_own1 7 rfl rfl | exact ld_ownG1 0 rfl rfl | exact ld_ownG1 1 rfl rfl | exact ld_imm1 (by assumption))) ?_
  refine ow_co rfl rfl (ex_callf rfl (fun w h => callO (pTermsClone h.im (hrow.le hl1) hm (hsrc.imp id fun ⟨b, f, hp, hca⟩ => ⟨b, f, hp, hca.le hl1⟩)))) (fun v11 G11 hO11 => ?_)
  obtain ⟨g, c2, tl, rfl, rfl, hc2, hcm2, hxl2⟩ := hO11.open hpos
  refine ow_mono (fun w h => h.ofG) ?_
  refine ow_val rfl rfl (ex_field rfl) ?_
  refine ow_u rfl (exu_store1 2 rfl rfl rfl rfl rfl rfl) ?_
  refine ow_nil ?_
  refine qw_seq ?_
  refine cw_seq ?_
  refine cw_seq ?_
  refine cw_region ?_
  refine ow_val rfl rfl (ex_field rfl) ?_
  refine ow_val rfl rfl (ex_load1 rfl (by first | exact ld_own1 0 rfl rfl | exact ld_own1 1 rfl rfl | exact ld_own1 2 rfl rfl | exact ld_own1 3 rfl rfl | exact ld_own1 4 rfl rfl | exact ld_own1 5 rfl rfl | exact ld_own1 6 rfl rfl | exact ld_own1 7 rfl rfl | exact ld_ownG1 0 rfl rfl | exact ld_ownG1 1 rfl rfl | exact ld_imm1 (by assumption))) ?_
  refine ow_val rfl rfl (ex_len (ty := 0) rfl) ?_
  refine ow_val rfl rfl (ex_move rfl) ?_
  refine ow_nil ?_
  refine qw_seq ?_
  refine cw_block ?_
  refine cw_loopH3 (fun (i : Nat) (τ : Hp) (ys : List Value) => [(1, .pointer (some ⟨b1, 0, none⟩)), (2, .pointer (some ⟨b2, 0, none⟩)), (14, .slice (some ⟨g, 0, none⟩) ks.length c2), (15, .int .i64 (ks.length : Int)), (16, .int .i64 (i : Int))]) (fun i τ ys => i ≤ ks.length ∧ Le σ1 τ ∧ Fresh σ1 τ w ∧ RowC τ ys (norms (ks.take i) ++ ks.drop i)) (fun i τ ys => τ) (fun i τ ys => [(g, rowO ys tl 30), (b2, .cells (Value.agg #[.int .i64 0, .int .i64 0, .slice none 0 0, .slice none 0 0]).cells 30), (b1, .cells #[.int .i64 o, .int .i64 n, v7, .slice (some ⟨g, 0, none⟩) ks.length c2] 30)]) (fun i τ ys => []) (fun i τ ys => ks.length - i) 0 σ1 xs (subL_cons (lkv rfl (by first | rfl | simp)) (subL_cons (lkv rfl (by first | rfl | simp)) (subL_cons (lkv rfl (by first | rfl | simp)) (subL_cons (lkv rfl (by first | rfl | simp)) (subL_cons (lkv rfl (by first | rfl | simp)) (subL_nil _)))))) ⟨Nat.zero_le _, Le.refl _, Fresh.refl _ _, by simpa [norms] using hrow.le hl1⟩ (fun w h => h) ?_
  intro i τ ys ⟨hle, hl, hf, hry⟩
  refine cw_seq ?_
  refine cw_region ?_
  refine ow_val rfl rfl (ex_lss rfl rfl) ?_
  refine ow_nil ?_
  refine qw_seq ?_
  refine cw_seq ?_
  refine cw_cond rfl (fun c17 => ?_) (fun c17 => ?_)
  ·
    refine cw_skip ?_
    refine qw_seq ?_
    refine cw_seq ?_
    refine cw_block ?_
    refine cw_seq ?_
    have hlt : i < ks.length := by simpa using c17
    have hnl : (norms (ks.take i) ++ ks.drop i).length = ks.length := by rw [List.length_append, norms_len, List.length_take, List.length_drop]; omega
    obtain ⟨ce, hte, hxe⟩ := hry.at i (by omega)
    rw [norms_at ks i hlt] at hte
    have hyl := hry.len
    have hte' := hte
    obtain ⟨d1, k1, rfl, _, _, _, _⟩ := hte'.opn
    refine cw_region ?_
    refine ow_val rfl rfl (ex_move rfl) ?_
    refine ow_val rfl rfl (ex_index_nat rfl rfl (by omega)) ?_
    refine ow_val rfl rfl (ex_loadR rfl (ld_rowH 0 rfl hte.len hxe)) ?_
    refine ow_blk rfl rfl exw_alloc ?_; intro b4
    refine ow_val rfl rfl (ex_assign rfl) ?_
    refine ow_u rfl (exu_storeN 0 rfl rfl rfl rfl hte.one rfl) ?_
    refine ow_nil ?_
    refine qw_seq ?_
    refine flow_sound 6 (by kernel_rfl) ?_
    refine flow_val rfl (ex_field rfl) ?_
    refine flow_val rfl (ex_load1 rfl (by first | exact ld_own1 0 rfl rfl | exact ld_own1 1 rfl rfl | exact ld_own1 2 rfl rfl | exact ld_own1 3 rfl rfl | exact ld_own1 4 rfl rfl | exact ld_own1 5 rfl rfl | exact ld_own1 6 rfl rfl | exact ld_own1 7 rfl rfl | exact ld_ownG1 0 rfl rfl | exact ld_ownG1 1 rfl rfl | exact ld_imm1 (by assumption))) ?_
    refine flow_val rfl (ex_move rfl) ?_
    refine flow_val rfl (ex_loadR rfl (by first | exact ld_ownN 0 rfl rfl | exact ld_ownN 1 rfl rfl | exact ld_ownN 2 rfl rfl | exact ld_ownN 3 rfl rfl | exact ld_ownN 4 rfl rfl | exact ld_ownN 5 rfl rfl | exact ld_ownN 6 rfl rfl | exact ld_ownN 7 rfl rfl | exact ld_ownGN 0 rfl rfl | exact ld_ownGN 1 rfl rfl | exact ld_immT (by assumption) (by assumption))) ?_
    refine flow_cr rfl (ex_callf rfl (fun w h => callR (ih _ (List.getElem_mem hlt) h.im hte))) ?_
    refine flow_val rfl (ex_index_nat rfl rfl (by omega)) ?_
    refine flow_nil ?_
    refine fin_is ?_
    refine fin_satR (Le.refl _) (fun v25 τ2 hl2 hf2 hr25 => ?_)
    refine fin_is ?_
    refine fin_is ?_
    refine fin_is ?_
    refine fin_is ?_
    refine fin_nil ?_
    obtain ⟨cn, rfl, htn⟩ := hr25
    refine ow_u rfl (exu_storeX 1 rfl rfl rfl htn.len htn.one (by omega)) ?_
    refine ow_nil ?_
    refine qw_block_normal ?_
    refine qw_seq ?_
    refine cw_region ?_
    refine ow_val rfl rfl (ex_addi (z := ((i + 1 : Nat) : Int)) rfl rfl (by omega) (by omega) (by omega)) ?_
    refine ow_val rfl rfl (ex_move rfl) ?_
    refine ow_nil ?_
    exact qw_roundH3 (i + 1) τ2 (setX ys i cn) (by omega) (subL_cons (lkv rfl (by first | rfl | simp)) (subL_cons (lkv rfl (by first | rfl | simp)) (subL_cons (lkv rfl (by first | rfl | simp)) (subL_cons (lkv rfl (by first | rfl | simp)) (subL_cons (lkv rfl (by first | rfl | simp)) (subL_nil _)))))) ⟨by omega, hl.trans hl2, hf.trans hf2, by rw [← norms_set ks i hlt]; exact (hry.le hl2).set i htn (by omega)⟩ (fun w h => h.drop (List.sublist_cons_self _ _))
  ·
    have he : i = ks.length := by simp at c17; omega
    subst he
    have hrw : RowC τ ys (norms ks) := by rw [List.take_length, List.drop_length, List.append_nil] at hry; exact hry
    refine cw_exit ?_
    refine qw_then_exit ?_
    refine qw_then_exit ?_
    refine qw_block_exit ?_
    refine qw_seq ?_
    refine cw_seq ?_
    refine cw_seq ?_
    refine cw_region ?_
    refine ow_val rfl rfl (ex_field rfl) ?_
    refine ow_val rfl rfl (ex_load1 rfl (by first | exact ld_own1 0 rfl rfl | exact ld_own1 1 rfl rfl | exact ld_own1 2 rfl rfl | exact ld_own1 3 rfl rfl | exact ld_own1 4 rfl rfl | exact ld_own1 5 rfl rfl | exact ld_own1 6 rfl rfl | exact ld_own1 7 rfl rfl | exact ld_ownG1 0 rfl rfl | exact ld_ownG1 1 rfl rfl | exact ld_imm1 (by assumption))) ?_
    refine ow_val rfl rfl (ex_eql rfl rfl) ?_
    refine ow_nil ?_
    refine qw_seq ?_
    refine cw_cond rfl (fun c30 => ?_) (fun c30 => ?_)
    ·
      have ho7 : o = 7 := by simpa using c30
      refine cw_region ?_
      refine ow_val rfl rfl (ex_field rfl) ?_
      refine ow_val rfl rfl (ex_load1 rfl (by first | exact ld_own1 0 rfl rfl | exact ld_own1 1 rfl rfl | exact ld_own1 2 rfl rfl | exact ld_own1 3 rfl rfl | exact ld_own1 4 rfl rfl | exact ld_own1 5 rfl rfl | exact ld_own1 6 rfl rfl | exact ld_own1 7 rfl rfl | exact ld_ownG1 0 rfl rfl | exact ld_ownG1 1 rfl rfl | exact ld_imm1 (by assumption))) ?_
      refine ow_cmd rfl rfl (ex_callf rfl (fun w h => callM (hS (norms_len ks).symm h.im (h.own (p := (g, rowO ys tl 30)) List.mem_cons_self) (h.fresh (p := (g, rowO ys tl 30)) List.mem_cons_self) hrw (by rw [norms_len]; exact hB) (by rw [norms_len]; exact hc2)))) (fun v33 us zs hR hr2 => ?_)
      refine ow_nil ?_
      refine qw_seq ?_
      refine cw_seq ?_
      refine cw_region ?_
      refine ow_val rfl rfl (ex_loadR rfl (by first | exact ld_ownN 0 rfl rfl | exact ld_ownN 1 rfl rfl | exact ld_ownN 2 rfl rfl | exact ld_ownN 3 rfl rfl | exact ld_ownN 4 rfl rfl | exact ld_ownN 5 rfl rfl | exact ld_ownN 6 rfl rfl | exact ld_ownN 7 rfl rfl | exact ld_ownGN 0 rfl rfl | exact ld_ownGN 1 rfl rfl | exact ld_immT (by assumption) (by assumption))) ?_
      refine ow_u rfl (exu_storeN 1 rfl rfl rfl rfl (four_one (BytesV.cell hb7).2 rfl) rfl) ?_
      refine ow_nil ?_
      refine qw_seq ?_
      refine cw_ret ?_
      refine qw_retC rfl rfl (ld_ownN 1 rfl rfl) (fun w' h => ?_)
      have hus := sortB_is hR.1 hR.2
      subst hus
      have hfr := hr2
      have hul : (sortB [] (norms ks)).length = ks.length := by rw [sortB_len, norms_len]; simp
      obtain ⟨σ', h1, h2, h3, h4⟩ := freezeG (Gr := []) (by simpa using h.toG) (fun _ h => h) (OwnSl.close (by rw [hfr.len, hul]) hc2 hcm2 (by rw [List.length_append] at hxl2 ⊢; have q1 := hfr.len; have q2 := hrow.len; rw [hul] at q1; omega)) hfr (by omega)
      refine h2.gives ((hl1.trans hl).trans h1) ((hf1.trans hf).trans h4) ⟨_, rfl, ?_⟩
      rw [norm_mk, if_pos ho7]
      exact TermC.mk ho hn (BytesV.le (hl.trans h1) hb7) h3
    ·
      refine cw_skip ?_
      refine qw_seq ?_
      refine cw_seq ?_
      refine cw_region ?_
      refine ow_val rfl rfl (ex_loadR rfl (by first | exact ld_ownN 0 rfl rfl | exact ld_ownN 1 rfl rfl | exact ld_ownN 2 rfl rfl | exact ld_ownN 3 rfl rfl | exact ld_ownN 4 rfl rfl | exact ld_ownN 5 rfl rfl | exact ld_ownN 6 rfl rfl | exact ld_ownN 7 rfl rfl | exact ld_ownGN 0 rfl rfl | exact ld_ownGN 1 rfl rfl | exact ld_immT (by assumption) (by assumption))) ?_
      refine ow_u rfl (exu_storeN 1 rfl rfl rfl rfl (four_one (BytesV.cell hb7).2 rfl) rfl) ?_
      refine ow_nil ?_
      refine qw_seq ?_
      refine cw_ret ?_
      refine qw_retC rfl rfl (ld_ownN 1 rfl rfl) (fun w' h => ?_)
      have ho7 : o ≠ 7 := by simpa using c30
      have hfr := hrw
      have hul : (norms ks).length = ks.length := norms_len ks
      obtain ⟨σ', h1, h2, h3, h4⟩ := freezeG (Gr := []) (by simpa using h.toG) (fun _ h => h) (OwnSl.close (by rw [hfr.len, hul]) hc2 hcm2 (by rw [List.length_append] at hxl2 ⊢; have q1 := hfr.len; have q2 := hrow.len; rw [hul] at q1; omega)) hfr (by omega)
      refine h2.gives ((hl1.trans hl).trans h1) ((hf1.trans hf).trans h4) ⟨_, rfl, ?_⟩
      rw [norm_mk, if_neg ho7]
      exact TermC.mk ho hn (BytesV.le (hl.trans h1) hb7) h3
theorem pNorm {B : Nat} (hS : SortsAt Tryd.prog 70 57 30 B) (hBm : B ≤ maxKids) : ∀ (t : T), slim B t → ∀ {σ : Hp} {cs : List Value} {w : World}, Imm σ w → TermC σ cs t → Calls Tryd.prog 51 #[.agg cs.toArray] w (GiveR (RepT (norm t)) σ w) := by
  intro t
  induction t using T.ind with
  | _ o n d ks ih =>
    intro hsl σ cs w hi ht
    obtain ⟨h1, h2⟩ := slim_mk.1 hsl
    rcases Nat.eq_zero_or_pos ks.length with h0 | h0
    · obtain rfl := List.eq_nil_of_length_eq_zero h0
      exact pNorm0 hi ht
    · exact pNormN hS hBm (fun k hk => ih k hk (h2 k hk)) h1 h0 hi ht
end Go.Proofs.YtnjomdjkbbhdoaaDoor
namespace Go.Proofs.YtnjomdjkbbhdoaaDoor
set_option linter.unusedVariables false
set_option maxRecDepth 100000
instance : PtrT Tryd.prog 24 68 := ⟨Tryd.underlying24, _, rfl⟩
instance : PtrT Tryd.prog 39 41 := ⟨Tryd.underlying39, _, rfl⟩
instance : PtrT Tryd.prog 85 87 := ⟨Tryd.underlying85, _, rfl⟩
instance : BldT Tryd.prog 85 87 138 5 := ⟨Tryd.underlying85, Tryd.underlying138, ⟨_, rfl, of_decide_eq_true (by kernel_rfl)⟩, by kernel_rfl, by decide⟩
instance : ArrT Tryd.prog 100 4 := ⟨2, Tryd.underlying100, by kernel_rfl, Tryd.underlying2⟩
instance : PtrT Tryd.prog 107 5 := ⟨Tryd.underlying107, _, rfl⟩
instance : UStrT Tryd.prog 107 5 := ⟨Tryd.underlying107, by kernel_rfl⟩
instance : PtrT Tryd.prog 135 3 := ⟨Tryd.underlying135, _, rfl⟩
instance : PtrT Tryd.prog 146 131 := ⟨Tryd.underlying146, _, rfl⟩
instance : ByteZ Tryd.prog 5 := ⟨fun i h => by cases h; rfl⟩
instance : NoEscT Tryd.prog 117 := ⟨⟨_, Tryd.func117, by kernel_rfl, rfl, by kernel_rfl, by kernel_rfl⟩⟩
end Go.Proofs.YtnjomdjkbbhdoaaDoor
namespace Go.Proofs
open Go.Shelf
def Tryd.laysM173_ren : Go.Shelf.Ren := ⟨fun | 173 => 83 | 246 => 106 | 283 => 118 | 284 => 119 | 285 => 120 | 286 => 121 | 129 => 104 | 317 => 125 | 318 => 126 | 319 => 127 | 320 => 128 | 337 => 130 | 338 => 131 | n => n, fun | 2 => 2 | 3 => 3 | 9 => 9 | 4 => 4 | 171 => 141 | 0 => 0 | 53 => 125 | 37 => 28 | 5 => 5 | 173 => 143 | 212 => 151 | 51 => 123 | 20 => 20 | 213 => 152 | 46 => 82 | 232 => 153 | 233 => 154 | n => n, fun | 17 => 1 | 18 => 2 | 19 => 3 | n => n⟩
theorem Tryd.laysM173 : Go.Proofs.LaysM.n173 Tryd.prog Tryd.laysM173_ren := {
  mixed := by kernel_rfl
  f129 := Tryd.func104.trans (congrArg some (by kernel_rfl))
  f173 := Tryd.func83.trans (congrArg some (by kernel_rfl))
  f246 := Tryd.func106.trans (congrArg some (by kernel_rfl))
  f283 := Tryd.func118.trans (congrArg some (by kernel_rfl))
  f284 := Tryd.func119.trans (congrArg some (by kernel_rfl))
  f285 := Tryd.func120.trans (congrArg some (by kernel_rfl))
  f286 := Tryd.func121.trans (congrArg some (by kernel_rfl))
  f317 := Tryd.func125.trans (congrArg some (by kernel_rfl))
  f318 := Tryd.func126.trans (congrArg some (by kernel_rfl))
  f319 := Tryd.func127.trans (congrArg some (by kernel_rfl))
  f320 := Tryd.func128.trans (congrArg some (by kernel_rfl))
  f337 := Tryd.func130.trans (congrArg some (by kernel_rfl))
  f338 := Tryd.func131.trans (congrArg some (by kernel_rfl))
  t0 := Tryd.underlying0
  a0 := Tryd.isAgg0
  z0 := Tryd.sizeOf0
  v0 := Tryd.zeroValue0
  t2 := Tryd.underlying2
  a2 := Tryd.isAgg2
  z2 := Tryd.sizeOf2
  v2 := Tryd.zeroValue2
  t3 := Tryd.underlying3
  a3 := Tryd.isAgg3
  z3 := Tryd.sizeOf3
  v3 := Tryd.zeroValue3
  t4 := Tryd.underlying4
  a4 := Tryd.isAgg4
  z4 := Tryd.sizeOf4
  v4 := Tryd.zeroValue4
  t5 := Tryd.underlying5
  a5 := Tryd.isAgg5
  z5 := Tryd.sizeOf5
  v5 := Tryd.zeroValue5
  t9 := Tryd.underlying9
  a9 := Tryd.isAgg9
  z9 := Tryd.sizeOf9
  v9 := Tryd.zeroValue9
  t20 := Tryd.underlying20
  a20 := Tryd.isAgg20
  z20 := Tryd.sizeOf20
  v20 := Tryd.zeroValue20
  t37 := Tryd.underlying28
  a37 := Tryd.isAgg28
  z37 := Tryd.sizeOf28
  v37 := Tryd.zeroValue28
  t46 := Tryd.underlying82
  a46 := Tryd.isAgg82
  z46 := Tryd.sizeOf82
  v46 := Tryd.zeroValue82
  t51 := Tryd.underlying123
  a51 := Tryd.isAgg123
  z51 := Tryd.sizeOf123
  v51 := Tryd.zeroValue123
  t53 := Tryd.underlying125
  a53 := Tryd.isAgg125
  z53 := Tryd.sizeOf125
  v53 := Tryd.zeroValue125
  t171 := Tryd.underlying141
  a171 := Tryd.isAgg141
  z171 := Tryd.sizeOf141
  v171 := Tryd.zeroValue141
  t173 := Tryd.underlying143
  a173 := Tryd.isAgg143
  z173 := Tryd.sizeOf143
  v173 := Tryd.zeroValue143
  t212 := Tryd.underlying151
  a212 := Tryd.isAgg151
  z212 := Tryd.sizeOf151
  v212 := Tryd.zeroValue151
  t213 := Tryd.underlying152
  a213 := Tryd.isAgg152
  z213 := Tryd.sizeOf152
  t232 := Tryd.underlying153
  a232 := Tryd.isAgg153
  z232 := Tryd.sizeOf153
  v232 := Tryd.zeroValue153
  t233 := Tryd.underlying154
  a233 := Tryd.isAgg154
  z233 := Tryd.sizeOf154
  v233 := Tryd.zeroValue154
  g17 := by kernel_rfl
  g18 := by kernel_rfl
  g19 := by kernel_rfl
  i0 := by kernel_rfl
  i2 := by kernel_rfl
  i3 := by kernel_rfl
  i4 := by kernel_rfl
  i5 := by kernel_rfl
  i9 := by kernel_rfl
  i20 := by kernel_rfl
  i37 := by kernel_rfl
  i46 := by kernel_rfl
  i51 := by kernel_rfl
  i53 := by kernel_rfl
  i171 := by kernel_rfl
  i173 := by kernel_rfl
  i212 := by kernel_rfl
  i232 := by kernel_rfl
  i233 := by kernel_rfl
  m17 := by kernel_rfl
  m18 := by kernel_rfl
  m19 := by kernel_rfl }
open Go.RowKit Go.Sort Go.Lib in
theorem Tryd.strconv_FormatInt_10 (n : Int) (h0 : -9223372036854775808 ≤ n) (h1 : n ≤ 9223372036854775807) (w : World) (htab : Lib.TabIs Tryd.prog w "internal/strconv.uint64pow10" .u64 Lib.pow10Tab) :
    Calls Tryd.prog 83 #[.int .i64 n, .int .i64 10] w fun e w' => e = .returned (.string ⟨(Lib.itoa n).toArray⟩) ∧ ∃ k os, w' = grow (w.drewN k) os := Any.strconv_FormatInt_10 Tryd.laysM173 n h0 h1 w htab
end Go.Proofs
