/-
  A row of terms that is changed in place: what is read, what is written, what a call leaves of it. Rows in order: pure laws.
  No condition.
-/
import Derived.Test.YtnjomdjkbbhdoaaDoorLib
namespace Go.Proofs.YtnjomdjkbbhdoaaDoor
open Go.RowKit
set_option linter.unusedVariables false

/-! ### One term of a row -/
theorem RowC.at {σ : Hp} : ∀ {ts : List T} {xs : List Value}, RowC σ xs ts → ∀ (i : Nat) (h : i < ts.length), ∃ cs, TermC σ cs ts[i] ∧ (xs.drop (i * 4)).take 4 = cs
  | [], xs, h, i, hi => absurd hi (Nat.not_lt_zero _)
  | t :: r, xs, h, 0, hi => by
    simp only [RowC] at h
    obtain ⟨c, rest, rfl, h1, h2⟩ := h
    exact ⟨c, h1, by rw [Nat.zero_mul, List.drop_zero, ← h1.len, List.take_left]⟩
  | t :: r, xs, h, i + 1, hi => by
    simp only [RowC] at h
    obtain ⟨c, rest, rfl, h1, h2⟩ := h
    obtain ⟨cs, h3, h4⟩ := h2.at i (by simpa using hi)
    refine ⟨cs, h3, ?_⟩
    rw [List.drop_append, List.drop_eq_nil_of_le (by rw [h1.len]; omega), h1.len, show (i + 1) * 4 - 4 = i * 4 by omega, List.nil_append]
    exact h4
def setX (xs : List Value) (i : Nat) (cs : List Value) : List Value := xs.take (i * 4) ++ cs ++ xs.drop (i * 4 + 4)
theorem setX_len {xs cs : List Value} {i : Nat} (hc : cs.length = 4) (h : i * 4 + 4 ≤ xs.length) : (setX xs i cs).length = xs.length := by
  simp [setX, hc]; omega
theorem RowC.set {σ : Hp} : ∀ {ts : List T} {xs cs : List Value} {t : T} (i : Nat), RowC σ xs ts → TermC σ cs t → i < ts.length → RowC σ (setX xs i cs) (ts.set i t)
  | [], xs, cs, t, i, h, ht, hi => absurd hi (Nat.not_lt_zero _)
  | u :: r, xs, cs, t, 0, h, ht, hi => by
    simp only [RowC] at h
    obtain ⟨c, rest, rfl, h1, h2⟩ := h
    have e : (c ++ rest).drop (0 * 4 + 4) = rest := by rw [Nat.zero_mul, Nat.zero_add, ← h1.len, List.drop_left]
    unfold setX
    rw [e]
    exact ⟨cs, rest, by simp, ht, h2⟩
  | u :: r, xs, cs, t, i + 1, h, ht, hi => by
    simp only [RowC] at h
    obtain ⟨c, rest, rfl, h1, h2⟩ := h
    have ih := h2.set i ht (by simpa using hi)
    refine ⟨c, setX rest i cs, ?_, h1, ih⟩
    unfold setX
    rw [List.take_append, List.take_of_length_le (by rw [h1.len]; omega), List.drop_append, List.drop_eq_nil_of_le (by rw [h1.len]; omega), h1.len, show (i + 1) * 4 - 4 = i * 4 by omega, show (i + 1) * 4 + 4 - 4 = i * 4 + 4 by omega]
    simp [List.append_assoc]
/-- The block of a row, with what stands behind it. -/
def rowO (xs tl : List Value) (e : Nat) : Obj := .cells (xs ++ tl).toArray e (0, 0)
section
variable {P : Program} {N : Nat} {L : TL} {w0 w : World} {M : Nat → Prop} {σ : Hp} {H G : List (Nat × Obj)}
theorem ld_rowH (k : Nat) {g e i : Nat} {xs tl cs : List Value} (hH : H[k]? = some (g, rowO xs tl e)) (hl : cs.length = 4) (hc : (xs.drop (i * 4)).take 4 = cs) : cs.length = 4 ∧ ∀ w, St w0 M σ H G w → w.rangeAt g (0 + i * 4) cs := by
  refine ⟨hl, fun w hs j v hj => ?_⟩
  rw [cell_of_blk (hs.own (List.mem_of_getElem? hH))]
  rw [← hc, List.getElem?_take] at hj
  split at hj
  · rw [List.getElem?_drop] at hj
    have hlt : i * 4 + j < xs.length := (List.getElem?_eq_some_iff.1 hj).1
    rw [Nat.zero_add]
    simpa [List.getElem?_append_left hlt] using hj
  · cases hj
theorem exu_storeX (k : Nat) {ty g e i : Nat} {x y : Operand} {xs tl cs : List Value} [h : RowT P ty 4] (hx : ev L x = some (.pointer (some ⟨g, 0 + i * 4, none⟩))) (hy : ev L y = some (.agg cs.toArray))
    (hH : H[k]? = some (g, rowO xs tl e)) (hl : cs.length = 4) (ho : ∀ v ∈ cs, v.oneCell' = true) (hle : i * 4 + 4 ≤ xs.length) :
    ExU P (.store ty x y) N L (St w0 M σ H G) (St w0 M σ (setH H k (rowO (setX xs i cs) tl e)) G) := by
  rw [Nat.zero_add] at hx
  have := exu_store (P := P) (N := N) (w0 := w0) (M := M) (σ := σ) (G := G) (ty := ty) hx hy hH (by rw [(h.ok).choose_spec.2.2, ← hl]; simp [Value.cells]) (by simp [Value.cells, hl]; omega)
    (Array.all_eq_true_iff_forall_mem.2 (fun v hv => ho v (by simpa [Value.cells] using hv)))
  have e1 : over (xs ++ tl).toArray (i * 4) cs = (setX xs i cs ++ tl).toArray := by
    unfold over setX
    rw [show (xs ++ tl).toArray.toList = xs ++ tl from rfl, hl, List.take_append_of_le_length (by omega), List.drop_append_of_le_length (by omega)]
    simp [List.append_assoc]
  have e2 : (Value.agg cs.toArray).cells.toList = cs := rfl
  rw [e2, e1] at this
  exact this
end

/-! ### A call that changes a row in place -/
def GiveM (g : Nat) (tl : List Value) (e : Nat) (σ : Hp) (R : List T → Prop) (w : World) (en : Ending) (w' : World) : Prop :=
  en = .returned (.tuple #[]) ∧ ∃ us xs, R us ∧ RowC σ xs us ∧ w'.heap[g]? = some (rowO xs tl e) ∧ Ag (· = g) w w'
theorem St.mut {w0 w w' : World} {M : Nat → Prop} {σ : Hp} {g : Nat} {o o' : Obj} {H G : List (Nat × Obj)} (h : St w0 M σ ((g, o) :: H) G w) (hg : w'.heap[g]? = some o') (ha : Ag (· = g) w w') : St w0 M σ ((g, o') :: H) G w' := by
  have hnd : ((((g, o) :: H) ++ G).map (·.1)).Nodup := St0.nd h
  simp only [List.cons_append, List.map_cons, List.nodup_cons] at hnd
  have hne : ∀ p ∈ H ++ G, p.1 ≠ g := fun p hp e => hnd.1 (by rw [← e]; exact List.mem_map_of_mem hp)
  have hmo := St0.mo h
  refine ⟨⟨ha.os.trans h.ag.os, ha.tape.trans h.ag.tape, ha.output.trans h.ag.output, Nat.le_trans h.ag.size ha.size, fun k hk hM => ?_⟩, fun b ob e => ?_, fun p hp => ?_, fun p hp => ?_, fun p hp => ?_, ?_⟩
  · have : k ≠ g := by
      rintro rfl
      rcases hmo (k, o) List.mem_cons_self with h1 | h1
      · exact hM h1
      · exact absurd hk (Nat.not_lt.2 h1)
    rw [ha.block k (Nat.lt_of_lt_of_le hk h.ag.size) this]; exact h.ag.block k hk hM
  · have : b ≠ g := by rintro rfl; rw [h.fresh (p := (b, o)) List.mem_cons_self] at e; cases e
    rw [ha.block b (h.im.lt e) this]; exact h.im b ob e
  · rcases List.mem_cons.1 hp with rfl | hp
    · exact hg
    · rw [ha.block p.1 (h.lt (List.mem_cons_of_mem _ hp)) (hne p hp)]; exact St0.ow h p (List.mem_cons_of_mem _ hp)
  · rcases List.mem_cons.1 hp with rfl | hp
    · exact h.fresh (p := (g, o)) List.mem_cons_self
    · exact h.fresh (List.mem_cons_of_mem _ hp)
  · rcases List.mem_cons.1 hp with rfl | hp
    · exact hmo (g, o) List.mem_cons_self
    · exact hmo p (List.mem_cons_of_mem _ hp)
  · simpa using hnd
section
variable {P : Program} {l0 : List Oper} {Q : Exit → Act → World → Prop} {rest : List Oper} {N : Nat} {L : TL} {d : Nat} {ty : TypeId} {pos : String}
  {af : Array Edge} {gd' : Option (Nat × Bool)} {op : Op} {w0 : World} {M : Nat → Prop} {σ : Hp} {H G : List (Nat × Obj)}
def TM (g : Nat) (tl : List Value) (e : Nat) (σ : Hp) (R : List T → Prop) (w : World) (u : Value) (w' : World) : Prop := ∃ us xs, R us ∧ RowC σ xs us ∧ w'.heap[g]? = some (rowO xs tl e) ∧ Ag (· = g) w w'
theorem callM {f : FuncId} {args : Array Value} {w : World} {g e : Nat} {tl : List Value} {R : List T → Prop} (h : Calls P f args w (GiveM g tl e σ R w)) : Calls P f args w fun en w' => ∃ u, en = .returned u ∧ TM g tl e σ R w u w' :=
  h.mono fun en w' ⟨he, hx⟩ => ⟨_, he, hx⟩
theorem ow_cm {g e : Nat} {tl : List Value} {R : List T → Prop} {o : Obj} {dd : Option Nat} (hd : match dd with | some d => Nat.blt d N = true | none => True) (hg : gd l0 L gd' = some true) (h : ExC P op N L (St w0 M σ ((g, o) :: H) G) (TM g tl e σ R))
    (k : ∀ us xs, R us → RowC σ xs us → OW P l0 Q rest N L (St w0 M σ ((g, rowO xs tl e) :: H) G)) (hfree : ∀ d, dd = some d → ∀ a v, Fr N L a → Fr N L (a.put (some d) v)) : OW P l0 Q (⟨dd, op, ty, pos, af, gd'⟩ :: rest) N L (St w0 M σ ((g, o) :: H) G) :=
  ow_step hg fun a w hf hs => by
    unfold Oper.wp
    obtain ⟨f, args, h1, h2⟩ := h a w hf hs dd ty pos af gd'
    rw [h1]
    refine Calls.mono h2 ?_
    rintro en w' ⟨v, rfl, us, xs, hR, hr, hb, ha⟩
    cases dd with
    | none => exact k us xs hR hr _ _ hf (hs.mut hb ha)
    | some d => exact k us xs hR hr _ _ (hfree d rfl a v hf) (hs.mut hb ha)
theorem ow_cmd {g e : Nat} {tl : List Value} {R : List T → Prop} {o : Obj} (hd : Nat.blt d N = true) (hg : gd l0 L gd' = some true) (h : ExC P op N L (St w0 M σ ((g, o) :: H) G) (TM g tl e σ R))
    (k : ∀ v us xs, R us → RowC σ xs us → OW P l0 Q rest N ((d, v) :: L) (St w0 M σ ((g, rowO xs tl e) :: H) G)) : OW P l0 Q (⟨some d, op, ty, pos, af, gd'⟩ :: rest) N L (St w0 M σ ((g, o) :: H) G) :=
  ow_c hd hg h fun v a w' hf ⟨w, hs, us, xs, hR, hr, hb, ha⟩ => k v us xs hR hr a w' hf (hs.mut hb ha)
end
theorem St.startM {w : World} {σ : Hp} {g : Nat} {o : Obj} (hi : Imm σ w) (hg : w.heap[g]? = some o) (hd : σ g = none) : St w (· = g) σ [(g, o)] [] w :=
  ⟨.refl _ _, hi, fun p hp => by simp at hp; subst hp; exact hg, fun p hp => by simp at hp; subst hp; exact hd, fun p hp => by simp at hp; subst hp; exact .inl rfl, by simp⟩
theorem St.givesM {w0 w : World} {σ : Hp} {g e : Nat} {xs tl : List Value} {us : List T} {R : List T → Prop} (h : St w0 (· = g) σ [(g, rowO xs tl e)] [] w) (hr : RowC σ xs us) (hR : R us) : GiveM g tl e σ R w0 (.returned (.tuple #[])) w :=
  ⟨rfl, us, xs, hR, hr, h.own (p := (g, rowO xs tl e)) List.mem_cons_self, h.ag⟩

/-! ### A call that hands back a row of its own -/
def GiveO (e size n : Nat) (xs : List Value) (w : World) (en : Ending) (w' : World) : Prop :=
  ∃ v Gs, en = .returned v ∧ OwnSl e size v n xs Gs ∧ Own Gs w' ∧ (∀ p ∈ Gs, w.heap.size ≤ p.1) ∧ Below w.heap.size w w'
theorem OwnSl.nd {e size n : Nat} {v : Value} {xs : List Value} {Gs : List (Nat × Obj)} (h : OwnSl e size v n xs Gs) : (Gs.map (·.1)).Nodup := by
  rcases h.2 with ⟨_, _, rfl⟩ | ⟨g, c, cur, _, rfl, _⟩ <;> simp
theorem St.givesO {w0 w : World} {σ : Hp} {H Gs : List (Nat × Obj)} {e size n : Nat} {v : Value} {xs : List Value} (h : St w0 (fun _ => False) σ H Gs w) (hO : OwnSl e size v n xs Gs) : GiveO e size n xs w0 (.returned v) w :=
  ⟨v, Gs, rfl, hO, fun p hp => h.ownG hp, fun p hp => (St0.mo h p (List.mem_append_right _ hp)).resolve_left id, h.ag.below⟩
section
variable {P : Program} {l0 : List Oper} {Q : Exit → Act → World → Prop} {rest : List Oper} {N : Nat} {L : TL} {d : Nat} {ty : TypeId} {pos : String}
  {af : Array Edge} {g : Option (Nat × Bool)} {op : Op} {w0 : World} {M : Nat → Prop} {σ : Hp} {H : List (Nat × Obj)}
def TO (e size n : Nat) (xs : List Value) (w : World) (v : Value) (w' : World) : Prop := ∃ Gs, OwnSl e size v n xs Gs ∧ Own Gs w' ∧ (∀ p ∈ Gs, w.heap.size ≤ p.1) ∧ Below w.heap.size w w'
theorem callO {f : FuncId} {args : Array Value} {w : World} {e size n : Nat} {xs : List Value} (h : Calls P f args w (GiveO e size n xs w)) : Calls P f args w fun en w' => ∃ u, en = .returned u ∧ TO e size n xs w u w' :=
  h.mono fun en w' ⟨v, Gs, he, hx⟩ => ⟨v, he, Gs, hx⟩
theorem ow_co {e size n : Nat} {xs : List Value} (hN : Nat.blt d N = true) (hg : gd l0 L g = some true) (h : ExC P op N L (St w0 M σ H []) (TO e size n xs))
    (k : ∀ v Gs, OwnSl e size v n xs Gs → OW P l0 Q rest N ((d, v) :: L) (St w0 M σ H Gs)) : OW P l0 Q (⟨some d, op, ty, pos, af, g⟩ :: rest) N L (St w0 M σ H []) :=
  ow_c hN hg h fun v a w' hf ⟨w, hs, Gs, hO, ho, hlt, hb⟩ => k v Gs hO a w' hf (by
    have hk := hs.keep hb
    refine ⟨hk.ag, hk.im, fun p hp => ?_, fun p hp => ?_, fun p hp => ?_, ?_⟩
    · rcases List.mem_append.1 hp with hp | hp
      · exact hk.own hp
      · exact ho p hp
    · rcases List.mem_append.1 hp with hp | hp
      · exact hk.fresh (List.mem_append_left _ hp)
      · cases hσ : σ p.1 with
        | none => rfl
        | some o => exact absurd (hs.im.lt hσ) (Nat.not_lt.2 (hlt p hp))
    · rcases List.mem_append.1 hp with hp | hp
      · exact St0.mo hk p (List.mem_append_left _ hp)
      · exact .inr (Nat.le_trans hs.ag.size (hlt p hp))
    · rw [List.map_append, List.nodup_append]
      refine ⟨by simpa using St0.nd hk, hO.nd, fun a ha b hb e => ?_⟩
      subst e
      obtain ⟨p, hp, rfl⟩ := List.mem_map.1 ha
      obtain ⟨q, hq, e⟩ := List.mem_map.1 hb
      have h1 := hs.lt (List.mem_append_left [] hp)
      have h2 := hlt q hq
      omega)
end
/-- An owned row that holds something is a block with its tail. -/
theorem OwnSl.open {e size n : Nat} {v : Value} {xs : List Value} {Gs : List (Nat × Obj)} (h : OwnSl e size v n xs Gs) (hn : 0 < n) :
    ∃ g c tl, v = .slice (some ⟨g, 0, none⟩) n c ∧ Gs = [(g, rowO xs tl e)] ∧ n ≤ c ∧ c ≤ maxLen ∧ (xs ++ tl).length = c * size := by
  rcases h.2 with ⟨_, h0, _⟩ | ⟨g, c, cur, rfl, rfl, h2, h3, h4, h5⟩
  · omega
  · refine ⟨g, c, cur.toList.drop (n * size), rfl, ?_, h2, h3, ?_⟩
    · unfold rowO; rw [← h5, List.take_append_drop]
    · rw [← h5, List.take_append_drop]; simpa using h4
theorem OwnSl.close {e size n g c : Nat} {xs tl : List Value} (hx : xs.length = n * size) (h2 : n ≤ c) (h3 : c ≤ maxLen) (h4 : (xs ++ tl).length = c * size) : OwnSl e size (.slice (some ⟨g, 0, none⟩) n c) n xs [(g, rowO xs tl e)] :=
  ⟨hx, .inr ⟨g, c, (xs ++ tl).toArray, rfl, rfl, h2, h3, by simpa using h4, by rw [← hx]; simp⟩⟩

/-! ### Rows in order -/
/-- Only what stands from a up to b may be laid otherwise. -/
def InR (a b : Nat) (us ts : List T) : Prop := us.length = ts.length ∧ us.take a = ts.take a ∧ us.drop b = ts.drop b ∧ us.Perm ts
def SortedR (a b : Nat) (us : List T) : Prop := ∀ j (h : j + 1 < us.length), a ≤ j → j + 1 < b → ord us[j] us[j + 1] ≤ 0
theorem InR.refl (a b : Nat) (ts : List T) : InR a b ts ts := ⟨rfl, rfl, rfl, List.Perm.refl _⟩
theorem InR.trans {a b : Nat} {us vs ts : List T} (h : InR a b us vs) (k : InR a b vs ts) : InR a b us ts := ⟨h.1.trans k.1, h.2.1.trans k.2.1, h.2.2.1.trans k.2.2.1, h.2.2.2.trans k.2.2.2⟩
theorem take_le {us ts : List T} {a a' : Nat} (h : us.take a = ts.take a) (ha : a' ≤ a) : us.take a' = ts.take a' := by
  have := congrArg (List.take a') h
  rwa [List.take_take, List.take_take, Nat.min_eq_left ha] at this
theorem drop_le {us ts : List T} {b b' : Nat} (h : us.drop b = ts.drop b) (hb : b ≤ b') : us.drop b' = ts.drop b' := by
  have := congrArg (List.drop (b' - b)) h
  rwa [List.drop_drop, List.drop_drop, show b + (b' - b) = b' by omega] at this
theorem InR.wide {a b a' b' : Nat} {us ts : List T} (h : InR a b us ts) (ha : a' ≤ a) (hb : b ≤ b') : InR a' b' us ts := ⟨h.1, take_le h.2.1 ha, drop_le h.2.2.1 hb, h.2.2.2⟩
theorem InR.get_lt {a b : Nat} {us ts : List T} (h : InR a b us ts) {j : Nat} (hj : j < a) (h1 : j < us.length) : us[j] = ts[j]'(h.1 ▸ h1) := by
  have := congrArg (·[j]?) h.2.1
  simp only [List.getElem?_take, hj, if_true] at this
  rw [List.getElem?_eq_getElem h1, List.getElem?_eq_getElem (h.1 ▸ h1)] at this
  exact Option.some.inj this
theorem InR.get_ge {a b : Nat} {us ts : List T} (h : InR a b us ts) {j : Nat} (hj : b ≤ j) (h1 : j < us.length) : us[j] = ts[j]'(h.1 ▸ h1) := by
  have := congrArg (·[j - b]?) h.2.2.1
  simp only [List.getElem?_drop, show b + (j - b) = j by omega] at this
  rw [List.getElem?_eq_getElem h1, List.getElem?_eq_getElem (h.1 ▸ h1)] at this
  exact Option.some.inj this
/-- Two that stand at i and j change places. -/
def swapL (ts : List T) (i j : Nat) (hi : i < ts.length) (hj : j < ts.length) : List T := (ts.set i ts[j]).set j ts[i]
theorem swapL_len (ts : List T) (i j : Nat) (hi hj) : (swapL ts i j hi hj).length = ts.length := by simp [swapL]
theorem swapL_get? (ts : List T) (i j : Nat) (hi : i < ts.length) (hj : j < ts.length) (k : Nat) : (swapL ts i j hi hj)[k]? = if k = j then some ts[i] else if k = i then some ts[j] else ts[k]? := by
  simp only [swapL, List.getElem?_set, List.length_set]
  by_cases h1 : k = j
  · subst h1; simp [hj]
  · rw [if_neg (fun e => h1 e.symm), if_neg h1]
    by_cases h2 : k = i
    · subst h2; simp [hi]
    · rw [if_neg (fun e => h2 e.symm), if_neg h2]
theorem swapL_get (ts : List T) (i j : Nat) (hi : i < ts.length) (hj : j < ts.length) (k : Nat) (hk : k < ts.length) : (swapL ts i j hi hj)[k]'(by rw [swapL_len]; exact hk) = if k = j then ts[i] else if k = i then ts[j] else ts[k] := by
  have := swapL_get? ts i j hi hj k
  rw [List.getElem?_eq_getElem (by rw [swapL_len]; exact hk), List.getElem?_eq_getElem hk] at this
  split at this
  · rename_i h; rw [if_pos h]; exact Option.some.inj this
  · rename_i h
    rw [if_neg h]
    split at this
    · rename_i h'; rw [if_pos h']; exact Option.some.inj this
    · rename_i h'; rw [if_neg h']; exact Option.some.inj this
theorem swapL_inR {a b i j : Nat} {ts : List T} (hi : i < ts.length) (hj : j < ts.length) (h1 : a ≤ i) (h2 : i < b) (h3 : a ≤ j) (h4 : j < b) : InR a b (swapL ts i j hi hj) ts := by
  refine ⟨swapL_len _ _ _ _ _, ?_, ?_, ?_⟩
  · apply List.ext_getElem?
    intro k
    simp only [List.getElem?_take]
    split
    · rename_i hk; simp only [swapL, List.getElem?_set]; rw [if_neg (by omega), if_neg (by omega)]
    · rfl
  · apply List.ext_getElem?
    intro k
    simp only [List.getElem?_drop, swapL, List.getElem?_set]
    rw [if_neg (by omega), if_neg (by omega)]
  · by_cases hij : i = j
    · subst hij
      simp [swapL]
    · classical
      rw [List.perm_iff_count]
      intro t
      unfold swapL
      rw [List.count_set (by simpa using hj), List.count_set hi, List.getElem_set_ne hij]
      have ci : ts[i] ∈ ts := List.getElem_mem _
      have cj : ts[j] ∈ ts := List.getElem_mem _
      have p1 : 0 < ts.count ts[i] := List.count_pos_iff.2 ci
      have p2 : 0 < ts.count ts[j] := List.count_pos_iff.2 cj
      by_cases e1 : ts[i] = t <;> by_cases e2 : ts[j] = t <;> simp [e1, e2] <;> subst_vars <;> omega
/-- What stands from a to i is in order, but that the one at j may yet go down. -/
def InsInv (a i j : Nat) (us : List T) : Prop := (∀ k (h : k + 1 < us.length), a ≤ k → k + 1 ≤ i → k + 1 ≠ j → ord us[k] us[k + 1] ≤ 0) ∧ (∀ (h : j + 1 < us.length), a < j → j + 1 ≤ i → ord us[j - 1] us[j + 1] ≤ 0)
theorem InsInv.start {a i : Nat} {us : List T} (h : SortedR a i us) : InsInv a i i us := ⟨fun k hk h1 h2 h3 => h k hk h1 (by omega), fun _ _ h => absurd h (by omega)⟩
theorem InsInv.fin {a i j : Nat} {us : List T} (hj : j < us.length) (h : InsInv a i j us) (hn : a < j → 0 ≤ ord us[j] us[j - 1]) : SortedR a (i + 1) us := fun k hk h1 h2 => by
  by_cases e : k + 1 = j
  · have := hn (by omega)
    rw [ord_neg]
    have e1 : j - 1 = k := by omega
    simp only [e1] at this
    subst e
    omega
  · exact h.1 k hk h1 (by omega) e
theorem InsInv.step {a i j : Nat} {us : List T} (hj : j < us.length) (haj : a < j) (hji : j ≤ i) (h : InsInv a i j us) (hlt : ord us[j] us[j - 1] < 0) : InsInv a i (j - 1) (swapL us j (j - 1) hj (by omega)) := by
  have hl := swapL_len us j (j - 1) hj (by omega)
  refine ⟨fun k hk h1 h2 h3 => ?_, fun hk h1 h2 => ?_⟩
  · have hk' : k + 1 < us.length := by rw [hl] at hk; exact hk
    rw [swapL_get us j (j - 1) hj (by omega) k (by omega), swapL_get us j (j - 1) hj (by omega) (k + 1) hk']
    by_cases e1 : k = j - 1
    · rw [if_pos e1, if_neg (by omega), if_pos (by omega)]; omega
    · rw [if_neg e1]
      by_cases e2 : k = j
      · subst e2
        rw [if_pos rfl, if_neg (by omega), if_neg (by omega)]
        exact h.2 hk' haj h2
      · rw [if_neg e2, if_neg h3, if_neg (by omega)]
        exact h.1 k hk' h1 h2 (by omega)
  · have hk' : j - 1 + 1 < us.length := by rw [hl] at hk; exact hk
    rw [swapL_get us j (j - 1) hj (by omega) (j - 1 - 1) (by omega), swapL_get us j (j - 1) hj (by omega) (j - 1 + 1) hk', if_neg (by omega), if_neg (by omega), if_neg (by omega), if_pos (by omega)]
    have := h.1 (j - 1 - 1) (by omega) (by omega) (by omega) (by omega)
    have e : j - 1 - 1 + 1 = j - 1 := by omega
    simp only [e] at this
    exact this
/-- A sorted row is the one sorted row of its terms. -/
theorem sorted_le {a : T} : ∀ {r : List T}, sorted (a :: r) = true → ∀ x ∈ r, ord a x ≤ 0
  | [], _, x, hx => by cases hx
  | b :: r, h, x, hx => by
    simp only [sorted, Bool.and_eq_true, decide_eq_true_eq] at h
    rcases List.mem_cons.1 hx with rfl | hx
    · exact h.1
    · exact ord_le_trans h.1 (sorted_le (r := r) (by simp only [sorted, Bool.and_eq_true, decide_eq_true_eq]; exact h.2) x hx)
theorem sorted_tail {a : T} {r : List T} (h : sorted (a :: r) = true) : sorted r = true := by
  simp only [sorted, Bool.and_eq_true] at h; exact h.2
theorem sorted_unique : ∀ {l m : List T}, sorted l = true → sorted m = true → l.Perm m → l = m
  | [], m, _, _, hp => (List.nil_perm.1 hp).symm
  | a :: r, [], _, _, hp => by simpa using hp.length_eq
  | a :: r, b :: s, h, k, hp => by
    have hab : a = b := by
      have h1 : b ∈ a :: r := hp.mem_iff.2 List.mem_cons_self
      have h2 : a ∈ b :: s := hp.mem_iff.1 List.mem_cons_self
      rcases List.mem_cons.1 h1 with e | h1
      · exact e.symm
      · rcases List.mem_cons.1 h2 with e | h2
        · exact e
        · have h3 := sorted_le h b h1
          have h4 := sorted_le k a h2
          rw [ord_neg] at h4
          exact ord_zero.1 (by omega)
    subst hab
    rw [sorted_unique (sorted_tail h) (sorted_tail k) ((List.perm_cons a).1 hp)]
theorem sorted_of {us ts : List T} (h : InR 0 ts.length us ts) (k : SortedR 0 ts.length us) : us.Perm ts ∧ sorted us = true :=
  ⟨h.2.2.2, sorted_iff.2 fun i hi => k i hi (Nat.zero_le _) (by rw [← h.1]; exact hi)⟩
/-- Sorts every row of at most B terms. -/
def SortsAt (P : Program) (f o e B : Nat) : Prop := ∀ {g c n : Nat} {ts : List T} {xs tl : List Value} {σ : Hp} {w : World}, n = ts.length → Imm σ w → w.heap[g]? = some (rowO xs tl e) → σ g = none → RowC σ xs ts → ts.length ≤ B → ts.length ≤ c →
  Calls P f #[.slice (some ⟨g, 0, none⟩) n c, .func (.func o) #[] #[]] w (GiveM g tl e σ (fun us => us.Perm ts ∧ sorted us = true) w)
theorem sorted_pw : ∀ {l : List T}, sorted l = true ↔ l.Pairwise (fun a b => ord a b ≤ 0)
  | [] => by simp [sorted]
  | a :: r => by
    rw [List.pairwise_cons, ← sorted_pw (l := r)]
    constructor
    · exact fun h => ⟨sorted_le h, sorted_tail h⟩
    · rintro ⟨h1, h2⟩
      cases r with
      | nil => rfl
      | cons b s => simp only [sorted, Bool.and_eq_true, decide_eq_true_eq] at h2 ⊢; exact ⟨h1 b List.mem_cons_self, h2⟩
theorem backAt_le (ks : List T) (x : T) : ∀ n, backAt ks x n ≤ n
  | 0 => Nat.le_refl _
  | n + 1 => by have := backAt_le ks x n; unfold backAt; split <;> omega
theorem backAt_hi (ks : List T) (x : T) : ∀ n j, backAt ks x n ≤ j → j < n → 0 < ord (ks.getD j zeroT) x
  | 0, j, h, k => absurd k (Nat.not_lt_zero _)
  | n + 1, j, h, k => by
    unfold backAt at h
    split at h
    · rename_i hp
      by_cases e : j = n
      · subst e; exact hp
      · exact backAt_hi ks x n j h (by omega)
    · omega
theorem backAt_lo (ks : List T) (x : T) : ∀ n, 0 < backAt ks x n → ord (ks.getD (backAt ks x n - 1) zeroT) x ≤ 0
  | 0, h => absurd h (Nat.lt_irrefl _)
  | n + 1, h => by
    unfold backAt at h ⊢
    split
    · rename_i hp
      rw [if_pos hp] at h
      exact backAt_lo ks x n h
    · rename_i hp
      rw [Nat.add_sub_cancel]; omega
theorem putB_perm (ks : List T) (x : T) : (putB ks x).Perm (x :: ks) := by
  unfold putB
  refine List.perm_middle.trans ?_
  rw [List.take_append_drop]
theorem putB_sorted {ks : List T} {x : T} (h : sorted ks = true) : sorted (putB ks x) = true := by
  have hp := sorted_pw.1 h
  rw [sorted_pw]
  unfold putB
  have hk := backAt_le ks x ks.length
  have hhi := backAt_hi ks x ks.length
  have hlo := backAt_lo ks x ks.length
  generalize backAt ks x ks.length = k at *
  have hgt : ∀ b ∈ ks.drop k, 0 < ord b x := fun b hb => by
    obtain ⟨i, hi, e⟩ := List.mem_iff_getElem.1 hb
    rw [List.length_drop] at hi
    have := hhi (k + i) (by omega) (by omega)
    rw [List.getElem_drop] at e
    rw [List.getD_eq_getElem?_getD, List.getElem?_eq_getElem (show k + i < ks.length by omega), Option.getD_some, e] at this
    exact this
  have hle : ∀ b ∈ ks.take k, ord b x ≤ 0 := fun b hb => by
    obtain ⟨i, hi, e⟩ := List.mem_iff_getElem.1 hb
    rw [List.length_take] at hi
    rw [List.getElem_take] at e
    have h1 := hlo (by omega)
    rw [List.getD_eq_getElem?_getD, List.getElem?_eq_getElem (show k - 1 < ks.length by omega), Option.getD_some] at h1
    by_cases hik : i = k - 1
    · subst hik; rw [← e]; exact h1
    · have h2 := (List.pairwise_iff_getElem.1 hp) i (k - 1) (by omega) (by omega) (by omega)
      rw [e] at h2
      exact ord_le_trans h2 h1
  rw [List.pairwise_append]
  refine ⟨hp.sublist (List.take_sublist _ _), List.pairwise_cons.2 ⟨fun b hb => by have := hgt b hb; rw [ord_neg]; omega, hp.sublist (List.drop_sublist _ _)⟩, fun a ha b hb => ?_⟩
  rcases List.mem_cons.1 hb with rfl | hb
  · exact hle a ha
  · have h1 := hle a ha
    have h2 := hgt b hb
    exact ord_le_trans h1 (by rw [ord_neg]; omega)
theorem sortB_spec : ∀ (l acc : List T), sorted acc = true → sorted (sortB acc l) = true ∧ (sortB acc l).Perm (acc ++ l)
  | [], acc, h => ⟨h, by simp [sortB]⟩
  | k :: r, acc, h => by
    rw [sortB]
    obtain ⟨h1, h2⟩ := sortB_spec r (putB acc k) (putB_sorted h)
    refine ⟨h1, h2.trans ?_⟩
    exact ((putB_perm acc k).append_right r).trans (by rw [List.cons_append]; exact List.perm_middle.symm)
/-- A sorted row of l's terms is the reference's. -/
theorem sortB_is {us l : List T} (hp : us.Perm l) (hs : sorted us = true) : us = sortB [] l := by
  obtain ⟨h1, h2⟩ := sortB_spec l [] rfl
  exact sorted_unique hs h1 (hp.trans (by simpa using h2.symm))
theorem norms_set (ks : List T) (i : Nat) (h : i < ks.length) : (norms (ks.take i) ++ ks.drop i).set i (norm ks[i]) = norms (ks.take (i + 1)) ++ ks.drop (i + 1) := by
  have hl : (norms (ks.take i)).length = i := by rw [norms_len, List.length_take]; omega
  rw [norms_take ks i h, List.drop_eq_getElem_cons h, List.set_append, if_neg (by omega), hl, Nat.sub_self, List.set_cons_zero, List.append_assoc]
  rfl
theorem norms_at (ks : List T) (i : Nat) (h : i < ks.length) (h' : i < (norms (ks.take i) ++ ks.drop i).length) : (norms (ks.take i) ++ ks.drop i)[i] = ks[i] := by
  have hl : (norms (ks.take i)).length = i := by rw [norms_len, List.length_take]; omega
  rw [List.getElem_append_right (by omega)]
  simp [hl]
/-- No term within has more than B of the next. -/
def slim (B : Nat) : T → Prop := fun t => T.rec (motive_1 := fun _ => Prop) (motive_2 := fun _ => Prop) (fun _ _ _ ks ih => ks.length ≤ B ∧ ih) True (fun _ _ h1 h2 => h1 ∧ h2) t
theorem slim_mk {B : Nat} {o n : Int} {d : List UInt8} {ks : List T} : slim B (.mk o n d ks) ↔ ks.length ≤ B ∧ ∀ k ∈ ks, slim B k := by
  have key : ∀ (l : List T), T.rec_1 (motive_1 := fun _ => Prop) (motive_2 := fun _ => Prop) (fun _ _ _ ks ih => ks.length ≤ B ∧ ih) True (fun _ _ h1 h2 => h1 ∧ h2) l ↔ ∀ k ∈ l, slim B k := by
    intro l
    induction l with
    | nil => simp
    | cons a r ih => rw [List.forall_mem_cons, ← ih]; rfl
  rw [← key ks]; rfl
def RepB (d : List UInt8) (σ : Hp) (v : Value) : Prop := BytesV σ v d
instance (d : List UInt8) : MonoR (RepB d) := ⟨fun hl h => BytesV.le hl h⟩
end Go.Proofs.YtnjomdjkbbhdoaaDoor
