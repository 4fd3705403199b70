/-
  Memory that a callee may turn: owned blocks that are handed on from call to call; tables of terms with a map of what they are, written out; a builder of strings.
  No condition.
-/
import Derived.Test.YtnjomdjkbbhdoaaDoorTable
import Derived.Test.YtnjomdjkbbhdoaaDoorSort
import Derived.Maps.Keyed
namespace Go.Proofs.YtnjomdjkbbhdoaaDoor
open Go.RowKit
set_option linter.unusedVariables false

/-! ## Blocks that a callee may turn -/
def keysOf (K : List (Nat × Obj)) (b : Nat) : Prop := ∃ p ∈ K, p.1 = b
/-- The blocks K are there, apart from what never turns. -/
structure Has (σ : Hp) (K : List (Nat × Obj)) (w : World) : Prop where
  im : Imm σ w
  ow : Own K w
  dj : ∀ p ∈ K, σ p.1 = none
  nd : (K.map (·.1)).Nodup
theorem Has.start {σ : Hp} {K : List (Nat × Obj)} {w : World} (h : Has σ K w) : St w (keysOf K) σ [] K w :=
  ⟨.refl _ _, h.im, fun p hp => h.ow p (by simpa using hp), fun p hp => h.dj p (by simpa using hp), fun p hp => .inl ⟨p, by simpa using hp, rfl⟩, by simpa using h.nd⟩
theorem Has.nil {σ : Hp} {w : World} (h : Imm σ w) : Has σ [] w := { im := h, ow := fun p hp => (by cases hp), dj := fun p hp => (by cases hp), nd := (by simp) }
theorem St.has {w0 w : World} {M : Nat → Prop} {σ : Hp} {H K G : List (Nat × Obj)} (h : St w0 M σ H (K ++ G) w) : Has σ K w := by
  have hn := St0.nd h
  rw [List.map_append, List.map_append] at hn
  exact ⟨h.im, fun p hp => h.ownG (List.mem_append_left _ hp), fun p hp => h.fresh (by simp [hp]), (List.nodup_append.1 (List.nodup_append.1 hn).2.1).1⟩
def TK (R : Hp → Value → List (Nat × Obj) → Prop) (σ : Hp) (K : List (Nat × Obj)) (w : World) (u : Value) (w' : World) : Prop :=
  ∃ σ' K', Le σ σ' ∧ Fresh σ σ' w ∧ R σ' u K' ∧ St w (keysOf K) σ' [] K' w'
/-- It hands back u, having turned just the blocks K. -/
def GiveK (R : Hp → Value → List (Nat × Obj) → Prop) (σ : Hp) (K : List (Nat × Obj)) (w : World) (e : Ending) (w' : World) : Prop := ∃ u, e = .returned u ∧ TK R σ K w u w'
theorem St.givesK {w0 w : World} {σ σ' : Hp} {K K' : List (Nat × Obj)} {R : Hp → Value → List (Nat × Obj) → Prop} {v : Value} (h : St w0 (keysOf K) σ' [] K' w) (hl : Le σ σ') (hf : Fresh σ σ' w0) (hr : R σ' v K') :
    GiveK R σ K w0 (.returned v) w := ⟨v, rfl, σ', K', hl, hf, hr, h⟩
theorem St.mutK {w0 w w' : World} {M : Nat → Prop} {σ σ' : Hp} {H K K' G : List (Nat × Obj)} (h : St w0 M σ H (K ++ G) w) (hf : Fresh σ σ' w) (hl : Le σ σ') (k : St w (keysOf K) σ' [] K' w') : St w0 M σ' H (K' ++ G) w' := by
  have hnd := St0.nd h
  rw [List.map_append, List.map_append, List.nodup_append] at hnd
  obtain ⟨hH, hKG, hHK⟩ := hnd
  rw [List.nodup_append] at hKG
  obtain ⟨hK, hG, hKG⟩ := hKG
  have hk' : (K'.map (·.1)).Nodup := by simpa using St0.nd k
  have hmoK : ∀ p ∈ K, M p.1 ∨ w0.heap.size ≤ p.1 := fun p hp => St0.mo h p (by simp [hp])
  have hmo' : ∀ p ∈ K', M p.1 ∨ w0.heap.size ≤ p.1 := fun p hp => by
    rcases St0.mo k p (by simpa using hp) with ⟨q, hq, e⟩ | h1
    · rw [← e]; exact hmoK q hq
    · exact .inr (Nat.le_trans h.ag.size h1)
  have hout : ∀ p, p ∈ H ∨ p ∈ G → ¬ keysOf K p.1 := fun p hp ⟨q, hq, e⟩ => by
    rcases hp with hp | hp
    · exact hHK p.1 (List.mem_map_of_mem hp) q.1 (List.mem_append_left _ (List.mem_map_of_mem hq)) e.symm
    · exact hKG q.1 (List.mem_map_of_mem hq) p.1 (List.mem_map_of_mem hp) e
  have hlt : ∀ p, p ∈ H ∨ p ∈ G → p.1 < w.heap.size := fun p hp => h.lt (by rcases hp with hp | hp <;> simp [hp])
  have hkeep : ∀ p, p ∈ H ∨ p ∈ G → w'.heap[p.1]? = some p.2 := fun p hp => by
    rw [k.ag.block p.1 (hlt p hp) (hout p hp)]
    exact St0.ow h p (by rcases hp with hp | hp <;> simp [hp])
  have hnew : ∀ p ∈ K', keysOf K p.1 ∨ w.heap.size ≤ p.1 := fun p hp => St0.mo k p (by simpa using hp)
  have hapart : ∀ p, p ∈ H ∨ p ∈ G → ∀ q ∈ K', p.1 ≠ q.1 := fun p hp q hq e => by
    rcases hnew q hq with h1 | h1
    · rw [← e] at h1; exact hout p hp h1
    · have := hlt p hp; omega
  refine ⟨⟨k.ag.os.trans h.ag.os, k.ag.tape.trans h.ag.tape, k.ag.output.trans h.ag.output, Nat.le_trans h.ag.size k.ag.size, fun i hi hm => ?_⟩, k.im, fun p hp => ?_, fun p hp => ?_, fun p hp => ?_, ?_⟩
  · rw [k.ag.block i (Nat.lt_of_lt_of_le hi h.ag.size) (fun ⟨q, hq, e⟩ => by
      subst e
      rcases hmoK q hq with h1 | h1
      · exact hm h1
      · exact absurd hi (Nat.not_lt.2 h1))]
    exact h.ag.block i hi hm
  · rcases List.mem_append.1 hp with hp | hp
    · exact hkeep p (.inl hp)
    · rcases List.mem_append.1 hp with hp | hp
      · exact k.ownG hp
      · exact hkeep p (.inr hp)
  · have hfr : ∀ p, p ∈ H ∨ p ∈ G → σ' p.1 = none := fun p hp => by
      cases e : σ' p.1 with
      | none => rfl
      | some o =>
        rcases hf p.1 o e with h1 | h1
        · rw [h.fresh (p := p) (by rcases hp with hp | hp <;> simp [hp])] at h1; cases h1
        · exact absurd (hlt p hp) (Nat.not_lt.2 h1)
    rcases List.mem_append.1 hp with hp | hp
    · exact hfr p (.inl hp)
    · rcases List.mem_append.1 hp with hp | hp
      · exact k.fresh (by simpa using hp)
      · exact hfr p (.inr hp)
  · rcases List.mem_append.1 hp with hp | hp
    · exact St0.mo h p (by simp [hp])
    · rcases List.mem_append.1 hp with hp | hp
      · exact hmo' p hp
      · exact St0.mo h p (by simp [hp])
  · rw [List.map_append, List.map_append, List.nodup_append, List.nodup_append]
    refine ⟨hH, ⟨hk', hG, fun a ha b hb e => ?_⟩, fun a ha b hb e => ?_⟩
    · subst e
      obtain ⟨p, hp, rfl⟩ := List.mem_map.1 ha
      obtain ⟨q, hq, e⟩ := List.mem_map.1 hb
      exact hapart q (.inr hq) p hp e
    · subst e
      obtain ⟨p, hp, rfl⟩ := List.mem_map.1 ha
      rcases List.mem_append.1 hb with hb | hb
      · obtain ⟨q, hq, e⟩ := List.mem_map.1 hb
        exact hapart p (.inl hp) q hq e.symm
      · exact hHK p.1 (List.mem_map_of_mem hp) p.1 (List.mem_append_right _ hb) rfl
theorem St.permG {w0 w : World} {M : Nat → Prop} {σ : Hp} {H G G' : List (Nat × Obj)} (h : St w0 M σ H G w) (hp : G'.Perm G) : St w0 M σ H G' w := St0.perm h (hp.append_left H)
theorem St.swapG {w0 w : World} {M : Nat → Prop} {σ : Hp} {H A B G : List (Nat × Obj)} (h : St w0 M σ H (A ++ (B ++ G)) w) : St w0 M σ H (B ++ (A ++ G)) w := h.permG (by
  rw [← List.append_assoc, ← List.append_assoc]; exact List.perm_append_comm.append_right G)
section
variable {P : Program} {l0 : List Oper} {Q : Exit → Act → World → Prop} {rest : List Oper} {N : Nat} {L : TL} {d : Nat} {ty : TypeId} {pos : String}
  {af : Array Edge} {g : Option (Nat × Bool)} {op : Op} {w0 : World} {M : Nat → Prop} {σ : Hp} {H K G : List (Nat × Obj)} {R : Hp → Value → List (Nat × Obj) → Prop}
theorem ow_ck (hN : Nat.blt d N = true) (hg : gd l0 L g = some true) (h : ExC P op N L (St w0 M σ H (K ++ G)) (TK R σ K))
    (k : ∀ u σ' K', Le σ σ' → Fresh σ σ' w0 → R σ' u K' → OW P l0 Q rest N ((d, u) :: L) (St w0 M σ' H (K' ++ G))) : OW P l0 Q (⟨some d, op, ty, pos, af, g⟩ :: rest) N L (St w0 M σ H (K ++ G)) :=
  ow_c hN hg h fun u a w' hf ⟨w, hs, σ', K', h1, h2, h3, h4⟩ => k u σ' K' h1 (h2.mono hs.ag.size) h3 a w' hf (hs.mutK h2 h1 h4)
theorem ow_ckn (hg : gd l0 L g = some true) (h : ExC P op N L (St w0 M σ H (K ++ G)) (TK R σ K))
    (k : ∀ u σ' K', Le σ σ' → Fresh σ σ' w0 → R σ' u K' → OW P l0 Q rest N L (St w0 M σ' H (K' ++ G))) : OW P l0 Q (⟨none, op, ty, pos, af, g⟩ :: rest) N L (St w0 M σ H (K ++ G)) :=
  ow_cnT hg h fun u a w' hf ⟨w, hs, σ', K', h1, h2, h3, h4⟩ => k u σ' K' h1 (h2.mono hs.ag.size) h3 a w' hf (hs.mutK h2 h1 h4)
/-- A call that makes blocks of its own. -/
theorem ow_ck0 (hN : Nat.blt d N = true) (hg : gd l0 L g = some true) (h : ExC P op N L (St w0 M σ H G) (TK R σ []))
    (k : ∀ u σ' K', Le σ σ' → Fresh σ σ' w0 → R σ' u K' → OW P l0 Q rest N ((d, u) :: L) (St w0 M σ' H (K' ++ G))) : OW P l0 Q (⟨some d, op, ty, pos, af, g⟩ :: rest) N L (St w0 M σ H G) :=
  ow_ck (K := []) hN hg h k
end

/-! ## Blocks that are read -/
def exts (σ : Hp) : List (Nat × Obj) → Hp
  | [] => σ
  | p :: r => ext (exts σ r) p.1 p.2
theorem exts_none {σ : Hp} : ∀ {K : List (Nat × Obj)} {b : Nat}, σ b = none → (∀ p ∈ K, p.1 ≠ b) → exts σ K b = none
  | [], b, h, _ => h
  | p :: r, b, h, hk => by
    unfold exts ext
    rw [if_neg (fun e => hk p (by simp) e.symm)]
    exact exts_none h (fun q hq => hk q (List.mem_cons_of_mem _ hq))
theorem le_exts {σ : Hp} : ∀ {K : List (Nat × Obj)}, (∀ p ∈ K, σ p.1 = none) → (K.map (·.1)).Nodup → Le σ (exts σ K)
  | [], _, _ => Le.refl _
  | p :: r, h, hn => by
    simp only [List.map_cons, List.nodup_cons] at hn
    refine (le_exts (fun q hq => h q (List.mem_cons_of_mem _ hq)) hn.2).trans (le_ext (exts_none (h p (by simp)) fun q hq e => hn.1 ?_))
    rw [← e]; exact List.mem_map_of_mem hq
theorem exts_get {σ : Hp} : ∀ {K : List (Nat × Obj)} {p : Nat × Obj}, (K.map (·.1)).Nodup → p ∈ K → exts σ K p.1 = some p.2
  | q :: r, p, hn, hp => by
    simp only [List.map_cons, List.nodup_cons] at hn
    unfold exts ext
    rcases List.mem_cons.1 hp with rfl | hp
    · rw [if_pos rfl]
    · rw [if_neg (fun e => hn.1 (by rw [← e]; exact List.mem_map_of_mem hp))]
      exact exts_get hn.2 hp
theorem Imm.exts {σ : Hp} {w : World} (h : Imm σ w) : ∀ {K : List (Nat × Obj)}, Own K w → Imm (exts σ K) w
  | [], _ => h
  | p :: r, ho => Imm.ext (Imm.exts h (fun q hq => ho q (List.mem_cons_of_mem _ hq))) (ho p (by simp))
theorem Has.exts {σ : Hp} {K : List (Nat × Obj)} {w : World} (h : Has σ K w) : Imm (exts σ K) w := h.im.exts h.ow
theorem Has.le {σ : Hp} {K : List (Nat × Obj)} {w : World} (h : Has σ K w) : Le σ (Go.Proofs.YtnjomdjkbbhdoaaDoor.exts σ K) := le_exts h.dj h.nd
theorem Has.more {σ : Hp} {K G : List (Nat × Obj)} {w : World} (h : Has σ (K ++ G) w) : Has (Go.Proofs.YtnjomdjkbbhdoaaDoor.exts σ K) G w := by
  have hn := h.nd
  rw [List.map_append, List.nodup_append] at hn
  refine ⟨h.im.exts fun p hp => h.ow p (List.mem_append_left _ hp), fun p hp => h.ow p (List.mem_append_right _ hp), fun p hp => exts_none (h.dj p (List.mem_append_right _ hp)) fun q hq e => ?_, hn.2.1⟩
  exact hn.2.2 q.1 (List.mem_map_of_mem hq) p.1 (List.mem_map_of_mem hp) e

/-! ### A call on less of what never turns -/
section
variable {P : Program} {l0 : List Oper} {Q : Exit → Act → World → Prop} {rest : List Oper} {N : Nat} {L : TL} {d : Nat} {ty : TypeId} {pos : String}
  {af : Array Edge} {g : Option (Nat × Bool)} {op : Op} {w0 : World} {M : Nat → Prop} {σ σK : Hp} {H G : List (Nat × Obj)} {Rep : Hp → Value → Prop}
theorem ow_crs (hN : Nat.blt d N = true) (hg : gd l0 L g = some true) (hle : Le σ σK) (h : ExC P op N L (St w0 M σK H G) (TR Rep σ))
    (k : ∀ u σ' σK', Le σ σ' → Fresh σ σ' w0 → Rep σ' u → Le σK σK' → Le σ' σK' → OW P l0 Q rest N ((d, u) :: L) (St w0 M σK' H G)) : OW P l0 Q (⟨some d, op, ty, pos, af, g⟩ :: rest) N L (St w0 M σK H G) :=
  ow_c hN hg h fun u a w' hf ⟨w, hs, σ', h1, h2, h3, h4, h5⟩ => by
    have hk := hs.keep h5
    refine k u σ' (join σK σ') h1 (h2.mono hs.ag.size) h4 (le_join _ _) (le_join' hk.im h3) a w' hf (hk.le (hk.im.join h3) fun p hp => ?_)
    unfold join
    rw [hk.fresh hp]
    cases e : σ' p.1 with
    | none => rfl
    | some o =>
      rcases h2 p.1 o e with h6 | h6
      · have := hle p.1 o h6
        rw [hs.fresh hp] at this; cases this
      · exact absurd (hs.lt hp) (Nat.not_lt.2 h6)
theorem St.givesS {w0 w : World} {σ σ' σK : Hp} {H G : List (Nat × Obj)} {Rep : Hp → Value → Prop} {v : Value} (h : St w0 (fun _ => False) σK H G w) (hk : Le σ' σK) (hl : Le σ σ') (hf : Fresh σ σ' w0) (hr : Rep σ' v) :
    GiveR Rep σ w0 (.returned v) w := ⟨v, σ', rfl, hl, hf, fun b o e => h.im b o (hk b o e), hr, h.ag.below⟩
end

/-! ### Reads and stores of rows' blocks -/
section
variable {P : Program} {N : Nat} {L : TL} {w0 : World} {M : Nat → Prop} {σ : Hp} {H G : List (Nat × Obj)} {b o : Nat}
theorem ld_ownG1 (i : Nat) {arr : Array Value} {et : TypeId} {fz : Nat × Nat} {v : Value} (hG : G[i]? = some (b, .cells arr et fz)) (hv : nthV arr.toList o = some v) : ∀ w, St w0 M σ H G w → w.cell? ⟨b, o, none⟩ = some v := fun w hs => by
  rw [cell_of_blk (hs.ownG (List.mem_of_getElem? hG))]
  rw [nthV_eq] at hv
  simpa using hv
theorem ld_ownGN (i : Nat) {arr : Array Value} {et : TypeId} {fz : Nat × Nat} {k : Nat} {cs : List Value} (hG : G[i]? = some (b, .cells arr et fz)) (hv : takeV (dropV arr.toList o) k = some cs) :
    cs.length = k ∧ ∀ w, St w0 M σ H G w → w.rangeAt b o cs := by
  obtain ⟨h1, h2⟩ := takeV_get hv
  refine ⟨h1, fun w hs j v hj => ?_⟩
  rw [cell_of_blk (hs.ownG (List.mem_of_getElem? hG))]
  have := h2 j v hj
  rw [dropV_eq, List.getElem?_drop] at this
  simpa using this
theorem CellsAt.of1 {b : Nat} {arr : Array Value} {ty : TypeId} {fz : Nat × Nat} {o : Nat} {v : Value} (h : σ b = some (.cells arr ty fz)) (hv : nthV arr.toList o = some v) : CellsAt σ b o [v] := by
  refine ⟨arr, ty, fz, h, fun j u hj => ?_⟩
  cases j with
  | zero => simp at hj; subst hj; rw [nthV_eq] at hv; simpa using hv
  | succ j => simp at hj
/-- A slice whose row is owned, read. -/
theorem OwnSl.seen {e size n : Nat} {v : Value} {xs : List Value} {Gs : List (Nat × Obj)} (h : OwnSl e size v n xs Gs) (hs : ∀ p ∈ Gs, σ p.1 = some p.2) :
    ∃ p c, v = .slice p n c ∧ n ≤ c ∧ (n = 0 ∨ ∃ b o, p = some ⟨b, o, none⟩ ∧ CellsAt σ b o xs) := by
  rcases h.2 with ⟨rfl, rfl, rfl⟩ | ⟨g, c, cur, rfl, rfl, h2, h3, h4, h5⟩
  · exact ⟨none, 0, rfl, Nat.le_refl _, .inl rfl⟩
  · refine ⟨_, c, rfl, h2, .inr ⟨g, 0, rfl, cur, e, (0, 0), hs (g, .cells cur e (0, 0)) (by simp), fun j u hj => ?_⟩⟩
    rw [← h5, List.getElem?_take] at hj
    split at hj
    · simpa using hj
    · cases hj
end

/-! ## Tables in memory -/
def entT (i : Nat) (t : T) : MapEntry := { key := .string (strOf (keyB t)), val := .int .i64 (i : Int), born := i }
def entsT : Nat → List T → List MapEntry
  | _, [] => []
  | i, t :: r => entT i t :: entsT (i + 1) r
def mapObj (ts : List T) : Obj := .map (entsT 0 ts).toArray ts.length
theorem entsT_snoc : ∀ (ts : List T) (i : Nat) (t : T), entsT i (ts ++ [t]) = entsT i ts ++ [entT (i + ts.length) t]
  | [], i, t => by simp [entsT]
  | u :: r, i, t => by simp [entsT, entsT_snoc r (i + 1) t, Nat.add_assoc, Nat.add_comm 1]
theorem strOf_inj {a b : List UInt8} : strOf a = strOf b ↔ a = b := by
  constructor
  · intro h
    have := congrArg ByteArray.toList h
    rwa [strOf_toList, strOf_toList] at this
  · rintro rfl; rfl
theorem findNow_ents (t : T) : ∀ (ts : List T) (i j : Nat), Instr.findNow .string (.string (strOf (keyB t))) (entsT i ts) j =
    some (if 0 ≤ posT ts t then some (j + (posT ts t).toNat, .int .i64 ((i : Int) + posT ts t)) else none)
  | [], i, j => by simp [entsT, Instr.findNow, posT, findI]
  | u :: r, i, j => by
    have ih := findNow_ents t r (i + 1) (j + 1)
    have hp : posT (u :: r) t = if ord u t = 0 then 0 else if posT r t = -1 then -1 else posT r t + 1 := by
      unfold posT; rw [findI]; simp only [decide_eq_true_eq]
    have hg := posT_ge r t
    rw [entsT, Instr.findNow]
    show (match some (strOf (keyB t) == strOf (keyB u)) with | some true => _ | some false => _ | none => _) = _
    by_cases h : ord u t = 0
    · have e := ord_zero.1 h
      subst e
      have hb : (strOf (keyB u) == strOf (keyB u)) = true := by rw [beq_toListBytes]; simp
      rw [hp, if_pos h, hb]
      simp [entT]
    · have hne : ¬ strOf (keyB t) = strOf (keyB u) := fun e => h (ord_zero.2 (keyB_inj (strOf_inj.1 e)).symm)
      have hb : (strOf (keyB t) == strOf (keyB u)) = false := by
        rw [beq_toListBytes, strOf_toList, strOf_toList]
        simpa using fun e => hne (strOf_inj.2 e)
      rw [hb, hp, if_neg h]
      simp only
      rw [ih]
      by_cases h2 : 0 ≤ posT r t
      · rw [if_pos h2, if_neg (show ¬ posT r t = -1 by omega), if_pos (by omega)]
        congr 3
        · omega
        · congr 1; omega
      · rw [if_neg h2, if_pos (show posT r t = -1 by omega), if_neg (show ¬ (0 : Int) ≤ -1 by omega)]
section
variable {P : Program} {N : Nat} {L : TL} {S : World → Prop} {w0 : World} {M : Nat → Prop} {σ : Hp} {H G : List (Nat × Obj)}
theorem run_findKeyT {w : World} {k : TypeId} (hk : P.underlying k = some .string) (t : T) (ts : List T) (i : Nat) :
    (Instr.findKey k (.string (strOf (keyB t))) (entsT i ts)).run P w = .ok (if 0 ≤ posT ts t then some ((posT ts t).toNat, .int .i64 ((i : Int) + posT ts t)) else none) w := by
  unfold Instr.findKey
  rw [Sem.run_bind, run_underlying hk w]
  simp only [Result.andThen]
  rw [findNow_ents]
  simp
theorem run_checkStr {w : World} {k : TypeId} (hk : P.underlying k = some .string) (b : Bool) (s : ByteArray) : (Instr.checkKey b 10000 k (.string s)).run P w = .ok () w := by
  show (Instr.checkKey b (9999 + 1) k (.string s)).run P w = _
  unfold Instr.checkKey
  rw [Sem.run_bind, run_underlying hk w]
  rfl
theorem ex_mapget {t k e m : Nat} {x y : Operand} {u : T} {ts : List T} [h : MapT P t k e] (hx : ev L x = some (.map (some m))) (hy : ev L y = some (.string (strOf (keyB u)))) (hm : ∀ w, S w → w.heap[m]? = some (mapObj ts)) :
    Ex P (.lookup t x y true) N L S (.tuple #[.int .i64 (if 0 ≤ posT ts u then posT ts u else 0), .bool (decide (0 ≤ posT ts u))]) := fun a w hf hs d ty pos af g => by
  obtain ⟨h1, h2, h3⟩ := h.ok
  have hz : (zeroValue e).run P w = .ok (.int .i64 0) w := by
    cases hi : P.info? e with
    | none => simp [hi] at h3
    | some i =>
      have : i.zero = some (.int .i64 0) := by simpa [hi] using h3
      simp [zeroValue, typeInfo, hi, this]
  have hl : (Instr.lookup t (.map (some m)) (.string (strOf (keyB u))) true).run P w = .ok (.tuple #[.int .i64 (if 0 ≤ posT ts u then posT ts u else 0), .bool (decide (0 ≤ posT ts u))]) w := by
    have ho : (getObj m).run P w = .ok (mapObj ts) w := by
      have := hm w hs
      unfold mapObj at *
      simp [getObj, Sem.run, this]
    unfold Instr.lookup
    rw [Sem.run_bind, run_underlying h1 w]
    simp only [Result.andThen, Sem.run_bind, ho, mapObj, Sem.run_pure, run_checkStr h2, run_findKeyT h2]
    by_cases hp : 0 ≤ posT ts u
    · simp [hp]
    · simp [hp, hz]
  simp [execOp, hf.eval hx, hf.eval hy, hl]
theorem exu_mapput (i : Nat) {t k e m : Nat} {x y z : Operand} {u : T} {ts : List T} [h : MapT P t k e] (hx : ev L x = some (.map (some m))) (hy : ev L y = some (.string (strOf (keyB u)))) (hz : ev L z = some (.int .i64 (ts.length : Int)))
    (hH : H[i]? = some (m, mapObj ts)) (hn : ¬ 0 ≤ posT ts u) : ExU P (.mapUpdate t x y z) N L (St w0 M σ H G) (St w0 M σ (setH H i (mapObj (ts ++ [u]))) G) := fun a w hf hs d ty pos af g => by
  obtain ⟨h1, h2, h3⟩ := h.ok
  have hb := hs.own (List.mem_of_getElem? hH)
  have ho : (getObj m).run P w = .ok (mapObj ts) w := by
    have hb' : w.heap[m]? = some (mapObj ts) := hb
    unfold mapObj at *
    simp [getObj, Sem.run, hb']
  have hset : ∀ o, (setObj m o).run P w = .ok () (World.putBlk w m o) := fun o => by
    have hb' : w.heap[m]? = some (mapObj ts) := hb
    unfold mapObj at hb'
    simp [setObj, Sem.run, hb', World.putBlk]
  have hl : (Instr.mapUpdate t (.map (some m)) (.string (strOf (keyB u))) (.int .i64 (ts.length : Int))).run P w = .ok () (World.putBlk w m (mapObj (ts ++ [u]))) := by
    unfold Instr.mapUpdate
    rw [Sem.run_bind, run_underlying h1 w]
    simp only [Result.andThen, Sem.run_bind, ho, mapObj, run_checkStr h2, run_findKeyT h2, if_neg hn, hset]
    rw [entsT_snoc]
    simp [entT]
  exact ⟨_, by simp [execOp, hf.eval hx, hf.eval hy, hf.eval hz, hl], hs.put hH _⟩
theorem exw_mkmap {t : TypeId} : ExW P (.makeMap t none) N L (St w0 M σ H G) (fun u w => ∃ b, u = .map (some b) ∧ St w0 M σ ((b, mapObj []) :: H) G w) := fun a w hf hs d ty pos af g =>
  ⟨.map (some w.heap.size), w.alloc (mapObj []), by simp [execOp, Instr.makeMap, newObj, Sem.run, mapObj, entsT], _, rfl, hs.alloc _⟩
theorem ow_mkmap {l0 : List Oper} {Q : Exit → Act → World → Prop} {rest : List Oper} {d : Nat} {ty : TypeId} {pos : String} {af : Array Edge} {g : Option (Nat × Bool)} {op : Op}
    (hN : Nat.blt d N = true) (hg : gd l0 L g = some true) (h : ExW P op N L (St w0 M σ H G) (fun u w => ∃ b, u = .map (some b) ∧ St w0 M σ ((b, mapObj []) :: H) G w))
    (k : ∀ b, OW P l0 Q rest N ((d, .map (some b)) :: L) (St w0 M σ ((b, mapObj []) :: H) G)) : OW P l0 Q (⟨some d, op, ty, pos, af, g⟩ :: rest) N L (St w0 M σ H G) :=
  ow_w hN hg h fun u a w hf ⟨b, hu, hs⟩ => by subst hu; exact k b a w hf hs
end

/-- The program's table: its struct, its map, its row. -/
def VaultK (tv te : TypeId) (b : Nat) (ts : List T) (σ : Hp) (K : List (Nat × Obj)) : Prop :=
  ∃ sv xs m Gs, K = (b, .cells #[sv, .map (some m)] tv) :: (m, mapObj ts) :: Gs ∧ OwnSl te 4 sv ts.length xs Gs ∧ RowC σ xs ts ∧ TabI ts ∧ ts.length ≤ 4096
/-- The document's table: its struct, its row. -/
def RefK (tr te : TypeId) (b : Nat) (ts : List T) (σ : Hp) (K : List (Nat × Obj)) : Prop :=
  ∃ sv xs Gs, K = (b, .cells #[sv] tr) :: Gs ∧ OwnSl te 4 sv ts.length xs Gs ∧ RowC σ xs ts ∧ ts.length ≤ 4096
/-- A builder of strings. -/
def BldK (tb te : TypeId) (b : Nat) (bs : List UInt8) (σ : Hp) (K : List (Nat × Obj)) : Prop :=
  ∃ p sv Gs, K = (b, .cells #[p, sv] tb) :: Gs ∧ (p = .pointer none ∨ p = .pointer (some ⟨b, 0, none⟩)) ∧ OwnSl te 1 sv bs.length (bs.map byteV) Gs
theorem VaultK.le {tv te : TypeId} {b : Nat} {ts : List T} {σ τ : Hp} {K : List (Nat × Obj)} (hl : Le σ τ) (h : VaultK tv te b ts σ K) : VaultK tv te b ts τ K := by
  obtain ⟨sv, xs, m, Gs, h1, h2, h3, h4⟩ := h
  exact ⟨sv, xs, m, Gs, h1, h2, h3.le hl, h4⟩
theorem RefK.le {tv te : TypeId} {b : Nat} {ts : List T} {σ τ : Hp} {K : List (Nat × Obj)} (hl : Le σ τ) (h : RefK tv te b ts σ K) : RefK tv te b ts τ K := by
  obtain ⟨sv, xs, Gs, h1, h2, h3, h4⟩ := h
  exact ⟨sv, xs, Gs, h1, h2, h3.le hl, h4⟩
end Go.Proofs.YtnjomdjkbbhdoaaDoor
