/-
  An argument that reads as a term lies in memory as one.
  No condition.
-/
import Derived.Test.YtnjomdjkbbhdoaaDoorRep
import Derived.Deep.Slices
import Derived.ProofKit
import Derived.SizedLaws
namespace Go.Proofs.YtnjomdjkbbhdoaaDoor
open Go.RowKit Go.ChangeShapes
set_option linter.unusedVariables false

class TermTy (P : Program) (t : TypeId) : Prop where
  ok : ∃ f0 f1 f2 f3 e, P.underlying t = some (.struct #[f0, f1, f2, f3]) ∧ P.cellsOf t = 4 ∧ P.bytesOf t = 64 ∧ (P.underlying f0.type = some (.int .i64) ∧ f0.offset = 0 ∧ P.cellsOf f0.type = 1) ∧ (P.underlying f1.type = some (.int .i64) ∧ f1.offset = 1 ∧ P.cellsOf f1.type = 1) ∧
    (P.underlying f2.type = some (.slice e) ∧ f2.offset = 2 ∧ P.cellsOf f2.type = 1 ∧ P.underlying e = some (.int .u8) ∧ P.cellsOf e = 1 ∧ P.bytesOf e = 1) ∧ (P.underlying f3.type = some (.slice t) ∧ f3.offset = 3 ∧ P.cellsOf f3.type = 1)

/-- Memory as it stands. -/
def nowH (w : World) : Hp := fun b => w.heap[b]?
theorem Imm.now (w : World) : Imm (nowH w) w := fun _ _ h => h
theorem cell_open {w : World} {a : Addr} {v : Value} (h : w.cell? a = some v) : a.spot = none ∧ ∃ arr ty fz, w.heap[a.block]? = some (.cells arr ty fz) ∧ arr[a.off]? = some v := by
  unfold World.cell? at h
  split at h
  · rename_i c ty fz hb
    split at h
    · cases h
    · rename_i hs
      exact ⟨by simpa using hs, c, ty, fz, hb, h⟩
  · cases h
theorem cellsAt_now {w : World} {b o : Nat} {cs : List Value} (hn : cs ≠ []) (h : ∀ i v, cs[i]? = some v → w.cell? ⟨b, o + i, none⟩ = some v) : CellsAt (nowH w) b o cs := by
  obtain ⟨v, r, rfl⟩ := List.exists_cons_of_ne_nil hn
  obtain ⟨_, arr, ty, fz, h1, h2⟩ := cell_open (h 0 v rfl)
  refine ⟨arr, ty, fz, h1, fun j u hj => ?_⟩
  obtain ⟨_, arr', ty', fz', h3, h4⟩ := cell_open (h j u hj)
  have h1' : w.heap[b]? = some (.cells arr ty fz) := h1
  have h3' : w.heap[b]? = some (.cells arr' ty' fz') := h3
  rw [h1'] at h3'
  cases h3'
  exact h4
theorem list_of {α : Type} {q : Nat → α → Prop} : ∀ (n : Nat), (∀ i, i < n → ∃ t, q i t) → ∃ ts : List α, ts.length = n ∧ ∀ i (h : i < ts.length), q i ts[i]
  | 0, _ => ⟨[], rfl, fun i h => absurd h (Nat.not_lt_zero _)⟩
  | n + 1, h => by
    obtain ⟨ts, h1, h2⟩ := list_of n (fun i hi => h i (by omega))
    obtain ⟨t, ht⟩ := h n (by omega)
    refine ⟨ts ++ [t], by simp [h1], fun i hi => ?_⟩
    by_cases e : i < ts.length
    · rw [List.getElem_append_left e]; exact h2 i e
    · have : i = n := by simp at hi; omega
      subst this
      rw [List.getElem_append_right (by omega)]
      simpa [h1] using ht

section
variable {H : Type} {enc : TypeId × Value → H} {P : Program} {w : World}
theorem read_bytes {t e : TypeId} {fuel : Nat} {v : Value} {x : DataW H × List MemPlace} (hu : P.underlying t = some (.slice e)) (he : P.underlying e = some (.int .u8)) (hc : P.cellsOf e = 1) (hb : P.bytesOf e = 1)
    (h : DataW.trod enc P w 0 (fun _ => true) true fuel t [v] = some x) (hw : ∀ n ∈ x.1.weights P t, n ≤ reachBytes) : ∃ d, BytesV (nowH w) v d := by
  rcases open_ints hu he hc h with ⟨hcs, hx⟩ | ⟨a, len, cap, zs, hcs, _, hl, hm, hz, hx, hcell, hwf⟩
  · simp at hcs
    subst hcs
    exact ⟨[], BytesV.nil _⟩
  · simp at hcs
    subst hcs
    subst hx
    have hlz : len ≤ zs.length := by simp at hz; omega
    have hreach : zs.length ≤ reachBytes := by
      have := hw _ (by simp only [DataW.weights, hu]; exact List.mem_cons_self)
      rw [hb, Nat.mul_one] at this
      simp only [lits, List.length_map, List.length_take, List.length_drop] at this
      omega
    have hd : ((zs.take len).map fun z => z.toNat.toUInt8).map byteV = (zs.take len).map fun z => Value.int .u8 z := by
      rw [List.map_map]
      apply List.map_congr_left
      intro z hz'
      have := hwf z (List.mem_of_mem_take hz')
      have : 0 ≤ z ∧ z ≤ 255 := by simpa [Lit.wf, IntKind.min, IntKind.max, IntKind.signed, IntKind.bits] using this
      simp only [Function.comp, byteV]
      congr 1
      have h256 : z.toNat < 256 := by omega
      rw [show (z.toNat.toUInt8).toNat = z.toNat by simp [Nat.toUInt8, Nat.mod_eq_of_lt h256]]
      omega
    have hlen : ((zs.take len).map fun z => z.toNat.toUInt8).length = len := by simp; omega
    refine ⟨(zs.take len).map fun z => z.toNat.toUInt8, some a, cap, by rw [hlen], by rw [hlen]; exact hl, by rw [hlen]; unfold maxData; unfold reachBytes at hreach; omega, ?_⟩
    by_cases h0 : len = 0
    · left; subst h0; simp
    · right
      have hsp : a.spot = none := (cell_open (hcell 0 (by omega))).1
      obtain ⟨b, o, sp⟩ := a
      have hsp' : sp = none := hsp
      subst hsp'
      refine ⟨b, o, rfl, ?_⟩
      rw [hd]
      refine cellsAt_now (fun e => ?_) (fun i u hi => ?_)
      · have := congrArg List.length e
        rw [List.length_map, List.length_take, List.length_nil] at this
        omega
      · rw [List.getElem?_map, List.getElem?_take] at hi
        split at hi
        · rename_i hil
          have := hcell i (Nat.lt_of_lt_of_le hil hlz)
          rw [addr_add] at this
          rw [this, List.getD_eq_getElem?_getD]
          cases hz' : zs[i]? with
          | none => rw [hz'] at hi; simp at hi
          | some z => rw [hz'] at hi; simpa using hi
        · simp at hi
theorem read_term {t : TypeId} [hT : TermTy P t] : ∀ (fuel : Nat) {cs : List Value} {x : DataW H × List MemPlace}, DataW.trod enc P w 0 (fun _ => true) true fuel t cs = some x → (∀ n ∈ x.1.weights P t, n ≤ reachBytes) → ∃ u, TermC (nowH w) cs u := by
  obtain ⟨f0, f1, f2, f3, e, hu, hct, hbt, ⟨a1, a2, a3⟩, ⟨b1, b2, b3⟩, ⟨c1, c2, c3, c4, c5, c6⟩, ⟨d1, d2, d3⟩⟩ := hT.ok
  intro fuel
  induction fuel using Nat.strongRecOn with
  | _ fuel ih =>
    intro cs x h hw
    obtain ⟨xs, n, hfu, rfl, hl, hlen, hf⟩ := DataW.trod_struct hu h
    rw [hct] at hl
    match xs, hlen with
    | [y0, y1, y2, y3], _ =>
      have q0 := hf 0 f0 rfl
      have q1 := hf 1 f1 rfl
      have q2 := hf 2 f2 rfl
      have q3 := hf 3 f3 rfl
      rw [a2, a3] at q0
      rw [b2, b3] at q1
      rw [c2, c3] at q2
      rw [d2, d3] at q3
      obtain ⟨v0, v1, v2, v3, rfl⟩ : ∃ v0 v1 v2 v3, cs = [v0, v1, v2, v3] := by
        match cs, hl with
        | [v0, v1, v2, v3], _ => exact ⟨v0, v1, v2, v3, rfl⟩
      simp at q0 q1 q2 q3
      obtain ⟨i0, e0, _, w0⟩ := DataW.trod_int a1 q0
      obtain ⟨i1, e1, _, w1⟩ := DataW.trod_int b1 q1
      simp at e0 e1
      subst e0 e1
      have r0 : -9223372036854775808 ≤ i0 ∧ i0 ≤ 9223372036854775807 := by simpa [Lit.wf, IntKind.min, IntKind.max, IntKind.signed, IntKind.bits] using w0
      have r1 : -9223372036854775808 ≤ i1 ∧ i1 ≤ 9223372036854775807 := by simpa [Lit.wf, IntKind.min, IntKind.max, IntKind.signed, IntKind.bits] using w1
      have hparts : ∀ n, n ∈ y0.1.weights P f0.type ∨ n ∈ y1.1.weights P f1.type ∨ n ∈ y2.1.weights P f2.type ∨ n ∈ y3.1.weights P f3.type → n ≤ reachBytes := fun n hn => hw n (by
        simp only [DataW.weights, hu, List.map_cons, List.map_nil, DataW.weightsEach, List.mem_append, List.append_nil]
        rcases hn with h | h | h | h
        · exact .inl h
        · exact .inr (.inl h)
        · exact .inr (.inr (.inl h))
        · exact .inr (.inr (.inr h)))
      obtain ⟨d, hd⟩ := read_bytes c1 c4 c5 c6 q2 (fun n hn => hparts n (Or.inr (Or.inr (Or.inl hn))))
      have hk : ∃ ks, KidsV (nowH w) v3 ks := by
        rcases DataW.trod_slice d1 q3 with ⟨hcs, hx⟩ | ⟨a, len, cap, elems, rest, m, hfm, hcs, hx, _, hlc, hcm, hel, helem, hrest, _⟩
        · simp at hcs; subst hcs; exact ⟨[], KidsV.nil _⟩
        · simp at hcs
          subst hcs
          have hwk : ∀ n ∈ (DataW.slice (elems.map (·.1)) (rest.map (·.1))).weights P f3.type, n ≤ reachBytes := fun n hn => hparts n (Or.inr (Or.inr (Or.inr (by rw [hx]; exact hn))))
          simp only [DataW.weights, d1] at hwk
          have hlen : len * 64 ≤ reachBytes := by
            have := hwk _ List.mem_cons_self
            rw [hbt] at this
            simp only [List.length_map] at this
            have h2 : len * 64 ≤ (elems.length + rest.length) * 64 := Nat.mul_le_mul_right _ (by omega)
            omega
          have hwe : ∀ (l : List (DataW H)), (∀ n ∈ DataW.weightsAll P t l, n ≤ reachBytes) → ∀ y ∈ l, ∀ n ∈ y.weights P t, n ≤ reachBytes := by
            intro l
            induction l with
            | nil => intro _ y hy; cases hy
            | cons z r ihl =>
              intro hz y hy n hn
              simp only [DataW.weightsAll] at hz
              rcases List.mem_cons.1 hy with rfl | hy
              · exact hz n (List.mem_append_left _ hn)
              · exact ihl (fun n hn => hz n (List.mem_append_right _ hn)) y hy n hn
          have hwel := hwe (elems.map (·.1)) (fun n hn => hwk n (List.mem_cons_of_mem _ (List.mem_append_left _ hn)))
          have hspot : 0 < len → a.spot = none := fun h0 => by
            have h1 := helem 0 h0
            rw [List.getElem?_eq_getElem (show 0 < elems.length by omega), hct] at h1
            cases hc : w.cells? 0 (a.add (0 * 4)) 4 with
            | none => rw [hc] at h1; simp at h1
            | some cs' =>
              obtain ⟨_, hl4, hcell⟩ := World.cells?_some hc
              have h2 := hcell 0 (by omega)
              rw [List.getElem?_eq_getElem (by omega)] at h2
              have := (cell_open h2).1
              simpa [Addr.add] using this
          obtain ⟨ts, ht1, ht2⟩ := list_of (q := fun i u => ∃ cs', CellsAt (nowH w) a.block (a.off + i * 4) cs' ∧ TermC (nowH w) cs' u) len (fun i hi => by
            have h1 := helem i hi
            rw [List.getElem?_eq_getElem (show i < elems.length by omega), hct] at h1
            cases hc : w.cells? 0 (a.add (i * 4)) 4 with
            | none => rw [hc] at h1; simp at h1
            | some cs' =>
              rw [hc] at h1
              simp only [Option.bind_some] at h1
              obtain ⟨_, hl4, hcell⟩ := World.cells?_some hc
              obtain ⟨u, hu'⟩ := ih m (by omega) h1 (fun n hn => hwel _ (List.mem_map.2 ⟨elems[i], List.getElem_mem _, rfl⟩) n hn)
              have hsp := hspot (by omega)
              refine ⟨u, cs', ?_, hu'⟩
              obtain ⟨b, o, sp⟩ := a
              have hsp' : sp = none := hsp
              subst hsp'
              refine cellsAt_now (fun e => by rw [e] at hl4; simp at hl4) (fun j v hj => ?_)
              have := hcell j (by have := (List.getElem?_eq_some_iff.1 hj).1; omega)
              rw [addr_add, addr_add] at this
              rw [this]; exact hj)
          refine ⟨ts, some a, cap, by rw [ht1], by rw [ht1]; exact hlc, by rw [ht1]; unfold maxKids; unfold reachBytes at hlen; omega, ?_⟩
          by_cases h0 : ts = []
          · exact Or.inl h0
          · right
            have hpos : 0 < ts.length := List.length_pos_iff.2 h0
            have hsp := hspot (by omega)
            obtain ⟨b, o, sp⟩ := a
            have hsp' : sp = none := hsp
            subst hsp'
            exact ⟨b, o, rfl, ElemsC.of fun i hi => ht2 i hi⟩
      obtain ⟨ks, hk⟩ := hk
      exact ⟨.mk i0 i1 d ks, TermC.mk r0 r1 hd hk⟩
end
end Go.Proofs.YtnjomdjkbbhdoaaDoor
