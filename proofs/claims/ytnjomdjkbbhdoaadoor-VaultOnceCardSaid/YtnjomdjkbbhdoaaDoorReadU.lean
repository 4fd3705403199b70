/-
  An argument that reads as a term lies in memory as one; how great it is, by a count of what is read.
  No condition.
-/
import Derived.Test.YtnjomdjkbbhdoaaDoorRead
import Derived.Test.YtnjomdjkbbhdoaaDoorKey
import Derived.Deep.Slices
import Derived.ProofKit
import Derived.SizedLaws
namespace Go.Proofs.YtnjomdjkbbhdoaaDoor
open Go.RowKit Go.ChangeShapes
set_option linter.unusedVariables false

/-- A count of what is read. -/
structure Bulky {H : Type} (bk : DataW H → Nat) : Prop where
  lit : ∀ l, 1 ≤ bk (.lit l)
  nil : 1 ≤ bk .nil
  agg : ∀ ps, (ps.map bk).sum + 1 ≤ bk (.agg ps)
  slice : ∀ es sp, (es.map bk).sum + 1 ≤ bk (.slice es sp)
mutual
def bulkT : T → Nat
  | .mk _ _ d ks => 5 + d.length + bulkTs ks
def bulkTs : List T → Nat
  | [] => 0
  | k :: r => bulkT k + bulkTs r
end
theorem keyB_bulk' : ∀ (t : T) {σ : Hp} {cs : List Value}, TermC σ cs t → (keyB t).length ≤ 20 * bulkT t := by
  intro t
  induction t using T.ind with
  | _ o n d ks ih =>
    intro σ cs h
    obtain ⟨dv, kv, rfl, ho, hn, hd, hk⟩ := h.opn
    simp only [T.kids, T.op, T.num, T.data] at *
    obtain ⟨p, c, rfl, hc, hm⟩ := hk.slice
    obtain ⟨pd, cd, rfl, hcd, hmd⟩ := hd.slice
    unfold maxKids at hm
    unfold maxData at hmd
    have hh := headB_len (d := d.length) (k := ks.length) ho hn (by omega) (by omega)
    have key : ∀ (l : List T), (∀ k ∈ l, (keyB k).length ≤ 20 * bulkT k) → (keysB l).length ≤ 20 * bulkTs l := by
      intro l
      induction l with
      | nil => intro _; simp [keysB]
      | cons k r ihl =>
        intro hl
        have h1 := hl k (by simp)
        have h2 := ihl (fun x hx => hl x (List.mem_cons_of_mem _ hx))
        simp only [keysB, List.length_append, bulkTs]; omega
    have hks := key ks (fun k hkm => by
      obtain ⟨i, hi, rfl⟩ := List.mem_iff_getElem.1 hkm
      obtain ⟨b, f, c', cs', _, _, _, ht⟩ := hk.get i hi
      exact ih _ (List.getElem_mem hi) ht)
    simp only [keyB, bulkT, List.length_append]
    omega
theorem KidsV.key {σ : Hp} {v : Value} {ks : List T} {t : T} (h : KidsV σ v ks) (ht : t ∈ ks) : (keyB t).length ≤ 20 * bulkT t := by
  obtain ⟨i, hi, rfl⟩ := List.mem_iff_getElem.1 ht
  obtain ⟨b, f, c', cs', _, _, _, ht⟩ := h.get i hi
  exact keyB_bulk' _ ht
theorem bulkTs_sum : ∀ {ts : List T} {es : List Nat}, ts.length ≤ es.length → (∀ i (h : i < ts.length) (h' : i < es.length), bulkT ts[i] ≤ es[i]) → bulkTs ts ≤ es.sum
  | [], es, _, _ => by simp [bulkTs]
  | t :: r, [], h, _ => by simp at h
  | t :: r, e :: es, h, hb => by
    have h1 := hb 0 (by simp) (by simp)
    have h2 := bulkTs_sum (ts := r) (es := es) (by simpa using h) (fun i hi hi' => hb (i + 1) (by simpa using hi) (by simpa using hi'))
    simp only [bulkTs, List.sum_cons]
    simp only [List.getElem_cons_zero] at h1
    omega
theorem length_le_sum : ∀ {es : List Nat}, (∀ e ∈ es, 1 ≤ e) → es.length ≤ es.sum
  | [], _ => by simp
  | e :: r, h => by
    have h1 := h e (by simp)
    have h2 := length_le_sum (es := r) (fun x hx => h x (List.mem_cons_of_mem _ hx))
    simp only [List.length_cons, List.sum_cons]; omega
section
variable {H : Type} {enc : TypeId × Value → H} {P : Program} {w : World} {bk : DataW H → Nat}
theorem read_bytesU (B : Bulky bk) {t e : TypeId} {fuel : Nat} {v : Value} {x : DataW H × List MemPlace} (hu : P.underlying t = some (.slice e)) (he : P.underlying e = some (.int .u8)) (hc : P.cellsOf e = 1) (hb : P.bytesOf e = 1)
    (h : DataW.trod enc P w 0 (fun _ => true) true fuel t [v] = some x) (hw : ∀ n ∈ x.1.weights P t, n ≤ reachBytes) : ∃ d, BytesV (nowH w) v d ∧ d.length + 1 ≤ bk x.1 := by
  rcases open_ints hu he hc h with ⟨hcs, hx⟩ | ⟨a, len, cap, zs, hcs, _, hl, hm, hz, hx, hcell, hwf⟩
  · simp at hcs
    subst hcs
    subst hx
    exact ⟨[], BytesV.nil _, by simpa using B.nil⟩
  · simp at hcs
    subst hcs
    subst hx
    have hlz : len ≤ zs.length := by simp at hz; omega
    have hreach : zs.length ≤ reachBytes := by
      have := hw _ (by simp only [DataW.weights, hu]; exact List.mem_cons_self)
      rw [hb, Nat.mul_one] at this
      simp only [lits, List.length_map, List.length_take, List.length_drop] at this
      omega
    have hd : ((zs.take len).map fun z => z.toNat.toUInt8).map byteV = (zs.take len).map fun z => Value.int .u8 z := by
      rw [List.map_map]
      apply List.map_congr_left
      intro z hz'
      have := hwf z (List.mem_of_mem_take hz')
      have : 0 ≤ z ∧ z ≤ 255 := by simpa [Lit.wf, IntKind.min, IntKind.max, IntKind.signed, IntKind.bits] using this
      simp only [Function.comp, byteV]
      congr 1
      have h256 : z.toNat < 256 := by omega
      rw [show (z.toNat.toUInt8).toNat = z.toNat by simp [Nat.toUInt8, Nat.mod_eq_of_lt h256]]
      omega
    have hlen : ((zs.take len).map fun z => z.toNat.toUInt8).length = len := by simp; omega
    have hbk : len + 1 ≤ bk (DataW.slice (lits .u8 (zs.take len)) (lits .u8 (zs.drop len)) : DataW H) := by
      refine Nat.le_trans (Nat.add_le_add_right ?_ 1) (B.slice _ _)
      have h1 := length_le_sum (es := (lits (H := H) .u8 (zs.take len)).map bk) (fun e he => by
        obtain ⟨y, hy, rfl⟩ := List.mem_map.1 he
        obtain ⟨z, _, rfl⟩ := List.mem_map.1 hy
        exact B.lit _)
      simp only [lits, List.length_map, List.length_take] at h1
      simp only [lits]
      omega
    refine ⟨(zs.take len).map fun z => z.toNat.toUInt8, ⟨some a, cap, by rw [hlen], by rw [hlen]; exact hl, by rw [hlen]; unfold maxData; unfold reachBytes at hreach; omega, ?_⟩, by rw [hlen]; exact hbk⟩
    by_cases h0 : len = 0
    · left; subst h0; simp
    · right
      have hsp : a.spot = none := (cell_open (hcell 0 (by omega))).1
      obtain ⟨b, o, sp⟩ := a
      have hsp' : sp = none := hsp
      subst hsp'
      refine ⟨b, o, rfl, ?_⟩
      rw [hd]
      refine cellsAt_now (fun e => ?_) (fun i u hi => ?_)
      · have := congrArg List.length e
        rw [List.length_map, List.length_take, List.length_nil] at this
        omega
      · rw [List.getElem?_map, List.getElem?_take] at hi
        split at hi
        · rename_i hil
          have := hcell i (Nat.lt_of_lt_of_le hil hlz)
          rw [addr_add] at this
          rw [this, List.getD_eq_getElem?_getD]
          cases hz' : zs[i]? with
          | none => rw [hz'] at hi; simp at hi
          | some z => rw [hz'] at hi; simpa using hi
        · simp at hi
theorem read_termU (B : Bulky bk) {t : TypeId} [hT : TermTy P t] : ∀ (fuel : Nat) {cs : List Value} {x : DataW H × List MemPlace}, DataW.trod enc P w 0 (fun _ => true) true fuel t cs = some x → (∀ n ∈ x.1.weights P t, n ≤ reachBytes) → ∃ u, TermC (nowH w) cs u ∧ bulkT u ≤ bk x.1 := by
  obtain ⟨f0, f1, f2, f3, e, hu, hct, hbt, ⟨a1, a2, a3⟩, ⟨b1, b2, b3⟩, ⟨c1, c2, c3, c4, c5, c6⟩, ⟨d1, d2, d3⟩⟩ := hT.ok
  intro fuel
  induction fuel using Nat.strongRecOn with
  | _ fuel ih =>
    intro cs x h hw
    obtain ⟨xs, n, hfu, rfl, hl, hlen, hf⟩ := DataW.trod_struct hu h
    rw [hct] at hl
    match xs, hlen with
    | [y0, y1, y2, y3], _ =>
      have q0 := hf 0 f0 rfl
      have q1 := hf 1 f1 rfl
      have q2 := hf 2 f2 rfl
      have q3 := hf 3 f3 rfl
      rw [a2, a3] at q0
      rw [b2, b3] at q1
      rw [c2, c3] at q2
      rw [d2, d3] at q3
      obtain ⟨v0, v1, v2, v3, rfl⟩ : ∃ v0 v1 v2 v3, cs = [v0, v1, v2, v3] := by
        match cs, hl with
        | [v0, v1, v2, v3], _ => exact ⟨v0, v1, v2, v3, rfl⟩
      simp at q0 q1 q2 q3
      obtain ⟨i0, e0, x0, w0⟩ := DataW.trod_int a1 q0
      obtain ⟨i1, e1, x1, w1⟩ := DataW.trod_int b1 q1
      simp at e0 e1
      subst e0 e1
      have r0 : -9223372036854775808 ≤ i0 ∧ i0 ≤ 9223372036854775807 := by simpa [Lit.wf, IntKind.min, IntKind.max, IntKind.signed, IntKind.bits] using w0
      have r1 : -9223372036854775808 ≤ i1 ∧ i1 ≤ 9223372036854775807 := by simpa [Lit.wf, IntKind.min, IntKind.max, IntKind.signed, IntKind.bits] using w1
      have hparts : ∀ n, n ∈ y0.1.weights P f0.type ∨ n ∈ y1.1.weights P f1.type ∨ n ∈ y2.1.weights P f2.type ∨ n ∈ y3.1.weights P f3.type → n ≤ reachBytes := fun n hn => hw n (by
        simp only [DataW.weights, hu, List.map_cons, List.map_nil, DataW.weightsEach, List.mem_append, List.append_nil]
        rcases hn with h | h | h | h
        · exact .inl h
        · exact .inr (.inl h)
        · exact .inr (.inr (.inl h))
        · exact .inr (.inr (.inr h)))
      obtain ⟨d, hd, hdb⟩ := read_bytesU B c1 c4 c5 c6 q2 (fun n hn => hparts n (Or.inr (Or.inr (Or.inl hn))))
      have hk : ∃ ks, KidsV (nowH w) v3 ks ∧ bulkTs ks + 1 ≤ bk y3.1 := by
        rcases DataW.trod_slice d1 q3 with ⟨hcs, hx⟩ | ⟨a, len, cap, elems, rest, m, hfm, hcs, hx, _, hlc, hcm, hel, helem, hrest, _⟩
        · simp at hcs; subst hcs; subst hx; exact ⟨[], KidsV.nil _, by simpa [bulkTs] using B.nil⟩
        · simp at hcs
          subst hcs
          have hwk : ∀ n ∈ (DataW.slice (elems.map (·.1)) (rest.map (·.1))).weights P f3.type, n ≤ reachBytes := fun n hn => hparts n (Or.inr (Or.inr (Or.inr (by rw [hx]; exact hn))))
          simp only [DataW.weights, d1] at hwk
          have hlen : len * 64 ≤ reachBytes := by
            have := hwk _ List.mem_cons_self
            rw [hbt] at this
            simp only [List.length_map] at this
            have h2 : len * 64 ≤ (elems.length + rest.length) * 64 := Nat.mul_le_mul_right _ (by omega)
            omega
          have hwe : ∀ (l : List (DataW H)), (∀ n ∈ DataW.weightsAll P t l, n ≤ reachBytes) → ∀ y ∈ l, ∀ n ∈ y.weights P t, n ≤ reachBytes := by
            intro l
            induction l with
            | nil => intro _ y hy; cases hy
            | cons z r ihl =>
              intro hz y hy n hn
              simp only [DataW.weightsAll] at hz
              rcases List.mem_cons.1 hy with rfl | hy
              · exact hz n (List.mem_append_left _ hn)
              · exact ihl (fun n hn => hz n (List.mem_append_right _ hn)) y hy n hn
          have hwel := hwe (elems.map (·.1)) (fun n hn => hwk n (List.mem_cons_of_mem _ (List.mem_append_left _ hn)))
          have hspot : 0 < len → a.spot = none := fun h0 => by
            have h1 := helem 0 h0
            rw [List.getElem?_eq_getElem (show 0 < elems.length by omega), hct] at h1
            cases hc : w.cells? 0 (a.add (0 * 4)) 4 with
            | none => rw [hc] at h1; simp at h1
            | some cs' =>
              obtain ⟨_, hl4, hcell⟩ := World.cells?_some hc
              have h2 := hcell 0 (by omega)
              rw [List.getElem?_eq_getElem (by omega)] at h2
              have := (cell_open h2).1
              simpa [Addr.add] using this
          obtain ⟨ts, ht1, ht2⟩ := list_of (q := fun i u => (∃ cs', CellsAt (nowH w) a.block (a.off + i * 4) cs' ∧ TermC (nowH w) cs' u) ∧ ∀ h : i < elems.length, bulkT u ≤ bk elems[i].1) len (fun i hi => by
            have h1 := helem i hi
            rw [List.getElem?_eq_getElem (show i < elems.length by omega), hct] at h1
            cases hc : w.cells? 0 (a.add (i * 4)) 4 with
            | none => rw [hc] at h1; simp at h1
            | some cs' =>
              rw [hc] at h1
              simp only [Option.bind_some] at h1
              obtain ⟨_, hl4, hcell⟩ := World.cells?_some hc
              obtain ⟨u, hu', hub⟩ := ih m (by omega) h1 (fun n hn => hwel _ (List.mem_map.2 ⟨elems[i], List.getElem_mem _, rfl⟩) n hn)
              have hsp := hspot (by omega)
              refine ⟨u, ⟨cs', ?_, hu'⟩, fun _ => hub⟩
              obtain ⟨b, o, sp⟩ := a
              have hsp' : sp = none := hsp
              subst hsp'
              refine cellsAt_now (fun e => by rw [e] at hl4; simp at hl4) (fun j v hj => ?_)
              have := hcell j (by have := (List.getElem?_eq_some_iff.1 hj).1; omega)
              rw [addr_add, addr_add] at this
              rw [this]; exact hj)
          have hbk : bulkTs ts + 1 ≤ bk y3.1 := by
            rw [hx]
            refine Nat.le_trans (Nat.add_le_add_right ?_ 1) (B.slice _ _)
            refine bulkTs_sum (by simp; omega) (fun i hi hi' => ?_)
            simp only [List.getElem_map]
            exact (ht2 i hi).2 _
          refine ⟨ts, ⟨some a, cap, by rw [ht1], by rw [ht1]; exact hlc, by rw [ht1]; unfold maxKids; unfold reachBytes at hlen; omega, ?_⟩, hbk⟩
          by_cases h0 : ts = []
          · exact Or.inl h0
          · right
            have hpos : 0 < ts.length := List.length_pos_iff.2 h0
            have hsp := hspot (by omega)
            obtain ⟨b, o, sp⟩ := a
            have hsp' : sp = none := hsp
            subst hsp'
            exact ⟨b, o, rfl, ElemsC.of fun i hi => (ht2 i hi).1⟩
      obtain ⟨ks, hk, hkb⟩ := hk
      refine ⟨.mk i0 i1 d ks, TermC.mk r0 r1 hd hk, Nat.le_trans ?_ (B.agg _)⟩
      have hl0 : 1 ≤ bk y0.1 := by rw [x0]; exact B.lit _
      have hl1 : 1 ≤ bk y1.1 := by rw [x1]; exact B.lit _
      simp only [List.map_cons, List.map_nil, List.sum_cons, List.sum_nil, bulkT]
      omega
theorem read_kidsU (B : Bulky bk) {t ts : TypeId} [hT : TermTy P t] {fuel : Nat} {v3 : Value} {x : DataW H × List MemPlace} (d1 : P.underlying ts = some (.slice t)) (h : DataW.trod enc P w 0 (fun _ => true) true fuel ts [v3] = some x)
    (hw : ∀ n ∈ x.1.weights P ts, n ≤ reachBytes) : ∃ ks, KidsV (nowH w) v3 ks ∧ bulkTs ks + 1 ≤ bk x.1 := by
  obtain ⟨f0, f1, f2, f3, e, hu, hct, hbt, _⟩ := hT.ok
  rcases DataW.trod_slice d1 h with ⟨hcs, hx⟩ | ⟨a, len, cap, elems, rest, m, hfm, hcs, hx, _, hlc, hcm, hel, helem, hrest, _⟩
  · simp at hcs; subst hcs; subst hx; exact ⟨[], KidsV.nil _, by simpa [bulkTs] using B.nil⟩
  · simp at hcs
    subst hcs
    have hwk : ∀ n ∈ (DataW.slice (elems.map (·.1)) (rest.map (·.1))).weights P ts, n ≤ reachBytes := fun n hn => hw n (by rw [hx]; exact hn)
    simp only [DataW.weights, d1] at hwk
    have hlen : len * 64 ≤ reachBytes := by
      have := hwk _ List.mem_cons_self
      rw [hbt] at this
      simp only [List.length_map] at this
      have h2 : len * 64 ≤ (elems.length + rest.length) * 64 := Nat.mul_le_mul_right _ (by omega)
      omega
    have hwe : ∀ (l : List (DataW H)), (∀ n ∈ DataW.weightsAll P t l, n ≤ reachBytes) → ∀ y ∈ l, ∀ n ∈ y.weights P t, n ≤ reachBytes := by
      intro l
      induction l with
      | nil => intro _ y hy; cases hy
      | cons z r ihl =>
        intro hz y hy n hn
        simp only [DataW.weightsAll] at hz
        rcases List.mem_cons.1 hy with rfl | hy
        · exact hz n (List.mem_append_left _ hn)
        · exact ihl (fun n hn => hz n (List.mem_append_right _ hn)) y hy n hn
    have hwel := hwe (elems.map (·.1)) (fun n hn => hwk n (List.mem_cons_of_mem _ (List.mem_append_left _ hn)))
    have hspot : 0 < len → a.spot = none := fun h0 => by
      have h1 := helem 0 h0
      rw [List.getElem?_eq_getElem (show 0 < elems.length by omega), hct] at h1
      cases hc : w.cells? 0 (a.add (0 * 4)) 4 with
      | none => rw [hc] at h1; simp at h1
      | some cs' =>
        obtain ⟨_, hl4, hcell⟩ := World.cells?_some hc
        have h2 := hcell 0 (by omega)
        rw [List.getElem?_eq_getElem (by omega)] at h2
        have := (cell_open h2).1
        simpa [Addr.add] using this
    obtain ⟨ts, ht1, ht2⟩ := list_of (q := fun i u => (∃ cs', CellsAt (nowH w) a.block (a.off + i * 4) cs' ∧ TermC (nowH w) cs' u) ∧ ∀ h : i < elems.length, bulkT u ≤ bk elems[i].1) len (fun i hi => by
      have h1 := helem i hi
      rw [List.getElem?_eq_getElem (show i < elems.length by omega), hct] at h1
      cases hc : w.cells? 0 (a.add (i * 4)) 4 with
      | none => rw [hc] at h1; simp at h1
      | some cs' =>
        rw [hc] at h1
        simp only [Option.bind_some] at h1
        obtain ⟨_, hl4, hcell⟩ := World.cells?_some hc
        obtain ⟨u, hu', hub⟩ := read_termU B m h1 (fun n hn => hwel _ (List.mem_map.2 ⟨elems[i], List.getElem_mem _, rfl⟩) n hn)
        have hsp := hspot (by omega)
        refine ⟨u, ⟨cs', ?_, hu'⟩, fun _ => hub⟩
        obtain ⟨b, o, sp⟩ := a
        have hsp' : sp = none := hsp
        subst hsp'
        refine cellsAt_now (fun e => by rw [e] at hl4; simp at hl4) (fun j v hj => ?_)
        have := hcell j (by have := (List.getElem?_eq_some_iff.1 hj).1; omega)
        rw [addr_add, addr_add] at this
        rw [this]; exact hj)
    have hbk : bulkTs ts + 1 ≤ bk x.1 := by
      rw [hx]
      refine Nat.le_trans (Nat.add_le_add_right ?_ 1) (B.slice _ _)
      refine bulkTs_sum (by simp; omega) (fun i hi hi' => ?_)
      simp only [List.getElem_map]
      exact (ht2 i hi).2 _
    refine ⟨ts, ⟨some a, cap, by rw [ht1], by rw [ht1]; exact hlc, by rw [ht1]; unfold maxKids; unfold reachBytes at hlen; omega, ?_⟩, hbk⟩
    by_cases h0 : ts = []
    · exact Or.inl h0
    · right
      have hpos : 0 < ts.length := List.length_pos_iff.2 h0
      have hsp := hspot (by omega)
      obtain ⟨b, o, sp⟩ := a
      have hsp' : sp = none := hsp
      subst hsp'
      exact ⟨b, o, rfl, ElemsC.of fun i hi => (ht2 i hi).1⟩
end
mutual
def cnt1 {H : Type} : DataW H → Nat
  | .lit _ => 1
  | .nil => 1
  | .ptr _ => 1
  | .slice es _ => cnts1 es + 1
  | .agg ps => cnts1 ps + 1
  | .iface _ _ => 1
  | .map _ => 1
  | .held _ => 1
def cnts1 {H : Type} : List (DataW H) → Nat
  | [] => 0
  | d :: r => cnt1 d + cnts1 r
end
theorem cnts1_sum {H : Type} : ∀ l : List (DataW H), cnts1 l = (l.map cnt1).sum
  | [] => by simp [cnts1]
  | d :: r => by simp [cnts1, cnts1_sum r]
theorem bulkOne (H : Type) : Bulky (H := H) cnt1 where
  lit := fun l => by simp [cnt1]
  nil := by simp [cnt1]
  agg := fun ps => by simp [cnt1, cnts1_sum]
  slice := fun es sp => by simp [cnt1, cnts1_sum]
theorem bulkTs_mem {t : T} : ∀ {ts : List T}, t ∈ ts → bulkT t ≤ bulkTs ts
  | k :: r, h => by
    rcases List.mem_cons.1 h with rfl | h
    · simp [bulkTs]
    · have := bulkTs_mem h; simp only [bulkTs]; omega
end Go.Proofs.YtnjomdjkbbhdoaaDoor
