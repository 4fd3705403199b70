/-
  Numbers as bytes: shifts, literals of bytes; what a number's bytes are.
  No condition.
-/
import Derived.Test.YtnjomdjkbbhdoaaDoorSeen
import Derived.Test.YtnjomdjkbbhdoaaDoorMerge
namespace Go.Proofs.YtnjomdjkbbhdoaaDoor
open Go.RowKit
set_option linter.unusedVariables false

/-! ## Literals -/
def partsFrom : Nat → List Value → List (Nat × Value)
  | _, [] => []
  | k, v :: r => (k, v) :: partsFrom (k + 1) r
theorem fill_from : ∀ (vs : List Value) (k : Nat) (arr : Array Value), (∀ v ∈ vs, v.cells = #[v]) → k + vs.length ≤ arr.size →
    Instr.fill (fun i => some (i * 1, 1)) arr (partsFrom k vs) = some (arr.toList.take k ++ vs ++ arr.toList.drop (k + vs.length)).toArray
  | [], k, arr, _, h => by simp [partsFrom, Instr.fill]
  | v :: r, k, arr, h1, h => by
    have hv := h1 v (by simp)
    simp only [List.length_cons] at h
    have ih := fill_from r (k + 1) (arr.setIfInBounds k v) (fun u hu => h1 u (List.mem_cons_of_mem _ hu)) (by simp; omega)
    simp only [partsFrom, Instr.fill, hv]
    have e0 : (#[v].zipIdx.foldl (fun cs (c, j) => cs.setIfInBounds (k * 1 + j) c) arr) = arr.setIfInBounds k v := by simp
    simp only [List.size_toArray, List.length_cons, List.length_nil, Nat.zero_add]
    rw [if_neg (by simp; omega), e0, ih]
    have hk : k < arr.toList.length := by simp; omega
    have hset : (arr.setIfInBounds k v).toList = arr.toList.take k ++ (v :: arr.toList.drop (k + 1)) := by
      rw [Array.toList_setIfInBounds, List.set_eq_take_append_cons_drop, if_pos hk]
    have htl : (arr.toList.take k).length = k := by rw [List.length_take]; omega
    have key : ∀ (A B : List Value), A.length = k → (A ++ v :: B).take (k + 1) = A ++ [v] ∧ (A ++ v :: B).drop (k + 1 + r.length) = B.drop r.length := by
      rintro A B rfl
      constructor
      · rw [List.take_append, List.take_of_length_le (by omega)]
        simp
      · rw [show A.length + 1 + r.length = A.length + (r.length + 1) by omega, List.drop_append]
        simp
    rw [hset, (key _ _ htl).1, (key _ _ htl).2, List.drop_drop, show k + 1 + r.length = k + (v :: r).length by simp; omega]
    simp
section
variable {P : Program} {N : Nat} {L : TL} {S : World → Prop} {w0 : World} {M : Nat → Prop} {σ : Hp} {H G : List (Nat × Obj)}
theorem exw_slitN {t e bytes len : Nat} [h : AppT P t e 1 bytes] {parts : List (Nat × Operand)} {vs : List Value} (hp : partsV L parts = some (partsFrom 0 vs)) (h1 : ∀ v ∈ vs, v.cells = #[v]) (hl : vs.length = len) (h0 : 0 < len) (hm : len ≤ 1000000) :
    ExW P (.buildSlice t len parts.toArray) N L (St w0 M σ H G) (fun u w => ∃ b, u = .slice (some ⟨b, 0, none⟩) len len ∧ St w0 M σ ((b, .cells vs.toArray e) :: H) G w) := by
  obtain ⟨k1, ⟨i, z, k2, k3, k4, _, k6⟩, k7⟩ := h.ok
  refine exw_slit (parts := parts) hp k1 ⟨i, z, k2, k3, by rw [k4]; omega, ?_⟩
  rw [if_neg (by rw [k4]; omega), k4]
  have := fill_from vs 0 ((Array.range (len * 1)).map (z.cells[· % z.cells.size]!)) h1 (by simp [hl])
  rw [this]
  congr 2
  simp [hl]
theorem OwnSl.lit {e b : Nat} {xs : List Value} (h : xs.length ≤ maxLen) : OwnSl e 1 (.slice (some ⟨b, 0, none⟩) xs.length xs.length) xs.length xs [(b, .cells xs.toArray e (0, 0))] :=
  ⟨by simp, .inr ⟨b, xs.length, xs.toArray, rfl, rfl, Nat.le_refl _, h, by simp, by simp⟩⟩
theorem ex_shrN {t u : TypeId} {x y : Operand} {k : IntKind} {n s : Nat} (hx : ev L x = some (.int .i64 (n : Int))) (hy : ev L y = some (.int k (s : Int))) (hs : s ≤ 63) : Ex P (.binOp .shr t x y u) N L S (.int .i64 ((n / 2 ^ s : Nat) : Int)) := fun a w hf hsw d ty pos af g => by
  have he : ∀ w, (eqGuard .shr t x y (.int .i64 (n : Int)) (.int k (s : Int))).run P w = .ok () w := fun w => by simp [eqGuard]
  have hb : ∀ w, (binOp .shr t (.int .i64 (n : Int)) (.int k (s : Int))).run P w = .ok (.int .i64 ((n / 2 ^ s : Nat) : Int)) w := fun w => by
    have h2 : ¬ (s : Int) < 0 := by omega
    have h3 : min s IntKind.i64.bits = s := Nat.min_eq_left (by simp [IntKind.bits]; omega)
    simp [binOp, Op.shift, h2, h3, Int.fdiv_eq_ediv]
  simp [execOp, hf.eval hx, hf.eval hy, he, hb]
theorem ex_toB {s t : TypeId} {x : Operand} {n : Nat} (hs : P.underlying s = some (.int .i64)) (ht : P.underlying t = some (.int .u8)) (hx : ev L x = some (.int .i64 (n : Int))) : Ex P (.convert s t x) N L S (byteV (UInt8.ofNat n)) := fun a w hf hsw d ty pos af g => by
  have hw : IntKind.u8.wrap (n : Int) = ((UInt8.ofNat n).toNat : Int) := by
    rw [UInt8.toNat_ofNat']
    simp [IntKind.wrap, IntKind.bits, IntKind.signed]
  simp [execOp, hf.eval hx, convert, run_underlying hs, run_underlying ht, Conv.intToInt, hw, byteV]
end
/-! ## A block that turns no more -/
section
variable {P : Program} {l0 : List Oper} {Q : Exit → Act → World → Prop} {l rest : List Oper} {N : Nat} {L : TL} {d : Nat} {ty : TypeId} {pos : String} {af : Array Edge} {g : Option (Nat × Bool)} {op : Op} {w0 : World} {M : Nat → Prop} {σ : Hp} {H G : List (Nat × Obj)} {R : Hp → Value → List (Nat × Obj) → Prop}
theorem ow_frzH {arr : Array Value} {e b : Nat} (hM : ∀ b, M b → False) (k : ∀ σ', Le σ σ' → Fresh σ σ' w0 → σ' b = some (.cells arr e (0, 0)) → OW P l0 Q l N L (St w0 M σ' H G)) : OW P l0 Q l N L (St w0 M σ ((b, .cells arr e) :: H) G) := fun a w hf hs => by
  refine k (ext σ b (.cells arr e)) (le_ext (hs.fresh (p := (b, .cells arr e)) (by simp))) (fun x o hx => ?_) (ext_self _ _ _) a w hf hs.freeze
  unfold ext at hx
  split at hx
  · rename_i hb; subst hb; exact .inr ((St0.mo hs (x, .cells arr e) (by simp)).resolve_left (hM _))
  · exact .inl hx
theorem ow_ck0E (hN : Nat.blt d N = true) (hg : gd l0 L g = some true) (h : ExC P op N L (St w0 M σ H []) (TK R σ []))
    (k : ∀ u σ' K', Le σ σ' → Fresh σ σ' w0 → R σ' u K' → OW P l0 Q rest N ((d, u) :: L) (St w0 M σ' H K')) : OW P l0 Q (⟨some d, op, ty, pos, af, g⟩ :: rest) N L (St w0 M σ H []) :=
  ow_ck0 hN hg h fun u σ' K' h1 h2 h3 => by simpa using k u σ' K' h1 h2 h3
end
/-- An owned row is laid among what never turns. -/
theorem freezeR {w0 w : World} {M : Nat → Prop} {σ : Hp} {H Gs Gr : List (Nat × Obj)} {e size : Nat} {v : Value} {n : Nat} {xs : List Value} (hs : St w0 M σ H (Gs ++ Gr) w) (hM : ∀ b, M b → False) (hO : OwnSl e size v n xs Gs) :
    ∃ σ', Le σ σ' ∧ Fresh σ σ' w0 ∧ St w0 M σ' H Gr w ∧ ∃ p c, v = .slice p n c ∧ n ≤ c ∧ (n = 0 ∨ ∃ b, p = some ⟨b, 0, none⟩ ∧ CellsAt σ' b 0 xs) := by
  rcases hO.2 with ⟨rfl, rfl, rfl⟩ | ⟨g, c, cur, rfl, rfl, h2, h3, h4, h5⟩
  · exact ⟨σ, Le.refl _, Fresh.refl _ _, hs, none, 0, rfl, Nat.le_refl _, .inl rfl⟩
  · have hs1 : St w0 M σ ((g, .cells cur e (0, 0)) :: H) Gr w := hs.ofG
    refine ⟨ext σ g (.cells cur e (0, 0)), le_ext (hs.fresh (p := (g, .cells cur e (0, 0))) (by simp)), fun b o hb => ?_, hs1.freeze, _, c, rfl, h2, .inr ⟨g, rfl, cur, e, (0, 0), ext_self _ _ _, fun j u hj => ?_⟩⟩
    · unfold ext at hb
      split at hb
      · rename_i hbg; subst hbg; exact .inr ((St0.mo hs (b, .cells cur e (0, 0)) (by simp)).resolve_left (hM _))
      · exact .inl hb
    · rw [← h5, List.getElem?_take] at hj
      split at hj
      · simpa using hj
      · cases hj
theorem cw_frzR {P : Program} {c : Code} {Q : Exit → Act → World → Prop} {N : Nat} {L : TL} {w0 : World} {M : Nat → Prop} {σ : Hp} {H Gs Gr : List (Nat × Obj)} {e size : Nat} {v : Value} {n : Nat} {xs : List Value} (hM : ∀ b, M b → False) (hO : OwnSl e size v n xs Gs)
    (k : ∀ σ' p cp, Le σ σ' → Fresh σ σ' w0 → v = .slice p n cp → n ≤ cp → (n = 0 ∨ ∃ b, p = some ⟨b, 0, none⟩ ∧ CellsAt σ' b 0 xs) → CW P c Q N L (St w0 M σ' H Gr)) : CW P c Q N L (St w0 M σ H (Gs ++ Gr)) := fun a w hf hs => by
  obtain ⟨σ', h1, h2, h3, p, cp, h4, h5, h6⟩ := freezeR hs hM hO
  exact k σ' p cp h1 h2 h4 h5 h6 a w hf h3
theorem intsV_app (a b : List Int) : intsV (a ++ b) = intsV a ++ intsV b := by simp [intsV]
/-- A cell of a row of integers. -/
theorem CellsAt.int {σ : Hp} {b o : Nat} {zs : List Int} (h : CellsAt σ b o (intsV zs)) {i : Nat} (hi : i < zs.length) : CellsAt σ b (o + i * 1) [.int .i64 zs[i]] := by
  obtain ⟨arr, ty, fz, h1, h2⟩ := h
  refine ⟨arr, ty, fz, h1, fun j v hj => ?_⟩
  cases j with
  | zero =>
    simp at hj; subst hj
    simpa using h2 i _ (intsV_get hi)
  | succ j => simp at hj
theorem CellsAt.of4 {σ : Hp} {b : Nat} {ty : TypeId} {fz : Nat × Nat} {v0 v1 v2 v3 : Value} (h : σ b = some (.cells #[v0, v1, v2, v3] ty fz)) : CellsAt σ b 0 [v0, v1, v2, v3] := ⟨_, ty, fz, h, fun j v hj => by simpa using hj⟩
theorem KidsV.one {σ : Hp} {b : Nat} {cs : List Value} {t : T} (h : CellsAt σ b 0 cs) (ht : TermC σ cs t) : KidsV σ (.slice (some ⟨b, 0, none⟩) 1 1) [t] :=
  ⟨_, 1, rfl, Nat.le_refl _, by simp [maxKids], .inr ⟨b, 0, rfl, by simp only [ElemsC]; exact ⟨⟨cs, h, ht⟩, trivial⟩⟩⟩
def atomOne : T := .mk 1 1 [] []
def pubOne : T := .mk 2 0 [] [atomOne]
theorem atomOne_c (σ : Hp) : TermC σ [.int .i64 1, .int .i64 1, .slice none 0 0, .slice none 0 0] atomOne := TermC.mk (by omega) (by omega) (BytesV.nil σ) (KidsV.nil σ)
theorem intern_pub : intern [] pubOne = (1, 0, [atomOne, pubOne]) := by
  unfold intern
  rw [if_pos (by decide), if_neg (by decide), if_neg (by decide)]
  rfl

/-! ## A number's bytes -/
def tailB (n k : Nat) : List UInt8 := (List.range k).map fun j => UInt8.ofNat (n / 2 ^ (8 * (5 - j)))
def bytesN (n : Int) : List UInt8 := if 0 ≤ n ∧ n < 281474976710656 then 0xc1 :: 0x5e :: tailB n.toNat 6 else []
theorem tailB_len (n k : Nat) : (tailB n k).length = k := by simp [tailB]
theorem tailB_succ (n k : Nat) : tailB n (k + 1) = tailB n k ++ [UInt8.ofNat (n / 2 ^ (8 * (5 - k)))] := by simp [tailB, List.range_succ]
def eightB (m : Nat) : List UInt8 := [0xc1, 0x5e, UInt8.ofNat (m / 2 ^ 40), UInt8.ofNat (m / 2 ^ 32), UInt8.ofNat (m / 2 ^ 24), UInt8.ofNat (m / 2 ^ 16), UInt8.ofNat (m / 2 ^ 8), UInt8.ofNat m]
theorem eightB_is (m : Nat) : eightB m = 0xc1 :: 0x5e :: tailB m 6 := by simp [eightB, tailB, List.range_succ]
theorem bytesN_in {n : Nat} (h : n < 281474976710656) : bytesN (n : Int) = 0xc1 :: 0x5e :: tailB n 6 := by unfold bytesN; rw [if_pos (by omega)]; rfl
theorem bytesN_out {n : Int} (h : ¬ (0 ≤ n ∧ n < 281474976710656)) : bytesN n = [] := by unfold bytesN; rw [if_neg h]
theorem bytes_cells (d : List UInt8) : ∀ v ∈ d.map byteV, v.cells = #[v] := fun v hv => by
  obtain ⟨b, _, rfl⟩ := List.mem_map.1 hv; rfl
/-- Bytes; none at all where there are none. -/
def RepBN (d : List UInt8) (σ : Hp) (v : Value) : Prop := BytesV σ v d ∧ (d = [] → v = .slice none 0 0)
instance (d : List UInt8) : MonoR (RepBN d) := ⟨fun hl h => ⟨h.1.le hl, h.2⟩⟩
end Go.Proofs.YtnjomdjkbbhdoaaDoor
