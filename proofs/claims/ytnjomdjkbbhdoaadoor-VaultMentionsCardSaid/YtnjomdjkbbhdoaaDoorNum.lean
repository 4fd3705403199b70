/-
  Numbers read from bytes, and the numbers that bytes mention.
  No condition.
-/
import Derived.Test.YtnjomdjkbbhdoaaDoorMC
import Derived.Sort.Row
import Derived.Sort.Grow
namespace Go.Proofs.YtnjomdjkbbhdoaaDoor
open Go.RowKit
set_option linter.unusedVariables false
set_option linter.unusedSimpArgs false

/-! ## Parts of bytes -/
theorem CellsAt.off {σ : Hp} {b o : Nat} {xs : List Value} (h : CellsAt σ b o xs) (i : Nat) : CellsAt σ b (o + i * 1) (xs.drop i) := by
  obtain ⟨arr, ty, fz, h1, h2⟩ := h
  refine ⟨arr, ty, fz, h1, fun j v hj => ?_⟩
  rw [List.getElem?_drop] at hj
  have := h2 _ v hj
  rw [← this]; congr 1; omega
theorem BytesV.hi {σ : Hp} {p : Option Addr} {n c : Nat} {d : List UInt8} (h : BytesV σ (.slice p n c) d) {j : Nat} (hj : j ≤ d.length) : BytesV σ (.slice p j c) (d.take j) := by
  obtain ⟨p', c', e, h1, h2, h3⟩ := h
  cases e
  refine ⟨p, c, by rw [List.length_take]; congr 1; omega, by rw [List.length_take]; omega, by rw [List.length_take]; omega, ?_⟩
  rcases h3 with rfl | ⟨b, o, rfl, hc⟩
  · exact .inl (by simp)
  · exact .inr ⟨b, o, rfl, by rw [List.map_take]; exact hc.take j⟩
theorem BytesV.lo {σ : Hp} {p : Option Addr} {n c : Nat} {d : List UInt8} (h : BytesV σ (.slice p n c) d) {i : Nat} (hi : i ≤ d.length) : BytesV σ (.slice (if c = i then p else p.map (·.add (i * 1))) (n - i) (c - i)) (d.drop i) := by
  obtain ⟨p', c', e, h1, h2, h3⟩ := h
  cases e
  refine ⟨_, _, by rw [List.length_drop], by rw [List.length_drop]; omega, by rw [List.length_drop]; omega, ?_⟩
  by_cases hl : i = d.length
  · exact .inl (by simp [hl])
  · rcases h3 with rfl | ⟨b, o, rfl, hc⟩
    · exact .inl (by simp)
    · rw [if_neg (by omega)]
      exact .inr ⟨b, o + i * 1, by simp [Addr.add], by rw [List.map_drop]; exact hc.off i⟩
theorem BytesV.mid {σ : Hp} {b o n c : Nat} {d : List UInt8} (h : BytesV σ (.slice (some ⟨b, o, none⟩) n c) d) {i j : Nat} (hi : i ≤ j) (hj : j ≤ d.length) : BytesV σ (.slice (some (if c = i then ⟨b, o, none⟩ else ⟨b, o + i * 1, none⟩)) (j - i) (c - i)) ((d.drop i).take (j - i)) := by
  have h1 := h.lo (i := i) (by omega)
  have e : (if c = i then some ⟨b, o, none⟩ else (some ⟨b, o, none⟩ : Option Addr).map (·.add (i * 1))) = some (if c = i then ⟨b, o, none⟩ else ⟨b, o + i * 1, none⟩) := by
    split
    · rfl
    · simp [Addr.add]
  rw [e] at h1
  exact h1.hi (by rw [List.length_drop]; omega)
theorem BytesV.ptr {σ : Hp} {p : Option Addr} {n c : Nat} {d : List UInt8} (h : BytesV σ (.slice p n c) d) (h0 : 0 < d.length) : ∃ b o, p = some ⟨b, o, none⟩ ∧ CellsAt σ b o (d.map byteV) := by
  obtain ⟨p', c', e, h1, h2, h3⟩ := h
  cases e
  rcases h3 with rfl | h3
  · simp at h0
  · exact h3
theorem CellsAt.byte {σ : Hp} {b o : Nat} {d : List UInt8} (h : CellsAt σ b o (d.map byteV)) {i : Nat} (hi : i < d.length) : CellsAt σ b (o + i * 1) [.int .u8 ((d.getD i 0).toNat : Int)] := by
  obtain ⟨arr, ty, fz, h1, h2⟩ := h
  refine ⟨arr, ty, fz, h1, fun j v hj => ?_⟩
  cases j with
  | zero =>
    simp at hj; subst hj
    simpa using h2 i _ (by simp [List.getElem?_eq_getElem hi, List.getD_eq_getElem?_getD, byteV])
  | succ j => simp at hj
section
variable {P : Program} {N : Nat} {L : TL} {S : World → Prop}
theorem ex_shlN {t u : TypeId} {x y : Operand} {k : IntKind} {n s : Nat} (hx : ev L x = some (.int .i64 (n : Int))) (hy : ev L y = some (.int k (s : Int))) (hs : s ≤ 62) (hb : n * 2 ^ s ≤ 9223372036854775807) : Ex P (.binOp .shl t x y u) N L S (.int .i64 ((n * 2 ^ s : Nat) : Int)) := fun a w hf hsw d ty pos af g => by
  have he : ∀ w, (eqGuard .shl t x y (.int .i64 (n : Int)) (.int k (s : Int))).run P w = .ok () w := fun w => by simp [eqGuard]
  have hb : ∀ w, (binOp .shl t (.int .i64 (n : Int)) (.int k (s : Int))).run P w = .ok (.int .i64 ((n * 2 ^ s : Nat) : Int)) w := fun w => by
    have h2 : ¬ (s : Int) < 0 := by omega
    have h4 : ¬ (64 ≤ s) := by omega
    have hw : IntKind.i64.wrap ((n : Int) * 2 ^ s) = (n : Int) * 2 ^ s := by
      have e : (n : Int) * 2 ^ s = ((n * 2 ^ s : Nat) : Int) := by simp
      rw [e]; exact i64_of (by omega) (by omega)
    simp [binOp, Op.shift, h2, IntKind.bits, h4, hw]
  simp [execOp, hf.eval hx, hf.eval hy, he, hb]
theorem ex_b2i {s t : TypeId} {x : Operand} {z : Int} (hs : P.underlying s = some (.int .u8)) (ht : P.underlying t = some (.int .i64)) (hx : ev L x = some (.int .u8 z)) (h0 : 0 ≤ z) (h1 : z ≤ 255) :
    Ex P (.convert s t x) N L S (.int .i64 z) := fun a w hf hsw d ty pos af g => by
  have hw : IntKind.i64.wrap z = z := i64_of (by omega) (by omega)
  simp [execOp, hf.eval hx, convert, run_underlying hs, run_underlying ht, Conv.intToInt, hw]
theorem ex_orN {t u : TypeId} {x y : Operand} {n c : Nat} (hx : ev L x = some (.int .i64 ((n * 256 : Nat) : Int))) (hy : ev L y = some (.int .i64 (c : Int))) (hc : c < 256) (hb : n * 256 + c ≤ 9223372036854775807) : Ex P (.binOp .or t x y u) N L S (.int .i64 ((256 * n + c : Nat) : Int)) := fun a w hf hsw d ty pos af g => by
  have he : ∀ w, (eqGuard .or t x y (.int .i64 ((n * 256 : Nat) : Int)) (.int .i64 (c : Int))).run P w = .ok () w := fun w => by simp [eqGuard]
  have hb : ∀ w, (binOp .or t (.int .i64 ((n * 256 : Nat) : Int)) (.int .i64 (c : Int))).run P w = .ok (.int .i64 ((256 * n + c : Nat) : Int)) w := fun w => by
    have e1 : (BitVec.ofInt 64 ((n * 256 : Nat) : Int) ||| BitVec.ofInt 64 (c : Int)).toNat = 256 * n + c := by
      rw [BitVec.ofInt_natCast, BitVec.ofInt_natCast, BitVec.toNat_or, BitVec.toNat_ofNat, BitVec.toNat_ofNat, Nat.mod_eq_of_lt (by omega), Nat.mod_eq_of_lt (by omega)]
      have := Nat.two_pow_add_eq_or_of_lt (i := 8) (b := c) (by omega) n
      rw [show n * 256 = 2 ^ 8 * n by omega, ← this]
    have hw : IntKind.i64.wrap ((256 * n + c : Nat) : Int) = ((256 * n + c : Nat) : Int) := i64_of (by omega) (by omega)
    simp only [binOp]
    rw [if_neg (by simp)]
    simp only [Op.intBits]
    show (pure (Value.int .i64 (IntKind.i64.wrap ((BitVec.ofInt 64 ((n * 256 : Nat) : Int) ||| BitVec.ofInt 64 (c : Int)).toNat))) : Sem Value).run P w = _
    rw [e1, hw]; rfl
  generalize ((n * 256 : Nat) : Int) = z at hx he hb
  generalize ((256 * n + c : Nat) : Int) = r at hb ⊢
  simp [execOp, hf.eval hx, hf.eval hy, he, hb]
theorem ex_orR {t u : TypeId} {x y : Operand} {n c r : Nat} (hx : ev L x = some (.int .i64 ((n * 2 ^ 8 : Nat) : Int))) (hy : ev L y = some (.int .i64 (c : Int))) (hc : c < 256) (hb : n * 256 + c ≤ 9223372036854775807) (hr : 256 * n + c = r) : Ex P (.binOp .or t x y u) N L S (.int .i64 (r : Int)) := by
  subst hr
  exact ex_orN hx hy hc hb
theorem ex_isnnil {t e k : Nat} {u : TypeId} {x : Operand} {p : Option Addr} {n c : Nat} [h : SlT P t e k] (hx : ev L x = some (.slice p n c)) :
    Ex P (.binOp .neq t x (.const (.slice none 0 0)) u) N L S (.bool (!p.isNone)) := fun a w hf hs d ty pos af g => by
  have he : a.eval (.const (.slice none 0 0)) = .slice none 0 0 := rfl
  have hu := run_underlying h.ok.1 w
  have hq : (Op.equal t (.slice p n c) (.slice none 0 0)).run P w = .ok p.isNone w := by
    change (Op.equalIn (9999 + 1) t (.slice p n c) (.slice none 0 0)).run P w = _
    rw [Op.equalIn, Sem.run_bind, hu]
    cases p <;> rfl
  have hg : (eqGuard .neq t x (.const (.slice none 0 0)) (.slice p n c) (.slice none 0 0)).run P w = .ok () w := by simp [eqGuard]
  have hb : (binOp .neq t (.slice p n c) (.slice none 0 0)).run P w = .ok (.bool (!p.isNone)) w := by
    simp [binOp, hq]
  simp [execOp, hf.eval hx, he, hg, hb]
end
section
variable {P : Program} {N : Nat} {L : TL} {w0 : World} {M : Nat → Prop} {σ : Hp} {H Gs Gr : List (Nat × Obj)}
/-- append to a row that never turns and has no room: a new one. -/
theorem exw_appendI {t e size bytes n m c : Nat} [hA : AppT P t e size bytes] {x y : Operand} {xs news : List Value} {g o b o' : Nat} (hx : ev L x = some (.slice (some ⟨g, o, none⟩) n n)) (hy : ev L y = some (.slice (some ⟨b, o', none⟩) m c))
    (hX : CellsAt σ g o xs) (hxl : xs.length = n * size) (hl : news.length = m * size) (hm : 0 < m) (hsrc : CellsAt σ b o' news) (h63 : n + m ≤ maxLen) (hb : (n + m) * bytes ≤ 140737488355328) :
    ExW P (.call { callee := .builtin .append, args := #[x, y], argTypes := #[t, t] }) N L (St w0 M σ H ([] ++ Gr))
      (fun v' w' => ∃ Gs', OwnSl e size v' (n + m) (xs ++ news) Gs' ∧ True ∧ St w0 M σ H (Gs' ++ Gr) w') := fun a w hf hs0 d ty pos af gg => by
  have hs : St w0 M σ H Gr w := by simpa using hs0
  obtain ⟨ht, ⟨i, z, hi, hz, rfl, rfl, hzs⟩, hpos⟩ := hA.ok
  have hlen : (xs ++ news).length = (n + m) * i.size := by rw [List.length_append, hxl, hl, Nat.add_mul]
  have h63' : n + m ≤ 9223372036854775807 := by unfold maxLen at h63; omega
  have hnews : ∀ j u, news[j]? = some u → w.cell? ((⟨b, o', none⟩ : Addr).add j) = some u := fun j u hj => by rw [addr_add]; exact hsrc.range hs.im j u hj
  have holds : ∀ j u, xs[j]? = some u → w.cell? ((⟨g, o, none⟩ : Addr).add j) = some u := fun j u hj => by rw [addr_add]; exact hX.range hs.im j u hj
  have hrun := run_append_grow (P := P) w t ty e i z ht hi hz ⟨g, o, none⟩ n n xs hxl holds ⟨b, o', none⟩ m c news hl hnews (by omega) (by omega) (growslice_fits (by omega) hb)
  have hge := grownCap_ge w (n + m) n e
  have hcm : grownCap w (n + m) n e ≤ maxLen := grownCap_le_maxLen w (n + m) n e h63
  have h2 : St w0 M σ H Gr w.drew := hs.drew
  refine ⟨_, _, by simp [execOp, resolve, invoke, builtin, hf.eval hx, hf.eval hy, hrun], [(w.heap.size, .cells (xs.toArray ++ news.toArray ++ Builtin.zeroCells z.cells (grownCap w (n + m) n e - (n + m))) e (0, 0))], ⟨hlen, .inr ⟨w.heap.size, _, _, rfl, rfl, hge, hcm, ?_, ?_⟩⟩, trivial, (h2.alloc _).toG⟩
  · simp only [Array.size_append, List.size_toArray, size_zeroCells, hzs, hxl, hl, ← Nat.add_mul]
    congr 1
    omega
  · simp only [Array.toList_append, List.append_assoc]
    rw [← List.append_assoc, ← hlen]
    exact List.take_left
end

/-! ## In plain Lean -/
def RepBy (d : List UInt8) (σ : Hp) (v : Value) : Prop := BytesV σ v d
instance (d : List UInt8) : MonoR (RepBy d) := ⟨fun hl h => BytesV.le hl h⟩
def mentN (n : Int) : List UInt8 := if 0 ≤ n ∧ n < 281474976710656 then 4 :: 8 :: bytesN n else []
theorem bytesN_nil {n : Int} : bytesN n = [] ↔ ¬ (0 ≤ n ∧ n < 281474976710656) := by
  constructor
  · intro h hc
    unfold bytesN at h
    rw [if_pos hc] at h
    cases h
  · exact bytesN_out
theorem bytesN_len {n : Int} (h : 0 ≤ n ∧ n < 281474976710656) : (bytesN n).length = 8 := by
  unfold bytesN; rw [if_pos h]; simp [tailB_len]
def beN (l : List UInt8) : Nat := l.foldl (fun a c => 256 * a + c.toNat) 0
theorem beN_snoc (l : List UInt8) (c : UInt8) : beN (l ++ [c]) = 256 * beN l + c.toNat := by simp [beN, List.foldl_append]
theorem beN_take {l : List UInt8} {i : Nat} (h : i < l.length) : beN (l.take (i + 1)) = 256 * beN (l.take i) + (l.getD i 0).toNat := by
  rw [List.take_succ_eq_append_getElem h, beN_snoc]
  simp [List.getD_eq_getElem?_getD, h]
theorem byte_lt (c : UInt8) : c.toNat < 256 := c.toNat_lt
theorem drop_getD (d : List UInt8) (i k : Nat) : (d.drop i).getD k 0 = d.getD (i + k) 0 := by simp [List.getD_eq_getElem?_getD, List.getElem?_drop]
theorem beN_lt : ∀ (k : Nat) (l : List UInt8), l.length = k → beN l < 256 ^ k
  | 0, l, h => by
    obtain rfl := List.eq_nil_of_length_eq_zero h
    simp [beN]
  | k + 1, l, h => by
    have hk : k < l.length := by omega
    have h1 := beN_lt k (l.take k) (by rw [List.length_take]; omega)
    have h2 := beN_take hk
    rw [List.take_of_length_le (by omega)] at h2
    have h3 := byte_lt (l.getD k 0)
    rw [h2, Nat.pow_succ]
    omega
theorem beN_small {l : List UInt8} (h : l.length ≤ 6) : beN l < 281474976710656 := by
  have := beN_lt l.length l rfl
  have h2 : 256 ^ l.length ≤ 256 ^ 6 := Nat.pow_le_pow_right (by decide) h
  omega
/-- Does d begin with q? -/
def hpB (q d : List UInt8) : Bool := decide (q.length ≤ d.length) && (d.take q.length == q)
def numB (d : List UInt8) : Int × Bool := if hpB [193, 94] d = true ∧ (d.drop 2).length = 6 then (((beN (d.drop 2) : Nat) : Int), true) else (-1, false)
theorem getD_eq {d : List UInt8} {i : Nat} {c : UInt8} : ((d.getD i 0).toNat : Int) = (c.toNat : Int) ↔ d.getD i 0 = c := by
  constructor
  · intro h
    have : (d.getD i 0).toNat = c.toNat := by omega
    exact UInt8.toNat.inj this
  · intro h; rw [h]
theorem hp_two {d : List UInt8} {a b : UInt8} (h : 2 ≤ d.length) : hpB [a, b] d = (decide (d.getD 0 0 = a) && decide (d.getD 1 0 = b)) := by
  match d, h with
  | x :: y :: r, _ =>
    unfold hpB
    simp only [List.length_cons, List.length_nil, List.take_succ_cons, List.take_zero, List.getD_cons_zero, List.getD_cons_succ]
    rw [Bool.eq_iff_iff]
    simp
theorem numB_in {d : List UInt8} (h : d.length = 8) (h0 : d.getD 0 0 = 193) (h1 : d.getD 1 0 = 94) : numB d = (((beN (d.drop 2) : Nat) : Int), true) := by
  unfold numB
  rw [if_pos ⟨by rw [hp_two (by omega), h0, h1]; decide, by rw [List.length_drop]; omega⟩]
theorem numB_out {d : List UInt8} (h : ¬ (d.length = 8 ∧ d.getD 0 0 = 193 ∧ d.getD 1 0 = 94)) : numB d = (-1, false) := by
  unfold numB
  rw [if_neg]
  rintro ⟨h1, h2⟩
  rw [List.length_drop] at h2
  rw [hp_two (by omega)] at h1
  simp only [Bool.and_eq_true, decide_eq_true_eq] at h1
  exact h ⟨by omega, h1.1, h1.2⟩
theorem numB_ge {d : List UInt8} (h : (numB d).2 = true) : 0 ≤ (numB d).1 ∧ (numB d).1 < 281474976710656 := by
  unfold numB at h ⊢
  split at h
  · rename_i hc
    rw [if_pos hc]
    have := beN_small (l := d.drop 2) (by omega)
    simp only
    omega
  · cases h
end Go.Proofs.YtnjomdjkbbhdoaaDoor
