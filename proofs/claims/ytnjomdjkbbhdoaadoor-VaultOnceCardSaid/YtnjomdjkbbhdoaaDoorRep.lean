/-
  How a term lies in memory that never turns.
  No condition.
-/
import Derived.Test.YtnjomdjkbbhdoaaDoorDraw
import Derived.Test.YtnjomdjkbbhdoaaDoorPure
import Derived.Laws.BytesArg
namespace Go.Proofs.YtnjomdjkbbhdoaaDoor
open Go.RowKit
set_option linter.unusedVariables false

def byteV (b : UInt8) : Value := .int .u8 (b.toNat : Int)
def maxData : Nat := 140737488351232
def maxKids : Nat := 2199023255552

/-- A slice of bytes that reads as d. -/
def BytesV (σ : Hp) (v : Value) (d : List UInt8) : Prop :=
  ∃ p c, v = .slice p d.length c ∧ d.length ≤ c ∧ d.length ≤ maxData ∧ (d = [] ∨ ∃ b o, p = some ⟨b, o, none⟩ ∧ CellsAt σ b o (d.map byteV))
mutual
/-- Four cells that read as a term. -/
def TermC (σ : Hp) : List Value → T → Prop
  | cs, .mk o n d ks => ∃ dv p c, cs = [.int .i64 o, .int .i64 n, dv, .slice p ks.length c] ∧ (-9223372036854775808 ≤ o ∧ o ≤ 9223372036854775807) ∧
      (-9223372036854775808 ≤ n ∧ n ≤ 9223372036854775807) ∧ BytesV σ dv d ∧ ks.length ≤ c ∧ ks.length ≤ maxKids ∧ (ks = [] ∨ ∃ b f, p = some ⟨b, f, none⟩ ∧ ElemsC σ b f ks)
def ElemsC (σ : Hp) (b : Nat) : Nat → List T → Prop
  | _, [] => True
  | f, t :: r => (∃ cs, CellsAt σ b f cs ∧ TermC σ cs t) ∧ ElemsC σ b (f + 4) r
end
/-- A slice of terms. -/
def KidsV (σ : Hp) (v : Value) (ks : List T) : Prop :=
  ∃ p c, v = .slice p ks.length c ∧ ks.length ≤ c ∧ ks.length ≤ maxKids ∧ (ks = [] ∨ ∃ b f, p = some ⟨b, f, none⟩ ∧ ElemsC σ b f ks)

theorem TermC.opn {σ : Hp} {cs : List Value} {t : T} (h : TermC σ cs t) : ∃ dv kv, cs = [.int .i64 t.op, .int .i64 t.num, dv, kv] ∧ (-9223372036854775808 ≤ t.op ∧ t.op ≤ 9223372036854775807) ∧
    (-9223372036854775808 ≤ t.num ∧ t.num ≤ 9223372036854775807) ∧ BytesV σ dv t.data ∧ KidsV σ kv t.kids := by
  cases t with
  | mk o n d ks =>
    simp only [TermC] at h
    obtain ⟨dv, p, c, h1, h2, h3, h4, h5, h6, h7⟩ := h
    exact ⟨dv, _, h1, h2, h3, h4, p, c, rfl, h5, h6, h7⟩
theorem TermC.mk {σ : Hp} {o n : Int} {d : List UInt8} {ks : List T} {dv kv : Value} (ho : -9223372036854775808 ≤ o ∧ o ≤ 9223372036854775807) (hn : -9223372036854775808 ≤ n ∧ n ≤ 9223372036854775807)
    (hd : BytesV σ dv d) (hk : KidsV σ kv ks) : TermC σ [.int .i64 o, .int .i64 n, dv, kv] (.mk o n d ks) := by
  obtain ⟨p, c, rfl, h5, h6, h7⟩ := hk
  simp only [TermC]
  exact ⟨dv, p, c, rfl, ho, hn, hd, h5, h6, h7⟩
theorem TermC.len {σ : Hp} {cs : List Value} {t : T} (h : TermC σ cs t) : cs.length = 4 := by
  obtain ⟨_, _, rfl, _⟩ := h.opn; rfl
theorem BytesV.le {σ τ : Hp} (h : Le σ τ) {v : Value} {d : List UInt8} (hb : BytesV σ v d) : BytesV τ v d := by
  obtain ⟨p, c, h1, h2, h3, h4⟩ := hb
  refine ⟨p, c, h1, h2, h3, ?_⟩
  rcases h4 with h4 | ⟨b, o, h5, h6⟩
  · exact .inl h4
  · exact .inr ⟨b, o, h5, h6.le h⟩
mutual
theorem TermC.le {σ τ : Hp} (h : Le σ τ) : ∀ {t : T} {cs : List Value}, TermC σ cs t → TermC τ cs t
  | .mk o n d ks, cs, ht => by
    simp only [TermC] at ht ⊢
    obtain ⟨dv, p, c, h1, h2, h3, h4, h5, h6, h7⟩ := ht
    refine ⟨dv, p, c, h1, h2, h3, h4.le h, h5, h6, ?_⟩
    rcases h7 with h7 | ⟨b, f, h8, h9⟩
    · exact .inl h7
    · exact .inr ⟨b, f, h8, ElemsC.le h h9⟩
theorem ElemsC.le {σ τ : Hp} (h : Le σ τ) {b : Nat} : ∀ {ks : List T} {f : Nat}, ElemsC σ b f ks → ElemsC τ b f ks
  | [], f, _ => by simp only [ElemsC]
  | t :: r, f, ht => by
    simp only [ElemsC] at ht ⊢
    obtain ⟨⟨cs, h1, h2⟩, h3⟩ := ht
    exact ⟨⟨cs, h1.le h, TermC.le h h2⟩, ElemsC.le h h3⟩
end
theorem KidsV.le {σ τ : Hp} (h : Le σ τ) {v : Value} {ks : List T} (hk : KidsV σ v ks) : KidsV τ v ks := by
  obtain ⟨p, c, h1, h2, h3, h4⟩ := hk
  refine ⟨p, c, h1, h2, h3, ?_⟩
  rcases h4 with h4 | ⟨b, f, h5, h6⟩
  · exact .inl h4
  · exact .inr ⟨b, f, h5, h6.le h⟩

theorem ElemsC.get {σ : Hp} {b : Nat} : ∀ {ks : List T} {f : Nat}, ElemsC σ b f ks → ∀ (i : Nat) (h : i < ks.length), ∃ cs, CellsAt σ b (f + i * 4) cs ∧ TermC σ cs ks[i]
  | [], f, _, i, h => absurd h (Nat.not_lt_zero _)
  | t :: r, f, ht, i, h => by
    simp only [ElemsC] at ht
    cases i with
    | zero => simpa using ht.1
    | succ n =>
      obtain ⟨cs, h1, h2⟩ := ht.2.get n (by simpa using h)
      exact ⟨cs, by rw [show f + (n + 1) * 4 = f + 4 + n * 4 by omega]; exact h1, by simpa using h2⟩
theorem ElemsC.of {σ : Hp} {b : Nat} : ∀ {ks : List T} {f : Nat}, (∀ (i : Nat) (h : i < ks.length), ∃ cs, CellsAt σ b (f + i * 4) cs ∧ TermC σ cs ks[i]) → ElemsC σ b f ks
  | [], f, _ => by simp only [ElemsC]
  | t :: r, f, h => by
    simp only [ElemsC]
    have h0 : ∃ cs, CellsAt σ b (f + 0 * 4) cs ∧ TermC σ cs t := h 0 (Nat.zero_lt_succ _)
    rw [Nat.zero_mul, Nat.add_zero] at h0
    refine ⟨h0, ElemsC.of fun i hi => ?_⟩
    obtain ⟨cs, h1, h2⟩ := h (i + 1) (by simpa using hi)
    exact ⟨cs, by rw [show f + 4 + i * 4 = f + (i + 1) * 4 by omega]; exact h1, by simpa using h2⟩
/-- Kid i of a slice of terms: where its cells lie. -/
theorem KidsV.get {σ : Hp} {v : Value} {ks : List T} (h : KidsV σ v ks) (i : Nat) (hi : i < ks.length) :
    ∃ b f c cs, v = .slice (some ⟨b, f, none⟩) ks.length c ∧ ks.length ≤ c ∧ CellsAt σ b (f + i * 4) cs ∧ TermC σ cs ks[i] := by
  obtain ⟨p, c, h1, h2, _, h4⟩ := h
  rcases h4 with h4 | ⟨b, f, h5, h6⟩
  · subst h4; exact absurd hi (Nat.not_lt_zero _)
  · obtain ⟨cs, h7, h8⟩ := h6.get i hi
    exact ⟨b, f, c, cs, by rw [h1, h5], h2, h7, h8⟩
theorem KidsV.slice {σ : Hp} {v : Value} {ks : List T} (h : KidsV σ v ks) : ∃ p c, v = .slice p ks.length c ∧ ks.length ≤ c ∧ ks.length ≤ maxKids := by
  obtain ⟨p, c, h1, h2, h3, _⟩ := h; exact ⟨p, c, h1, h2, h3⟩
theorem BytesV.slice {σ : Hp} {v : Value} {d : List UInt8} (h : BytesV σ v d) : ∃ p c, v = .slice p d.length c ∧ d.length ≤ c ∧ d.length ≤ maxData := by
  obtain ⟨p, c, h1, h2, h3, _⟩ := h; exact ⟨p, c, h1, h2, h3⟩
theorem KidsV.nil (σ : Hp) : KidsV σ (.slice none 0 0) [] := ⟨none, 0, rfl, Nat.le_refl _, Nat.zero_le _, .inl rfl⟩
theorem BytesV.nil (σ : Hp) : BytesV σ (.slice none 0 0) [] := ⟨none, 0, rfl, Nat.le_refl _, Nat.zero_le _, .inl rfl⟩
theorem CellsAt.ext_self (σ : Hp) {b : Nat} {arr : Array Value} {ty : TypeId} {fz : Nat × Nat} {o : Nat} {cs : List Value} (h : ∀ j v, cs[j]? = some v → arr[o + j]? = some v) :
    CellsAt (ext σ b (.cells arr ty fz)) b o cs := ⟨arr, ty, fz, Go.Proofs.YtnjomdjkbbhdoaaDoor.ext_self _ _ _, h⟩

/-! ### Bytes as a string -/
def strOf (d : List UInt8) : ByteArray := ⟨d.toArray⟩
theorem strOf_toList (d : List UInt8) : (strOf d).toList = d := by
  rw [ByteArray.toList_eq]; simp [strOf]
theorem strOfNums_bytes (d : List UInt8) : strOfNums (d.map fun b => (b.toNat : Int)) = strOf d := by
  unfold strOfNums strOf
  congr 1
  simp [List.map_map, Function.comp_def]
theorem bytesLess_cmpB : ∀ (a b : List UInt8), Op.bytesLess a b = decide (cmpB a b = -1)
  | [], [] => by simp [Op.bytesLess, cmpB]
  | [], _ :: _ => by simp [Op.bytesLess, cmpB]
  | _ :: _, [] => by simp [Op.bytesLess, cmpB]
  | x :: r, y :: s => by
    unfold Op.bytesLess cmpB
    rw [bytesLess_cmpB r s]
    rcases u8_cases x y with h | h | h
    · simp [h]
    · subst h; simp
    · have : ¬ x = y := by rintro rfl; exact u8_irrefl x h
      simp [u8_asymm h, this, h]

section
variable {P : Program} {N : Nat} {L : TL} {S : World → Prop}
class ByteT (P : Program) (t : TypeId) : Prop where
  ok : ∃ e, P.underlying t = some (.slice e) ∧ P.underlying e = some (.int .u8)
theorem ex_tostr {s t : TypeId} {x : Operand} {v : Value} {d : List UInt8} {σ : Hp} [hs : ByteT P s] [ht : StrT P t] (hx : ev L x = some v) (hb : BytesV σ v d) (hi : ∀ w, S w → Imm σ w) :
    Ex P (.convert s t x) N L S (.string (strOf d)) := fun a w hf hS dd ty pos af g => by
  obtain ⟨e, h1, h2⟩ := hs.ok
  obtain ⟨p, c, rfl, _, _, h4⟩ := hb
  have key : (convert s t (.slice p d.length c)).run P w = .ok (.string (strOf d)) w := by
    rcases h4 with h4 | ⟨b, o, h5, h6⟩
    · subst h4
      rw [show ([] : List UInt8).length = 0 from rfl, run_convert_bytes_string w s t e p 0 c h1 h2 ht.ok]
      cases p with
      | none => simp [Conv.bytesToString, strOf]; rfl
      | some ad => 
        have hl : (loadCells ad 0).run P w = .ok (([] : List Int).map (Value.int .u8)).toArray w := by simp [loadCells, loadCellsFrom]
        rw [run_bytesToString w ad 0 c [] hl]
        rfl
    · subst h5
      have := run_convert_bytes_arg (P := P) w s e h1 h2 b o d.length c (d.map fun b => (b.toNat : Int)) (by simp) (fun i hi' => by
        have hr := h6.range (hi w hS) i (byteV d[i]) (by simp [List.getElem?_map, List.getElem?_eq_getElem hi'])
        rw [hr]
        simp [byteV, hi']) t ht.ok
      rw [this, strOfNums_bytes]
  simp [execOp, hf.eval hx, key]
theorem ex_strlss {t u : TypeId} {x y : Operand} {a b : List UInt8} (hx : ev L x = some (.string (strOf a))) (hy : ev L y = some (.string (strOf b))) :
    Ex P (.binOp .lss t x y u) N L S (.bool (decide (cmpB a b = -1))) := fun ac w hf hS d ty pos af g => by
  simp [execOp, hf.eval hx, hf.eval hy, eqGuard, binOp, Op.stringOp, strOf_toList, bytesLess_cmpB]
theorem ex_strgtr {t u : TypeId} {x y : Operand} {a b : List UInt8} (hx : ev L x = some (.string (strOf a))) (hy : ev L y = some (.string (strOf b))) :
    Ex P (.binOp .gtr t x y u) N L S (.bool (decide (cmpB a b = 1))) := fun ac w hf hS d ty pos af g => by
  have h : (!(decide (cmpB a b = -1) || a == b)) = decide (cmpB a b = 1) := by
    rcases cmpB_tri a b with e | e | e
    · simp [e]
    · have := cmpB_zero.1 e; subst this; simp [e]
    · have : ¬ a = b := fun h => by subst h; rw [cmpB_self] at e; cases e
      simp [e, this]
  simp [execOp, hf.eval hx, hf.eval hy, eqGuard, binOp, Op.stringOp, strOf_toList, bytesLess_cmpB]
  simpa using h
end
end Go.Proofs.YtnjomdjkbbhdoaaDoor
