/-
  Single operations: what each yields, out of what is known of its operands; in the text's order ('ow_..') and in whatever order is drawn ('flow_..').
  No condition; nothing of the seat's program stands here.
-/
import Derived.Test.YtnjomdjkbbhdoaaDoorMem
import Derived.Laws.Externs
namespace Go.Proofs.YtnjomdjkbbhdoaaDoor
open Go.RowKit
set_option linter.unusedVariables false

/-- The library's entry that holds bytes against bytes. -/
class CmpT (P : Program) (f : FuncId) : Prop where
  ok : ∃ fn, P.funcs[f]? = some fn ∧ (fn.name == "runtime.NumGoroutine") = false ∧ fn.body.isNone = true ∧ Extern.findNext fn = none ∧ Extern.find fn = some Extern.BytealgCompare.compare

def nth : List Oper → Nat → Option Nat
  | [], _ => none
  | o :: _, 0 => o.dst
  | _ :: r, n + 1 => nth r n
theorem nth_eq : ∀ (l : List Oper) (j : Nat), nth l j = (l.toArray[j]?).bind (·.dst)
  | [], j => by simp [nth]
  | o :: r, 0 => by simp [nth]
  | o :: r, n + 1 => by rw [nth, nth_eq r n]; simp

def gd (l0 : List Oper) (L : TL) : Option (Nat × Bool) → Option Bool
  | none => some true
  | some (j, want) => match nth l0 j with
    | some d => match lk L d with
      | some (.bool b) => some (b == want)
      | some (.tuple _) => some false
      | _ => none
    | none => none

theorem wanted_of {l0 : List Oper} {N : Nat} {L : TL} {a : Act} {o : Oper} {b : Bool} (hf : Fr N L a) (hg : gd l0 L o.guard = some b) :
    Region.wanted o (yielded l0.toArray a.tmps) = b := by
  unfold Region.wanted
  cases hgu : o.guard with
  | none => rw [hgu] at hg; simp [gd] at hg; simp [hg]
  | some p =>
    obtain ⟨j, want⟩ := p
    rw [hgu] at hg
    simp only [gd] at hg
    cases hn : nth l0 j with
    | none => simp [hn] at hg
    | some d =>
      rw [hn] at hg
      simp only at hg
      cases hl : lk L d with
      | none => simp [hl] at hg
      | some v =>
        rw [hl] at hg
        have ht := hf.get d v hl
        rw [nth_eq] at hn
        cases v <;> simp at hg
        · rename_i b'
          simp only [yielded, hn, Option.bind_some, ht]
          rw [← hg]
          cases b' <;> cases want <;> rfl
        · simp only [yielded, hn, Option.bind_some, ht]
          rw [hg]
          rfl

/-! ## What an operation yields -/
/-- It yields v, and memory stands. -/
def Ex (P : Program) (op : Op) (N : Nat) (L : TL) (S : World → Prop) (v : Value) : Prop :=
  ∀ a w, Fr N L a → S w → ∀ d ty pos af g, (execOp a.eval ⟨d, op, ty, pos, af, g⟩).run P w = .ok (.value v) w
/-- It yields some v in some memory, by T. -/
def ExW (P : Program) (op : Op) (N : Nat) (L : TL) (S : World → Prop) (T : Value → World → Prop) : Prop :=
  ∀ a w, Fr N L a → S w → ∀ d ty pos af g, ∃ v w', (execOp a.eval ⟨d, op, ty, pos, af, g⟩).run P w = .ok (.value v) w' ∧ T v w'
/-- It yields nothing; memory by T. -/
def ExU (P : Program) (op : Op) (N : Nat) (L : TL) (S : World → Prop) (T : World → Prop) : Prop :=
  ∀ a w, Fr N L a → S w → ∀ d ty pos af g, ∃ w', (execOp a.eval ⟨d, op, ty, pos, af, g⟩).run P w = .ok .skip w' ∧ T w'
/-- It calls. -/
def ExC (P : Program) (op : Op) (N : Nat) (L : TL) (S : World → Prop) (T : World → Value → World → Prop) : Prop :=
  ∀ a w, Fr N L a → S w → ∀ d ty pos af g, ∃ f args, (execOp a.eval ⟨d, op, ty, pos, af, g⟩).run P w = .ok (.enter f args) w ∧
    Calls P f args w fun e w' => ∃ v, e = .returned v ∧ T w v w'

section seq
variable {P : Program} {l0 : List Oper} {Q : Exit → Act → World → Prop} {rest : List Oper} {N : Nat} {L : TL} {S : World → Prop} {d : Nat} {ty : TypeId} {pos : String}
  {af : Array Edge} {g : Option (Nat × Bool)} {op : Op}

theorem ow_nil (h : QW Q .normal N L S) : OW P l0 Q [] N L S := fun a w hf hs => h a w hf hs
theorem ow_step {o : Oper} (hg : gd l0 L o.guard = some true) (h : ∀ a w, Fr N L a → S w → o.wp P a w (wpList P l0.toArray Q rest) Q) : OW P l0 Q (o :: rest) N L S :=
  fun a w hf hs => by
    unfold wpList
    rw [if_pos (wanted_of hf hg)]
    exact .inl (h a w hf hs)
theorem ow_skip (hN : Nat.blt d N = true) (hg : gd l0 L g = some false) (k : OW P l0 Q rest N ((d, undef) :: L) S) : OW P l0 Q (⟨some d, op, ty, pos, af, g⟩ :: rest) N L S :=
  fun a w hf hs => by
    unfold wpList
    rw [if_neg (by rw [wanted_of hf hg]; simp)]
    exact k _ _ (hf.put _ hN) hs
theorem ow_val {v : Value} (hN : Nat.blt d N = true) (hg : gd l0 L g = some true) (h : Ex P op N L S v) (k : OW P l0 Q rest N ((d, v) :: L) S) :
    OW P l0 Q (⟨some d, op, ty, pos, af, g⟩ :: rest) N L S :=
  ow_step hg fun a w hf hs => by
    unfold Oper.wp
    rw [h a w hf hs]
    exact k _ _ (hf.put _ hN) hs
theorem ow_w {T : Value → World → Prop} (hN : Nat.blt d N = true) (hg : gd l0 L g = some true) (h : ExW P op N L S T) (k : ∀ v, OW P l0 Q rest N ((d, v) :: L) (T v)) :
    OW P l0 Q (⟨some d, op, ty, pos, af, g⟩ :: rest) N L S :=
  ow_step hg fun a w hf hs => by
    unfold Oper.wp
    obtain ⟨v, w', h1, h2⟩ := h a w hf hs (some d) ty pos af g
    rw [h1]
    exact k v _ _ (hf.put _ hN) h2
theorem ow_u {T : World → Prop} (hg : gd l0 L g = some true) (h : ExU P op N L S T) (k : OW P l0 Q rest N L T) :
    OW P l0 Q (⟨none, op, ty, pos, af, g⟩ :: rest) N L S :=
  ow_step hg fun a w hf hs => by
    unfold Oper.wp
    obtain ⟨w', h1, h2⟩ := h a w hf hs none ty pos af g
    rw [h1]
    exact k _ _ hf h2
theorem ow_c {T : World → Value → World → Prop} (hN : Nat.blt d N = true) (hg : gd l0 L g = some true) (h : ExC P op N L S T)
    (k : ∀ v, OW P l0 Q rest N ((d, v) :: L) (fun w' => ∃ w, S w ∧ T w v w')) : OW P l0 Q (⟨some d, op, ty, pos, af, g⟩ :: rest) N L S :=
  ow_step hg fun a w hf hs => by
    unfold Oper.wp
    obtain ⟨f, args, h1, h2⟩ := h a w hf hs (some d) ty pos af g
    rw [h1]
    refine Calls.mono h2 ?_
    rintro e w' ⟨v, rfl, hT⟩
    exact k v _ _ (hf.put _ hN) ⟨w, hs, hT⟩
/-- A call that answers v and lays its memory beside what is there. -/
theorem ow_cv {v : Value} [hS : Sta S] (hN : Nat.blt d N = true) (hg : gd l0 L g = some true) (h : ExC P op N L S (fun w u w' => u = v ∧ Below w.heap.size w w'))
    (k : OW P l0 Q rest N ((d, v) :: L) S) : OW P l0 Q (⟨some d, op, ty, pos, af, g⟩ :: rest) N L S :=
  ow_c hN hg h fun u a w' hf ⟨w, hs, hu, hb⟩ => by
    subst hu
    exact k a w' hf (hS.keep w w' hs hb)
theorem ow_cn {v : Value} [hS : Sta S] (hg : gd l0 L g = some true) (h : ExC P op N L S (fun w u w' => u = v ∧ Below w.heap.size w w'))
    (k : OW P l0 Q rest N L S) : OW P l0 Q (⟨none, op, ty, pos, af, g⟩ :: rest) N L S :=
  ow_step hg fun a w hf hs => by
    unfold Oper.wp
    obtain ⟨f, args, h1, h2⟩ := h a w hf hs none ty pos af g
    rw [h1]
    refine Calls.mono h2 ?_
    rintro e w' ⟨u, rfl, _, hb⟩
    exact k _ _ hf (hS.keep w w' hs hb)
theorem ow_cnT {T : World → Value → World → Prop} (hg : gd l0 L g = some true) (h : ExC P op N L S T)
    (k : ∀ v, OW P l0 Q rest N L (fun w' => ∃ w, S w ∧ T w v w')) : OW P l0 Q (⟨none, op, ty, pos, af, g⟩ :: rest) N L S :=
  ow_step hg fun a w hf hs => by
    unfold Oper.wp
    obtain ⟨f, args, h1, h2⟩ := h a w hf hs none ty pos af g
    rw [h1]
    refine Calls.mono h2 ?_
    rintro e w' ⟨v, rfl, hT⟩
    exact k v _ _ hf ⟨w, hs, hT⟩
theorem ow_ex {α : Type} {T : α → World → Prop} {l : List Oper} (h : ∀ x, OW P l0 Q l N L (T x)) : OW P l0 Q l N L (fun w => ∃ x, T x w) := fun a w hf ⟨x, hx⟩ => h x a w hf hx
theorem ow_and {p : Prop} {l : List Oper} (h : p → OW P l0 Q l N L S) : OW P l0 Q l N L (fun w => p ∧ S w) := fun a w hf ⟨hp, hx⟩ => h hp a w hf hx
theorem ow_mono {l : List Oper} {S' : World → Prop} (hS : ∀ w, S w → S' w) (h : OW P l0 Q l N L S') : OW P l0 Q l N L S := fun a w hf hs => h a w hf (hS w hs)
theorem ow_sub {l : List Oper} {L' : TL} (hl : subL L L') (h : OW P l0 Q l N L' S) : OW P l0 Q l N L S := fun a w hf hs => h a w (hf.sub hl) hs
end seq

/-! ## The operations -/
section ops
variable {P : Program} {N : Nat} {L : TL} {S : World → Prop}

theorem ex_move {x : Operand} {v : Value} (h : ev L x = some v) : Ex P (.move x) N L S v := fun a w hf hs d ty pos af g => by
  simp [execOp, hf.eval h]
theorem ex_assign {x : Operand} {v : Value} (h : ev L x = some v) : Ex P (.assign x) N L S v := fun a w hf hs d ty pos af g => by
  simp [execOp, hf.eval h]
theorem ex_pick_t {c x y : Operand} {v : Value} (hc : ev L c = some (.bool true)) (h : ev L x = some v) : Ex P (.pick c x y) N L S v := fun a w hf hs d ty pos af g => by
  simp [execOp, hf.eval hc, hf.eval h, asBool]
theorem ex_pick_f {c x y : Operand} {v : Value} (hc : ev L c = some (.bool false)) (h : ev L y = some v) : Ex P (.pick c x y) N L S v := fun a w hf hs d ty pos af g => by
  simp [execOp, hf.eval hc, hf.eval h, asBool]
theorem ex_field {s f off b o : Nat} {x : Operand} [FldT P s f off] (h : ev L x = some (.pointer (some ⟨b, o, none⟩))) :
    Ex P (.fieldAddr s x f) N L S (.pointer (some ⟨b, o + off, none⟩)) := fun a w hf hs d ty pos af g => by
  simp [execOp, hf.eval h, run_fieldAt_of, addr_add]
theorem ex_index {t e k b o n c : Nat} {x y : Operand} {ik : IntKind} {i : Int} [SlT P t e k] (h : ev L x = some (.slice (some ⟨b, o, none⟩) n c)) (hy : ev L y = some (.int ik i))
    (h0 : 0 ≤ i) (h1 : i < n) : Ex P (.indexAddr t x y) N L S (.pointer (some ⟨b, o + i.toNat * k, none⟩)) := fun a w hf hs d ty pos af g => by
  simp [execOp, hf.eval h, hf.eval hy, run_indexAt_of h0 h1, addr_add]
theorem ex_index_nat {t e k b o n c : Nat} {x y : Operand} {ik : IntKind} {i : Nat} [SlT P t e k] (h : ev L x = some (.slice (some ⟨b, o, none⟩) n c)) (hy : ev L y = some (.int ik (i : Int)))
    (h1 : i < n) : Ex P (.indexAddr t x y) N L S (.pointer (some ⟨b, o + i * k, none⟩)) := by
  have := ex_index (P := P) (t := t) (N := N) (S := S) h hy (by omega) (by omega)
  simpa using this

/-- Loads: of one cell, of a struct's cells. -/
theorem ex_load1 {ty b o : Nat} {x : Operand} {v : Value} [OneT P ty] (h : ev L x = some (.pointer (some ⟨b, o, none⟩))) (hc : ∀ w, S w → w.cell? ⟨b, o, none⟩ = some v) :
    Ex P (.load ty x) N L S v := fun a w hf hs d t pos af g => by
  simp [execOp, hf.eval h, run_loadAt_one (hc w hs)]
theorem ex_loadN {ty b o k : Nat} {x : Operand} {cs : List Value} [RowT P ty k] (h : ev L x = some (.pointer (some ⟨b, o, none⟩))) (hl : cs.length = k) (hc : ∀ w, S w → w.rangeAt b o cs) :
    Ex P (.load ty x) N L S (.agg cs.toArray) := fun a w hf hs d t pos af g => by
  simp [execOp, hf.eval h, run_loadAt_row hl (hc w hs)]

theorem ex_len {t ty : TypeId} {p : Option Addr} {n c e k : Nat} {x : Operand} [hs : SlT P t e k] (h : ev L x = some (.slice p n c)) :
    Ex P (.call { callee := .builtin .len, args := #[x], argTypes := #[t] }) N L S (.int .i64 (n : Int)) := fun a w hf _ d ty pos af g => by
  simp [execOp, resolve, invoke, builtin, Builtin.len_, hf.eval h, run_underlying hs.ok.1, goInt]
theorem ex_lenstr {t ty : TypeId} {s : ByteArray} {x : Operand} [hs : StrT P t] (h : ev L x = some (.string s)) :
    Ex P (.call { callee := .builtin .len, args := #[x], argTypes := #[t] }) N L S (.int .i64 (s.size : Int)) := fun a w hf _ d ty pos af g => by
  simp [execOp, resolve, invoke, builtin, Builtin.len_, hf.eval h, run_underlying hs.ok, goInt]
theorem ex_extract {x : Operand} {vs : List Value} {v : Value} {i : Nat} (h : ev L x = some (.tuple vs.toArray)) (hi : vs[i]? = some v) : Ex P (.extract x i) N L S v := fun a w hf hs d ty pos af g => by
  simp [execOp, hf.eval h, Instr.extract, hi]
theorem ex_not {t : TypeId} {x : Operand} {b : Bool} (h : ev L x = some (.bool b)) : Ex P (.unOp .not t x) N L S (.bool !b) := fun a w hf hs d ty pos af g => by
  simp [execOp, hf.eval h, Op.unary]
theorem ex_neg {t : TypeId} {x : Operand} {k : IntKind} {n : Int} (h : ev L x = some (.int k n)) : Ex P (.unOp .neg t x) N L S (.int k (k.wrap (0 - n))) := fun a w hf hs d ty pos af g => by
  simp [execOp, hf.eval h, Op.unary, Op.intArith]
theorem ex_makeFunc {fn : Fn} {first caps : Array Operand} {fs cs : List Value} (h1 : first.toList.mapM (ev L) = some fs) (h2 : caps.toList.mapM (ev L) = some cs) :
    Ex P (.makeFunc fn first caps) N L S (.func fn fs.toArray cs.toArray) := fun a w hf hs d ty pos af g => by
  have key : ∀ (l : List Operand) (vs : List Value), l.mapM (ev L) = some vs → l.map a.eval = vs := by
    intro l
    induction l with
    | nil => intro vs h; simp at h; simp [h]
    | cons x r ih =>
      intro vs h
      simp only [List.mapM_cons, Option.bind_eq_bind, Option.pure_def, Option.bind_eq_some_iff] at h
      obtain ⟨v, hv, vs', hvs, e⟩ := h
      cases e
      simp [hf.eval hv, ih vs' hvs]
  have e1 : first.map a.eval = fs.toArray := by apply Array.toList_inj.1; simpa using key _ _ h1
  have e2 : caps.map a.eval = cs.toArray := by apply Array.toList_inj.1; simpa using key _ _ h2
  simp [execOp, Instr.makeFunc, e1, e2]

/-! Whole numbers. -/
section ints
variable {t u : TypeId} {x y : Operand} {k : IntKind} {m n : Int}
theorem ex_bin (op : BinOp) {v : Value} (hx : ev L x = some (.int k m)) (hy : ev L y = some (.int k n)) (h : ∀ w, (binOp op t (.int k m) (.int k n)).run P w = .ok v w) :
    Ex P (.binOp op t x y u) N L S v := fun a w hf hs d ty pos af g => by
  have he : ∀ w, (eqGuard op t x y (.int k m) (.int k n)).run P w = .ok () w := fun w => by cases op <;> simp [eqGuard]
  simp [execOp, hf.eval hx, hf.eval hy, he, h]
theorem ex_lss (hx : ev L x = some (.int k m)) (hy : ev L y = some (.int k n)) : Ex P (.binOp .lss t x y u) N L S (.bool (decide (m < n))) := ex_bin .lss hx hy fun w => by simp [binOp, Op.intCmp]
theorem ex_leq (hx : ev L x = some (.int k m)) (hy : ev L y = some (.int k n)) : Ex P (.binOp .leq t x y u) N L S (.bool (decide (m ≤ n))) := ex_bin .leq hx hy fun w => by simp [binOp, Op.intCmp]
theorem ex_gtr (hx : ev L x = some (.int k m)) (hy : ev L y = some (.int k n)) : Ex P (.binOp .gtr t x y u) N L S (.bool (decide (n < m))) := ex_bin .gtr hx hy fun w => by simp [binOp, Op.intCmp]
theorem ex_geq (hx : ev L x = some (.int k m)) (hy : ev L y = some (.int k n)) : Ex P (.binOp .geq t x y u) N L S (.bool (decide (n ≤ m))) := ex_bin .geq hx hy fun w => by simp [binOp, Op.intCmp]
theorem ex_eql (hx : ev L x = some (.int k m)) (hy : ev L y = some (.int k n)) : Ex P (.binOp .eql t x y u) N L S (.bool (decide (m = n))) := ex_bin .eql hx hy fun w => by
  simp [binOp, Op.intCmp]; by_cases h : m = n <;> simp [h]
theorem ex_neq (hx : ev L x = some (.int k m)) (hy : ev L y = some (.int k n)) : Ex P (.binOp .neq t x y u) N L S (.bool (decide (m ≠ n))) := ex_bin .neq hx hy fun w => by
  simp [binOp, Op.intCmp]; by_cases h : m = n <;> simp [h]
theorem ex_add (hx : ev L x = some (.int k m)) (hy : ev L y = some (.int k n)) : Ex P (.binOp .add t x y u) N L S (.int k (k.wrap (m + n))) := ex_bin .add hx hy fun w => by simp [binOp, Op.intArith]
theorem ex_sub (hx : ev L x = some (.int k m)) (hy : ev L y = some (.int k n)) : Ex P (.binOp .sub t x y u) N L S (.int k (k.wrap (m - n))) := ex_bin .sub hx hy fun w => by simp [binOp, Op.intArith]
theorem ex_mul (hx : ev L x = some (.int k m)) (hy : ev L y = some (.int k n)) : Ex P (.binOp .mul t x y u) N L S (.int k (k.wrap (m * n))) := ex_bin .mul hx hy fun w => by simp [binOp, Op.intArith]
/-- Of int (64 bits), where nothing wraps. -/
theorem i64_of {z : Int} (h0 : -9223372036854775808 ≤ z) (h1 : z ≤ 9223372036854775807) : IntKind.i64.wrap z = z := by
  exact IntWalk.i64_in _ ⟨h0, h1⟩
theorem ex_addi {z : Int} (hx : ev L x = some (.int .i64 m)) (hy : ev L y = some (.int .i64 n)) (hz : m + n = z) (h0 : -9223372036854775808 ≤ z) (h1 : z ≤ 9223372036854775807) :
    Ex P (.binOp .add t x y u) N L S (.int .i64 z) := by subst hz; have := ex_add (P := P) (N := N) (S := S) (t := t) (u := u) hx hy; rwa [i64_of h0 h1] at this
theorem ex_subi {z : Int} (hx : ev L x = some (.int .i64 m)) (hy : ev L y = some (.int .i64 n)) (hz : m - n = z) (h0 : -9223372036854775808 ≤ z) (h1 : z ≤ 9223372036854775807) :
    Ex P (.binOp .sub t x y u) N L S (.int .i64 z) := by subst hz; have := ex_sub (P := P) (N := N) (S := S) (t := t) (u := u) hx hy; rwa [i64_of h0 h1] at this
end ints

class BoolT (P : Program) (ty : TypeId) : Prop where
  ok : P.underlying ty = some .bool
theorem ex_eqlb {t u : TypeId} {x y : Operand} {b c : Bool} [h : BoolT P t] (hx : ev L x = some (.bool b)) (hy : ev L y = some (.bool c)) :
    Ex P (.binOp .eql t x y u) N L S (.bool (b == c)) := fun a w hf hs d ty pos af g => by
  have he : ∀ w, (eqGuard .eql t x y (.bool b) (.bool c)).run P w = .ok () w := fun w => by simp [eqGuard]
  simp [execOp, hf.eval hx, hf.eval hy, he, run_eql_bool _ t b c h.ok]
theorem ex_neqb {t u : TypeId} {x y : Operand} {b c : Bool} [h : BoolT P t] (hx : ev L x = some (.bool b)) (hy : ev L y = some (.bool c)) :
    Ex P (.binOp .neq t x y u) N L S (.bool (!(b == c))) := fun a w hf hs d ty pos af g => by
  have he : ∀ w, (eqGuard .neq t x y (.bool b) (.bool c)).run P w = .ok () w := fun w => by simp [eqGuard]
  simp [execOp, hf.eval hx, hf.eval hy, he, run_neq_bool _ t b c h.ok]

/-! Calls. -/
def evs (L : TL) : List Operand → Option (List Value)
  | [] => some []
  | x :: r => match ev L x with
    | some v => match evs L r with
      | some vs => some (v :: vs)
      | none => none
    | none => none
theorem evs_map {a : Act} (hf : Fr N L a) : ∀ (l : List Operand) (vs : List Value), evs L l = some vs → l.map a.eval = vs
  | [], vs, h => by simp [evs] at h; simp [h]
  | x :: r, vs, h => by
    simp only [evs] at h
    cases hx : ev L x with
    | none => simp [hx] at h
    | some v =>
      cases hr : evs L r with
      | none => simp [hx, hr] at h
      | some us =>
        simp [hx, hr] at h
        subst h
        simp [hf.eval hx, evs_map hf r us hr]

theorem ex_call {f : FuncId} {fo : Operand} {args : List Operand} {ats : Array TypeId} {vs cs : List Value} {T : World → Value → World → Prop} [h : FnT P f]
    (hfo : ev L fo = some (.func (.func f) #[] cs.toArray)) (ha : evs L args = some vs)
    (hc : ∀ w, S w → Calls P f (vs ++ cs).toArray w fun e w' => ∃ v, e = .returned v ∧ T w v w') :
    ExC P (.call { callee := .value fo, args := args.toArray, argTypes := ats }) N L S T := fun a w hf hs d ty pos af g => by
  obtain ⟨fn, h1, h2, h3⟩ := h.ok
  have e : args.map a.eval = vs := evs_map hf _ _ ha
  refine ⟨f, (vs ++ cs).toArray, ?_, hc w hs⟩
  have h2' : ¬ fn.name = "runtime.NumGoroutine" := by simpa using h2
  have h3' : ¬ fn.body = none := fun e0 => by rw [e0] at h3; cases h3
  simp [execOp, resolve, hf.eval hfo, Deferred.ofValue, invoke, callFunc, h1, h2', h3', e]
theorem ex_callf {f : FuncId} {args : List Operand} {ats : Array TypeId} {vs : List Value} {T : World → Value → World → Prop} [h : FnT P f]
    (ha : evs L args = some vs) (hc : ∀ w, S w → Calls P f vs.toArray w fun e w' => ∃ v, e = .returned v ∧ T w v w') :
    ExC P (.call { callee := .value (.func f), args := args.toArray, argTypes := ats }) N L S T :=
  ex_call (cs := []) rfl ha (by simpa using hc)
/-- A contract 'it answers v, and lays its memory beside'. -/
theorem callB {f : FuncId} {args : Array Value} {w : World} {v : Value} (h : Calls P f args w fun e w' => e = .returned v ∧ Below w.heap.size w w') :
    Calls P f args w fun e w' => ∃ u, e = .returned u ∧ u = v ∧ Below w.heap.size w w' := h.mono fun _ _ ⟨he, hb⟩ => ⟨v, he, rfl, hb⟩

/-! New blocks, stores. -/
section blocks
variable {w0 : World} {M : Nat → Prop} {σ : Hp} {H G : List (Nat × Obj)}
theorem exw_box {ty : TypeId} {x : Operand} {v : Value} (h : ev L x = some v) :
    ExW P (.box ty x) N L (St w0 M σ H G) (fun u w => ∃ b, u = .pointer (some ⟨b, 0, none⟩) ∧ St w0 M σ ((b, .cells v.cells ty) :: H) G w) := fun a w hf hs d t pos af g =>
  ⟨.pointer (some ⟨w.heap.size, 0, none⟩), w.alloc (.cells v.cells ty), by simp [execOp, hf.eval h, Instr.box, newVar, newRow], _, rfl, hs.alloc _⟩
theorem exw_alloc {ty : TypeId} {z : Value} [hz : ZeroT P ty z] :
    ExW P (.alloc ty) N L (St w0 M σ H G) (fun u w => ∃ b, u = .pointer (some ⟨b, 0, none⟩) ∧ St w0 M σ ((b, .cells z.cells ty) :: H) G w) := fun a w hf hs d t pos af g => by
  have hz' := hz.ok
  cases hi : P.info? ty with
  | none => simp [hi] at hz'
  | some i =>
    have hz2 : i.zero = some z := by simpa [hi] using hz'
    exact ⟨.pointer (some ⟨w.heap.size, 0, none⟩), w.alloc (.cells z.cells ty), by simp [execOp, Instr.alloc, zeroValue, typeInfo, hi, hz2, newVar, newRow], _, rfl, hs.alloc _⟩
theorem ow_blk {l0 : List Oper} {Q : Exit → Act → World → Prop} {rest : List Oper} {d : Nat} {ty : TypeId} {pos : String} {af : Array Edge} {g : Option (Nat × Bool)} {op : Op} {ob : Obj}
    (hN : Nat.blt d N = true) (hg : gd l0 L g = some true)
    (h : ExW P op N L (St w0 M σ H G) (fun u w => ∃ b, u = .pointer (some ⟨b, 0, none⟩) ∧ St w0 M σ ((b, ob) :: H) G w))
    (k : ∀ b, OW P l0 Q rest N ((d, .pointer (some ⟨b, 0, none⟩)) :: L) (St w0 M σ ((b, ob) :: H) G)) :
    OW P l0 Q (⟨some d, op, ty, pos, af, g⟩ :: rest) N L (St w0 M σ H G) :=
  ow_w hN hg h fun u a w hf ⟨b, hu, hs⟩ => by subst hu; exact k b a w hf hs

theorem setRow_putBlk {w : World} {b : Nat} {arr arr' : Array Value} {ty : TypeId} {fz : Nat × Nat} (h : w.heap[b]? = some (.cells arr ty fz)) : w.setRow b arr' = World.putBlk w b (.cells arr' ty fz) := by
  have hb := (Array.getElem?_eq_some_iff.1 h).1
  have he := (Array.getElem?_eq_some_iff.1 h).2
  unfold World.setRow World.putBlk
  congr 1
  apply Array.ext_getElem?
  intro i
  rw [Array.getElem?_modify, Array.getElem?_setIfInBounds]
  by_cases hi : b = i
  · subst hi; simp [hb, he]
  · simp [hi]

/-- 'cs' over the cells from o on. -/
def over (arr : Array Value) (o : Nat) (cs : List Value) : Array Value := (arr.toList.take o ++ cs ++ arr.toList.drop (o + cs.length)).toArray

theorem exu_store {ty b o i : Nat} {x y : Operand} {v : Value} {arr : Array Value} {et : TypeId} (hx : ev L x = some (.pointer (some ⟨b, o, none⟩))) (hy : ev L y = some v)
    (hH : H[i]? = some (b, .cells arr et)) (hsz : (P.info? ty).map (·.size) = some v.cells.size) (hle : o + v.cells.size ≤ arr.size) (h1 : v.cells.all (·.oneCell') = true) :
    ExU P (.store ty x y) N L (St w0 M σ H G) (St w0 M σ (setH H i (.cells (over arr o v.cells.toList) et)) G) := fun a w hf hs d t pos af g => by
  have hb : w.heap[b]? = some (.cells arr et (0, 0)) := hs.own (List.mem_of_getElem? hH)
  have hrun := run_storeCells_at (P := P) b o et v.cells.toList 0 arr w hb (by simpa using hle) (fun u hu => (Array.all_eq_true_iff_forall_mem.1 h1) u (by simpa using hu))
  rw [setRow_putBlk hb] at hrun
  refine ⟨_, ?_, hs.put hH _⟩
  cases hq : P.info? ty with
  | none => simp [hq] at hsz
  | some it =>
    have hsz' : it.size = v.cells.size := by simpa [hq] using hsz
    simp only [Nat.add_zero] at hrun
    simp [execOp, hf.eval hx, hf.eval hy, Instr.storeAt, Instr.sureAddr, storeVar, sizeOf, typeInfo, hq, hsz', hrun, over]
end blocks
end ops
end Go.Proofs.YtnjomdjkbbhdoaaDoor
