/-
  What small functions of this seat come to, in plain Lean; more single operations.
  No condition.
-/
import Derived.Test.YtnjomdjkbbhdoaaDoorMA
namespace Go.Proofs.YtnjomdjkbbhdoaaDoor
open Go.RowKit
set_option linter.unusedVariables false

def kidsOK (o : Int) (ks : List T) : Bool :=
  if o = 1 ∨ o = 5 then decide (ks.length = 0) else if o = 2 ∨ o = 3 ∨ o = 4 ∨ o = 6 then decide (ks.length = 1) else if o = 7 then decide (ks.length ≤ 4) else false
theorem shape_go (o n : Int) (d : List UInt8) (ks : List T) : shape o n d ks = (kidsOK o ks && !decide (8192 < (d.length : Int)) &&
    !(decide (o = 1) && (decide (n < 0) || decide (1099511627776 < n)) || decide (o ≠ 1) && decide (n ≠ 0)) &&
    !(decide (0 < (d.length : Int)) && decide (o ≠ 3) && decide (o ≠ 4) && decide (o ≠ 5) && decide (o ≠ 6))) := by
  rw [Bool.eq_iff_iff]
  unfold shape kidsOK
  simp only [Bool.and_eq_true, Bool.or_eq_true, decide_eq_true_eq, Bool.not_eq_true', Bool.or_eq_false_iff, Bool.and_eq_false_iff, decide_eq_false_iff_not]
  by_cases h1 : o = 1 ∨ o = 5
  · simp only [if_pos h1, decide_eq_true_eq]; omega
  · simp only [if_neg h1]
    by_cases h2 : o = 2 ∨ o = 3 ∨ o = 4 ∨ o = 6
    · simp only [if_pos h2, if_neg (show ¬ o = 7 by omega), decide_eq_true_eq]; omega
    · simp only [if_neg h2]
      by_cases h3 : o = 7
      · simp only [if_pos h3, decide_eq_true_eq]; omega
      · have hn : ¬ (1 ≤ o ∧ o ≤ 7) := by omega
        simp [h3, hn]
/-- The first that is not nought. -/
def firstNZ : List Int → Int
  | [] => 0
  | z :: r => if z = 0 then firstNZ r else z
theorem firstNZ_take : ∀ {zs : List Int} {i : Nat}, (∀ j (h : j < zs.length), j < i → zs[j] = 0) → firstNZ zs = firstNZ (zs.drop i)
  | zs, 0, _ => rfl
  | [], i + 1, _ => rfl
  | z :: r, i + 1, h => by
    have h0 : z = 0 := h 0 (by simp) (by omega)
    simp only [firstNZ, h0, if_true, List.drop_succ_cons]
    exact firstNZ_take fun j hj hji => h (j + 1) (by simpa using hj) (by omega)
theorem firstNZ3 (x y z r : Int) : lex x (lex y (lex z r)) = lex (firstNZ [x, y, z]) r := by
  simp only [firstNZ, lex]
  by_cases hx : x = 0 <;> by_cases hy : y = 0 <;> by_cases hz : z = 0 <;> simp [hx, hy, hz]
def intsV (zs : List Int) : List Value := zs.map fun z => Value.int .i64 z
theorem intsV_get {zs : List Int} {i : Nat} (h : i < zs.length) : (intsV zs)[i]? = some (.int .i64 zs[i]) := by simp [intsV, h]
def idxI : List Int → Int → Int
  | [], _ => -1
  | z :: r, o => if z = o then 0 else if idxI r o = -1 then -1 else idxI r o + 1
theorem idxI_ge : ∀ (zs : List Int) (o : Int), -1 ≤ idxI zs o
  | [], o => by simp [idxI]
  | z :: r, o => by
    have := idxI_ge r o
    simp only [idxI]
    split
    · omega
    · split <;> omega
theorem idxI_mem : ∀ {zs : List Int} {o : Int}, 0 ≤ idxI zs o ↔ o ∈ zs
  | [], o => by simp [idxI]
  | z :: r, o => by
    have ih := idxI_mem (zs := r) (o := o)
    have hg := idxI_ge r o
    simp only [idxI, List.mem_cons]
    by_cases hz : z = o
    · simp [hz]
    · rw [if_neg hz, ← ih]
      have hz' : ¬ o = z := fun h => hz h.symm
      split
      · constructor
        · intro h; omega
        · rintro (h | h)
          · exact absurd h hz'
          · omega
      · constructor
        · intro h; right; omega
        · rintro (h | h)
          · exact absurd h hz'
          · omega
theorem idxI_at : ∀ {zs : List Int} {o : Int} {i : Nat}, (h : i < zs.length) → zs[i] = o → (∀ j (h : j < zs.length), j < i → zs[j] ≠ o) → idxI zs o = (i : Int)
  | z :: r, o, 0, h, e, hn => by have e' : z = o := e; simp [idxI, e']
  | z :: r, o, i + 1, h, e, hn => by
    have hz : z ≠ o := hn 0 (by simp) (by omega)
    have ih := idxI_at (zs := r) (o := o) (i := i) (by simpa using h) (by simpa using e) (fun j hj hji => hn (j + 1) (by simpa using hj) (by omega))
    rw [idxI, if_neg hz, ih, if_neg (by omega)]; simp
theorem idxI_none : ∀ {zs : List Int} {o : Int}, (∀ j (h : j < zs.length), zs[j] ≠ o) → idxI zs o = -1
  | [], o, _ => rfl
  | z :: r, o, hn => by
    have hz : z ≠ o := hn 0 (by simp)
    have ih := idxI_none (zs := r) (o := o) (fun j hj => hn (j + 1) (by simpa using hj))
    rw [idxI, if_neg hz, ih, if_pos rfl]
def findI (p : T → Bool) : List T → Int
  | [] => -1
  | k :: r => if p k = true then 0 else if findI p r = -1 then -1 else findI p r + 1
theorem findI_ge (p : T → Bool) : ∀ (ks : List T), -1 ≤ findI p ks
  | [] => by simp [findI]
  | k :: r => by
    have := findI_ge p r
    simp only [findI]
    split
    · omega
    · split <;> omega
theorem findI_any (p : T → Bool) : ∀ (ks : List T), decide (0 ≤ findI p ks) = ks.any p
  | [] => by simp [findI]
  | k :: r => by
    have ih := findI_any p r
    have hg := findI_ge p r
    by_cases hk : p k = true
    · simp [findI, hk]
    · have hk' : p k = false := by simpa using hk
      rw [List.any_cons, hk', Bool.false_or, ← ih, decide_eq_decide]
      simp only [findI, hk', Bool.false_eq_true, if_false]
      split <;> omega
theorem findI_at {p : T → Bool} : ∀ {ks : List T} {i : Nat}, (h : i < ks.length) → p ks[i] = true → (∀ j (h : j < ks.length), j < i → p ks[j] = false) → findI p ks = (i : Int)
  | k :: r, 0, h, e, hn => by have e' : p k = true := e; simp [findI, e']
  | k :: r, i + 1, h, e, hn => by
    have hz : p k = false := hn 0 (by simp) (by omega)
    have ih := findI_at (p := p) (ks := r) (i := i) (by simpa using h) (by simpa using e) (fun j hj hji => hn (j + 1) (by simpa using hj) (by omega))
    rw [findI, if_neg (by simp [hz]), ih, if_neg (by omega)]; simp
theorem findI_none {p : T → Bool} : ∀ {ks : List T}, (∀ j (h : j < ks.length), p ks[j] = false) → findI p ks = -1
  | [], _ => rfl
  | k :: r, hn => by
    have hz : p k = false := hn 0 (by simp)
    have ih := findI_none (p := p) (ks := r) (fun j hj => hn (j + 1) (by simpa using hj))
    rw [findI, if_neg (by simp [hz]), ih, if_pos rfl]
theorem rightsD_any : ∀ (ks : List T) (dp : Nat), rightsD ks dp = !(ks.any fun k => !rightD k dp)
  | [], dp => by simp [rightsD]
  | k :: r, dp => by rw [rightsD, rightsD_any r dp]; simp [Bool.not_or]
theorem shape_prog {o n : Int} {d : List UInt8} {ks : List T} {kA kB : Bool} (hA : kA = decide (o ∈ [(3 : Int), 4, 6])) (hB : kB = decide (o ∈ [(1 : Int), 5])) :
    shape o n d ks = (!(decide (8192 < (d.length : Int)) || decide (n < 0) || decide (1099511627776 < n)) && !(decide (0 < n) && decide (o ≠ 1) || decide (0 < (d.length : Int)) && !kA && decide (o ≠ 5)) &&
      !(kB && decide ((ks.length : Int) ≠ 0) || (kA || decide (o = 2)) && decide ((ks.length : Int) ≠ 1) || decide (o = 7) && decide (4 < (ks.length : Int))) && !(decide (o < 1) || decide (7 < o))) := by
  subst hA; subst hB
  rw [Bool.eq_iff_iff]
  unfold shape
  simp only [Bool.and_eq_true, Bool.or_eq_true, decide_eq_true_eq, Bool.not_eq_true', Bool.or_eq_false_iff, Bool.and_eq_false_iff, decide_eq_false_iff_not, List.mem_cons, List.not_mem_nil, or_false, Bool.not_eq_false', decide_eq_true_eq]
  by_cases h1 : o = 1 ∨ o = 5
  · simp only [if_pos h1, decide_eq_true_eq]; omega
  · simp only [if_neg h1]
    by_cases h3 : o = 7
    · simp only [if_pos h3, decide_eq_true_eq]; omega
    · simp only [if_neg h3, decide_eq_true_eq]; omega
def signI (n : Int) : Int := if n < 0 then -1 else if 1 < n then 1 else n

theorem sizes_take (ks : List T) (i : Nat) (h : i < ks.length) : sizes (ks.take (i + 1)) = sizes (ks.take i) + size ks[i] := by
  rw [List.take_succ_eq_append_getElem h, sizes_append]; simp [sizes]
theorem sizes_take_le (ks : List T) (i : Nat) : sizes (ks.take i) ≤ sizes ks := by
  have := sizes_append (ks.take i) (ks.drop i)
  rw [List.take_append_drop] at this; omega
theorem norms_len : ∀ (ks : List T), (norms ks).length = ks.length
  | [] => rfl
  | k :: r => by simp [norms, norms_len r]
theorem norms_app : ∀ (a b : List T), norms (a ++ b) = norms a ++ norms b
  | [], b => rfl
  | k :: r, b => by simp [norms, norms_app r b]
theorem norms_take (ks : List T) (i : Nat) (h : i < ks.length) : norms (ks.take (i + 1)) = norms (ks.take i) ++ [norm ks[i]] := by
  rw [List.take_succ_eq_append_getElem h, norms_app]; rfl
theorem sortB_app : ∀ (l acc : List T) (x : T), sortB acc (l ++ [x]) = putB (sortB acc l) x
  | [], acc, x => rfl
  | k :: r, acc, x => by simp [sortB, sortB_app r]
theorem putB_len (ks : List T) (x : T) : (putB ks x).length = ks.length + 1 := by
  unfold putB
  have : backAt ks x ks.length ≤ ks.length := by
    have key : ∀ n, backAt ks x n ≤ n := by
      intro n
      induction n with
      | zero => exact Nat.le_refl _
      | succ n ih => unfold backAt; split <;> omega
    exact key _
  simp; omega
theorem sortB_len : ∀ (l acc : List T), (sortB acc l).length = acc.length + l.length
  | [], acc => rfl
  | k :: r, acc => by rw [sortB, sortB_len r, putB_len]; simp; omega
theorem norm_mk (o n : Int) (d : List UInt8) (ks : List T) : norm (.mk o n d ks) = .mk o n d (if o = 7 then sortB [] (norms ks) else norms ks) := by rw [norm]
theorem cmpI_m {a b : Int} (h : a < b) : cmpI a b = -1 := by unfold cmpI; rw [if_pos h]
theorem cmpI_p {a b : Int} (h : b < a) : cmpI a b = 1 := by unfold cmpI; rw [if_neg (by omega), if_pos h]
theorem cmpI_0 {a b : Int} (h : a = b) : cmpI a b = 0 := cmpI_zero.2 h
theorem ord_mk (o n : Int) (d : List UInt8) (ks : List T) (u : T) : ord (.mk o n d ks) u = lex (cmpI o u.op) (lex (cmpI n u.num) (lex (cmpB d u.data) (ords ks u.kids))) := by unfold ord; rfl
theorem ords_cons (a b : T) (r s : List T) : ords (a :: r) (b :: s) = lex (ord a b) (ords r s) := by rw [ords]
theorem ords_step {ks ls : List T} {i : Nat} (h : i < ks.length) (k : i < ls.length) : ords (ks.drop i) (ls.drop i) = lex (ord ks[i] ls[i]) (ords (ks.drop (i + 1)) (ls.drop (i + 1))) := by
  rw [List.drop_eq_getElem_cons h, List.drop_eq_getElem_cons k, ords_cons]
theorem ords_short {ks ls : List T} {i : Nat} (h : ks.length ≤ i) (k : i < ls.length) : ords (ks.drop i) (ls.drop i) = -1 := by
  rw [List.drop_eq_nil_of_le h, List.drop_eq_getElem_cons k, ords]
theorem ords_long {ks ls : List T} {i : Nat} (h : i < ks.length) (k : ls.length ≤ i) : ords (ks.drop i) (ls.drop i) = 1 := by
  rw [List.drop_eq_nil_of_le k, List.drop_eq_getElem_cons h, ords]
theorem ords_end {ks ls : List T} {i : Nat} (h : ks.length ≤ i) (k : ls.length ≤ i) : ords (ks.drop i) (ls.drop i) = 0 := by
  rw [List.drop_eq_nil_of_le k, List.drop_eq_nil_of_le h, ords]

section
variable {P : Program} {N : Nat} {L : TL} {S : World → Prop}
theorem ex_min2 {x y : Operand} {m n : Int} {t u ty : TypeId} (hx : ev L x = some (.int .i64 m)) (hy : ev L y = some (.int .i64 n)) :
    Ex P (.call { callee := .builtin .min, args := #[x, y], argTypes := #[t, u] }) N L S (.int .i64 (if n < m then n else m)) := fun a w hf _ d ty pos af g => by
  simp [execOp, resolve, invoke, builtin, hf.eval hx, hf.eval hy, run_min_int2]
end
end Go.Proofs.YtnjomdjkbbhdoaaDoor
