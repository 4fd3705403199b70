/-
  The frame in which this seat's Go functions are walked: temporaries as a list of what is known, memory as what never turns and what is owned; rules for code and for single operations.
  No condition; nothing of the seat's program stands here.
-/
import Derived.StillTail
import Derived.Below
import Derived.WalkKit
namespace Go.Proofs.YtnjomdjkbbhdoaaDoor
open Go.RowKit
set_option linter.unusedVariables false

/-! ## Temporaries -/
abbrev TL := List (Nat × Value)

def lk : TL → Nat → Option Value
  | [], _ => none
  | p :: r, j => match Nat.beq p.1 j with
    | true => some p.2
    | false => lk r j

theorem Nat.beq_eq_false_of_ne' {i j : Nat} (h : ¬ i = j) : Nat.beq i j = false := by
  cases e : Nat.beq i j with
  | false => rfl
  | true => exact absurd (Nat.eq_of_beq_eq_true e) h

theorem least {p : Nat → Prop} (h : ∃ n, p n) : ∃ n, p n ∧ ∀ m, p m → n ≤ m := by
  obtain ⟨n, hn⟩ := h
  induction n using Nat.strongRecOn with
  | _ n ih =>
    by_cases hm : ∃ m, m < n ∧ p m
    · obtain ⟨m, hlt, hm⟩ := hm; exact ih m hlt hm
    · exact ⟨n, hn, fun m hpm => Nat.le_of_not_lt fun hlt => hm ⟨m, hlt, hpm⟩⟩

theorem lk_cons (i : Nat) (v : Value) (r : TL) (j : Nat) : lk ((i, v) :: r) j = if i = j then some v else lk r j := by
  by_cases h : i = j
  · subst h; simp [lk]
  · have : Nat.beq i j = false := Nat.beq_eq_false_of_ne' h
    simp [lk, this, h]

structure Fr (N : Nat) (L : TL) (a : Act) : Prop where
  df : a.defers = []
  sz : a.tmps.size = N
  get : ∀ i v, lk L i = some v → a.tmps[i]? = some v

def ev (L : TL) : Operand → Option Value
  | .tmp t => lk L t
  | .const v => some v
  | .global g => some (.pointer (some ⟨g, 0, none⟩))
  | .func f => some (.func (.func f) #[] #[])

theorem Fr.eval {N : Nat} {L : TL} {a : Act} {x : Operand} {v : Value} (h : Fr N L a) (he : ev L x = some v) : a.eval x = v := by
  cases x with
  | tmp t =>
    have := h.get t v he
    simp [Act.eval, Array.getD_eq_getD_getElem?, this]
  | const u => simpa [ev, Act.eval] using he
  | global g => simpa [ev, Act.eval] using he
  | func f => simpa [ev, Act.eval] using he

theorem Fr.put {N : Nat} {L : TL} {a : Act} {d : Nat} (v : Value) (h : Fr N L a) (hd : Nat.blt d N = true) : Fr N ((d, v) :: L) (a.put (some d) v) := by
  have hd' : d < N := by simp [Nat.blt] at hd; omega
  refine ⟨h.df, by simpa [Act.put] using h.sz, fun i u hu => ?_⟩
  rw [lk_cons] at hu
  by_cases e : d = i
  · subst e
    rw [if_pos rfl] at hu
    cases hu
    simp [Act.put, h.sz, hd']
  · rw [if_neg e] at hu
    simp only [Act.put]
    rw [Array.getElem?_setIfInBounds_ne (by omega)]
    exact h.get i u hu

def subL (L L' : TL) : Prop := ∀ i v, lk L' i = some v → lk L i = some v

theorem Fr.sub {N : Nat} {L L' : TL} {a : Act} (h : Fr N L a) (hs : subL L L') : Fr N L' a :=
  ⟨h.df, h.sz, fun i v hv => h.get i v (hs i v hv)⟩

/-! ## Code -/
section code
variable {P : Program} {Q : Exit → Act → World → Prop} {N : Nat} {L : TL} {S : World → Prop}

def QW (Q : Exit → Act → World → Prop) (e : Exit) (N : Nat) (L : TL) (S : World → Prop) : Prop := ∀ a w, Fr N L a → S w → Q e a w
def CW (P : Program) (c : Code) (Q : Exit → Act → World → Prop) (N : Nat) (L : TL) (S : World → Prop) : Prop := ∀ a w, Fr N L a → S w → c.wp P Q a w
def OW (P : Program) (l0 : List Oper) (Q : Exit → Act → World → Prop) (l : List Oper) (N : Nat) (L : TL) (S : World → Prop) : Prop :=
  ∀ a w, Fr N L a → S w → wpList P l0.toArray Q l a w

theorem cw_seq {x y : Code} (h : CW P x (Exit.then (y.wp P Q) Q) N L S) : CW P (.seq x y) Q N L S := fun a w hf hs => wp_seq (h a w hf hs)
theorem cw_skip (h : QW Q .normal N L S) : CW P .skip Q N L S := fun a w hf hs => wp_skip (h a w hf hs)
theorem cw_exit {id : Nat} (h : QW Q (.exit id) N L S) : CW P (.exit id) Q N L S := fun a w hf hs => wp_exit (h a w hf hs)
theorem cw_ret (h : QW Q .ret N L S) : CW P .ret Q N L S := fun a w hf hs => wp_ret (h a w hf hs)
theorem cw_block {id : Nat} {c : Code} (h : CW P c (Exit.inBlock id Q) N L S) : CW P (.block id c) Q N L S := fun a w hf hs => wp_block (h a w hf hs)
theorem cw_cond {c : Operand} {x y : Code} {b : Bool} (hc : ev L c = some (.bool b)) (ht : b = true → CW P x Q N L S) (hf : b = false → CW P y Q N L S) :
    CW P (.cond c x y) Q N L S := fun a w hfr hs => wp_cond_split (hfr.eval hc) (fun e => ht e a w hfr hs) (fun e => hf e a w hfr hs)
theorem cw_cond_t {c : Operand} {x y : Code} (hc : ev L c = some (.bool true)) (ht : CW P x Q N L S) : CW P (.cond c x y) Q N L S :=
  fun a w hfr hs => wp_cond_true (hfr.eval hc) (ht a w hfr hs)
theorem cw_cond_f {c : Operand} {x y : Code} (hc : ev L c = some (.bool false)) (ht : CW P y Q N L S) : CW P (.cond c x y) Q N L S :=
  fun a w hfr hs => wp_cond_false (hfr.eval hc) (ht a w hfr hs)
theorem cw_region {id : Nat} {l : List Oper} (h : OW P l Q l N L S) : CW P (.region id l.toArray false) Q N L S := fun a w hf hs => wp_region_lit (h a w hf hs)
theorem cw_ex {α : Type} {T : α → World → Prop} {c : Code} (h : ∀ x, CW P c Q N L (T x)) : CW P c Q N L (fun w => ∃ x, T x w) := fun a w hf ⟨x, hx⟩ => h x a w hf hx
theorem cw_and {p : Prop} {c : Code} (h : p → CW P c Q N L S) : CW P c Q N L (fun w => p ∧ S w) := fun a w hf ⟨hp, hx⟩ => h hp a w hf hx
theorem cw_mono {c : Code} {S' : World → Prop} (hS : ∀ w, S w → S' w) (h : CW P c Q N L S') : CW P c Q N L S := fun a w hf hs => h a w hf (hS w hs)
theorem cw_sub {c : Code} {L' : TL} (hl : subL L L') (h : CW P c Q N L' S) : CW P c Q N L S := fun a w hf hs => h a w (hf.sub hl) hs

theorem qw_seq {y : Code} (h : CW P y Q N L S) : QW (Exit.then (y.wp P Q) Q) .normal N L S := h
theorem qw_then_ret {K : Act → World → Prop} (h : QW Q .ret N L S) : QW (Exit.then K Q) .ret N L S := h
theorem qw_then_exit {K : Act → World → Prop} {id : Nat} (h : QW Q (.exit id) N L S) : QW (Exit.then K Q) (.exit id) N L S := h
theorem qw_block_normal {id : Nat} (h : QW Q .normal N L S) : QW (Exit.inBlock id Q) .normal N L S := h
theorem qw_block_ret {id : Nat} (h : QW Q .ret N L S) : QW (Exit.inBlock id Q) .ret N L S := h
theorem qw_block_exit {id : Nat} (h : QW Q .normal N L S) : QW (Exit.inBlock id Q) (.exit id) N L S := fun a w hf hs => by
  simp only [Exit.inBlock, if_true]; exact h a w hf hs
theorem qw_block_other {id j : Nat} (hj : Nat.beq j id = false) (h : QW Q (.exit j) N L S) : QW (Exit.inBlock id Q) (.exit j) N L S := fun a w hf hs => by
  have : ¬ j = id := fun e => by subst e; simp at hj
  simp only [Exit.inBlock, this, if_false]; exact h a w hf hs
theorem qw_ex {e : Exit} {α : Type} {T : α → World → Prop} (h : ∀ x, QW Q e N L (T x)) : QW Q e N L (fun w => ∃ x, T x w) := fun a w hf ⟨x, hx⟩ => h x a w hf hx

theorem cw_loop {α : Type} {c : Code} (I : α → TL) (T : α → World → Prop) (μ : α → Nat) (x0 : α) (hL : subL L (I x0)) (hS : ∀ w, S w → T x0 w)
    (round : ∀ x, CW P c (Exit.then (fun a w => ∃ y, μ y < μ x ∧ Fr N (I y) a ∧ T y w) Q) N (I x) (T x)) : CW P (.loop c) Q N L S := by
  intro a w hf hs
  classical
  refine wp_loop (fun a w => ∃ x, Fr N (I x) a ∧ T x w)
    (fun a w => if h : ∃ n, ∃ x, μ x = n ∧ Fr N (I x) a ∧ T x w then Classical.choose (least h) else 0) ⟨x0, hf.sub hL, hS w hs⟩ ?_
  rintro a w ⟨x, hx, ht⟩
  have hex : ∃ n, ∃ x, μ x = n ∧ Fr N (I x) a ∧ T x w := ⟨_, x, rfl, hx, ht⟩
  obtain ⟨⟨x, hm, hx, ht⟩, hmin⟩ := Classical.choose_spec (least hex)
  refine wp_mono (round x a w hx ht) ?_
  intro e a' w' h
  cases e with
  | normal =>
    obtain ⟨y, hy, hfy, hty⟩ := h
    refine ⟨⟨y, hfy, hty⟩, ?_⟩
    have hex' : ∃ n, ∃ x, μ x = n ∧ Fr N (I x) a' ∧ T x w' := ⟨_, y, rfl, hfy, hty⟩
    rw [dif_pos hex', dif_pos hex, ← hm]
    exact Nat.lt_of_le_of_lt ((Classical.choose_spec (least hex')).2 _ ⟨y, rfl, hfy, hty⟩) hy
  | _ => exact h

/-- The end of a round. -/
theorem qw_round {α : Type} {I : α → TL} {T : α → World → Prop} {μ : α → Nat} {m : Nat} (y : α) (hmu : μ y < m) (hL : subL L (I y)) (hS : ∀ w, S w → T y w) :
    QW (Exit.then (fun a w => ∃ y, μ y < m ∧ Fr N (I y) a ∧ T y w) Q) .normal N L S := fun a w hf hs => ⟨y, hmu, hf.sub hL, hS w hs⟩
end code
end Go.Proofs.YtnjomdjkbbhdoaaDoor
