/-
  What the law VaultTellsUpto needs, part 1.
  No condition.
-/
import Derived.StillTail
import Derived.Below
import Derived.WalkKit
import Derived.Deep.MidRow
import Derived.Great.BuildSlice
import Derived.Laws.CopyRow
import Derived.Laws.Externs
import Derived.Laws.BytesArg
import Derived.Test.YtnjomdjkbbhdoaaDoorProg
import Derived.KernelRfl
import Derived.Lib.BytesEntry
import Derived.Deep.Slices
import Derived.ProofKit
import Derived.SizedLaws
import Derived.Lib.ItoaNum
import Derived.Lib.ItoaLen
import Derived.Maps.Keyed
import Derived.Lib.AppendStr
import Derived.Lib.UnsafeStr
import Derived.Lib.Builder
import Derived.Lib.LaidTab
import Derived.Shelf.Strings.Builder1
import Derived.Shelf.Small.Bits
import Derived.Shelf.Strconv.Itoa0
import Derived.Shelf.Strconv.Itoa1
import Derived.Shelf.LaysM
import Derived.Shelf.Strconv.Itoa2
import Derived.Shelf.Strconv.Itoa3
import Derived.Shelf.Strconv.Itoa4
import Derived.Shelf.Sort.Plain
import Derived.Ground.Names2Prog
import Derived.Shelf.Slices.CompactI
import Derived.Shelf.Slices.SearchI
import Derived.Shelf.Slices.Cells
import Derived.Shelf.Slices.In.SortNone
import Derived.Shelf.Bytes.Small
set_option linter.unusedVariables false
set_option linter.unusedSimpArgs false
set_option linter.unusedSectionVars false
namespace Go.Proofs.YtnjomdjkbbhdoaaDoor
open Go.RowKit
set_option linter.unusedVariables false
set_option linter.unusedSectionVars false
abbrev TL := List (Nat × Value)
def lk : TL → Nat → Option Value
  | [], _ => none
  | p :: r, j => match Nat.beq p.1 j with
    | true => some p.2
    | false => lk r j
theorem Nat.beq_eq_false_of_ne' {i j : Nat} (h : ¬ i = j) : Nat.beq i j = false := by
  cases e : Nat.beq i j with
  | false => rfl
  | true => exact absurd (Nat.eq_of_beq_eq_true e) h
theorem least {p : Nat → Prop} (h : ∃ n, p n) : ∃ n, p n ∧ ∀ m, p m → n ≤ m := by
  obtain ⟨n, hn⟩ := h
  induction n using Nat.strongRecOn with
  | _ n ih =>
    by_cases hm : ∃ m, m < n ∧ p m
    · obtain ⟨m, hlt, hm⟩ := hm; exact ih m hlt hm
    · exact ⟨n, hn, fun m hpm => Nat.le_of_not_lt fun hlt => hm ⟨m, hlt, hpm⟩⟩
theorem lk_cons (i : Nat) (v : Value) (r : TL) (j : Nat) : lk ((i, v) :: r) j = if i = j then some v else lk r j := by
  by_cases h : i = j
  · subst h; simp [lk]
  · have : Nat.beq i j = false := Nat.beq_eq_false_of_ne' h
    simp [lk, this, h]
class DS where
  ds : List Deferred
instance DS.none : DS := ⟨[]⟩
variable [DS]
structure Fr (N : Nat) (L : TL) (a : Act) : Prop where
  df : a.defers = DS.ds
  sz : a.tmps.size = N
  get : ∀ i v, lk L i = some v → a.tmps[i]? = some v
def ev (L : TL) : Operand → Option Value
  | .tmp t => lk L t
  | .const v => some v
  | .global g => some (.pointer (some ⟨g, 0, none⟩))
  | .func f => some (.func (.func f) #[] #[])
theorem Fr.eval {N : Nat} {L : TL} {a : Act} {x : Operand} {v : Value} (h : Fr N L a) (he : ev L x = some v) : a.eval x = v := by
  cases x with
  | tmp t =>
    have := h.get t v he
    simp [Act.eval, Array.getD_eq_getD_getElem?, this]
  | const u => simpa [ev, Act.eval] using he
  | global g => simpa [ev, Act.eval] using he
  | func f => simpa [ev, Act.eval] using he
theorem Fr.put {N : Nat} {L : TL} {a : Act} {d : Nat} (v : Value) (h : Fr N L a) (hd : Nat.blt d N = true) : Fr N ((d, v) :: L) (a.put (some d) v) := by
  have hd' : d < N := by simp [Nat.blt] at hd; omega
  refine ⟨h.df, by simpa [Act.put] using h.sz, fun i u hu => ?_⟩
  rw [lk_cons] at hu
  by_cases e : d = i
  · subst e
    rw [if_pos rfl] at hu
    cases hu
    simp [Act.put, h.sz, hd']
  · rw [if_neg e] at hu
    simp only [Act.put]
    rw [Array.getElem?_setIfInBounds_ne (by omega)]
    exact h.get i u hu
def subL (L L' : TL) : Prop := ∀ i v, lk L' i = some v → lk L i = some v
theorem Fr.sub {N : Nat} {L L' : TL} {a : Act} (h : Fr N L a) (hs : subL L L') : Fr N L' a :=
  ⟨h.df, h.sz, fun i v hv => h.get i v (hs i v hv)⟩
section code
variable {P : Program} {Q : Exit → Act → World → Prop} {N : Nat} {L : TL} {S : World → Prop}
def QW (Q : Exit → Act → World → Prop) (e : Exit) (N : Nat) (L : TL) (S : World → Prop) : Prop := ∀ a w, Fr N L a → S w → Q e a w
def CW (P : Program) (c : Code) (Q : Exit → Act → World → Prop) (N : Nat) (L : TL) (S : World → Prop) : Prop := ∀ a w, Fr N L a → S w → c.wp P Q a w
def OW (P : Program) (l0 : List Oper) (Q : Exit → Act → World → Prop) (l : List Oper) (N : Nat) (L : TL) (S : World → Prop) : Prop :=
  ∀ a w, Fr N L a → S w → wpList P l0.toArray Q l a w
theorem cw_seq {x y : Code} (h : CW P x (Exit.then (y.wp P Q) Q) N L S) : CW P (.seq x y) Q N L S := fun a w hf hs => wp_seq (h a w hf hs)
theorem cw_skip (h : QW Q .normal N L S) : CW P .skip Q N L S := fun a w hf hs => wp_skip (h a w hf hs)
theorem cw_exit {id : Nat} (h : QW Q (.exit id) N L S) : CW P (.exit id) Q N L S := fun a w hf hs => wp_exit (h a w hf hs)
theorem cw_ret (h : QW Q .ret N L S) : CW P .ret Q N L S := fun a w hf hs => wp_ret (h a w hf hs)
theorem cw_block {id : Nat} {c : Code} (h : CW P c (Exit.inBlock id Q) N L S) : CW P (.block id c) Q N L S := fun a w hf hs => wp_block (h a w hf hs)
theorem cw_cond {c : Operand} {x y : Code} {b : Bool} (hc : ev L c = some (.bool b)) (ht : b = true → CW P x Q N L S) (hf : b = false → CW P y Q N L S) :
    CW P (.cond c x y) Q N L S := fun a w hfr hs => wp_cond_split (hfr.eval hc) (fun e => ht e a w hfr hs) (fun e => hf e a w hfr hs)
theorem cw_cond_t {c : Operand} {x y : Code} (hc : ev L c = some (.bool true)) (ht : CW P x Q N L S) : CW P (.cond c x y) Q N L S :=
  fun a w hfr hs => wp_cond_true (hfr.eval hc) (ht a w hfr hs)
theorem cw_cond_f {c : Operand} {x y : Code} (hc : ev L c = some (.bool false)) (ht : CW P y Q N L S) : CW P (.cond c x y) Q N L S :=
  fun a w hfr hs => wp_cond_false (hfr.eval hc) (ht a w hfr hs)
theorem cw_region {id : Nat} {l : List Oper} (h : OW P l Q l N L S) : CW P (.region id l.toArray false) Q N L S := fun a w hf hs => wp_region_lit (h a w hf hs)
theorem cw_ex {α : Type} {T : α → World → Prop} {c : Code} (h : ∀ x, CW P c Q N L (T x)) : CW P c Q N L (fun w => ∃ x, T x w) := fun a w hf ⟨x, hx⟩ => h x a w hf hx
theorem cw_and {p : Prop} {c : Code} (h : p → CW P c Q N L S) : CW P c Q N L (fun w => p ∧ S w) := fun a w hf ⟨hp, hx⟩ => h hp a w hf hx
theorem cw_mono {c : Code} {S' : World → Prop} (hS : ∀ w, S w → S' w) (h : CW P c Q N L S') : CW P c Q N L S := fun a w hf hs => h a w hf (hS w hs)
theorem qw_seq {y : Code} (h : CW P y Q N L S) : QW (Exit.then (y.wp P Q) Q) .normal N L S := h
theorem qw_then_ret {K : Act → World → Prop} (h : QW Q .ret N L S) : QW (Exit.then K Q) .ret N L S := h
theorem qw_then_exit {K : Act → World → Prop} {id : Nat} (h : QW Q (.exit id) N L S) : QW (Exit.then K Q) (.exit id) N L S := h
theorem qw_block_normal {id : Nat} (h : QW Q .normal N L S) : QW (Exit.inBlock id Q) .normal N L S := h
theorem qw_block_ret {id : Nat} (h : QW Q .ret N L S) : QW (Exit.inBlock id Q) .ret N L S := h
theorem qw_block_exit {id : Nat} (h : QW Q .normal N L S) : QW (Exit.inBlock id Q) (.exit id) N L S := fun a w hf hs => by
  simp only [Exit.inBlock, if_true]; exact h a w hf hs
theorem cw_loop {α : Type} {c : Code} (I : α → TL) (T : α → World → Prop) (μ : α → Nat) (x0 : α) (hL : subL L (I x0)) (hS : ∀ w, S w → T x0 w)
    (round : ∀ x, CW P c (Exit.then (fun a w => ∃ y, μ y < μ x ∧ Fr N (I y) a ∧ T y w) Q) N (I x) (T x)) : CW P (.loop c) Q N L S := by
  intro a w hf hs
  classical
  refine wp_loop (fun a w => ∃ x, Fr N (I x) a ∧ T x w)
    (fun a w => if h : ∃ n, ∃ x, μ x = n ∧ Fr N (I x) a ∧ T x w then Classical.choose (least h) else 0) ⟨x0, hf.sub hL, hS w hs⟩ ?_
  rintro a w ⟨x, hx, ht⟩
  have hex : ∃ n, ∃ x, μ x = n ∧ Fr N (I x) a ∧ T x w := ⟨_, x, rfl, hx, ht⟩
  obtain ⟨⟨x, hm, hx, ht⟩, hmin⟩ := Classical.choose_spec (least hex)
  refine wp_mono (round x a w hx ht) ?_
  intro e a' w' h
  cases e with
  | normal =>
    obtain ⟨y, hy, hfy, hty⟩ := h
    refine ⟨⟨y, hfy, hty⟩, ?_⟩
    have hex' : ∃ n, ∃ x, μ x = n ∧ Fr N (I x) a' ∧ T x w' := ⟨_, y, rfl, hfy, hty⟩
    rw [dif_pos hex', dif_pos hex, ← hm]
    exact Nat.lt_of_le_of_lt ((Classical.choose_spec (least hex')).2 _ ⟨y, rfl, hfy, hty⟩) hy
  | _ => exact h
end code
end Go.Proofs.YtnjomdjkbbhdoaaDoor
namespace Go.Proofs.YtnjomdjkbbhdoaaDoor
open Go.RowKit
set_option linter.unusedVariables false
abbrev Hp := Nat → Option Obj
def Imm (σ : Hp) (w : World) : Prop := ∀ b o, σ b = some o → w.heap[b]? = some o
def Le (σ τ : Hp) : Prop := ∀ b o, σ b = some o → τ b = some o
theorem Le.refl (σ : Hp) : Le σ σ := fun _ _ h => h
theorem Le.trans {a b c : Hp} (h : Le a b) (k : Le b c) : Le a c := fun x o e => k x o (h x o e)
structure Ag (M : Nat → Prop) (w w' : World) : Prop where
  os : w'.os = w.os
  tape : w'.tape = w.tape
  output : w'.output = w.output
  size : w.heap.size ≤ w'.heap.size
  block : ∀ k, k < w.heap.size → ¬ M k → w'.heap[k]? = w.heap[k]?
theorem Ag.refl (M : Nat → Prop) (w : World) : Ag M w w := ⟨rfl, rfl, rfl, Nat.le_refl _, fun _ _ _ => rfl⟩
theorem Ag.trans {M : Nat → Prop} {a b c : World} (h : Ag M a b) (k : Ag M b c) : Ag M a c :=
  ⟨k.os.trans h.os, k.tape.trans h.tape, k.output.trans h.output, Nat.le_trans h.size k.size,
    fun i hi hm => (k.block i (Nat.lt_of_lt_of_le hi h.size) hm).trans (h.block i hi hm)⟩
theorem Ag.mono {M M' : Nat → Prop} {a b : World} (h : Ag M a b) (hm : ∀ k, k < a.heap.size → M k → M' k) : Ag M' a b :=
  ⟨h.os, h.tape, h.output, h.size, fun i hi hn => h.block i hi (fun x => hn (hm i hi x))⟩
theorem Ag.of_below {M : Nat → Prop} {w w' : World} (h : Below w.heap.size w w') : Ag M w w' := ⟨h.os, h.tape, h.output, h.size, fun k hk _ => h.block k hk⟩
theorem Ag.below {w w' : World} (h : Ag (fun _ => False) w w') : Below w.heap.size w w' := ⟨h.os, h.tape, h.output, h.size, fun k hk => h.block k hk id⟩
theorem Below.drewB (w : World) : Below w.heap.size w w.drew := (Below.refl _ _).drew
theorem Imm.lt {σ : Hp} {w : World} (h : Imm σ w) {b : Nat} {o : Obj} (e : σ b = some o) : b < w.heap.size :=
  (Array.getElem?_eq_some_iff.1 (h b o e)).1
theorem Imm.ag {σ : Hp} {M : Nat → Prop} {w w' : World} (h : Imm σ w) (ha : Ag M w w') (hm : ∀ b, M b → σ b = none) : Imm σ w' := fun b o e => by
  rw [ha.block b (h.lt e) (fun hb => by rw [hm b hb] at e; cases e)]; exact h b o e
theorem Imm.below {σ : Hp} {w w' : World} (h : Imm σ w) (ha : Below w.heap.size w w') : Imm σ w' := fun b o e => by
  rw [ha.block b (h.lt e)]; exact h b o e
def Own (H : List (Nat × Obj)) (w : World) : Prop := ∀ p ∈ H, w.heap[p.1]? = some p.2
structure St0 (w0 : World) (M : Nat → Prop) (σ : Hp) (H : List (Nat × Obj)) (w : World) : Prop where
  ag : Ag M w0 w
  im : Imm σ w
  ow : Own H w
  dj : ∀ p ∈ H, σ p.1 = none
  mo : ∀ p ∈ H, M p.1 ∨ w0.heap.size ≤ p.1
  nd : (H.map (·.1)).Nodup
class Sta (S : World → Prop) : Prop where
  keep : ∀ w w', S w → Below w.heap.size w w' → S w'
theorem St0.keep {w0 : World} {M : Nat → Prop} {σ : Hp} {H : List (Nat × Obj)} {w w' : World} (h : St0 w0 M σ H w) (hb : Below w.heap.size w w') : St0 w0 M σ H w' :=
  ⟨h.ag.trans (.of_below hb), h.im.below hb, fun p hp => by
    rw [hb.block p.1 (Array.getElem?_eq_some_iff.1 (h.ow p hp)).1]; exact h.ow p hp, h.dj, h.mo, h.nd⟩
instance (w0 : World) : Sta (fun w => Below w0.heap.size w0 w) := ⟨fun w w' h hb => h.trans (hb.mono h.size)⟩
theorem St0.start {M : Nat → Prop} {σ : Hp} {w : World} (h : Imm σ w) : St0 w M σ [] w :=
  ⟨.refl _ _, h, fun _ hp => absurd hp List.not_mem_nil, fun _ hp => absurd hp List.not_mem_nil, fun _ hp => absurd hp List.not_mem_nil, by simp⟩
theorem heap_push_new (w : World) (o : Obj) : (w.alloc o).heap[w.heap.size]? = some o := by
  show (w.heap.push o)[w.heap.size]? = _
  simp
theorem below_alloc1 (w : World) (o : Obj) : Below w.heap.size w (w.alloc o) := (Below.refl _ _).alloc (Nat.le_refl _) o
theorem St0.alloc {w0 : World} {M : Nat → Prop} {σ : Hp} {H : List (Nat × Obj)} {w : World} (h : St0 w0 M σ H w) (o : Obj) :
    St0 w0 M σ ((w.heap.size, o) :: H) (w.alloc o) := by
  have hk := h.keep (below_alloc1 w o)
  refine ⟨hk.ag, hk.im, fun p hp => ?_, fun p hp => ?_, fun p hp => ?_, ?_⟩
  · rcases List.mem_cons.1 hp with rfl | hp
    · exact heap_push_new w o
    · exact hk.ow p hp
  · rcases List.mem_cons.1 hp with rfl | hp
    · cases e : σ w.heap.size with
      | none => rfl
      | some o' => exact absurd (h.im.lt e) (Nat.lt_irrefl _)
    · exact h.dj p hp
  · rcases List.mem_cons.1 hp with rfl | hp
    · exact .inr h.ag.size
    · exact h.mo p hp
  · rw [List.map_cons, List.nodup_cons]
    refine ⟨fun hm => ?_, h.nd⟩
    obtain ⟨p, hp, e⟩ := List.mem_map.1 hm
    have e' : p.1 = w.heap.size := e
    have := (Array.getElem?_eq_some_iff.1 (h.ow p hp)).1
    omega
def World.putBlk (w : World) (b : Nat) (o : Obj) : World := { w with heap := w.heap.setIfInBounds b o }
def setH : List (Nat × Obj) → Nat → Obj → List (Nat × Obj)
  | [], _, _ => []
  | p :: r, 0, o => (p.1, o) :: r
  | p :: r, i + 1, o => p :: setH r i o
theorem setH_keys : ∀ (H : List (Nat × Obj)) (i : Nat) (o : Obj), (setH H i o).map (·.1) = H.map (·.1)
  | [], _, _ => rfl
  | p :: r, 0, o => rfl
  | p :: r, i + 1, o => by simp [setH, setH_keys r i o]
theorem mem_setH : ∀ {H : List (Nat × Obj)} {i : Nat} {o : Obj} {b : Nat} {o' : Obj}, (H.map (·.1)).Nodup → H[i]? = some (b, o') → ∀ {q}, q ∈ setH H i o → q = (b, o) ∨ (q ∈ H ∧ q.1 ≠ b)
  | [], _, _, _, _, _, h, _, _ => by simp at h
  | p :: r, 0, o, b, o', hn, h, q, hq => by
    simp at h; subst h
    simp only [List.map_cons, List.nodup_cons] at hn
    rcases List.mem_cons.1 hq with rfl | hq
    · exact .inl rfl
    · exact .inr ⟨List.mem_cons_of_mem _ hq, fun e => hn.1 (by rw [← e]; exact List.mem_map_of_mem hq)⟩
  | p :: r, i + 1, o, b, o', hn, h, q, hq => by
    simp only [List.map_cons, List.nodup_cons] at hn
    simp at h
    rcases List.mem_cons.1 hq with rfl | hq
    · exact .inr ⟨List.mem_cons_self, fun e => hn.1 (by rw [e]; exact List.mem_map.2 ⟨(b, o'), List.mem_of_getElem? h, rfl⟩)⟩
    · rcases mem_setH hn.2 h hq with h1 | h1
      · exact .inl h1
      · exact .inr ⟨List.mem_cons_of_mem _ h1.1, h1.2⟩
theorem St0.put {w0 : World} {M : Nat → Prop} {σ : Hp} {H : List (Nat × Obj)} {w : World} (h : St0 w0 M σ H w) {i b : Nat} {o' : Obj} (hi : H[i]? = some (b, o')) (o : Obj) :
    St0 w0 M σ (setH H i o) (World.putBlk w b o) := by
  have hm := List.mem_of_getElem? hi
  have hlt := (Array.getElem?_eq_some_iff.1 (h.ow _ hm)).1
  have hlt' : b < w.heap.size := hlt
  have hne : ∀ k, k ≠ b → (World.putBlk w b o).heap[k]? = w.heap[k]? := fun k hk => by
    show (w.heap.setIfInBounds b o)[k]? = _
    rw [Array.getElem?_setIfInBounds_ne (by omega)]
  have hsz : (World.putBlk w b o).heap.size = w.heap.size := by simp [World.putBlk]
  refine ⟨⟨h.ag.os, h.ag.tape, h.ag.output, by rw [hsz]; exact h.ag.size, fun k hk hM => ?_⟩, fun k o2 hk => ?_, fun p hp => ?_, fun p hp => ?_, fun p hp => ?_, by rw [setH_keys]; exact h.nd⟩
  · have : k ≠ b := by
      rintro rfl
      rcases h.mo _ hm with h1 | h1
      · exact hM h1
      · exact absurd hk (Nat.not_lt.2 h1)
    rw [hne k this]; exact h.ag.block k hk hM
  · have : k ≠ b := by rintro rfl; rw [h.dj _ hm] at hk; cases hk
    rw [hne k this]; exact h.im k o2 hk
  · rcases mem_setH h.nd hi hp with rfl | ⟨hp, hb⟩
    · show (w.heap.setIfInBounds b o)[b]? = _
      simp [hlt']
    · rw [hne p.1 hb]; exact h.ow p hp
  · rcases mem_setH h.nd hi hp with rfl | ⟨hp, hb⟩
    · exact h.dj (b, o') hm
    · exact h.dj p hp
  · rcases mem_setH h.nd hi hp with rfl | ⟨hp, hb⟩
    · exact h.mo (b, o') hm
    · exact h.mo p hp
def ext (σ : Hp) (b : Nat) (o : Obj) : Hp := fun k => if k = b then some o else σ k
theorem le_ext {σ : Hp} {b : Nat} {o : Obj} (h : σ b = none) : Le σ (ext σ b o) := fun k o' e => by
  unfold ext
  split
  · rename_i e'; subst e'; rw [h] at e; cases e
  · exact e
theorem ext_self (σ : Hp) (b : Nat) (o : Obj) : ext σ b o b = some o := by simp [ext]
theorem St0.drop {w0 : World} {M : Nat → Prop} {σ : Hp} {H H' : List (Nat × Obj)} {w : World} (h : St0 w0 M σ H w) (hs : H'.Sublist H) : St0 w0 M σ H' w :=
  ⟨h.ag, h.im, fun p hp => h.ow p (hs.subset hp), fun p hp => h.dj p (hs.subset hp), fun p hp => h.mo p (hs.subset hp), (hs.map _).nodup h.nd⟩
theorem St0.freeze {w0 : World} {M : Nat → Prop} {σ : Hp} {H : List (Nat × Obj)} {w : World} {b : Nat} {o : Obj} (h : St0 w0 M σ ((b, o) :: H) w) : St0 w0 M (ext σ b o) H w := by
  have hb := h.ow (b, o) List.mem_cons_self
  have hnd := h.nd
  simp only [List.map_cons, List.nodup_cons] at hnd
  refine ⟨h.ag, fun k o' e => ?_, fun p hp => h.ow p (List.mem_cons_of_mem _ hp), fun p hp => ?_, fun p hp => h.mo p (List.mem_cons_of_mem _ hp), hnd.2⟩
  · unfold ext at e
    split at e
    · rename_i hk; subst hk; cases e; exact hb
    · exact h.im k o' e
  · unfold ext
    rw [if_neg (fun e => hnd.1 (by rw [← e]; exact List.mem_map_of_mem hp))]
    exact h.dj p (List.mem_cons_of_mem _ hp)
def St (w0 : World) (M : Nat → Prop) (σ : Hp) (H G : List (Nat × Obj)) (w : World) : Prop := St0 w0 M σ (H ++ G) w
section
variable {w0 w w' : World} {M : Nat → Prop} {σ : Hp} {H G : List (Nat × Obj)}
theorem St.ag (h : St w0 M σ H G w) : Ag M w0 w := St0.ag h
theorem St.im (h : St w0 M σ H G w) : Imm σ w := St0.im h
theorem St.own (h : St w0 M σ H G w) {p : Nat × Obj} (hp : p ∈ H) : w.heap[p.1]? = some p.2 := St0.ow h p (List.mem_append_left _ hp)
theorem St.ownG (h : St w0 M σ H G w) {p : Nat × Obj} (hp : p ∈ G) : w.heap[p.1]? = some p.2 := St0.ow h p (List.mem_append_right _ hp)
theorem St.keep (h : St w0 M σ H G w) (hb : Below w.heap.size w w') : St w0 M σ H G w' := St0.keep h hb
instance (w0 : World) (M : Nat → Prop) (σ : Hp) (H G : List (Nat × Obj)) : Sta (St w0 M σ H G) := ⟨fun _ _ h hb => h.keep hb⟩
theorem St.start (h : Imm σ w) : St w M σ [] [] w := St0.start h
theorem St.alloc (h : St w0 M σ H G w) (o : Obj) : St w0 M σ ((w.heap.size, o) :: H) G (w.alloc o) := St0.alloc h o
theorem setH_app : ∀ (H G : List (Nat × Obj)) (i : Nat) (o : Obj), i < H.length → setH (H ++ G) i o = setH H i o ++ G
  | [], _, _, _, h => absurd h (Nat.not_lt_zero _)
  | p :: r, G, 0, o, _ => rfl
  | p :: r, G, i + 1, o, h => by simp [setH, setH_app r G i o (by simpa using h)]
theorem setH_appG : ∀ (H G : List (Nat × Obj)) (i : Nat) (o : Obj), setH (H ++ G) (H.length + i) o = H ++ setH G i o
  | [], G, i, o => by simp
  | p :: r, G, i, o => by
    rw [List.cons_append, List.length_cons, show r.length + 1 + i = (r.length + i) + 1 by omega]
    simp [setH, setH_appG r G i o]
theorem St.put (h : St w0 M σ H G w) {i b : Nat} {o' : Obj} (hi : H[i]? = some (b, o')) (o : Obj) : St w0 M σ (setH H i o) G (World.putBlk w b o) := by
  have hlt : i < H.length := (List.getElem?_eq_some_iff.1 hi).1
  have := St0.put (i := i) h (show (H ++ G)[i]? = some (b, o') by rw [List.getElem?_append_left hlt]; exact hi) o
  rwa [setH_app H G i o hlt] at this
theorem St.putG (h : St w0 M σ H G w) {i b : Nat} {o' : Obj} (hi : G[i]? = some (b, o')) (o : Obj) : St w0 M σ H (setH G i o) (World.putBlk w b o) := by
  have := St0.put (i := H.length + i) h (show (H ++ G)[H.length + i]? = some (b, o') by rw [List.getElem?_append_right (by omega)]; simpa using hi) o
  rwa [setH_appG H G i o] at this
theorem St.drop (h : St w0 M σ H G w) {H' : List (Nat × Obj)} (hs : H'.Sublist H) : St w0 M σ H' G w := St0.drop h (hs.append (List.Sublist.refl G))
theorem St.dropG (h : St w0 M σ H G w) {G' : List (Nat × Obj)} (hs : G'.Sublist G) : St w0 M σ H G' w := St0.drop h ((List.Sublist.refl H).append hs)
theorem St.freeze {b : Nat} {o : Obj} (h : St w0 M σ ((b, o) :: H) G w) : St w0 M (ext σ b o) H G w := St0.freeze h
theorem St0.perm {w0 w : World} {M : Nat → Prop} {σ : Hp} {H H' : List (Nat × Obj)} (h : St0 w0 M σ H w) (hp : H'.Perm H) : St0 w0 M σ H' w :=
  ⟨h.ag, h.im, fun p hm => h.ow p (hp.mem_iff.1 hm), fun p hm => h.dj p (hp.mem_iff.1 hm), fun p hm => h.mo p (hp.mem_iff.1 hm), (hp.map _).nodup_iff.2 h.nd⟩
theorem St.ofG {p : Nat × Obj} (h : St w0 M σ H (p :: G) w) : St w0 M σ (p :: H) G w := St0.perm h (by
  rw [List.cons_append]; exact (List.perm_middle).symm)
theorem St.toG {p : Nat × Obj} (h : St w0 M σ (p :: H) G w) : St w0 M σ H (p :: G) w := St0.perm h (by
  rw [List.cons_append]; exact List.perm_middle)
theorem St.fresh (h : St w0 M σ H G w) {p : Nat × Obj} (hp : p ∈ H ++ G) : σ p.1 = none := St0.dj h p hp
theorem St.lt (h : St w0 M σ H G w) {p : Nat × Obj} (hp : p ∈ H ++ G) : p.1 < w.heap.size := (Array.getElem?_eq_some_iff.1 (St0.ow h p hp)).1
theorem St.le {τ : Hp} (h : St w0 M σ H G w) (hi : Imm τ w) (hn : ∀ p ∈ H ++ G, τ p.1 = none) : St w0 M τ H G w := ⟨h.ag, hi, St0.ow h, hn, St0.mo h, St0.nd h⟩
end
theorem Imm.ext {σ : Hp} {w : World} (h : Imm σ w) {b : Nat} {o : Obj} (hb : w.heap[b]? = some o) : Imm (ext σ b o) w := fun k o' e => by
  unfold Go.Proofs.YtnjomdjkbbhdoaaDoor.ext at e
  split at e
  · rename_i hk; subst hk; cases e; exact hb
  · exact h k o' e
def join (σ τ : Hp) : Hp := fun k => (σ k).or (τ k)
theorem le_join (σ τ : Hp) : Le σ (join σ τ) := fun k o e => by simp [join, e]
theorem le_join' {σ τ : Hp} {w : World} (h : Imm σ w) (k : Imm τ w) : Le τ (join σ τ) := fun b o e => by
  unfold join
  cases hs : σ b with
  | none => simpa using e
  | some o' =>
    have h1 := h b o' hs
    have h2 := k b o e
    rw [h1] at h2
    cases h2
    rfl
theorem Imm.join {σ τ : Hp} {w : World} (h : Imm σ w) (k : Imm τ w) : Imm (join σ τ) w := fun b o e => by
  unfold Go.Proofs.YtnjomdjkbbhdoaaDoor.join at e
  cases hs : σ b with
  | none => rw [hs] at e; exact k b o (by simpa using e)
  | some o' => rw [hs] at e; simp at e; subst e; exact h b _ hs
class RowT (P : Program) (ty : TypeId) (k : outParam Nat) : Prop where
  ok : ∃ d, P.underlying ty = some d ∧ d.isRow = true ∧ (P.info? ty).map (·.size) = some k
class OneT (P : Program) (ty : TypeId) : Prop where
  ok : ∃ d, P.underlying ty = some d ∧ d.isRow = false ∧ (P.info? ty).map (·.size) = some 1
class SlT (P : Program) (t : TypeId) (e k : outParam Nat) : Prop where
  ok : P.underlying t = some (.slice e) ∧ (P.info? e).map (·.size) = some k
class FldT (P : Program) (s f : Nat) (off : outParam Nat) : Prop where
  ok : ∃ fs fd, P.underlying s = some (.struct fs) ∧ fs[f]? = some fd ∧ fd.offset = off ∧ ((P.info? fd.type).map (·.size)).any (· != 0) = true
class FnT (P : Program) (f : FuncId) : Prop where
  ok : ∃ fn, P.funcs[f]? = some fn ∧ (fn.name == "runtime.NumGoroutine") = false ∧ fn.body.isNone = false
class ZeroT (P : Program) (ty : TypeId) (z : outParam Value) : Prop where
  ok : (P.info? ty).bind (·.zero) = some z
class StrT (P : Program) (ty : TypeId) : Prop where
  ok : P.underlying ty = some .string
class MapT (P : Program) (t : TypeId) (k e : outParam Nat) : Prop where
  ok : P.underlying t = some (.map k e) ∧ P.underlying k = some .string ∧ (P.info? e).bind (·.zero) = some (.int .i64 0)
class MixT (P : Program) : Prop where
  ok : P.follows .mixedOrders = true
theorem run_isAgg_not {P : Program} {ty : TypeId} {d : TypeDesc} (h : P.underlying ty = some d) (hd : d.isRow = false) (w : World) : (isAgg ty).run P w = .ok false w := by
  unfold isAgg
  rw [Sem.run_bind, run_underlying h w]
  cases d <;> simp_all
theorem run_loadAt_one {P : Program} {ty : TypeId} [h : OneT P ty] {w : World} {a : Addr} {v : Value} (hc : w.cell? a = some v) :
    (Instr.loadAt ty (.pointer (some a))).run P w = .ok v w := by
  obtain ⟨d, h1, h2, _⟩ := h.ok
  simp [Instr.loadAt, Instr.sureAddr, loadVar, Sem.run_bind, run_isAgg_not h1 h2 w, run_load, hc]
theorem run_loadAt_row {P : Program} {ty : TypeId} {k : Nat} [h : RowT P ty k] {w : World} {b o : Nat} {cs : List Value} (hl : cs.length = k) (hc : w.rangeAt b o cs) :
    (Instr.loadAt ty (.pointer (some ⟨b, o, none⟩))).run P w = .ok (.agg cs.toArray) w := by
  obtain ⟨d, h1, h2, h3⟩ := h.ok
  exact run_loadAt_mid w b o ty cs d hc h1 h2 (by rw [h3, hl])
theorem run_fieldAt_of {P : Program} {s f off : Nat} [h : FldT P s f off] {w : World} {a : Addr} :
    (Instr.fieldAt s (.pointer (some a)) f).run P w = .ok (.pointer (some (a.add off))) w := by
  obtain ⟨fs, fd, h1, h2, h3, h4⟩ := h.ok
  subst h3
  cases hi : P.info? fd.type with
  | none => simp [hi] at h4
  | some i =>
    have : i.size ≠ 0 := by simpa [hi] using h4
    simp [Instr.fieldAt, run_underlying h1, h2, Instr.sureAddr, fieldPlace, sizeOf, typeInfo, hi, this]
theorem run_indexAt_of {P : Program} {t e k : Nat} [h : SlT P t e k] {w : World} {a : Addr} {n c : Nat} {ik : IntKind} {i : Int} (h0 : 0 ≤ i) (h1 : i < n) :
    (Instr.indexAt t (.slice (some a) n c) (.int ik i)).run P w = .ok (.pointer (some (a.add (i.toNat * k)))) w := by
  obtain ⟨hu, hs⟩ := h.ok
  cases hi : P.info? e with
  | none => simp [hi] at hs
  | some ie =>
    have : ie.size = k := by simpa [hi] using hs
    simp [Instr.indexAt, run_underlying hu, asIntOf, h0, h1, sizeOf, typeInfo, hi, this]
def CellsAt (σ : Hp) (b o : Nat) (cs : List Value) : Prop := ∃ arr ty fz, σ b = some (.cells arr ty fz) ∧ ∀ j v, cs[j]? = some v → arr[o + j]? = some v
theorem CellsAt.le {σ τ : Hp} (h : Le σ τ) {b o : Nat} {cs : List Value} (hc : CellsAt σ b o cs) : CellsAt τ b o cs := by
  obtain ⟨arr, ty, fz, h1, h2⟩ := hc
  exact ⟨arr, ty, fz, h b _ h1, h2⟩
theorem cell_of_blk {w : World} {b o : Nat} {arr : Array Value} {ty : TypeId} {fz : Nat × Nat} (h : w.heap[b]? = some (.cells arr ty fz)) : w.cell? ⟨b, o, none⟩ = arr[o]? := by
  simp [World.cell?, h]
theorem CellsAt.range {σ : Hp} {w : World} (hi : Imm σ w) {b o : Nat} {cs : List Value} (hc : CellsAt σ b o cs) : w.rangeAt b o cs := by
  obtain ⟨arr, ty, fz, h1, h2⟩ := hc
  exact fun j v hv => by rw [cell_of_blk (hi b _ h1)]; exact h2 j v hv
theorem CellsAt.cell {σ : Hp} {w : World} (hi : Imm σ w) {b o : Nat} {v : Value} (hc : CellsAt σ b o [v]) : w.cell? ⟨b, o, none⟩ = some v :=
  hc.range hi 0 v rfl
theorem addr_add (b o n : Nat) : (⟨b, o, none⟩ : Addr).add n = ⟨b, o + n, none⟩ := Addr.add_mid b o n
end Go.Proofs.YtnjomdjkbbhdoaaDoor
namespace Go.Proofs.YtnjomdjkbbhdoaaDoor
open Go.RowKit
variable [DS]
set_option linter.unusedVariables false
set_option linter.unusedSectionVars false
class CmpT (P : Program) (f : FuncId) : Prop where
  ok : ∃ fn, P.funcs[f]? = some fn ∧ (fn.name == "runtime.NumGoroutine") = false ∧ fn.body.isNone = true ∧ Extern.findNext fn = none ∧ Extern.find fn = some Extern.BytealgCompare.compare
def nth : List Oper → Nat → Option Nat
  | [], _ => none
  | o :: _, 0 => o.dst
  | _ :: r, n + 1 => nth r n
theorem nth_eq : ∀ (l : List Oper) (j : Nat), nth l j = (l.toArray[j]?).bind (·.dst)
  | [], j => by simp [nth]
  | o :: r, 0 => by simp [nth]
  | o :: r, n + 1 => by rw [nth, nth_eq r n]; simp
def gd (l0 : List Oper) (L : TL) : Option (Nat × Bool) → Option Bool
  | none => some true
  | some (j, want) => match nth l0 j with
    | some d => match lk L d with
      | some (.bool b) => some (b == want)
      | some (.tuple _) => some false
      | _ => none
    | none => none
theorem wanted_of {l0 : List Oper} {N : Nat} {L : TL} {a : Act} {o : Oper} {b : Bool} (hf : Fr N L a) (hg : gd l0 L o.guard = some b) :
    Region.wanted o (yielded l0.toArray a.tmps) = b := by
  unfold Region.wanted
  cases hgu : o.guard with
  | none => rw [hgu] at hg; simp [gd] at hg; simp [hg]
  | some p =>
    obtain ⟨j, want⟩ := p
    rw [hgu] at hg
    simp only [gd] at hg
    cases hn : nth l0 j with
    | none => simp [hn] at hg
    | some d =>
      rw [hn] at hg
      simp only at hg
      cases hl : lk L d with
      | none => simp [hl] at hg
      | some v =>
        rw [hl] at hg
        have ht := hf.get d v hl
        rw [nth_eq] at hn
        cases v <;> simp at hg
        · rename_i b'
          simp only [yielded, hn, Option.bind_some, ht]
          rw [← hg]
          cases b' <;> cases want <;> rfl
        · simp only [yielded, hn, Option.bind_some, ht]
          rw [hg]
          rfl
def Ex (P : Program) (op : Op) (N : Nat) (L : TL) (S : World → Prop) (v : Value) : Prop :=
  ∀ a w, Fr N L a → S w → ∀ d ty pos af g, (execOp a.eval ⟨d, op, ty, pos, af, g⟩).run P w = .ok (.value v) w
def ExW (P : Program) (op : Op) (N : Nat) (L : TL) (S : World → Prop) (T : Value → World → Prop) : Prop :=
  ∀ a w, Fr N L a → S w → ∀ d ty pos af g, ∃ v w', (execOp a.eval ⟨d, op, ty, pos, af, g⟩).run P w = .ok (.value v) w' ∧ T v w'
def ExU (P : Program) (op : Op) (N : Nat) (L : TL) (S : World → Prop) (T : World → Prop) : Prop :=
  ∀ a w, Fr N L a → S w → ∀ d ty pos af g, ∃ w', (execOp a.eval ⟨d, op, ty, pos, af, g⟩).run P w = .ok .skip w' ∧ T w'
def ExC (P : Program) (op : Op) (N : Nat) (L : TL) (S : World → Prop) (T : World → Value → World → Prop) : Prop :=
  ∀ a w, Fr N L a → S w → ∀ d ty pos af g, ∃ f args, (execOp a.eval ⟨d, op, ty, pos, af, g⟩).run P w = .ok (.enter f args) w ∧
    Calls P f args w fun e w' => ∃ v, e = .returned v ∧ T w v w'
section seq
variable {P : Program} {l0 : List Oper} {Q : Exit → Act → World → Prop} {rest : List Oper} {N : Nat} {L : TL} {S : World → Prop} {d : Nat} {ty : TypeId} {pos : String}
  {af : Array Edge} {g : Option (Nat × Bool)} {op : Op}
theorem ow_nil (h : QW Q .normal N L S) : OW P l0 Q [] N L S := fun a w hf hs => h a w hf hs
theorem ow_step {o : Oper} (hg : gd l0 L o.guard = some true) (h : ∀ a w, Fr N L a → S w → o.wp P a w (wpList P l0.toArray Q rest) Q) : OW P l0 Q (o :: rest) N L S :=
  fun a w hf hs => by
    unfold wpList
    rw [if_pos (wanted_of hf hg)]
    exact .inl (h a w hf hs)
theorem ow_skip (hN : Nat.blt d N = true) (hg : gd l0 L g = some false) (k : OW P l0 Q rest N ((d, undef) :: L) S) : OW P l0 Q (⟨some d, op, ty, pos, af, g⟩ :: rest) N L S :=
  fun a w hf hs => by
    unfold wpList
    rw [if_neg (by rw [wanted_of hf hg]; simp)]
    exact k _ _ (hf.put _ hN) hs
theorem ow_val {v : Value} (hN : Nat.blt d N = true) (hg : gd l0 L g = some true) (h : Ex P op N L S v) (k : OW P l0 Q rest N ((d, v) :: L) S) :
    OW P l0 Q (⟨some d, op, ty, pos, af, g⟩ :: rest) N L S :=
  ow_step hg fun a w hf hs => by
    unfold Oper.wp
    rw [h a w hf hs]
    exact k _ _ (hf.put _ hN) hs
theorem ow_w {T : Value → World → Prop} (hN : Nat.blt d N = true) (hg : gd l0 L g = some true) (h : ExW P op N L S T) (k : ∀ v, OW P l0 Q rest N ((d, v) :: L) (T v)) :
    OW P l0 Q (⟨some d, op, ty, pos, af, g⟩ :: rest) N L S :=
  ow_step hg fun a w hf hs => by
    unfold Oper.wp
    obtain ⟨v, w', h1, h2⟩ := h a w hf hs (some d) ty pos af g
    rw [h1]
    exact k v _ _ (hf.put _ hN) h2
theorem ow_u {T : World → Prop} (hg : gd l0 L g = some true) (h : ExU P op N L S T) (k : OW P l0 Q rest N L T) :
    OW P l0 Q (⟨none, op, ty, pos, af, g⟩ :: rest) N L S :=
  ow_step hg fun a w hf hs => by
    unfold Oper.wp
    obtain ⟨w', h1, h2⟩ := h a w hf hs none ty pos af g
    rw [h1]
    exact k _ _ hf h2
theorem ow_c {T : World → Value → World → Prop} (hN : Nat.blt d N = true) (hg : gd l0 L g = some true) (h : ExC P op N L S T)
    (k : ∀ v, OW P l0 Q rest N ((d, v) :: L) (fun w' => ∃ w, S w ∧ T w v w')) : OW P l0 Q (⟨some d, op, ty, pos, af, g⟩ :: rest) N L S :=
  ow_step hg fun a w hf hs => by
    unfold Oper.wp
    obtain ⟨f, args, h1, h2⟩ := h a w hf hs (some d) ty pos af g
    rw [h1]
    refine Calls.mono h2 ?_
    rintro e w' ⟨v, rfl, hT⟩
    exact k v _ _ (hf.put _ hN) ⟨w, hs, hT⟩
theorem ow_cv {v : Value} [hS : Sta S] (hN : Nat.blt d N = true) (hg : gd l0 L g = some true) (h : ExC P op N L S (fun w u w' => u = v ∧ Below w.heap.size w w'))
    (k : OW P l0 Q rest N ((d, v) :: L) S) : OW P l0 Q (⟨some d, op, ty, pos, af, g⟩ :: rest) N L S :=
  ow_c hN hg h fun u a w' hf ⟨w, hs, hu, hb⟩ => by
    subst hu
    exact k a w' hf (hS.keep w w' hs hb)
theorem ow_mono {l : List Oper} {S' : World → Prop} (hS : ∀ w, S w → S' w) (h : OW P l0 Q l N L S') : OW P l0 Q l N L S := fun a w hf hs => h a w hf (hS w hs)
end seq
section ops
variable {P : Program} {N : Nat} {L : TL} {S : World → Prop}
theorem ex_move {x : Operand} {v : Value} (h : ev L x = some v) : Ex P (.move x) N L S v := fun a w hf hs d ty pos af g => by
  simp [execOp, hf.eval h]
theorem ex_assign {x : Operand} {v : Value} (h : ev L x = some v) : Ex P (.assign x) N L S v := fun a w hf hs d ty pos af g => by
  simp [execOp, hf.eval h]
theorem ex_pick_t {c x y : Operand} {v : Value} (hc : ev L c = some (.bool true)) (h : ev L x = some v) : Ex P (.pick c x y) N L S v := fun a w hf hs d ty pos af g => by
  simp [execOp, hf.eval hc, hf.eval h, asBool]
theorem ex_pick_f {c x y : Operand} {v : Value} (hc : ev L c = some (.bool false)) (h : ev L y = some v) : Ex P (.pick c x y) N L S v := fun a w hf hs d ty pos af g => by
  simp [execOp, hf.eval hc, hf.eval h, asBool]
theorem ex_field {s f off b o : Nat} {x : Operand} [FldT P s f off] (h : ev L x = some (.pointer (some ⟨b, o, none⟩))) :
    Ex P (.fieldAddr s x f) N L S (.pointer (some ⟨b, o + off, none⟩)) := fun a w hf hs d ty pos af g => by
  simp [execOp, hf.eval h, run_fieldAt_of, addr_add]
theorem ex_index {t e k b o n c : Nat} {x y : Operand} {ik : IntKind} {i : Int} [SlT P t e k] (h : ev L x = some (.slice (some ⟨b, o, none⟩) n c)) (hy : ev L y = some (.int ik i))
    (h0 : 0 ≤ i) (h1 : i < n) : Ex P (.indexAddr t x y) N L S (.pointer (some ⟨b, o + i.toNat * k, none⟩)) := fun a w hf hs d ty pos af g => by
  simp [execOp, hf.eval h, hf.eval hy, run_indexAt_of h0 h1, addr_add]
theorem ex_index_nat {t e k b o n c : Nat} {x y : Operand} {ik : IntKind} {i : Nat} [SlT P t e k] (h : ev L x = some (.slice (some ⟨b, o, none⟩) n c)) (hy : ev L y = some (.int ik (i : Int)))
    (h1 : i < n) : Ex P (.indexAddr t x y) N L S (.pointer (some ⟨b, o + i * k, none⟩)) := by
  have := ex_index (P := P) (t := t) (N := N) (S := S) h hy (by omega) (by omega)
  simpa using this
theorem ex_load1 {ty b o : Nat} {x : Operand} {v : Value} [OneT P ty] (h : ev L x = some (.pointer (some ⟨b, o, none⟩))) (hc : ∀ w, S w → w.cell? ⟨b, o, none⟩ = some v) :
    Ex P (.load ty x) N L S v := fun a w hf hs d t pos af g => by
  simp [execOp, hf.eval h, run_loadAt_one (hc w hs)]
theorem ex_loadN {ty b o k : Nat} {x : Operand} {cs : List Value} [RowT P ty k] (h : ev L x = some (.pointer (some ⟨b, o, none⟩))) (hl : cs.length = k) (hc : ∀ w, S w → w.rangeAt b o cs) :
    Ex P (.load ty x) N L S (.agg cs.toArray) := fun a w hf hs d t pos af g => by
  simp [execOp, hf.eval h, run_loadAt_row hl (hc w hs)]
theorem ex_len {t ty : TypeId} {p : Option Addr} {n c e k : Nat} {x : Operand} [hs : SlT P t e k] (h : ev L x = some (.slice p n c)) :
    Ex P (.call { callee := .builtin .len, args := #[x], argTypes := #[t] }) N L S (.int .i64 (n : Int)) := fun a w hf _ d ty pos af g => by
  simp [execOp, resolve, invoke, builtin, Builtin.len_, hf.eval h, run_underlying hs.ok.1, goInt]
theorem ex_lenstr {t ty : TypeId} {s : ByteArray} {x : Operand} [hs : StrT P t] (h : ev L x = some (.string s)) :
    Ex P (.call { callee := .builtin .len, args := #[x], argTypes := #[t] }) N L S (.int .i64 (s.size : Int)) := fun a w hf _ d ty pos af g => by
  simp [execOp, resolve, invoke, builtin, Builtin.len_, hf.eval h, run_underlying hs.ok, goInt]
theorem ex_extract {x : Operand} {vs : List Value} {v : Value} {i : Nat} (h : ev L x = some (.tuple vs.toArray)) (hi : vs[i]? = some v) : Ex P (.extract x i) N L S v := fun a w hf hs d ty pos af g => by
  simp [execOp, hf.eval h, Instr.extract, hi]
theorem ex_not {t : TypeId} {x : Operand} {b : Bool} (h : ev L x = some (.bool b)) : Ex P (.unOp .not t x) N L S (.bool !b) := fun a w hf hs d ty pos af g => by
  simp [execOp, hf.eval h, Op.unary]
theorem ex_makeFunc {fn : Fn} {first caps : Array Operand} {fs cs : List Value} (h1 : first.toList.mapM (ev L) = some fs) (h2 : caps.toList.mapM (ev L) = some cs) :
    Ex P (.makeFunc fn first caps) N L S (.func fn fs.toArray cs.toArray) := fun a w hf hs d ty pos af g => by
  have key : ∀ (l : List Operand) (vs : List Value), l.mapM (ev L) = some vs → l.map a.eval = vs := by
    intro l
    induction l with
    | nil => intro vs h; simp at h; simp [h]
    | cons x r ih =>
      intro vs h
      simp only [List.mapM_cons, Option.bind_eq_bind, Option.pure_def, Option.bind_eq_some_iff] at h
      obtain ⟨v, hv, vs', hvs, e⟩ := h
      cases e
      simp [hf.eval hv, ih vs' hvs]
  have e1 : first.map a.eval = fs.toArray := by apply Array.toList_inj.1; simpa using key _ _ h1
  have e2 : caps.map a.eval = cs.toArray := by apply Array.toList_inj.1; simpa using key _ _ h2
  simp [execOp, Instr.makeFunc, e1, e2]
section ints
variable {t u : TypeId} {x y : Operand} {k : IntKind} {m n : Int}
theorem ex_bin (op : BinOp) {v : Value} (hx : ev L x = some (.int k m)) (hy : ev L y = some (.int k n)) (h : ∀ w, (binOp op t (.int k m) (.int k n)).run P w = .ok v w) :
    Ex P (.binOp op t x y u) N L S v := fun a w hf hs d ty pos af g => by
  have he : ∀ w, (eqGuard op t x y (.int k m) (.int k n)).run P w = .ok () w := fun w => by cases op <;> simp [eqGuard]
  simp [execOp, hf.eval hx, hf.eval hy, he, h]
theorem ex_lss (hx : ev L x = some (.int k m)) (hy : ev L y = some (.int k n)) : Ex P (.binOp .lss t x y u) N L S (.bool (decide (m < n))) := ex_bin .lss hx hy fun w => by simp [binOp, Op.intCmp]
theorem ex_leq (hx : ev L x = some (.int k m)) (hy : ev L y = some (.int k n)) : Ex P (.binOp .leq t x y u) N L S (.bool (decide (m ≤ n))) := ex_bin .leq hx hy fun w => by simp [binOp, Op.intCmp]
theorem ex_gtr (hx : ev L x = some (.int k m)) (hy : ev L y = some (.int k n)) : Ex P (.binOp .gtr t x y u) N L S (.bool (decide (n < m))) := ex_bin .gtr hx hy fun w => by simp [binOp, Op.intCmp]
theorem ex_geq (hx : ev L x = some (.int k m)) (hy : ev L y = some (.int k n)) : Ex P (.binOp .geq t x y u) N L S (.bool (decide (n ≤ m))) := ex_bin .geq hx hy fun w => by simp [binOp, Op.intCmp]
theorem ex_eql (hx : ev L x = some (.int k m)) (hy : ev L y = some (.int k n)) : Ex P (.binOp .eql t x y u) N L S (.bool (decide (m = n))) := ex_bin .eql hx hy fun w => by
  simp [binOp, Op.intCmp]; by_cases h : m = n <;> simp [h]
theorem ex_neq (hx : ev L x = some (.int k m)) (hy : ev L y = some (.int k n)) : Ex P (.binOp .neq t x y u) N L S (.bool (decide (m ≠ n))) := ex_bin .neq hx hy fun w => by
  simp [binOp, Op.intCmp]; by_cases h : m = n <;> simp [h]
theorem ex_add (hx : ev L x = some (.int k m)) (hy : ev L y = some (.int k n)) : Ex P (.binOp .add t x y u) N L S (.int k (k.wrap (m + n))) := ex_bin .add hx hy fun w => by simp [binOp, Op.intArith]
theorem ex_sub (hx : ev L x = some (.int k m)) (hy : ev L y = some (.int k n)) : Ex P (.binOp .sub t x y u) N L S (.int k (k.wrap (m - n))) := ex_bin .sub hx hy fun w => by simp [binOp, Op.intArith]
theorem i64_of {z : Int} (h0 : -9223372036854775808 ≤ z) (h1 : z ≤ 9223372036854775807) : IntKind.i64.wrap z = z := by
  exact IntWalk.i64_in _ ⟨h0, h1⟩
theorem ex_addi {z : Int} (hx : ev L x = some (.int .i64 m)) (hy : ev L y = some (.int .i64 n)) (hz : m + n = z) (h0 : -9223372036854775808 ≤ z) (h1 : z ≤ 9223372036854775807) :
    Ex P (.binOp .add t x y u) N L S (.int .i64 z) := by subst hz; have := ex_add (P := P) (N := N) (S := S) (t := t) (u := u) hx hy; rwa [i64_of h0 h1] at this
theorem ex_subi {z : Int} (hx : ev L x = some (.int .i64 m)) (hy : ev L y = some (.int .i64 n)) (hz : m - n = z) (h0 : -9223372036854775808 ≤ z) (h1 : z ≤ 9223372036854775807) :
    Ex P (.binOp .sub t x y u) N L S (.int .i64 z) := by subst hz; have := ex_sub (P := P) (N := N) (S := S) (t := t) (u := u) hx hy; rwa [i64_of h0 h1] at this
end ints
class BoolT (P : Program) (ty : TypeId) : Prop where
  ok : P.underlying ty = some .bool
theorem ex_eqlb {t u : TypeId} {x y : Operand} {b c : Bool} [h : BoolT P t] (hx : ev L x = some (.bool b)) (hy : ev L y = some (.bool c)) :
    Ex P (.binOp .eql t x y u) N L S (.bool (b == c)) := fun a w hf hs d ty pos af g => by
  have he : ∀ w, (eqGuard .eql t x y (.bool b) (.bool c)).run P w = .ok () w := fun w => by simp [eqGuard]
  simp [execOp, hf.eval hx, hf.eval hy, he, run_eql_bool _ t b c h.ok]
def evs (L : TL) : List Operand → Option (List Value)
  | [] => some []
  | x :: r => match ev L x with
    | some v => match evs L r with
      | some vs => some (v :: vs)
      | none => none
    | none => none
theorem evs_map {a : Act} (hf : Fr N L a) : ∀ (l : List Operand) (vs : List Value), evs L l = some vs → l.map a.eval = vs
  | [], vs, h => by simp [evs] at h; simp [h]
  | x :: r, vs, h => by
    simp only [evs] at h
    cases hx : ev L x with
    | none => simp [hx] at h
    | some v =>
      cases hr : evs L r with
      | none => simp [hx, hr] at h
      | some us =>
        simp [hx, hr] at h
        subst h
        simp [hf.eval hx, evs_map hf r us hr]
theorem ex_call {f : FuncId} {fo : Operand} {args : List Operand} {ats : Array TypeId} {vs cs : List Value} {T : World → Value → World → Prop} [h : FnT P f]
    (hfo : ev L fo = some (.func (.func f) #[] cs.toArray)) (ha : evs L args = some vs)
    (hc : ∀ w, S w → Calls P f (vs ++ cs).toArray w fun e w' => ∃ v, e = .returned v ∧ T w v w') :
    ExC P (.call { callee := .value fo, args := args.toArray, argTypes := ats }) N L S T := fun a w hf hs d ty pos af g => by
  obtain ⟨fn, h1, h2, h3⟩ := h.ok
  have e : args.map a.eval = vs := evs_map hf _ _ ha
  refine ⟨f, (vs ++ cs).toArray, ?_, hc w hs⟩
  have h2' : ¬ fn.name = "runtime.NumGoroutine" := by simpa using h2
  have h3' : ¬ fn.body = none := fun e0 => by rw [e0] at h3; cases h3
  simp [execOp, resolve, hf.eval hfo, Deferred.ofValue, invoke, callFunc, h1, h2', h3', e]
theorem ex_callf {f : FuncId} {args : List Operand} {ats : Array TypeId} {vs : List Value} {T : World → Value → World → Prop} [h : FnT P f]
    (ha : evs L args = some vs) (hc : ∀ w, S w → Calls P f vs.toArray w fun e w' => ∃ v, e = .returned v ∧ T w v w') :
    ExC P (.call { callee := .value (.func f), args := args.toArray, argTypes := ats }) N L S T :=
  ex_call (cs := []) rfl ha (by simpa using hc)
theorem callB {f : FuncId} {args : Array Value} {w : World} {v : Value} (h : Calls P f args w fun e w' => e = .returned v ∧ Below w.heap.size w w') :
    Calls P f args w fun e w' => ∃ u, e = .returned u ∧ u = v ∧ Below w.heap.size w w' := h.mono fun _ _ ⟨he, hb⟩ => ⟨v, he, rfl, hb⟩
section blocks
variable {w0 : World} {M : Nat → Prop} {σ : Hp} {H G : List (Nat × Obj)}
theorem exw_box {ty : TypeId} {x : Operand} {v : Value} (h : ev L x = some v) :
    ExW P (.box ty x) N L (St w0 M σ H G) (fun u w => ∃ b, u = .pointer (some ⟨b, 0, none⟩) ∧ St w0 M σ ((b, .cells v.cells ty) :: H) G w) := fun a w hf hs d t pos af g =>
  ⟨.pointer (some ⟨w.heap.size, 0, none⟩), w.alloc (.cells v.cells ty), by simp [execOp, hf.eval h, Instr.box, newVar, newRow], _, rfl, hs.alloc _⟩
theorem exw_alloc {ty : TypeId} {z : Value} [hz : ZeroT P ty z] :
    ExW P (.alloc ty) N L (St w0 M σ H G) (fun u w => ∃ b, u = .pointer (some ⟨b, 0, none⟩) ∧ St w0 M σ ((b, .cells z.cells ty) :: H) G w) := fun a w hf hs d t pos af g => by
  have hz' := hz.ok
  cases hi : P.info? ty with
  | none => simp [hi] at hz'
  | some i =>
    have hz2 : i.zero = some z := by simpa [hi] using hz'
    exact ⟨.pointer (some ⟨w.heap.size, 0, none⟩), w.alloc (.cells z.cells ty), by simp [execOp, Instr.alloc, zeroValue, typeInfo, hi, hz2, newVar, newRow], _, rfl, hs.alloc _⟩
theorem ow_blk {l0 : List Oper} {Q : Exit → Act → World → Prop} {rest : List Oper} {d : Nat} {ty : TypeId} {pos : String} {af : Array Edge} {g : Option (Nat × Bool)} {op : Op} {ob : Obj}
    (hN : Nat.blt d N = true) (hg : gd l0 L g = some true)
    (h : ExW P op N L (St w0 M σ H G) (fun u w => ∃ b, u = .pointer (some ⟨b, 0, none⟩) ∧ St w0 M σ ((b, ob) :: H) G w))
    (k : ∀ b, OW P l0 Q rest N ((d, .pointer (some ⟨b, 0, none⟩)) :: L) (St w0 M σ ((b, ob) :: H) G)) :
    OW P l0 Q (⟨some d, op, ty, pos, af, g⟩ :: rest) N L (St w0 M σ H G) :=
  ow_w hN hg h fun u a w hf ⟨b, hu, hs⟩ => by subst hu; exact k b a w hf hs
theorem setRow_putBlk {w : World} {b : Nat} {arr arr' : Array Value} {ty : TypeId} {fz : Nat × Nat} (h : w.heap[b]? = some (.cells arr ty fz)) : w.setRow b arr' = World.putBlk w b (.cells arr' ty fz) := by
  have hb := (Array.getElem?_eq_some_iff.1 h).1
  have he := (Array.getElem?_eq_some_iff.1 h).2
  unfold World.setRow World.putBlk
  congr 1
  apply Array.ext_getElem?
  intro i
  rw [Array.getElem?_modify, Array.getElem?_setIfInBounds]
  by_cases hi : b = i
  · subst hi; simp [hb, he]
  · simp [hi]
def over (arr : Array Value) (o : Nat) (cs : List Value) : Array Value := (arr.toList.take o ++ cs ++ arr.toList.drop (o + cs.length)).toArray
theorem exu_store {ty b o i : Nat} {x y : Operand} {v : Value} {arr : Array Value} {et : TypeId} (hx : ev L x = some (.pointer (some ⟨b, o, none⟩))) (hy : ev L y = some v)
    (hH : H[i]? = some (b, .cells arr et)) (hsz : (P.info? ty).map (·.size) = some v.cells.size) (hle : o + v.cells.size ≤ arr.size) (h1 : v.cells.all (·.oneCell') = true) :
    ExU P (.store ty x y) N L (St w0 M σ H G) (St w0 M σ (setH H i (.cells (over arr o v.cells.toList) et)) G) := fun a w hf hs d t pos af g => by
  have hb : w.heap[b]? = some (.cells arr et (0, 0)) := hs.own (List.mem_of_getElem? hH)
  have hrun := run_storeCells_at (P := P) b o et v.cells.toList 0 arr w hb (by simpa using hle) (fun u hu => (Array.all_eq_true_iff_forall_mem.1 h1) u (by simpa using hu))
  rw [setRow_putBlk hb] at hrun
  refine ⟨_, ?_, hs.put hH _⟩
  cases hq : P.info? ty with
  | none => simp [hq] at hsz
  | some it =>
    have hsz' : it.size = v.cells.size := by simpa [hq] using hsz
    simp only [Nat.add_zero] at hrun
    simp [execOp, hf.eval hx, hf.eval hy, Instr.storeAt, Instr.sureAddr, storeVar, sizeOf, typeInfo, hq, hsz', hrun, over]
end blocks
end ops
end Go.Proofs.YtnjomdjkbbhdoaaDoor
namespace Go.Proofs.YtnjomdjkbbhdoaaDoor
open Go.RowKit
set_option linter.unusedVariables false
inductive VP where
  | is (v : Value)
  | sat (q : World → Value → Prop)
def VP.holds : VP → World → Value → Prop
  | .is v, _, u => u = v
  | .sat q, w, u => q w u
def VP.pers : VP → Prop
  | .is _ => True
  | .sat q => ∀ w w' v, q w v → Below w.heap.size w w' → q w' v
theorem VP.pers_keep {p : VP} (h : p.pers) {w w' : World} {v : Value} (hq : p.holds w v) (hb : Below w.heap.size w w') : p.holds w' v := by
  cases p with
  | is u => exact hq
  | sat q => exact h w w' v hq hb
structure KE where
  j : Nat
  d : Nat
  p : VP
def edge (af : List Edge) (j : Nat) : Bool := match af with
  | [] => false
  | e :: r => match Nat.beq e.on j with
    | true => match Region.binds .any e with
      | true => true
      | false => edge r j
    | false => edge r j
def tlK (af : List Edge) (L0 : TL) : List KE → TL
  | [] => L0
  | e :: r => match edge af e.j with
    | true => match e.p with
      | .is v => (e.d, v) :: tlK af L0 r
      | .sat _ => tlK af L0 r
    | false => tlK af L0 r
def satK (af : List Edge) : List KE → Nat → Option (World → Value → Prop)
  | [], _ => none
  | e :: r, t => match Nat.beq e.d t with
    | true => match edge af e.j with
      | true => match e.p with
        | .is _ => none
        | .sat q => some q
      | false => none
    | false => satK af r t
theorem edge_mem {af : List Edge} {j : Nat} (h : edge af j = true) : ∃ e ∈ af, e.on = j ∧ Region.binds .any e = true := by
  induction af with
  | nil => cases h
  | cons e r ih =>
    simp only [edge] at h
    cases hb : Nat.beq e.on j with
    | true =>
      rw [hb] at h
      cases hg : Region.binds .any e with
      | true => exact ⟨e, List.mem_cons_self, Nat.eq_of_beq_eq_true hb, hg⟩
      | false => rw [hg] at h; obtain ⟨x, hx, hj⟩ := ih h; exact ⟨x, List.mem_cons_of_mem _ hx, hj⟩
    | false => rw [hb] at h; obtain ⟨x, hx, hj⟩ := ih h; exact ⟨x, List.mem_cons_of_mem _ hx, hj⟩
def stepOK (P : Program) (l0 : List Oper) (o : Oper) (a : Act) (w : World) (p : VP) : Prop :=
  if Region.wanted o (yielded l0.toArray a.tmps) then o.wp P a w (fun a' w' => ∃ v, a' = a.put o.dst v ∧ Below w.heap.size w w' ∧ p.holds w' v) (fun _ _ _ => False)
  else p.holds w undef
def Ob (P : Program) (l0 : List Oper) (o : Oper) (N : Nat) (L : TL) (S : World → Prop) (p : VP) : Prop := ∀ a w, Fr N L a → S w → stepOK P l0 o a w p
def SatK (K : List KE) (af : List Edge) (a : Act) (w : World) : Prop := ∀ e ∈ K, edge af e.j = true → ∃ v, a.tmps[e.d]? = some v ∧ e.p.holds w v
def ObK (P : Program) (l0 : List Oper) (o : Oper) (N : Nat) (L0 : TL) (K : List KE) (S : World → Prop) (p : VP) : Prop :=
  ∀ a w, Fr N L0 a → SatK K o.after.toList a w → S w → stepOK P l0 o a w p
theorem fr_tlK {N : Nat} {L0 : TL} {a : Act} {w : World} {af : List Edge} (hf : Fr N L0 a) : ∀ {K : List KE}, SatK K af a w → Fr N (tlK af L0 K) a
  | [], _ => hf
  | e :: r, h => by
    have ih : Fr N (tlK af L0 r) a := fr_tlK hf (fun x hx => h x (List.mem_cons_of_mem _ hx))
    simp only [tlK]
    cases he : edge af e.j with
    | false => exact ih
    | true =>
      obtain ⟨v, hv, hp⟩ := h e List.mem_cons_self he
      cases hep : e.p with
      | sat q => exact ih
      | is u =>
        rw [hep] at hp
        have : v = u := hp
        subst this
        refine ⟨ih.df, ih.sz, fun i x hx => ?_⟩
        rw [lk_cons] at hx
        split at hx
        · rename_i hi; subst hi; cases hx; exact hv
        · exact ih.get i x hx
section
variable {P : Program} {l0 : List Oper} {o : Oper} {N : Nat} {L0 : TL} {K : List KE} {S : World → Prop} {p : VP}
theorem obk (h : Ob P l0 o N (tlK o.after.toList L0 K) S p) : ObK P l0 o N L0 K S p := fun a w hf hk hs => h a w (fr_tlK hf hk) hs
theorem satK_get {af : List Edge} {a : Act} {w : World} {t : Nat} {q : World → Value → Prop} : ∀ {K : List KE}, satK af K t = some q → SatK K af a w → ∃ v, a.tmps[t]? = some v ∧ q w v
  | [], h, _ => by cases h
  | e :: r, h, hk => by
    simp only [satK] at h
    cases hb : Nat.beq e.d t with
    | false => rw [hb] at h; exact satK_get h (fun x hx => hk x (List.mem_cons_of_mem _ hx))
    | true =>
      rw [hb] at h
      cases he : edge af e.j with
      | false => simp [he] at h
      | true =>
        obtain ⟨v, hv, hp⟩ := hk e List.mem_cons_self he
        rw [Nat.eq_of_beq_eq_true hb] at hv
        cases hep : e.p with
        | is u => simp [he, hep] at h
        | sat q' =>
          simp [he, hep] at h
          rw [hep] at hp
          subst h
          exact ⟨v, hv, hp⟩
theorem obk_sat (t : Nat) {q : World → Value → Prop} (hq : satK o.after.toList K t = some q) (h : ∀ v, Ob P l0 o N ((t, v) :: tlK o.after.toList L0 K) (fun w => S w ∧ q w v) p) :
    ObK P l0 o N L0 K S p := fun a w hf hk hs => by
  obtain ⟨v, hv, hqv⟩ := satK_get hq hk
  have hf' := fr_tlK hf hk
  refine h v a w ⟨hf'.df, hf'.sz, fun i x hx => ?_⟩ ⟨hs, hqv⟩
  rw [lk_cons] at hx
  split at hx
  · rename_i hi; subst hi; cases hx; exact hv
  · exact hf'.get i x hx
end
section
variable {P : Program} {l0 : List Oper} {N : Nat} {L : TL} {S : World → Prop} {p : VP} {d : Nat} {ty : TypeId} {pos : String} {af : Array Edge} {g : Option (Nat × Bool)} {op : Op}
theorem ob_step {o : Oper} (hg : gd l0 L o.guard = some true) (h : ∀ a w, Fr N L a → S w → o.wp P a w (fun a' w' => ∃ v, a' = a.put o.dst v ∧ Below w.heap.size w w' ∧ p.holds w' v) (fun _ _ _ => False)) :
    Ob P l0 o N L S p := fun a w hf hs => by
  unfold stepOK
  rw [if_pos (wanted_of hf hg)]
  exact h a w hf hs
theorem ob_skip (hg : gd l0 L g = some false) : Ob P l0 ⟨some d, op, ty, pos, af, g⟩ N L S (.is undef) := fun a w hf hs => by
  unfold stepOK
  rw [if_neg (by rw [wanted_of hf hg]; simp)]
  exact rfl
theorem ob_val {v : Value} (hg : gd l0 L g = some true) (h : Ex P op N L S v) : Ob P l0 ⟨some d, op, ty, pos, af, g⟩ N L S (.is v) := ob_step hg fun a w hf hs => by
  unfold Oper.wp
  rw [h a w hf hs]
  exact ⟨v, rfl, Below.refl _ _, rfl⟩
theorem ob_w {q : World → Value → Prop} (hg : gd l0 L g = some true) (h : ∀ a w, Fr N L a → S w → ∀ d ty pos af g, ∃ v w', (execOp a.eval ⟨d, op, ty, pos, af, g⟩).run P w = .ok (.value v) w' ∧ Below w.heap.size w w' ∧ q w' v) :
    Ob P l0 ⟨some d, op, ty, pos, af, g⟩ N L S (.sat q) := ob_step hg fun a w hf hs => by
  unfold Oper.wp
  obtain ⟨v, w', h1, h2, h3⟩ := h a w hf hs (some d) ty pos af g
  rw [h1]
  exact ⟨v, rfl, h2, h3⟩
theorem ob_c {T : World → Value → World → Prop} (hg : gd l0 L g = some true) (h : ExC P op N L S T) (hT : ∀ w v w', S w → T w v w' → Below w.heap.size w w' ∧ p.holds w' v) :
    Ob P l0 ⟨some d, op, ty, pos, af, g⟩ N L S p := ob_step hg fun a w hf hs => by
  unfold Oper.wp
  obtain ⟨f, args, h1, h2⟩ := h a w hf hs (some d) ty pos af g
  rw [h1]
  refine Calls.mono h2 ?_
  rintro e w' ⟨v, rfl, hv⟩
  exact ⟨v, rfl, hT w v w' hs hv⟩
theorem ob_cv {v : Value} (hg : gd l0 L g = some true) (h : ExC P op N L S (fun w u w' => u = v ∧ Below w.heap.size w w')) : Ob P l0 ⟨some d, op, ty, pos, af, g⟩ N L S (.is v) :=
  ob_c hg h fun _ _ _ _ ⟨hu, hb⟩ => ⟨hb, hu⟩
end
def Flow (P : Program) (l0 : List Oper) (L0 : TL) (S : World → Prop) (N : Nat) (fin : List KE → Prop) : List Oper → Nat → List KE → Prop
  | [], _, K => fin K
  | o :: r, i, K => ∃ d p, o.dst = some d ∧ p.pers ∧ ObK P l0 o N L0 K S p ∧ Flow P l0 L0 S N fin r (i + 1) (⟨i, d, p⟩ :: K)
section
variable {P : Program} {l0 : List Oper} {L0 : TL} {S : World → Prop} {N : Nat} {fin : List KE → Prop} {r : List Oper} {i d : Nat} {K : List KE}
  {ty : TypeId} {pos : String} {af : Array Edge} {g : Option (Nat × Bool)} {op : Op}
theorem flow_is {v : Value} (h : ObK P l0 ⟨some d, op, ty, pos, af, g⟩ N L0 K S (.is v)) (k : Flow P l0 L0 S N fin r (i + 1) (⟨i, d, .is v⟩ :: K)) :
    Flow P l0 L0 S N fin (⟨some d, op, ty, pos, af, g⟩ :: r) i K := ⟨d, .is v, rfl, trivial, h, k⟩
theorem flow_sat {q : World → Value → Prop} (hq : ∀ w w' v, q w v → Below w.heap.size w w' → q w' v) (h : ObK P l0 ⟨some d, op, ty, pos, af, g⟩ N L0 K S (.sat q))
    (k : Flow P l0 L0 S N fin r (i + 1) (⟨i, d, .sat q⟩ :: K)) : Flow P l0 L0 S N fin (⟨some d, op, ty, pos, af, g⟩ :: r) i K := ⟨d, .sat q, rfl, hq, h, k⟩
theorem flow_val {v : Value} (hg : gd l0 (tlK af.toList L0 K) g = some true) (h : Ex P op N (tlK af.toList L0 K) S v) (k : Flow P l0 L0 S N fin r (i + 1) (⟨i, d, .is v⟩ :: K)) :
    Flow P l0 L0 S N fin (⟨some d, op, ty, pos, af, g⟩ :: r) i K := flow_is (obk (ob_val hg h)) k
theorem flow_skip (hg : gd l0 (tlK af.toList L0 K) g = some false) (k : Flow P l0 L0 S N fin r (i + 1) (⟨i, d, .is undef⟩ :: K)) :
    Flow P l0 L0 S N fin (⟨some d, op, ty, pos, af, g⟩ :: r) i K := flow_is (obk (ob_skip hg)) k
theorem flow_cv {v : Value} (hg : gd l0 (tlK af.toList L0 K) g = some true) (h : ExC P op N (tlK af.toList L0 K) S (fun w u w' => u = v ∧ Below w.heap.size w w'))
    (k : Flow P l0 L0 S N fin r (i + 1) (⟨i, d, .is v⟩ :: K)) : Flow P l0 L0 S N fin (⟨some d, op, ty, pos, af, g⟩ :: r) i K := flow_is (obk (ob_cv hg h)) k
end
def dstIs (o : Oper) (i : Nat) : Bool := match o.dst with
  | some d => Nat.beq d i
  | none => false
def anyDst : List Oper → Nat → Bool
  | [], _ => false
  | o :: r, i => match dstIs o i with
    | true => true
    | false => anyDst r i
def cut (l : List Oper) : TL → TL
  | [] => []
  | p :: r => match anyDst l p.1 with
    | true => cut l r
    | false => p :: cut l r
def ownDst (N : Nat) : List Oper → Bool
  | [] => true
  | o :: r => (match o.dst with
    | some d => Nat.blt d N && !anyDst r d
    | none => false) && ownDst N r
theorem anyDst_of {l : List Oper} {o : Oper} {d : Nat} (hm : o ∈ l) (hd : o.dst = some d) : anyDst l d = true := by
  induction l with
  | nil => cases hm
  | cons x r ih =>
    simp only [anyDst]
    cases hx : dstIs x d with
    | true => rfl
    | false =>
      rcases List.mem_cons.1 hm with rfl | hm
      · simp [dstIs, hd] at hx
      · exact ih hm
theorem lk_cut {l : List Oper} : ∀ {L : TL} {i : Nat} {v : Value}, lk (cut l L) i = some v → anyDst l i = false ∧ True
  | [], i, v, h => by cases h
  | p :: r, i, v, h => by
    simp only [cut] at h
    cases hp : anyDst l p.1 with
    | true => rw [hp] at h; exact lk_cut h
    | false =>
      rw [hp] at h
      obtain ⟨k, u⟩ := p
      simp only at h
      rw [lk_cons] at h
      split at h
      · rename_i hi; subst hi; exact ⟨hp, trivial⟩
      · exact lk_cut h
theorem fr_cut {l : List Oper} {N : Nat} {a : Act} : ∀ {L : TL}, Fr N L a → (∀ i v, lk (cut l L) i = some v → lk L i = some v) → Fr N (cut l L) a
  | L, h, hs => ⟨h.df, h.sz, fun i v hv => h.get i v (hs i v hv)⟩
theorem lk_cut_sub {l : List Oper} : ∀ (L : TL) (i : Nat) (v : Value), lk (cut l L) i = some v → lk L i = some v
  | [], i, v, h => h
  | p :: r, i, v, h => by
    obtain ⟨k, u⟩ := p
    rw [lk_cons]
    have hd : anyDst l i = false := (lk_cut h).1
    simp only [cut] at h
    cases hp : anyDst l k with
    | true =>
      rw [hp] at h
      have : ¬ k = i := by rintro rfl; rw [hp] at hd; cases hd
      rw [if_neg this]
      exact lk_cut_sub r i v h
    | false =>
      rw [hp] at h
      simp only at h
      rw [lk_cons] at h
      split at h
      · rename_i hi; rw [if_pos hi]; exact h
      · rename_i hi; rw [if_neg hi]; exact lk_cut_sub r i v h
theorem ownDst_get {N : Nat} : ∀ {l : List Oper}, ownDst N l = true → ∀ (i : Nat) (o : Oper), l[i]? = some o → ∃ d, o.dst = some d ∧ d < N
  | [], _, i, o, h => by simp at h
  | x :: r, h, i, o, ho => by
    simp only [ownDst, Bool.and_eq_true] at h
    cases i with
    | zero =>
      simp at ho; subst ho
      cases hd : x.dst with
      | none => rw [hd] at h; simp at h
      | some d =>
        rw [hd] at h
        simp only [Bool.and_eq_true] at h
        exact ⟨d, rfl, Nat.le_of_ble_eq_true h.1.1⟩
    | succ n => exact ownDst_get h.2 n o (by simpa using ho)
theorem ownDst_ne {N : Nat} : ∀ {l : List Oper}, ownDst N l = true → ∀ (i j : Nat) (oi oj : Oper) (d : Nat), l[i]? = some oi → l[j]? = some oj → oi.dst = some d → oj.dst = some d → i = j
  | [], _, i, j, oi, oj, d, h, _, _, _ => by simp at h
  | x :: r, h, i, j, oi, oj, d, hi, hj, hdi, hdj => by
    simp only [ownDst, Bool.and_eq_true] at h
    cases i with
    | zero =>
      cases j with
      | zero => rfl
      | succ m =>
        simp at hi hj; subst hi
        rw [hdi] at h
        simp only [Bool.and_eq_true, Bool.not_eq_true'] at h
        have := anyDst_of (List.mem_of_getElem? hj) hdj
        rw [h.1.2] at this; cases this
    | succ n =>
      cases j with
      | zero =>
        simp at hi hj; subst hj
        rw [hdj] at h
        simp only [Bool.and_eq_true, Bool.not_eq_true'] at h
        have := anyDst_of (List.mem_of_getElem? hi) hdi
        rw [h.1.2] at this; cases this
      | succ m => rw [ownDst_ne h.2 n m oi oj d (by simpa using hi) (by simpa using hj) hdi hdj]
theorem wp_false {P : Program} {o : Oper} {a : Act} {w : World} {K K' : Act → World → Prop} {Q : Exit → Act → World → Prop} (h : o.wp P a w K (fun _ _ _ => False)) (hk : ∀ a w, K a w → K' a w) : o.wp P a w K' Q := by
  unfold Oper.wp at *
  generalize (execOp a.eval o).run P w = r at *
  cases r with
  | ok n w' =>
    cases n <;> simp only [Oper.upon] at h ⊢ <;>
      first
        | exact hk _ _ h
        | exact Calls.mono h (fun e w'' he => by
            cases e with
            | returned v => exact hk _ _ he
            | panicked c => exact he.elim
            | outgrown => obtain ⟨_, _, hf⟩ := he; exact hf.elim)
        | exact Rows.mono h (fun _ _ he => hk _ _ he)
  | halt x w' => cases x <;> simp only [Oper.upon] at h ⊢
theorem flow_all {P : Program} {l0 : List Oper} {L0 : TL} {S : World → Prop} {N : Nat} {fin : List KE → Prop} : ∀ (l : List Oper) (i : Nat) (K : List KE), (∀ j, j < l.length → l[j]? = l0[i + j]?) →
    (∀ e ∈ K, e.j < i) → Flow P l0 L0 S N fin l i K →
    ∃ Kf : List KE, fin Kf ∧ (∀ e ∈ K, e ∈ Kf) ∧
      (∀ e ∈ Kf, e ∈ K ∨ (i ≤ e.j ∧ e.j < i + l.length ∧ ∃ o, l0[e.j]? = some o ∧ o.dst = some e.d ∧ e.p.pers ∧ ∀ a w, Fr N L0 a → S w →
        (∀ e' ∈ Kf, edge o.after.toList e'.j = true → ∃ v, a.tmps[e'.d]? = some v ∧ e'.p.holds w v) → stepOK P l0 o a w e.p)) ∧
      (∀ k, k < l.length → ∃ e ∈ Kf, e.j = i + k) ∧ (∀ e ∈ Kf, ∀ e' ∈ Kf, i ≤ e.j → e.j = e'.j → e = e')
  | [], i, K, hl, hK, h => ⟨K, h, fun _ he => he, fun e he => .inl he, fun k hk => absurd hk (Nat.not_lt_zero _), fun e he e' he' hi _ => absurd (hK e he) (Nat.not_lt.2 hi)⟩
  | o :: r, i, K, hl, hK, h => by
    obtain ⟨d, p, hd, hp, hob, hr⟩ := h
    obtain ⟨Kf, h1, h2, h3, h4, h5⟩ := flow_all r (i + 1) (⟨i, d, p⟩ :: K)
      (fun j hj => by have := hl (j + 1) (by simp; omega); simpa [Nat.add_assoc, Nat.add_comm 1 j] using this)
      (fun e he => by rcases List.mem_cons.1 he with rfl | he; exact Nat.lt_succ_self _; exact Nat.lt_succ_of_lt (hK e he)) hr
    have h0 : l0[i]? = some o := by have := hl 0 (by simp); simpa using this.symm
    have hhead : ∀ e ∈ Kf, e.j ≤ i → e = ⟨i, d, p⟩ ∨ e ∈ K := fun e he hle => by
      rcases h3 e he with he' | ⟨hlt, _⟩
      · exact List.mem_cons.1 he'
      · omega
    refine ⟨Kf, h1, fun e he => h2 e (List.mem_cons_of_mem _ he), fun e he => ?_, fun k hk => ?_, fun e he e' he' hi hj => ?_⟩
    · rcases h3 e he with he' | ⟨a1, a2, a3⟩
      · rcases List.mem_cons.1 he' with rfl | he'
        · refine .inr ⟨Nat.le_refl _, by simp, o, h0, hd, hp, fun a w hf hs hk => hob a w hf (fun x hx hxe => hk x (h2 x (List.mem_cons_of_mem _ hx)) hxe) hs⟩
        · exact .inl he'
      · exact .inr ⟨by omega, by simp only [List.length_cons]; omega, a3⟩
    · cases k with
      | zero => exact ⟨⟨i, d, p⟩, h2 _ List.mem_cons_self, rfl⟩
      | succ k =>
        obtain ⟨e, he, hej⟩ := h4 k (by simp only [List.length_cons] at hk; omega)
        exact ⟨e, he, by omega⟩
    · by_cases hlt : i + 1 ≤ e.j
      · exact h5 e he e' he' hlt hj
      · have e1 : e = ⟨i, d, p⟩ := by
          rcases hhead e he (by omega) with h | h
          · exact h
          · have := hK e h; omega
        have e2 : e' = ⟨i, d, p⟩ := by
          rcases hhead e' he' (by omega) with h | h
          · exact h
          · have := hK e' h; omega
        rw [e1, e2]
def cnt (listed : Array Bool) : Nat → Nat
  | 0 => 0
  | n + 1 => cnt listed n + (if listed.getD n true = false then 1 else 0)
theorem cnt_set {listed : Array Bool} {i : Nat} (hi : listed.getD i true = false) : ∀ n, i < n → cnt (listed.setIfInBounds i true) n + 1 = cnt listed n
  | 0, h => absurd h (Nat.not_lt_zero _)
  | n + 1, h => by
    simp only [cnt]
    by_cases e : i = n
    · subst e
      have h1 : ∀ m, m ≤ i → cnt (listed.setIfInBounds i true) m = cnt listed m := by
        intro m
        induction m with
        | zero => intro _; rfl
        | succ m ih => intro hm; simp only [cnt]; rw [ih (by omega), getD_set_ne true (by omega)]
      have h2 : (listed.setIfInBounds i true).getD i true = true := by
        rcases Nat.lt_or_ge i listed.size with hlt | hge
        · simp [hlt]
        · simp [hge]
      rw [h1 i (Nat.le_refl _), h2, if_pos hi]
      simp
    · have ih := cnt_set hi n (by omega)
      rw [getD_set_ne true (by omega)]
      omega
theorem cnt_zero {listed : Array Bool} : ∀ {n : Nat}, cnt listed n = 0 → ∀ i, i < n → listed.getD i true = true
  | 0, _, i, h => absurd h (Nat.not_lt_zero _)
  | n + 1, h, i, hi => by
    simp only [cnt] at h
    by_cases e : i = n
    · subst e
      cases hb : listed.getD i true with
      | true => rfl
      | false => rw [if_pos hb] at h; omega
    · exact cnt_zero (n := n) (by omega) i (by omega)
theorem cnt_pos {listed : Array Bool} : ∀ {n : Nat}, 0 < cnt listed n → ∃ i, i < n ∧ listed.getD i true = false ∧ ∀ j, j < i → listed.getD j true = true
  | 0, h => absurd h (Nat.lt_irrefl _)
  | n + 1, h => by
    by_cases h0 : 0 < cnt listed n
    · obtain ⟨i, h1, h2, h3⟩ := cnt_pos (n := n) h0; exact ⟨i, Nat.lt_succ_of_lt h1, h2, h3⟩
    · have hz : cnt listed n = 0 := by omega
      simp only [cnt, hz] at h
      refine ⟨n, Nat.lt_succ_self _, ?_, fun j hj => cnt_zero hz j hj⟩
      by_cases hb : listed.getD n true = false
      · exact hb
      · rw [if_neg hb] at h; omega
theorem cnt_fresh (m : Nat) : ∀ n, n ≤ m → cnt (Array.replicate m false) n = n
  | 0, _ => rfl
  | n + 1, h => by simp only [cnt]; rw [cnt_fresh m n (by omega), if_pos (by simp [show n < m by omega])]
def aheadB : Nat → List Oper → Bool
  | _, [] => true
  | i, o :: r => o.after.toList.all (fun e => !Region.binds .any e || Nat.blt e.on i) && aheadB (i + 1) r
theorem ahead_get : ∀ {l : List Oper} {i : Nat}, aheadB i l = true → ∀ k o, l[k]? = some o → ∀ e ∈ o.after, Region.binds .any e = true → e.on < i + k
  | [], i, _, k, o, h, _, _, _ => by simp at h
  | x :: r, i, h, k, o, hk, e, he, hb => by
    simp only [aheadB, Bool.and_eq_true] at h
    cases k with
    | zero =>
      simp at hk; subst hk
      have := (List.all_eq_true.1 h.1) e (by simpa using he)
      simp [Nat.blt, hb] at this; omega
    | succ k =>
      have := ahead_get h.2 k o (by simpa using hk) e he hb
      omega
def firsts (n m : Nat) : Array Bool := (List.replicate n true ++ List.replicate (m - n) false).toArray
def drawB (N : Nat) (l : List Oper) (n : Nat) : Bool :=
  Nat.ble n l.length && ownDst N (l.take n) && aheadB 0 l && (Nat.beq n l.length || (Region.sinkB .any l.toArray n && Region.chainB .any l.toArray n)) &&
    Region.seqB .any l.toArray (l.length - n) n (firsts n l.length)
theorem flow_sound {P : Program} {l : List Oper} {L : TL} {S : World → Prop} [hSta : Sta S] {N : Nat} {Q : Exit → Act → World → Prop} {id : Nat} [hm : MixT P] (n : Nat) (hB : drawB N l n = true)
    (h : Flow P l (Go.Proofs.YtnjomdjkbbhdoaaDoor.cut (l.take n) L) S N (fun K => ∀ a w, Fr N (Go.Proofs.YtnjomdjkbbhdoaaDoor.cut (l.take n) L) a → S w → (∀ e ∈ K, ∃ v, a.tmps[e.d]? = some v ∧ e.p.holds w v) → wpList P l.toArray Q (l.drop n) a w) (l.take n) 0 []) :
    CW P (.region id l.toArray true) Q N L S := by
  simp only [drawB, Bool.and_eq_true, Bool.or_eq_true] at hB
  obtain ⟨⟨⟨⟨hn, hown⟩, hahead⟩, hsc⟩, hseq⟩ := hB
  have hn' : n ≤ l.length := by have := hn; simp at this; omega
  obtain ⟨Kf, hfin, -, hK, hcov, huni⟩ := flow_all (l.take n) 0 [] (fun j hj => by
    rw [List.length_take] at hj
    rw [List.getElem?_take_of_lt (by omega)]; simp) (fun _ he => absurd he List.not_mem_nil) h
  have hK' : ∀ e ∈ Kf, e.j < n ∧ ∃ o, l[e.j]? = some o ∧ o.dst = some e.d ∧ e.p.pers ∧ ∀ a w, Fr N (Go.Proofs.YtnjomdjkbbhdoaaDoor.cut (l.take n) L) a → S w →
      (∀ e' ∈ Kf, edge o.after.toList e'.j = true → ∃ v, a.tmps[e'.d]? = some v ∧ e'.p.holds w v) → stepOK P l o a w e.p := fun e he => by
    rcases hK e he with h0 | ⟨_, h1, h2⟩
    · cases h0
    · exact ⟨by rw [List.length_take] at h1; omega, h2⟩
  have hsz : l.toArray.size = l.length := by simp
  have key : ∀ (g : Nat) (listed : Array Bool) (a : Act) (w : World), HeadInv .any l.toArray n listed → cnt listed n = g → Fr N (Go.Proofs.YtnjomdjkbbhdoaaDoor.cut (l.take n) L) a → S w →
      (∀ e ∈ Kf, listed.getD e.j true = true → ∃ v, a.tmps[e.d]? = some v ∧ e.p.holds w v) → wpAny P .any l.toArray Q (g + (l.length - n)) listed a w := by
    intro g
    induction g with
    | zero =>
      intro listed a w inv hc hf hs hk
      have hall := cnt_zero hc
      have hlist : listed = firsts n l.length := by
        apply Array.ext_getElem?
        intro i
        have hs1 : listed.size = l.length := by rw [inv.size, hsz]
        unfold firsts
        rcases Nat.lt_or_ge i n with h1 | h1
        · have := hall i h1
          have hi : i < listed.size := by omega
          simp [hi] at this
          simp [hi, this, List.getElem?_append, h1]
        · rcases Nat.lt_or_ge i l.length with h2 | h2
          · have := inv.tail i h1 (by rw [hsz]; exact h2)
            have hi : i < listed.size := by omega
            simp [hi] at this
            simp [hi, this, List.getElem?_append, show ¬ i < n by omega, show i - n < l.length - n by omega]
          · rw [Array.getElem?_eq_none (by omega)]
            simp [List.getElem?_append, show ¬ i < n by omega, show ¬ i - n < l.length - n by omega]
      have hw := hfin a w hf hs (fun e he => hk e he (hall e.j (hK' e he).1))
      have := wpAny_of_seq (P := P) (md := .any) (ops := l.toArray) (l.drop n) n listed a w (fun j => by simp) (by rw [List.length_drop, hlist]; exact hseq) hw
      rwa [List.length_drop, ← Nat.zero_add (l.length - n)] at this
    | succ g ih =>
      intro listed a w inv hc hf hs hk
      rw [show g + 1 + (l.length - n) = (g + (l.length - n)) + 1 by omega]
      obtain ⟨i0, hi0, hun0, hbelow⟩ := cnt_pos (show 0 < cnt listed n by omega)
      have hs1 : listed.size = l.length := by rw [inv.size, hsz]
      have hready : i0 ∈ Region.ready .any l.toArray listed := by
        have hlt : i0 < l.length := by omega
        refine mem_ready.2 ⟨hun0, l[i0], by simp [hlt], fun e he hb => ?_⟩
        have h1 := ahead_get hahead i0 l[i0] (by simp [hlt]) e he hb
        have h2 := hbelow e.on (by omega)
        have hlt2 : e.on < listed.size := by omega
        simp [hlt2] at h2 ⊢
        exact h2
      refine ⟨fun hnil => (by rw [hnil] at hready; cases hready), fun i hi => ?_⟩
      have hin : i < n := by
        rcases Nat.lt_or_ge i n with h1 | h1
        · exact h1
        · have hil := (mem_ready.1 hi).2
          obtain ⟨oi, hoi, _⟩ := hil
          have hlt : i < l.length := by have := (Array.getElem?_eq_some_iff.1 hoi).1; simpa using this
          rcases hsc with hsc | hsc
          · have := Nat.eq_of_beq_eq_true hsc; omega
          · exact absurd hi (tail_waits hsc.1 hsc.2 (by rw [hsz]; omega) inv (n - i0) i0 rfl hi0 hun0 i h1)
      obtain ⟨huni1, oi, hoi, hdeps⟩ := mem_ready.1 hi
      have hoi' : l[i]? = some oi := by simpa using hoi
      obtain ⟨e, heK, hej⟩ := hcov i (by rw [List.length_take]; omega)
      have hej' : e.j = i := by omega
      obtain ⟨_, o, ho, hod, hpers, hstep⟩ := hK' e heK
      rw [hej'] at ho
      have : o = oi := Option.some.inj (ho.symm.trans hoi')
      subst this
      have hdn : e.d < N := by
        obtain ⟨d, hd1, hd2⟩ := ownDst_get hown i o (by rw [List.getElem?_take_of_lt hin]; exact ho)
        rw [hod] at hd1; cases hd1; exact hd2
      have hcutd : ∀ v, lk (Go.Proofs.YtnjomdjkbbhdoaaDoor.cut (l.take n) L) e.d = some v → False := fun v hv => by
        have h1 := (lk_cut hv).1
        rw [anyDst_of (List.mem_of_getElem? (l := l.take n) (i := i) (by rw [List.getElem?_take_of_lt hin]; exact ho)) hod] at h1
        cases h1
      have hso := hstep a w hf hs (fun e' he' hed => by
        obtain ⟨x, hx, hxj, hxb⟩ := edge_mem hed
        have h1 := hdeps x (by simpa using hx) hxb
        rw [hxj] at h1
        have h2 : e'.j < n := (hK' e' he').1
        refine hk e' he' ?_
        have hlt2 : e'.j < listed.size := by omega
        simp [hlt2] at h1 ⊢
        exact h1)
      have next : ∀ v w', Below w.heap.size w w' → e.p.holds w' v → wpAny P .any l.toArray Q (g + (l.length - n)) (listed.setIfInBounds i true) (a.put o.dst v) w' := by
        intro v w' hb hv
        rw [hod]
        refine ih _ _ _ (inv.set hi hin) (by have := cnt_set huni1 n hin; omega) ?_ (hSta.keep w w' hs hb) ?_
        · have hp := hf.put v (d := e.d) (by simp [Nat.blt]; omega)
          exact ⟨hp.df, hp.sz, fun k u hu => hp.get k u (by
            rw [lk_cons]
            split
            · rename_i hk2; subst hk2; exact (hcutd u hu).elim
            · exact hu)⟩
        · intro x hx hxl
          by_cases hxi : x.j = i
          · have : x = e := huni x hx e heK (Nat.zero_le _) (by omega)
            subst this
            exact ⟨v, by simp [Act.put, hf.sz, hdn], hv⟩
          · rw [getD_set_ne true (fun h => hxi h.symm)] at hxl
            obtain ⟨u, hu, hxu⟩ := hk x hx hxl
            obtain ⟨hxn, ox, hox, hxd, hxp, _⟩ := hK' x hx
            have hne : e.d ≠ x.d := fun hee => by
              have := ownDst_ne hown i x.j o ox e.d (by rw [List.getElem?_take_of_lt hin]; exact ho) (by rw [List.getElem?_take_of_lt hxn]; exact hox) hod (by rw [hee]; exact hxd)
              omega
            refine ⟨u, ?_, VP.pers_keep hxp hxu hb⟩
            simp only [Act.put]
            rw [Array.getElem?_setIfInBounds_ne hne]
            exact hu
      unfold wpOp
      simp only [hoi]
      unfold stepOK at hso
      split
      · rename_i hw
        rw [if_pos hw] at hso
        exact .inl (wp_false hso (fun a' w' ⟨v, ha, hb, hv⟩ => by rw [ha]; exact next v w' hb hv))
      · rename_i hw
        rw [if_neg hw] at hso
        exact next undef w (Below.refl _ _) hso
  intro a w hf hs
  refine wp_region_any hm.ok ?_
  have hrep : ∀ j, (Array.replicate l.toArray.size false).getD j false = false := fun j => getD_replicate_false _ _
  have := key n (Array.replicate l.toArray.size false) a w.drew
    ⟨by simp, fun j oj hj hl => (by rw [hrep] at hl; cases hl), fun t ht ht' => by simp at ht'; simp [ht']⟩
    (by rw [hsz]; exact cnt_fresh _ _ hn') (fr_cut hf (lk_cut_sub L)) (hSta.keep _ _ hs (Below.drewB w)) (fun e he hl => by
      have h1 := (hK' e he).1
      simp [show e.j < l.length by omega] at hl)
  rw [show n + (l.length - n) = l.toArray.size by rw [hsz]; omega] at this
  exact this
section
variable {P : Program} {l0 : List Oper} {Q : Exit → Act → World → Prop} {tail : List Oper} {N : Nat} {S : World → Prop} {d j : Nat}
def Fin (P : Program) (l0 : List Oper) (Q : Exit → Act → World → Prop) (tail : List Oper) (N : Nat) (L : TL) (S : World → Prop) (K : List KE) : Prop :=
  ∀ a w, Fr N L a → S w → (∀ e ∈ K, ∃ v, a.tmps[e.d]? = some v ∧ e.p.holds w v) → wpList P l0.toArray Q tail a w
theorem fin_nil {L : TL} (h : OW P l0 Q tail N L S) : Fin P l0 Q tail N L S [] := fun a w hf hs _ => h a w hf hs
theorem fr_add {L : TL} {a : Act} {v : Value} (hf : Fr N L a) (hv : a.tmps[d]? = some v) : Fr N ((d, v) :: L) a := ⟨hf.df, hf.sz, fun i u hu => by
  rw [lk_cons] at hu
  split at hu
  · rename_i hi; subst hi; cases hu; exact hv
  · exact hf.get i u hu⟩
theorem fin_is {L : TL} {v : Value} {K : List KE} (h : Fin P l0 Q tail N ((d, v) :: L) S K) : Fin P l0 Q tail N L S (⟨j, d, .is v⟩ :: K) := fun a w hf hs hk => by
  obtain ⟨u, hu, hp⟩ := hk _ List.mem_cons_self
  have : u = v := hp
  subst this
  exact h a w (fr_add hf hu) hs (fun e he => hk e (List.mem_cons_of_mem _ he))
theorem fin_drop {L : TL} {e : KE} {K : List KE} (h : Fin P l0 Q tail N L S K) : Fin P l0 Q tail N L S (e :: K) := fun a w hf hs hk =>
  h a w hf hs (fun x hx => hk x (List.mem_cons_of_mem _ hx))
theorem flow_nil {L0 : TL} {i : Nat} {K : List KE} (h : Fin P l0 Q tail N L0 S K) :
    Flow P l0 L0 S N (fun K => ∀ a w, Fr N L0 a → S w → (∀ e ∈ K, ∃ v, a.tmps[e.d]? = some v ∧ e.p.holds w v) → wpList P l0.toArray Q tail a w) [] i K := h
end
end Go.Proofs.YtnjomdjkbbhdoaaDoor
namespace Go.Proofs.YtnjomdjkbbhdoaaDoor
set_option linter.unusedVariables false
inductive T where
  | mk (op num : Int) (data : List UInt8) (kids : List T)
namespace T
def op : T → Int | mk o _ _ _ => o
def num : T → Int | mk _ n _ _ => n
def data : T → List UInt8 | mk _ _ d _ => d
def kids : T → List T | mk _ _ _ k => k
theorem ind {p : T → Prop} (h : ∀ o n d ks, (∀ k, k ∈ ks → p k) → p (mk o n d ks)) : ∀ t, p t
  | mk o n d ks => h o n d ks (fun k hk => ind h k)
termination_by t => SizeOf.sizeOf t
decreasing_by
  have := List.sizeOf_lt_of_mem hk
  simp only [mk.sizeOf_spec]
  omega
end T
def cmpI (a b : Int) : Int := if a < b then -1 else if b < a then 1 else 0
def cmpB : List UInt8 → List UInt8 → Int
  | [], [] => 0
  | [], _ :: _ => -1
  | _ :: _, [] => 1
  | a :: r, b :: s => if a < b then -1 else if b < a then 1 else cmpB r s
def lex (x y : Int) : Int := if x = 0 then y else x
mutual
def ord : T → T → Int
  | .mk o n d ks, u => lex (cmpI o u.op) (lex (cmpI n u.num) (lex (cmpB d u.data) (ords ks u.kids)))
def ords : List T → List T → Int
  | [], [] => 0
  | [], _ :: _ => -1
  | _ :: _, [] => 1
  | a :: r, b :: s => lex (ord a b) (ords r s)
end
theorem lex_zero {x y : Int} : lex x y = 0 ↔ x = 0 ∧ y = 0 := by unfold lex; split <;> simp_all
theorem lex_m {x y : Int} : lex x y = -1 ↔ x = -1 ∨ (x = 0 ∧ y = -1) := by
  unfold lex; split
  · rename_i h; subst h; simp
  · rename_i h; simp [h]
theorem lex_neg (x y : Int) : lex (-x) (-y) = - lex x y := by unfold lex; split <;> split <;> omega
theorem lex_of0 {x y : Int} (h : x = 0) : lex x y = y := by simp [lex, h]
theorem lex_ne {x y : Int} (h : x ≠ 0) : lex x y = x := by simp [lex, h]
def Tri (n : Int) : Prop := n = -1 ∨ n = 0 ∨ n = 1
theorem cmpI_tri (a b : Int) : Tri (cmpI a b) := by unfold cmpI Tri; split; exact .inl rfl; split; exact .inr (.inr rfl); exact .inr (.inl rfl)
theorem cmpB_tri : ∀ a b, Tri (cmpB a b)
  | [], [] => .inr (.inl rfl)
  | [], _ :: _ => .inl rfl
  | _ :: _, [] => .inr (.inr rfl)
  | a :: r, b :: s => by
    unfold cmpB; split; exact .inl rfl; split; exact .inr (.inr rfl); exact cmpB_tri r s
theorem lex_tri {x y : Int} (h : Tri x) (k : Tri y) : Tri (lex x y) := by unfold lex; split; exact k; exact h
mutual
theorem ord_tri : ∀ a b, Tri (ord a b)
  | .mk o n d ks, u => by unfold ord; exact lex_tri (cmpI_tri _ _) (lex_tri (cmpI_tri _ _) (lex_tri (cmpB_tri _ _) (ords_tri _ _)))
theorem ords_tri : ∀ a b, Tri (ords a b)
  | [], [] => .inr (.inl rfl)
  | [], _ :: _ => .inl rfl
  | _ :: _, [] => .inr (.inr rfl)
  | a :: r, b :: s => by unfold ords; exact lex_tri (ord_tri _ _) (ords_tri _ _)
end
theorem cmpI_zero {a b : Int} : cmpI a b = 0 ↔ a = b := by unfold cmpI; split <;> (try split) <;> omega
theorem cmpI_neg (a b : Int) : cmpI a b = - cmpI b a := by unfold cmpI; split <;> split <;> (try split) <;> omega
theorem cmpI_lt {a b : Int} : cmpI a b = -1 ↔ a < b := by unfold cmpI; split <;> (try split) <;> omega
theorem u8_cases (a b : UInt8) : a < b ∨ a = b ∨ b < a := by
  rcases Nat.lt_trichotomy a.toNat b.toNat with h | h | h
  · exact .inl (UInt8.lt_iff_toNat_lt.2 h)
  · exact .inr (.inl (UInt8.toNat_inj.1 h))
  · exact .inr (.inr (UInt8.lt_iff_toNat_lt.2 h))
theorem u8_irrefl (a : UInt8) : ¬ a < a := fun h => Nat.lt_irrefl _ (UInt8.lt_iff_toNat_lt.1 h)
theorem u8_asymm {a b : UInt8} (h : a < b) : ¬ b < a := fun k => Nat.lt_asymm (UInt8.lt_iff_toNat_lt.1 h) (UInt8.lt_iff_toNat_lt.1 k)
theorem u8_trans {a b c : UInt8} (h : a < b) (k : b < c) : a < c := UInt8.lt_iff_toNat_lt.2 (Nat.lt_trans (UInt8.lt_iff_toNat_lt.1 h) (UInt8.lt_iff_toNat_lt.1 k))
theorem cmpB_zero : ∀ {a b : List UInt8}, cmpB a b = 0 ↔ a = b
  | [], [] => by simp [cmpB]
  | [], _ :: _ => by simp [cmpB]
  | _ :: _, [] => by simp [cmpB]
  | a :: r, b :: s => by
    unfold cmpB
    rcases u8_cases a b with h | h | h
    · rw [if_pos h]; simp; rintro rfl; exact absurd h (u8_irrefl a)
    · subst h; rw [if_neg (u8_irrefl a), if_neg (u8_irrefl a), cmpB_zero]; simp
    · rw [if_neg (u8_asymm h), if_pos h]; simp; rintro rfl; exact absurd h (u8_irrefl a)
theorem cmpB_neg : ∀ (a b : List UInt8), cmpB a b = - cmpB b a
  | [], [] => rfl
  | [], _ :: _ => rfl
  | _ :: _, [] => rfl
  | a :: r, b :: s => by
    unfold cmpB
    rcases u8_cases a b with h | h | h
    · rw [if_pos h, if_neg (u8_asymm h), if_pos h]
    · subst h; rw [if_neg (u8_irrefl a), if_neg (u8_irrefl a), if_neg (u8_irrefl a), if_neg (u8_irrefl a)]; exact cmpB_neg r s
    · rw [if_neg (u8_asymm h), if_pos h, if_pos h]; rfl
theorem cmpB_self (a : List UInt8) : cmpB a a = 0 := cmpB_zero.2 rfl
theorem cmpB_trans : ∀ {a b c : List UInt8}, cmpB a b = -1 → cmpB b c = -1 → cmpB a c = -1
  | [], [], _, h, _ => by simp [cmpB] at h
  | [], _ :: _, [], _, k => by simp [cmpB] at k
  | [], _ :: _, _ :: _, _, _ => rfl
  | _ :: _, [], _, h, _ => by simp [cmpB] at h
  | _ :: _, _ :: _, [], _, k => by simp [cmpB] at k
  | a :: r, b :: s, c :: t, h, k => by
    unfold cmpB at h k ⊢
    rcases u8_cases a b with e | e | e
    · rcases u8_cases b c with e' | e' | e'
      · rw [if_pos (u8_trans e e')]
      · subst e'; rw [if_pos e]
      · rw [if_neg (u8_asymm e'), if_pos e'] at k; simp at k
    · subst e
      rw [if_neg (u8_irrefl a), if_neg (u8_irrefl a)] at h
      rcases u8_cases a c with e' | e' | e'
      · rw [if_pos e']
      · subst e'
        rw [if_neg (u8_irrefl a), if_neg (u8_irrefl a)] at k ⊢
        exact cmpB_trans h k
      · rw [if_neg (u8_asymm e'), if_pos e'] at k; simp at k
    · rw [if_neg (u8_asymm e), if_pos e] at h; simp at h
mutual
theorem ord_zero : ∀ {a b : T}, ord a b = 0 ↔ a = b
  | .mk o n d ks, .mk o' n' d' ks' => by
    unfold ord
    rw [lex_zero, lex_zero, lex_zero, cmpI_zero, cmpI_zero, cmpB_zero, ords_zero]
    simp only [T.op, T.num, T.data, T.kids, T.mk.injEq]
theorem ords_zero : ∀ {a b : List T}, ords a b = 0 ↔ a = b
  | [], [] => by simp [ords]
  | [], _ :: _ => by simp [ords]
  | _ :: _, [] => by simp [ords]
  | a :: r, b :: s => by
    unfold ords
    rw [lex_zero, ord_zero, ords_zero]
    simp
end
theorem ord_self (a : T) : ord a a = 0 := ord_zero.2 rfl
mutual
theorem ord_neg : ∀ (a b : T), ord a b = - ord b a
  | .mk o n d ks, .mk o' n' d' ks' => by
    unfold ord
    simp only [T.op, T.num, T.data, T.kids]
    rw [cmpI_neg o o', cmpI_neg n n', cmpB_neg d d', ords_neg ks ks', lex_neg, lex_neg, lex_neg]
theorem ords_neg : ∀ (a b : List T), ords a b = - ords b a
  | [], [] => rfl
  | [], _ :: _ => rfl
  | _ :: _, [] => rfl
  | a :: r, b :: s => by
    unfold ords
    rw [ord_neg a b, ords_neg r s, lex_neg]
end
theorem cmpI_trans {a b c : Int} (h : cmpI a b = -1) (k : cmpI b c = -1) : cmpI a c = -1 := cmpI_lt.2 (by have := cmpI_lt.1 h; have := cmpI_lt.1 k; omega)
theorem lex_trans {α : Type} {f : α → α → Int} (hz : ∀ {a b}, f a b = 0 ↔ a = b) {a b c : α} (ht : f a b = -1 → f b c = -1 → f a c = -1) {x y z : Int} (hr : x = -1 → y = -1 → z = -1)
    (h : lex (f a b) x = -1) (k : lex (f b c) y = -1) : lex (f a c) z = -1 := by
  rcases lex_m.1 h with h1 | ⟨h1, h2⟩ <;> rcases lex_m.1 k with k1 | ⟨k1, k2⟩
  · exact lex_m.2 (.inl (ht h1 k1))
  · rw [← hz.1 k1]; exact lex_m.2 (.inl h1)
  · rw [hz.1 h1]; exact lex_m.2 (.inl k1)
  · exact lex_m.2 (.inr ⟨by rw [hz.1 h1]; exact k1, hr h2 k2⟩)
mutual
theorem ord_trans : ∀ {a b c : T}, ord a b = -1 → ord b c = -1 → ord a c = -1
  | .mk o n d ks, .mk o' n' d' ks', .mk o'' n'' d'' ks'', h, k => by
    unfold ord at h k ⊢
    simp only [T.op, T.num, T.data, T.kids] at h k ⊢
    exact lex_trans cmpI_zero cmpI_trans (fun h k => lex_trans cmpI_zero cmpI_trans (fun h k => lex_trans cmpB_zero cmpB_trans (fun h k => ords_trans h k) h k) h k) h k
theorem ords_trans : ∀ {a b c : List T}, ords a b = -1 → ords b c = -1 → ords a c = -1
  | [], [], _, h, _ => by simp [ords] at h
  | [], _ :: _, [], _, k => by simp [ords] at k
  | [], _ :: _, _ :: _, _, _ => rfl
  | _ :: _, [], _, h, _ => by simp [ords] at h
  | _ :: _, _ :: _, [], _, k => by simp [ords] at k
  | a :: r, b :: s, c :: t, h, k => by
    unfold ords at h k ⊢
    exact lex_trans ord_zero (fun h k => ord_trans h k) (fun h k => ords_trans h k) h k
end
theorem ord_le_trans {a b c : T} (h : ord a b ≤ 0) (k : ord b c ≤ 0) : ord a c ≤ 0 := by
  rcases ord_tri a b with h1 | h1 | h1
  · rcases ord_tri b c with k1 | k1 | k1
    · have := ord_trans h1 k1; omega
    · rw [← ord_zero.1 k1]; exact h
    · omega
  · rw [ord_zero.1 h1]; exact k
  · omega
mutual
def size : T → Nat
  | .mk _ _ _ ks => sizes ks + 1
def sizes : List T → Nat
  | [] => 0
  | t :: r => size t + sizes r
end
theorem sizes_append : ∀ (a b : List T), sizes (a ++ b) = sizes a + sizes b
  | [], b => by simp [sizes]
  | t :: r, b => by simp [sizes, sizes_append r b]; omega
theorem size_kid {k : T} : ∀ {ks : List T}, k ∈ ks → size k ≤ sizes ks
  | t :: r, h => by
    rcases List.mem_cons.1 h with rfl | h
    · simp [sizes]
    · have := size_kid h; simp [sizes]; omega
def sorted : List T → Bool
  | [] => true
  | a :: r => (match r with
    | [] => true
    | b :: _ => decide (ord a b ≤ 0)) && sorted r
def shape (o n : Int) (d : List UInt8) (ks : List T) : Bool :=
  decide (d.length ≤ 8192) && decide (0 ≤ n ∧ n ≤ 1099511627776) && (decide (n = 0) || decide (o = 1)) && (decide (d.length = 0) || decide (o = 3 ∨ o = 4 ∨ o = 5 ∨ o = 6)) &&
    decide (1 ≤ o ∧ o ≤ 7) && (if o = 1 ∨ o = 5 then decide (ks.length = 0) else if o = 7 then decide (ks.length ≤ 4) else decide (ks.length = 1))
mutual
def rightD : T → Nat → Bool
  | .mk o n d ks, deep => decide (deep < 16) && shape o n d ks && rightsD ks (deep + 1) && sorted ks
def rightsD : List T → Nat → Bool
  | [], _ => true
  | k :: r, deep => rightD k deep && rightsD r deep
end
def right (t : T) : Bool := rightD t 0
theorem rightD_mk (o n : Int) (d : List UInt8) (ks : List T) (deep : Nat) : rightD (.mk o n d ks) deep = (decide (deep < 16) && shape o n d ks && rightsD ks (deep + 1) && sorted ks) := by rw [rightD]
theorem rightsD_iff : ∀ {ks : List T} {dp : Nat}, rightsD ks dp = true ↔ ∀ i (h : i < ks.length), rightD ks[i] dp = true
  | [], dp => by simp [rightsD]
  | k :: r, dp => by
    simp only [rightsD, Bool.and_eq_true]
    rw [rightsD_iff]
    constructor
    · rintro ⟨h1, h2⟩ i hi
      cases i with
      | zero => exact h1
      | succ n => exact h2 n (by simpa using hi)
    · intro h
      exact ⟨h 0 (by simp), fun i hi => h (i + 1) (by simpa using hi)⟩
theorem sorted_iff : ∀ {ks : List T}, sorted ks = true ↔ ∀ i (h : i + 1 < ks.length), ord ks[i] ks[i + 1] ≤ 0
  | [] => by simp [sorted]
  | [a] => by simp [sorted]
  | a :: b :: r => by
    have ih := sorted_iff (ks := b :: r)
    simp only [sorted, Bool.and_eq_true, decide_eq_true_eq] at ih ⊢
    rw [ih]
    constructor
    · rintro ⟨h1, h2⟩ i hi
      cases i with
      | zero => exact h1
      | succ n => exact h2 n (by simpa using hi)
    · intro h
      exact ⟨h 0 (by simp), fun i hi => h (i + 1) (by simpa using hi)⟩
theorem right_shape {t : T} (h : right t = true) : shape t.op t.num t.data t.kids = true ∧ rightsD t.kids 1 = true ∧ sorted t.kids = true := by
  obtain ⟨o, n, d, ks⟩ := t
  unfold right at h
  rw [rightD_mk] at h
  simp only [Bool.and_eq_true] at h
  exact ⟨h.1.1.2, h.1.2, h.2⟩
def zeroT : T := .mk 0 0 [] []
def put : List T → T → List T
  | [], x => [x]
  | a :: r, x => if ord a x ≤ 0 then a :: put r x else x :: a :: r
def backAt (ks : List T) (x : T) : Nat → Nat
  | 0 => 0
  | n + 1 => if 0 < ord (ks.getD n zeroT) x then backAt ks x n else n + 1
def putB (ks : List T) (x : T) : List T := ks.take (backAt ks x ks.length) ++ x :: ks.drop (backAt ks x ks.length)
def sortB : List T → List T → List T
  | acc, [] => acc
  | acc, k :: r => sortB (putB acc k) r
mutual
def norm : T → T
  | .mk o n d ks => .mk o n d (if o = 7 then sortB [] (norms ks) else norms ks)
def norms : List T → List T
  | [] => []
  | k :: r => norm k :: norms r
end
end Go.Proofs.YtnjomdjkbbhdoaaDoor
namespace Go.Proofs.YtnjomdjkbbhdoaaDoor
open Go.RowKit
set_option linter.unusedVariables false
def byteV (b : UInt8) : Value := .int .u8 (b.toNat : Int)
def maxData : Nat := 140737488351232
def maxKids : Nat := 2199023255552
def BytesV (σ : Hp) (v : Value) (d : List UInt8) : Prop :=
  ∃ p c, v = .slice p d.length c ∧ d.length ≤ c ∧ d.length ≤ maxData ∧ (d = [] ∨ ∃ b o, p = some ⟨b, o, none⟩ ∧ CellsAt σ b o (d.map byteV))
mutual
def TermC (σ : Hp) : List Value → T → Prop
  | cs, .mk o n d ks => ∃ dv p c, cs = [.int .i64 o, .int .i64 n, dv, .slice p ks.length c] ∧ (-9223372036854775808 ≤ o ∧ o ≤ 9223372036854775807) ∧
      (-9223372036854775808 ≤ n ∧ n ≤ 9223372036854775807) ∧ BytesV σ dv d ∧ ks.length ≤ c ∧ ks.length ≤ maxKids ∧ (ks = [] ∨ ∃ b f, p = some ⟨b, f, none⟩ ∧ ElemsC σ b f ks)
def ElemsC (σ : Hp) (b : Nat) : Nat → List T → Prop
  | _, [] => True
  | f, t :: r => (∃ cs, CellsAt σ b f cs ∧ TermC σ cs t) ∧ ElemsC σ b (f + 4) r
end
def KidsV (σ : Hp) (v : Value) (ks : List T) : Prop :=
  ∃ p c, v = .slice p ks.length c ∧ ks.length ≤ c ∧ ks.length ≤ maxKids ∧ (ks = [] ∨ ∃ b f, p = some ⟨b, f, none⟩ ∧ ElemsC σ b f ks)
theorem TermC.opn {σ : Hp} {cs : List Value} {t : T} (h : TermC σ cs t) : ∃ dv kv, cs = [.int .i64 t.op, .int .i64 t.num, dv, kv] ∧ (-9223372036854775808 ≤ t.op ∧ t.op ≤ 9223372036854775807) ∧
    (-9223372036854775808 ≤ t.num ∧ t.num ≤ 9223372036854775807) ∧ BytesV σ dv t.data ∧ KidsV σ kv t.kids := by
  cases t with
  | mk o n d ks =>
    simp only [TermC] at h
    obtain ⟨dv, p, c, h1, h2, h3, h4, h5, h6, h7⟩ := h
    exact ⟨dv, _, h1, h2, h3, h4, p, c, rfl, h5, h6, h7⟩
theorem TermC.mk {σ : Hp} {o n : Int} {d : List UInt8} {ks : List T} {dv kv : Value} (ho : -9223372036854775808 ≤ o ∧ o ≤ 9223372036854775807) (hn : -9223372036854775808 ≤ n ∧ n ≤ 9223372036854775807)
    (hd : BytesV σ dv d) (hk : KidsV σ kv ks) : TermC σ [.int .i64 o, .int .i64 n, dv, kv] (.mk o n d ks) := by
  obtain ⟨p, c, rfl, h5, h6, h7⟩ := hk
  simp only [TermC]
  exact ⟨dv, p, c, rfl, ho, hn, hd, h5, h6, h7⟩
theorem TermC.len {σ : Hp} {cs : List Value} {t : T} (h : TermC σ cs t) : cs.length = 4 := by
  obtain ⟨_, _, rfl, _⟩ := h.opn; rfl
theorem BytesV.le {σ τ : Hp} (h : Le σ τ) {v : Value} {d : List UInt8} (hb : BytesV σ v d) : BytesV τ v d := by
  obtain ⟨p, c, h1, h2, h3, h4⟩ := hb
  refine ⟨p, c, h1, h2, h3, ?_⟩
  rcases h4 with h4 | ⟨b, o, h5, h6⟩
  · exact .inl h4
  · exact .inr ⟨b, o, h5, h6.le h⟩
mutual
theorem TermC.le {σ τ : Hp} (h : Le σ τ) : ∀ {t : T} {cs : List Value}, TermC σ cs t → TermC τ cs t
  | .mk o n d ks, cs, ht => by
    simp only [TermC] at ht ⊢
    obtain ⟨dv, p, c, h1, h2, h3, h4, h5, h6, h7⟩ := ht
    refine ⟨dv, p, c, h1, h2, h3, h4.le h, h5, h6, ?_⟩
    rcases h7 with h7 | ⟨b, f, h8, h9⟩
    · exact .inl h7
    · exact .inr ⟨b, f, h8, ElemsC.le h h9⟩
theorem ElemsC.le {σ τ : Hp} (h : Le σ τ) {b : Nat} : ∀ {ks : List T} {f : Nat}, ElemsC σ b f ks → ElemsC τ b f ks
  | [], f, _ => by simp only [ElemsC]
  | t :: r, f, ht => by
    simp only [ElemsC] at ht ⊢
    obtain ⟨⟨cs, h1, h2⟩, h3⟩ := ht
    exact ⟨⟨cs, h1.le h, TermC.le h h2⟩, ElemsC.le h h3⟩
end
theorem KidsV.le {σ τ : Hp} (h : Le σ τ) {v : Value} {ks : List T} (hk : KidsV σ v ks) : KidsV τ v ks := by
  obtain ⟨p, c, h1, h2, h3, h4⟩ := hk
  refine ⟨p, c, h1, h2, h3, ?_⟩
  rcases h4 with h4 | ⟨b, f, h5, h6⟩
  · exact .inl h4
  · exact .inr ⟨b, f, h5, h6.le h⟩
theorem ElemsC.get {σ : Hp} {b : Nat} : ∀ {ks : List T} {f : Nat}, ElemsC σ b f ks → ∀ (i : Nat) (h : i < ks.length), ∃ cs, CellsAt σ b (f + i * 4) cs ∧ TermC σ cs ks[i]
  | [], f, _, i, h => absurd h (Nat.not_lt_zero _)
  | t :: r, f, ht, i, h => by
    simp only [ElemsC] at ht
    cases i with
    | zero => simpa using ht.1
    | succ n =>
      obtain ⟨cs, h1, h2⟩ := ht.2.get n (by simpa using h)
      exact ⟨cs, by rw [show f + (n + 1) * 4 = f + 4 + n * 4 by omega]; exact h1, by simpa using h2⟩
theorem ElemsC.of {σ : Hp} {b : Nat} : ∀ {ks : List T} {f : Nat}, (∀ (i : Nat) (h : i < ks.length), ∃ cs, CellsAt σ b (f + i * 4) cs ∧ TermC σ cs ks[i]) → ElemsC σ b f ks
  | [], f, _ => by simp only [ElemsC]
  | t :: r, f, h => by
    simp only [ElemsC]
    have h0 : ∃ cs, CellsAt σ b (f + 0 * 4) cs ∧ TermC σ cs t := h 0 (Nat.zero_lt_succ _)
    rw [Nat.zero_mul, Nat.add_zero] at h0
    refine ⟨h0, ElemsC.of fun i hi => ?_⟩
    obtain ⟨cs, h1, h2⟩ := h (i + 1) (by simpa using hi)
    exact ⟨cs, by rw [show f + 4 + i * 4 = f + (i + 1) * 4 by omega]; exact h1, by simpa using h2⟩
theorem KidsV.get {σ : Hp} {v : Value} {ks : List T} (h : KidsV σ v ks) (i : Nat) (hi : i < ks.length) :
    ∃ b f c cs, v = .slice (some ⟨b, f, none⟩) ks.length c ∧ ks.length ≤ c ∧ CellsAt σ b (f + i * 4) cs ∧ TermC σ cs ks[i] := by
  obtain ⟨p, c, h1, h2, _, h4⟩ := h
  rcases h4 with h4 | ⟨b, f, h5, h6⟩
  · subst h4; exact absurd hi (Nat.not_lt_zero _)
  · obtain ⟨cs, h7, h8⟩ := h6.get i hi
    exact ⟨b, f, c, cs, by rw [h1, h5], h2, h7, h8⟩
theorem KidsV.slice {σ : Hp} {v : Value} {ks : List T} (h : KidsV σ v ks) : ∃ p c, v = .slice p ks.length c ∧ ks.length ≤ c ∧ ks.length ≤ maxKids := by
  obtain ⟨p, c, h1, h2, h3, _⟩ := h; exact ⟨p, c, h1, h2, h3⟩
theorem BytesV.slice {σ : Hp} {v : Value} {d : List UInt8} (h : BytesV σ v d) : ∃ p c, v = .slice p d.length c ∧ d.length ≤ c ∧ d.length ≤ maxData := by
  obtain ⟨p, c, h1, h2, h3, _⟩ := h; exact ⟨p, c, h1, h2, h3⟩
theorem KidsV.nil (σ : Hp) : KidsV σ (.slice none 0 0) [] := ⟨none, 0, rfl, Nat.le_refl _, Nat.zero_le _, .inl rfl⟩
theorem BytesV.nil (σ : Hp) : BytesV σ (.slice none 0 0) [] := ⟨none, 0, rfl, Nat.le_refl _, Nat.zero_le _, .inl rfl⟩
theorem CellsAt.ext_self (σ : Hp) {b : Nat} {arr : Array Value} {ty : TypeId} {fz : Nat × Nat} {o : Nat} {cs : List Value} (h : ∀ j v, cs[j]? = some v → arr[o + j]? = some v) :
    CellsAt (ext σ b (.cells arr ty fz)) b o cs := ⟨arr, ty, fz, Go.Proofs.YtnjomdjkbbhdoaaDoor.ext_self _ _ _, h⟩
def strOf (d : List UInt8) : ByteArray := ⟨d.toArray⟩
theorem strOf_toList (d : List UInt8) : (strOf d).toList = d := by
  rw [ByteArray.toList_eq]; simp [strOf]
theorem strOfNums_bytes (d : List UInt8) : strOfNums (d.map fun b => (b.toNat : Int)) = strOf d := by
  unfold strOfNums strOf
  congr 1
  simp [List.map_map, Function.comp_def]
theorem bytesLess_cmpB : ∀ (a b : List UInt8), Op.bytesLess a b = decide (cmpB a b = -1)
  | [], [] => by simp [Op.bytesLess, cmpB]
  | [], _ :: _ => by simp [Op.bytesLess, cmpB]
  | _ :: _, [] => by simp [Op.bytesLess, cmpB]
  | x :: r, y :: s => by
    unfold Op.bytesLess cmpB
    rw [bytesLess_cmpB r s]
    rcases u8_cases x y with h | h | h
    · simp [h]
    · subst h; simp
    · have : ¬ x = y := by rintro rfl; exact u8_irrefl x h
      simp [u8_asymm h, this, h]
section
variable {P : Program} {N : Nat} {L : TL} {S : World → Prop}
class ByteT (P : Program) (t : TypeId) : Prop where
  ok : ∃ e, P.underlying t = some (.slice e) ∧ P.underlying e = some (.int .u8)
theorem ex_tostr {s t : TypeId} {x : Operand} {v : Value} {d : List UInt8} {σ : Hp} [hs : ByteT P s] [ht : StrT P t] (hx : ev L x = some v) (hb : BytesV σ v d) (hi : ∀ w, S w → Imm σ w) :
    Ex P (.convert s t x) N L S (.string (strOf d)) := fun a w hf hS dd ty pos af g => by
  obtain ⟨e, h1, h2⟩ := hs.ok
  obtain ⟨p, c, rfl, _, _, h4⟩ := hb
  have key : (convert s t (.slice p d.length c)).run P w = .ok (.string (strOf d)) w := by
    rcases h4 with h4 | ⟨b, o, h5, h6⟩
    · subst h4
      rw [show ([] : List UInt8).length = 0 from rfl, run_convert_bytes_string w s t e p 0 c h1 h2 ht.ok]
      cases p with
      | none => simp [Conv.bytesToString, strOf]; rfl
      | some ad => 
        have hl : (loadCells ad 0).run P w = .ok (([] : List Int).map (Value.int .u8)).toArray w := by simp [loadCells, loadCellsFrom]
        rw [run_bytesToString w ad 0 c [] hl]
        rfl
    · subst h5
      have := run_convert_bytes_arg (P := P) w s e h1 h2 b o d.length c (d.map fun b => (b.toNat : Int)) (by simp) (fun i hi' => by
        have hr := h6.range (hi w hS) i (byteV d[i]) (by simp [List.getElem?_map, List.getElem?_eq_getElem hi'])
        rw [hr]
        simp [byteV, hi']) t ht.ok
      rw [this, strOfNums_bytes]
  simp [execOp, hf.eval hx, key]
theorem ex_strlss {t u : TypeId} {x y : Operand} {a b : List UInt8} (hx : ev L x = some (.string (strOf a))) (hy : ev L y = some (.string (strOf b))) :
    Ex P (.binOp .lss t x y u) N L S (.bool (decide (cmpB a b = -1))) := fun ac w hf hS d ty pos af g => by
  simp [execOp, hf.eval hx, hf.eval hy, eqGuard, binOp, Op.stringOp, strOf_toList, bytesLess_cmpB]
theorem ex_strgtr {t u : TypeId} {x y : Operand} {a b : List UInt8} (hx : ev L x = some (.string (strOf a))) (hy : ev L y = some (.string (strOf b))) :
    Ex P (.binOp .gtr t x y u) N L S (.bool (decide (cmpB a b = 1))) := fun ac w hf hS d ty pos af g => by
  have h : (!(decide (cmpB a b = -1) || a == b)) = decide (cmpB a b = 1) := by
    rcases cmpB_tri a b with e | e | e
    · simp [e]
    · have := cmpB_zero.1 e; subst this; simp [e]
    · have : ¬ a = b := fun h => by subst h; rw [cmpB_self] at e; cases e
      simp [e, this]
  simp [execOp, hf.eval hx, hf.eval hy, eqGuard, binOp, Op.stringOp, strOf_toList, bytesLess_cmpB]
  simpa using h
end
end Go.Proofs.YtnjomdjkbbhdoaaDoor
namespace Go.Proofs.YtnjomdjkbbhdoaaDoor
open Go.RowKit
set_option linter.unusedVariables false
set_option linter.unusedSectionVars false
def argL (k : Nat) : List Value → TL
  | [] => []
  | v :: r => (k, v) :: argL (k + 1) r
theorem lk_argL : ∀ (vs : List Value) (k i : Nat) (v : Value), lk (argL k vs) i = some v → k ≤ i ∧ vs[i - k]? = some v
  | [], _, _, _, h => by cases h
  | u :: r, k, i, v, h => by
    simp only [argL] at h
    rw [lk_cons] at h
    split at h
    · rename_i e; subst e; cases h; simp
    · rename_i e
      obtain ⟨h1, h2⟩ := lk_argL r (k + 1) i v h
      refine ⟨by omega, ?_⟩
      rw [show i - k = (i - (k + 1)) + 1 by omega]
      simpa using h2
theorem enter {P : Program} {f : FuncId} {fn : Func} {c : Code} {vs : List Value} {w : World} {R : Ending → World → Prop} {N : Nat} (S : World → Prop) (hf : P.funcs[f]? = some fn) (hb : fn.body = some c)
    (hn : fn.ntmps = N) (hle : Nat.ble vs.length N = true) (hS : S w) (h : CW P c (bodyPost P fn R) N (argL 0 vs) S) : Calls P f vs.toArray w R := by
  refine calls_of_wp hf hb (h _ w ⟨rfl, ?_, fun i v hv => ?_⟩ hS)
  · have : vs.length ≤ N := Nat.le_of_ble_eq_true hle
    simp [hn]; omega
  · obtain ⟨_, h2⟩ := lk_argL vs 0 i v hv
    have hi : i < vs.length := by have := (List.getElem?_eq_some_iff.1 h2).1; omega
    simp at h2
    have h3 := (List.getElem?_eq_some_iff.1 h2).2
    simp [Array.getElem?_append, hi, h3]
section
variable {P : Program} {fn : Func} {R : Ending → World → Prop} {N : Nat} {L : TL} {S : World → Prop}
theorem getD_of {a : Act} {t : Nat} {v : Value} (hf : Fr N L a) (hl : lk L t = some v) : a.tmps[t]?.getD undef = v := by rw [hf.get t v hl]; rfl
theorem qw_end0 (hr : fn.results = #[]) (h : ∀ w, S w → R (.returned (.tuple #[])) w) : QW (bodyPost P fn R) .normal N L S := fun a w hf hs =>
  ⟨hf.df, .tuple #[], by simp [results, hr], h w hs⟩
theorem qw_ret1 {t : Nat} {v : Value} (hr : fn.results = #[.tmp t]) (hl : lk L t = some v) (h : ∀ w, S w → R (.returned v) w) : QW (bodyPost P fn R) .ret N L S := fun a w hf hs =>
  ⟨hf.df, v, by simp [results, hr, getD_of hf hl], h w hs⟩
theorem qw_ret2 {t u : Nat} {v x : Value} (hr : fn.results = #[.tmp t, .tmp u]) (hl : lk L t = some v) (hl' : lk L u = some x) (h : ∀ w, S w → R (.returned (.tuple #[v, x])) w) :
    QW (bodyPost P fn R) .ret N L S := fun a w hf hs =>
  ⟨hf.df, .tuple #[v, x], by simp [results, hr, getD_of hf hl, getD_of hf hl'], h w hs⟩
theorem run_cell {ty k b o : Nat} {cs : List Value} [h : RowT P ty k] {w : World} (hl : cs.length = k) (hc : w.rangeAt b o cs) : (loadVar ty ⟨b, o, none⟩).run P w = .ok (.agg cs.toArray) w := by
  obtain ⟨d, h1, h2, h3⟩ := h.ok
  exact run_loadVar_mid w b o ty cs d hc h1 h2 (by rw [h3, hl])
theorem qw_retC {t ty k b o : Nat} {cs : List Value} [RowT P ty k] (hr : fn.results = #[.cell t ty]) (hl : lk L t = some (.pointer (some ⟨b, o, none⟩))) (hkc : cs.length = k ∧ ∀ w, S w → w.rangeAt b o cs)
    (h : ∀ w, S w → R (.returned (.agg cs.toArray)) w) : QW (bodyPost P fn R) .ret N L S := fun a w hf hs =>
  ⟨hf.df, .agg cs.toArray, by simp [results, hr, getD_of hf hl, asAddr, run_cell hkc.1 (hkc.2 w hs)], h w hs⟩
theorem qw_retC1 {t ty k b o u : Nat} {cs : List Value} {x : Value} [RowT P ty k] (hr : fn.results = #[.cell t ty, .tmp u]) (hl : lk L t = some (.pointer (some ⟨b, o, none⟩))) (hkc : cs.length = k ∧ ∀ w, S w → w.rangeAt b o cs) (hl' : lk L u = some x) (h : ∀ w, S w → R (.returned (.tuple #[.agg cs.toArray, x])) w) : QW (bodyPost P fn R) .ret N L S := fun a w hf hs =>
  ⟨hf.df, .tuple #[.agg cs.toArray, x], by simp [results, hr, getD_of hf hl, getD_of hf hl', asAddr, run_cell hkc.1 (hkc.2 w hs)], h w hs⟩
end
section
variable [DS] {P : Program} {Q : Exit → Act → World → Prop} {N : Nat} {L : TL} {S : World → Prop}
def Meet (N : Nat) (L : TL) (S : World → Prop) (a : Act) (w : World) : Prop := Fr N L a ∧ S w
theorem cw_cut {x y : Code} (L' : TL) (S' : World → Prop) (h1 : CW P x (Exit.then (Meet N L' S') Q) N L S) (h2 : CW P y Q N L' S') : CW P (.seq x y) Q N L S := fun a w hf hs =>
  wp_seq (wp_mono (h1 a w hf hs) (fun e a' w' h => by
    cases e with
    | normal => exact h2 a' w' h.1 h.2
    | _ => exact h))
theorem cw_cut1 {x y : Code} (d : Nat) (v : Value) (h1 : CW P x (Exit.then (Meet N ((d, v) :: L) S) Q) N L S) (h2 : CW P y Q N ((d, v) :: L) S) : CW P (.seq x y) Q N L S := cw_cut _ _ h1 h2
theorem qw_meet {L' : TL} {S' : World → Prop} (hl : subL L L') (hS : ∀ w, S w → S' w) : QW (Exit.then (Meet N L' S') Q) .normal N L S := fun a w hf hs => ⟨hf.sub hl, hS w hs⟩
end
section
variable [DS] {P : Program} {Q : Exit → Act → World → Prop} {N : Nat} {L : TL} {S : World → Prop} {α : Type}
def Rnd (N : Nat) (I : α → TL) (p : α → Prop) (μ : α → Nat) (S : World → Prop) (m : Nat) (a : Act) (w : World) : Prop := ∃ y, μ y < m ∧ p y ∧ Fr N (I y) a ∧ S w
theorem cw_loopS {c : Code} (I : α → TL) (p : α → Prop) (μ : α → Nat) (x0 : α) (hL : subL L (I x0)) (hp : p x0) (round : ∀ x, p x → CW P c (Exit.then (Rnd N I p μ S (μ x)) Q) N (I x) S) :
    CW P (.loop c) Q N L S :=
  cw_loop I (fun x w => p x ∧ S w) μ x0 hL (fun w hs => ⟨hp, hs⟩) (fun x => cw_and fun hx a w hf hs => wp_mono (round x hx a w hf hs) (fun e a' w' h => by
    cases e with
    | normal => obtain ⟨y, h1, h2, h3, h4⟩ := h; exact ⟨y, h1, h3, h2, h4⟩
    | _ => exact h))
theorem qw_roundS {I : α → TL} {p : α → Prop} {μ : α → Nat} {m : Nat} {S' : World → Prop} (y : α) (hmu : μ y < m) (hL : subL L (I y)) (hp : p y) (hS : ∀ w, S w → S' w := by exact fun w h => h) :
    QW (Exit.then (Rnd N I p μ S' m) Q) .normal N L S := fun a w hf hs => ⟨y, hmu, hp, hf.sub hL, hS w hs⟩
end
def nthV : List Value → Nat → Option Value
  | [], _ => none
  | v :: _, 0 => some v
  | _ :: r, n + 1 => nthV r n
def takeV : List Value → Nat → Option (List Value)
  | _, 0 => some []
  | [], _ + 1 => none
  | v :: r, n + 1 => match takeV r n with
    | some t => some (v :: t)
    | none => none
def dropV : List Value → Nat → List Value
  | l, 0 => l
  | [], _ + 1 => []
  | _ :: r, n + 1 => dropV r n
theorem nthV_eq : ∀ (l : List Value) (i : Nat), nthV l i = l[i]?
  | [], i => by simp [nthV]
  | v :: r, 0 => by simp [nthV]
  | v :: r, n + 1 => by rw [nthV, nthV_eq r n]; simp
theorem takeV_get : ∀ {l : List Value} {k : Nat} {cs : List Value}, takeV l k = some cs → cs.length = k ∧ ∀ (j : Nat) (v : Value), cs[j]? = some v → l[j]? = some v
  | l, 0, cs, h => by simp [takeV] at h; subst h; simp
  | [], k + 1, cs, h => by simp [takeV] at h
  | v :: r, k + 1, cs, h => by
    simp only [takeV] at h
    cases ht : takeV r k with
    | none => simp [ht] at h
    | some t =>
      rw [ht] at h
      cases h
      obtain ⟨h1, h2⟩ := takeV_get ht
      refine ⟨by simp [h1], fun j u hu => ?_⟩
      cases j with
      | zero => simpa using hu
      | succ j => exact h2 j u (by simpa using hu)
theorem dropV_eq : ∀ (l : List Value) (i : Nat), dropV l i = l.drop i
  | l, 0 => by simp [dropV]
  | [], i + 1 => by simp [dropV]
  | v :: r, i + 1 => by rw [dropV, dropV_eq r i]; simp
section
variable {w0 : World} {M : Nat → Prop} {σ : Hp} {H G : List (Nat × Obj)} {b o : Nat}
theorem ld_own1 (i : Nat) {arr : Array Value} {et : TypeId} {fz : Nat × Nat} {v : Value} (hH : H[i]? = some (b, .cells arr et fz)) (hv : nthV arr.toList o = some v) : ∀ w, St w0 M σ H G w → w.cell? ⟨b, o, none⟩ = some v := fun w hs => by
  rw [cell_of_blk (hs.own (List.mem_of_getElem? hH))]
  rw [nthV_eq] at hv
  simpa using hv
theorem ld_ownN (i : Nat) {arr : Array Value} {et : TypeId} {fz : Nat × Nat} {k : Nat} {cs : List Value} (hH : H[i]? = some (b, .cells arr et fz)) (hv : takeV (dropV arr.toList o) k = some cs) :
    cs.length = k ∧ ∀ w, St w0 M σ H G w → w.rangeAt b o cs := by
  obtain ⟨h1, h2⟩ := takeV_get hv
  refine ⟨h1, fun w hs j v hj => ?_⟩
  rw [cell_of_blk (hs.own (List.mem_of_getElem? hH))]
  have := h2 j v hj
  rw [dropV_eq, List.getElem?_drop] at this
  simpa using this
theorem ld_imm1 {v : Value} (h : CellsAt σ b o [v]) : ∀ w, St w0 M σ H G w → w.cell? ⟨b, o, none⟩ = some v := fun w hs => h.cell hs.im
theorem ld_immT {cs : List Value} {t : T} (h : CellsAt σ b o cs) (ht : TermC σ cs t) : cs.length = 4 ∧ ∀ w, St w0 M σ H G w → w.rangeAt b o cs := ⟨ht.len, fun w hs => h.range hs.im⟩
end
theorem ex_loadR {P : Program} {N : Nat} {L : TL} {S : World → Prop} {ty b o k : Nat} {x : Operand} {cs : List Value} [RowT P ty k] (h : ev L x = some (.pointer (some ⟨b, o, none⟩)))
    (hc : cs.length = k ∧ ∀ w, S w → w.rangeAt b o cs) : Ex P (.load ty x) N L S (.agg cs.toArray) := ex_loadN h hc.1 hc.2
section
variable [DS] {P : Program} {N : Nat} {L : TL} {w0 : World} {M : Nat → Prop} {σ : Hp} {H G : List (Nat × Obj)}
theorem exu_store1 (i : Nat) {ty b o : Nat} {x y : Operand} {v : Value} {arr : Array Value} {et : TypeId} [h : OneT P ty] (hx : ev L x = some (.pointer (some ⟨b, o, none⟩))) (hy : ev L y = some v)
    (hH : H[i]? = some (b, .cells arr et)) (hv : v.cells = #[v]) (ho : v.oneCell' = true) (hle0 : Nat.ble (o + 1) arr.size = true) :
    ExU P (.store ty x y) N L (St w0 M σ H G) (St w0 M σ (setH H i (.cells (over arr o [v]) et)) G) := by
  have hle := Nat.le_of_ble_eq_true hle0
  have := exu_store (P := P) (N := N) (w0 := w0) (M := M) (σ := σ) (G := G) (ty := ty) hx hy hH (by rw [hv]; exact (h.ok).choose_spec.2.2) (by rw [hv]; simp; omega) (by rw [hv]; simp [ho])
  rwa [hv] at this
theorem exu_storeN (i : Nat) {ty b o k : Nat} {x y : Operand} {cs : List Value} {arr : Array Value} {et : TypeId} [h : RowT P ty k] (hx : ev L x = some (.pointer (some ⟨b, o, none⟩)))
    (hy : ev L y = some (.agg cs.toArray)) (hH : H[i]? = some (b, .cells arr et)) (hl : cs.length = k) (ho : ∀ v ∈ cs, v.oneCell' = true) (hle0 : Nat.ble (o + k) arr.size = true) :
    ExU P (.store ty x y) N L (St w0 M σ H G) (St w0 M σ (setH H i (.cells (over arr o cs) et)) G) := by
  have hle := Nat.le_of_ble_eq_true hle0
  have := exu_store (P := P) (N := N) (w0 := w0) (M := M) (σ := σ) (G := G) (ty := ty) hx hy hH (by rw [(h.ok).choose_spec.2.2, ← hl]; simp [Value.cells]) (by simpa [Value.cells, hl] using hle)
    (Array.all_eq_true_iff_forall_mem.2 (fun v hv => ho v (by simpa [Value.cells] using hv)))
  simpa [Value.cells] using this
end
theorem TermC.one {σ : Hp} {cs : List Value} {t : T} (h : TermC σ cs t) : ∀ v ∈ cs, v.oneCell' = true := by
  obtain ⟨dv, kv, rfl, _, _, hb, hk⟩ := h.opn
  obtain ⟨p, c, rfl, _⟩ := hb.slice
  obtain ⟨p', c', rfl, _⟩ := hk.slice
  intro v hv
  simp at hv
  rcases hv with rfl | rfl | rfl | rfl <;> rfl
theorem lk_app {A B : TL} {i : Nat} (h : lk A i = none) : lk (A ++ B) i = lk B i := by
  induction A with
  | nil => rfl
  | cons p r ih =>
    obtain ⟨k, v⟩ := p
    rw [lk_cons] at h
    split at h
    · cases h
    · rename_i hk
      rw [List.cons_append, lk_cons, if_neg hk]
      exact ih h
theorem subL_cons {L L' : TL} {i : Nat} {v : Value} (h : lk L i = some v) (t : subL L L') : subL L ((i, v) :: L') := fun j u hj => by
  rw [lk_cons] at hj
  split at hj
  · rename_i e; subst e; cases hj; exact h
  · exact t j u hj
theorem subL_nil (L : TL) : subL L [] := fun i v h => by cases h
theorem lkv {L : TL} {i : Nat} {v u : Value} (h : lk L i = some v) (e : v = u) : lk L i = some u := by rw [h, e]
def clashX (d : Nat) (A : TL) : TL → Bool
  | [] => false
  | p :: r => match Nat.beq p.1 d with
    | true => clashX d A r
    | false => match lk A p.1 with
      | some _ => true
      | none => clashX d A r
theorem clashX_lk {d : Nat} {A : TL} : ∀ {B : TL}, clashX d A B = false → ∀ i v, i ≠ d → lk B i = some v → lk A i = none
  | [], _, i, v, _, h => by cases h
  | q :: r, h, i, v, hid, hi => by
    obtain ⟨k, u⟩ := q
    rw [lk_cons] at hi
    simp only [clashX] at h
    cases hb : Nat.beq k d with
    | true =>
      rw [hb] at h
      have : k = d := Nat.eq_of_beq_eq_true hb
      split at hi
      · rename_i e; exact absurd (e.symm.trans this) hid
      · exact clashX_lk h i v hid hi
    | false =>
      rw [hb] at h
      have h1 : lk A k = none := by
        cases e : lk A k with
        | none => rfl
        | some v => simp [e] at h
      simp only [h1] at h
      split at hi
      · rename_i e; subst e; exact h1
      · exact clashX_lk h i v hid hi
theorem subL_meet (k d : Nat) {L L0 : TL} {v : Value} (hv : lk L d = some v) (h : L.drop k = L0) (hc : clashX d (L.take k) L0 = false) : subL L ((d, v) :: L0) := fun i u hi => by
  rw [lk_cons] at hi
  split at hi
  · rename_i e; subst e; cases hi; exact hv
  · rename_i hid
    have e : L = L.take k ++ L0 := by rw [← h]; exact (List.take_append_drop k L).symm
    rw [e, lk_app (clashX_lk hc i u (fun e => hid (by first | exact e | exact e.symm)) hi)]
    exact hi
section
variable [DS] {P : Program} {l0 : List Oper} {Q : Exit → Act → World → Prop} {rest : List Oper} {N : Nat} {L : TL} {S : World → Prop} {d : Nat} {ty : TypeId} {pos : String}
  {af : Array Edge} {g : Option (Nat × Bool)} {op : Op}
def gb (l0 : List Oper) (L : TL) : Option (Nat × Bool) → Option Bool
  | none => none
  | some (j, want) => match nth l0 j with
    | some d => match lk L d with
      | some (.bool b) => some b
      | _ => none
    | none => none
theorem gd_gb {j : Nat} {want b : Bool} (h : gb l0 L (some (j, want)) = some b) : gd l0 L (some (j, want)) = some (b == want) := by
  simp only [gb] at h
  simp only [gd]
  cases hn : nth l0 j with
  | none => simp [hn] at h
  | some d =>
    rw [hn] at h
    simp only at h ⊢
    cases hl : lk L d with
    | none => simp [hl] at h
    | some v => cases v <;> simp [hl] at h ⊢; exact congrArg (· == want) h
theorem gd_go {j : Nat} {want b : Bool} (h : gb l0 L (some (j, want)) = some b) (hb : b = want) : gd l0 L (some (j, want)) = some true := by
  rw [gd_gb h, hb]; cases want <;> rfl
theorem gd_no {j : Nat} {want b : Bool} (h : gb l0 L (some (j, want)) = some b) (hb : b = !want) : gd l0 L (some (j, want)) = some false := by
  rw [gd_gb h, hb]; cases want <;> rfl
theorem ow_split {g : Option (Nat × Bool)} {b : Bool} {l : List Oper} (hb : gb l0 L g = some b) (ht : b = true → OW P l0 Q l N L S) (hf : b = false → OW P l0 Q l N L S) : OW P l0 Q l N L S := by
  cases b
  · exact hf rfl
  · exact ht rfl
theorem flow_split {L0 : TL} {fin : List KE → Prop} {i : Nat} {K : List KE} {dd : Option Nat} {b : Bool} (hb : gb l0 (tlK af.toList L0 K) g = some b)
    (ht : b = true → Flow P l0 L0 S N fin (⟨dd, op, ty, pos, af, g⟩ :: rest) i K) (hf : b = false → Flow P l0 L0 S N fin (⟨dd, op, ty, pos, af, g⟩ :: rest) i K) :
    Flow P l0 L0 S N fin (⟨dd, op, ty, pos, af, g⟩ :: rest) i K := by
  cases b
  · exact hf rfl
  · exact ht rfl
theorem ex_pickt {c x y : Operand} {b : Bool} {v : Value} (hc : ev L c = some (.bool b)) (hb : b = true) (h : ev L x = some v) : Ex P (.pick c x y) N L S v := by
  subst hb; exact ex_pick_t hc h
theorem ex_pickf {c x y : Operand} {b : Bool} {v : Value} (hc : ev L c = some (.bool b)) (hb : b = false) (h : ev L y = some v) : Ex P (.pick c x y) N L S v := by
  subst hb; exact ex_pick_f hc h
theorem cw_cond_k {c : Operand} {x y : Code} {b : Bool} (hc : ev L c = some (.bool b)) (hb : b = true) (ht : CW P x Q N L S) : CW P (.cond c x y) Q N L S := by subst hb; exact cw_cond_t hc ht
end
end Go.Proofs.YtnjomdjkbbhdoaaDoor
namespace Go.Proofs.YtnjomdjkbbhdoaaDoor
open Go.RowKit
set_option linter.unusedVariables false
set_option linter.unusedSectionVars false
def OwnSl (e size : Nat) (v : Value) (n : Nat) (xs : List Value) (Gs : List (Nat × Obj)) : Prop :=
  xs.length = n * size ∧ ((v = .slice none 0 0 ∧ n = 0 ∧ Gs = []) ∨
    ∃ g c cur, v = .slice (some ⟨g, 0, none⟩) n c ∧ Gs = [(g, .cells cur e (0, 0))] ∧ n ≤ c ∧ c ≤ maxLen ∧ cur.size = c * size ∧ cur.toList.take (n * size) = xs)
theorem OwnSl.nil (e size : Nat) : OwnSl e size (.slice none 0 0) 0 [] [] := ⟨by simp, .inl ⟨rfl, rfl, rfl⟩⟩
class AppT (P : Program) (t : TypeId) (e size bytes : outParam Nat) : Prop where
  ok : P.underlying t = some (.slice e) ∧ (∃ i z, P.info? e = some i ∧ i.zero = some z ∧ i.size = size ∧ i.bytes = bytes ∧ z.cells.size = size) ∧ 0 < size ∧ size ≤ 64
theorem St.drew {w0 w : World} {M : Nat → Prop} {σ : Hp} {H G : List (Nat × Obj)} (h : St w0 M σ H G w) : St w0 M σ H G w.drew := h.keep (Below.drewB w)
theorem st_append {P : Program} {t e size bytes : Nat} [hA : AppT P t e size bytes] {w0 w : World} {M : Nat → Prop} {σ : Hp} {H Gs Gr : List (Nat × Obj)} {v : Value} {n m c : Nat} {xs news : List Value} {p : Option Addr} {ty : TypeId}
    (hs : St w0 M σ H (Gs ++ Gr) w) (hO : OwnSl e size v n xs Gs) (hl : news.length = m * size) (hsrc : m = 0 ∨ ∃ b o, p = some ⟨b, o, none⟩ ∧ w.rangeAt b o news)
    (h1 : ∀ u ∈ news, u.oneCell' = true) (h63 : n + m ≤ maxLen) (hb : (n + m) * bytes ≤ 140737488355328) :
    ∃ v' w' Gs', (Builtin.append_ #[t, t] ty #[v, .slice p m c]).run P w = .ok v' w' ∧ OwnSl e size v' (n + m) (xs ++ news) Gs' ∧ St w0 M σ H (Gs' ++ Gr) w' ∧ (v' = .slice none 0 0 ↔ v = .slice none 0 0 ∧ m = 0) := by
  obtain ⟨ht, ⟨i, z, hi, hz, rfl, rfl, hzs⟩, hpos⟩ := hA.ok
  have hx := hO.1
  have hlen : (xs ++ news).length = (n + m) * i.size := by rw [List.length_append, hx, hl, Nat.add_mul]
  have h63' : n + m ≤ 9223372036854775807 := by unfold maxLen at h63; omega
  by_cases hm : m = 0
  · subst hm
    have hn : news = [] := List.eq_nil_of_length_eq_zero (by simpa using hl)
    subst hn
    refine ⟨v, w, Gs, ?_, by simpa using hO, hs, by simp⟩
    rcases hO.2 with ⟨rfl, rfl, rfl⟩ | ⟨g, cc, cur, rfl, rfl, h2, h3, h4, h5⟩
    · cases p <;> simp [Builtin.append_, run_underlying ht, sizeOf, typeInfo, hi, Builtin.lenOf, Builtin.firstCells, loadCells, loadCellsFrom]
    · cases p <;> simp [Builtin.append_, run_underlying ht, sizeOf, typeInfo, hi, Builtin.lenOf, Builtin.firstCells, loadCells, loadCellsFrom, h2, storeCells]
  · obtain ⟨b, o, rfl, hr⟩ := hsrc.resolve_left hm
    have hnews : ∀ j u, news[j]? = some u → w.cell? ((⟨b, o, none⟩ : Addr).add j) = some u := fun j u hj => by rw [addr_add]; exact hr j u hj
    have grown : ∀ (old : Nat), old < n + m → ∀ Gs0 : List (Nat × Obj), St w0 M σ H (Gs0 ++ Gr) w →
        ∃ g cc cur, OwnSl e i.size (.slice (some ⟨w.heap.size, 0, none⟩) (n + m) (grownCap w (n + m) old e)) (n + m) (xs ++ news) [(g, .cells cur e (0, 0))] ∧
          St w0 M σ H ([(g, .cells cur e (0, 0))] ++ Gr) (w.drew.alloc (.cells (xs.toArray ++ news.toArray ++ Builtin.zeroCells z.cells (grownCap w (n + m) old e - (n + m))) e)) ∧ cc = 0 := by
      intro old ho Gs0 hs0
      have hge := grownCap_ge w (n + m) old e
      have hcm : grownCap w (n + m) old e ≤ maxLen := grownCap_le_maxLen w (n + m) old e h63
      refine ⟨w.heap.size, 0, xs.toArray ++ news.toArray ++ Builtin.zeroCells z.cells (grownCap w (n + m) old e - (n + m)), ⟨hlen, .inr ⟨w.heap.size, _, _, rfl, rfl, hge, hcm, ?_, ?_⟩⟩, ?_, rfl⟩
      · simp only [Array.size_append, List.size_toArray, size_zeroCells, hzs, hx, hl, ← Nat.add_mul]
        congr 1
        omega
      · simp only [Array.toList_append, List.append_assoc]
        rw [← List.append_assoc, ← hlen]
        exact List.take_left
      · have h2 : St w0 M σ H Gr w.drew := (hs0.dropG (List.sublist_append_right _ _)).drew
        exact (h2.alloc _).toG
    rcases hO.2 with ⟨rfl, rfl, rfl⟩ | ⟨g, cc, cur, rfl, rfl, h2, h3, h4, h5⟩
    · have hx0 : xs = [] := List.eq_nil_of_length_eq_zero (by simpa using hx)
      subst hx0
      have hrun := run_append_nil (P := P) w t ty e i z ht hi hz ⟨b, o, none⟩ m c news hl hnews (by omega) (by omega) (by simp only [Nat.zero_add] at hb; omega)
      obtain ⟨g, _, cur, ho, hst, _⟩ := grown 0 (by omega) [] hs
      simp only [Nat.zero_add, List.nil_append, Array.empty_append] at ho hst ⊢
      exact ⟨_, _, _, hrun, ho, hst, by simp [hm]⟩
    · by_cases hroom : n + m ≤ cc
      · have hfit : n * i.size + news.length ≤ cur.size := by rw [hl, h4, ← Nat.add_mul]; exact Nat.mul_le_mul_right _ hroom
        have hg : w.heap[g]? = some (.cells cur e (0, 0)) := hs.ownG (p := (g, .cells cur e (0, 0))) (by simp)
        have hrun := run_append_room (P := P) w t ty e i ht hi g n cc cur hg ⟨b, o, none⟩ m c news hl hnews h1 hroom hfit
        rw [setRow_putBlk hg] at hrun
        refine ⟨_, _, [(g, .cells (cur.toList.take (n * i.size) ++ news ++ cur.toList.drop (n * i.size + news.length)).toArray e (0, 0))], hrun, ⟨hlen, .inr ⟨g, cc, _, rfl, rfl, hroom, h3, ?_, ?_⟩⟩,
          hs.putG (i := 0) rfl _, by simp⟩
        · simp only [List.size_toArray, List.length_append, List.length_take, List.length_drop, Array.length_toList]
          omega
        · rw [h5, ← hlen]
          exact List.take_left
      · have holds : ∀ j u, xs[j]? = some u → w.cell? ((⟨g, 0, none⟩ : Addr).add j) = some u := fun j u hj => by
          rw [addr_add, Nat.zero_add, cell_of_blk (hs.ownG (p := (g, .cells cur e (0, 0))) (by simp))]
          rw [← h5, List.getElem?_take] at hj
          split at hj
          · simpa using hj
          · cases hj
        have hrun := run_append_grow (P := P) w t ty e i z ht hi hz ⟨g, 0, none⟩ n cc xs hx holds ⟨b, o, none⟩ m c news hl hnews (by omega) (by omega) (growslice_fits (by omega) hb)
        obtain ⟨g', _, cur', ho, hst, _⟩ := grown cc (by omega) _ hs
        exact ⟨_, _, _, hrun, ho, hst, by simp⟩
section
variable [DS] {P : Program} {N : Nat} {L : TL} {w0 : World} {M : Nat → Prop} {σ : Hp} {H Gs Gr : List (Nat × Obj)}
theorem exw_append {t e size bytes n m c : Nat} [AppT P t e size bytes] {x y : Operand} {v : Value} {xs news : List Value} {p : Option Addr} (hx : ev L x = some v) (hy : ev L y = some (.slice p m c))
    (hO : OwnSl e size v n xs Gs) (hl : news.length = m * size) (hsrc : m = 0 ∨ ∃ b o, p = some ⟨b, o, none⟩ ∧ ∀ w, St w0 M σ H (Gs ++ Gr) w → w.rangeAt b o news)
    (h1 : ∀ u ∈ news, u.oneCell' = true) (h63 : n + m ≤ maxLen) (hb : (n + m) * bytes ≤ 140737488355328) :
    ExW P (.call { callee := .builtin .append, args := #[x, y], argTypes := #[t, t] }) N L (St w0 M σ H (Gs ++ Gr))
      (fun v' w' => ∃ Gs', OwnSl e size v' (n + m) (xs ++ news) Gs' ∧ (v' = .slice none 0 0 ↔ v = .slice none 0 0 ∧ m = 0) ∧ St w0 M σ H (Gs' ++ Gr) w') := fun a w hf hs d ty pos af g => by
  obtain ⟨v', w', Gs', h2, h3, h4, h5⟩ := st_append (P := P) (t := t) (ty := ty) (c := c) (p := p) hs hO hl (hsrc.imp id fun ⟨b, o, e1, h⟩ => ⟨b, o, e1, h w hs⟩) h1 h63 hb
  exact ⟨v', w', by simp [execOp, resolve, invoke, builtin, hf.eval hx, hf.eval hy, h2], Gs', h3, h5, h4⟩
theorem ow_app {l0 : List Oper} {Q : Exit → Act → World → Prop} {rest : List Oper} {d : Nat} {ty : TypeId} {pos : String} {af : Array Edge} {g : Option (Nat × Bool)} {op : Op} {R : Value → List (Nat × Obj) → Prop} {z : Value → Prop}
    (hN : Nat.blt d N = true) (hg : gd l0 L g = some true)
    (h : ExW P op N L (St w0 M σ H (Gs ++ Gr)) (fun v' w' => ∃ Gs', R v' Gs' ∧ z v' ∧ St w0 M σ H (Gs' ++ Gr) w'))
    (k : ∀ v' Gs', R v' Gs' → z v' → OW P l0 Q rest N ((d, v') :: L) (St w0 M σ H (Gs' ++ Gr))) : OW P l0 Q (⟨some d, op, ty, pos, af, g⟩ :: rest) N L (St w0 M σ H (Gs ++ Gr)) :=
  ow_w hN hg h fun v' a w hf ⟨Gs', h1, hz, h2⟩ => k v' Gs' h1 hz a w hf h2
def partsV (L : TL) : List (Nat × Operand) → Option (List (Nat × Value))
  | [] => some []
  | p :: r => match ev L p.2 with
    | some v => match partsV L r with
      | some vs => some ((p.1, v) :: vs)
      | none => none
    | none => none
theorem partsV_map {a : Act} (hf : Fr N L a) : ∀ (l : List (Nat × Operand)) (vs : List (Nat × Value)), partsV L l = some vs → l.map (fun p => (p.1, a.eval p.2)) = vs
  | [], vs, h => by simp [partsV] at h; simp [h]
  | p :: r, vs, h => by
    simp only [partsV] at h
    cases hx : ev L p.2 with
    | none => simp [hx] at h
    | some v =>
      cases hr : partsV L r with
      | none => simp [hx, hr] at h
      | some us =>
        simp [hx, hr] at h
        subst h
        simp [hf.eval hx, partsV_map hf r us hr]
class BuildT (P : Program) (t : TypeId) (f : outParam (List (Nat × Value) → Option (Array Value))) : Prop where
  ok : ∀ parts, P.built t parts = f parts
theorem ex_build {t : TypeId} {S : World → Prop} {parts : List (Nat × Operand)} {vs : List (Nat × Value)} {cells : Array Value} (hp : partsV L parts = some vs) (hb : P.built t vs = some cells) :
    Ex P (.build t parts.toArray) N L S (.agg cells) := fun a w hf hs d ty pos af g => by
  have e : (parts.toArray.map fun x => (x.1, a.eval x.2)) = vs.toArray := by
    rw [← partsV_map hf parts vs hp]; simp
  simp [execOp, e, run_build w t vs.toArray cells (by simpa using hb)]
theorem exw_slit {t e len : Nat} {parts : List (Nat × Operand)} {vs : List (Nat × Value)} {cells : Array Value} (hp : partsV L parts = some vs) (hu : P.underlying t = some (.slice e))
    (hi : ∃ ie z, P.info? e = some ie ∧ ie.zero = some z ∧ ¬ len * ie.size > 2 ^ 24 ∧ (if len * ie.size = 0 then vs = [] ∧ cells = #[] else
      Instr.fill (fun i => some (i * ie.size, ie.size)) ((Array.range (len * ie.size)).map (z.cells[· % z.cells.size]!)) vs = some cells)) :
    ExW P (.buildSlice t len parts.toArray) N L (St w0 M σ H Gr) (fun u w => ∃ b, u = .slice (some ⟨b, 0, none⟩) len len ∧ St w0 M σ ((b, .cells cells e) :: H) Gr w) := fun a w hf hs d ty pos af g => by
  obtain ⟨ie, z, h1, h2, h3, h4⟩ := hi
  have em : (parts.toArray.map fun x => (x.1, a.eval x.2)) = vs.toArray := by
    rw [← partsV_map hf parts vs hp]; simp
  refine ⟨.slice (some ⟨w.heap.size, 0, none⟩) len len, w.alloc (.cells cells e), ?_, w.heap.size, rfl, hs.alloc _⟩
  by_cases h0 : len * ie.size = 0
  · rw [if_pos h0] at h4
    obtain ⟨rfl, rfl⟩ := h4
    simp [execOp, em, Instr.buildSlice, run_underlying hu, sizeOf, typeInfo, h1, h0, Instr.fill, newRow]
    rw [show (Array.range 0) = #[] from by simp]
    simp
  · rw [if_neg h0] at h4
    simp [execOp, em, run_buildSlice w t e len vs.toArray cells ie z hu h1 h2 h3 h0 (by simpa using h4)]
theorem ow_slit {l0 : List Oper} {Q : Exit → Act → World → Prop} {rest : List Oper} {d len e : Nat} {cells : Array Value} {ty : TypeId} {pos : String} {af : Array Edge} {g : Option (Nat × Bool)} {op : Op}
    (hN : Nat.blt d N = true) (hg : gd l0 L g = some true)
    (h : ExW P op N L (St w0 M σ H Gr) (fun u w => ∃ b, u = .slice (some ⟨b, 0, none⟩) len len ∧ St w0 M σ ((b, .cells cells e) :: H) Gr w))
    (k : ∀ b, OW P l0 Q rest N ((d, .slice (some ⟨b, 0, none⟩) len len) :: L) (St w0 M σ ((b, .cells cells e) :: H) Gr)) : OW P l0 Q (⟨some d, op, ty, pos, af, g⟩ :: rest) N L (St w0 M σ H Gr) :=
  ow_w hN hg h fun u a w hf ⟨b, hu, hs⟩ => by subst hu; exact k b a w hf hs
theorem exw_slit0 {t e size bytes : Nat} [h : AppT P t e size bytes] :
    ExW P (.buildSlice t 0 #[]) N L (St w0 M σ H Gr) (fun u w => ∃ b, u = .slice (some ⟨b, 0, none⟩) 0 0 ∧ St w0 M σ ((b, .cells #[] e) :: H) Gr w) := by
  obtain ⟨h1, ⟨i, z, h2, h3, _⟩, _⟩ := h.ok
  exact exw_slit (parts := []) (vs := []) rfl h1 ⟨i, z, h2, h3, by simp, by simp⟩
theorem fill_one {size : Nat} {arr : Array Value} {v : Value} (h1 : arr.size = size) (h2 : v.cells.size = size) : Instr.fill (fun i => some (i * size, size)) arr [(0, v)] = some v.cells := by
  have key : ∀ (l : List Value) (k : Nat) (a : Array Value), k + l.length ≤ a.size → (l.zipIdx k).foldl (fun cs p => cs.setIfInBounds (0 + p.2) p.1) a = (a.toList.take k ++ l ++ a.toList.drop (k + l.length)).toArray := by
    intro l
    induction l with
    | nil => intro k a _; simp
    | cons x r ih =>
      intro k a hk
      simp only [List.length_cons] at hk
      rw [List.zipIdx_cons, List.foldl_cons, ih (k + 1) _ (by simp; omega)]
      apply congrArg List.toArray
      have hka : k < a.toList.length := by simp; omega
      simp only [Nat.zero_add, Array.toList_setIfInBounds]
      rw [List.take_succ_eq_append_getElem (by simpa using hka), List.getElem_set_self, List.take_set_of_le (Nat.le_refl k), List.drop_set_of_lt (by omega)]
      simp [Nat.add_assoc, Nat.add_comm 1]
  have hz : ∀ (b : Array Value) (a : Array Value), b.zipIdx.foldl (fun cs p => cs.setIfInBounds (0 + p.2) p.1) a = (b.toList.zipIdx 0).foldl (fun cs p => cs.setIfInBounds (0 + p.2) p.1) a := by
    intro b a
    rw [← Array.foldl_toList, Array.toList_zipIdx]
  simp only [Instr.fill, Nat.zero_mul, Nat.zero_add]
  rw [if_neg (by simp [h1, h2])]
  have := hz v.cells arr
  simp only [Nat.zero_add] at this
  rw [this]
  have h3 := key v.cells.toList 0 arr (by simp [h1, h2])
  simp only [Nat.zero_add] at h3
  rw [h3, List.take_zero, List.nil_append, List.drop_eq_nil_of_le (by simp [h1, h2]), List.append_nil]
theorem exw_slit1 {t e size bytes : Nat} [h : AppT P t e size bytes] {x : Operand} {v : Value} (hx : ev L x = some v) (hv : v.cells.size = size) :
    ExW P (.buildSlice t 1 #[(0, x)]) N L (St w0 M σ H Gr) (fun u w => ∃ b, u = .slice (some ⟨b, 0, none⟩) 1 1 ∧ St w0 M σ ((b, .cells v.cells e) :: H) Gr w) := by
  obtain ⟨h1, ⟨i, z, h2, h3, h4, _, h6⟩, h7⟩ := h.ok
  refine exw_slit (parts := [(0, x)]) (vs := [(0, v)]) (by simp [partsV, hx]) h1 ⟨i, z, h2, h3, by rw [h4]; omega, ?_⟩
  rw [if_neg (by omega)]
  exact fill_one (by simp [h4]) (by omega)
theorem run_slit1 {t e size bytes : Nat} [h : AppT P t e size bytes] {x : Operand} {v : Value} {a : Act} {w : World} (hf : Fr N L a) (hx : ev L x = some v) (hv : v.cells.size = size) (d : Option Tmp) (ty : TypeId) (pos : String)
    (af : Array Edge) (g : Option (Nat × Bool)) :
    (execOp a.eval ⟨d, .buildSlice t 1 #[(0, x)], ty, pos, af, g⟩).run P w = .ok (.value (.slice (some ⟨w.heap.size, 0, none⟩) 1 1)) (w.alloc (.cells v.cells e)) := by
  obtain ⟨h1, ⟨i, z, h2, h3, h4, _, h6⟩, h7⟩ := h.ok
  have hsm : ¬ 1 * i.size > 2 ^ 24 := by rw [h4]; omega
  have hp : ¬ 1 * i.size = 0 := by rw [h4]; omega
  have := run_buildSlice (P := P) w t e 1 #[(0, v)] v.cells i z h1 h2 h3 hsm hp (fill_one (by simp) (by omega))
  simp [execOp, hf.eval hx, this]
theorem exw_append1 {t e size bytes n m c : Nat} [AppT P t e size bytes] {x y : Operand} {v : Value} {xs news : List Value} {p : Option Addr} (hx : ev L x = some v) (hy : ev L y = some (.slice p m c))
    (hO : OwnSl e size v n xs Gs) (hl : news.length = m * size) (hsrc : m = 0 ∨ ∃ b o, p = some ⟨b, o, none⟩ ∧ ∀ w, St w0 M σ H Gs w → w.rangeAt b o news)
    (h1 : ∀ u ∈ news, u.oneCell' = true) (h63 : n + m ≤ maxLen) (hb : (n + m) * bytes ≤ 140737488355328) :
    ExW P (.call { callee := .builtin .append, args := #[x, y], argTypes := #[t, t] }) N L (St w0 M σ H Gs)
      (fun v' w' => ∃ Gs', OwnSl e size v' (n + m) (xs ++ news) Gs' ∧ (v' = .slice none 0 0 ↔ v = .slice none 0 0 ∧ m = 0) ∧ St w0 M σ H Gs' w') := by
  have := exw_append (P := P) (N := N) (L := L) (w0 := w0) (M := M) (σ := σ) (H := H) (Gs := Gs) (Gr := []) (t := t) hx hy hO hl (by simpa using hsrc) h1 h63 hb
  simpa using this
theorem ow_app1 {l0 : List Oper} {Q : Exit → Act → World → Prop} {rest : List Oper} {d : Nat} {ty : TypeId} {pos : String} {af : Array Edge} {g : Option (Nat × Bool)} {op : Op} {R : Value → List (Nat × Obj) → Prop} {z : Value → Prop}
    (hN : Nat.blt d N = true) (hg : gd l0 L g = some true)
    (h : ExW P op N L (St w0 M σ H Gs) (fun v' w' => ∃ Gs', R v' Gs' ∧ z v' ∧ St w0 M σ H Gs' w'))
    (k : ∀ v' Gs', R v' Gs' → z v' → OW P l0 Q rest N ((d, v') :: L) (St w0 M σ H Gs')) : OW P l0 Q (⟨some d, op, ty, pos, af, g⟩ :: rest) N L (St w0 M σ H Gs) :=
  ow_w hN hg h fun v' a w hf ⟨Gs', h1, hz, h2⟩ => k v' Gs' h1 hz a w hf h2
theorem OwnSl.lit0 (e size b : Nat) : OwnSl e size (.slice (some ⟨b, 0, none⟩) 0 0) 0 [] [(b, .cells #[] e (0, 0))] := ⟨by simp, .inr ⟨b, 0, #[], rfl, rfl, Nat.le_refl _, Nat.zero_le _, by simp, by simp⟩⟩
end
end Go.Proofs.YtnjomdjkbbhdoaaDoor
namespace Go.Proofs.YtnjomdjkbbhdoaaDoor
open Go.RowKit
set_option linter.unusedVariables false
set_option linter.unusedSectionVars false
def Fresh (σ τ : Hp) (w : World) : Prop := ∀ b o, τ b = some o → σ b = some o ∨ w.heap.size ≤ b
theorem Fresh.refl (σ : Hp) (w : World) : Fresh σ σ w := fun _ _ h => .inl h
theorem Fresh.trans {a b c : Hp} {w : World} (h : Fresh a b w) (k : Fresh b c w) : Fresh a c w := fun x o e => by
  rcases k x o e with e' | e'
  · exact h x o e'
  · exact .inr e'
theorem Fresh.mono {a b : Hp} {w w' : World} (h : Fresh a b w') (hs : w.heap.size ≤ w'.heap.size) : Fresh a b w := fun x o e => (h x o e).imp id (fun h => Nat.le_trans hs h)
def GiveR (Rep : Hp → Value → Prop) (σ : Hp) (w : World) (e : Ending) (w' : World) : Prop :=
  ∃ v σ', e = .returned v ∧ Le σ σ' ∧ Fresh σ σ' w ∧ Imm σ' w' ∧ Rep σ' v ∧ Below w.heap.size w w'
def RepT (t : T) (σ : Hp) (v : Value) : Prop := ∃ cs, v = .agg cs.toArray ∧ TermC σ cs t
def RepTB (t : T) (b : Bool) (σ : Hp) (v : Value) : Prop := ∃ cs, v = .tuple #[.agg cs.toArray, .bool b] ∧ TermC σ cs t
def RepK (ks : List T) (σ : Hp) (v : Value) : Prop := KidsV σ v ks
theorem St.after {w0 w w' : World} {M : Nat → Prop} {σ σ' : Hp} {H G : List (Nat × Obj)} (h : St w0 M σ H G w) (hf : Fresh σ σ' w) (hi : Imm σ' w') (hb : Below w.heap.size w w') : St w0 M σ' H G w' := by
  refine St.le (h.keep hb) hi fun p hp => ?_
  cases e : σ' p.1 with
  | none => rfl
  | some o =>
    rcases hf p.1 o e with h1 | h1
    · rw [h.fresh hp] at h1; cases h1
    · exact absurd (h.lt hp) (Nat.not_lt.2 h1)
theorem St.gives {w0 w : World} {σ σ' : Hp} {H G : List (Nat × Obj)} {Rep : Hp → Value → Prop} {v : Value} (h : St w0 (fun _ => False) σ' H G w) (hl : Le σ σ') (hf : Fresh σ σ' w0) (hr : Rep σ' v) :
    GiveR Rep σ w0 (.returned v) w := ⟨v, σ', rfl, hl, hf, h.im, hr, h.ag.below⟩
section
variable [DS] {P : Program} {l0 : List Oper} {Q : Exit → Act → World → Prop} {rest : List Oper} {N : Nat} {L : TL} {d : Nat} {ty : TypeId} {pos : String}
  {af : Array Edge} {g : Option (Nat × Bool)} {op : Op} {w0 : World} {M : Nat → Prop} {σ : Hp} {H G : List (Nat × Obj)} {Rep : Hp → Value → Prop}
def TR (Rep : Hp → Value → Prop) (σ : Hp) (w : World) (u : Value) (w' : World) : Prop := ∃ σ', Le σ σ' ∧ Fresh σ σ' w ∧ Imm σ' w' ∧ Rep σ' u ∧ Below w.heap.size w w'
theorem callR {f : FuncId} {args : Array Value} {w : World} (h : Calls P f args w (GiveR Rep σ w)) : Calls P f args w fun e w' => ∃ u, e = .returned u ∧ TR Rep σ w u w' :=
  h.mono fun e w' ⟨v, σ', he, h1, h2, h3, h4, h5⟩ => ⟨v, he, σ', h1, h2, h3, h4, h5⟩
theorem ow_cr (hN : Nat.blt d N = true) (hg : gd l0 L g = some true) (h : ExC P op N L (St w0 M σ H G) (TR Rep σ))
    (k : ∀ u σ', Le σ σ' → Fresh σ σ' w0 → Rep σ' u → OW P l0 Q rest N ((d, u) :: L) (St w0 M σ' H G)) : OW P l0 Q (⟨some d, op, ty, pos, af, g⟩ :: rest) N L (St w0 M σ H G) :=
  ow_c hN hg h fun u a w' hf ⟨w, hs, σ', h1, h2, h3, h4, h5⟩ => k u σ' h1 (h2.mono hs.ag.size) h4 a w' hf (hs.after h2 h3 h5)
end
class MonoR (Rep : Hp → Value → Prop) : Prop where
  mono : ∀ {σ τ : Hp} {v : Value}, Le σ τ → Rep σ v → Rep τ v
instance (t : T) : MonoR (RepT t) := ⟨fun hl ⟨cs, e, h⟩ => ⟨cs, e, h.le hl⟩⟩
instance (t : T) (b : Bool) : MonoR (RepTB t b) := ⟨fun hl ⟨cs, e, h⟩ => ⟨cs, e, h.le hl⟩⟩
instance (ks : List T) : MonoR (RepK ks) := ⟨fun hl h => KidsV.le hl h⟩
def RepOne (t : T) (σ : Hp) (v : Value) : Prop := ∃ b cs, v = .slice (some ⟨b, 0, none⟩) 1 1 ∧ CellsAt σ b 0 cs ∧ TermC σ cs t
instance (t : T) : MonoR (RepOne t) := ⟨fun hl ⟨b, cs, e, h, k⟩ => ⟨b, cs, e, h.le hl, k.le hl⟩⟩
def QR (Rep : Hp → Value → Prop) (σ : Hp) (w0 : World) (K : List (Nat × Obj)) (w : World) (u : Value) : Prop := ∃ σ', Le σ σ' ∧ Fresh σ σ' w0 ∧ Imm σ' w ∧ Rep σ' u ∧ ∀ p ∈ K, σ' p.1 = none
section
variable {P : Program} {l0 : List Oper} {Q : Exit → Act → World → Prop} {tail r : List Oper} {N : Nat} {L L0 : TL} {d i j : Nat} {ty : TypeId} {pos : String} {fin : List KE → Prop} {K : List KE}
  {af : Array Edge} {g : Option (Nat × Bool)} {op : Op} {w0 : World} {M : Nat → Prop} {σ τ : Hp} {H G : List (Nat × Obj)} {Rep RepA RepB : Hp → Value → Prop} {S : World → Prop}
theorem QR.pers {X : List (Nat × Obj)} : ∀ (w w' : World) (u : Value), QR Rep σ w0 X w u → Below w.heap.size w w' → QR Rep σ w0 X w' u := fun w w' u ⟨σ', h1, h2, h3, h4, h5⟩ hb => ⟨σ', h1, h2, h3.below hb, h4, h5⟩
theorem QR.up {X : List (Nat × Obj)} {w : World} {u : Value} (hl : Le σ τ) (hf : Fresh σ τ w0) (h : QR Rep τ w0 X w u) : QR Rep σ w0 X w u := by
  obtain ⟨σ', h1, h2, h3, h4, h5⟩ := h; exact ⟨σ', hl.trans h1, hf.trans h2, h3, h4, h5⟩
theorem QR.open' {w : World} {u : Value} (hs : St w0 M σ H G w) (h : QR Rep σ w0 (H ++ G) w u) : ∃ σ', Le σ σ' ∧ Fresh σ σ' w0 ∧ Rep σ' u ∧ St w0 M σ' H G w := by
  obtain ⟨σ', h1, h2, h3, h4, h5⟩ := h; exact ⟨σ', h1, h2, h4, hs.le h3 h5⟩
theorem St.qr {w w' : World} {u : Value} (hs : St w0 M σ H G w) (h : TR Rep σ w u w') : Below w.heap.size w w' ∧ QR Rep σ w0 (H ++ G) w' u := by
  obtain ⟨σ', h1, h2, h3, h4, h5⟩ := h
  exact ⟨h5, σ', h1, h2.mono hs.ag.size, h3, h4, fun p hp => St0.dj (hs.after h2 h3 h5) p hp⟩
theorem ob_cr (hg : gd l0 L g = some true) (h : ExC P op N L (St w0 M σ H G) (TR Rep σ)) : Ob P l0 ⟨some d, op, ty, pos, af, g⟩ N L (St w0 M σ H G) (.sat (QR Rep σ w0 (H ++ G))) :=
  ob_c hg h fun w v w' hs ht => hs.qr ht
theorem flow_cr (hg : gd l0 (tlK af.toList L0 K) g = some true) (h : ExC P op N (tlK af.toList L0 K) (St w0 M σ H G) (TR Rep σ))
    (k : Flow P l0 L0 (St w0 M σ H G) N fin r (i + 1) (⟨i, d, .sat (QR Rep σ w0 (H ++ G))⟩ :: K)) : Flow P l0 L0 (St w0 M σ H G) N fin (⟨some d, op, ty, pos, af, g⟩ :: r) i K :=
  flow_sat QR.pers (obk (ob_cr hg h)) k
theorem ob_open {o : Oper} {v : Value} {p : VP} (h : ∀ τ, Le σ τ → Fresh σ τ w0 → RepA τ v → Ob P l0 o N L (St w0 M τ H G) p) :
    Ob P l0 o N L (fun w => St w0 M σ H G w ∧ QR RepA σ w0 (H ++ G) w v) p := fun a w hf ⟨hs, hq⟩ => by
  obtain ⟨τ, h1, h2, h3, h4⟩ := hq.open' hs
  exact h τ h1 h2 h3 a w hf h4
theorem ob_up {o : Oper} {X : List (Nat × Obj)} (hl : Le σ τ) (hf : Fresh σ τ w0) (h : Ob P l0 o N L S (.sat (QR Rep τ w0 X))) : Ob P l0 o N L S (.sat (QR Rep σ w0 X)) := fun a w hfr hs => by
  have := h a w hfr hs
  unfold stepOK at this ⊢
  split
  · rename_i hw
    rw [if_pos hw] at this
    exact wp_false this (fun a' w' ⟨v, h1, h2, h3⟩ => ⟨v, h1, h2, h3.up hl hf⟩)
  · rename_i hw
    rw [if_neg hw] at this
    exact QR.up hl hf this
theorem fin_satR [MonoR Rep] {σ1 : Hp} (hle : Le σ σ1) (h : ∀ v σ', Le σ1 σ' → Fresh σ1 σ' w0 → Rep σ' v → Fin P l0 Q tail N ((d, v) :: L) (St w0 M σ' H G) K) :
    Fin P l0 Q tail N L (St w0 M σ1 H G) (⟨j, d, .sat (QR Rep σ w0 (H ++ G))⟩ :: K) := fun a w hf hs hk => by
  obtain ⟨u, hu, hp⟩ := hk _ List.mem_cons_self
  obtain ⟨τ, h1, h2, h3, h4, h5⟩ := hp
  refine h u (join σ1 τ) (le_join _ _) (fun b o e => ?_) (MonoR.mono (le_join' hs.im h3) h4) a w (fr_add hf hu) (hs.le (hs.im.join h3) fun p hp => ?_) (fun e he => hk e (List.mem_cons_of_mem _ he))
  · unfold join at e
    cases he : σ1 b with
    | none =>
      rw [he] at e
      rcases h2 b o (by simpa using e) with h6 | h6
      · rw [hle b o h6] at he; cases he
      · exact .inr h6
    | some o' => rw [he] at e; simp at e; subst e; exact .inl rfl
  · unfold join; rw [hs.fresh hp, h5 p hp]; rfl
theorem ob_one {t e bytes : Nat} [h : AppT P t e 4 bytes] {x : Operand} {u : T} {cs : List Value} (hg : gd l0 L g = some true) (hx : ev L x = some (.agg cs.toArray)) (hc : TermC σ cs u) :
    Ob P l0 ⟨some d, .buildSlice t 1 #[(0, x)], ty, pos, af, g⟩ N L (St w0 M σ H G) (.sat (QR (RepOne u) σ w0 (H ++ G))) := ob_w hg fun a w hf hs d ty pos af g => by
  have hrun := run_slit1 (P := P) (t := t) (w := w) hf hx (v := .agg cs.toArray) (by simp [Value.cells, hc.len]) d ty pos af g
  have hs' : St w0 M σ ((w.heap.size, .cells cs.toArray e (0, 0)) :: H) G (w.alloc (.cells cs.toArray e)) := hs.alloc _
  have hle : Le σ (ext σ w.heap.size (.cells cs.toArray e)) := le_ext (hs'.fresh (p := (w.heap.size, .cells cs.toArray e)) (by simp))
  refine ⟨_, _, hrun, below_alloc1 _ _, ext σ w.heap.size (.cells cs.toArray e), hle, fun k o hk => ?_, hs'.freeze.im, ⟨w.heap.size, cs, rfl, ⟨cs.toArray, e, (0, 0), ext_self _ _ _, fun j v hj => by simpa using hj⟩, hc.le hle⟩, fun p hp => hs'.freeze.fresh hp⟩
  unfold ext at hk
  split at hk
  · rename_i hkb; subst hkb; exact .inr hs.ag.size
  · exact .inl hk
end
section
variable [DS] {P : Program} {Q : Exit → Act → World → Prop} {N : Nat} {L : TL} {w0 : World} {M : Nat → Prop} {σ : Hp} {H G : List (Nat × Obj)}
def Rnd3 {A0 A1 A2 : Type} (N : Nat) (I : A0 → A1 → A2 → TL) (p : A0 → A1 → A2 → Prop) (σf : A0 → A1 → A2 → Hp) (Gf : A0 → A1 → A2 → List (Nat × Obj)) (μ : A0 → A1 → A2 → Nat) (w0 : World) (M : Nat → Prop) (H : List (Nat × Obj)) (m : Nat) (a : Act) (w : World) : Prop :=
  ∃ y0 y1 y2, μ y0 y1 y2 < m ∧ p y0 y1 y2 ∧ Fr N (I y0 y1 y2) a ∧ St w0 M (σf y0 y1 y2) H (Gf y0 y1 y2) w
theorem cw_loop3 {A0 A1 A2 : Type} {c : Code} (I : A0 → A1 → A2 → TL) (p : A0 → A1 → A2 → Prop) (σf : A0 → A1 → A2 → Hp) (Gf : A0 → A1 → A2 → List (Nat × Obj)) (μ : A0 → A1 → A2 → Nat) (x0 : A0) (x1 : A1) (x2 : A2) (hL : subL L (I x0 x1 x2)) (hp : p x0 x1 x2)
    (hS : ∀ w, St w0 M σ H G w → St w0 M (σf x0 x1 x2) H (Gf x0 x1 x2) w)
    (round : ∀ x0 x1 x2, p x0 x1 x2 → CW P c (Exit.then (Rnd3 N I p σf Gf μ w0 M H (μ x0 x1 x2)) Q) N (I x0 x1 x2) (St w0 M (σf x0 x1 x2) H (Gf x0 x1 x2))) : CW P (.loop c) Q N L (St w0 M σ H G) :=
  cw_loop (α := A0 × A1 × A2) (fun x => I (x.1) (x.2.1) (x.2.2)) (fun x w => p (x.1) (x.2.1) (x.2.2) ∧ St w0 M (σf (x.1) (x.2.1) (x.2.2)) H (Gf (x.1) (x.2.1) (x.2.2)) w) (fun x => μ (x.1) (x.2.1) (x.2.2)) (x0, x1, x2) hL (fun w hs => ⟨hp, hS w hs⟩)
    (fun ⟨x0, x1, x2⟩ => cw_and fun hx a w hf hs => wp_mono (round x0 x1 x2 hx a w hf hs) (fun e a' w' h => by
      cases e with
      | normal => obtain ⟨y0, y1, y2, h1, h2, h3, h4⟩ := h; exact ⟨⟨y0, y1, y2⟩, h1, h3, h2, h4⟩
      | _ => exact h))
theorem qw_round3 {A0 A1 A2 : Type} {I : A0 → A1 → A2 → TL} {p : A0 → A1 → A2 → Prop} {σf : A0 → A1 → A2 → Hp} {Gf : A0 → A1 → A2 → List (Nat × Obj)} {μ : A0 → A1 → A2 → Nat} {H' : List (Nat × Obj)} {m : Nat} (x0 : A0) (x1 : A1) (x2 : A2) (hmu : μ x0 x1 x2 < m) (hL : subL L (I x0 x1 x2)) (hp : p x0 x1 x2)
    (hS : ∀ w, St w0 M σ H' G w → St w0 M (σf x0 x1 x2) H (Gf x0 x1 x2) w) : QW (Exit.then (Rnd3 N I p σf Gf μ w0 M H m) Q) .normal N L (St w0 M σ H' G) :=
  fun a w hf hs => ⟨x0, x1, x2, hmu, hp, hf.sub hL, hS w hs⟩
def RndH3 {A0 A1 A2 : Type} (N : Nat) (I : A0 → A1 → A2 → TL) (p : A0 → A1 → A2 → Prop) (σf : A0 → A1 → A2 → Hp) (Gf : A0 → A1 → A2 → List (Nat × Obj)) (μ : A0 → A1 → A2 → Nat) (w0 : World) (M : Nat → Prop) (Hf : A0 → A1 → A2 → List (Nat × Obj)) (m : Nat) (a : Act) (w : World) : Prop :=
  ∃ y0 y1 y2, μ y0 y1 y2 < m ∧ p y0 y1 y2 ∧ Fr N (I y0 y1 y2) a ∧ St w0 M (σf y0 y1 y2) (Hf y0 y1 y2) (Gf y0 y1 y2) w
theorem cw_loopH3 {A0 A1 A2 : Type} {c : Code} (I : A0 → A1 → A2 → TL) (p : A0 → A1 → A2 → Prop) (σf : A0 → A1 → A2 → Hp) (Hf : A0 → A1 → A2 → List (Nat × Obj)) (Gf : A0 → A1 → A2 → List (Nat × Obj)) (μ : A0 → A1 → A2 → Nat) (x0 : A0) (x1 : A1) (x2 : A2) (hL : subL L (I x0 x1 x2)) (hp : p x0 x1 x2)
    (hS : ∀ w, St w0 M σ H G w → St w0 M (σf x0 x1 x2) (Hf x0 x1 x2) (Gf x0 x1 x2) w)
    (round : ∀ x0 x1 x2, p x0 x1 x2 → CW P c (Exit.then (RndH3 N I p σf Gf μ w0 M Hf (μ x0 x1 x2)) Q) N (I x0 x1 x2) (St w0 M (σf x0 x1 x2) (Hf x0 x1 x2) (Gf x0 x1 x2))) : CW P (.loop c) Q N L (St w0 M σ H G) :=
  cw_loop (α := A0 × A1 × A2) (fun x => I (x.1) (x.2.1) (x.2.2)) (fun x w => p (x.1) (x.2.1) (x.2.2) ∧ St w0 M (σf (x.1) (x.2.1) (x.2.2)) (Hf (x.1) (x.2.1) (x.2.2)) (Gf (x.1) (x.2.1) (x.2.2)) w) (fun x => μ (x.1) (x.2.1) (x.2.2)) (x0, x1, x2) hL (fun w hs => ⟨hp, hS w hs⟩)
    (fun ⟨x0, x1, x2⟩ => cw_and fun hx a w hf hs => wp_mono (round x0 x1 x2 hx a w hf hs) (fun e a' w' h => by
      cases e with
      | normal => obtain ⟨y0, y1, y2, h1, h2, h3, h4⟩ := h; exact ⟨⟨y0, y1, y2⟩, h1, h3, h2, h4⟩
      | _ => exact h))
theorem qw_roundH3 {A0 A1 A2 : Type} {I : A0 → A1 → A2 → TL} {p : A0 → A1 → A2 → Prop} {σf : A0 → A1 → A2 → Hp} {Gf : A0 → A1 → A2 → List (Nat × Obj)} {μ : A0 → A1 → A2 → Nat} {Hf : A0 → A1 → A2 → List (Nat × Obj)} {H' : List (Nat × Obj)} {m : Nat} (x0 : A0) (x1 : A1) (x2 : A2) (hmu : μ x0 x1 x2 < m) (hL : subL L (I x0 x1 x2)) (hp : p x0 x1 x2)
    (hS : ∀ w, St w0 M σ H' G w → St w0 M (σf x0 x1 x2) (Hf x0 x1 x2) (Gf x0 x1 x2) w) : QW (Exit.then (RndH3 N I p σf Gf μ w0 M Hf m) Q) .normal N L (St w0 M σ H' G) :=
  fun a w hf hs => ⟨x0, x1, x2, hmu, hp, hf.sub hL, hS w hs⟩
def Rnd5 {A0 A1 A2 A3 A4 : Type} (N : Nat) (I : A0 → A1 → A2 → A3 → A4 → TL) (p : A0 → A1 → A2 → A3 → A4 → Prop) (σf : A0 → A1 → A2 → A3 → A4 → Hp) (Gf : A0 → A1 → A2 → A3 → A4 → List (Nat × Obj)) (μ : A0 → A1 → A2 → A3 → A4 → Nat) (w0 : World) (M : Nat → Prop) (H : List (Nat × Obj)) (m : Nat) (a : Act) (w : World) : Prop :=
  ∃ y0 y1 y2 y3 y4, μ y0 y1 y2 y3 y4 < m ∧ p y0 y1 y2 y3 y4 ∧ Fr N (I y0 y1 y2 y3 y4) a ∧ St w0 M (σf y0 y1 y2 y3 y4) H (Gf y0 y1 y2 y3 y4) w
theorem cw_loop5 {A0 A1 A2 A3 A4 : Type} {c : Code} (I : A0 → A1 → A2 → A3 → A4 → TL) (p : A0 → A1 → A2 → A3 → A4 → Prop) (σf : A0 → A1 → A2 → A3 → A4 → Hp) (Gf : A0 → A1 → A2 → A3 → A4 → List (Nat × Obj)) (μ : A0 → A1 → A2 → A3 → A4 → Nat) (x0 : A0) (x1 : A1) (x2 : A2) (x3 : A3) (x4 : A4) (hL : subL L (I x0 x1 x2 x3 x4)) (hp : p x0 x1 x2 x3 x4)
    (hS : ∀ w, St w0 M σ H G w → St w0 M (σf x0 x1 x2 x3 x4) H (Gf x0 x1 x2 x3 x4) w)
    (round : ∀ x0 x1 x2 x3 x4, p x0 x1 x2 x3 x4 → CW P c (Exit.then (Rnd5 N I p σf Gf μ w0 M H (μ x0 x1 x2 x3 x4)) Q) N (I x0 x1 x2 x3 x4) (St w0 M (σf x0 x1 x2 x3 x4) H (Gf x0 x1 x2 x3 x4))) : CW P (.loop c) Q N L (St w0 M σ H G) :=
  cw_loop (α := A0 × A1 × A2 × A3 × A4) (fun x => I (x.1) (x.2.1) (x.2.2.1) (x.2.2.2.1) (x.2.2.2.2)) (fun x w => p (x.1) (x.2.1) (x.2.2.1) (x.2.2.2.1) (x.2.2.2.2) ∧ St w0 M (σf (x.1) (x.2.1) (x.2.2.1) (x.2.2.2.1) (x.2.2.2.2)) H (Gf (x.1) (x.2.1) (x.2.2.1) (x.2.2.2.1) (x.2.2.2.2)) w) (fun x => μ (x.1) (x.2.1) (x.2.2.1) (x.2.2.2.1) (x.2.2.2.2)) (x0, x1, x2, x3, x4) hL (fun w hs => ⟨hp, hS w hs⟩)
    (fun ⟨x0, x1, x2, x3, x4⟩ => cw_and fun hx a w hf hs => wp_mono (round x0 x1 x2 x3 x4 hx a w hf hs) (fun e a' w' h => by
      cases e with
      | normal => obtain ⟨y0, y1, y2, y3, y4, h1, h2, h3, h4⟩ := h; exact ⟨⟨y0, y1, y2, y3, y4⟩, h1, h3, h2, h4⟩
      | _ => exact h))
theorem qw_round5 {A0 A1 A2 A3 A4 : Type} {I : A0 → A1 → A2 → A3 → A4 → TL} {p : A0 → A1 → A2 → A3 → A4 → Prop} {σf : A0 → A1 → A2 → A3 → A4 → Hp} {Gf : A0 → A1 → A2 → A3 → A4 → List (Nat × Obj)} {μ : A0 → A1 → A2 → A3 → A4 → Nat} {H' : List (Nat × Obj)} {m : Nat} (x0 : A0) (x1 : A1) (x2 : A2) (x3 : A3) (x4 : A4) (hmu : μ x0 x1 x2 x3 x4 < m) (hL : subL L (I x0 x1 x2 x3 x4)) (hp : p x0 x1 x2 x3 x4)
    (hS : ∀ w, St w0 M σ H' G w → St w0 M (σf x0 x1 x2 x3 x4) H (Gf x0 x1 x2 x3 x4) w) : QW (Exit.then (Rnd5 N I p σf Gf μ w0 M H m) Q) .normal N L (St w0 M σ H' G) :=
  fun a w hf hs => ⟨x0, x1, x2, x3, x4, hmu, hp, hf.sub hL, hS w hs⟩
def RndH5 {A0 A1 A2 A3 A4 : Type} (N : Nat) (I : A0 → A1 → A2 → A3 → A4 → TL) (p : A0 → A1 → A2 → A3 → A4 → Prop) (σf : A0 → A1 → A2 → A3 → A4 → Hp) (Gf : A0 → A1 → A2 → A3 → A4 → List (Nat × Obj)) (μ : A0 → A1 → A2 → A3 → A4 → Nat) (w0 : World) (M : Nat → Prop) (Hf : A0 → A1 → A2 → A3 → A4 → List (Nat × Obj)) (m : Nat) (a : Act) (w : World) : Prop :=
  ∃ y0 y1 y2 y3 y4, μ y0 y1 y2 y3 y4 < m ∧ p y0 y1 y2 y3 y4 ∧ Fr N (I y0 y1 y2 y3 y4) a ∧ St w0 M (σf y0 y1 y2 y3 y4) (Hf y0 y1 y2 y3 y4) (Gf y0 y1 y2 y3 y4) w
theorem cw_loopH5 {A0 A1 A2 A3 A4 : Type} {c : Code} (I : A0 → A1 → A2 → A3 → A4 → TL) (p : A0 → A1 → A2 → A3 → A4 → Prop) (σf : A0 → A1 → A2 → A3 → A4 → Hp) (Hf : A0 → A1 → A2 → A3 → A4 → List (Nat × Obj)) (Gf : A0 → A1 → A2 → A3 → A4 → List (Nat × Obj)) (μ : A0 → A1 → A2 → A3 → A4 → Nat) (x0 : A0) (x1 : A1) (x2 : A2) (x3 : A3) (x4 : A4) (hL : subL L (I x0 x1 x2 x3 x4)) (hp : p x0 x1 x2 x3 x4)
    (hS : ∀ w, St w0 M σ H G w → St w0 M (σf x0 x1 x2 x3 x4) (Hf x0 x1 x2 x3 x4) (Gf x0 x1 x2 x3 x4) w)
    (round : ∀ x0 x1 x2 x3 x4, p x0 x1 x2 x3 x4 → CW P c (Exit.then (RndH5 N I p σf Gf μ w0 M Hf (μ x0 x1 x2 x3 x4)) Q) N (I x0 x1 x2 x3 x4) (St w0 M (σf x0 x1 x2 x3 x4) (Hf x0 x1 x2 x3 x4) (Gf x0 x1 x2 x3 x4))) : CW P (.loop c) Q N L (St w0 M σ H G) :=
  cw_loop (α := A0 × A1 × A2 × A3 × A4) (fun x => I (x.1) (x.2.1) (x.2.2.1) (x.2.2.2.1) (x.2.2.2.2)) (fun x w => p (x.1) (x.2.1) (x.2.2.1) (x.2.2.2.1) (x.2.2.2.2) ∧ St w0 M (σf (x.1) (x.2.1) (x.2.2.1) (x.2.2.2.1) (x.2.2.2.2)) (Hf (x.1) (x.2.1) (x.2.2.1) (x.2.2.2.1) (x.2.2.2.2)) (Gf (x.1) (x.2.1) (x.2.2.1) (x.2.2.2.1) (x.2.2.2.2)) w) (fun x => μ (x.1) (x.2.1) (x.2.2.1) (x.2.2.2.1) (x.2.2.2.2)) (x0, x1, x2, x3, x4) hL (fun w hs => ⟨hp, hS w hs⟩)
    (fun ⟨x0, x1, x2, x3, x4⟩ => cw_and fun hx a w hf hs => wp_mono (round x0 x1 x2 x3 x4 hx a w hf hs) (fun e a' w' h => by
      cases e with
      | normal => obtain ⟨y0, y1, y2, y3, y4, h1, h2, h3, h4⟩ := h; exact ⟨⟨y0, y1, y2, y3, y4⟩, h1, h3, h2, h4⟩
      | _ => exact h))
theorem qw_roundH5 {A0 A1 A2 A3 A4 : Type} {I : A0 → A1 → A2 → A3 → A4 → TL} {p : A0 → A1 → A2 → A3 → A4 → Prop} {σf : A0 → A1 → A2 → A3 → A4 → Hp} {Gf : A0 → A1 → A2 → A3 → A4 → List (Nat × Obj)} {μ : A0 → A1 → A2 → A3 → A4 → Nat} {Hf : A0 → A1 → A2 → A3 → A4 → List (Nat × Obj)} {H' : List (Nat × Obj)} {m : Nat} (x0 : A0) (x1 : A1) (x2 : A2) (x3 : A3) (x4 : A4) (hmu : μ x0 x1 x2 x3 x4 < m) (hL : subL L (I x0 x1 x2 x3 x4)) (hp : p x0 x1 x2 x3 x4)
    (hS : ∀ w, St w0 M σ H' G w → St w0 M (σf x0 x1 x2 x3 x4) (Hf x0 x1 x2 x3 x4) (Gf x0 x1 x2 x3 x4) w) : QW (Exit.then (RndH5 N I p σf Gf μ w0 M Hf m) Q) .normal N L (St w0 M σ H' G) :=
  fun a w hf hs => ⟨x0, x1, x2, x3, x4, hmu, hp, hf.sub hL, hS w hs⟩
end
def RowC (σ : Hp) : List Value → List T → Prop
  | xs, [] => xs = []
  | xs, t :: r => ∃ c rest, xs = c ++ rest ∧ TermC σ c t ∧ RowC σ rest r
theorem RowC.len {σ : Hp} : ∀ {ts : List T} {xs : List Value}, RowC σ xs ts → xs.length = ts.length * 4
  | [], xs, h => by simp only [RowC] at h; simp [h]
  | t :: r, xs, h => by
    simp only [RowC] at h
    obtain ⟨c, rest, rfl, h1, h2⟩ := h
    simp [h1.len, h2.len, Nat.add_mul]; omega
theorem RowC.le {σ τ : Hp} (hl : Le σ τ) : ∀ {ts : List T} {xs : List Value}, RowC σ xs ts → RowC τ xs ts
  | [], xs, h => h
  | t :: r, xs, h => by
    simp only [RowC] at h ⊢
    obtain ⟨c, rest, h0, h1, h2⟩ := h
    exact ⟨c, rest, h0, h1.le hl, h2.le hl⟩
theorem RowC.append {σ : Hp} : ∀ {ts us : List T} {xs ys : List Value}, RowC σ xs ts → RowC σ ys us → RowC σ (xs ++ ys) (ts ++ us)
  | [], us, xs, ys, h, k => by simp only [RowC] at h; subst h; simpa using k
  | t :: r, us, xs, ys, h, k => by
    simp only [RowC] at h
    obtain ⟨c, rest, rfl, h1, h2⟩ := h
    simp only [List.cons_append, RowC]
    exact ⟨c, rest ++ ys, by simp, h1, h2.append k⟩
theorem RowC.one {σ : Hp} {c : List Value} {t : T} (h : TermC σ c t) : RowC σ c [t] := ⟨c, [], by simp, h, rfl⟩
theorem RowC.oneCell {σ : Hp} : ∀ {ts : List T} {xs : List Value}, RowC σ xs ts → ∀ v ∈ xs, v.oneCell' = true
  | [], xs, h, v, hv => by simp only [RowC] at h; subst h; cases hv
  | t :: r, xs, h, v, hv => by
    simp only [RowC] at h
    obtain ⟨c, rest, rfl, h1, h2⟩ := h
    rcases List.mem_append.1 hv with hv | hv
    · exact h1.one v hv
    · exact h2.oneCell v hv
theorem RowC.take {σ : Hp} : ∀ {ts : List T} {xs : List Value} (i : Nat), RowC σ xs ts → RowC σ (xs.take (i * 4)) (ts.take i)
  | [], xs, i, h => by simp only [RowC] at h; subst h; simp [RowC]
  | t :: r, xs, 0, h => by simp [RowC]
  | t :: r, xs, i + 1, h => by
    simp only [RowC] at h
    obtain ⟨c, rest, rfl, h1, h2⟩ := h
    rw [List.take_succ_cons]
    simp only [RowC]
    refine ⟨c, rest.take (i * 4), ?_, h1, h2.take i⟩
    rw [List.take_append, List.take_of_length_le (by rw [h1.len]; omega), h1.len, show (i + 1) * 4 - 4 = i * 4 by omega]
theorem RowC.drop {σ : Hp} : ∀ {ts : List T} {xs : List Value} (i : Nat), RowC σ xs ts → RowC σ (xs.drop (i * 4)) (ts.drop i)
  | [], xs, i, h => by simp only [RowC] at h; subst h; simp [RowC]
  | t :: r, xs, 0, h => by simpa using h
  | t :: r, xs, i + 1, h => by
    simp only [RowC] at h
    obtain ⟨c, rest, rfl, h1, h2⟩ := h
    rw [List.drop_succ_cons, List.drop_append, List.drop_eq_nil_of_le (by rw [h1.len]; omega), h1.len, show (i + 1) * 4 - 4 = i * 4 by omega, List.nil_append]
    exact h2.drop i
theorem ElemsC.row {σ : Hp} {b : Nat} : ∀ {ts : List T} {f : Nat}, ts ≠ [] → ElemsC σ b f ts → ∃ xs, RowC σ xs ts ∧ CellsAt σ b f xs
  | [], f, hn, _ => absurd rfl hn
  | [t], f, _, h => by
    simp only [ElemsC] at h
    obtain ⟨⟨cs, h1, h2⟩, _⟩ := h
    exact ⟨cs, RowC.one h2, h1⟩
  | t :: u :: r, f, _, h => by
    rw [ElemsC] at h
    obtain ⟨⟨cs, h1, h2⟩, h3⟩ := h
    obtain ⟨ys, h4, h5⟩ := ElemsC.row (by simp) h3
    refine ⟨cs ++ ys, ⟨cs, ys, rfl, h2, h4⟩, ?_⟩
    obtain ⟨arr, ty, fz, e1, e2⟩ := h1
    obtain ⟨arr', ty', fz', e3, e4⟩ := h5
    rw [e1] at e3
    cases e3
    refine ⟨arr, ty, fz, e1, fun j v hj => ?_⟩
    rw [List.getElem?_append] at hj
    split at hj
    · exact e2 j v hj
    · rename_i hge
      have := e4 (j - cs.length) v hj
      rw [h2.len] at this hge
      rw [show f + 4 + (j - 4) = f + j by omega] at this
      exact this
theorem RowC.elems {σ : Hp} {b : Nat} : ∀ {ts : List T} {xs : List Value} {f : Nat}, RowC σ xs ts → CellsAt σ b f xs → ElemsC σ b f ts
  | [], xs, f, _, _ => by simp only [ElemsC]
  | t :: r, xs, f, h, hc => by
    simp only [RowC] at h
    obtain ⟨c, rest, rfl, h1, h2⟩ := h
    obtain ⟨arr, ty, fz, e1, e2⟩ := hc
    simp only [ElemsC]
    refine ⟨⟨c, ⟨arr, ty, fz, e1, fun j v hj => e2 j v (by rw [List.getElem?_append_left (List.getElem?_eq_some_iff.1 hj).1]; exact hj)⟩, h1⟩, h2.elems ⟨arr, ty, fz, e1, fun j v hj => ?_⟩⟩
    have := e2 (4 + j) v (by rw [List.getElem?_append_right (by rw [h1.len]; omega), h1.len]; simpa using hj)
    rw [show f + 4 + j = f + (4 + j) by omega]
    exact this
theorem KidsV.row {σ : Hp} {v : Value} {ks : List T} (h : KidsV σ v ks) : ∃ p c xs, v = .slice p ks.length c ∧ ks.length ≤ c ∧ ks.length ≤ maxKids ∧ RowC σ xs ks ∧ (ks = [] ∨ ∃ b f, p = some ⟨b, f, none⟩ ∧ CellsAt σ b f xs) := by
  obtain ⟨p, c, h1, h2, h3, h4⟩ := h
  by_cases hk : ks = []
  · subst hk; exact ⟨p, c, [], h1, h2, h3, rfl, .inl rfl⟩
  · obtain ⟨b, f, h5, h6⟩ := h4.resolve_left hk
    obtain ⟨xs, h7, h8⟩ := h6.row hk
    exact ⟨p, c, xs, h1, h2, h3, h7, .inr ⟨b, f, h5, h8⟩⟩
theorem CellsAt.take {σ : Hp} {b f : Nat} {xs : List Value} (h : CellsAt σ b f xs) (i : Nat) : CellsAt σ b f (xs.take i) := by
  obtain ⟨arr, ty, fz, e1, e2⟩ := h
  refine ⟨arr, ty, fz, e1, fun j v hj => e2 j v ?_⟩
  rw [List.getElem?_take] at hj
  split at hj
  · exact hj
  · cases hj
theorem CellsAt.drop {σ : Hp} {b f : Nat} {xs : List Value} (h : CellsAt σ b f xs) (i : Nat) : CellsAt σ b (f + i) (xs.drop i) := by
  obtain ⟨arr, ty, fz, e1, e2⟩ := h
  refine ⟨arr, ty, fz, e1, fun j v hj => ?_⟩
  rw [List.getElem?_drop] at hj
  have := e2 (i + j) v hj
  rwa [show f + i + j = f + (i + j) by omega]
theorem freezeG {w0 w : World} {M : Nat → Prop} {σ : Hp} {H Gs Gr : List (Nat × Obj)} {e : Nat} {v : Value} {n : Nat} {xs : List Value} {ts : List T} (hs : St w0 M σ H (Gs ++ Gr) w) (hM : ∀ b, M b → False)
    (hO : OwnSl e 4 v n xs Gs) (hr : RowC σ xs ts) (hlen : ts.length ≤ maxKids) : ∃ σ', Le σ σ' ∧ St w0 M σ' H Gr w ∧ KidsV σ' v ts ∧ Fresh σ σ' w0 := by
  have hn : n = ts.length := by have h1 := hO.1; have h2 := hr.len; omega
  subst hn
  rcases hO.2 with ⟨rfl, h0, rfl⟩ | ⟨g, c, cur, rfl, rfl, h2, h3, h4, h5⟩
  · have : ts = [] := List.eq_nil_of_length_eq_zero h0
    subst this
    exact ⟨σ, Le.refl _, hs, KidsV.nil σ, Fresh.refl _ _⟩
  · have hs1 : St w0 M σ ((g, .cells cur e (0, 0)) :: H) Gr w := hs.ofG
    have hle : Le σ (ext σ g (.cells cur e (0, 0))) := le_ext (hs.fresh (p := (g, .cells cur e (0, 0))) (by simp))
    refine ⟨ext σ g (.cells cur e (0, 0)), hle, hs1.freeze, ⟨_, c, rfl, h2, hlen, .inr ⟨g, 0, rfl, (hr.le hle).elems ⟨cur, e, (0, 0), ext_self _ _ _, fun j u hj => ?_⟩⟩⟩, fun b o hb => ?_⟩
    · rw [← h5, List.getElem?_take] at hj
      split at hj
      · simpa using hj
      · cases hj
    · unfold ext at hb
      split at hb
      · rename_i hbg; subst hbg; exact .inr ((St0.mo hs (b, .cells cur e (0, 0)) (by simp)).resolve_left (hM _))
      · exact .inl hb
theorem freezeB {w0 w : World} {M : Nat → Prop} {σ : Hp} {H Gs Gr : List (Nat × Obj)} {e : Nat} {v : Value} {n : Nat} {xs : List Value} {d : List UInt8} (hs : St w0 M σ H (Gs ++ Gr) w) (hM : ∀ b, M b → False)
    (hO : OwnSl e 1 v n xs Gs) (hx : xs = d.map byteV) (hlen : d.length ≤ maxData) : ∃ σ', Le σ σ' ∧ St w0 M σ' H Gr w ∧ BytesV σ' v d ∧ Fresh σ σ' w0 := by
  subst hx
  have hn : n = d.length := by have h1 := hO.1; simp at h1; omega
  subst hn
  rcases hO.2 with ⟨rfl, h0, rfl⟩ | ⟨g, c, cur, rfl, rfl, h2, h3, h4, h5⟩
  · have : d = [] := List.eq_nil_of_length_eq_zero h0
    subst this
    exact ⟨σ, Le.refl _, hs, BytesV.nil σ, Fresh.refl _ _⟩
  · have hs1 : St w0 M σ ((g, .cells cur e (0, 0)) :: H) Gr w := hs.ofG
    have hle : Le σ (ext σ g (.cells cur e (0, 0))) := le_ext (hs.fresh (p := (g, .cells cur e (0, 0))) (by simp))
    refine ⟨ext σ g (.cells cur e (0, 0)), hle, hs1.freeze, ⟨_, c, rfl, h2, hlen, .inr ⟨g, 0, rfl, ⟨cur, e, (0, 0), ext_self _ _ _, fun j u hj => ?_⟩⟩⟩, fun b o hb => ?_⟩
    · rw [← h5, List.getElem?_take] at hj
      split at hj
      · simpa using hj
      · cases hj
    · unfold ext at hb
      split at hb
      · rename_i hbg; subst hbg; exact .inr ((St0.mo hs (b, .cells cur e (0, 0)) (by simp)).resolve_left (hM _))
      · exact .inl hb
section
variable [DS] {P : Program} {l0 : List Oper} {Q : Exit → Act → World → Prop} {l : List Oper} {N : Nat} {L : TL} {w0 : World} {M : Nat → Prop} {σ : Hp} {H Gs : List (Nat × Obj)} {e : Nat} {v : Value} {n : Nat} {xs : List Value}
theorem ow_frzB {d : List UInt8} (hM : ∀ b, M b → False) (hO : OwnSl e 1 v n xs Gs) (hx : xs = d.map byteV) (hlen : d.length ≤ maxData)
    (k : ∀ σ', Le σ σ' → Fresh σ σ' w0 → BytesV σ' v d → OW P l0 Q l N L (St w0 M σ' H [])) : OW P l0 Q l N L (St w0 M σ H Gs) := fun a w hf hs => by
  obtain ⟨σ', h1, h2, h3, h4⟩ := freezeB (Gr := []) (by simpa using hs) hM hO hx hlen
  exact k σ' h1 h4 h3 a w hf h2
end
theorem BytesV.row {σ : Hp} {v : Value} {d : List UInt8} (h : BytesV σ v d) : ∃ p c, v = .slice p d.length c ∧ d.length ≤ c ∧ d.length ≤ maxData ∧ (d.length = 0 ∨ ∃ b o, p = some ⟨b, o, none⟩ ∧ CellsAt σ b o (d.map byteV)) := by
  obtain ⟨p, c, h1, h2, h3, h4⟩ := h
  exact ⟨p, c, h1, h2, h3, h4.imp (fun h => by simp [h]) id⟩
theorem bytes_one (d : List UInt8) : ∀ u ∈ d.map byteV, u.oneCell' = true := fun u hu => by
  obtain ⟨b, _, rfl⟩ := List.mem_map.1 hu; rfl
theorem OwnSl.cell {e size n : Nat} {v : Value} {xs : List Value} {Gs : List (Nat × Obj)} (h : OwnSl e size v n xs Gs) : v.cells = #[v] ∧ v.oneCell' = true := by
  rcases h.2 with ⟨rfl, _⟩ | ⟨g, c, cur, rfl, _⟩ <;> exact ⟨rfl, rfl⟩
theorem BytesV.cell {σ : Hp} {v : Value} {d : List UInt8} (h : BytesV σ v d) : v.cells = #[v] ∧ v.oneCell' = true := by
  obtain ⟨p, c, rfl, _⟩ := h.slice; exact ⟨rfl, rfl⟩
theorem KidsV.cell {σ : Hp} {v : Value} {ks : List T} (h : KidsV σ v ks) : v.cells = #[v] ∧ v.oneCell' = true := by
  obtain ⟨p, c, rfl, _⟩ := h.slice; exact ⟨rfl, rfl⟩
theorem four_one {o n : Int} {a b : Value} (ha : a.oneCell' = true) (hb : b.oneCell' = true) : ∀ u ∈ [Value.int .i64 o, .int .i64 n, a, b], u.oneCell' = true := by
  intro u hu
  simp at hu
  rcases hu with rfl | rfl | rfl | rfl
  · rfl
  · rfl
  · exact ha
  · exact hb
end Go.Proofs.YtnjomdjkbbhdoaaDoor
namespace Go.Proofs.YtnjomdjkbbhdoaaDoor
set_option linter.unusedVariables false
set_option maxRecDepth 100000
instance : MixT Tryd.prog := ⟨by kernel_rfl⟩
instance : OneT Tryd.prog 1 := ⟨⟨_, Tryd.underlying1, rfl, by kernel_rfl⟩⟩
instance : OneT Tryd.prog 2 := ⟨⟨_, Tryd.underlying2, rfl, by kernel_rfl⟩⟩
instance : OneT Tryd.prog 3 := ⟨⟨_, Tryd.underlying3, rfl, by kernel_rfl⟩⟩
instance : BoolT Tryd.prog 4 := ⟨Tryd.underlying4⟩
instance : OneT Tryd.prog 4 := ⟨⟨_, Tryd.underlying4, rfl, by kernel_rfl⟩⟩
instance : OneT Tryd.prog 5 := ⟨⟨_, Tryd.underlying5, rfl, by kernel_rfl⟩⟩
instance : RowT Tryd.prog 7 4 := ⟨⟨_, Tryd.underlying7, rfl, by kernel_rfl⟩⟩
instance : ZeroT Tryd.prog 7 (.agg #[.int .i64 0, .int .i64 0, .bool false, .int .u8 0]) := ⟨by kernel_rfl⟩
instance : FldT Tryd.prog 7 0 0 := ⟨⟨_, _, Tryd.underlying7, rfl, rfl, by kernel_rfl⟩⟩
instance : FldT Tryd.prog 7 1 1 := ⟨⟨_, _, Tryd.underlying7, rfl, rfl, by kernel_rfl⟩⟩
instance : FldT Tryd.prog 7 2 2 := ⟨⟨_, _, Tryd.underlying7, rfl, rfl, by kernel_rfl⟩⟩
instance : FldT Tryd.prog 7 3 3 := ⟨⟨_, _, Tryd.underlying7, rfl, rfl, by kernel_rfl⟩⟩
instance : StrT Tryd.prog 9 := ⟨Tryd.underlying9⟩
instance : OneT Tryd.prog 9 := ⟨⟨_, Tryd.underlying9, rfl, by kernel_rfl⟩⟩
instance : OneT Tryd.prog 12 := ⟨⟨_, Tryd.underlying12, rfl, by kernel_rfl⟩⟩
instance : RowT Tryd.prog 13 2 := ⟨⟨_, Tryd.underlying13, rfl, by kernel_rfl⟩⟩
instance : ZeroT Tryd.prog 13 (.agg #[.string ByteArray.empty, .int .u64 0]) := ⟨by kernel_rfl⟩
instance : FldT Tryd.prog 13 0 0 := ⟨⟨_, _, Tryd.underlying13, rfl, rfl, by kernel_rfl⟩⟩
instance : FldT Tryd.prog 13 1 1 := ⟨⟨_, _, Tryd.underlying13, rfl, rfl, by kernel_rfl⟩⟩
instance : OneT Tryd.prog 15 := ⟨⟨_, Tryd.underlying15, rfl, by kernel_rfl⟩⟩
instance : OneT Tryd.prog 16 := ⟨⟨_, Tryd.underlying16, rfl, by kernel_rfl⟩⟩
instance : OneT Tryd.prog 17 := ⟨⟨_, Tryd.underlying17, rfl, by kernel_rfl⟩⟩
instance : RowT Tryd.prog 18 1 := ⟨⟨_, Tryd.underlying18, rfl, by kernel_rfl⟩⟩
instance : ZeroT Tryd.prog 18 (.agg #[.pointer none]) := ⟨by kernel_rfl⟩
instance : FldT Tryd.prog 18 0 0 := ⟨⟨_, _, Tryd.underlying18, rfl, rfl, by kernel_rfl⟩⟩
instance : OneT Tryd.prog 21 := ⟨⟨_, Tryd.underlying21, rfl, by kernel_rfl⟩⟩
instance : SlT Tryd.prog 22 30 4 := ⟨Tryd.underlying22, by kernel_rfl⟩
instance : AppT Tryd.prog 22 30 4 64 := ⟨Tryd.underlying22, ⟨_, _, rfl, rfl, by kernel_rfl, by kernel_rfl, by kernel_rfl⟩, by decide, by decide⟩
instance : OneT Tryd.prog 22 := ⟨⟨_, Tryd.underlying22, rfl, by kernel_rfl⟩⟩
instance : OneT Tryd.prog 23 := ⟨⟨_, Tryd.underlying23, rfl, by kernel_rfl⟩⟩
instance : OneT Tryd.prog 24 := ⟨⟨_, Tryd.underlying24, rfl, by kernel_rfl⟩⟩
instance : OneT Tryd.prog 25 := ⟨⟨_, Tryd.underlying25, rfl, by kernel_rfl⟩⟩
instance : OneT Tryd.prog 26 := ⟨⟨_, Tryd.underlying26, rfl, by kernel_rfl⟩⟩
instance : OneT Tryd.prog 27 := ⟨⟨_, Tryd.underlying27, rfl, by kernel_rfl⟩⟩
instance : SlT Tryd.prog 28 5 1 := ⟨Tryd.underlying28, by kernel_rfl⟩
instance : AppT Tryd.prog 28 5 1 1 := ⟨Tryd.underlying28, ⟨_, _, rfl, rfl, by kernel_rfl, by kernel_rfl, by kernel_rfl⟩, by decide, by decide⟩
instance : ByteT Tryd.prog 28 := ⟨⟨_, Tryd.underlying28, Tryd.underlying5⟩⟩
instance : OneT Tryd.prog 28 := ⟨⟨_, Tryd.underlying28, rfl, by kernel_rfl⟩⟩
instance : RowT Tryd.prog 29 4 := ⟨⟨_, Tryd.underlying29, rfl, by kernel_rfl⟩⟩
instance : ZeroT Tryd.prog 29 (.agg #[.int .i64 0, .int .i64 0, .slice none 0 0, .slice none 0 0]) := ⟨by kernel_rfl⟩
instance : FldT Tryd.prog 29 0 0 := ⟨⟨_, _, Tryd.underlying29, rfl, rfl, by kernel_rfl⟩⟩
instance : FldT Tryd.prog 29 1 1 := ⟨⟨_, _, Tryd.underlying29, rfl, rfl, by kernel_rfl⟩⟩
instance : FldT Tryd.prog 29 2 2 := ⟨⟨_, _, Tryd.underlying29, rfl, rfl, by kernel_rfl⟩⟩
instance : FldT Tryd.prog 29 3 3 := ⟨⟨_, _, Tryd.underlying29, rfl, rfl, by kernel_rfl⟩⟩
instance : RowT Tryd.prog 30 4 := ⟨⟨_, Tryd.underlying30, rfl, by kernel_rfl⟩⟩
instance : ZeroT Tryd.prog 30 (.agg #[.int .i64 0, .int .i64 0, .slice none 0 0, .slice none 0 0]) := ⟨by kernel_rfl⟩
instance : FldT Tryd.prog 30 0 0 := ⟨⟨_, _, Tryd.underlying30, rfl, rfl, by kernel_rfl⟩⟩
instance : FldT Tryd.prog 30 1 1 := ⟨⟨_, _, Tryd.underlying30, rfl, rfl, by kernel_rfl⟩⟩
instance : FldT Tryd.prog 30 2 2 := ⟨⟨_, _, Tryd.underlying30, rfl, rfl, by kernel_rfl⟩⟩
instance : FldT Tryd.prog 30 3 3 := ⟨⟨_, _, Tryd.underlying30, rfl, rfl, by kernel_rfl⟩⟩
instance : OneT Tryd.prog 31 := ⟨⟨_, Tryd.underlying31, rfl, by kernel_rfl⟩⟩
instance : OneT Tryd.prog 33 := ⟨⟨_, Tryd.underlying33, rfl, by kernel_rfl⟩⟩
instance : OneT Tryd.prog 34 := ⟨⟨_, Tryd.underlying34, rfl, by kernel_rfl⟩⟩
instance : OneT Tryd.prog 36 := ⟨⟨_, Tryd.underlying36, rfl, by kernel_rfl⟩⟩
instance : OneT Tryd.prog 37 := ⟨⟨_, Tryd.underlying37, rfl, by kernel_rfl⟩⟩
instance : OneT Tryd.prog 38 := ⟨⟨_, Tryd.underlying38, rfl, by kernel_rfl⟩⟩
instance : OneT Tryd.prog 39 := ⟨⟨_, Tryd.underlying39, rfl, by kernel_rfl⟩⟩
instance : RowT Tryd.prog 40 1 := ⟨⟨_, Tryd.underlying40, rfl, by kernel_rfl⟩⟩
instance : ZeroT Tryd.prog 40 (.agg #[.slice none 0 0]) := ⟨by kernel_rfl⟩
instance : FldT Tryd.prog 40 0 0 := ⟨⟨_, _, Tryd.underlying40, rfl, rfl, by kernel_rfl⟩⟩
instance : RowT Tryd.prog 41 1 := ⟨⟨_, Tryd.underlying41, rfl, by kernel_rfl⟩⟩
instance : ZeroT Tryd.prog 41 (.agg #[.slice none 0 0]) := ⟨by kernel_rfl⟩
instance : FldT Tryd.prog 41 0 0 := ⟨⟨_, _, Tryd.underlying41, rfl, rfl, by kernel_rfl⟩⟩
instance : OneT Tryd.prog 42 := ⟨⟨_, Tryd.underlying42, rfl, by kernel_rfl⟩⟩
instance : OneT Tryd.prog 44 := ⟨⟨_, Tryd.underlying44, rfl, by kernel_rfl⟩⟩
instance : OneT Tryd.prog 45 := ⟨⟨_, Tryd.underlying45, rfl, by kernel_rfl⟩⟩
instance : OneT Tryd.prog 46 := ⟨⟨_, Tryd.underlying46, rfl, by kernel_rfl⟩⟩
instance : SlT Tryd.prog 47 3 1 := ⟨Tryd.underlying47, by kernel_rfl⟩
instance : AppT Tryd.prog 47 3 1 8 := ⟨Tryd.underlying47, ⟨_, _, rfl, rfl, by kernel_rfl, by kernel_rfl, by kernel_rfl⟩, by decide, by decide⟩
instance : OneT Tryd.prog 47 := ⟨⟨_, Tryd.underlying47, rfl, by kernel_rfl⟩⟩
instance : OneT Tryd.prog 49 := ⟨⟨_, Tryd.underlying49, rfl, by kernel_rfl⟩⟩
instance : OneT Tryd.prog 50 := ⟨⟨_, Tryd.underlying50, rfl, by kernel_rfl⟩⟩
instance : OneT Tryd.prog 51 := ⟨⟨_, Tryd.underlying51, rfl, by kernel_rfl⟩⟩
instance : OneT Tryd.prog 53 := ⟨⟨_, Tryd.underlying53, rfl, by kernel_rfl⟩⟩
instance : OneT Tryd.prog 54 := ⟨⟨_, Tryd.underlying54, rfl, by kernel_rfl⟩⟩
instance : OneT Tryd.prog 55 := ⟨⟨_, Tryd.underlying55, rfl, by kernel_rfl⟩⟩
instance : OneT Tryd.prog 56 := ⟨⟨_, Tryd.underlying56, rfl, by kernel_rfl⟩⟩
instance : OneT Tryd.prog 57 := ⟨⟨_, Tryd.underlying57, rfl, by kernel_rfl⟩⟩
instance : OneT Tryd.prog 58 := ⟨⟨_, Tryd.underlying58, rfl, by kernel_rfl⟩⟩
instance : OneT Tryd.prog 59 := ⟨⟨_, Tryd.underlying59, rfl, by kernel_rfl⟩⟩
instance : OneT Tryd.prog 60 := ⟨⟨_, Tryd.underlying60, rfl, by kernel_rfl⟩⟩
instance : OneT Tryd.prog 61 := ⟨⟨_, Tryd.underlying61, rfl, by kernel_rfl⟩⟩
instance : OneT Tryd.prog 62 := ⟨⟨_, Tryd.underlying62, rfl, by kernel_rfl⟩⟩
instance : OneT Tryd.prog 63 := ⟨⟨_, Tryd.underlying63, rfl, by kernel_rfl⟩⟩
instance : OneT Tryd.prog 64 := ⟨⟨_, Tryd.underlying64, rfl, by kernel_rfl⟩⟩
instance : OneT Tryd.prog 65 := ⟨⟨_, Tryd.underlying65, rfl, by kernel_rfl⟩⟩
instance : MapT Tryd.prog 66 9 3 := ⟨Tryd.underlying66, Tryd.underlying9, by kernel_rfl⟩
instance : OneT Tryd.prog 66 := ⟨⟨_, Tryd.underlying66, rfl, by kernel_rfl⟩⟩
instance : RowT Tryd.prog 67 2 := ⟨⟨_, Tryd.underlying67, rfl, by kernel_rfl⟩⟩
instance : ZeroT Tryd.prog 67 (.agg #[.slice none 0 0, .map none]) := ⟨by kernel_rfl⟩
instance : FldT Tryd.prog 67 0 0 := ⟨⟨_, _, Tryd.underlying67, rfl, rfl, by kernel_rfl⟩⟩
instance : FldT Tryd.prog 67 1 1 := ⟨⟨_, _, Tryd.underlying67, rfl, rfl, by kernel_rfl⟩⟩
instance : RowT Tryd.prog 68 2 := ⟨⟨_, Tryd.underlying68, rfl, by kernel_rfl⟩⟩
instance : ZeroT Tryd.prog 68 (.agg #[.slice none 0 0, .map none]) := ⟨by kernel_rfl⟩
instance : FldT Tryd.prog 68 0 0 := ⟨⟨_, _, Tryd.underlying68, rfl, rfl, by kernel_rfl⟩⟩
instance : FldT Tryd.prog 68 1 1 := ⟨⟨_, _, Tryd.underlying68, rfl, rfl, by kernel_rfl⟩⟩
instance : OneT Tryd.prog 69 := ⟨⟨_, Tryd.underlying69, rfl, by kernel_rfl⟩⟩
instance : OneT Tryd.prog 70 := ⟨⟨_, Tryd.underlying70, rfl, by kernel_rfl⟩⟩
instance : OneT Tryd.prog 71 := ⟨⟨_, Tryd.underlying71, rfl, by kernel_rfl⟩⟩
instance : OneT Tryd.prog 72 := ⟨⟨_, Tryd.underlying72, rfl, by kernel_rfl⟩⟩
instance : OneT Tryd.prog 73 := ⟨⟨_, Tryd.underlying73, rfl, by kernel_rfl⟩⟩
instance : OneT Tryd.prog 74 := ⟨⟨_, Tryd.underlying74, rfl, by kernel_rfl⟩⟩
instance : OneT Tryd.prog 75 := ⟨⟨_, Tryd.underlying75, rfl, by kernel_rfl⟩⟩
instance : OneT Tryd.prog 77 := ⟨⟨_, Tryd.underlying77, rfl, by kernel_rfl⟩⟩
instance : OneT Tryd.prog 78 := ⟨⟨_, Tryd.underlying78, rfl, by kernel_rfl⟩⟩
instance : OneT Tryd.prog 79 := ⟨⟨_, Tryd.underlying79, rfl, by kernel_rfl⟩⟩
instance : OneT Tryd.prog 80 := ⟨⟨_, Tryd.underlying80, rfl, by kernel_rfl⟩⟩
instance : OneT Tryd.prog 81 := ⟨⟨_, Tryd.underlying81, rfl, by kernel_rfl⟩⟩
instance : OneT Tryd.prog 82 := ⟨⟨_, Tryd.underlying82, rfl, by kernel_rfl⟩⟩
instance : OneT Tryd.prog 83 := ⟨⟨_, Tryd.underlying83, rfl, by kernel_rfl⟩⟩
instance : OneT Tryd.prog 84 := ⟨⟨_, Tryd.underlying84, rfl, by kernel_rfl⟩⟩
instance : OneT Tryd.prog 85 := ⟨⟨_, Tryd.underlying85, rfl, by kernel_rfl⟩⟩
instance : RowT Tryd.prog 86 2 := ⟨⟨_, Tryd.underlying86, rfl, by kernel_rfl⟩⟩
instance : ZeroT Tryd.prog 86 (.agg #[.pointer none, .slice none 0 0]) := ⟨by kernel_rfl⟩
instance : FldT Tryd.prog 86 0 0 := ⟨⟨_, _, Tryd.underlying86, rfl, rfl, by kernel_rfl⟩⟩
instance : FldT Tryd.prog 86 1 1 := ⟨⟨_, _, Tryd.underlying86, rfl, rfl, by kernel_rfl⟩⟩
instance : RowT Tryd.prog 87 2 := ⟨⟨_, Tryd.underlying87, rfl, by kernel_rfl⟩⟩
instance : ZeroT Tryd.prog 87 (.agg #[.pointer none, .slice none 0 0]) := ⟨by kernel_rfl⟩
instance : FldT Tryd.prog 87 0 0 := ⟨⟨_, _, Tryd.underlying87, rfl, rfl, by kernel_rfl⟩⟩
instance : FldT Tryd.prog 87 1 1 := ⟨⟨_, _, Tryd.underlying87, rfl, rfl, by kernel_rfl⟩⟩
instance : OneT Tryd.prog 88 := ⟨⟨_, Tryd.underlying88, rfl, by kernel_rfl⟩⟩
instance : OneT Tryd.prog 89 := ⟨⟨_, Tryd.underlying89, rfl, by kernel_rfl⟩⟩
instance : OneT Tryd.prog 90 := ⟨⟨_, Tryd.underlying90, rfl, by kernel_rfl⟩⟩
instance : OneT Tryd.prog 91 := ⟨⟨_, Tryd.underlying91, rfl, by kernel_rfl⟩⟩
instance : OneT Tryd.prog 92 := ⟨⟨_, Tryd.underlying92, rfl, by kernel_rfl⟩⟩
instance : OneT Tryd.prog 93 := ⟨⟨_, Tryd.underlying93, rfl, by kernel_rfl⟩⟩
instance : OneT Tryd.prog 94 := ⟨⟨_, Tryd.underlying94, rfl, by kernel_rfl⟩⟩
instance : OneT Tryd.prog 95 := ⟨⟨_, Tryd.underlying95, rfl, by kernel_rfl⟩⟩
instance : OneT Tryd.prog 96 := ⟨⟨_, Tryd.underlying96, rfl, by kernel_rfl⟩⟩
instance : OneT Tryd.prog 97 := ⟨⟨_, Tryd.underlying97, rfl, by kernel_rfl⟩⟩
instance : OneT Tryd.prog 98 := ⟨⟨_, Tryd.underlying98, rfl, by kernel_rfl⟩⟩
instance : OneT Tryd.prog 99 := ⟨⟨_, Tryd.underlying99, rfl, by kernel_rfl⟩⟩
instance : RowT Tryd.prog 100 4 := ⟨⟨_, Tryd.underlying100, rfl, by kernel_rfl⟩⟩
instance : OneT Tryd.prog 104 := ⟨⟨_, Tryd.underlying104, rfl, by kernel_rfl⟩⟩
instance : OneT Tryd.prog 105 := ⟨⟨_, Tryd.underlying105, rfl, by kernel_rfl⟩⟩
instance : OneT Tryd.prog 106 := ⟨⟨_, Tryd.underlying106, rfl, by kernel_rfl⟩⟩
instance : OneT Tryd.prog 107 := ⟨⟨_, Tryd.underlying107, rfl, by kernel_rfl⟩⟩
instance : OneT Tryd.prog 108 := ⟨⟨_, Tryd.underlying108, rfl, by kernel_rfl⟩⟩
instance : OneT Tryd.prog 109 := ⟨⟨_, Tryd.underlying109, rfl, by kernel_rfl⟩⟩
instance : OneT Tryd.prog 110 := ⟨⟨_, Tryd.underlying110, rfl, by kernel_rfl⟩⟩
instance : OneT Tryd.prog 111 := ⟨⟨_, Tryd.underlying111, rfl, by kernel_rfl⟩⟩
instance : OneT Tryd.prog 112 := ⟨⟨_, Tryd.underlying112, rfl, by kernel_rfl⟩⟩
instance : OneT Tryd.prog 113 := ⟨⟨_, Tryd.underlying113, rfl, by kernel_rfl⟩⟩
instance : OneT Tryd.prog 114 := ⟨⟨_, Tryd.underlying114, rfl, by kernel_rfl⟩⟩
instance : OneT Tryd.prog 115 := ⟨⟨_, Tryd.underlying115, rfl, by kernel_rfl⟩⟩
instance : OneT Tryd.prog 117 := ⟨⟨_, Tryd.underlying117, rfl, by kernel_rfl⟩⟩
instance : OneT Tryd.prog 118 := ⟨⟨_, Tryd.underlying118, rfl, by kernel_rfl⟩⟩
instance : OneT Tryd.prog 119 := ⟨⟨_, Tryd.underlying119, rfl, by kernel_rfl⟩⟩
instance : OneT Tryd.prog 120 := ⟨⟨_, Tryd.underlying120, rfl, by kernel_rfl⟩⟩
instance : OneT Tryd.prog 121 := ⟨⟨_, Tryd.underlying121, rfl, by kernel_rfl⟩⟩
instance : OneT Tryd.prog 122 := ⟨⟨_, Tryd.underlying122, rfl, by kernel_rfl⟩⟩
instance : OneT Tryd.prog 123 := ⟨⟨_, Tryd.underlying123, rfl, by kernel_rfl⟩⟩
instance : OneT Tryd.prog 124 := ⟨⟨_, Tryd.underlying124, rfl, by kernel_rfl⟩⟩
instance : OneT Tryd.prog 125 := ⟨⟨_, Tryd.underlying125, rfl, by kernel_rfl⟩⟩
instance : SlT Tryd.prog 126 27 1 := ⟨Tryd.underlying126, by kernel_rfl⟩
instance : AppT Tryd.prog 126 27 1 8 := ⟨Tryd.underlying126, ⟨_, _, rfl, rfl, by kernel_rfl, by kernel_rfl, by kernel_rfl⟩, by decide, by decide⟩
instance : OneT Tryd.prog 126 := ⟨⟨_, Tryd.underlying126, rfl, by kernel_rfl⟩⟩
instance : OneT Tryd.prog 127 := ⟨⟨_, Tryd.underlying127, rfl, by kernel_rfl⟩⟩
instance : OneT Tryd.prog 128 := ⟨⟨_, Tryd.underlying128, rfl, by kernel_rfl⟩⟩
instance : OneT Tryd.prog 129 := ⟨⟨_, Tryd.underlying129, rfl, by kernel_rfl⟩⟩
instance : OneT Tryd.prog 130 := ⟨⟨_, Tryd.underlying130, rfl, by kernel_rfl⟩⟩
instance : OneT Tryd.prog 131 := ⟨⟨_, Tryd.underlying131, rfl, by kernel_rfl⟩⟩
instance : OneT Tryd.prog 132 := ⟨⟨_, Tryd.underlying132, rfl, by kernel_rfl⟩⟩
instance : OneT Tryd.prog 133 := ⟨⟨_, Tryd.underlying133, rfl, by kernel_rfl⟩⟩
instance : OneT Tryd.prog 134 := ⟨⟨_, Tryd.underlying134, rfl, by kernel_rfl⟩⟩
instance : OneT Tryd.prog 135 := ⟨⟨_, Tryd.underlying135, rfl, by kernel_rfl⟩⟩
instance : OneT Tryd.prog 136 := ⟨⟨_, Tryd.underlying136, rfl, by kernel_rfl⟩⟩
instance : OneT Tryd.prog 137 := ⟨⟨_, Tryd.underlying137, rfl, by kernel_rfl⟩⟩
instance : OneT Tryd.prog 138 := ⟨⟨_, Tryd.underlying138, rfl, by kernel_rfl⟩⟩
instance : OneT Tryd.prog 139 := ⟨⟨_, Tryd.underlying139, rfl, by kernel_rfl⟩⟩
instance : OneT Tryd.prog 140 := ⟨⟨_, Tryd.underlying140, rfl, by kernel_rfl⟩⟩
instance : RowT Tryd.prog 141 24 := ⟨⟨_, Tryd.underlying141, rfl, by kernel_rfl⟩⟩
instance : OneT Tryd.prog 142 := ⟨⟨_, Tryd.underlying142, rfl, by kernel_rfl⟩⟩
instance : OneT Tryd.prog 144 := ⟨⟨_, Tryd.underlying144, rfl, by kernel_rfl⟩⟩
instance : OneT Tryd.prog 145 := ⟨⟨_, Tryd.underlying145, rfl, by kernel_rfl⟩⟩
instance : OneT Tryd.prog 146 := ⟨⟨_, Tryd.underlying146, rfl, by kernel_rfl⟩⟩
instance : OneT Tryd.prog 148 := ⟨⟨_, Tryd.underlying148, rfl, by kernel_rfl⟩⟩
instance : OneT Tryd.prog 149 := ⟨⟨_, Tryd.underlying149, rfl, by kernel_rfl⟩⟩
instance : OneT Tryd.prog 150 := ⟨⟨_, Tryd.underlying150, rfl, by kernel_rfl⟩⟩
instance : RowT Tryd.prog 151 20 := ⟨⟨_, Tryd.underlying151, rfl, by kernel_rfl⟩⟩
instance : RowT Tryd.prog 152 65 := ⟨⟨_, Tryd.underlying152, rfl, by kernel_rfl⟩⟩
instance : RowT Tryd.prog 153 32 := ⟨⟨_, Tryd.underlying153, rfl, by kernel_rfl⟩⟩
instance : RowT Tryd.prog 154 64 := ⟨⟨_, Tryd.underlying154, rfl, by kernel_rfl⟩⟩
instance : RowT Tryd.prog 155 4 := ⟨⟨_, Tryd.underlying155, rfl, by kernel_rfl⟩⟩
instance : ZeroT Tryd.prog 155 (.agg #[.pointer none, .pointer none, .pointer none, .string ByteArray.empty]) := ⟨by kernel_rfl⟩
instance : FldT Tryd.prog 155 0 0 := ⟨⟨_, _, Tryd.underlying155, rfl, rfl, by kernel_rfl⟩⟩
instance : FldT Tryd.prog 155 1 1 := ⟨⟨_, _, Tryd.underlying155, rfl, rfl, by kernel_rfl⟩⟩
instance : FldT Tryd.prog 155 2 2 := ⟨⟨_, _, Tryd.underlying155, rfl, rfl, by kernel_rfl⟩⟩
instance : FldT Tryd.prog 155 3 3 := ⟨⟨_, _, Tryd.underlying155, rfl, rfl, by kernel_rfl⟩⟩
instance : RowT Tryd.prog 157 0 := ⟨⟨_, Tryd.underlying157, rfl, by kernel_rfl⟩⟩
instance : OneT Tryd.prog 162 := ⟨⟨_, Tryd.underlying162, rfl, by kernel_rfl⟩⟩
instance : RowT Tryd.prog 165 11 := ⟨⟨_, Tryd.underlying165, rfl, by kernel_rfl⟩⟩
instance : FldT Tryd.prog 165 0 0 := ⟨⟨_, _, Tryd.underlying165, rfl, rfl, by kernel_rfl⟩⟩
instance : FldT Tryd.prog 165 1 1 := ⟨⟨_, _, Tryd.underlying165, rfl, rfl, by kernel_rfl⟩⟩
instance : FldT Tryd.prog 165 2 2 := ⟨⟨_, _, Tryd.underlying165, rfl, rfl, by kernel_rfl⟩⟩
instance : FldT Tryd.prog 165 3 3 := ⟨⟨_, _, Tryd.underlying165, rfl, rfl, by kernel_rfl⟩⟩
instance : FldT Tryd.prog 165 4 4 := ⟨⟨_, _, Tryd.underlying165, rfl, rfl, by kernel_rfl⟩⟩
instance : FldT Tryd.prog 165 5 5 := ⟨⟨_, _, Tryd.underlying165, rfl, rfl, by kernel_rfl⟩⟩
instance : FldT Tryd.prog 165 6 6 := ⟨⟨_, _, Tryd.underlying165, rfl, rfl, by kernel_rfl⟩⟩
instance : FldT Tryd.prog 165 7 7 := ⟨⟨_, _, Tryd.underlying165, rfl, rfl, by kernel_rfl⟩⟩
instance : FldT Tryd.prog 165 8 8 := ⟨⟨_, _, Tryd.underlying165, rfl, rfl, by kernel_rfl⟩⟩
instance : FldT Tryd.prog 165 9 9 := ⟨⟨_, _, Tryd.underlying165, rfl, rfl, by kernel_rfl⟩⟩
instance : FldT Tryd.prog 165 10 10 := ⟨⟨_, _, Tryd.underlying165, rfl, rfl, by kernel_rfl⟩⟩
instance : FnT Tryd.prog 3 := ⟨⟨_, Tryd.func3, by kernel_rfl, rfl⟩⟩   -- warder/warderlaw06.VaultGrows
instance : FnT Tryd.prog 4 := ⟨⟨_, Tryd.func4, by kernel_rfl, rfl⟩⟩   -- warder/warderlaw06.VaultTells
instance : FnT Tryd.prog 5 := ⟨⟨_, Tryd.func5, by kernel_rfl, rfl⟩⟩   -- warder/warderlaw06.VaultOnce
instance : FnT Tryd.prog 6 := ⟨⟨_, Tryd.func6, by kernel_rfl, rfl⟩⟩   -- warder/warderlaw07.CryptoAgain
instance : FnT Tryd.prog 7 := ⟨⟨_, Tryd.func7, by kernel_rfl, rfl⟩⟩   -- warder/warderlaw07.CryptoNothing
instance : FnT Tryd.prog 8 := ⟨⟨_, Tryd.func8, by kernel_rfl, rfl⟩⟩   -- warder/warderlaw07.CryptoSeals
instance : FnT Tryd.prog 9 := ⟨⟨_, Tryd.func9, by kernel_rfl, rfl⟩⟩   -- warder/warderlaw07.CryptoPowers
instance : FnT Tryd.prog 10 := ⟨⟨_, Tryd.func10, by kernel_rfl, rfl⟩⟩   -- warder/warderlaw06.VaultBytes
instance : FnT Tryd.prog 11 := ⟨⟨_, Tryd.func11, by kernel_rfl, rfl⟩⟩   -- warder/warderlaw06.VaultMentions
instance : FnT Tryd.prog 12 := ⟨⟨_, Tryd.func12, by kernel_rfl, rfl⟩⟩   -- warder/warderlaw06.head
instance : FnT Tryd.prog 13 := ⟨⟨_, Tryd.func13, by kernel_rfl, rfl⟩⟩   -- warder/vault.New
instance : FnT Tryd.prog 14 := ⟨⟨_, Tryd.func14, by kernel_rfl, rfl⟩⟩   -- warder/warderlaw05.Parts
instance : FnT Tryd.prog 15 := ⟨⟨_, Tryd.func15, by kernel_rfl, rfl⟩⟩   -- (*warder/vault.Vault).Len
instance : FnT Tryd.prog 16 := ⟨⟨_, Tryd.func16, by kernel_rfl, rfl⟩⟩   -- (*warder/vault.Vault).Find
instance : FnT Tryd.prog 17 := ⟨⟨_, Tryd.func17, by kernel_rfl, rfl⟩⟩   -- (*warder/vault.Vault).Intern
instance : FnT Tryd.prog 18 := ⟨⟨_, Tryd.func18, by kernel_rfl, rfl⟩⟩   -- warder/warderref05.Size
instance : FnT Tryd.prog 19 := ⟨⟨_, Tryd.func19, by kernel_rfl, rfl⟩⟩   -- warder/warderlaw05.Copied
instance : FnT Tryd.prog 20 := ⟨⟨_, Tryd.func20, by kernel_rfl, rfl⟩⟩   -- (*warder/warderref06.Vault).Intern
instance : FnT Tryd.prog 21 := ⟨⟨_, Tryd.func21, by kernel_rfl, rfl⟩⟩   -- (*warder/warderref06.Vault).Find
instance : FnT Tryd.prog 22 := ⟨⟨_, Tryd.func22, by kernel_rfl, rfl⟩⟩   -- (*warder/vault.Vault).Term
instance : FnT Tryd.prog 23 := ⟨⟨_, Tryd.func23, by kernel_rfl, rfl⟩⟩   -- (*warder/warderref06.Vault).Term
instance : FnT Tryd.prog 24 := ⟨⟨_, Tryd.func24, by kernel_rfl, rfl⟩⟩   -- warder/warderref05.Same
instance : FnT Tryd.prog 25 := ⟨⟨_, Tryd.func25, by kernel_rfl, rfl⟩⟩   -- warder/warderlaw07.head
instance : FnT Tryd.prog 26 := ⟨⟨_, Tryd.func26, by kernel_rfl, rfl⟩⟩   -- warder/warderlaw07.Both
instance : FnT Tryd.prog 27 := ⟨⟨_, Tryd.func27, by kernel_rfl, rfl⟩⟩   -- warder/crypto.Sign
instance : FnT Tryd.prog 28 := ⟨⟨_, Tryd.func28, by kernel_rfl, rfl⟩⟩   -- warder/crypto.Seal
instance : FnT Tryd.prog 29 := ⟨⟨_, Tryd.func29, by kernel_rfl, rfl⟩⟩   -- warder/crypto.Kdf
instance : FnT Tryd.prog 30 := ⟨⟨_, Tryd.func30, by kernel_rfl, rfl⟩⟩   -- warder/crypto.Open
instance : FnT Tryd.prog 31 := ⟨⟨_, Tryd.func31, by kernel_rfl, rfl⟩⟩   -- warder/crypto.Verify
instance : FnT Tryd.prog 32 := ⟨⟨_, Tryd.func32, by kernel_rfl, rfl⟩⟩   -- warder/crypto.Pub
instance : FnT Tryd.prog 33 := ⟨⟨_, Tryd.func33, by kernel_rfl, rfl⟩⟩   -- warder/crypto.Exp
instance : FnT Tryd.prog 34 := ⟨⟨_, Tryd.func34, by kernel_rfl, rfl⟩⟩   -- warder/crypto.Hash
instance : FnT Tryd.prog 35 := ⟨⟨_, Tryd.func35, by kernel_rfl, rfl⟩⟩   -- warder/crypto.Pow
instance : FnT Tryd.prog 36 := ⟨⟨_, Tryd.func36, by kernel_rfl, rfl⟩⟩   -- warder/vault.Number
instance : FnT Tryd.prog 37 := ⟨⟨_, Tryd.func37, by kernel_rfl, rfl⟩⟩   -- warder/warderref06.Number
instance : FnT Tryd.prog 38 := ⟨⟨_, Tryd.func38, by kernel_rfl, rfl⟩⟩   -- warder/vault.Bytes
instance : FnT Tryd.prog 39 := ⟨⟨_, Tryd.func39, by kernel_rfl, rfl⟩⟩   -- warder/warderref06.Bytes
instance : FnT Tryd.prog 40 := ⟨⟨_, Tryd.func40, by kernel_rfl, rfl⟩⟩   -- warder/vault.Mention
instance : FnT Tryd.prog 41 := ⟨⟨_, Tryd.func41, by kernel_rfl, rfl⟩⟩   -- warder/warderref06.Mention
instance : FnT Tryd.prog 42 := ⟨⟨_, Tryd.func42, by kernel_rfl, rfl⟩⟩   -- warder/warderref02.Same
instance : FnT Tryd.prog 43 := ⟨⟨_, Tryd.func43, by kernel_rfl, rfl⟩⟩   -- warder/vault.Mentions
instance : FnT Tryd.prog 44 := ⟨⟨_, Tryd.func44, by kernel_rfl, rfl⟩⟩   -- warder/warderref06.Mentions
instance : FnT Tryd.prog 45 := ⟨⟨_, Tryd.func45, by kernel_rfl, rfl⟩⟩   -- warder/vault.key
instance : FnT Tryd.prog 46 := ⟨⟨_, Tryd.func46, by kernel_rfl, rfl⟩⟩   -- warder/terms.Right
instance : FnT Tryd.prog 47 := ⟨⟨_, Tryd.func47, by kernel_rfl, rfl⟩⟩   -- warder/terms.Size
instance : FnT Tryd.prog 48 := ⟨⟨_, Tryd.func48, by kernel_rfl, rfl⟩⟩   -- (*warder/vault.Vault).put
instance : FnT Tryd.prog 49 := ⟨⟨_, Tryd.func49, by kernel_rfl, rfl⟩⟩   -- warder/warderref05.Right
instance : FnT Tryd.prog 50 := ⟨⟨_, Tryd.func50, by kernel_rfl, rfl⟩⟩   -- (*warder/warderref06.Vault).put
instance : FnT Tryd.prog 51 := ⟨⟨_, Tryd.func51, by kernel_rfl, rfl⟩⟩   -- warder/terms.Norm
instance : FnT Tryd.prog 52 := ⟨⟨_, Tryd.func52, by kernel_rfl, rfl⟩⟩   -- warder/warderref05.Order
instance : FnT Tryd.prog 53 := ⟨⟨_, Tryd.func53, by kernel_rfl, rfl⟩⟩   -- warder/crypto.Atom
instance : FnT Tryd.prog 54 := ⟨⟨_, Tryd.func54, by kernel_rfl, rfl⟩⟩   -- warder/crypto.made
instance : FnT Tryd.prog 55 := ⟨⟨_, Tryd.func55, by kernel_rfl, rfl⟩⟩   -- warder/crypto.of
instance : FnT Tryd.prog 56 := ⟨⟨_, Tryd.func56, by kernel_rfl, rfl⟩⟩   -- warder/crypto.both
instance : FnT Tryd.prog 57 := ⟨⟨_, Tryd.func57, by kernel_rfl, rfl⟩⟩   -- warder/terms.Order
instance : FnT Tryd.prog 58 := ⟨⟨_, Tryd.func58, by kernel_rfl, rfl⟩⟩   -- bytes.Clone
instance : FnT Tryd.prog 59 := ⟨⟨_, Tryd.func59, by kernel_rfl, rfl⟩⟩   -- bytes.Equal
instance : FnT Tryd.prog 60 := ⟨⟨_, Tryd.func60, by kernel_rfl, rfl⟩⟩   -- warder/crypto.Pow$1
instance : FnT Tryd.prog 61 := ⟨⟨_, Tryd.func61, by kernel_rfl, rfl⟩⟩   -- warder/terms.Pow
instance : FnT Tryd.prog 62 := ⟨⟨_, Tryd.func62, by kernel_rfl, rfl⟩⟩   -- bytes.CutPrefix
instance : FnT Tryd.prog 63 := ⟨⟨_, Tryd.func63, by kernel_rfl, rfl⟩⟩   -- slices.Sort[[]int,int]
instance : FnT Tryd.prog 64 := ⟨⟨_, Tryd.func64, by kernel_rfl, rfl⟩⟩   -- slices.Compact[[]int,int]
instance : FnT Tryd.prog 65 := ⟨⟨_, Tryd.func65, by kernel_rfl, rfl⟩⟩   -- warder/vault.write
instance : FnT Tryd.prog 66 := ⟨⟨_, Tryd.func66, by kernel_rfl, rfl⟩⟩   -- (*strings.Builder).String
instance : FnT Tryd.prog 67 := ⟨⟨_, Tryd.func67, by kernel_rfl, rfl⟩⟩   -- warder/terms.right
instance : FnT Tryd.prog 68 := ⟨⟨_, Tryd.func68, by kernel_rfl, rfl⟩⟩   -- warder/warderref05.right
instance : FnT Tryd.prog 69 := ⟨⟨_, Tryd.func69, by kernel_rfl, rfl⟩⟩   -- slices.Clone[[]warder/api.Term,warder/api.Term]
instance : FnT Tryd.prog 70 := ⟨⟨_, Tryd.func70, by kernel_rfl, rfl⟩⟩   -- slices.SortStableFunc[[]warder/api.Term,warder/api.Term]
instance : FnT Tryd.prog 71 := ⟨⟨_, Tryd.func71, by kernel_rfl, rfl⟩⟩   -- warder/warderref05.text
instance : FnT Tryd.prog 72 := ⟨⟨_, Tryd.func72, by kernel_rfl, rfl⟩⟩   -- warder/crypto.Atom$1
instance : FnT Tryd.prog 73 := ⟨⟨_, Tryd.func73, by kernel_rfl, rfl⟩⟩   -- warder/crypto.of$1
instance : FnT Tryd.prog 74 := ⟨⟨_, Tryd.func74, by kernel_rfl, rfl⟩⟩   -- cmp.Or[int]
instance : FnT Tryd.prog 75 := ⟨⟨_, Tryd.func75, by kernel_rfl, rfl⟩⟩   -- cmp.Compare[warder/api.TermOp]
instance : FnT Tryd.prog 76 := ⟨⟨_, Tryd.func76, by kernel_rfl, rfl⟩⟩   -- cmp.Compare[int64]
instance : FnT Tryd.prog 77 := ⟨⟨_, Tryd.func77, by kernel_rfl, rfl⟩⟩   -- bytes.Compare
instance : FnT Tryd.prog 78 := ⟨⟨_, Tryd.func78, by kernel_rfl, rfl⟩⟩   -- slices.CompareFunc[[]warder/api.Term,[]warder/api.Term,warder/api.Term,warder/api.Term]
instance : FnT Tryd.prog 79 := ⟨⟨_, Tryd.func79, by kernel_rfl, rfl⟩⟩   -- bytes.HasPrefix
instance : FnT Tryd.prog 80 := ⟨⟨_, Tryd.func80, by kernel_rfl, rfl⟩⟩   -- slices.pdqsortOrdered[int]
instance : FnT Tryd.prog 81 := ⟨⟨_, Tryd.func81, by kernel_rfl, rfl⟩⟩   -- math/bits.Len
instance : FnT Tryd.prog 82 := ⟨⟨_, Tryd.func82, by kernel_rfl, rfl⟩⟩   -- (*strings.Builder).WriteString
instance : FnT Tryd.prog 83 := ⟨⟨_, Tryd.func83, by kernel_rfl, rfl⟩⟩   -- strconv.FormatInt
instance : FnT Tryd.prog 84 := ⟨⟨_, Tryd.func84, by kernel_rfl, rfl⟩⟩   -- (*strings.Builder).Write
instance : FnT Tryd.prog 85 := ⟨⟨_, Tryd.func85, by kernel_rfl, rfl⟩⟩   -- warder/terms.among
instance : FnT Tryd.prog 86 := ⟨⟨_, Tryd.func86, by kernel_rfl, rfl⟩⟩   -- warder/terms.right$1
instance : FnT Tryd.prog 87 := ⟨⟨_, Tryd.func87, by kernel_rfl, rfl⟩⟩   -- slices.ContainsFunc[[]warder/api.Term,warder/api.Term]
instance : FnT Tryd.prog 88 := ⟨⟨_, Tryd.func88, by kernel_rfl, rfl⟩⟩   -- slices.IsSortedFunc[[]warder/api.Term,warder/api.Term]
instance : FnT Tryd.prog 89 := ⟨⟨_, Tryd.func89, by kernel_rfl, rfl⟩⟩   -- warder/warderref05.kids
instance : FnT Tryd.prog 90 := ⟨⟨_, Tryd.func90, by kernel_rfl, rfl⟩⟩   -- slices.stableCmpFunc[warder/api.Term]
instance : FnT Tryd.prog 91 := ⟨⟨_, Tryd.func91, by kernel_rfl, rfl⟩⟩   -- cmp.isNaN[warder/api.TermOp]
instance : FnT Tryd.prog 92 := ⟨⟨_, Tryd.func92, by kernel_rfl, rfl⟩⟩   -- cmp.isNaN[int64]
instance : FnT Tryd.prog 94 := ⟨⟨_, Tryd.func94, by kernel_rfl, rfl⟩⟩   -- slices.insertionSortOrdered[int]
instance : FnT Tryd.prog 95 := ⟨⟨_, Tryd.func95, by kernel_rfl, rfl⟩⟩   -- slices.heapSortOrdered[int]
instance : FnT Tryd.prog 96 := ⟨⟨_, Tryd.func96, by kernel_rfl, rfl⟩⟩   -- slices.breakPatternsOrdered[int]
instance : FnT Tryd.prog 97 := ⟨⟨_, Tryd.func97, by kernel_rfl, rfl⟩⟩   -- slices.choosePivotOrdered[int]
instance : FnT Tryd.prog 98 := ⟨⟨_, Tryd.func98, by kernel_rfl, rfl⟩⟩   -- slices.reverseRangeOrdered[int]
instance : FnT Tryd.prog 99 := ⟨⟨_, Tryd.func99, by kernel_rfl, rfl⟩⟩   -- slices.partialInsertionSortOrdered[int]
instance : FnT Tryd.prog 100 := ⟨⟨_, Tryd.func100, by kernel_rfl, rfl⟩⟩   -- cmp.Less[int]
instance : FnT Tryd.prog 101 := ⟨⟨_, Tryd.func101, by kernel_rfl, rfl⟩⟩   -- slices.partitionEqualOrdered[int]
instance : FnT Tryd.prog 102 := ⟨⟨_, Tryd.func102, by kernel_rfl, rfl⟩⟩   -- slices.partitionOrdered[int]
instance : FnT Tryd.prog 103 := ⟨⟨_, Tryd.func103, by kernel_rfl, rfl⟩⟩   -- math/bits.Len32
instance : FnT Tryd.prog 104 := ⟨⟨_, Tryd.func104, by kernel_rfl, rfl⟩⟩   -- math/bits.Len64
instance : FnT Tryd.prog 105 := ⟨⟨_, Tryd.func105, by kernel_rfl, rfl⟩⟩   -- (*strings.Builder).copyCheck
instance : FnT Tryd.prog 106 := ⟨⟨_, Tryd.func106, by kernel_rfl, rfl⟩⟩   -- internal/strconv.FormatInt
instance : FnT Tryd.prog 107 := ⟨⟨_, Tryd.func107, by kernel_rfl, rfl⟩⟩   -- slices.Contains[[]warder/api.TermOp,warder/api.TermOp]
instance : FnT Tryd.prog 108 := ⟨⟨_, Tryd.func108, by kernel_rfl, rfl⟩⟩   -- slices.IndexFunc[[]warder/api.Term,warder/api.Term]
instance : FnT Tryd.prog 109 := ⟨⟨_, Tryd.func109, by kernel_rfl, rfl⟩⟩   -- slices.insertionSortCmpFunc[warder/api.Term]
instance : FnT Tryd.prog 110 := ⟨⟨_, Tryd.func110, by kernel_rfl, rfl⟩⟩   -- slices.symMergeCmpFunc[warder/api.Term]
instance : FnT Tryd.prog 111 := ⟨⟨_, Tryd.func111, by kernel_rfl, rfl⟩⟩   -- slices.siftDownOrdered[int]
instance : FnT Tryd.prog 112 := ⟨⟨_, Tryd.func112, by kernel_rfl, rfl⟩⟩   -- slices.nextPowerOfTwo
instance : FnT Tryd.prog 113 := ⟨⟨_, Tryd.func113, by kernel_rfl, rfl⟩⟩   -- (*slices.xorshift).Next
instance : FnT Tryd.prog 114 := ⟨⟨_, Tryd.func114, by kernel_rfl, rfl⟩⟩   -- slices.medianAdjacentOrdered[int]
instance : FnT Tryd.prog 115 := ⟨⟨_, Tryd.func115, by kernel_rfl, rfl⟩⟩   -- slices.medianOrdered[int]
instance : FnT Tryd.prog 116 := ⟨⟨_, Tryd.func116, by kernel_rfl, rfl⟩⟩   -- cmp.isNaN[int]
instance : FnT Tryd.prog 118 := ⟨⟨_, Tryd.func118, by kernel_rfl, rfl⟩⟩   -- internal/strconv.small
instance : FnT Tryd.prog 119 := ⟨⟨_, Tryd.func119, by kernel_rfl, rfl⟩⟩   -- internal/strconv.numDigits
instance : FnT Tryd.prog 120 := ⟨⟨_, Tryd.func120, by kernel_rfl, rfl⟩⟩   -- internal/strconv.formatBase10
instance : FnT Tryd.prog 121 := ⟨⟨_, Tryd.func121, by kernel_rfl, rfl⟩⟩   -- internal/strconv.formatBits
instance : FnT Tryd.prog 122 := ⟨⟨_, Tryd.func122, by kernel_rfl, rfl⟩⟩   -- slices.Index[[]warder/api.TermOp,warder/api.TermOp]
instance : FnT Tryd.prog 123 := ⟨⟨_, Tryd.func123, by kernel_rfl, rfl⟩⟩   -- slices.rotateCmpFunc[warder/api.Term]
instance : FnT Tryd.prog 124 := ⟨⟨_, Tryd.func124, by kernel_rfl, rfl⟩⟩   -- slices.order2Ordered[int]
instance : FnT Tryd.prog 125 := ⟨⟨_, Tryd.func125, by kernel_rfl, rfl⟩⟩   -- internal/strconv.log10Pow2
instance : FnT Tryd.prog 126 := ⟨⟨_, Tryd.func126, by kernel_rfl, rfl⟩⟩   -- internal/strconv.bool2[int]
instance : FnT Tryd.prog 127 := ⟨⟨_, Tryd.func127, by kernel_rfl, rfl⟩⟩   -- internal/strconv.isPowerOfTwo
instance : FnT Tryd.prog 128 := ⟨⟨_, Tryd.func128, by kernel_rfl, rfl⟩⟩   -- math/bits.TrailingZeros
instance : FnT Tryd.prog 129 := ⟨⟨_, Tryd.func129, by kernel_rfl, rfl⟩⟩   -- slices.swapRangeCmpFunc[warder/api.Term]
instance : FnT Tryd.prog 130 := ⟨⟨_, Tryd.func130, by kernel_rfl, rfl⟩⟩   -- math/bits.TrailingZeros32
instance : FnT Tryd.prog 131 := ⟨⟨_, Tryd.func131, by kernel_rfl, rfl⟩⟩   -- math/bits.TrailingZeros64
instance : CmpT Tryd.prog 93 := ⟨⟨_, Tryd.func93, by kernel_rfl, rfl, by kernel_rfl, by kernel_rfl⟩⟩
end Go.Proofs.YtnjomdjkbbhdoaaDoor
namespace Go.Proofs.YtnjomdjkbbhdoaaDoor
open Go.RowKit
set_option linter.unusedVariables false
def kidsOK (o : Int) (ks : List T) : Bool :=
  if o = 1 ∨ o = 5 then decide (ks.length = 0) else if o = 2 ∨ o = 3 ∨ o = 4 ∨ o = 6 then decide (ks.length = 1) else if o = 7 then decide (ks.length ≤ 4) else false
theorem shape_go (o n : Int) (d : List UInt8) (ks : List T) : shape o n d ks = (kidsOK o ks && !decide (8192 < (d.length : Int)) &&
    !(decide (o = 1) && (decide (n < 0) || decide (1099511627776 < n)) || decide (o ≠ 1) && decide (n ≠ 0)) &&
    !(decide (0 < (d.length : Int)) && decide (o ≠ 3) && decide (o ≠ 4) && decide (o ≠ 5) && decide (o ≠ 6))) := by
  rw [Bool.eq_iff_iff]
  unfold shape kidsOK
  simp only [Bool.and_eq_true, Bool.or_eq_true, decide_eq_true_eq, Bool.not_eq_true', Bool.or_eq_false_iff, Bool.and_eq_false_iff, decide_eq_false_iff_not]
  by_cases h1 : o = 1 ∨ o = 5
  · simp only [if_pos h1, decide_eq_true_eq]; omega
  · simp only [if_neg h1]
    by_cases h2 : o = 2 ∨ o = 3 ∨ o = 4 ∨ o = 6
    · simp only [if_pos h2, if_neg (show ¬ o = 7 by omega), decide_eq_true_eq]; omega
    · simp only [if_neg h2]
      by_cases h3 : o = 7
      · simp only [if_pos h3, decide_eq_true_eq]; omega
      · have hn : ¬ (1 ≤ o ∧ o ≤ 7) := by omega
        simp [h3, hn]
def firstNZ : List Int → Int
  | [] => 0
  | z :: r => if z = 0 then firstNZ r else z
theorem firstNZ_take : ∀ {zs : List Int} {i : Nat}, (∀ j (h : j < zs.length), j < i → zs[j] = 0) → firstNZ zs = firstNZ (zs.drop i)
  | zs, 0, _ => rfl
  | [], i + 1, _ => rfl
  | z :: r, i + 1, h => by
    have h0 : z = 0 := h 0 (by simp) (by omega)
    simp only [firstNZ, h0, if_true, List.drop_succ_cons]
    exact firstNZ_take fun j hj hji => h (j + 1) (by simpa using hj) (by omega)
theorem firstNZ3 (x y z r : Int) : lex x (lex y (lex z r)) = lex (firstNZ [x, y, z]) r := by
  simp only [firstNZ, lex]
  by_cases hx : x = 0 <;> by_cases hy : y = 0 <;> by_cases hz : z = 0 <;> simp [hx, hy, hz]
def intsV (zs : List Int) : List Value := zs.map fun z => Value.int .i64 z
theorem intsV_get {zs : List Int} {i : Nat} (h : i < zs.length) : (intsV zs)[i]? = some (.int .i64 zs[i]) := by simp [intsV, h]
def idxI : List Int → Int → Int
  | [], _ => -1
  | z :: r, o => if z = o then 0 else if idxI r o = -1 then -1 else idxI r o + 1
theorem idxI_ge : ∀ (zs : List Int) (o : Int), -1 ≤ idxI zs o
  | [], o => by simp [idxI]
  | z :: r, o => by
    have := idxI_ge r o
    simp only [idxI]
    split
    · omega
    · split <;> omega
theorem idxI_mem : ∀ {zs : List Int} {o : Int}, 0 ≤ idxI zs o ↔ o ∈ zs
  | [], o => by simp [idxI]
  | z :: r, o => by
    have ih := idxI_mem (zs := r) (o := o)
    have hg := idxI_ge r o
    simp only [idxI, List.mem_cons]
    by_cases hz : z = o
    · simp [hz]
    · rw [if_neg hz, ← ih]
      have hz' : ¬ o = z := fun h => hz h.symm
      split
      · constructor
        · intro h; omega
        · rintro (h | h)
          · exact absurd h hz'
          · omega
      · constructor
        · intro h; right; omega
        · rintro (h | h)
          · exact absurd h hz'
          · omega
theorem idxI_at : ∀ {zs : List Int} {o : Int} {i : Nat}, (h : i < zs.length) → zs[i] = o → (∀ j (h : j < zs.length), j < i → zs[j] ≠ o) → idxI zs o = (i : Int)
  | z :: r, o, 0, h, e, hn => by have e' : z = o := e; simp [idxI, e']
  | z :: r, o, i + 1, h, e, hn => by
    have hz : z ≠ o := hn 0 (by simp) (by omega)
    have ih := idxI_at (zs := r) (o := o) (i := i) (by simpa using h) (by simpa using e) (fun j hj hji => hn (j + 1) (by simpa using hj) (by omega))
    rw [idxI, if_neg hz, ih, if_neg (by omega)]; simp
theorem idxI_none : ∀ {zs : List Int} {o : Int}, (∀ j (h : j < zs.length), zs[j] ≠ o) → idxI zs o = -1
  | [], o, _ => rfl
  | z :: r, o, hn => by
    have hz : z ≠ o := hn 0 (by simp)
    have ih := idxI_none (zs := r) (o := o) (fun j hj => hn (j + 1) (by simpa using hj))
    rw [idxI, if_neg hz, ih, if_pos rfl]
def findI (p : T → Bool) : List T → Int
  | [] => -1
  | k :: r => if p k = true then 0 else if findI p r = -1 then -1 else findI p r + 1
theorem findI_ge (p : T → Bool) : ∀ (ks : List T), -1 ≤ findI p ks
  | [] => by simp [findI]
  | k :: r => by
    have := findI_ge p r
    simp only [findI]
    split
    · omega
    · split <;> omega
theorem findI_any (p : T → Bool) : ∀ (ks : List T), decide (0 ≤ findI p ks) = ks.any p
  | [] => by simp [findI]
  | k :: r => by
    have ih := findI_any p r
    have hg := findI_ge p r
    by_cases hk : p k = true
    · simp [findI, hk]
    · have hk' : p k = false := by simpa using hk
      rw [List.any_cons, hk', Bool.false_or, ← ih, decide_eq_decide]
      simp only [findI, hk', Bool.false_eq_true, if_false]
      split <;> omega
theorem findI_at {p : T → Bool} : ∀ {ks : List T} {i : Nat}, (h : i < ks.length) → p ks[i] = true → (∀ j (h : j < ks.length), j < i → p ks[j] = false) → findI p ks = (i : Int)
  | k :: r, 0, h, e, hn => by have e' : p k = true := e; simp [findI, e']
  | k :: r, i + 1, h, e, hn => by
    have hz : p k = false := hn 0 (by simp) (by omega)
    have ih := findI_at (p := p) (ks := r) (i := i) (by simpa using h) (by simpa using e) (fun j hj hji => hn (j + 1) (by simpa using hj) (by omega))
    rw [findI, if_neg (by simp [hz]), ih, if_neg (by omega)]; simp
theorem findI_none {p : T → Bool} : ∀ {ks : List T}, (∀ j (h : j < ks.length), p ks[j] = false) → findI p ks = -1
  | [], _ => rfl
  | k :: r, hn => by
    have hz : p k = false := hn 0 (by simp)
    have ih := findI_none (p := p) (ks := r) (fun j hj => hn (j + 1) (by simpa using hj))
    rw [findI, if_neg (by simp [hz]), ih, if_pos rfl]
theorem rightsD_any : ∀ (ks : List T) (dp : Nat), rightsD ks dp = !(ks.any fun k => !rightD k dp)
  | [], dp => by simp [rightsD]
  | k :: r, dp => by rw [rightsD, rightsD_any r dp]; simp [Bool.not_or]
theorem shape_prog {o n : Int} {d : List UInt8} {ks : List T} {kA kB : Bool} (hA : kA = decide (o ∈ [(3 : Int), 4, 6])) (hB : kB = decide (o ∈ [(1 : Int), 5])) :
    shape o n d ks = (!(decide (8192 < (d.length : Int)) || decide (n < 0) || decide (1099511627776 < n)) && !(decide (0 < n) && decide (o ≠ 1) || decide (0 < (d.length : Int)) && !kA && decide (o ≠ 5)) &&
      !(kB && decide ((ks.length : Int) ≠ 0) || (kA || decide (o = 2)) && decide ((ks.length : Int) ≠ 1) || decide (o = 7) && decide (4 < (ks.length : Int))) && !(decide (o < 1) || decide (7 < o))) := by
  subst hA; subst hB
  rw [Bool.eq_iff_iff]
  unfold shape
  simp only [Bool.and_eq_true, Bool.or_eq_true, decide_eq_true_eq, Bool.not_eq_true', Bool.or_eq_false_iff, Bool.and_eq_false_iff, decide_eq_false_iff_not, List.mem_cons, List.not_mem_nil, or_false, Bool.not_eq_false', decide_eq_true_eq]
  by_cases h1 : o = 1 ∨ o = 5
  · simp only [if_pos h1, decide_eq_true_eq]; omega
  · simp only [if_neg h1]
    by_cases h3 : o = 7
    · simp only [if_pos h3, decide_eq_true_eq]; omega
    · simp only [if_neg h3, decide_eq_true_eq]; omega
theorem sizes_take (ks : List T) (i : Nat) (h : i < ks.length) : sizes (ks.take (i + 1)) = sizes (ks.take i) + size ks[i] := by
  rw [List.take_succ_eq_append_getElem h, sizes_append]; simp [sizes]
theorem sizes_take_le (ks : List T) (i : Nat) : sizes (ks.take i) ≤ sizes ks := by
  have := sizes_append (ks.take i) (ks.drop i)
  rw [List.take_append_drop] at this; omega
theorem norms_len : ∀ (ks : List T), (norms ks).length = ks.length
  | [] => rfl
  | k :: r => by simp [norms, norms_len r]
theorem norms_app : ∀ (a b : List T), norms (a ++ b) = norms a ++ norms b
  | [], b => rfl
  | k :: r, b => by simp [norms, norms_app r b]
theorem norms_take (ks : List T) (i : Nat) (h : i < ks.length) : norms (ks.take (i + 1)) = norms (ks.take i) ++ [norm ks[i]] := by
  rw [List.take_succ_eq_append_getElem h, norms_app]; rfl
theorem putB_len (ks : List T) (x : T) : (putB ks x).length = ks.length + 1 := by
  unfold putB
  have : backAt ks x ks.length ≤ ks.length := by
    have key : ∀ n, backAt ks x n ≤ n := by
      intro n
      induction n with
      | zero => exact Nat.le_refl _
      | succ n ih => unfold backAt; split <;> omega
    exact key _
  simp; omega
theorem sortB_len : ∀ (l acc : List T), (sortB acc l).length = acc.length + l.length
  | [], acc => rfl
  | k :: r, acc => by rw [sortB, sortB_len r, putB_len]; simp; omega
theorem norm_mk (o n : Int) (d : List UInt8) (ks : List T) : norm (.mk o n d ks) = .mk o n d (if o = 7 then sortB [] (norms ks) else norms ks) := by rw [norm]
theorem cmpI_m {a b : Int} (h : a < b) : cmpI a b = -1 := by unfold cmpI; rw [if_pos h]
theorem cmpI_p {a b : Int} (h : b < a) : cmpI a b = 1 := by unfold cmpI; rw [if_neg (by omega), if_pos h]
theorem cmpI_0 {a b : Int} (h : a = b) : cmpI a b = 0 := cmpI_zero.2 h
theorem ord_mk (o n : Int) (d : List UInt8) (ks : List T) (u : T) : ord (.mk o n d ks) u = lex (cmpI o u.op) (lex (cmpI n u.num) (lex (cmpB d u.data) (ords ks u.kids))) := by unfold ord; rfl
theorem ords_cons (a b : T) (r s : List T) : ords (a :: r) (b :: s) = lex (ord a b) (ords r s) := by rw [ords]
theorem ords_step {ks ls : List T} {i : Nat} (h : i < ks.length) (k : i < ls.length) : ords (ks.drop i) (ls.drop i) = lex (ord ks[i] ls[i]) (ords (ks.drop (i + 1)) (ls.drop (i + 1))) := by
  rw [List.drop_eq_getElem_cons h, List.drop_eq_getElem_cons k, ords_cons]
theorem ords_short {ks ls : List T} {i : Nat} (h : ks.length ≤ i) (k : i < ls.length) : ords (ks.drop i) (ls.drop i) = -1 := by
  rw [List.drop_eq_nil_of_le h, List.drop_eq_getElem_cons k, ords]
theorem ords_long {ks ls : List T} {i : Nat} (h : i < ks.length) (k : ls.length ≤ i) : ords (ks.drop i) (ls.drop i) = 1 := by
  rw [List.drop_eq_nil_of_le k, List.drop_eq_getElem_cons h, ords]
theorem ords_end {ks ls : List T} {i : Nat} (h : ks.length ≤ i) (k : ls.length ≤ i) : ords (ks.drop i) (ls.drop i) = 0 := by
  rw [List.drop_eq_nil_of_le k, List.drop_eq_nil_of_le h, ords]
end Go.Proofs.YtnjomdjkbbhdoaaDoor
namespace Go.Proofs.YtnjomdjkbbhdoaaDoor
open Go.RowKit
set_option linter.unusedVariables false
set_option linter.unusedSimpArgs false
set_option maxRecDepth 100000
set_option maxHeartbeats 400000 in
theorem rText {a b : List UInt8} {σ : Hp} {va vb : Value} {w : World} (hi : Imm σ w) (ha : BytesV σ va a) (hb : BytesV σ vb b) :
    Calls Tryd.prog 71 #[va, vb] w fun e w' => e = .returned (.int .i64 (cmpB a b)) ∧ Below w.heap.size w w' := by
  refine enter (St w (fun _ => False) σ [] []) Tryd.func71 rfl Tryd.ntmps71 rfl (St.start hi) ?_
  refine cw_seq ?_
  refine cw_region ?_
  refine ow_val rfl rfl (ex_assign rfl) ?_
  refine ow_nil ?_
  refine qw_seq ?_
  refine cw_seq ?_
  refine cw_seq ?_
  refine cw_region ?_
  refine ow_val rfl rfl (ex_move rfl) ?_
  refine ow_val rfl rfl (ex_tostr rfl (by assumption) (fun w h => h.im)) ?_
  refine ow_val rfl rfl (ex_move rfl) ?_
  refine ow_val rfl rfl (ex_tostr rfl (by assumption) (fun w h => h.im)) ?_
  refine ow_val rfl rfl (ex_strlss rfl rfl) ?_
  refine ow_nil ?_
  refine qw_seq ?_
  refine cw_cond rfl (fun c9 => ?_) (fun c9 => ?_)
  ·
    refine cw_seq ?_
    refine cw_region ?_
    refine ow_val rfl rfl (ex_assign rfl) ?_
    refine ow_nil ?_
    refine qw_seq ?_
    refine cw_ret ?_
    refine qw_then_ret ?_
    refine qw_ret1 rfl rfl (fun w' h => ⟨?_, h.ag.below⟩)
    have h3 := cmpB_tri a b
    unfold Tri at h3
    simp at *
    omega
  ·
    refine cw_skip ?_
    refine qw_seq ?_
    refine cw_seq ?_
    refine cw_seq ?_
    refine cw_region ?_
    refine ow_val rfl rfl (ex_move rfl) ?_
    refine ow_val rfl rfl (ex_tostr rfl (by assumption) (fun w h => h.im)) ?_
    refine ow_val rfl rfl (ex_move rfl) ?_
    refine ow_val rfl rfl (ex_tostr rfl (by assumption) (fun w h => h.im)) ?_
    refine ow_val rfl rfl (ex_strgtr rfl rfl) ?_
    refine ow_nil ?_
    refine qw_seq ?_
    refine cw_cond rfl (fun c14 => ?_) (fun c14 => ?_)
    ·
      refine cw_seq ?_
      refine cw_region ?_
      refine ow_val rfl rfl (ex_assign rfl) ?_
      refine ow_nil ?_
      refine qw_seq ?_
      refine cw_ret ?_
      refine qw_then_ret ?_
      refine qw_ret1 rfl rfl (fun w' h => ⟨?_, h.ag.below⟩)
      have h3 := cmpB_tri a b
      unfold Tri at h3
      simp at *
      omega
    ·
      refine cw_skip ?_
      refine qw_seq ?_
      refine cw_seq ?_
      refine cw_region ?_
      refine ow_val rfl rfl (ex_assign rfl) ?_
      refine ow_nil ?_
      refine qw_seq ?_
      refine cw_ret ?_
      refine qw_ret1 rfl rfl (fun w' h => ⟨?_, h.ag.below⟩)
      have h3 := cmpB_tri a b
      unfold Tri at h3
      simp at *
      omega
set_option maxHeartbeats 400000 in
theorem rKids {o n : Int} {dv kv : Value} {ks : List T} {σ : Hp} {w : World} (hi : Imm σ w) (hk : KidsV σ kv ks) :
    Calls Tryd.prog 89 #[.agg #[.int .i64 o, .int .i64 n, dv, kv]] w fun e w' => e = .returned (.bool (kidsOK o ks)) ∧ Below w.heap.size w w' := by
  obtain ⟨p, c, rfl, hc, hm⟩ := hk.slice
  refine enter (St w (fun _ => False) σ [] []) Tryd.func89 rfl Tryd.ntmps89 rfl (St.start hi) ?_
  refine cw_seq ?_
  refine cw_region ?_
  refine ow_blk rfl rfl (exw_box rfl) ?_; intro b1
  refine ow_val rfl rfl (ex_assign rfl) ?_
  refine ow_nil ?_
  refine qw_seq ?_
  refine cw_seq ?_
  refine cw_seq ?_
  refine cw_region ?_
  refine ow_val rfl rfl (ex_field rfl) ?_
  refine ow_val rfl rfl (ex_load1 rfl (by first | exact ld_own1 0 rfl rfl | exact ld_own1 1 rfl rfl | exact ld_own1 2 rfl rfl | exact ld_own1 3 rfl rfl | exact ld_own1 4 rfl rfl | exact ld_own1 5 rfl rfl | exact ld_own1 6 rfl rfl | exact ld_own1 7 rfl rfl | exact ld_ownG1 0 rfl rfl | exact ld_ownG1 1 rfl rfl | exact ld_imm1 (by assumption))) ?_
  refine ow_nil ?_
  refine qw_seq ?_
  refine cw_block ?_
  refine cw_seq ?_
  refine cw_seq ?_
  refine cw_region ?_
  refine ow_val rfl rfl (ex_eql rfl rfl) ?_
  refine ow_val rfl rfl (ex_assign rfl) ?_
  refine ow_nil ?_
  refine qw_seq ?_
  refine cw_cond rfl (fun c5 => ?_) (fun c5 => ?_)
  ·
    refine cw_skip ?_
    refine qw_seq ?_
    refine cw_cond_k rfl c5 ?_
    refine cw_seq ?_
    refine cw_region ?_
    refine ow_val rfl rfl (ex_field rfl) ?_
    refine ow_val rfl rfl (ex_load1 rfl (by first | exact ld_own1 0 rfl rfl | exact ld_own1 1 rfl rfl | exact ld_own1 2 rfl rfl | exact ld_own1 3 rfl rfl | exact ld_own1 4 rfl rfl | exact ld_own1 5 rfl rfl | exact ld_own1 6 rfl rfl | exact ld_own1 7 rfl rfl | exact ld_ownG1 0 rfl rfl | exact ld_ownG1 1 rfl rfl | exact ld_imm1 (by assumption))) ?_
    refine ow_val rfl rfl (ex_len (ty := 0) rfl) ?_
    refine ow_val rfl rfl (ex_eql rfl rfl) ?_
    refine ow_val rfl rfl (ex_assign rfl) ?_
    refine ow_nil ?_
    refine qw_seq ?_
    refine cw_ret ?_
    refine qw_block_ret ?_
    refine qw_then_ret ?_
    refine qw_ret1 rfl rfl (fun w' h => ⟨?_, h.ag.below⟩)
    simp_all [kidsOK] <;> omega
  ·
    refine cw_region ?_
    refine ow_val rfl rfl (ex_eql rfl rfl) ?_
    refine ow_val rfl rfl (ex_assign rfl) ?_
    refine ow_nil ?_
    refine qw_seq ?_
    refine cw_cond rfl (fun c5 => ?_) (fun c5 => ?_)
    ·
      refine cw_seq ?_
      refine cw_region ?_
      refine ow_val rfl rfl (ex_field rfl) ?_
      refine ow_val rfl rfl (ex_load1 rfl (by first | exact ld_own1 0 rfl rfl | exact ld_own1 1 rfl rfl | exact ld_own1 2 rfl rfl | exact ld_own1 3 rfl rfl | exact ld_own1 4 rfl rfl | exact ld_own1 5 rfl rfl | exact ld_own1 6 rfl rfl | exact ld_own1 7 rfl rfl | exact ld_ownG1 0 rfl rfl | exact ld_ownG1 1 rfl rfl | exact ld_imm1 (by assumption))) ?_
      refine ow_val rfl rfl (ex_len (ty := 0) rfl) ?_
      refine ow_val rfl rfl (ex_eql rfl rfl) ?_
      refine ow_val rfl rfl (ex_assign rfl) ?_
      refine ow_nil ?_
      refine qw_seq ?_
      refine cw_ret ?_
      refine qw_block_ret ?_
      refine qw_then_ret ?_
      refine qw_ret1 rfl rfl (fun w' h => ⟨?_, h.ag.below⟩)
      simp_all [kidsOK] <;> omega
    ·
      refine cw_seq ?_
      refine cw_seq ?_
      refine cw_region ?_
      refine ow_val rfl rfl (ex_eql rfl rfl) ?_
      refine ow_val rfl rfl (ex_assign rfl) ?_
      refine ow_nil ?_
      refine qw_seq ?_
      refine cw_cond rfl (fun c12 => ?_) (fun c12 => ?_)
      ·
        refine cw_skip ?_
        refine qw_seq ?_
        refine cw_cond_k rfl c12 ?_
        refine cw_seq ?_
        refine cw_region ?_
        refine ow_val rfl rfl (ex_field rfl) ?_
        refine ow_val rfl rfl (ex_load1 rfl (by first | exact ld_own1 0 rfl rfl | exact ld_own1 1 rfl rfl | exact ld_own1 2 rfl rfl | exact ld_own1 3 rfl rfl | exact ld_own1 4 rfl rfl | exact ld_own1 5 rfl rfl | exact ld_own1 6 rfl rfl | exact ld_own1 7 rfl rfl | exact ld_ownG1 0 rfl rfl | exact ld_ownG1 1 rfl rfl | exact ld_imm1 (by assumption))) ?_
        refine ow_val rfl rfl (ex_len (ty := 0) rfl) ?_
        refine ow_val rfl rfl (ex_eql rfl rfl) ?_
        refine ow_val rfl rfl (ex_assign rfl) ?_
        refine ow_nil ?_
        refine qw_seq ?_
        refine cw_ret ?_
        refine qw_block_ret ?_
        refine qw_then_ret ?_
        refine qw_ret1 rfl rfl (fun w' h => ⟨?_, h.ag.below⟩)
        simp_all [kidsOK] <;> omega
      ·
        refine cw_seq ?_
        refine cw_region ?_
        refine ow_val rfl rfl (ex_eql rfl rfl) ?_
        refine ow_val rfl rfl (ex_assign rfl) ?_
        refine ow_nil ?_
        refine qw_seq ?_
        refine cw_cond rfl (fun c12 => ?_) (fun c12 => ?_)
        ·
          refine cw_skip ?_
          refine qw_seq ?_
          refine cw_cond_k rfl c12 ?_
          refine cw_seq ?_
          refine cw_region ?_
          refine ow_val rfl rfl (ex_field rfl) ?_
          refine ow_val rfl rfl (ex_load1 rfl (by first | exact ld_own1 0 rfl rfl | exact ld_own1 1 rfl rfl | exact ld_own1 2 rfl rfl | exact ld_own1 3 rfl rfl | exact ld_own1 4 rfl rfl | exact ld_own1 5 rfl rfl | exact ld_own1 6 rfl rfl | exact ld_own1 7 rfl rfl | exact ld_ownG1 0 rfl rfl | exact ld_ownG1 1 rfl rfl | exact ld_imm1 (by assumption))) ?_
          refine ow_val rfl rfl (ex_len (ty := 0) rfl) ?_
          refine ow_val rfl rfl (ex_eql rfl rfl) ?_
          refine ow_val rfl rfl (ex_assign rfl) ?_
          refine ow_nil ?_
          refine qw_seq ?_
          refine cw_ret ?_
          refine qw_block_ret ?_
          refine qw_then_ret ?_
          refine qw_ret1 rfl rfl (fun w' h => ⟨?_, h.ag.below⟩)
          simp_all [kidsOK] <;> omega
        ·
          refine cw_seq ?_
          refine cw_region ?_
          refine ow_val rfl rfl (ex_eql rfl rfl) ?_
          refine ow_val rfl rfl (ex_assign rfl) ?_
          refine ow_nil ?_
          refine qw_seq ?_
          refine cw_cond rfl (fun c12 => ?_) (fun c12 => ?_)
          ·
            refine cw_skip ?_
            refine qw_seq ?_
            refine cw_cond_k rfl c12 ?_
            refine cw_seq ?_
            refine cw_region ?_
            refine ow_val rfl rfl (ex_field rfl) ?_
            refine ow_val rfl rfl (ex_load1 rfl (by first | exact ld_own1 0 rfl rfl | exact ld_own1 1 rfl rfl | exact ld_own1 2 rfl rfl | exact ld_own1 3 rfl rfl | exact ld_own1 4 rfl rfl | exact ld_own1 5 rfl rfl | exact ld_own1 6 rfl rfl | exact ld_own1 7 rfl rfl | exact ld_ownG1 0 rfl rfl | exact ld_ownG1 1 rfl rfl | exact ld_imm1 (by assumption))) ?_
            refine ow_val rfl rfl (ex_len (ty := 0) rfl) ?_
            refine ow_val rfl rfl (ex_eql rfl rfl) ?_
            refine ow_val rfl rfl (ex_assign rfl) ?_
            refine ow_nil ?_
            refine qw_seq ?_
            refine cw_ret ?_
            refine qw_block_ret ?_
            refine qw_then_ret ?_
            refine qw_ret1 rfl rfl (fun w' h => ⟨?_, h.ag.below⟩)
            simp_all [kidsOK] <;> omega
          ·
            refine cw_region ?_
            refine ow_val rfl rfl (ex_eql rfl rfl) ?_
            refine ow_val rfl rfl (ex_assign rfl) ?_
            refine ow_nil ?_
            refine qw_seq ?_
            refine cw_cond rfl (fun c12 => ?_) (fun c12 => ?_)
            ·
              refine cw_seq ?_
              refine cw_region ?_
              refine ow_val rfl rfl (ex_field rfl) ?_
              refine ow_val rfl rfl (ex_load1 rfl (by first | exact ld_own1 0 rfl rfl | exact ld_own1 1 rfl rfl | exact ld_own1 2 rfl rfl | exact ld_own1 3 rfl rfl | exact ld_own1 4 rfl rfl | exact ld_own1 5 rfl rfl | exact ld_own1 6 rfl rfl | exact ld_own1 7 rfl rfl | exact ld_ownG1 0 rfl rfl | exact ld_ownG1 1 rfl rfl | exact ld_imm1 (by assumption))) ?_
              refine ow_val rfl rfl (ex_len (ty := 0) rfl) ?_
              refine ow_val rfl rfl (ex_eql rfl rfl) ?_
              refine ow_val rfl rfl (ex_assign rfl) ?_
              refine ow_nil ?_
              refine qw_seq ?_
              refine cw_ret ?_
              refine qw_block_ret ?_
              refine qw_then_ret ?_
              refine qw_ret1 rfl rfl (fun w' h => ⟨?_, h.ag.below⟩)
              simp_all [kidsOK] <;> omega
            ·
              refine cw_seq ?_
              refine cw_region ?_
              refine ow_val rfl rfl (ex_eql rfl rfl) ?_
              refine ow_val rfl rfl (ex_assign rfl) ?_
              refine ow_nil ?_
              refine qw_seq ?_
              refine cw_cond rfl (fun c21 => ?_) (fun c21 => ?_)
              ·
                refine cw_seq ?_
                refine cw_region ?_
                refine ow_val rfl rfl (ex_field rfl) ?_
                refine ow_val rfl rfl (ex_load1 rfl (by first | exact ld_own1 0 rfl rfl | exact ld_own1 1 rfl rfl | exact ld_own1 2 rfl rfl | exact ld_own1 3 rfl rfl | exact ld_own1 4 rfl rfl | exact ld_own1 5 rfl rfl | exact ld_own1 6 rfl rfl | exact ld_own1 7 rfl rfl | exact ld_ownG1 0 rfl rfl | exact ld_ownG1 1 rfl rfl | exact ld_imm1 (by assumption))) ?_
                refine ow_val rfl rfl (ex_len (ty := 0) rfl) ?_
                refine ow_val rfl rfl (ex_leq rfl rfl) ?_
                refine ow_val rfl rfl (ex_assign rfl) ?_
                refine ow_nil ?_
                refine qw_seq ?_
                refine cw_ret ?_
                refine qw_block_ret ?_
                refine qw_then_ret ?_
                refine qw_ret1 rfl rfl (fun w' h => ⟨?_, h.ag.below⟩)
                simp_all [kidsOK] <;> omega
              ·
                refine cw_skip ?_
                refine qw_block_normal ?_
                refine qw_seq ?_
                refine cw_seq ?_
                refine cw_region ?_
                refine ow_val rfl rfl (ex_assign rfl) ?_
                refine ow_nil ?_
                refine qw_seq ?_
                refine cw_ret ?_
                refine qw_ret1 rfl rfl (fun w' h => ⟨?_, h.ag.below⟩)
                simp_all [kidsOK] <;> omega
set_option maxHeartbeats 400000 in
theorem rSize : ∀ (t : T) {σ : Hp} {cs : List Value} {w : World}, Imm σ w → TermC σ cs t → size t ≤ maxKids → Calls Tryd.prog 18 #[.agg cs.toArray] w fun e w' => e = .returned (.int .i64 (size t : Int)) ∧ Below w.heap.size w w' := by
  intro t
  induction t using T.ind with
  | _ o n d ks ih =>
  intro σ cs w hi ht hsz
  obtain ⟨dv, kv, rfl, ho, hn, hd, hk⟩ := ht.opn
  simp only [T.kids, T.op, T.num] at *
  obtain ⟨p, c, rfl, hc, hm⟩ := hk.slice
  unfold maxKids at hsz
  simp only [size] at hsz ⊢
  have hm2 := hm
  unfold maxKids at hm2
  refine enter (St w (fun _ => False) σ [] []) Tryd.func18 rfl Tryd.ntmps18 rfl (St.start hi) ?_
  refine cw_seq ?_
  refine cw_region ?_
  refine ow_blk rfl rfl (exw_box rfl) ?_; intro b1
  refine ow_val rfl rfl (ex_assign rfl) ?_
  refine ow_nil ?_
  refine qw_seq ?_
  refine cw_seq ?_
  refine cw_region ?_
  refine ow_val rfl rfl (ex_assign rfl) ?_
  refine ow_nil ?_
  refine qw_seq ?_
  refine cw_seq ?_
  refine cw_seq ?_
  refine cw_region ?_
  refine ow_val rfl rfl (ex_assign rfl) ?_
  refine ow_nil ?_
  refine qw_seq ?_
  refine cw_block ?_
  refine cw_loopS (α := Nat) (fun i => [(1, .pointer (some ⟨b1, 0, none⟩)), (3, .int .i64 ((sizes (ks.take i) + 1 : Nat) : Int)), (4, .int .i64 (i : Int))]) (fun i => i ≤ ks.length) (fun i => ks.length - i) 0 (subL_cons (lkv rfl (by first | rfl | simp)) (subL_cons (lkv rfl (by first | rfl | simp)) (subL_cons (lkv rfl (by first | rfl | simp)) (subL_nil _)))) (Nat.zero_le _) ?_
  intro i hle
  refine cw_seq ?_
  refine cw_seq ?_
  refine cw_region ?_
  refine ow_val rfl rfl (ex_move rfl) ?_
  refine ow_val rfl rfl (ex_field rfl) ?_
  refine ow_val rfl rfl (ex_load1 rfl (by first | exact ld_own1 0 rfl rfl | exact ld_own1 1 rfl rfl | exact ld_own1 2 rfl rfl | exact ld_own1 3 rfl rfl | exact ld_own1 4 rfl rfl | exact ld_own1 5 rfl rfl | exact ld_own1 6 rfl rfl | exact ld_own1 7 rfl rfl | exact ld_ownG1 0 rfl rfl | exact ld_ownG1 1 rfl rfl | exact ld_imm1 (by assumption))) ?_
  refine ow_val rfl rfl (ex_len (ty := 0) rfl) ?_
  refine ow_val rfl rfl (ex_lss rfl rfl) ?_
  refine ow_nil ?_
  refine qw_seq ?_
  refine cw_cond rfl (fun c9 => ?_) (fun c9 => ?_)
  ·
    refine cw_skip ?_
    refine qw_seq ?_
    refine cw_seq ?_
    refine cw_block ?_
    have hlt : i < ks.length := by simpa using c9
    obtain ⟨bk, f, c', cs, e1, e2, hc1, ht1⟩ := hk.get i hlt
    cases e1
    have hst := sizes_take ks i hlt
    have hsl := sizes_take_le ks (i + 1)
    refine cw_region ?_
    refine ow_val rfl rfl (ex_move rfl) ?_
    refine ow_val rfl rfl (ex_field rfl) ?_
    refine ow_val rfl rfl (ex_load1 rfl (by first | exact ld_own1 0 rfl rfl | exact ld_own1 1 rfl rfl | exact ld_own1 2 rfl rfl | exact ld_own1 3 rfl rfl | exact ld_own1 4 rfl rfl | exact ld_own1 5 rfl rfl | exact ld_own1 6 rfl rfl | exact ld_own1 7 rfl rfl | exact ld_ownG1 0 rfl rfl | exact ld_ownG1 1 rfl rfl | exact ld_imm1 (by assumption))) ?_
    refine ow_val rfl rfl (ex_move rfl) ?_
    refine ow_val rfl rfl (ex_index_nat rfl rfl (by omega)) ?_
    refine ow_val rfl rfl (ex_loadR rfl (by first | exact ld_ownN 0 rfl rfl | exact ld_ownN 1 rfl rfl | exact ld_ownN 2 rfl rfl | exact ld_ownN 3 rfl rfl | exact ld_ownN 4 rfl rfl | exact ld_ownN 5 rfl rfl | exact ld_ownN 6 rfl rfl | exact ld_ownN 7 rfl rfl | exact ld_ownGN 0 rfl rfl | exact ld_ownGN 1 rfl rfl | exact ld_immT (by assumption) (by assumption))) ?_
    refine ow_cv rfl rfl (ex_callf rfl (fun w h => callB ((ih _ (List.getElem_mem hlt) h.im ht1 (by have := size_kid (List.getElem_mem hlt); unfold maxKids; omega))))) ?_
    refine ow_val rfl rfl (ex_addi (z := ((sizes (ks.take (i + 1)) + 1 : Nat) : Int)) rfl rfl (by omega) (by omega) (by omega)) ?_
    refine ow_val rfl rfl (ex_assign rfl) ?_
    refine ow_nil ?_
    refine qw_block_normal ?_
    refine qw_seq ?_
    refine cw_region ?_
    refine ow_val rfl rfl (ex_move rfl) ?_
    refine ow_val rfl rfl (ex_addi (z := ((i + 1 : Nat) : Int)) rfl rfl (by omega) (by omega) (by omega)) ?_
    refine ow_val rfl rfl (ex_assign rfl) ?_
    refine ow_nil ?_
    exact qw_roundS (i + 1) (by omega) (subL_cons (lkv rfl (by first | rfl | simp)) (subL_cons (lkv rfl (by first | rfl | simp)) (subL_cons (lkv rfl (by first | rfl | simp)) (subL_nil _)))) (by omega)
  ·
    refine cw_exit ?_
    refine qw_then_exit ?_
    refine qw_then_exit ?_
    refine qw_block_exit ?_
    refine qw_seq ?_
    refine cw_seq ?_
    refine cw_region ?_
    refine ow_val rfl rfl (ex_move rfl) ?_
    refine ow_val rfl rfl (ex_assign rfl) ?_
    refine ow_nil ?_
    refine qw_seq ?_
    refine cw_ret ?_
    refine qw_ret1 rfl rfl (fun w' h => ⟨?_, h.ag.below⟩)
    have he : i = ks.length := by simp at c9; omega
    rw [he, List.take_length]
end Go.Proofs.YtnjomdjkbbhdoaaDoor
namespace Go.Proofs.YtnjomdjkbbhdoaaDoor
open Go.RowKit
set_option linter.unusedVariables false
set_option linter.unusedSimpArgs false
set_option maxRecDepth 100000
set_option maxHeartbeats 400000 in
theorem rOrder : ∀ (t u : T) {σ : Hp} {ca cb : List Value} {w : World}, Imm σ w → TermC σ ca t → TermC σ cb u → Calls Tryd.prog 52 #[.agg ca.toArray, .agg cb.toArray] w fun e w' => e = .returned (.int .i64 (ord t u)) ∧ Below w.heap.size w w' := by
  intro t
  induction t using T.ind with
  | _ o n d ks ih =>
  intro u
  obtain ⟨o', n', d', ks'⟩ := u
  intro σ ca cb w hi ha hb
  obtain ⟨dv, kv, rfl, ho, hn, hd, hk⟩ := ha.opn
  obtain ⟨dv', kv', rfl, ho', hn', hd', hk'⟩ := hb.opn
  obtain ⟨p, c, rfl, hc, hm⟩ := hk.slice
  obtain ⟨p', c', rfl, hc', hm'⟩ := hk'.slice
  simp only [T.kids, T.op, T.num, T.data] at *
  rw [ord_mk]
  simp only [T.kids, T.op, T.num, T.data]
  have hm2 := hm
  unfold maxKids at hm2
  refine enter (St w (fun _ => False) σ [] []) Tryd.func52 rfl Tryd.ntmps52 rfl (St.start hi) ?_
  refine cw_seq ?_
  refine cw_region ?_
  refine ow_blk rfl rfl (exw_box rfl) ?_; intro b2
  refine ow_blk rfl rfl (exw_box rfl) ?_; intro b3
  refine ow_val rfl rfl (ex_assign rfl) ?_
  refine ow_nil ?_
  refine qw_seq ?_
  refine cw_seq ?_
  refine cw_seq ?_
  refine cw_region ?_
  refine ow_val rfl rfl (ex_field rfl) ?_
  refine ow_val rfl rfl (ex_load1 rfl (by first | exact ld_own1 0 rfl rfl | exact ld_own1 1 rfl rfl | exact ld_own1 2 rfl rfl | exact ld_own1 3 rfl rfl | exact ld_own1 4 rfl rfl | exact ld_own1 5 rfl rfl | exact ld_own1 6 rfl rfl | exact ld_own1 7 rfl rfl | exact ld_ownG1 0 rfl rfl | exact ld_ownG1 1 rfl rfl | exact ld_imm1 (by assumption))) ?_
  refine ow_val rfl rfl (ex_field rfl) ?_
  refine ow_val rfl rfl (ex_load1 rfl (by first | exact ld_own1 0 rfl rfl | exact ld_own1 1 rfl rfl | exact ld_own1 2 rfl rfl | exact ld_own1 3 rfl rfl | exact ld_own1 4 rfl rfl | exact ld_own1 5 rfl rfl | exact ld_own1 6 rfl rfl | exact ld_own1 7 rfl rfl | exact ld_ownG1 0 rfl rfl | exact ld_ownG1 1 rfl rfl | exact ld_imm1 (by assumption))) ?_
  refine ow_val rfl rfl (ex_neq rfl rfl) ?_
  refine ow_nil ?_
  refine qw_seq ?_
  refine cw_cond rfl (fun c11 => ?_) (fun c11 => ?_)
  ·
    refine cw_seq ?_
    refine cw_seq ?_
    refine cw_region ?_
    refine ow_val rfl rfl (ex_field rfl) ?_
    refine ow_val rfl rfl (ex_load1 rfl (by first | exact ld_own1 0 rfl rfl | exact ld_own1 1 rfl rfl | exact ld_own1 2 rfl rfl | exact ld_own1 3 rfl rfl | exact ld_own1 4 rfl rfl | exact ld_own1 5 rfl rfl | exact ld_own1 6 rfl rfl | exact ld_own1 7 rfl rfl | exact ld_ownG1 0 rfl rfl | exact ld_ownG1 1 rfl rfl | exact ld_imm1 (by assumption))) ?_
    refine ow_val rfl rfl (ex_field rfl) ?_
    refine ow_val rfl rfl (ex_load1 rfl (by first | exact ld_own1 0 rfl rfl | exact ld_own1 1 rfl rfl | exact ld_own1 2 rfl rfl | exact ld_own1 3 rfl rfl | exact ld_own1 4 rfl rfl | exact ld_own1 5 rfl rfl | exact ld_own1 6 rfl rfl | exact ld_own1 7 rfl rfl | exact ld_ownG1 0 rfl rfl | exact ld_ownG1 1 rfl rfl | exact ld_imm1 (by assumption))) ?_
    refine ow_val rfl rfl (ex_lss rfl rfl) ?_
    refine ow_nil ?_
    refine qw_seq ?_
    refine cw_cond rfl (fun c16 => ?_) (fun c16 => ?_)
    ·
      refine cw_seq ?_
      refine cw_region ?_
      refine ow_val rfl rfl (ex_assign rfl) ?_
      refine ow_nil ?_
      refine qw_seq ?_
      refine cw_ret ?_
      refine qw_then_ret ?_
      refine qw_then_ret ?_
      refine qw_ret1 rfl rfl (fun w' h => ⟨congrArg (fun z => Ending.returned (.int .i64 z)) ?_, h.ag.below⟩)
      simp at c11 c16
      rw [cmpI_m (by omega), lex_ne (by decide)]
    ·
      refine cw_skip ?_
      refine qw_seq ?_
      refine cw_seq ?_
      refine cw_region ?_
      refine ow_val rfl rfl (ex_assign rfl) ?_
      refine ow_nil ?_
      refine qw_seq ?_
      refine cw_ret ?_
      refine qw_then_ret ?_
      refine qw_ret1 rfl rfl (fun w' h => ⟨congrArg (fun z => Ending.returned (.int .i64 z)) ?_, h.ag.below⟩)
      simp at c11 c16
      rw [cmpI_p (by omega), lex_ne (by decide)]
  ·
    refine cw_skip ?_
    refine qw_seq ?_
    refine cw_seq ?_
    refine cw_seq ?_
    refine cw_region ?_
    refine ow_val rfl rfl (ex_field rfl) ?_
    refine ow_val rfl rfl (ex_load1 rfl (by first | exact ld_own1 0 rfl rfl | exact ld_own1 1 rfl rfl | exact ld_own1 2 rfl rfl | exact ld_own1 3 rfl rfl | exact ld_own1 4 rfl rfl | exact ld_own1 5 rfl rfl | exact ld_own1 6 rfl rfl | exact ld_own1 7 rfl rfl | exact ld_ownG1 0 rfl rfl | exact ld_ownG1 1 rfl rfl | exact ld_imm1 (by assumption))) ?_
    refine ow_val rfl rfl (ex_field rfl) ?_
    refine ow_val rfl rfl (ex_load1 rfl (by first | exact ld_own1 0 rfl rfl | exact ld_own1 1 rfl rfl | exact ld_own1 2 rfl rfl | exact ld_own1 3 rfl rfl | exact ld_own1 4 rfl rfl | exact ld_own1 5 rfl rfl | exact ld_own1 6 rfl rfl | exact ld_own1 7 rfl rfl | exact ld_ownG1 0 rfl rfl | exact ld_ownG1 1 rfl rfl | exact ld_imm1 (by assumption))) ?_
    refine ow_val rfl rfl (ex_neq rfl rfl) ?_
    refine ow_nil ?_
    refine qw_seq ?_
    refine cw_cond rfl (fun c21 => ?_) (fun c21 => ?_)
    ·
      refine cw_seq ?_
      refine cw_seq ?_
      refine cw_region ?_
      refine ow_val rfl rfl (ex_field rfl) ?_
      refine ow_val rfl rfl (ex_load1 rfl (by first | exact ld_own1 0 rfl rfl | exact ld_own1 1 rfl rfl | exact ld_own1 2 rfl rfl | exact ld_own1 3 rfl rfl | exact ld_own1 4 rfl rfl | exact ld_own1 5 rfl rfl | exact ld_own1 6 rfl rfl | exact ld_own1 7 rfl rfl | exact ld_ownG1 0 rfl rfl | exact ld_ownG1 1 rfl rfl | exact ld_imm1 (by assumption))) ?_
      refine ow_val rfl rfl (ex_field rfl) ?_
      refine ow_val rfl rfl (ex_load1 rfl (by first | exact ld_own1 0 rfl rfl | exact ld_own1 1 rfl rfl | exact ld_own1 2 rfl rfl | exact ld_own1 3 rfl rfl | exact ld_own1 4 rfl rfl | exact ld_own1 5 rfl rfl | exact ld_own1 6 rfl rfl | exact ld_own1 7 rfl rfl | exact ld_ownG1 0 rfl rfl | exact ld_ownG1 1 rfl rfl | exact ld_imm1 (by assumption))) ?_
      refine ow_val rfl rfl (ex_lss rfl rfl) ?_
      refine ow_nil ?_
      refine qw_seq ?_
      refine cw_cond rfl (fun c26 => ?_) (fun c26 => ?_)
      ·
        refine cw_seq ?_
        refine cw_region ?_
        refine ow_val rfl rfl (ex_assign rfl) ?_
        refine ow_nil ?_
        refine qw_seq ?_
        refine cw_ret ?_
        refine qw_then_ret ?_
        refine qw_then_ret ?_
        refine qw_ret1 rfl rfl (fun w' h => ⟨congrArg (fun z => Ending.returned (.int .i64 z)) ?_, h.ag.below⟩)
        simp at c11 c21 c26
        rw [cmpI_0 (by omega), lex_of0 rfl, cmpI_m (by omega), lex_ne (by decide)]
      ·
        refine cw_skip ?_
        refine qw_seq ?_
        refine cw_seq ?_
        refine cw_region ?_
        refine ow_val rfl rfl (ex_assign rfl) ?_
        refine ow_nil ?_
        refine qw_seq ?_
        refine cw_ret ?_
        refine qw_then_ret ?_
        refine qw_ret1 rfl rfl (fun w' h => ⟨congrArg (fun z => Ending.returned (.int .i64 z)) ?_, h.ag.below⟩)
        simp at c11 c21 c26
        rw [cmpI_0 (by omega), lex_of0 rfl, cmpI_p (by omega), lex_ne (by decide)]
    ·
      refine cw_skip ?_
      refine qw_seq ?_
      refine cw_seq ?_
      refine cw_region ?_
      refine ow_val rfl rfl (ex_field rfl) ?_
      refine ow_val rfl rfl (ex_load1 rfl (by first | exact ld_own1 0 rfl rfl | exact ld_own1 1 rfl rfl | exact ld_own1 2 rfl rfl | exact ld_own1 3 rfl rfl | exact ld_own1 4 rfl rfl | exact ld_own1 5 rfl rfl | exact ld_own1 6 rfl rfl | exact ld_own1 7 rfl rfl | exact ld_ownG1 0 rfl rfl | exact ld_ownG1 1 rfl rfl | exact ld_imm1 (by assumption))) ?_
      refine ow_val rfl rfl (ex_field rfl) ?_
      refine ow_val rfl rfl (ex_load1 rfl (by first | exact ld_own1 0 rfl rfl | exact ld_own1 1 rfl rfl | exact ld_own1 2 rfl rfl | exact ld_own1 3 rfl rfl | exact ld_own1 4 rfl rfl | exact ld_own1 5 rfl rfl | exact ld_own1 6 rfl rfl | exact ld_own1 7 rfl rfl | exact ld_ownG1 0 rfl rfl | exact ld_ownG1 1 rfl rfl | exact ld_imm1 (by assumption))) ?_
      refine ow_cv rfl rfl (ex_callf rfl (fun w h => callB ((rText h.im hd hd')))) ?_
      refine ow_val rfl rfl (ex_assign rfl) ?_
      refine ow_nil ?_
      refine qw_seq ?_
      refine cw_seq ?_
      refine cw_seq ?_
      refine cw_region ?_
      refine ow_val rfl rfl (ex_move rfl) ?_
      refine ow_val rfl rfl (ex_neq rfl rfl) ?_
      refine ow_nil ?_
      refine qw_seq ?_
      refine cw_cond rfl (fun c33 => ?_) (fun c33 => ?_)
      ·
        refine cw_seq ?_
        refine cw_region ?_
        refine ow_val rfl rfl (ex_move rfl) ?_
        refine ow_val rfl rfl (ex_assign rfl) ?_
        refine ow_nil ?_
        refine qw_seq ?_
        refine cw_ret ?_
        refine qw_then_ret ?_
        refine qw_ret1 rfl rfl (fun w' h => ⟨congrArg (fun z => Ending.returned (.int .i64 z)) ?_, h.ag.below⟩)
        simp at c11 c21 c33
        rw [cmpI_0 (by omega), lex_of0 rfl, cmpI_0 (by omega), lex_of0 rfl, lex_ne c33]
      ·
        refine cw_skip ?_
        refine qw_seq ?_
        refine cw_seq ?_
        refine cw_seq ?_
        refine cw_region ?_
        refine ow_val rfl rfl (ex_assign rfl) ?_
        refine ow_nil ?_
        refine qw_seq ?_
        refine cw_block ?_
        refine cw_loopS (α := Nat) (fun i => [(2, .pointer (some ⟨b2, 0, none⟩)), (3, .pointer (some ⟨b3, 0, none⟩)), (6, .int .i64 (i : Int))]) (fun i => i ≤ ks.length ∧ i ≤ ks'.length ∧ ords ks ks' = ords (ks.drop i) (ks'.drop i)) (fun i => ks.length - i) 0 (subL_cons (lkv rfl (by first | rfl | simp)) (subL_cons (lkv rfl (by first | rfl | simp)) (subL_cons (lkv rfl (by first | rfl | simp)) (subL_nil _)))) ⟨Nat.zero_le _, Nat.zero_le _, by simp⟩ ?_
        intro i ⟨hle, hle', hords⟩
        refine cw_seq ?_
        refine cw_cut1 46 (.bool (decide ((i : Int) < (ks.length : Int)) && decide ((i : Int) < (ks'.length : Int)))) ?_ ?_
        ·
          refine cw_region ?_
          refine ow_val rfl rfl (ex_move rfl) ?_
          refine ow_val rfl rfl (ex_field rfl) ?_
          refine ow_val rfl rfl (ex_load1 rfl (by first | exact ld_own1 0 rfl rfl | exact ld_own1 1 rfl rfl | exact ld_own1 2 rfl rfl | exact ld_own1 3 rfl rfl | exact ld_own1 4 rfl rfl | exact ld_own1 5 rfl rfl | exact ld_own1 6 rfl rfl | exact ld_own1 7 rfl rfl | exact ld_ownG1 0 rfl rfl | exact ld_ownG1 1 rfl rfl | exact ld_imm1 (by assumption))) ?_
          refine ow_val rfl rfl (ex_len (ty := 0) rfl) ?_
          refine ow_val rfl rfl (ex_lss rfl rfl) ?_
          refine ow_val rfl rfl (ex_move rfl) ?_
          refine ow_split (g := some (5, true)) rfl (fun s40 => ?_) (fun s40 => ?_)
          ·
            refine ow_val rfl (gd_go rfl s40) (ex_move rfl) ?_
            refine ow_val rfl (gd_go rfl s40) (ex_field rfl) ?_
            refine ow_val rfl (gd_go rfl s40) (ex_load1 rfl (by first | exact ld_own1 0 rfl rfl | exact ld_own1 1 rfl rfl | exact ld_own1 2 rfl rfl | exact ld_own1 3 rfl rfl | exact ld_own1 4 rfl rfl | exact ld_own1 5 rfl rfl | exact ld_own1 6 rfl rfl | exact ld_own1 7 rfl rfl | exact ld_ownG1 0 rfl rfl | exact ld_ownG1 1 rfl rfl | exact ld_imm1 (by assumption))) ?_
            refine ow_val rfl (gd_go rfl s40) (ex_len (ty := 0) rfl) ?_
            refine ow_val rfl (gd_go rfl s40) (ex_lss rfl rfl) ?_
            refine ow_val rfl rfl (ex_pickt rfl s40 rfl) ?_
            refine ow_nil ?_
            exact qw_meet (subL_meet 12 46 (lkv rfl (by first | rfl | (simp_all; done) | (simp_all <;> omega))) rfl rfl) (fun w h => h)
          ·
            refine ow_skip rfl (gd_no rfl s40) ?_
            refine ow_skip rfl (gd_no rfl s40) ?_
            refine ow_skip rfl (gd_no rfl s40) ?_
            refine ow_skip rfl (gd_no rfl s40) ?_
            refine ow_skip rfl (gd_no rfl s40) ?_
            refine ow_val rfl rfl (ex_pickf rfl s40 rfl) ?_
            refine ow_nil ?_
            exact qw_meet (subL_meet 12 46 (lkv rfl (by first | rfl | (simp_all; done) | (simp_all <;> omega))) rfl rfl) (fun w h => h)
        ·
          refine cw_cond rfl (fun c46 => ?_) (fun c46 => ?_)
          ·
            refine cw_skip ?_
            refine qw_seq ?_
            refine cw_seq ?_
            refine cw_block ?_
            refine cw_seq ?_
            have hlt : i < ks.length := by simp at c46; omega
            have hlt' : i < ks'.length := by simp at c46; omega
            obtain ⟨bk, f, ck, cs, e1, e2, hc1, ht1⟩ := hk.get i hlt
            obtain ⟨bk', f', ck', cs', e1', e2', hc1', ht1'⟩ := hk'.get i hlt'
            cases e1
            cases e1'
            refine flow_sound 11 (by kernel_rfl) ?_
            refine flow_val rfl (ex_field rfl) ?_
            refine flow_val rfl (ex_load1 rfl (by first | exact ld_own1 0 rfl rfl | exact ld_own1 1 rfl rfl | exact ld_own1 2 rfl rfl | exact ld_own1 3 rfl rfl | exact ld_own1 4 rfl rfl | exact ld_own1 5 rfl rfl | exact ld_own1 6 rfl rfl | exact ld_own1 7 rfl rfl | exact ld_ownG1 0 rfl rfl | exact ld_ownG1 1 rfl rfl | exact ld_imm1 (by assumption))) ?_
            refine flow_val rfl (ex_move rfl) ?_
            refine flow_val rfl (ex_index_nat rfl rfl (by omega)) ?_
            refine flow_val rfl (ex_loadR rfl (by first | exact ld_ownN 0 rfl rfl | exact ld_ownN 1 rfl rfl | exact ld_ownN 2 rfl rfl | exact ld_ownN 3 rfl rfl | exact ld_ownN 4 rfl rfl | exact ld_ownN 5 rfl rfl | exact ld_ownN 6 rfl rfl | exact ld_ownN 7 rfl rfl | exact ld_ownGN 0 rfl rfl | exact ld_ownGN 1 rfl rfl | exact ld_immT (by assumption) (by assumption))) ?_
            refine flow_val rfl (ex_field rfl) ?_
            refine flow_val rfl (ex_load1 rfl (by first | exact ld_own1 0 rfl rfl | exact ld_own1 1 rfl rfl | exact ld_own1 2 rfl rfl | exact ld_own1 3 rfl rfl | exact ld_own1 4 rfl rfl | exact ld_own1 5 rfl rfl | exact ld_own1 6 rfl rfl | exact ld_own1 7 rfl rfl | exact ld_ownG1 0 rfl rfl | exact ld_ownG1 1 rfl rfl | exact ld_imm1 (by assumption))) ?_
            refine flow_val rfl (ex_move rfl) ?_
            refine flow_val rfl (ex_index_nat rfl rfl (by omega)) ?_
            refine flow_val rfl (ex_loadR rfl (by first | exact ld_ownN 0 rfl rfl | exact ld_ownN 1 rfl rfl | exact ld_ownN 2 rfl rfl | exact ld_ownN 3 rfl rfl | exact ld_ownN 4 rfl rfl | exact ld_ownN 5 rfl rfl | exact ld_ownN 6 rfl rfl | exact ld_ownN 7 rfl rfl | exact ld_ownGN 0 rfl rfl | exact ld_ownGN 1 rfl rfl | exact ld_immT (by assumption) (by assumption))) ?_
            refine flow_cv rfl (ex_callf rfl (fun w h => callB ((ih _ (List.getElem_mem hlt) _ h.im ht1 ht1')))) ?_
            refine flow_nil ?_
            refine fin_is ?_
            refine fin_is ?_
            refine fin_is ?_
            refine fin_is ?_
            refine fin_is ?_
            refine fin_is ?_
            refine fin_is ?_
            refine fin_is ?_
            refine fin_is ?_
            refine fin_is ?_
            refine fin_is ?_
            refine fin_nil ?_
            refine ow_val rfl rfl (ex_assign rfl) ?_
            refine ow_nil ?_
            refine qw_seq ?_
            refine cw_seq ?_
            refine cw_region ?_
            refine ow_val rfl rfl (ex_move rfl) ?_
            refine ow_val rfl rfl (ex_neq rfl rfl) ?_
            refine ow_nil ?_
            refine qw_seq ?_
            refine cw_cond rfl (fun c61 => ?_) (fun c61 => ?_)
            ·
              refine cw_seq ?_
              refine cw_region ?_
              refine ow_val rfl rfl (ex_move rfl) ?_
              refine ow_val rfl rfl (ex_assign rfl) ?_
              refine ow_nil ?_
              refine qw_seq ?_
              refine cw_ret ?_
              refine qw_block_ret ?_
              refine qw_then_ret ?_
              refine qw_then_ret ?_
              refine qw_block_ret ?_
              refine qw_then_ret ?_
              refine qw_ret1 rfl rfl (fun w' h => ⟨congrArg (fun z => Ending.returned (.int .i64 z)) ?_, h.ag.below⟩)
              simp at c11 c21 c33 c61
              rw [cmpI_0 (by omega), lex_of0 rfl, cmpI_0 (by omega), lex_of0 rfl, lex_of0 c33, hords, ords_step hlt hlt', lex_ne c61]
            ·
              refine cw_skip ?_
              refine qw_block_normal ?_
              refine qw_seq ?_
              refine cw_region ?_
              refine ow_val rfl rfl (ex_move rfl) ?_
              refine ow_val rfl rfl (ex_addi (z := ((i + 1 : Nat) : Int)) rfl rfl (by omega) (by omega) (by omega)) ?_
              refine ow_val rfl rfl (ex_assign rfl) ?_
              refine ow_nil ?_
              exact qw_roundS (i + 1) (by omega) (subL_cons (lkv rfl (by first | rfl | simp)) (subL_cons (lkv rfl (by first | rfl | simp)) (subL_cons (lkv rfl (by first | rfl | simp)) (subL_nil _)))) ⟨by omega, by omega, by rw [hords, ords_step hlt hlt', lex_of0 (by simpa using c61)]⟩
          ·
            refine cw_exit ?_
            refine qw_then_exit ?_
            refine qw_then_exit ?_
            refine qw_block_exit ?_
            refine qw_seq ?_
            refine cw_seq ?_
            refine cw_seq ?_
            refine cw_region ?_
            refine ow_val rfl rfl (ex_field rfl) ?_
            refine ow_val rfl rfl (ex_load1 rfl (by first | exact ld_own1 0 rfl rfl | exact ld_own1 1 rfl rfl | exact ld_own1 2 rfl rfl | exact ld_own1 3 rfl rfl | exact ld_own1 4 rfl rfl | exact ld_own1 5 rfl rfl | exact ld_own1 6 rfl rfl | exact ld_own1 7 rfl rfl | exact ld_ownG1 0 rfl rfl | exact ld_ownG1 1 rfl rfl | exact ld_imm1 (by assumption))) ?_
            refine ow_val rfl rfl (ex_len (ty := 0) rfl) ?_
            refine ow_val rfl rfl (ex_field rfl) ?_
            refine ow_val rfl rfl (ex_load1 rfl (by first | exact ld_own1 0 rfl rfl | exact ld_own1 1 rfl rfl | exact ld_own1 2 rfl rfl | exact ld_own1 3 rfl rfl | exact ld_own1 4 rfl rfl | exact ld_own1 5 rfl rfl | exact ld_own1 6 rfl rfl | exact ld_own1 7 rfl rfl | exact ld_ownG1 0 rfl rfl | exact ld_ownG1 1 rfl rfl | exact ld_imm1 (by assumption))) ?_
            refine ow_val rfl rfl (ex_len (ty := 0) rfl) ?_
            refine ow_val rfl rfl (ex_lss rfl rfl) ?_
            refine ow_nil ?_
            refine qw_seq ?_
            refine cw_cond rfl (fun c69 => ?_) (fun c69 => ?_)
            ·
              refine cw_seq ?_
              refine cw_region ?_
              refine ow_val rfl rfl (ex_assign rfl) ?_
              refine ow_nil ?_
              refine qw_seq ?_
              refine cw_ret ?_
              refine qw_then_ret ?_
              refine qw_ret1 rfl rfl (fun w' h => ⟨congrArg (fun z => Ending.returned (.int .i64 z)) ?_, h.ag.below⟩)
              simp at c11 c21 c33 c46 c69
              rw [cmpI_0 (by omega), lex_of0 rfl, cmpI_0 (by omega), lex_of0 rfl, lex_of0 c33, hords, ords_short (by omega) (by omega)]
            ·
              refine cw_skip ?_
              refine qw_seq ?_
              refine cw_seq ?_
              refine cw_seq ?_
              refine cw_region ?_
              refine ow_val rfl rfl (ex_field rfl) ?_
              refine ow_val rfl rfl (ex_load1 rfl (by first | exact ld_own1 0 rfl rfl | exact ld_own1 1 rfl rfl | exact ld_own1 2 rfl rfl | exact ld_own1 3 rfl rfl | exact ld_own1 4 rfl rfl | exact ld_own1 5 rfl rfl | exact ld_own1 6 rfl rfl | exact ld_own1 7 rfl rfl | exact ld_ownG1 0 rfl rfl | exact ld_ownG1 1 rfl rfl | exact ld_imm1 (by assumption))) ?_
              refine ow_val rfl rfl (ex_len (ty := 0) rfl) ?_
              refine ow_val rfl rfl (ex_field rfl) ?_
              refine ow_val rfl rfl (ex_load1 rfl (by first | exact ld_own1 0 rfl rfl | exact ld_own1 1 rfl rfl | exact ld_own1 2 rfl rfl | exact ld_own1 3 rfl rfl | exact ld_own1 4 rfl rfl | exact ld_own1 5 rfl rfl | exact ld_own1 6 rfl rfl | exact ld_own1 7 rfl rfl | exact ld_ownG1 0 rfl rfl | exact ld_ownG1 1 rfl rfl | exact ld_imm1 (by assumption))) ?_
              refine ow_val rfl rfl (ex_len (ty := 0) rfl) ?_
              refine ow_val rfl rfl (ex_gtr rfl rfl) ?_
              refine ow_nil ?_
              refine qw_seq ?_
              refine cw_cond rfl (fun c76 => ?_) (fun c76 => ?_)
              ·
                refine cw_seq ?_
                refine cw_region ?_
                refine ow_val rfl rfl (ex_assign rfl) ?_
                refine ow_nil ?_
                refine qw_seq ?_
                refine cw_ret ?_
                refine qw_then_ret ?_
                refine qw_ret1 rfl rfl (fun w' h => ⟨congrArg (fun z => Ending.returned (.int .i64 z)) ?_, h.ag.below⟩)
                simp at c11 c21 c33 c46 c69 c76
                rw [cmpI_0 (by omega), lex_of0 rfl, cmpI_0 (by omega), lex_of0 rfl, lex_of0 c33, hords, ords_long (by omega) (by omega)]
              ·
                refine cw_skip ?_
                refine qw_seq ?_
                refine cw_seq ?_
                refine cw_region ?_
                refine ow_val rfl rfl (ex_assign rfl) ?_
                refine ow_nil ?_
                refine qw_seq ?_
                refine cw_ret ?_
                refine qw_ret1 rfl rfl (fun w' h => ⟨congrArg (fun z => Ending.returned (.int .i64 z)) ?_, h.ag.below⟩)
                simp at c11 c21 c33 c46 c69 c76
                rw [cmpI_0 (by omega), lex_of0 rfl, cmpI_0 (by omega), lex_of0 rfl, lex_of0 c33, hords, ords_end (by omega) (by omega)]
set_option maxHeartbeats 400000 in
theorem rSame (t u : T) {σ : Hp} {ca cb : List Value} {w : World} (hi : Imm σ w) (ha : TermC σ ca t) (hb : TermC σ cb u) : Calls Tryd.prog 24 #[.agg ca.toArray, .agg cb.toArray] w fun e w' => e = .returned (.bool (decide (ord t u = 0))) ∧ Below w.heap.size w w' := by
  have ha0 := ha
  have hb0 := hb
  obtain ⟨dv, kv, rfl, ho, hn, hd, hk⟩ := ha.opn
  obtain ⟨dv', kv', rfl, ho', hn', hd', hk'⟩ := hb.opn
  refine enter (St w (fun _ => False) σ [] []) Tryd.func24 rfl Tryd.ntmps24 rfl (St.start hi) ?_
  refine cw_seq ?_
  refine cw_region ?_
  refine ow_blk rfl rfl (exw_box rfl) ?_; intro b2
  refine ow_blk rfl rfl (exw_box rfl) ?_; intro b3
  refine ow_val rfl rfl (ex_assign rfl) ?_
  refine ow_nil ?_
  refine qw_seq ?_
  refine cw_seq ?_
  refine cw_region ?_
  refine ow_val rfl rfl (ex_loadR rfl (by first | exact ld_ownN 0 rfl rfl | exact ld_ownN 1 rfl rfl | exact ld_ownN 2 rfl rfl | exact ld_ownN 3 rfl rfl | exact ld_ownN 4 rfl rfl | exact ld_ownN 5 rfl rfl | exact ld_ownN 6 rfl rfl | exact ld_ownN 7 rfl rfl | exact ld_ownGN 0 rfl rfl | exact ld_ownGN 1 rfl rfl | exact ld_immT (by assumption) (by assumption))) ?_
  refine ow_val rfl rfl (ex_loadR rfl (by first | exact ld_ownN 0 rfl rfl | exact ld_ownN 1 rfl rfl | exact ld_ownN 2 rfl rfl | exact ld_ownN 3 rfl rfl | exact ld_ownN 4 rfl rfl | exact ld_ownN 5 rfl rfl | exact ld_ownN 6 rfl rfl | exact ld_ownN 7 rfl rfl | exact ld_ownGN 0 rfl rfl | exact ld_ownGN 1 rfl rfl | exact ld_immT (by assumption) (by assumption))) ?_
  refine ow_cv rfl rfl (ex_callf rfl (fun w h => callB ((rOrder t u h.im ha0 hb0)))) ?_
  refine ow_val rfl rfl (ex_eql rfl rfl) ?_
  refine ow_val rfl rfl (ex_assign rfl) ?_
  refine ow_nil ?_
  refine qw_seq ?_
  refine cw_ret ?_
  refine qw_ret1 rfl rfl (fun w' h => ⟨rfl, h.ag.below⟩)
set_option maxHeartbeats 400000 in
theorem rParts : ∀ (t : T) {m : Int} {σ : Hp} {cs : List Value} {w : World}, Imm σ w → TermC σ cs t → 0 ≤ m → m ≤ 1000000 → Calls Tryd.prog 14 #[.agg cs.toArray, .int .i64 m] w fun e w' => e = .returned (.int .i64 (min (size t : Int) (m + 1))) ∧ Below w.heap.size w w' := by
  intro t
  induction t using T.ind with
  | _ o n d ks ih =>
  intro m σ cs w hi ht h0 h1
  obtain ⟨dv, kv, rfl, ho, hn, hd, hk⟩ := ht.opn
  simp only [T.kids, T.op, T.num] at *
  obtain ⟨p, c, rfl, hc, hm⟩ := hk.slice
  simp only [size]
  have hm2 := hm
  unfold maxKids at hm2
  refine enter (St w (fun _ => False) σ [] []) Tryd.func14 rfl Tryd.ntmps14 rfl (St.start hi) ?_
  refine cw_seq ?_
  refine cw_region ?_
  refine ow_blk rfl rfl (exw_box rfl) ?_; intro b2
  refine ow_val rfl rfl (ex_assign rfl) ?_
  refine ow_nil ?_
  refine qw_seq ?_
  refine cw_seq ?_
  refine cw_region ?_
  refine ow_val rfl rfl (ex_assign rfl) ?_
  refine ow_nil ?_
  refine qw_seq ?_
  refine cw_seq ?_
  refine cw_seq ?_
  refine cw_region ?_
  refine ow_val rfl rfl (ex_assign rfl) ?_
  refine ow_nil ?_
  refine qw_seq ?_
  refine cw_block ?_
  refine cw_loopS (α := Nat) (fun i => [(1, .int .i64 m), (2, .pointer (some ⟨b2, 0, none⟩)), (5, .int .i64 (min ((sizes (ks.take i) + 1 : Nat) : Int) (m + 1))), (6, .int .i64 (i : Int))]) (fun i => i ≤ ks.length) (fun i => ks.length - i) 0 (subL_cons rfl (subL_cons rfl (subL_cons (lkv rfl (by simp [sizes]; omega)) (subL_cons rfl (subL_nil _))))) (Nat.zero_le _) ?_
  intro i hle
  refine cw_seq ?_
  refine cw_cut1 16 (.bool (decide ((i : Int) < (ks.length : Int)) && decide (min ((sizes (ks.take i) + 1 : Nat) : Int) (m + 1) ≤ m))) ?_ ?_
  ·
    refine cw_region ?_
    refine ow_val rfl rfl (ex_move rfl) ?_
    refine ow_val rfl rfl (ex_field rfl) ?_
    refine ow_val rfl rfl (ex_load1 rfl (by first | exact ld_own1 0 rfl rfl | exact ld_own1 1 rfl rfl | exact ld_own1 2 rfl rfl | exact ld_own1 3 rfl rfl | exact ld_own1 4 rfl rfl | exact ld_own1 5 rfl rfl | exact ld_own1 6 rfl rfl | exact ld_own1 7 rfl rfl | exact ld_ownG1 0 rfl rfl | exact ld_ownG1 1 rfl rfl | exact ld_imm1 (by assumption))) ?_
    refine ow_val rfl rfl (ex_len (ty := 0) rfl) ?_
    refine ow_val rfl rfl (ex_lss rfl rfl) ?_
    refine ow_val rfl rfl (ex_move rfl) ?_
    refine ow_split (g := some (5, true)) rfl (fun s12 => ?_) (fun s12 => ?_)
    ·
      refine ow_val rfl (gd_go rfl s12) (ex_move rfl) ?_
      refine ow_val rfl (gd_go rfl s12) (ex_move rfl) ?_
      refine ow_val rfl (gd_go rfl s12) (ex_leq rfl rfl) ?_
      refine ow_val rfl rfl (ex_pickt rfl s12 rfl) ?_
      refine ow_nil ?_
      exact qw_meet (subL_meet 10 16 (lkv rfl (by first | rfl | (simp_all; done) | (simp_all <;> omega))) rfl rfl) (fun w h => h)
    ·
      refine ow_skip rfl (gd_no rfl s12) ?_
      refine ow_skip rfl (gd_no rfl s12) ?_
      refine ow_skip rfl (gd_no rfl s12) ?_
      refine ow_val rfl rfl (ex_pickf rfl s12 rfl) ?_
      refine ow_nil ?_
      exact qw_meet (subL_meet 10 16 (lkv rfl (by first | rfl | (simp_all; done) | (simp_all <;> omega))) rfl rfl) (fun w h => h)
  ·
    refine cw_cond rfl (fun c16 => ?_) (fun c16 => ?_)
    ·
      refine cw_skip ?_
      refine qw_seq ?_
      refine cw_seq ?_
      refine cw_block ?_
      have hlt : i < ks.length := by simp at c16; omega
      obtain ⟨bk, f, c', cs, e1, e2, hc1, ht1⟩ := hk.get i hlt
      cases e1
      have hst := sizes_take ks i hlt
      have hle2 : min ((sizes (ks.take i) + 1 : Nat) : Int) (m + 1) ≤ m := by simp only [Bool.and_eq_true, decide_eq_true_eq] at c16; exact c16.2
      refine cw_region ?_
      refine ow_val rfl rfl (ex_move rfl) ?_
      refine ow_val rfl rfl (ex_field rfl) ?_
      refine ow_val rfl rfl (ex_load1 rfl (by first | exact ld_own1 0 rfl rfl | exact ld_own1 1 rfl rfl | exact ld_own1 2 rfl rfl | exact ld_own1 3 rfl rfl | exact ld_own1 4 rfl rfl | exact ld_own1 5 rfl rfl | exact ld_own1 6 rfl rfl | exact ld_own1 7 rfl rfl | exact ld_ownG1 0 rfl rfl | exact ld_ownG1 1 rfl rfl | exact ld_imm1 (by assumption))) ?_
      refine ow_val rfl rfl (ex_move rfl) ?_
      refine ow_val rfl rfl (ex_index_nat rfl rfl (by omega)) ?_
      refine ow_val rfl rfl (ex_loadR rfl (by first | exact ld_ownN 0 rfl rfl | exact ld_ownN 1 rfl rfl | exact ld_ownN 2 rfl rfl | exact ld_ownN 3 rfl rfl | exact ld_ownN 4 rfl rfl | exact ld_ownN 5 rfl rfl | exact ld_ownN 6 rfl rfl | exact ld_ownN 7 rfl rfl | exact ld_ownGN 0 rfl rfl | exact ld_ownGN 1 rfl rfl | exact ld_immT (by assumption) (by assumption))) ?_
      refine ow_val rfl rfl (ex_move rfl) ?_
      refine ow_val rfl rfl (ex_move rfl) ?_
      refine ow_val rfl rfl (ex_subi (z := (m - min ((sizes (ks.take i) + 1 : Nat) : Int) (m + 1))) rfl rfl (by omega) (by omega) (by omega)) ?_
      refine ow_cv rfl rfl (ex_callf rfl (fun w h => callB ((ih _ (List.getElem_mem hlt) h.im ht1 (by omega) (by omega))))) ?_
      refine ow_val rfl rfl (ex_addi (z := (min ((sizes (ks.take (i + 1)) + 1 : Nat) : Int) (m + 1))) rfl rfl (by omega) (by omega) (by omega)) ?_
      refine ow_val rfl rfl (ex_assign rfl) ?_
      refine ow_nil ?_
      refine qw_block_normal ?_
      refine qw_seq ?_
      refine cw_region ?_
      refine ow_val rfl rfl (ex_move rfl) ?_
      refine ow_val rfl rfl (ex_addi (z := ((i + 1 : Nat) : Int)) rfl rfl (by omega) (by omega) (by omega)) ?_
      refine ow_val rfl rfl (ex_assign rfl) ?_
      refine ow_nil ?_
      exact qw_roundS (i + 1) (by omega) (subL_cons (lkv rfl (by first | rfl | simp)) (subL_cons (lkv rfl (by first | rfl | simp)) (subL_cons (lkv rfl (by first | rfl | simp)) (subL_cons (lkv rfl (by first | rfl | simp)) (subL_nil _))))) (by omega)
    ·
      refine cw_exit ?_
      refine qw_then_exit ?_
      refine qw_then_exit ?_
      refine qw_block_exit ?_
      refine qw_seq ?_
      refine cw_seq ?_
      refine cw_region ?_
      refine ow_val rfl rfl (ex_move rfl) ?_
      refine ow_val rfl rfl (ex_assign rfl) ?_
      refine ow_nil ?_
      refine qw_seq ?_
      refine cw_ret ?_
      refine qw_ret1 rfl rfl (fun w' h => ⟨congrArg (fun z => Ending.returned (.int .i64 z)) ?_, h.ag.below⟩)
      have hsl := sizes_take_le ks i
      simp only [Bool.and_eq_false_iff, decide_eq_false_iff_not] at c16
      rcases c16 with c16 | c16
      · have he : i = ks.length := by omega
        rw [he, List.take_length]
      · omega
end Go.Proofs.YtnjomdjkbbhdoaaDoor
