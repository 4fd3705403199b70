/-
  Memory as the walks see it: what never turns, what is owned; classes of closed facts on types and functions; single operations.
  No condition; nothing of the seat's program stands here.
-/
import Derived.Test.YtnjomdjkbbhdoaaDoorFlow
import Derived.Deep.MidRow
import Derived.Great.BuildSlice
import Derived.Laws.CopyRow
namespace Go.Proofs.YtnjomdjkbbhdoaaDoor
open Go.RowKit
set_option linter.unusedVariables false

/-! ## Memory -/
abbrev Hp := Nat → Option Obj
def Imm (σ : Hp) (w : World) : Prop := ∀ b o, σ b = some o → w.heap[b]? = some o
def Le (σ τ : Hp) : Prop := ∀ b o, σ b = some o → τ b = some o
theorem Le.refl (σ : Hp) : Le σ σ := fun _ _ h => h
theorem Le.trans {a b c : Hp} (h : Le a b) (k : Le b c) : Le a c := fun x o e => k x o (h x o e)

/-- What lay in w lies in w', but for the blocks M. -/
structure Ag (M : Nat → Prop) (w w' : World) : Prop where
  os : w'.os = w.os
  tape : w'.tape = w.tape
  output : w'.output = w.output
  size : w.heap.size ≤ w'.heap.size
  block : ∀ k, k < w.heap.size → ¬ M k → w'.heap[k]? = w.heap[k]?

theorem Ag.refl (M : Nat → Prop) (w : World) : Ag M w w := ⟨rfl, rfl, rfl, Nat.le_refl _, fun _ _ _ => rfl⟩
theorem Ag.trans {M : Nat → Prop} {a b c : World} (h : Ag M a b) (k : Ag M b c) : Ag M a c :=
  ⟨k.os.trans h.os, k.tape.trans h.tape, k.output.trans h.output, Nat.le_trans h.size k.size,
    fun i hi hm => (k.block i (Nat.lt_of_lt_of_le hi h.size) hm).trans (h.block i hi hm)⟩
theorem Ag.mono {M M' : Nat → Prop} {a b : World} (h : Ag M a b) (hm : ∀ k, k < a.heap.size → M k → M' k) : Ag M' a b :=
  ⟨h.os, h.tape, h.output, h.size, fun i hi hn => h.block i hi (fun x => hn (hm i hi x))⟩
theorem Ag.of_below {M : Nat → Prop} {w w' : World} (h : Below w.heap.size w w') : Ag M w w' := ⟨h.os, h.tape, h.output, h.size, fun k hk _ => h.block k hk⟩
theorem Ag.below {w w' : World} (h : Ag (fun _ => False) w w') : Below w.heap.size w w' := ⟨h.os, h.tape, h.output, h.size, fun k hk => h.block k hk id⟩
theorem Below.drewB (w : World) : Below w.heap.size w w.drew := (Below.refl _ _).drew

theorem Imm.lt {σ : Hp} {w : World} (h : Imm σ w) {b : Nat} {o : Obj} (e : σ b = some o) : b < w.heap.size :=
  (Array.getElem?_eq_some_iff.1 (h b o e)).1
theorem Imm.ag {σ : Hp} {M : Nat → Prop} {w w' : World} (h : Imm σ w) (ha : Ag M w w') (hm : ∀ b, M b → σ b = none) : Imm σ w' := fun b o e => by
  rw [ha.block b (h.lt e) (fun hb => by rw [hm b hb] at e; cases e)]; exact h b o e
theorem Imm.below {σ : Hp} {w w' : World} (h : Imm σ w) (ha : Below w.heap.size w w') : Imm σ w' := fun b o e => by
  rw [ha.block b (h.lt e)]; exact h b o e

def Own (H : List (Nat × Obj)) (w : World) : Prop := ∀ p ∈ H, w.heap[p.1]? = some p.2

structure St0 (w0 : World) (M : Nat → Prop) (σ : Hp) (H : List (Nat × Obj)) (w : World) : Prop where
  ag : Ag M w0 w
  im : Imm σ w
  ow : Own H w
  dj : ∀ p ∈ H, σ p.1 = none
  mo : ∀ p ∈ H, M p.1 ∨ w0.heap.size ≤ p.1
  nd : (H.map (·.1)).Nodup

/-- What stands, whatever is laid beside it. -/
class Sta (S : World → Prop) : Prop where
  keep : ∀ w w', S w → Below w.heap.size w w' → S w'

theorem St0.keep {w0 : World} {M : Nat → Prop} {σ : Hp} {H : List (Nat × Obj)} {w w' : World} (h : St0 w0 M σ H w) (hb : Below w.heap.size w w') : St0 w0 M σ H w' :=
  ⟨h.ag.trans (.of_below hb), h.im.below hb, fun p hp => by
    rw [hb.block p.1 (Array.getElem?_eq_some_iff.1 (h.ow p hp)).1]; exact h.ow p hp, h.dj, h.mo, h.nd⟩
instance (w0 : World) : Sta (fun w => Below w0.heap.size w0 w) := ⟨fun w w' h hb => h.trans (hb.mono h.size)⟩

theorem St0.start {M : Nat → Prop} {σ : Hp} {w : World} (h : Imm σ w) : St0 w M σ [] w :=
  ⟨.refl _ _, h, fun _ hp => absurd hp List.not_mem_nil, fun _ hp => absurd hp List.not_mem_nil, fun _ hp => absurd hp List.not_mem_nil, by simp⟩

theorem heap_push_lt {w : World} {o : Obj} {b : Nat} (h : b < w.heap.size) : (w.alloc o).heap[b]? = w.heap[b]? := by
  show (w.heap.push o)[b]? = _
  rw [Array.getElem?_push, if_neg (by omega)]
theorem heap_push_new (w : World) (o : Obj) : (w.alloc o).heap[w.heap.size]? = some o := by
  show (w.heap.push o)[w.heap.size]? = _
  simp
theorem below_alloc1 (w : World) (o : Obj) : Below w.heap.size w (w.alloc o) := (Below.refl _ _).alloc (Nat.le_refl _) o

theorem St0.alloc {w0 : World} {M : Nat → Prop} {σ : Hp} {H : List (Nat × Obj)} {w : World} (h : St0 w0 M σ H w) (o : Obj) :
    St0 w0 M σ ((w.heap.size, o) :: H) (w.alloc o) := by
  have hk := h.keep (below_alloc1 w o)
  refine ⟨hk.ag, hk.im, fun p hp => ?_, fun p hp => ?_, fun p hp => ?_, ?_⟩
  · rcases List.mem_cons.1 hp with rfl | hp
    · exact heap_push_new w o
    · exact hk.ow p hp
  · rcases List.mem_cons.1 hp with rfl | hp
    · cases e : σ w.heap.size with
      | none => rfl
      | some o' => exact absurd (h.im.lt e) (Nat.lt_irrefl _)
    · exact h.dj p hp
  · rcases List.mem_cons.1 hp with rfl | hp
    · exact .inr h.ag.size
    · exact h.mo p hp
  · rw [List.map_cons, List.nodup_cons]
    refine ⟨fun hm => ?_, h.nd⟩
    obtain ⟨p, hp, e⟩ := List.mem_map.1 hm
    have e' : p.1 = w.heap.size := e
    have := (Array.getElem?_eq_some_iff.1 (h.ow p hp)).1
    omega

/-- The block b holds o now. -/
def World.putBlk (w : World) (b : Nat) (o : Obj) : World := { w with heap := w.heap.setIfInBounds b o }

def setH : List (Nat × Obj) → Nat → Obj → List (Nat × Obj)
  | [], _, _ => []
  | p :: r, 0, o => (p.1, o) :: r
  | p :: r, i + 1, o => p :: setH r i o

theorem setH_keys : ∀ (H : List (Nat × Obj)) (i : Nat) (o : Obj), (setH H i o).map (·.1) = H.map (·.1)
  | [], _, _ => rfl
  | p :: r, 0, o => rfl
  | p :: r, i + 1, o => by simp [setH, setH_keys r i o]
theorem mem_setH : ∀ {H : List (Nat × Obj)} {i : Nat} {o : Obj} {b : Nat} {o' : Obj}, (H.map (·.1)).Nodup → H[i]? = some (b, o') → ∀ {q}, q ∈ setH H i o → q = (b, o) ∨ (q ∈ H ∧ q.1 ≠ b)
  | [], _, _, _, _, _, h, _, _ => by simp at h
  | p :: r, 0, o, b, o', hn, h, q, hq => by
    simp at h; subst h
    simp only [List.map_cons, List.nodup_cons] at hn
    rcases List.mem_cons.1 hq with rfl | hq
    · exact .inl rfl
    · exact .inr ⟨List.mem_cons_of_mem _ hq, fun e => hn.1 (by rw [← e]; exact List.mem_map_of_mem hq)⟩
  | p :: r, i + 1, o, b, o', hn, h, q, hq => by
    simp only [List.map_cons, List.nodup_cons] at hn
    simp at h
    rcases List.mem_cons.1 hq with rfl | hq
    · exact .inr ⟨List.mem_cons_self, fun e => hn.1 (by rw [e]; exact List.mem_map.2 ⟨(b, o'), List.mem_of_getElem? h, rfl⟩)⟩
    · rcases mem_setH hn.2 h hq with h1 | h1
      · exact .inl h1
      · exact .inr ⟨List.mem_cons_of_mem _ h1.1, h1.2⟩

theorem St0.put {w0 : World} {M : Nat → Prop} {σ : Hp} {H : List (Nat × Obj)} {w : World} (h : St0 w0 M σ H w) {i b : Nat} {o' : Obj} (hi : H[i]? = some (b, o')) (o : Obj) :
    St0 w0 M σ (setH H i o) (World.putBlk w b o) := by
  have hm := List.mem_of_getElem? hi
  have hlt := (Array.getElem?_eq_some_iff.1 (h.ow _ hm)).1
  have hlt' : b < w.heap.size := hlt
  have hne : ∀ k, k ≠ b → (World.putBlk w b o).heap[k]? = w.heap[k]? := fun k hk => by
    show (w.heap.setIfInBounds b o)[k]? = _
    rw [Array.getElem?_setIfInBounds_ne (by omega)]
  have hsz : (World.putBlk w b o).heap.size = w.heap.size := by simp [World.putBlk]
  refine ⟨⟨h.ag.os, h.ag.tape, h.ag.output, by rw [hsz]; exact h.ag.size, fun k hk hM => ?_⟩, fun k o2 hk => ?_, fun p hp => ?_, fun p hp => ?_, fun p hp => ?_, by rw [setH_keys]; exact h.nd⟩
  · have : k ≠ b := by
      rintro rfl
      rcases h.mo _ hm with h1 | h1
      · exact hM h1
      · exact absurd hk (Nat.not_lt.2 h1)
    rw [hne k this]; exact h.ag.block k hk hM
  · have : k ≠ b := by rintro rfl; rw [h.dj _ hm] at hk; cases hk
    rw [hne k this]; exact h.im k o2 hk
  · rcases mem_setH h.nd hi hp with rfl | ⟨hp, hb⟩
    · show (w.heap.setIfInBounds b o)[b]? = _
      simp [hlt']
    · rw [hne p.1 hb]; exact h.ow p hp
  · rcases mem_setH h.nd hi hp with rfl | ⟨hp, hb⟩
    · exact h.dj (b, o') hm
    · exact h.dj p hp
  · rcases mem_setH h.nd hi hp with rfl | ⟨hp, hb⟩
    · exact h.mo (b, o') hm
    · exact h.mo p hp

/-- One owned block is laid among what never turns. -/
def ext (σ : Hp) (b : Nat) (o : Obj) : Hp := fun k => if k = b then some o else σ k
theorem le_ext {σ : Hp} {b : Nat} {o : Obj} (h : σ b = none) : Le σ (ext σ b o) := fun k o' e => by
  unfold ext
  split
  · rename_i e'; subst e'; rw [h] at e; cases e
  · exact e
theorem ext_self (σ : Hp) (b : Nat) (o : Obj) : ext σ b o b = some o := by simp [ext]

theorem St0.drop {w0 : World} {M : Nat → Prop} {σ : Hp} {H H' : List (Nat × Obj)} {w : World} (h : St0 w0 M σ H w) (hs : H'.Sublist H) : St0 w0 M σ H' w :=
  ⟨h.ag, h.im, fun p hp => h.ow p (hs.subset hp), fun p hp => h.dj p (hs.subset hp), fun p hp => h.mo p (hs.subset hp), (hs.map _).nodup h.nd⟩

theorem St0.freeze {w0 : World} {M : Nat → Prop} {σ : Hp} {H : List (Nat × Obj)} {w : World} {b : Nat} {o : Obj} (h : St0 w0 M σ ((b, o) :: H) w) : St0 w0 M (ext σ b o) H w := by
  have hb := h.ow (b, o) List.mem_cons_self
  have hnd := h.nd
  simp only [List.map_cons, List.nodup_cons] at hnd
  refine ⟨h.ag, fun k o' e => ?_, fun p hp => h.ow p (List.mem_cons_of_mem _ hp), fun p hp => ?_, fun p hp => h.mo p (List.mem_cons_of_mem _ hp), hnd.2⟩
  · unfold ext at e
    split at e
    · rename_i hk; subst hk; cases e; exact hb
    · exact h.im k o' e
  · unfold ext
    rw [if_neg (fun e => hnd.1 (by rw [← e]; exact List.mem_map_of_mem hp))]
    exact h.dj p (List.mem_cons_of_mem _ hp)

/-- Memory as a walk sees it: the blocks H one by one, the blocks G of rows that are appended to. -/
def St (w0 : World) (M : Nat → Prop) (σ : Hp) (H G : List (Nat × Obj)) (w : World) : Prop := St0 w0 M σ (H ++ G) w
section
variable {w0 w w' : World} {M : Nat → Prop} {σ : Hp} {H G : List (Nat × Obj)}
theorem St.ag (h : St w0 M σ H G w) : Ag M w0 w := St0.ag h
theorem St.im (h : St w0 M σ H G w) : Imm σ w := St0.im h
theorem St.own (h : St w0 M σ H G w) {p : Nat × Obj} (hp : p ∈ H) : w.heap[p.1]? = some p.2 := St0.ow h p (List.mem_append_left _ hp)
theorem St.ownG (h : St w0 M σ H G w) {p : Nat × Obj} (hp : p ∈ G) : w.heap[p.1]? = some p.2 := St0.ow h p (List.mem_append_right _ hp)
theorem St.keep (h : St w0 M σ H G w) (hb : Below w.heap.size w w') : St w0 M σ H G w' := St0.keep h hb
instance (w0 : World) (M : Nat → Prop) (σ : Hp) (H G : List (Nat × Obj)) : Sta (St w0 M σ H G) := ⟨fun _ _ h hb => h.keep hb⟩
theorem St.start (h : Imm σ w) : St w M σ [] [] w := St0.start h
theorem St.alloc (h : St w0 M σ H G w) (o : Obj) : St w0 M σ ((w.heap.size, o) :: H) G (w.alloc o) := St0.alloc h o
theorem setH_app : ∀ (H G : List (Nat × Obj)) (i : Nat) (o : Obj), i < H.length → setH (H ++ G) i o = setH H i o ++ G
  | [], _, _, _, h => absurd h (Nat.not_lt_zero _)
  | p :: r, G, 0, o, _ => rfl
  | p :: r, G, i + 1, o, h => by simp [setH, setH_app r G i o (by simpa using h)]
theorem setH_appG : ∀ (H G : List (Nat × Obj)) (i : Nat) (o : Obj), setH (H ++ G) (H.length + i) o = H ++ setH G i o
  | [], G, i, o => by simp
  | p :: r, G, i, o => by
    rw [List.cons_append, List.length_cons, show r.length + 1 + i = (r.length + i) + 1 by omega]
    simp [setH, setH_appG r G i o]
theorem St.put (h : St w0 M σ H G w) {i b : Nat} {o' : Obj} (hi : H[i]? = some (b, o')) (o : Obj) : St w0 M σ (setH H i o) G (World.putBlk w b o) := by
  have hlt : i < H.length := (List.getElem?_eq_some_iff.1 hi).1
  have := St0.put (i := i) h (show (H ++ G)[i]? = some (b, o') by rw [List.getElem?_append_left hlt]; exact hi) o
  rwa [setH_app H G i o hlt] at this
theorem St.putG (h : St w0 M σ H G w) {i b : Nat} {o' : Obj} (hi : G[i]? = some (b, o')) (o : Obj) : St w0 M σ H (setH G i o) (World.putBlk w b o) := by
  have := St0.put (i := H.length + i) h (show (H ++ G)[H.length + i]? = some (b, o') by rw [List.getElem?_append_right (by omega)]; simpa using hi) o
  rwa [setH_appG H G i o] at this
theorem St.drop (h : St w0 M σ H G w) {H' : List (Nat × Obj)} (hs : H'.Sublist H) : St w0 M σ H' G w := St0.drop h (hs.append (List.Sublist.refl G))
theorem St.dropG (h : St w0 M σ H G w) {G' : List (Nat × Obj)} (hs : G'.Sublist G) : St w0 M σ H G' w := St0.drop h ((List.Sublist.refl H).append hs)
theorem St.freeze {b : Nat} {o : Obj} (h : St w0 M σ ((b, o) :: H) G w) : St w0 M (ext σ b o) H G w := St0.freeze h
theorem St0.perm {w0 w : World} {M : Nat → Prop} {σ : Hp} {H H' : List (Nat × Obj)} (h : St0 w0 M σ H w) (hp : H'.Perm H) : St0 w0 M σ H' w :=
  ⟨h.ag, h.im, fun p hm => h.ow p (hp.mem_iff.1 hm), fun p hm => h.dj p (hp.mem_iff.1 hm), fun p hm => h.mo p (hp.mem_iff.1 hm), (hp.map _).nodup_iff.2 h.nd⟩
/-- A row that is appended to becomes one of the blocks that are known one by one; and back. -/
theorem St.ofG {p : Nat × Obj} (h : St w0 M σ H (p :: G) w) : St w0 M σ (p :: H) G w := St0.perm h (by
  rw [List.cons_append]; exact (List.perm_middle).symm)
theorem St.toG {p : Nat × Obj} (h : St w0 M σ (p :: H) G w) : St w0 M σ H (p :: G) w := St0.perm h (by
  rw [List.cons_append]; exact List.perm_middle)
theorem St.permH {H' : List (Nat × Obj)} (h : St w0 M σ H G w) (hp : H'.Perm H) : St w0 M σ H' G w := St0.perm h (hp.append_right G)
theorem St.fresh (h : St w0 M σ H G w) {p : Nat × Obj} (hp : p ∈ H ++ G) : σ p.1 = none := St0.dj h p hp
theorem St.lt (h : St w0 M σ H G w) {p : Nat × Obj} (hp : p ∈ H ++ G) : p.1 < w.heap.size := (Array.getElem?_eq_some_iff.1 (St0.ow h p hp)).1
theorem St.le {τ : Hp} (h : St w0 M σ H G w) (hi : Imm τ w) (hn : ∀ p ∈ H ++ G, τ p.1 = none) : St w0 M τ H G w := ⟨h.ag, hi, St0.ow h, hn, St0.mo h, St0.nd h⟩
end

theorem Imm.ext {σ : Hp} {w : World} (h : Imm σ w) {b : Nat} {o : Obj} (hb : w.heap[b]? = some o) : Imm (ext σ b o) w := fun k o' e => by
  unfold Go.Proofs.YtnjomdjkbbhdoaaDoor.ext at e
  split at e
  · rename_i hk; subst hk; cases e; exact hb
  · exact h k o' e

/-- A joining of two that both never turn. -/
def join (σ τ : Hp) : Hp := fun k => (σ k).or (τ k)
theorem le_join (σ τ : Hp) : Le σ (join σ τ) := fun k o e => by simp [join, e]
theorem le_join' {σ τ : Hp} {w : World} (h : Imm σ w) (k : Imm τ w) : Le τ (join σ τ) := fun b o e => by
  unfold join
  cases hs : σ b with
  | none => simpa using e
  | some o' =>
    have h1 := h b o' hs
    have h2 := k b o e
    rw [h1] at h2
    cases h2
    rfl
theorem Imm.join {σ τ : Hp} {w : World} (h : Imm σ w) (k : Imm τ w) : Imm (join σ τ) w := fun b o e => by
  unfold Go.Proofs.YtnjomdjkbbhdoaaDoor.join at e
  cases hs : σ b with
  | none => rw [hs] at e; exact k b o (by simpa using e)
  | some o' => rw [hs] at e; simp at e; subst e; exact h b _ hs

/-! ## Closed facts -/
class RowT (P : Program) (ty : TypeId) (k : outParam Nat) : Prop where
  ok : ∃ d, P.underlying ty = some d ∧ d.isRow = true ∧ (P.info? ty).map (·.size) = some k
class OneT (P : Program) (ty : TypeId) : Prop where
  ok : ∃ d, P.underlying ty = some d ∧ d.isRow = false ∧ (P.info? ty).map (·.size) = some 1
class SlT (P : Program) (t : TypeId) (e k : outParam Nat) : Prop where
  ok : P.underlying t = some (.slice e) ∧ (P.info? e).map (·.size) = some k
class FldT (P : Program) (s f : Nat) (off : outParam Nat) : Prop where
  ok : ∃ fs fd, P.underlying s = some (.struct fs) ∧ fs[f]? = some fd ∧ fd.offset = off ∧ ((P.info? fd.type).map (·.size)).any (· != 0) = true
class FnT (P : Program) (f : FuncId) : Prop where
  ok : ∃ fn, P.funcs[f]? = some fn ∧ (fn.name == "runtime.NumGoroutine") = false ∧ fn.body.isNone = false
class ZeroT (P : Program) (ty : TypeId) (z : outParam Value) : Prop where
  ok : (P.info? ty).bind (·.zero) = some z
class StrT (P : Program) (ty : TypeId) : Prop where
  ok : P.underlying ty = some .string
class MapT (P : Program) (t : TypeId) (k e : outParam Nat) : Prop where
  ok : P.underlying t = some (.map k e) ∧ P.underlying k = some .string ∧ (P.info? e).bind (·.zero) = some (.int .i64 0)
class MixT (P : Program) : Prop where
  ok : P.follows .mixedOrders = true

theorem run_isAgg_not {P : Program} {ty : TypeId} {d : TypeDesc} (h : P.underlying ty = some d) (hd : d.isRow = false) (w : World) : (isAgg ty).run P w = .ok false w := by
  unfold isAgg
  rw [Sem.run_bind, run_underlying h w]
  cases d <;> simp_all

theorem run_loadAt_one {P : Program} {ty : TypeId} [h : OneT P ty] {w : World} {a : Addr} {v : Value} (hc : w.cell? a = some v) :
    (Instr.loadAt ty (.pointer (some a))).run P w = .ok v w := by
  obtain ⟨d, h1, h2, _⟩ := h.ok
  simp [Instr.loadAt, Instr.sureAddr, loadVar, Sem.run_bind, run_isAgg_not h1 h2 w, run_load, hc]

theorem run_loadAt_row {P : Program} {ty : TypeId} {k : Nat} [h : RowT P ty k] {w : World} {b o : Nat} {cs : List Value} (hl : cs.length = k) (hc : w.rangeAt b o cs) :
    (Instr.loadAt ty (.pointer (some ⟨b, o, none⟩))).run P w = .ok (.agg cs.toArray) w := by
  obtain ⟨d, h1, h2, h3⟩ := h.ok
  exact run_loadAt_mid w b o ty cs d hc h1 h2 (by rw [h3, hl])

theorem run_fieldAt_of {P : Program} {s f off : Nat} [h : FldT P s f off] {w : World} {a : Addr} :
    (Instr.fieldAt s (.pointer (some a)) f).run P w = .ok (.pointer (some (a.add off))) w := by
  obtain ⟨fs, fd, h1, h2, h3, h4⟩ := h.ok
  subst h3
  cases hi : P.info? fd.type with
  | none => simp [hi] at h4
  | some i =>
    have : i.size ≠ 0 := by simpa [hi] using h4
    simp [Instr.fieldAt, run_underlying h1, h2, Instr.sureAddr, fieldPlace, sizeOf, typeInfo, hi, this]

theorem run_indexAt_of {P : Program} {t e k : Nat} [h : SlT P t e k] {w : World} {a : Addr} {n c : Nat} {ik : IntKind} {i : Int} (h0 : 0 ≤ i) (h1 : i < n) :
    (Instr.indexAt t (.slice (some a) n c) (.int ik i)).run P w = .ok (.pointer (some (a.add (i.toNat * k)))) w := by
  obtain ⟨hu, hs⟩ := h.ok
  cases hi : P.info? e with
  | none => simp [hi] at hs
  | some ie =>
    have : ie.size = k := by simpa [hi] using hs
    simp [Instr.indexAt, run_underlying hu, asIntOf, h0, h1, sizeOf, typeInfo, hi, this]

/-! ### Where cells lie -/
def CellsAt (σ : Hp) (b o : Nat) (cs : List Value) : Prop := ∃ arr ty fz, σ b = some (.cells arr ty fz) ∧ ∀ j v, cs[j]? = some v → arr[o + j]? = some v
theorem CellsAt.le {σ τ : Hp} (h : Le σ τ) {b o : Nat} {cs : List Value} (hc : CellsAt σ b o cs) : CellsAt τ b o cs := by
  obtain ⟨arr, ty, fz, h1, h2⟩ := hc
  exact ⟨arr, ty, fz, h b _ h1, h2⟩
theorem cell_of_blk {w : World} {b o : Nat} {arr : Array Value} {ty : TypeId} {fz : Nat × Nat} (h : w.heap[b]? = some (.cells arr ty fz)) : w.cell? ⟨b, o, none⟩ = arr[o]? := by
  simp [World.cell?, h]
theorem CellsAt.range {σ : Hp} {w : World} (hi : Imm σ w) {b o : Nat} {cs : List Value} (hc : CellsAt σ b o cs) : w.rangeAt b o cs := by
  obtain ⟨arr, ty, fz, h1, h2⟩ := hc
  exact fun j v hv => by rw [cell_of_blk (hi b _ h1)]; exact h2 j v hv
theorem CellsAt.cell {σ : Hp} {w : World} (hi : Imm σ w) {b o : Nat} {v : Value} (hc : CellsAt σ b o [v]) : w.cell? ⟨b, o, none⟩ = some v :=
  hc.range hi 0 v rfl
theorem blk_range {w : World} {b o : Nat} {arr : Array Value} {ty : TypeId} {fz : Nat × Nat} {cs : List Value} (h : w.heap[b]? = some (.cells arr ty fz))
    (hc : (arr.toList.drop o).take cs.length = cs) : w.rangeAt b o cs := fun j v hv => by
  rw [cell_of_blk h]
  have hj : j < cs.length := (List.getElem?_eq_some_iff.1 hv).1
  rw [← hc] at hv
  rw [List.getElem?_take_of_lt hj, List.getElem?_drop] at hv
  simpa using hv
theorem addr_add (b o n : Nat) : (⟨b, o, none⟩ : Addr).add n = ⟨b, o + n, none⟩ := Addr.add_mid b o n
end Go.Proofs.YtnjomdjkbbhdoaaDoor
