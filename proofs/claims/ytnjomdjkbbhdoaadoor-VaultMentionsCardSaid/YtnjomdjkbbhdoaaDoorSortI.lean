/-
  slices.Sort and slices.Compact of an own row of integers; the numbers that bytes mention.
  No condition.
-/
import Derived.Test.YtnjomdjkbbhdoaaDoorNum
import Derived.Test.YtnjomdjkbbhdoaaDoorShelf
namespace Go.Proofs.YtnjomdjkbbhdoaaDoor
open Go.RowKit Go.Sort
set_option linter.unusedVariables false
set_option linter.unusedSimpArgs false

theorem putCells_size {enc : Int → Value} {d : Array Int} {cur : Array Value} : (putCells enc 0 d cur).size = cur.size := by simp [putCells]
theorem putCells_take {l : List Int} {cur : Array Value} (h : l.length ≤ cur.size) : (putCells (Value.int .i64) 0 l.toArray cur).toList.take l.length = intsV l := by
  apply List.ext_getElem?
  intro k
  rw [List.getElem?_take]
  by_cases hk : k < l.length
  · rw [if_pos hk]
    have h1 : k < cur.size := by omega
    simp [putCells, h1, hk, intsV]
  · have : (intsV l)[k]? = none := List.getElem?_eq_none (by simp [intsV]; omega)
    rw [if_neg hk, this]
/-- The row's block holds others; new blocks may stand behind the heap. -/
theorem st_row {w0 w : World} {M : Nat → Prop} {σ : Hp} {H Gr : List (Nat × Obj)} {g e q : Nat} {cur : Array Value} {d : Array Int} {os : Array Obj} (hs : St w0 M σ H ((g, .cells cur e (0, 0)) :: Gr) w) :
    St w0 M σ H ((g, .cells (putCells (Value.int .i64) 0 d cur) e (0, 0)) :: Gr) (grow (putRow (Value.int .i64) (Go.Sort.ahead w q) g 0 d) os) := by
  have hb : w.heap[g]? = some (.cells cur e (0, 0)) := hs.ownG (p := (g, .cells cur e (0, 0))) (by simp)
  have h1 := hs.putG (i := 0) (b := g) (o' := .cells cur e (0, 0)) rfl (.cells (putCells (Value.int .i64) 0 d cur) e (0, 0))
  refine St.keep h1 ⟨rfl, rfl, rfl, ?_, fun k hk => ?_⟩
  · simp [World.putBlk, grow, putRow, mapBlock, Go.Sort.ahead]
  · have hk' : k < w.heap.size := by simpa [World.putBlk] using hk
    have hlt : k < (w.heap.modify g (onCells (putCells (Value.int .i64) 0 d))).size := by simpa using hk'
    simp only [World.putBlk, grow, putRow, mapBlock, Go.Sort.ahead]
    rw [Array.getElem?_append_left hlt, Array.getElem?_modify, Array.getElem?_setIfInBounds]
    by_cases hg : g = k
    · subst hg
      simp only [if_true, hb, Option.map_some, onCells, hk']
    · simp [hg]
theorem holds_row {w0 w : World} {M : Nat → Prop} {σ : Hp} {H Gr : List (Nat × Obj)} {g e : Nat} {cur : Array Value} {zs : List Int} (hs : St w0 M σ H ((g, .cells cur e (0, 0)) :: Gr) w) (hc : cur.toList.take zs.length = intsV zs) : Holds (Value.int .i64) w g 0 zs.toArray := by
  have hb : w.heap[g]? = some (.cells cur e (0, 0)) := hs.ownG (p := (g, .cells cur e (0, 0))) (by simp)
  intro j hj
  have hj' : j < zs.length := by simpa using hj
  constructor
  · rw [cell_of_blk hb]
    have : (cur.toList.take zs.length)[j]? = (intsV zs)[j]? := by rw [hc]
    rw [List.getElem?_take, if_pos hj'] at this
    simp only [Nat.zero_add]
    rw [Array.getElem?_toList] at this
    rw [this]
    simp [intsV, hj']
  · simp [World.frozen?, hb]
section
variable {w0 w : World} {M : Nat → Prop} {σ : Hp} {H Gs Gr : List (Nat × Obj)} {e n : Nat} {v : Value} {zs : List Int}
def sortI (zs : List Int) : List Int := zs.mergeSort fun x y => decide (x ≤ y)
theorem sortI_len (zs : List Int) : (sortI zs).length = zs.length := by simp [sortI]
theorem pSortI (hz : zs.length < 4611686018427387904) (hO : OwnSl e 1 v n (intsV zs) Gs) (hs : St w0 M σ H (Gs ++ Gr) w) :
    Calls Tryd.prog 63 #[v] w fun en w' => ∃ u, en = .returned u ∧ ∃ Gs', (u = .tuple #[] ∧ OwnSl e 1 v n (intsV (sortI zs)) Gs') ∧ St w0 M σ H (Gs' ++ Gr) w' := by
  have hn : zs.length = n := by have := hO.1; simpa [intsV] using this
  subst hn
  rcases hO.2 with ⟨rfl, h0, rfl⟩ | ⟨g, c, cur, rfl, rfl, h2, h3, h4, h5⟩
  · obtain rfl := List.eq_nil_of_length_eq_zero h0
    refine (Tryd.slices_Sort_int_none none 0 w).mono fun en w' ⟨he, hw⟩ => ?_
    subst hw
    exact ⟨_, he, [], ⟨rfl, by simpa [sortI, intsV] using OwnSl.nil e 1⟩, hs⟩
  · have h5' : cur.toList.take zs.length = intsV zs := by simpa using h5
    have hsz : zs.length ≤ cur.size := by omega
    refine (Tryd.slices_Sort_int g 0 c zs w (holds_row (Gr := Gr) (by simpa using hs) h5') (by
      have := hs.ownG (p := (g, .cells cur e (0, 0))) (by simp)
      exact (Array.getElem?_eq_some_iff.1 this).1) hz).mono fun en w' ⟨he, q, os, hw⟩ => ?_
    subst hw
    refine ⟨_, he, [(g, .cells (putCells (Value.int .i64) 0 (sortI zs).toArray cur) e (0, 0))], ⟨rfl, by simp [intsV, sortI_len], .inr ⟨g, c, _, rfl, rfl, h2, h3, by rw [putCells_size]; exact h4, ?_⟩⟩, ?_⟩
    · have := putCells_take (l := sortI zs) (cur := cur) (by rw [sortI_len]; exact hsz)
      rw [sortI_len] at this
      simpa using this
    · exact st_row (Gr := Gr) (by simpa using hs)
theorem pCompI (hO : OwnSl e 1 v n (intsV zs) Gs) (hs : St w0 M σ H (Gs ++ Gr) w) :
    Calls Tryd.prog 64 #[v] w fun en w' => ∃ u, en = .returned u ∧ ∃ Gs', OwnSl e 1 u (Lib.compact zs).length (intsV (Lib.compact zs)) Gs' ∧ St w0 M σ H (Gs' ++ Gr) w' := by
  have hn : zs.length = n := by have := hO.1; simpa [intsV] using this
  subst hn
  rcases hO.2 with ⟨rfl, h0, rfl⟩ | ⟨g, c, cur, rfl, rfl, h2, h3, h4, h5⟩
  · obtain rfl := List.eq_nil_of_length_eq_zero h0
    refine (Tryd.slices_Compact_int_empty none 0 w).mono fun en w' ⟨he, hw⟩ => ?_
    subst hw
    refine ⟨_, he, [], ?_, hs⟩
    have : Lib.compact ([] : List Int) = [] := by simp [Lib.compact, Lib.compactUpTo]
    rw [this]
    exact OwnSl.nil e 1
  · have h5' : cur.toList.take zs.length = intsV zs := by simpa using h5
    have hsz : zs.length ≤ cur.size := by omega
    have hcl : (Lib.compact zs).length ≤ zs.length := by
      simp only [Lib.compact, Lib.compactUpTo, List.length_map]
      exact Nat.le_trans (List.length_filter_le _ _) (by simp)
    refine (Tryd.slices_Compact_int g 0 c zs w (holds_row (Gr := Gr) (by simpa using hs) h5') (by unfold maxLen at h3; omega) h2).mono fun en w' ⟨he, q, hw⟩ => ?_
    subst hw
    have hst := st_row (q := q) (d := (Lib.compact zs ++ List.replicate (zs.length - (Lib.compact zs).length) 0).toArray) (os := #[]) (Gr := Gr) (by simpa using hs)
    rw [grow_empty] at hst
    refine ⟨_, he, _, ⟨by simp [intsV], .inr ⟨g, c, _, rfl, rfl, by omega, h3, by rw [putCells_size]; exact h4, ?_⟩⟩, hst⟩
    have := putCells_take (l := Lib.compact zs ++ List.replicate (zs.length - (Lib.compact zs).length) 0) (cur := cur) (by simp; omega)
    have h6 := congrArg (List.take (Lib.compact zs).length) this
    rw [List.take_take] at h6
    simp only [List.length_append, List.length_replicate] at h6
    rw [Nat.min_eq_left (by omega), intsV_app, List.take_left' (by simp [intsV])] at h6
    simpa using h6
end
section
variable {P : Program} {l0 : List Oper} {Q : Exit → Act → World → Prop} {rest : List Oper} {N : Nat} {L : TL} {d : Nat} {ty : TypeId} {pos : String} {af : Array Edge} {g : Option (Nat × Bool)} {op : Op} {w0 : World} {M : Nat → Prop} {σ : Hp} {H Gs Gr : List (Nat × Obj)} {R : Value → List (Nat × Obj) → Prop}
/-- A call that turns an own row over. -/
theorem ow_cg (hN : Nat.blt d N = true) (hg : gd l0 L g = some true) (h : ExC P op N L (St w0 M σ H (Gs ++ Gr)) (fun w u w' => ∃ Gs', R u Gs' ∧ St w0 M σ H (Gs' ++ Gr) w'))
    (k : ∀ u Gs', R u Gs' → OW P l0 Q rest N ((d, u) :: L) (St w0 M σ H (Gs' ++ Gr))) : OW P l0 Q (⟨some d, op, ty, pos, af, g⟩ :: rest) N L (St w0 M σ H (Gs ++ Gr)) :=
  ow_c hN hg h fun u a w' hf ⟨w, hs, Gs', h1, h2⟩ => k u Gs' h1 a w' hf h2
end

section
variable {P : Program} {l0 : List Oper} {Q : Exit → Act → World → Prop} {rest : List Oper} {N : Nat} {L : TL} {d : Nat} {ty : TypeId} {pos : String} {af : Array Edge} {g : Option (Nat × Bool)} {op : Op} {w0 : World} {M : Nat → Prop} {σ : Hp} {H Gs : List (Nat × Obj)} {R : Value → List (Nat × Obj) → Prop}
theorem ow_cg1 (hN : Nat.blt d N = true) (hg : gd l0 L g = some true) (h : ExC P op N L (St w0 M σ H Gs) (fun w u w' => ∃ Gs', R u Gs' ∧ St w0 M σ H Gs' w'))
    (k : ∀ u Gs', R u Gs' → OW P l0 Q rest N ((d, u) :: L) (St w0 M σ H Gs')) : OW P l0 Q (⟨some d, op, ty, pos, af, g⟩ :: rest) N L (St w0 M σ H Gs) :=
  ow_c hN hg h fun u a w' hf ⟨w, hs, Gs', h1, h2⟩ => k u Gs' h1 a w' hf h2
theorem pSortI1 {w : World} {e n : Nat} {v : Value} {zs : List Int} (hz : zs.length < 4611686018427387904) (hO : OwnSl e 1 v n (intsV zs) Gs) (hs : St w0 M σ H Gs w) :
    Calls Tryd.prog 63 #[v] w fun en w' => ∃ u, en = .returned u ∧ ∃ Gs', (u = .tuple #[] ∧ OwnSl e 1 v n (intsV (sortI zs)) Gs') ∧ St w0 M σ H Gs' w' := by
  simpa using pSortI (Gr := []) hz hO (by simpa using hs)
theorem pCompI1 {w : World} {e n : Nat} {v : Value} {zs : List Int} (hO : OwnSl e 1 v n (intsV zs) Gs) (hs : St w0 M σ H Gs w) :
    Calls Tryd.prog 64 #[v] w fun en w' => ∃ u, en = .returned u ∧ ∃ Gs', OwnSl e 1 u (Lib.compact zs).length (intsV (Lib.compact zs)) Gs' ∧ St w0 M σ H Gs' w' := by
  simpa using pCompI (Gr := []) hO (by simpa using hs)
end
def RepI (zs : List Int) (σ : Hp) (v : Value) : Prop := IntsV σ v zs
instance (zs : List Int) : MonoR (RepI zs) := ⟨fun hl h => IntsV.le hl h⟩
theorem freezeI {w0 w : World} {M : Nat → Prop} {σ : Hp} {H Gs Gr : List (Nat × Obj)} {e n : Nat} {v : Value} {zs : List Int} (hs : St w0 M σ H (Gs ++ Gr) w) (hM : ∀ b, M b → False) (hO : OwnSl e 1 v n (intsV zs) Gs) :
    ∃ σ', Le σ σ' ∧ Fresh σ σ' w0 ∧ St w0 M σ' H Gr w ∧ IntsV σ' v zs := by
  obtain ⟨σ', h1, h2, h3, p, c, e4, h5, h6⟩ := freezeR hs hM hO
  have hn : zs.length = n := by have := hO.1; simpa [intsV] using this
  subst hn
  refine ⟨σ', h1, h2, h3, p, c, e4, h5, h6.imp (fun h => List.eq_nil_of_length_eq_zero h) fun ⟨b, e5, h7⟩ => ⟨b, 0, e5, h7⟩⟩

/-! ## In plain Lean -/
/-- Do bytes begin with a mention of a number below a bound? -/
def hitB (d : List UInt8) (below : Int) : Bool := (numB ((d.drop 2).take 8)).2 && decide ((numB ((d.drop 2).take 8)).1 < below) && (d.take 2 == [4, 8])
/-- The numbers below a bound that bytes mention, one behind the other. -/
def mentL : List UInt8 → Int → List Int
  | [], _ => []
  | c :: r, below => if 10 ≤ (c :: r).length ∧ hitB (c :: r) below = true then (numB (((c :: r).drop 2).take 8)).1 :: mentL r below else mentL r below
theorem mentL_short : ∀ {d : List UInt8} {below : Int}, d.length < 10 → mentL d below = []
  | [], _, _ => rfl
  | c :: r, below, h => by
    rw [mentL, if_neg (by omega)]
    exact mentL_short (by simp at h; omega)
theorem mentL_hit {d : List UInt8} {below : Int} (h : 10 ≤ d.length) (hh : hitB d below = true) : mentL d below = (numB ((d.drop 2).take 8)).1 :: mentL (d.drop 1) below := by
  match d, h with
  | c :: r, h => rw [mentL, if_pos ⟨h, hh⟩]; rfl
theorem mentL_miss {d : List UInt8} {below : Int} (hh : hitB d below = false) : mentL d below = mentL (d.drop 1) below := by
  match d with
  | [] => rfl
  | c :: r => rw [mentL, if_neg (by simp [hh])]; rfl
theorem mentL_len : ∀ (d : List UInt8) (below : Int), (mentL d below).length ≤ d.length
  | [], _ => Nat.le_refl _
  | c :: r, below => by
    have := mentL_len r below
    rw [mentL]
    split <;> simp <;> omega
/-- .. in order, each once. -/
def mentS (d : List UInt8) (below : Int) : List Int := Lib.compact (sortI (mentL d below))
end Go.Proofs.YtnjomdjkbbhdoaaDoor
