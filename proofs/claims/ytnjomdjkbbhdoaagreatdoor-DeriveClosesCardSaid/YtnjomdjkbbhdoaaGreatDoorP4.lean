/-
  What the law DeriveCloses needs, part 4.
  No condition.
-/
import Derived.Test.YtnjomdjkbbhdoaaGreatDoorP3
set_option linter.unusedVariables false
set_option linter.unusedSimpArgs false
set_option linter.unusedSectionVars false
namespace Go.Proofs.YtnjomdjkbbhdoaaGreatDoor
open Go.RowKit
set_option linter.unusedVariables false
set_option linter.unusedSimpArgs false
set_option maxRecDepth 100000
set_option maxHeartbeats 400000 in
theorem rSameI {xs ys : List Int} {vx vy : Value} {σ : Hp} {w : World} (hi : Imm σ w) (hx : IntsV σ vx xs) (hy : IntsV σ vy ys) (hl : xs.length ≤ 9223372036854775806) : Calls Tryz.prog 38 #[vx, vy] w fun e w' => e = .returned (.bool (xs == ys)) ∧ Below w.heap.size w w' := by
  obtain ⟨p, c, rfl, hc, hsx⟩ := hx
  obtain ⟨q, c2, rfl, hc2, hsy⟩ := hy
  refine enter (St w (fun _ => False) σ [] []) Tryz.func38 rfl Tryz.ntmps38 rfl (St.start hi) ?_
  refine cw_seq ?_
  refine cw_region ?_
  refine ow_val rfl rfl (ex_assign rfl) ?_
  refine ow_nil ?_
  refine qw_seq ?_
  refine cw_seq ?_
  refine cw_seq ?_
  refine cw_region ?_
  refine ow_val rfl rfl (ex_move rfl) ?_
  refine ow_val rfl rfl (ex_len (ty := 0) rfl) ?_
  refine ow_val rfl rfl (ex_move rfl) ?_
  refine ow_val rfl rfl (ex_len (ty := 0) rfl) ?_
  refine ow_val rfl rfl (ex_neq rfl rfl) ?_
  refine ow_nil ?_
  refine qw_seq ?_
  refine cw_cond rfl (fun c10 => ?_) (fun c10 => ?_)
  ·
    have hne : (xs == ys) = false := by
      rw [beq_eq_false_iff_ne]; rintro rfl; simp at c10
    refine cw_seq ?_
    refine cw_region ?_
    refine ow_val rfl rfl (ex_assign rfl) ?_
    refine ow_nil ?_
    refine qw_seq ?_
    refine cw_ret ?_
    refine qw_then_ret ?_
    refine qw_ret1 rfl rfl (fun w' h => ⟨congrArg (fun z => Ending.returned (.bool z)) ?_, h.ag.below⟩)
    rw [hne]
  ·
    have hll : xs.length = ys.length := by have := of_decide_eq_false c10; omega
    refine cw_skip ?_
    refine qw_seq ?_
    refine cw_seq ?_
    refine cw_seq ?_
    refine cw_region ?_
    refine ow_val rfl rfl (ex_assign rfl) ?_
    refine ow_nil ?_
    refine qw_seq ?_
    refine cw_block ?_
    refine cw_loopS (α := Nat) (fun i => [(0, .slice p xs.length c), (1, .slice q ys.length c2), (5, .int .i64 (i : Int))]) (fun i => i ≤ xs.length ∧ xs.take i = ys.take i) (fun i => xs.length - i) 0 (subL_cons (lkv rfl (by first | rfl | simp)) (subL_cons (lkv rfl (by first | rfl | simp)) (subL_cons (lkv rfl (by first | rfl | simp)) (subL_nil _)))) ⟨Nat.zero_le _, by simp⟩ ?_
    intro i ⟨hlei, heq⟩
    refine cw_seq ?_
    refine cw_seq ?_
    refine cw_region ?_
    refine ow_val rfl rfl (ex_move rfl) ?_
    refine ow_val rfl rfl (ex_move rfl) ?_
    refine ow_val rfl rfl (ex_len (ty := 0) rfl) ?_
    refine ow_val rfl rfl (ex_lss rfl rfl) ?_
    refine ow_nil ?_
    refine qw_seq ?_
    refine cw_cond rfl (fun c14 => ?_) (fun c14 => ?_)
    ·
      have hlt : i < xs.length := by have := of_decide_eq_true c14; omega
      have hlt2 : i < ys.length := by omega
      obtain ⟨ba, oa, rfl, hca⟩ := hsx.resolve_left (fun hz => by subst hz; simp at hlt)
      obtain ⟨bb, ob, rfl, hcb⟩ := hsy.resolve_left (fun hz => by subst hz; simp at hlt2)
      refine cw_skip ?_
      refine qw_seq ?_
      refine cw_seq ?_
      refine cw_block ?_
      refine cw_seq ?_
      refine flow_sound 9 (by kernel_rfl) ?_
      refine flow_val rfl (ex_move rfl) ?_
      refine flow_val rfl (ex_move rfl) ?_
      refine flow_val rfl (ex_index_nat rfl rfl hlt) ?_
      refine flow_val rfl (ex_load1 rfl (ld_imm1 (hca.int hlt))) ?_
      refine flow_val rfl (ex_move rfl) ?_
      refine flow_val rfl (ex_move rfl) ?_
      refine flow_val rfl (ex_index_nat rfl rfl hlt2) ?_
      refine flow_val rfl (ex_load1 rfl (ld_imm1 (hcb.int hlt2))) ?_
      refine flow_val rfl (ex_neq rfl rfl) ?_
      refine flow_nil ?_
      refine fin_is ?_
      refine fin_is ?_
      refine fin_is ?_
      refine fin_is ?_
      refine fin_is ?_
      refine fin_is ?_
      refine fin_is ?_
      refine fin_is ?_
      refine fin_is ?_
      refine fin_nil ?_
      refine ow_nil ?_
      refine qw_seq ?_
      refine cw_cond rfl (fun c25 => ?_) (fun c25 => ?_)
      ·
        have hne : (xs == ys) = false := by
          have := of_decide_eq_true c25
          rw [beq_eq_false_iff_ne]; rintro rfl; exact this rfl
        refine cw_seq ?_
        refine cw_region ?_
        refine ow_val rfl rfl (ex_assign rfl) ?_
        refine ow_nil ?_
        refine qw_seq ?_
        refine cw_ret ?_
        refine qw_block_ret ?_
        refine qw_then_ret ?_
        refine qw_then_ret ?_
        refine qw_block_ret ?_
        refine qw_then_ret ?_
        refine qw_ret1 rfl rfl (fun w' h => ⟨congrArg (fun z => Ending.returned (.bool z)) ?_, h.ag.below⟩)
        rw [hne]
      ·
        have hee : xs[i] = ys[i] := Decidable.not_not.1 (of_decide_eq_false c25)
        refine cw_skip ?_
        refine qw_block_normal ?_
        refine qw_seq ?_
        refine cw_region ?_
        refine ow_val rfl rfl (ex_move rfl) ?_
        refine ow_val rfl rfl (ex_addi (z := ((i + 1 : Nat) : Int)) rfl rfl (by omega) (by omega) (by omega)) ?_
        refine ow_val rfl rfl (ex_assign rfl) ?_
        refine ow_nil ?_
        exact qw_roundS (i + 1) (by omega) (subL_cons (lkv rfl (by first | rfl | simp)) (subL_cons (lkv rfl (by first | rfl | simp)) (subL_cons (lkv rfl (by first | rfl | simp)) (subL_nil _)))) ⟨by omega, by rw [List.take_succ_eq_append_getElem hlt, List.take_succ_eq_append_getElem hlt2, heq, hee]⟩
    ·
      have he : (xs == ys) = true := by
        have : i = xs.length := by have := of_decide_eq_false c14; omega
        subst this
        rw [List.take_of_length_le (Nat.le_refl _), List.take_of_length_le (by omega)] at heq
        rw [heq]; simp
      refine cw_exit ?_
      refine qw_then_exit ?_
      refine qw_then_exit ?_
      refine qw_block_exit ?_
      refine qw_seq ?_
      refine cw_seq ?_
      refine cw_region ?_
      refine ow_val rfl rfl (ex_assign rfl) ?_
      refine ow_nil ?_
      refine qw_seq ?_
      refine cw_ret ?_
      refine qw_ret1 rfl rfl (fun w' h => ⟨congrArg (fun z => Ending.returned (.bool z)) ?_, h.ag.below⟩)
      rw [he]
end Go.Proofs.YtnjomdjkbbhdoaaGreatDoor
namespace Go.Proofs.YtnjomdjkbbhdoaaGreatDoor
open Go.RowKit Go.Sort
set_option linter.unusedVariables false
set_option linter.unusedSimpArgs false
theorem putCells_size {enc : Int → Value} {d : Array Int} {cur : Array Value} : (putCells enc 0 d cur).size = cur.size := by simp [putCells]
theorem putCells_take {l : List Int} {cur : Array Value} (h : l.length ≤ cur.size) : (putCells (Value.int .i64) 0 l.toArray cur).toList.take l.length = intsV l := by
  apply List.ext_getElem?
  intro k
  rw [List.getElem?_take]
  by_cases hk : k < l.length
  · rw [if_pos hk]
    have h1 : k < cur.size := by omega
    simp [putCells, h1, hk, intsV]
  · have : (intsV l)[k]? = none := List.getElem?_eq_none (by simp [intsV]; omega)
    rw [if_neg hk, this]
theorem st_row {w0 w : World} {M : Nat → Prop} {σ : Hp} {H Gr : List (Nat × Obj)} {g e q : Nat} {cur : Array Value} {d : Array Int} {os : Array Obj} (hs : St w0 M σ H ((g, .cells cur e (0, 0)) :: Gr) w) :
    St w0 M σ H ((g, .cells (putCells (Value.int .i64) 0 d cur) e (0, 0)) :: Gr) (grow (putRow (Value.int .i64) (Go.Sort.ahead w q) g 0 d) os) := by
  have hb : w.heap[g]? = some (.cells cur e (0, 0)) := hs.ownG (p := (g, .cells cur e (0, 0))) (by simp)
  have h1 := hs.putG (i := 0) (b := g) (o' := .cells cur e (0, 0)) rfl (.cells (putCells (Value.int .i64) 0 d cur) e (0, 0))
  refine St.keep h1 ⟨rfl, rfl, rfl, ?_, fun k hk => ?_⟩
  · simp [World.putBlk, grow, putRow, mapBlock, Go.Sort.ahead]
  · have hk' : k < w.heap.size := by simpa [World.putBlk] using hk
    have hlt : k < (w.heap.modify g (onCells (putCells (Value.int .i64) 0 d))).size := by simpa using hk'
    simp only [World.putBlk, grow, putRow, mapBlock, Go.Sort.ahead]
    rw [Array.getElem?_append_left hlt, Array.getElem?_modify, Array.getElem?_setIfInBounds]
    by_cases hg : g = k
    · subst hg
      simp only [if_true, hb, Option.map_some, onCells, hk']
    · simp [hg]
theorem holds_row {w0 w : World} {M : Nat → Prop} {σ : Hp} {H Gr : List (Nat × Obj)} {g e : Nat} {cur : Array Value} {zs : List Int} (hs : St w0 M σ H ((g, .cells cur e (0, 0)) :: Gr) w) (hc : cur.toList.take zs.length = intsV zs) : Holds (Value.int .i64) w g 0 zs.toArray := by
  have hb : w.heap[g]? = some (.cells cur e (0, 0)) := hs.ownG (p := (g, .cells cur e (0, 0))) (by simp)
  intro j hj
  have hj' : j < zs.length := by simpa using hj
  constructor
  · rw [cell_of_blk hb]
    have : (cur.toList.take zs.length)[j]? = (intsV zs)[j]? := by rw [hc]
    rw [List.getElem?_take, if_pos hj'] at this
    simp only [Nat.zero_add]
    rw [Array.getElem?_toList] at this
    rw [this]
    simp [intsV, hj']
  · simp [World.frozen?, hb]
section
variable {w0 w : World} {M : Nat → Prop} {σ : Hp} {H Gs Gr : List (Nat × Obj)} {e n : Nat} {v : Value} {zs : List Int}
def sortI (zs : List Int) : List Int := zs.mergeSort fun x y => decide (x ≤ y)
theorem sortI_len (zs : List Int) : (sortI zs).length = zs.length := by simp [sortI]
theorem pSortI (hz : zs.length < 4611686018427387904) (hO : OwnSl e 1 v n (intsV zs) Gs) (hs : St w0 M σ H (Gs ++ Gr) w) :
    Calls Tryz.prog 83 #[v] w fun en w' => ∃ u, en = .returned u ∧ ∃ Gs', (u = .tuple #[] ∧ OwnSl e 1 v n (intsV (sortI zs)) Gs') ∧ St w0 M σ H (Gs' ++ Gr) w' := by
  have hn : zs.length = n := by have := hO.1; simpa [intsV] using this
  subst hn
  rcases hO.2 with ⟨rfl, h0, rfl⟩ | ⟨g, c, cur, rfl, rfl, h2, h3, h4, h5⟩
  · obtain rfl := List.eq_nil_of_length_eq_zero h0
    refine (Tryz.slices_Sort_int_none none 0 w).mono fun en w' ⟨he, hw⟩ => ?_
    subst hw
    exact ⟨_, he, [], ⟨rfl, by simpa [sortI, intsV] using OwnSl.nil e 1⟩, hs⟩
  · have h5' : cur.toList.take zs.length = intsV zs := by simpa using h5
    have hsz : zs.length ≤ cur.size := by omega
    refine (Tryz.slices_Sort_int g 0 c zs w (holds_row (Gr := Gr) (by simpa using hs) h5') (by
      have := hs.ownG (p := (g, .cells cur e (0, 0))) (by simp)
      exact (Array.getElem?_eq_some_iff.1 this).1) hz).mono fun en w' ⟨he, q, os, hw⟩ => ?_
    subst hw
    refine ⟨_, he, [(g, .cells (putCells (Value.int .i64) 0 (sortI zs).toArray cur) e (0, 0))], ⟨rfl, by simp [intsV, sortI_len], .inr ⟨g, c, _, rfl, rfl, h2, h3, by rw [putCells_size]; exact h4, ?_⟩⟩, ?_⟩
    · have := putCells_take (l := sortI zs) (cur := cur) (by rw [sortI_len]; exact hsz)
      rw [sortI_len] at this
      simpa using this
    · exact st_row (Gr := Gr) (by simpa using hs)
theorem pCompI (hO : OwnSl e 1 v n (intsV zs) Gs) (hs : St w0 M σ H (Gs ++ Gr) w) :
    Calls Tryz.prog 84 #[v] w fun en w' => ∃ u, en = .returned u ∧ ∃ Gs', OwnSl e 1 u (Lib.compact zs).length (intsV (Lib.compact zs)) Gs' ∧ St w0 M σ H (Gs' ++ Gr) w' := by
  have hn : zs.length = n := by have := hO.1; simpa [intsV] using this
  subst hn
  rcases hO.2 with ⟨rfl, h0, rfl⟩ | ⟨g, c, cur, rfl, rfl, h2, h3, h4, h5⟩
  · obtain rfl := List.eq_nil_of_length_eq_zero h0
    refine (Tryz.slices_Compact_int_empty none 0 w).mono fun en w' ⟨he, hw⟩ => ?_
    subst hw
    refine ⟨_, he, [], ?_, hs⟩
    have : Lib.compact ([] : List Int) = [] := by simp [Lib.compact, Lib.compactUpTo]
    rw [this]
    exact OwnSl.nil e 1
  · have h5' : cur.toList.take zs.length = intsV zs := by simpa using h5
    have hsz : zs.length ≤ cur.size := by omega
    have hcl : (Lib.compact zs).length ≤ zs.length := by
      simp only [Lib.compact, Lib.compactUpTo, List.length_map]
      exact Nat.le_trans (List.length_filter_le _ _) (by simp)
    refine (Tryz.slices_Compact_int g 0 c zs w (holds_row (Gr := Gr) (by simpa using hs) h5') (by unfold maxLen at h3; omega) h2).mono fun en w' ⟨he, q, hw⟩ => ?_
    subst hw
    have hst := st_row (q := q) (d := (Lib.compact zs ++ List.replicate (zs.length - (Lib.compact zs).length) 0).toArray) (os := #[]) (Gr := Gr) (by simpa using hs)
    rw [grow_empty] at hst
    refine ⟨_, he, _, ⟨by simp [intsV], .inr ⟨g, c, _, rfl, rfl, by omega, h3, by rw [putCells_size]; exact h4, ?_⟩⟩, hst⟩
    have := putCells_take (l := Lib.compact zs ++ List.replicate (zs.length - (Lib.compact zs).length) 0) (cur := cur) (by simp; omega)
    have h6 := congrArg (List.take (Lib.compact zs).length) this
    rw [List.take_take] at h6
    simp only [List.length_append, List.length_replicate] at h6
    rw [Nat.min_eq_left (by omega), intsV_app, List.take_left' (by simp [intsV])] at h6
    simpa using h6
end
section
variable {P : Program} {l0 : List Oper} {Q : Exit → Act → World → Prop} {rest : List Oper} {N : Nat} {L : TL} {d : Nat} {ty : TypeId} {pos : String} {af : Array Edge} {g : Option (Nat × Bool)} {op : Op} {w0 : World} {M : Nat → Prop} {σ : Hp} {H Gs : List (Nat × Obj)} {R : Value → List (Nat × Obj) → Prop}
theorem ow_cg1 (hN : Nat.blt d N = true) (hg : gd l0 L g = some true) (h : ExC P op N L (St w0 M σ H Gs) (fun w u w' => ∃ Gs', R u Gs' ∧ St w0 M σ H Gs' w'))
    (k : ∀ u Gs', R u Gs' → OW P l0 Q rest N ((d, u) :: L) (St w0 M σ H Gs')) : OW P l0 Q (⟨some d, op, ty, pos, af, g⟩ :: rest) N L (St w0 M σ H Gs) :=
  ow_c hN hg h fun u a w' hf ⟨w, hs, Gs', h1, h2⟩ => k u Gs' h1 a w' hf h2
theorem pSortI1 {w : World} {e n : Nat} {v : Value} {zs : List Int} (hz : zs.length < 4611686018427387904) (hO : OwnSl e 1 v n (intsV zs) Gs) (hs : St w0 M σ H Gs w) :
    Calls Tryz.prog 83 #[v] w fun en w' => ∃ u, en = .returned u ∧ ∃ Gs', (u = .tuple #[] ∧ OwnSl e 1 v n (intsV (sortI zs)) Gs') ∧ St w0 M σ H Gs' w' := by
  simpa using pSortI (Gr := []) hz hO (by simpa using hs)
theorem pCompI1 {w : World} {e n : Nat} {v : Value} {zs : List Int} (hO : OwnSl e 1 v n (intsV zs) Gs) (hs : St w0 M σ H Gs w) :
    Calls Tryz.prog 84 #[v] w fun en w' => ∃ u, en = .returned u ∧ ∃ Gs', OwnSl e 1 u (Lib.compact zs).length (intsV (Lib.compact zs)) Gs' ∧ St w0 M σ H Gs' w' := by
  simpa using pCompI (Gr := []) hO (by simpa using hs)
end
def RepI (zs : List Int) (σ : Hp) (v : Value) : Prop := IntsV σ v zs
instance (zs : List Int) : MonoR (RepI zs) := ⟨fun hl h => IntsV.le hl h⟩
theorem freezeI {w0 w : World} {M : Nat → Prop} {σ : Hp} {H Gs Gr : List (Nat × Obj)} {e n : Nat} {v : Value} {zs : List Int} (hs : St w0 M σ H (Gs ++ Gr) w) (hM : ∀ b, M b → False) (hO : OwnSl e 1 v n (intsV zs) Gs) :
    ∃ σ', Le σ σ' ∧ Fresh σ σ' w0 ∧ St w0 M σ' H Gr w ∧ IntsV σ' v zs := by
  obtain ⟨σ', h1, h2, h3, p, c, e4, h5, h6⟩ := freezeR hs hM hO
  have hn : zs.length = n := by have := hO.1; simpa [intsV] using this
  subst hn
  refine ⟨σ', h1, h2, h3, p, c, e4, h5, h6.imp (fun h => List.eq_nil_of_length_eq_zero h) fun ⟨b, e5, h7⟩ => ⟨b, 0, e5, h7⟩⟩
def hitB (d : List UInt8) (below : Int) : Bool := (numB ((d.drop 2).take 8)).2 && decide ((numB ((d.drop 2).take 8)).1 < below) && (d.take 2 == [4, 8])
def mentL : List UInt8 → Int → List Int
  | [], _ => []
  | c :: r, below => if 10 ≤ (c :: r).length ∧ hitB (c :: r) below = true then (numB (((c :: r).drop 2).take 8)).1 :: mentL r below else mentL r below
theorem mentL_short : ∀ {d : List UInt8} {below : Int}, d.length < 10 → mentL d below = []
  | [], _, _ => rfl
  | c :: r, below, h => by
    rw [mentL, if_neg (by omega)]
    exact mentL_short (by simp at h; omega)
theorem mentL_hit {d : List UInt8} {below : Int} (h : 10 ≤ d.length) (hh : hitB d below = true) : mentL d below = (numB ((d.drop 2).take 8)).1 :: mentL (d.drop 1) below := by
  match d, h with
  | c :: r, h => rw [mentL, if_pos ⟨h, hh⟩]; rfl
theorem mentL_miss {d : List UInt8} {below : Int} (hh : hitB d below = false) : mentL d below = mentL (d.drop 1) below := by
  match d with
  | [] => rfl
  | c :: r => rw [mentL, if_neg (by simp [hh])]; rfl
theorem mentL_len : ∀ (d : List UInt8) (below : Int), (mentL d below).length ≤ d.length
  | [], _ => Nat.le_refl _
  | c :: r, below => by
    have := mentL_len r below
    rw [mentL]
    split <;> simp <;> omega
def mentS (d : List UInt8) (below : Int) : List Int := Lib.compact (sortI (mentL d below))
end Go.Proofs.YtnjomdjkbbhdoaaGreatDoor
namespace Go.Proofs.YtnjomdjkbbhdoaaGreatDoor
open Go.RowKit
set_option linter.unusedVariables false
set_option linter.unusedSimpArgs false
theorem strict_eq : ∀ {a b : List Int}, a.Pairwise (· < ·) → b.Pairwise (· < ·) → (∀ x, x ∈ a ↔ x ∈ b) → a = b
  | [], [], _, _, _ => rfl
  | [], y :: b, _, _, h => by have := (h y).2 (by simp); simp at this
  | x :: a, [], _, _, h => by have := (h x).1 (by simp); simp at this
  | x :: a, y :: b, ha, hb, h => by
    rw [List.pairwise_cons] at ha hb
    have e : x = y := by
      have h1 := (h x).1 (by simp)
      have h2 := (h y).2 (by simp)
      rcases List.mem_cons.1 h1 with h1 | h1
      · exact h1
      · rcases List.mem_cons.1 h2 with h2 | h2
        · exact h2.symm
        · have := hb.1 x h1
          have := ha.1 y h2
          omega
    subst e
    congr 1
    refine strict_eq ha.2 hb.2 fun z => ⟨fun hz => ?_, fun hz => ?_⟩
    · rcases List.mem_cons.1 ((h z).1 (List.mem_cons_of_mem _ hz)) with e | e
      · have := ha.1 z hz; omega
      · exact e
    · rcases List.mem_cons.1 ((h z).2 (List.mem_cons_of_mem _ hz)) with e | e
      · have := hb.1 z hz; omega
      · exact e
theorem compact_facts (d : Array Int) (hs : ∀ i j, i ≤ j → j < d.size → d[i]! ≤ d[j]!) : ∀ m, m ≤ d.size →
    (Lib.compactUpTo d m).Pairwise (· < ·) ∧ ∀ x, x ∈ Lib.compactUpTo d m ↔ ∃ j, j < m ∧ d[j]! = x
  | 0, _ => by simp [Lib.compactUpTo]
  | m + 1, hm => by
    obtain ⟨h1, h2⟩ := compact_facts d hs m (by omega)
    rw [Lib.compactUpTo_succ]
    by_cases hk : Lib.keeps d m = true
    · rw [if_pos hk]
      constructor
      · rw [List.pairwise_append]
        refine ⟨h1, by simp, fun a ha b hb => ?_⟩
        simp only [List.mem_singleton] at hb
        subst hb
        obtain ⟨j, hj, rfl⟩ := (h2 a).1 ha
        unfold Lib.keeps at hk
        simp only [decide_eq_true_eq] at hk
        have hne := hk.resolve_left (by omega)
        have q1 := hs j (m - 1) (by omega) (by omega)
        have q2 := hs (m - 1) m (by omega) (by omega)
        omega
      · intro x
        rw [List.mem_append, h2, List.mem_singleton]
        constructor
        · rintro (⟨j, hj, e⟩ | e)
          · exact ⟨j, by omega, e⟩
          · exact ⟨m, by omega, e.symm⟩
        · rintro ⟨j, hj, e⟩
          by_cases hjm : j = m
          · subst hjm; exact .inr e.symm
          · exact .inl ⟨j, by omega, e⟩
    · rw [if_neg hk, List.append_nil]
      refine ⟨h1, fun x => ?_⟩
      rw [h2]
      unfold Lib.keeps at hk
      simp only [decide_eq_true_eq, not_or, ne_eq, Decidable.not_not] at hk
      constructor
      · rintro ⟨j, hj, e⟩; exact ⟨j, by omega, e⟩
      · rintro ⟨j, hj, e⟩
        by_cases hjm : j = m
        · subst hjm; exact ⟨j - 1, by omega, by rw [← hk.2]; exact e⟩
        · exact ⟨j, by omega, e⟩
theorem sortI_le (zs : List Int) : (sortI zs).Pairwise (· ≤ ·) := by
  have := List.pairwise_mergeSort (le := fun x y : Int => decide (x ≤ y)) (fun a b c h1 h2 => by simp at *; omega) (fun a b => by simp; omega) zs
  exact this.imp (fun h => by simpa using h)
theorem compact_sort (zs : List Int) : (Lib.compact (sortI zs)).Pairwise (· < ·) ∧ ∀ x, x ∈ Lib.compact (sortI zs) ↔ x ∈ zs := by
  have hp := sortI_le zs
  have hg : ∀ j, (h : j < (sortI zs).length) → (sortI zs).toArray[j]! = (sortI zs)[j] := fun j h => by simp [h]
  have hsz : (sortI zs).toArray.size = (sortI zs).length := by simp
  obtain ⟨h1, h2⟩ := compact_facts (sortI zs).toArray (fun i j hij hj => by
    rw [hg j (by omega), hg i (by omega)]
    by_cases e : i = j
    · subst e; exact Int.le_refl _
    · exact List.pairwise_iff_getElem.1 hp i j (by omega) (by omega) (by omega)) (sortI zs).length (by omega)
  refine ⟨h1, fun x => (h2 x).trans ?_⟩
  have hm : x ∈ sortI zs ↔ x ∈ zs := by unfold sortI; exact List.mem_mergeSort
  rw [← hm]
  constructor
  · rintro ⟨j, hj, e⟩
    rw [hg j hj] at e
    rw [← e]; exact List.getElem_mem hj
  · intro h
    obtain ⟨j, hj, e⟩ := List.mem_iff_getElem.1 h
    exact ⟨j, hj, by rw [hg j hj]; exact e⟩
theorem mentS_facts (d : List UInt8) (below : Int) : (mentS d below).Pairwise (· < ·) ∧ ∀ x, x ∈ mentS d below ↔ x ∈ mentL d below := compact_sort _
theorem mentS_is {d : List UInt8} {below : Int} {zs : List Int} (h1 : zs.Pairwise (· < ·)) (h2 : ∀ x, x ∈ zs ↔ x ∈ mentL d below) : zs = mentS d below :=
  strict_eq h1 (mentS_facts d below).1 fun x => (h2 x).trans ((mentS_facts d below).2 x).symm
theorem CellsAt.intD {σ : Hp} {b o : Nat} {zs : List Int} (h : CellsAt σ b o (intsV zs)) {i : Nat} (hi : i < zs.length) : CellsAt σ b (o + i * 1) [.int .i64 (zs.getD i 0)] := by
  have := h.int hi
  rwa [show zs.getD i 0 = zs[i] by simp [List.getD_eq_getElem?_getD, hi]]
theorem intsV_len (zs : List Int) : (intsV zs).length = zs.length := by simp [intsV]
theorem intsV_one {zs : List Int} (u : Value) (h : u ∈ intsV zs) : u.oneCell' = true := by
  simp only [intsV, List.mem_map] at h
  obtain ⟨z, _, rfl⟩ := h; rfl
theorem nodup_len : ∀ {a b : List Int}, a.Nodup → (∀ x ∈ a, x ∈ b) → a.length ≤ b.length
  | [], b, _, _ => Nat.zero_le _
  | x :: a, b, hn, h => by
    rw [List.nodup_cons] at hn
    have hx : x ∈ b := h x (by simp)
    have h1 := nodup_len (b := b.erase x) hn.2 (fun y hy => (List.mem_erase_of_ne (fun e => hn.1 (by rw [← e]; exact hy))).2 (h y (List.mem_cons_of_mem _ hy)))
    have h2 := List.length_erase_of_mem hx
    have h3 : 0 < b.length := List.length_pos_of_mem hx
    simp only [List.length_cons]; omega
theorem strict_len {a b : List Int} (ha : a.Pairwise (· < ·)) (h : ∀ x ∈ a, x ∈ b) : a.length ≤ b.length :=
  nodup_len (ha.imp (fun h => by omega)) h
theorem ins_facts {zs : List Int} {n : Int} {k : Nat} (hp : zs.Pairwise (· < ·)) (hk : k ≤ zs.length) (hge : ∀ j, k ≤ j → j < zs.length → n ≤ zs.getD j 0) (hlt : k = 0 ∨ zs.getD (k - 1) 0 < n) (hne : ¬ (k < zs.length ∧ zs.getD k 0 = n)) :
    (zs.take k ++ [n] ++ zs.drop k).Pairwise (· < ·) ∧ ∀ x, x ∈ zs.take k ++ [n] ++ zs.drop k ↔ x = n ∨ x ∈ zs := by
  have gd : ∀ j, (h : j < zs.length) → zs.getD j 0 = zs[j] := fun j h => by simp [List.getD_eq_getElem?_getD, h]
  have pw := List.pairwise_iff_getElem.1 hp
  have ha : ∀ x ∈ zs.take k, x < n := fun x hx => by
    obtain ⟨j, hj, rfl⟩ := List.mem_iff_getElem.1 hx
    rw [List.getElem_take]
    have hj' : j < k := by rw [List.length_take] at hj; omega
    have h2 := hlt.resolve_left (by omega)
    rw [gd _ (by omega)] at h2
    by_cases e : j = k - 1
    · subst e; exact h2
    · have := pw j (k - 1) (by omega) (by omega) (by omega)
      omega
  have hb : ∀ x ∈ zs.drop k, n < x := fun x hx => by
    obtain ⟨j, hj, rfl⟩ := List.mem_iff_getElem.1 hx
    rw [List.getElem_drop]
    have hj' : k + j < zs.length := by rw [List.length_drop] at hj; omega
    have h1 := hge (k + j) (by omega) hj'
    rw [gd _ hj'] at h1
    have h3 : ¬ zs[k + j] = n := fun e => by
      by_cases e0 : j = 0
      · subst e0; exact hne ⟨by omega, by rw [gd _ (by omega)]; exact e⟩
      · have h4 := pw k (k + j) (by omega) hj' (by omega)
        have h5 := hge k (by omega) (by omega)
        rw [gd _ (by omega)] at h5
        omega
    omega
  constructor
  · rw [List.pairwise_append, List.pairwise_append]
    refine ⟨⟨hp.sublist (List.take_sublist _ _), by simp, fun a h b hb' => ?_⟩, hp.sublist (List.drop_sublist _ _), fun a h b hb' => ?_⟩
    · simp at hb'; subst hb'; exact ha a h
    · rcases List.mem_append.1 h with h | h
      · have := ha a h; have := hb b hb'; omega
      · simp at h; subst h; exact hb b hb'
  · intro x
    rw [List.mem_append, List.mem_append, List.mem_singleton]
    constructor
    · rintro ((h | h) | h)
      · exact .inr (List.mem_of_mem_take h)
      · exact .inl h
      · exact .inr (List.mem_of_mem_drop h)
    · rintro (h | h)
      · exact .inl (.inr h)
      · have := List.take_append_drop k zs
        rw [← this, List.mem_append] at h
        rcases h with h | h
        · exact .inl (.inl h)
        · exact .inr h
section
variable {P : Program} {l0 : List Oper} {Q : Exit → Act → World → Prop} {l : List Oper} {N : Nat} {L : TL} {w0 : World} {M : Nat → Prop} {σ : Hp} {H Gs : List (Nat × Obj)} {e n : Nat} {v : Value} {zs : List Int}
theorem ow_frzI (hM : ∀ b, M b → False) (hO : OwnSl e 1 v n (intsV zs) Gs) (k : ∀ σ', Le σ σ' → Fresh σ σ' w0 → IntsV σ' v zs → OW P l0 Q l N L (St w0 M σ' H [])) : OW P l0 Q l N L (St w0 M σ H Gs) := fun a w hf hs => by
  obtain ⟨σ', h1, h2, h3, h4⟩ := freezeI (Gr := []) (by simpa using hs) hM hO
  exact k σ' h1 h2 h4 a w hf h3
end
theorem hit_two {d : List UInt8} {i : Nat} (h : i + 10 ≤ d.length) : ((d.drop i).take 2 == [4, 8]) = (decide (d.getD i 0 = 4) && decide (d.getD (i + 1) 0 = 8)) := by
  have h1 : (d.drop i).getD 0 0 = d.getD i 0 := by rw [drop_getD]; rfl
  have h2 : (d.drop i).getD 1 0 = d.getD (i + 1) 0 := by rw [drop_getD]
  rw [← h1, ← h2, ← hp_two (by rw [List.length_drop]; omega)]
  unfold hpB
  have : 2 ≤ (d.drop i).length := by rw [List.length_drop]; omega
  simp only [List.length_cons, List.length_nil]
  rw [decide_eq_true (by omega)]; rfl
theorem mentS_len (d : List UInt8) (below : Int) : (mentS d below).length ≤ d.length :=
  Nat.le_trans (strict_len (mentS_facts d below).1 fun x hx => ((mentS_facts d below).2 x).1 hx) (mentL_len d below)
theorem mentL_mem : ∀ {d : List UInt8} {below x : Int}, x ∈ mentL d below ↔ ∃ i, i + 10 ≤ d.length ∧ hitB (d.drop i) below = true ∧ x = (numB (((d.drop i).drop 2).take 8)).1
  | [], below, x => by simp [mentL]
  | c :: r, below, x => by
    have ih := mentL_mem (d := r) (below := below) (x := x)
    rw [mentL]
    constructor
    · intro h
      split at h
      · rename_i hc
        rcases List.mem_cons.1 h with h | h
        · exact ⟨0, by omega, hc.2, h⟩
        · obtain ⟨i, h1, h2, h3⟩ := ih.1 h
          exact ⟨i + 1, by simp; omega, h2, h3⟩
      · obtain ⟨i, h1, h2, h3⟩ := ih.1 h
        exact ⟨i + 1, by simp; omega, h2, h3⟩
    · rintro ⟨i, h1, h2, h3⟩
      match i with
      | 0 =>
        rw [if_pos ⟨by omega, h2⟩]
        exact List.mem_cons.2 (.inl h3)
      | i + 1 =>
        have hm : x ∈ mentL r below := ih.2 ⟨i, by simp at h1; omega, h2, h3⟩
        split
        · exact List.mem_cons_of_mem _ hm
        · exact hm
theorem beN_tail {m : Nat} (hm : m < 281474976710656) : ∀ k, k ≤ 6 → beN (tailB m k) = m / 2 ^ (8 * (6 - k))
  | 0, _ => by
    have : m / 2 ^ (8 * (6 - 0)) = 0 := Nat.div_eq_of_lt (by simpa using hm)
    rw [this]; rfl
  | k + 1, hk => by
    rw [tailB_succ, beN_snoc, beN_tail hm k (by omega), UInt8.toNat_ofNat']
    have e1 : 8 * (6 - k) = 8 * (5 - k) + 8 := by omega
    have e2 : 8 * (6 - (k + 1)) = 8 * (5 - k) := by omega
    rw [e1, e2, Nat.pow_add, ← Nat.div_div_eq_div_mul]
    generalize m / 2 ^ (8 * (5 - k)) = q
    simp only [Nat.reducePow]
    omega
theorem numB_bytes {n : Int} (h : 0 ≤ n ∧ n < 281474976710656) : numB (bytesN n) = (n, true) := by
  obtain ⟨m, rfl⟩ : ∃ m : Nat, n = (m : Int) := ⟨n.toNat, by omega⟩
  have hm : m < 281474976710656 := by omega
  rw [bytesN_in hm, numB_in (by simp [tailB_len]) rfl rfl]
  have := beN_tail hm 6 (Nat.le_refl _)
  simp only [List.drop_succ_cons, List.drop_zero, this]
  simp
theorem mentS_in {d : List UInt8} {below x : Int} (h : x ∈ mentS d below) : 0 ≤ x ∧ x < below := by
  obtain ⟨i, _, h2, rfl⟩ := mentL_mem.1 (((mentS_facts d below).2 x).1 h)
  unfold hitB at h2
  simp only [Bool.and_eq_true, decide_eq_true_eq] at h2
  exact ⟨(numB_ge h2.1.1).1, h2.1.2⟩
theorem mentS_at {a z : List UInt8} {n below : Int} (h : 0 ≤ n ∧ n < 281474976710656) (hb : n < below) : n ∈ mentS (a ++ mentN n ++ z) below := by
  have h8 := bytesN_len h
  have e : (a ++ mentN n ++ z).drop a.length = 4 :: 8 :: (bytesN n ++ z) := by
    unfold mentN
    rw [if_pos h, List.append_assoc, List.drop_left]; rfl
  refine ((mentS_facts _ below).2 n).2 (mentL_mem.2 ⟨a.length, ?_, ?_, ?_⟩)
  · unfold mentN
    rw [if_pos h]
    simp; omega
  · rw [e]
    unfold hitB
    have : (((4 : UInt8) :: 8 :: (bytesN n ++ z)).drop 2).take 8 = bytesN n := by
      show (bytesN n ++ z).take 8 = bytesN n
      rw [← h8, List.take_left]
    rw [this, numB_bytes h]
    simp [hb]
  · rw [e]
    have : (((4 : UInt8) :: 8 :: (bytesN n ++ z)).drop 2).take 8 = bytesN n := by
      show (bytesN n ++ z).take 8 = bytesN n
      rw [← h8, List.take_left]
    rw [this, numB_bytes h]
theorem mentS_iff {a z : List UInt8} {n below : Int} (h : 0 ≤ n ∧ n < 281474976710656) : n ∈ mentS (a ++ mentN n ++ z) below ↔ n < below := ⟨fun hm => (mentS_in hm).2, mentS_at h⟩
theorem take_mem {zs : List Int} {n : Int} {i : Nat} (h : i < zs.length) : decide (n ∈ zs.take (i + 1)) = (decide (n ∈ zs.take i) || decide (zs.getD i 0 = n)) := by
  rw [List.take_succ_eq_append_getElem h, Bool.eq_iff_iff]
  simp only [List.mem_append, List.mem_singleton, Bool.or_eq_true, decide_eq_true_eq, List.getD_eq_getElem?_getD, List.getElem?_eq_getElem h, Option.getD_some]
  rw [eq_comm (a := n)]
end Go.Proofs.YtnjomdjkbbhdoaaGreatDoor
namespace Go.Proofs.YtnjomdjkbbhdoaaGreatDoor
open Go.RowKit
set_option linter.unusedVariables false
set_option linter.unusedSimpArgs false
set_option maxRecDepth 100000
set_option maxHeartbeats 400000 in
theorem rMentions {d : List UInt8} {below : Int} {v : Value} {σ : Hp} {w : World} (hi : Imm σ w) (hd : BytesV σ v d) (hmx : d.length ≤ 17592186044415) : Calls Tryz.prog 42 #[v, .int .i64 below] w (GiveR (RepI (mentS d below)) σ w) := by
  obtain ⟨p, c, rfl, hc0, _⟩ := hd.slice
  refine enter (St w (fun _ => False) σ [] []) Tryz.func42 rfl Tryz.ntmps42 rfl (St.start hi) ?_
  refine cw_seq ?_
  refine cw_region ?_
  refine ow_val rfl rfl (ex_assign rfl) ?_
  refine ow_nil ?_
  refine qw_seq ?_
  refine cw_seq ?_
  refine cw_region ?_
  refine ow_val rfl rfl (ex_assign rfl) ?_
  refine ow_nil ?_
  refine qw_seq ?_
  refine cw_seq ?_
  refine cw_seq ?_
  refine cw_region ?_
  refine ow_val rfl rfl (ex_assign rfl) ?_
  refine ow_nil ?_
  refine qw_seq ?_
  refine cw_block ?_
  refine cw_loop5 (fun (i : Nat) (zs : List Int) (q : Option Addr) (cz : Nat) (τ : Hp) => [(0, .slice p d.length c), (1, .int .i64 below), (5, .slice q zs.length cz), (6, .int .i64 (i : Int))]) (fun i zs q cz τ => i ≤ d.length ∧ Le σ τ ∧ Fresh σ τ w ∧ zs.length ≤ cz ∧ (zs = [] ∨ ∃ b o, q = some ⟨b, o, none⟩ ∧ CellsAt τ b o (intsV zs)) ∧ zs.Pairwise (· < ·) ∧ ∀ x, (x ∈ zs ∨ x ∈ mentL (d.drop i) below) ↔ x ∈ mentL d below) (fun _ _ _ _ τ => τ) (fun _ _ _ _ _ => []) (fun i _ _ _ _ => d.length - i) 0 [] none 0 σ (subL_cons (lkv rfl (by first | rfl | simp)) (subL_cons (lkv rfl (by first | rfl | simp)) (subL_cons (lkv rfl (by first | rfl | simp)) (subL_cons (lkv rfl (by first | rfl | simp)) (subL_nil _))))) ⟨Nat.zero_le _, Le.refl _, Fresh.refl _ _, Nat.le_refl _, .inl rfl, List.Pairwise.nil, by simp⟩ (fun w h => h) ?_
  intro i zs q cz τ ⟨hlei, hlj, hfj, hcz, hsz, hpw, hmem⟩
  refine cw_seq ?_
  refine cw_seq ?_
  refine cw_region ?_
  refine ow_val rfl rfl (ex_move rfl) ?_
  refine ow_val rfl rfl (ex_addi (z := ((i + 10 : Nat) : Int)) rfl rfl (by omega) (by omega) (by omega)) ?_
  refine ow_val rfl rfl (ex_move rfl) ?_
  refine ow_val rfl rfl (ex_len (ty := 0) rfl) ?_
  refine ow_val rfl rfl (ex_leq rfl rfl) ?_
  refine ow_nil ?_
  refine qw_seq ?_
  refine cw_cond rfl (fun c15 => ?_) (fun c15 => ?_)
  ·
    have h10 : i + 10 ≤ d.length := by have := of_decide_eq_true c15; omega
    obtain ⟨bq, oq, rfl, hcq⟩ := hd.ptr (by omega)
    have hmid : BytesV τ (.slice (some (if c = i + 2 then ⟨bq, oq, none⟩ else ⟨bq, oq + (i + 2) * 1, none⟩)) (i + 10 - (i + 2)) (c - (i + 2))) (((d.drop i).drop 2).take 8) := by
      have h9 := (hd.le hlj).mid (i := i + 2) (j := i + 10) (by omega) (by omega)
      have e9 : i + 10 - (i + 2) = 8 := by omega
      rw [e9] at h9
      rw [List.drop_drop, e9]; exact h9
    have hzl : zs.length ≤ d.length := Nat.le_trans (strict_len hpw fun x hx => (hmem x).1 (.inl hx)) (mentL_len d below)
    refine cw_skip ?_
    refine qw_seq ?_
    refine cw_seq ?_
    refine cw_block ?_
    refine cw_seq ?_
    refine cw_region ?_
    refine ow_val rfl rfl (ex_move rfl) ?_
    refine ow_val rfl rfl (ex_move rfl) ?_
    refine ow_val rfl rfl (ex_addi (z := ((i + 2 : Nat) : Int)) rfl rfl (by omega) (by omega) (by omega)) ?_
    refine ow_val rfl rfl (ex_move rfl) ?_
    refine ow_val rfl rfl (ex_addi (z := ((i + 10 : Nat) : Int)) rfl rfl (by omega) (by omega) (by omega)) ?_
    refine ow_val rfl rfl (ex_slice (i := i + 2) (j := i + 10) rfl rfl rfl (by omega) (by omega)) ?_
    refine ow_cv rfl rfl (ex_callf rfl (fun w h => callB ((rNumber h.im hmid)))) ?_
    refine ow_val rfl rfl (ex_move rfl) ?_
    refine ow_val rfl rfl (ex_extract rfl rfl) ?_
    refine ow_val rfl rfl (ex_extract rfl rfl) ?_
    refine ow_val rfl rfl (ex_assign rfl) ?_
    refine ow_val rfl rfl (ex_assign rfl) ?_
    refine ow_nil ?_
    refine qw_seq ?_
    refine cw_seq ?_
    refine cw_seq ?_
    refine cw_region ?_
    refine ow_val rfl rfl (ex_move rfl) ?_
    refine ow_val rfl rfl (ex_not rfl) ?_
    refine ow_val rfl rfl (ex_move rfl) ?_
    refine ow_split (g := some (2, false)) rfl (fun s30 => ?_) (fun s30 => ?_)
    ·
      have hm : hitB (d.drop i) below = false := by unfold hitB; rw [show (numB (((d.drop i).drop 2).take 8)).2 = false from by simpa using s30]; rfl
      refine ow_skip rfl (gd_no rfl s30) ?_
      refine ow_skip rfl (gd_no rfl s30) ?_
      refine ow_skip rfl (gd_no rfl s30) ?_
      refine ow_val rfl rfl (ex_pickt rfl s30 rfl) ?_
      refine ow_val rfl rfl (ex_move rfl) ?_
      refine ow_skip rfl rfl ?_
      refine ow_skip rfl rfl ?_
      refine ow_skip rfl rfl ?_
      refine ow_skip rfl rfl ?_
      refine ow_skip rfl rfl ?_
      refine ow_val rfl rfl (ex_pick_t rfl rfl) ?_
      refine ow_val rfl rfl (ex_move rfl) ?_
      refine ow_skip rfl rfl ?_
      refine ow_skip rfl rfl ?_
      refine ow_skip rfl rfl ?_
      refine ow_skip rfl rfl ?_
      refine ow_skip rfl rfl ?_
      refine ow_skip rfl rfl ?_
      refine ow_val rfl rfl (ex_pick_t rfl rfl) ?_
      refine ow_nil ?_
      refine qw_seq ?_
      refine cw_cond_t rfl ?_
      refine cw_exit ?_
      refine qw_then_exit ?_
      refine qw_block_exit ?_
      refine qw_seq ?_
      refine cw_region ?_
      refine ow_val rfl rfl (ex_move rfl) ?_
      refine ow_val rfl rfl (ex_addi (z := ((i + 1 : Nat) : Int)) rfl rfl (by omega) (by omega) (by omega)) ?_
      refine ow_val rfl rfl (ex_assign rfl) ?_
      refine ow_nil ?_
      exact qw_round5 (i + 1) zs q cz τ (by omega) (subL_cons (lkv rfl (by first | rfl | simp)) (subL_cons (lkv rfl (by first | rfl | simp)) (subL_cons (lkv rfl (by first | rfl | simp)) (subL_cons (lkv rfl (by first | rfl | simp)) (subL_nil _))))) ⟨by omega, hlj, hfj, hcz, hsz, hpw, by
        intro x
        rw [← hmem x, mentL_miss hm, show (d.drop i).drop 1 = d.drop (i + 1) from by rw [List.drop_drop]]⟩ (fun w h => h)
    ·
      have q1 : (numB (((d.drop i).drop 2).take 8)).2 = true := by simpa using s30
      refine ow_val rfl (gd_go rfl s30) (ex_move rfl) ?_
      refine ow_val rfl (gd_go rfl s30) (ex_move rfl) ?_
      refine ow_val rfl (gd_go rfl s30) (ex_geq rfl rfl) ?_
      refine ow_val rfl rfl (ex_pickf rfl s30 rfl) ?_
      refine ow_val rfl rfl (ex_move rfl) ?_
      refine ow_split (g := some (7, false)) rfl (fun s35 => ?_) (fun s35 => ?_)
      ·
        have hm : hitB (d.drop i) below = false := by unfold hitB; rw [show decide ((numB (((d.drop i).drop 2).take 8)).1 < below) = false from by have := of_decide_eq_true s35; exact decide_eq_false (by omega)]; simp
        refine ow_skip rfl (gd_no rfl s35) ?_
        refine ow_skip rfl (gd_no rfl s35) ?_
        refine ow_skip rfl (gd_no rfl s35) ?_
        refine ow_skip rfl (gd_no rfl s35) ?_
        refine ow_skip rfl (gd_no rfl s35) ?_
        refine ow_val rfl rfl (ex_pickt rfl s35 rfl) ?_
        refine ow_val rfl rfl (ex_move rfl) ?_
        refine ow_skip rfl rfl ?_
        refine ow_skip rfl rfl ?_
        refine ow_skip rfl rfl ?_
        refine ow_skip rfl rfl ?_
        refine ow_skip rfl rfl ?_
        refine ow_skip rfl rfl ?_
        refine ow_val rfl rfl (ex_pick_t rfl rfl) ?_
        refine ow_nil ?_
        refine qw_seq ?_
        refine cw_cond_t rfl ?_
        refine cw_exit ?_
        refine qw_then_exit ?_
        refine qw_block_exit ?_
        refine qw_seq ?_
        refine cw_region ?_
        refine ow_val rfl rfl (ex_move rfl) ?_
        refine ow_val rfl rfl (ex_addi (z := ((i + 1 : Nat) : Int)) rfl rfl (by omega) (by omega) (by omega)) ?_
        refine ow_val rfl rfl (ex_assign rfl) ?_
        refine ow_nil ?_
        exact qw_round5 (i + 1) zs q cz τ (by omega) (subL_cons (lkv rfl (by first | rfl | simp)) (subL_cons (lkv rfl (by first | rfl | simp)) (subL_cons (lkv rfl (by first | rfl | simp)) (subL_cons (lkv rfl (by first | rfl | simp)) (subL_nil _))))) ⟨by omega, hlj, hfj, hcz, hsz, hpw, by
          intro x
          rw [← hmem x, mentL_miss hm, show (d.drop i).drop 1 = d.drop (i + 1) from by rw [List.drop_drop]]⟩ (fun w h => h)
      ·
        have q2 : decide ((numB (((d.drop i).drop 2).take 8)).1 < below) = true := by have := of_decide_eq_false s35; exact decide_eq_true (by omega)
        refine ow_val rfl (gd_go rfl s35) (ex_move rfl) ?_
        refine ow_val rfl (gd_go rfl s35) (ex_move rfl) ?_
        refine ow_val rfl (gd_go rfl s35) (ex_index_nat (i := i) rfl rfl (by omega)) ?_
        refine ow_val rfl (gd_go rfl s35) (ex_load1 rfl (ld_imm1 ((hcq.le hlj).byte (i := i) (by omega)))) ?_
        refine ow_val rfl (gd_go rfl s35) (ex_neq rfl rfl) ?_
        refine ow_val rfl rfl (ex_pickf rfl s35 rfl) ?_
        refine ow_val rfl rfl (ex_move rfl) ?_
        refine ow_split (g := some (14, false)) rfl (fun s42 => ?_) (fun s42 => ?_)
        ·
          have hm : hitB (d.drop i) below = false := by unfold hitB; rw [hit_two h10, show decide (d.getD i 0 = 4) = false from decide_eq_false (fun hc => (of_decide_eq_true s42) (getD_eq.2 hc))]; simp
          refine ow_skip rfl (gd_no rfl s42) ?_
          refine ow_skip rfl (gd_no rfl s42) ?_
          refine ow_skip rfl (gd_no rfl s42) ?_
          refine ow_skip rfl (gd_no rfl s42) ?_
          refine ow_skip rfl (gd_no rfl s42) ?_
          refine ow_skip rfl (gd_no rfl s42) ?_
          refine ow_val rfl rfl (ex_pickt rfl s42 rfl) ?_
          refine ow_nil ?_
          refine qw_seq ?_
          refine cw_cond_t rfl ?_
          refine cw_exit ?_
          refine qw_then_exit ?_
          refine qw_block_exit ?_
          refine qw_seq ?_
          refine cw_region ?_
          refine ow_val rfl rfl (ex_move rfl) ?_
          refine ow_val rfl rfl (ex_addi (z := ((i + 1 : Nat) : Int)) rfl rfl (by omega) (by omega) (by omega)) ?_
          refine ow_val rfl rfl (ex_assign rfl) ?_
          refine ow_nil ?_
          exact qw_round5 (i + 1) zs q cz τ (by omega) (subL_cons (lkv rfl (by first | rfl | simp)) (subL_cons (lkv rfl (by first | rfl | simp)) (subL_cons (lkv rfl (by first | rfl | simp)) (subL_cons (lkv rfl (by first | rfl | simp)) (subL_nil _))))) ⟨by omega, hlj, hfj, hcz, hsz, hpw, by
            intro x
            rw [← hmem x, mentL_miss hm, show (d.drop i).drop 1 = d.drop (i + 1) from by rw [List.drop_drop]]⟩ (fun w h => h)
        ·
          have q3 : d.getD i 0 = 4 := getD_eq.1 (Decidable.not_not.1 (of_decide_eq_false s42))
          refine ow_val rfl (gd_go rfl s42) (ex_move rfl) ?_
          refine ow_val rfl (gd_go rfl s42) (ex_move rfl) ?_
          refine ow_val rfl (gd_go rfl s42) (ex_addi (z := ((i + 1 : Nat) : Int)) rfl rfl (by omega) (by omega) (by omega)) ?_
          refine ow_val rfl (gd_go rfl s42) (ex_index_nat (i := i + 1) rfl rfl (by omega)) ?_
          refine ow_val rfl (gd_go rfl s42) (ex_load1 rfl (ld_imm1 ((hcq.le hlj).byte (i := i + 1) (by omega)))) ?_
          refine ow_val rfl (gd_go rfl s42) (ex_neq rfl rfl) ?_
          refine ow_val rfl rfl (ex_pickf rfl s42 rfl) ?_
          refine ow_nil ?_
          refine qw_seq ?_
          refine cw_cond rfl (fun c49 => ?_) (fun c49 => ?_)
          ·
            have hm : hitB (d.drop i) below = false := by unfold hitB; rw [hit_two h10, show decide (d.getD (i + 1) 0 = 8) = false from decide_eq_false (fun hc => (of_decide_eq_true c49) (getD_eq.2 hc))]; simp
            refine cw_exit ?_
            refine qw_then_exit ?_
            refine qw_block_exit ?_
            refine qw_seq ?_
            refine cw_region ?_
            refine ow_val rfl rfl (ex_move rfl) ?_
            refine ow_val rfl rfl (ex_addi (z := ((i + 1 : Nat) : Int)) rfl rfl (by omega) (by omega) (by omega)) ?_
            refine ow_val rfl rfl (ex_assign rfl) ?_
            refine ow_nil ?_
            exact qw_round5 (i + 1) zs q cz τ (by omega) (subL_cons (lkv rfl (by first | rfl | simp)) (subL_cons (lkv rfl (by first | rfl | simp)) (subL_cons (lkv rfl (by first | rfl | simp)) (subL_cons (lkv rfl (by first | rfl | simp)) (subL_nil _))))) ⟨by omega, hlj, hfj, hcz, hsz, hpw, by
              intro x
              rw [← hmem x, mentL_miss hm, show (d.drop i).drop 1 = d.drop (i + 1) from by rw [List.drop_drop]]⟩ (fun w h => h)
          ·
            have q4 : d.getD (i + 1) 0 = 8 := getD_eq.1 (Decidable.not_not.1 (of_decide_eq_false c49))
            have hh : hitB (d.drop i) below = true := by unfold hitB; rw [hit_two h10, q1, q2, q3, q4]; decide
            have hmh := mentL_hit (d := d.drop i) (by rw [List.length_drop]; omega) hh
            refine cw_skip ?_
            refine qw_seq ?_
            refine cw_seq ?_
            refine cw_region ?_
            refine ow_val rfl rfl (ex_move rfl) ?_
            refine ow_val rfl rfl (ex_len (ty := 0) rfl) ?_
            refine ow_val rfl rfl (ex_assign rfl) ?_
            refine ow_nil ?_
            refine qw_seq ?_
            refine cw_seq ?_
            refine cw_block ?_
            refine cw_loopS (α := Nat) (fun k => [(0, .slice (some ⟨bq, oq, none⟩) d.length c), (1, .int .i64 below), (5, .slice q zs.length cz), (6, .int .i64 (i : Int)), (7, .int .i64 (numB (((d.drop i).drop 2).take 8)).1), (9, .int .i64 (k : Int))]) (fun k => k ≤ zs.length ∧ ∀ j, k ≤ j → j < zs.length → (numB (((d.drop i).drop 2).take 8)).1 ≤ zs.getD j 0) (fun k => k) zs.length (subL_cons (lkv rfl (by first | rfl | simp)) (subL_cons (lkv rfl (by first | rfl | simp)) (subL_cons (lkv rfl (by first | rfl | simp)) (subL_cons (lkv rfl (by first | rfl | simp)) (subL_cons (lkv rfl (by first | rfl | simp)) (subL_cons (lkv rfl (by first | rfl | simp)) (subL_nil _))))))) ⟨Nat.le_refl _, fun j h1 h2 => by omega⟩ ?_
            intro k ⟨hlek, hge⟩
            refine cw_seq ?_
            refine cw_cut1 62 (.bool (decide (0 < (k : Int)) && decide ((numB (((d.drop i).drop 2).take 8)).1 ≤ zs.getD (k - 1) 0))) ?_ ?_
            ·
              refine cw_region ?_
              refine ow_val rfl rfl (ex_move rfl) ?_
              refine ow_val rfl rfl (ex_gtr rfl rfl) ?_
              refine ow_val rfl rfl (ex_move rfl) ?_
              refine ow_split (g := some (2, true)) rfl (fun s54 => ?_) (fun s54 => ?_)
              ·
                have hk0 : 0 < k := by have := of_decide_eq_true s54; omega
                obtain ⟨ba, oa, rfl, hca⟩ := hsz.resolve_left (fun hz => by subst hz; simp at hlek; omega)
                refine ow_val rfl (gd_go rfl s54) (ex_move rfl) ?_
                refine ow_val rfl (gd_go rfl s54) (ex_move rfl) ?_
                refine ow_val rfl (gd_go rfl s54) (ex_subi (z := ((k - 1 : Nat) : Int)) rfl rfl (by omega) (by omega) (by omega)) ?_
                refine ow_val rfl (gd_go rfl s54) (ex_index_nat (i := k - 1) rfl rfl (by omega)) ?_
                refine ow_val rfl (gd_go rfl s54) (ex_load1 rfl (ld_imm1 (hca.intD (i := k - 1) (by omega)))) ?_
                refine ow_val rfl (gd_go rfl s54) (ex_move rfl) ?_
                refine ow_val rfl (gd_go rfl s54) (ex_geq rfl rfl) ?_
                refine ow_val rfl rfl (ex_pickt rfl s54 rfl) ?_
                refine ow_nil ?_
                exact qw_meet (subL_meet 11 62 (lkv rfl (by first | rfl | (have q9 : decide (0 < (k : Int)) = false := s54; rw [q9]; rfl) | (have q9 : decide (0 < (k : Int)) = true := s54; rw [q9]; rfl))) rfl rfl) (fun w h => h)
              ·
                refine ow_skip rfl (gd_no rfl s54) ?_
                refine ow_skip rfl (gd_no rfl s54) ?_
                refine ow_skip rfl (gd_no rfl s54) ?_
                refine ow_skip rfl (gd_no rfl s54) ?_
                refine ow_skip rfl (gd_no rfl s54) ?_
                refine ow_skip rfl (gd_no rfl s54) ?_
                refine ow_skip rfl (gd_no rfl s54) ?_
                refine ow_val rfl rfl (ex_pickf rfl s54 rfl) ?_
                refine ow_nil ?_
                exact qw_meet (subL_meet 11 62 (lkv rfl (by first | rfl | (have q9 : decide (0 < (k : Int)) = false := s54; rw [q9]; rfl) | (have q9 : decide (0 < (k : Int)) = true := s54; rw [q9]; rfl))) rfl rfl) (fun w h => h)
            ·
              refine cw_cond rfl (fun c62 => ?_) (fun c62 => ?_)
              ·
                simp only [Bool.and_eq_true, decide_eq_true_eq] at c62
                obtain ⟨hk0, hk1⟩ := c62
                refine cw_skip ?_
                refine qw_seq ?_
                refine cw_block ?_
                refine cw_region ?_
                refine ow_val rfl rfl (ex_move rfl) ?_
                refine ow_val rfl rfl (ex_subi (z := ((k - 1 : Nat) : Int)) rfl rfl (by omega) (by omega) (by omega)) ?_
                refine ow_val rfl rfl (ex_assign rfl) ?_
                refine ow_nil ?_
                refine qw_block_normal ?_
                exact qw_roundS (k - 1) (by omega) (subL_cons (lkv rfl (by first | rfl | simp)) (subL_cons (lkv rfl (by first | rfl | simp)) (subL_cons (lkv rfl (by first | rfl | simp)) (subL_cons (lkv rfl (by first | rfl | simp)) (subL_cons (lkv rfl (by first | rfl | simp)) (subL_cons (lkv rfl (by first | rfl | simp)) (subL_nil _))))))) ⟨by omega, fun j h1 h2 => by
                  by_cases e9 : j = k - 1
                  · subst e9; exact hk1
                  · exact hge j (by omega) h2⟩
              ·
                have hlt : k = 0 ∨ zs.getD (k - 1) 0 < (numB (((d.drop i).drop 2).take 8)).1 := by
                  simp only [Bool.and_eq_false_iff, decide_eq_false_iff_not] at c62; omega
                refine cw_exit ?_
                refine qw_then_exit ?_
                refine qw_then_exit ?_
                refine qw_block_exit ?_
                refine qw_seq ?_
                refine cw_seq ?_
                refine cw_cut1 76 (.bool (decide ((k : Int) < (zs.length : Int)) && decide (zs.getD k 0 = (numB (((d.drop i).drop 2).take 8)).1))) ?_ ?_
                ·
                  refine cw_region ?_
                  refine ow_val rfl rfl (ex_move rfl) ?_
                  refine ow_val rfl rfl (ex_move rfl) ?_
                  refine ow_val rfl rfl (ex_len (ty := 0) rfl) ?_
                  refine ow_val rfl rfl (ex_lss rfl rfl) ?_
                  refine ow_val rfl rfl (ex_move rfl) ?_
                  refine ow_split (g := some (4, true)) rfl (fun s69 => ?_) (fun s69 => ?_)
                  ·
                    have hk0 : k < zs.length := by have := of_decide_eq_true s69; omega
                    obtain ⟨ba, oa, rfl, hca⟩ := hsz.resolve_left (fun hz => by subst hz; simp at hk0)
                    refine ow_val rfl (gd_go rfl s69) (ex_move rfl) ?_
                    refine ow_val rfl (gd_go rfl s69) (ex_move rfl) ?_
                    refine ow_val rfl (gd_go rfl s69) (ex_index_nat (i := k) rfl rfl (by omega)) ?_
                    refine ow_val rfl (gd_go rfl s69) (ex_load1 rfl (ld_imm1 (hca.intD (i := k) (by omega)))) ?_
                    refine ow_val rfl (gd_go rfl s69) (ex_move rfl) ?_
                    refine ow_val rfl (gd_go rfl s69) (ex_eql rfl rfl) ?_
                    refine ow_val rfl rfl (ex_pickt rfl s69 rfl) ?_
                    refine ow_nil ?_
                    exact qw_meet (subL_meet 12 76 (lkv rfl (by first | rfl | (have q9 : decide ((k : Int) < (zs.length : Int)) = false := s69; rw [q9]; rfl) | (have q9 : decide ((k : Int) < (zs.length : Int)) = true := s69; rw [q9]; rfl))) rfl rfl) (fun w h => h)
                  ·
                    refine ow_skip rfl (gd_no rfl s69) ?_
                    refine ow_skip rfl (gd_no rfl s69) ?_
                    refine ow_skip rfl (gd_no rfl s69) ?_
                    refine ow_skip rfl (gd_no rfl s69) ?_
                    refine ow_skip rfl (gd_no rfl s69) ?_
                    refine ow_skip rfl (gd_no rfl s69) ?_
                    refine ow_val rfl rfl (ex_pickf rfl s69 rfl) ?_
                    refine ow_nil ?_
                    exact qw_meet (subL_meet 12 76 (lkv rfl (by first | rfl | (have q9 : decide ((k : Int) < (zs.length : Int)) = false := s69; rw [q9]; rfl) | (have q9 : decide ((k : Int) < (zs.length : Int)) = true := s69; rw [q9]; rfl))) rfl rfl) (fun w h => h)
                ·
                  refine cw_cond rfl (fun c76 => ?_) (fun c76 => ?_)
                  ·
                    simp only [Bool.and_eq_true, decide_eq_true_eq] at c76
                    have hin : (numB (((d.drop i).drop 2).take 8)).1 ∈ zs := by
                      rw [← c76.2, List.getD_eq_getElem?_getD, List.getElem?_eq_getElem (by omega)]; exact List.getElem_mem _
                    refine cw_exit ?_
                    refine qw_then_exit ?_
                    refine qw_block_exit ?_
                    refine qw_seq ?_
                    refine cw_region ?_
                    refine ow_val rfl rfl (ex_move rfl) ?_
                    refine ow_val rfl rfl (ex_addi (z := ((i + 1 : Nat) : Int)) rfl rfl (by omega) (by omega) (by omega)) ?_
                    refine ow_val rfl rfl (ex_assign rfl) ?_
                    refine ow_nil ?_
                    exact qw_round5 (i + 1) zs q cz τ (by omega) (subL_cons (lkv rfl (by first | rfl | simp)) (subL_cons (lkv rfl (by first | rfl | simp)) (subL_cons (lkv rfl (by first | rfl | simp)) (subL_cons (lkv rfl (by first | rfl | simp)) (subL_nil _))))) ⟨by omega, hlj, hfj, hcz, hsz, hpw, by
                      intro x
                      rw [← hmem x, hmh, show (d.drop i).drop 1 = d.drop (i + 1) from by rw [List.drop_drop], List.mem_cons]
                      constructor
                      · rintro (h | h)
                        · exact .inl h
                        · exact .inr (.inr h)
                      · rintro (h | h | h)
                        · exact .inl h
                        · exact .inl (h ▸ hin)
                        · exact .inr h⟩ (fun w h => h)
                  ·
                    have hins := ins_facts hpw hlek hge hlt (fun hc => by rw [decide_eq_true (show (k : Int) < (zs.length : Int) by omega), decide_eq_true hc.2] at c76; cases c76)
                    refine cw_skip ?_
                    refine qw_seq ?_
                    refine cw_seq ?_
                    refine cw_region ?_
                    refine ow_slit rfl rfl exw_slit0 ?_; intro b77
                    refine ow_mono (fun w h => h.toG) ?_
                    refine ow_val rfl rfl (ex_move rfl) ?_
                    refine ow_val rfl rfl (ex_move rfl) ?_
                    refine ow_val rfl rfl (ex_slice_hi (j := k) rfl rfl (by omega)) ?_
                    refine ow_app1 rfl rfl (exw_append1 (news := (intsV zs).take (k * 1)) rfl rfl (OwnSl.lit0 3 1 b77) (by rw [List.length_take, intsV_len]; omega) ?_ (fun u hu => intsV_one u (List.mem_of_mem_take hu)) (by unfold maxLen; omega) (by omega)) (fun v81 G81 hO81 hz81 => ?_)
                    · rcases hsz with h0 | ⟨b, f, hp, hca⟩
                      · left; subst h0; simp at hlek; exact hlek
                      · right; exact ⟨b, f, hp, fun w h => (hca.take _).range h.im⟩
                    refine ow_val rfl rfl (ex_assign rfl) ?_
                    refine ow_nil ?_
                    refine qw_seq ?_
                    refine cw_seq ?_
                    refine cw_region ?_
                    refine ow_val rfl rfl (ex_move rfl) ?_
                    refine ow_val rfl rfl (ex_move rfl) ?_
                    refine ow_slit rfl rfl (exw_slit1 rfl rfl) ?_; intro b84
                    refine ow_app1 rfl rfl (exw_append1 (news := [.int .i64 (numB (((d.drop i).drop 2).take 8)).1]) rfl rfl hO81 rfl (.inr ⟨_, _, rfl, (ld_ownN (k := 1) 0 rfl rfl).2⟩) (fun u hu => by simp at hu; subst hu; rfl) (by unfold maxLen; omega) (by omega)) (fun v85 G85 hO85 hz85 => ?_)
                    refine ow_val rfl rfl (ex_assign rfl) ?_
                    refine ow_nil ?_
                    refine qw_seq ?_
                    refine cw_region ?_
                    refine ow_val rfl rfl (ex_move rfl) ?_
                    refine ow_val rfl rfl (ex_move rfl) ?_
                    refine ow_val rfl rfl (ex_move rfl) ?_
                    refine ow_val rfl rfl (ex_slice_lo (i := k) rfl rfl (by omega) hcz) ?_
                    refine ow_app1 rfl rfl (exw_append1 (news := (intsV zs).drop (k * 1)) rfl rfl hO85 (by rw [List.length_drop, intsV_len]; omega) ?_ (fun u hu => intsV_one u (List.mem_of_mem_drop hu)) (by unfold maxLen; omega) (by omega)) (fun v90 G90 hO90 hz90 => ?_)
                    · rcases hsz with h0 | ⟨b, f, hp, hca⟩
                      · left; subst h0; simp
                      · by_cases hlast : zs.length - k = 0
                        · exact .inl hlast
                        · right; rw [if_neg (by omega), hp]; exact ⟨b, f + k * 1, by simp [addr_add], fun w h => (hca.drop _).range h.im⟩
                    have hO90' : OwnSl 3 1 v90 (0 + k + 1 + (zs.length - k)) (intsV (zs.take k ++ [(numB (((d.drop i).drop 2).take 8)).1] ++ zs.drop k)) G90 := by
                      have e9 : intsV (zs.take k ++ [(numB (((d.drop i).drop 2).take 8)).1] ++ zs.drop k) = [] ++ (intsV zs).take (k * 1) ++ [.int .i64 (numB (((d.drop i).drop 2).take 8)).1] ++ (intsV zs).drop (k * 1) := by simp [intsV]
                      rw [e9]; exact hO90
                    refine ow_frzI (fun _ h => h) hO90' (fun σ6 hl6 hf6 hi6 => ?_)
                    obtain ⟨q6, c6, rfl, hcz6, hsz6⟩ := hi6
                    refine ow_val rfl rfl (ex_assign rfl) ?_
                    refine ow_nil ?_
                    refine qw_block_normal ?_
                    refine qw_seq ?_
                    refine cw_region ?_
                    refine ow_val rfl rfl (ex_move rfl) ?_
                    refine ow_val rfl rfl (ex_addi (z := ((i + 1 : Nat) : Int)) rfl rfl (by omega) (by omega) (by omega)) ?_
                    refine ow_val rfl rfl (ex_assign rfl) ?_
                    refine ow_nil ?_
                    exact qw_round5 (i + 1) (zs.take k ++ [(numB (((d.drop i).drop 2).take 8)).1] ++ zs.drop k) q6 c6 σ6 (by omega) (subL_cons (lkv rfl (by first | rfl | simp)) (subL_cons (lkv rfl (by first | rfl | simp)) (subL_cons (lkv rfl (by first | rfl | simp)) (subL_cons (lkv rfl (by first | rfl | simp)) (subL_nil _))))) ⟨by omega, hlj.trans hl6, hfj.trans hf6, hcz6, hsz6, hins.1, by
                      intro x
                      rw [← hmem x, hmh, show (d.drop i).drop 1 = d.drop (i + 1) from by rw [List.drop_drop], List.mem_cons, hins.2]
                      constructor
                      · rintro ((h | h) | h)
                        · exact .inr (.inl h)
                        · exact .inl h
                        · exact .inr (.inr h)
                      · rintro (h | h | h)
                        · exact .inl (.inr h)
                        · exact .inl (.inl h)
                        · exact .inr h⟩ (fun w h => h.drop (List.nil_sublist _))
  ·
    have h10 : d.length < i + 10 := by have := of_decide_eq_false c15; omega
    refine cw_exit ?_
    refine qw_then_exit ?_
    refine qw_then_exit ?_
    refine qw_block_exit ?_
    refine qw_seq ?_
    refine cw_seq ?_
    refine cw_region ?_
    refine ow_val rfl rfl (ex_move rfl) ?_
    refine ow_val rfl rfl (ex_assign rfl) ?_
    refine ow_nil ?_
    refine qw_seq ?_
    refine cw_ret ?_
    refine qw_ret1 rfl rfl (fun w' h => h.gives hlj hfj ?_)
    rw [← mentS_is hpw (fun x => by rw [← hmem x, mentL_short (by rw [List.length_drop]; omega)]; simp)]
    exact ⟨_, _, rfl, hcz, hsz⟩
end Go.Proofs.YtnjomdjkbbhdoaaGreatDoor
namespace Go.Proofs.YtnjomdjkbbhdoaaGreatDoor
set_option linter.unusedVariables false
set_option linter.unusedSimpArgs false
structure Item where
  op : Int
  kids : List Int
  ments : List Int
def hadAt (had : List Bool) (z : Int) : Bool := had.getD z.toNat false
def allB (had : List Bool) (zs : List Int) : Bool := zs.all (hadAt had)
def lessV (l : List Int) : List Int → Option (List Int)
  | [] => some l
  | n :: r => if n ∈ l then lessV (l.erase n) r else none
def lessB (had : List Bool) (x y : List Int) : Bool := match lessV x y with | some r => allB had r | none => false
def powB (had : List Bool) (x : Item) : Nat → List Item → Bool
  | _, [] => false
  | n, y :: r => (decide (y.op = 7) && had.getD n false && lessB had x.kids y.kids) || powB had x (n + 1) r
def powerB (its : List Item) (had : List Bool) (x : Item) : Bool := powB had x 0 its || allB had x.kids
def madeB (its : List Item) (had : List Bool) (x : Item) : Bool := if x.op = 1 then false else if x.op = 7 then powerB its had x else allB had x.kids && allB had x.ments
def HadLe (a b : List Bool) : Prop := ∀ n, a.getD n false = true → b.getD n false = true
theorem HadLe.refl (a : List Bool) : HadLe a a := fun _ h => h
theorem HadLe.trans {a b c : List Bool} (h : HadLe a b) (k : HadLe b c) : HadLe a c := fun n hn => k n (h n hn)
theorem allB_mono {a b : List Bool} (h : HadLe a b) {zs : List Int} (ha : allB a zs = true) : allB b zs = true := by
  unfold allB hadAt at *
  rw [List.all_eq_true] at *
  exact fun z hz => h _ (ha z hz)
theorem lessB_mono {a b : List Bool} (h : HadLe a b) {x y : List Int} (ha : lessB a x y = true) : lessB b x y = true := by
  unfold lessB at *
  split at ha
  · rename_i r e; exact allB_mono h ha
  · cases ha
theorem powB_mono {a b : List Bool} (h : HadLe a b) {x : Item} : ∀ {l : List Item} {n : Nat}, powB a x n l = true → powB b x n l = true
  | [], n, ha => ha
  | y :: r, n, ha => by
    simp only [powB, Bool.or_eq_true, Bool.and_eq_true] at *
    rcases ha with ⟨⟨h1, h2⟩, h3⟩ | h4
    · exact .inl ⟨⟨h1, h n h2⟩, lessB_mono h h3⟩
    · exact .inr (powB_mono h h4)
theorem madeB_mono {its : List Item} {a b : List Bool} (h : HadLe a b) {x : Item} (ha : madeB its a x = true) : madeB its b x = true := by
  unfold madeB powerB at *
  split at ha
  · cases ha
  · rename_i h1
    rw [if_neg h1]
    split at ha
    · rename_i h2
      rw [if_pos h2]
      simp only [Bool.or_eq_true] at *
      exact ha.imp (powB_mono h) (allB_mono h)
    · rename_i h2
      rw [if_neg h2]
      simp only [Bool.and_eq_true] at *
      exact ⟨allB_mono h ha.1, allB_mono h ha.2⟩
def Closed (its : List Item) (had : List Bool) : Prop := ∀ n (h : n < its.length), (madeB its had its[n] = true → had.getD n false = true) ∧
  (its[n].op = 4 → had.getD n false = true → allB had its[n].kids = true → ∀ m ∈ its[n].ments, hadAt had m = true)
def KnownIn (known : List Int) (had : List Bool) : Prop := ∀ k ∈ known, 0 ≤ k → k < had.length → hadAt had k = true
def Had (its : List Item) (known : List Int) (n : Nat) : Prop := ∀ had : List Bool, had.length = its.length → Closed its had → KnownIn known had → had.getD n false = true
def Sound (its : List Item) (known : List Int) (had : List Bool) : Prop := had.length = its.length ∧ ∀ n, had.getD n false = true → Had its known n
theorem Sound.le {its : List Item} {known : List Int} {had b : List Bool} (h : Sound its known had) (h1 : b.length = its.length) (h2 : Closed its b) (h3 : KnownIn known b) : HadLe had b := fun n hn => h.2 n hn b h1 h2 h3
theorem Sound.made {its : List Item} {known : List Int} {had : List Bool} (h : Sound its known had) {n : Nat} (hn : n < its.length) (hm : madeB its had its[n] = true) : Had its known n := fun b h1 h2 h3 =>
  (h2 n hn).1 (madeB_mono (h.le h1 h2 h3) hm)
theorem Sound.opened {its : List Item} {known : List Int} {had : List Bool} (h : Sound its known had) {n : Nat} (hn : n < its.length) (ho : its[n].op = 4) (hh : had.getD n false = true) (hk : allB had its[n].kids = true) {m : Int} (hm : m ∈ its[n].ments) : Had its known m.toNat := fun b h1 h2 h3 =>
  (h2 n hn).2 ho (h.le h1 h2 h3 n hh) (allB_mono (h.le h1 h2 h3) hk) m hm
theorem getD_set {had : List Bool} {n k : Nat} (hn : n < had.length) : (had.set n true).getD k false = (decide (k = n) || had.getD k false) := by
  simp only [List.getD_eq_getElem?_getD, List.getElem?_set]
  by_cases h : n = k
  · subst h; simp [hn]
  · simp [h, Ne.symm h]
theorem Sound.set {its : List Item} {known : List Int} {had : List Bool} (h : Sound its known had) {n : Nat} (hn : Had its known n) : Sound its known (had.set n true) := by
  refine ⟨by simp [h.1], fun k hk => ?_⟩
  by_cases hl : n < had.length
  · rw [getD_set hl] at hk
    simp only [Bool.or_eq_true, decide_eq_true_eq] at hk
    rcases hk with rfl | hk
    · exact hn
    · exact h.2 k hk
  · rw [List.set_eq_of_length_le (by omega)] at hk
    exact h.2 k hk
theorem HadLe.set (had : List Bool) (n : Nat) : HadLe had (had.set n true) := fun k hk => by
  by_cases hl : n < had.length
  · rw [getD_set hl, hk]; simp
  · rw [List.set_eq_of_length_le (by omega)]; exact hk
def outB : Nat → List Bool → List Int
  | _, [] => []
  | n, b :: r => if b = true then (n : Int) :: outB (n + 1) r else outB (n + 1) r
theorem outB_mem : ∀ {had : List Bool} {n : Nat} {x : Int}, x ∈ outB n had ↔ ∃ k : Nat, x = ((n + k : Nat) : Int) ∧ had.getD k false = true
  | [], n, x => by simp [outB]
  | b :: r, n, x => by
    have ih := outB_mem (had := r) (n := n + 1) (x := x)
    have step : (∃ k : Nat, x = ((n + k : Nat) : Int) ∧ (b :: r).getD k false = true) ↔ (x = (n : Int) ∧ b = true) ∨ ∃ k : Nat, x = ((n + 1 + k : Nat) : Int) ∧ r.getD k false = true := by
      constructor
      · rintro ⟨k, h1, h2⟩
        cases k with
        | zero => exact .inl ⟨h1, by simpa using h2⟩
        | succ k => exact .inr ⟨k, by rw [h1]; congr 1; omega, by simpa using h2⟩
      · rintro (⟨h1, h2⟩ | ⟨k, h1, h2⟩)
        · exact ⟨0, h1, by simpa using h2⟩
        · exact ⟨k + 1, by rw [h1]; congr 1; omega, by simpa using h2⟩
    rw [step, outB]
    split
    · rename_i hb
      rw [List.mem_cons, ih]
      simp [hb]
    · rename_i hb
      rw [ih]
      simp [hb]
theorem outB_asc : ∀ (had : List Bool) (n : Nat), (outB n had).Pairwise (· < ·) ∧ ∀ x ∈ outB n had, (n : Int) ≤ x
  | [], n => by simp [outB]
  | b :: r, n => by
    obtain ⟨h1, h2⟩ := outB_asc r (n + 1)
    rw [outB]
    split
    · refine ⟨List.pairwise_cons.2 ⟨fun y hy => ?_, h1⟩, fun x hx => ?_⟩
      · have := h2 y hy; omega
      · rcases List.mem_cons.1 hx with h | h
        · omega
        · have := h2 x h; omega
    · exact ⟨h1, fun x hx => by have := h2 x hx; omega⟩
theorem outB_app : ∀ (a b : List Bool) (n : Nat), outB n (a ++ b) = outB n a ++ outB (n + a.length) b
  | [], b, n => by simp [outB]
  | x :: a, b, n => by
    have := outB_app a b (n + 1)
    simp only [List.cons_append, outB, this, List.length_cons, show n + 1 + a.length = n + (a.length + 1) by omega]
    split <;> simp
def Clos (its : List Item) (known zs : List Int) : Prop := zs.Pairwise (· < ·) ∧ ∀ x, x ∈ zs ↔ ∃ k : Nat, k < its.length ∧ x = (k : Int) ∧ Had its known k
theorem clos_out {its : List Item} {known : List Int} {had : List Bool} (h : Sound its known had) (hc : Closed its had) (hk : KnownIn known had) : Clos its known (outB 0 had) := by
  refine ⟨(outB_asc had 0).1, fun x => outB_mem.trans ?_⟩
  constructor
  · rintro ⟨k, h1, h2⟩
    refine ⟨k, ?_, by rw [h1]; congr 1; omega, h.2 k h2⟩
    rw [← h.1]
    rcases Nat.lt_or_ge k had.length with h3 | h3
    · exact h3
    · rw [List.getD_eq_getElem?_getD, List.getElem?_eq_none h3] at h2; cases h2
  · rintro ⟨k, h1, h2, h3⟩
    exact ⟨k, by rw [h2]; congr 1; omega, h3 had h.1 hc hk⟩
theorem Clos.uniq {its : List Item} {known a b : List Int} (ha : Clos its known a) (hb : Clos its known b) : a = b := strict_eq ha.1 hb.1 fun x => (ha.2 x).trans (hb.2 x).symm
theorem hadAt_nat {had : List Bool} {k : Nat} : hadAt had (k : Int) = had.getD k false := by simp [hadAt]
theorem not_had {its : List Item} {known : List Int} {n : Nat} (had : List Bool) (h1 : had.length = its.length) (h2 : Closed its had) (h3 : KnownIn known had) (h : had.getD n false = false) : ¬ Had its known n := fun hc => by
  have := hc had h1 h2 h3
  rw [h] at this; cases this
theorem had_known {its : List Item} {known : List Int} {n : Nat} (h : (n : Int) ∈ known) (hn : n < its.length) : Had its known n := fun b h1 h2 h3 => by
  have := h3 n h (by omega) (by omega)
  rwa [hadAt_nat] at this
def left (had : List Bool) : Nat := had.countP (· == false)
theorem left_set {had : List Bool} {n : Nat} (hn : n < had.length) (h : had.getD n false = false) : left (had.set n true) < left had := by
  induction had generalizing n with
  | nil => simp at hn
  | cons b r ih =>
    cases n with
    | zero =>
      simp at h; subst h
      simp [left]
    | succ n =>
      have := ih (n := n) (by simpa using hn) (by simpa using h)
      unfold left at *
      simp only [List.set_cons_succ, List.countP_cons]
      omega
theorem left_le {a b : List Bool} (hl : a.length = b.length) (h : HadLe a b) : left b ≤ left a := by
  induction a generalizing b with
  | nil => cases b with
    | nil => simp
    | cons => simp at hl
  | cons x r ih =>
    cases b with
    | nil => simp at hl
    | cons y s =>
      have h1 := ih (b := s) (by simpa using hl) (fun n hn => by simpa using h (n + 1) (by simpa using hn))
      have h2 := h 0
      simp only [List.getD_cons_zero] at h2
      unfold left at *
      simp only [List.countP_cons]
      cases x <;> cases y <;> simp at * <;> omega
theorem left_lt {a b : List Bool} (hl : a.length = b.length) (h : HadLe a b) {n : Nat} (h1 : a.getD n false = false) (h2 : b.getD n false = true) : left b < left a := by
  have hn : n < a.length := by
    rw [hl]
    rcases Nat.lt_or_ge n b.length with h3 | h3
    · exact h3
    · rw [List.getD_eq_getElem?_getD, List.getElem?_eq_none h3] at h2; cases h2
  have h4 := left_set hn h1
  have h5 : HadLe (a.set n true) b := fun k hk => by
    rw [getD_set hn] at hk
    simp only [Bool.or_eq_true, decide_eq_true_eq] at hk
    rcases hk with rfl | hk
    · exact h2
    · exact h k hk
  have := left_le (a := a.set n true) (b := b) (by simpa using hl) h5
  omega
end Go.Proofs.YtnjomdjkbbhdoaaGreatDoor
namespace Go.Proofs.YtnjomdjkbbhdoaaGreatDoor
open Go.RowKit Go.Sort
set_option linter.unusedVariables false
set_option linter.unusedSimpArgs false
def idxP (p : Int → Bool) (zs : List Int) : Int := if zs.any p = true then ((zs.findIdx p : Nat) : Int) else -1
theorem idxP_at {p : Int → Bool} {zs : List Int} {i : Nat} (hi : i < zs.length) (h : p zs[i] = true) (hz : ∀ j (h : j < zs.length), j < i → p zs[j] = false) : idxP p zs = (i : Int) := by
  unfold idxP
  rw [if_pos (List.any_eq_true.2 ⟨zs[i], List.getElem_mem hi, h⟩)]
  congr 1
  exact (List.findIdx_eq hi).2 ⟨h, fun j hj => hz j (by omega) hj⟩
theorem idxP_none {p : Int → Bool} {zs : List Int} (hz : ∀ j (h : j < zs.length), p zs[j] = false) : idxP p zs = -1 := by
  unfold idxP
  rw [if_neg]
  intro h
  obtain ⟨x, h1, h2⟩ := List.any_eq_true.1 h
  obtain ⟨j, hj, rfl⟩ := List.mem_iff_getElem.1 h1
  rw [hz j hj] at h2; cases h2
theorem idxP_any (p : Int → Bool) (zs : List Int) : decide (0 ≤ idxP p zs) = zs.any p := by
  unfold idxP
  by_cases h : zs.any p = true
  · rw [if_pos h, h]; exact decide_eq_true (by omega)
  · rw [if_neg h]
    have : zs.any p = false := by simpa using h
    rw [this]; rfl
theorem idxP_ge {p : Int → Bool} {zs : List Int} (h : 0 ≤ idxP p zs) : zs.any p = true := by
  rw [← idxP_any]; exact decide_eq_true h
theorem idxP_del {zs : List Int} {n : Int} (h : n ∈ zs) : ∃ i : Nat, idxP (fun z => decide (n = z)) zs = (i : Int) ∧ i < zs.length ∧ zs.take i ++ zs.drop (i + 1) = zs.erase n := by
  have ha : zs.any (fun z => decide (n = z)) = true := List.any_eq_true.2 ⟨n, h, by simp⟩
  have e : zs.findIdx (fun z => decide (n = z)) = zs.idxOf n := by
    unfold List.idxOf
    congr 1
    funext z
    rw [Bool.eq_iff_iff]
    simp only [beq_iff_eq, decide_eq_true_eq]
    exact eq_comm
  refine ⟨zs.idxOf n, by unfold idxP; rw [if_pos ha, e], List.idxOf_lt_length_of_mem h, ?_⟩
  rw [← List.eraseIdx_eq_take_drop_succ, List.erase_eq_eraseIdx_of_idxOf rfl]
theorem any_mem {zs : List Int} {n : Int} : zs.any (fun z => decide (n = z)) = decide (n ∈ zs) := by
  rw [Bool.eq_iff_iff, List.any_eq_true, decide_eq_true_eq]
  constructor
  · rintro ⟨x, h1, h2⟩
    rw [of_decide_eq_true h2]; exact h1
  · intro h; exact ⟨n, h, by simp⟩
section
variable {w0 w : World} {M : Nat → Prop} {σ : Hp} {H Gs Gr : List (Nat × Obj)} {e n : Nat} {v : Value} {zs : List Int}
theorem pDelI {i : Nat} (hi : i < zs.length) (hO : OwnSl e 1 v n (intsV zs) Gs) (hs : St w0 M σ H (Gs ++ Gr) w) :
    Calls Tryz.prog 151 #[v, .int .i64 i, .int .i64 ((i + 1 : Nat) : Int)] w fun en w' => ∃ u, en = .returned u ∧ ∃ Gs', OwnSl e 1 u (zs.length - 1) (intsV (zs.take i ++ zs.drop (i + 1))) Gs' ∧ St w0 M σ H (Gs' ++ Gr) w' := by
  have hn : zs.length = n := by have := hO.1; simpa [intsV] using this
  subst hn
  rcases hO.2 with ⟨rfl, h0, rfl⟩ | ⟨g, c, cur, rfl, rfl, h2, h3, h4, h5⟩
  · omega
  · have h5' : cur.toList.take zs.length = intsV zs := by simpa using h5
    have hsz : zs.length ≤ cur.size := by omega
    refine (Tryz.slices_Delete_int g 0 c i (i + 1) zs w (holds_row (Gr := Gr) (by simpa using hs) h5') h2 (by unfold maxLen at h3; omega) (by omega) (by omega)).mono fun en w' ⟨he, q, hw⟩ => ?_
    subst hw
    have hst := st_row (q := q) (d := (zs.take i ++ zs.drop (i + 1) ++ List.replicate (i + 1 - i) 0).toArray) (os := #[]) (Gr := Gr) (by simpa using hs)
    rw [grow_empty] at hst
    have hl : (zs.take i ++ zs.drop (i + 1)).length = zs.length - 1 := by simp; omega
    have e1 : i + 1 - i = 1 := by omega
    rw [show zs.length - (i + 1 - i) = zs.length - 1 by rw [e1]] at he
    refine ⟨_, he, _, ⟨by simp [intsV]; omega, .inr ⟨g, c, _, rfl, rfl, by omega, h3, by rw [putCells_size]; exact h4, ?_⟩⟩, hst⟩
    have := putCells_take (l := zs.take i ++ zs.drop (i + 1) ++ List.replicate (i + 1 - i) 0) (cur := cur) (by rw [e1]; simp; omega)
    have h6 := congrArg (List.take (zs.length - 1)) this
    rw [List.take_take] at h6
    simp only [List.length_append, List.length_replicate] at h6
    rw [Nat.min_eq_left (by rw [e1]; simp; omega), intsV_app, List.take_left' (by rw [intsV_len, hl])] at h6
    simpa using h6
theorem pDelI1 {i : Nat} (hi : i < zs.length) (hO : OwnSl e 1 v n (intsV zs) Gs) (hs : St w0 M σ H Gs w) :
    Calls Tryz.prog 151 #[v, .int .i64 i, .int .i64 ((i + 1 : Nat) : Int)] w fun en w' => ∃ u, en = .returned u ∧ ∃ Gs', OwnSl e 1 u (zs.length - 1) (intsV (zs.take i ++ zs.drop (i + 1))) Gs' ∧ St w0 M σ H Gs' w' := by
  simpa using pDelI (Gr := []) hi hO (by simpa using hs)
end
def RepL (o : Option (List Int)) (σ : Hp) (u : Value) : Prop := ∃ v, u = .tuple #[v, .bool o.isSome] ∧ IntsV σ v (o.getD [])
instance (o : Option (List Int)) : MonoR (RepL o) := ⟨fun hl ⟨v, e, h⟩ => ⟨v, e, h.le hl⟩⟩
theorem CellsAt.fld {σ : Hp} {b o : Nat} {xs : List Value} (h : CellsAt σ b o xs) {i : Nat} {v : Value} (hv : xs[i]? = some v) : CellsAt σ b (o + i) [v] := by
  obtain ⟨arr, ty, fz, h1, h2⟩ := h
  refine ⟨arr, ty, fz, h1, fun j u hj => ?_⟩
  cases j with
  | zero =>
    simp at hj; subst hj
    simpa using h2 i v hv
  | succ j => simp at hj
theorem OwnSl.view {w0 w : World} {M : Nat → Prop} {σ : Hp} {H Gs : List (Nat × Obj)} {e n : Nat} {v : Value} {zs : List Int} (hO : OwnSl e 1 v n (intsV zs) Gs) (hs : St w0 M σ H Gs w) : ∃ σ', Le σ σ' ∧ Imm σ' w ∧ IntsV σ' v zs := by
  have hn : zs.length = n := by have := hO.1; simpa [intsV] using this
  subst hn
  rcases hO.2 with ⟨rfl, h0, rfl⟩ | ⟨g, c, cur, rfl, rfl, h2, h3, h4, h5⟩
  · obtain rfl := List.eq_nil_of_length_eq_zero h0
    exact ⟨σ, Le.refl _, hs.im, IntsV.nil _⟩
  · have hs1 : St w0 M σ ((g, .cells cur e (0, 0)) :: H) [] w := St.ofG (G := []) hs
    refine ⟨ext σ g (.cells cur e (0, 0)), le_ext (hs1.fresh (p := (g, .cells cur e (0, 0))) (by simp)), hs1.freeze.im, _, c, rfl, h2, .inr ⟨g, 0, rfl, cur, e, (0, 0), ext_self _ _ _, fun j u hj => ?_⟩⟩
    rw [← h5, List.getElem?_take] at hj
    split at hj
    · simpa using hj
    · cases hj
def ItemC (σ : Hp) (cs : List Value) (x : Item) : Prop := ∃ kv mv, cs = [.int .i64 x.op, kv, mv] ∧ IntsV σ kv x.kids ∧ IntsV σ mv x.ments
theorem ItemC.le {σ τ : Hp} (hl : Le σ τ) {cs : List Value} {x : Item} (h : ItemC σ cs x) : ItemC τ cs x := by
  obtain ⟨kv, mv, e, h1, h2⟩ := h
  exact ⟨kv, mv, e, h1.le hl, h2.le hl⟩
def ItemsV (σ : Hp) (v : Value) (its : List Item) : Prop := ∃ p c, v = .slice p its.length c ∧ its.length ≤ c ∧ (its = [] ∨ ∃ b o, p = some ⟨b, o, none⟩ ∧ ∀ i (h : i < its.length), ∃ cs, CellsAt σ b (o + i * 3) cs ∧ ItemC σ cs its[i])
theorem ItemsV.le {σ τ : Hp} (hl : Le σ τ) {v : Value} {its : List Item} (h : ItemsV σ v its) : ItemsV τ v its := by
  obtain ⟨p, c, e, h1, h2⟩ := h
  exact ⟨p, c, e, h1, h2.imp id fun ⟨b, o, e1, k⟩ => ⟨b, o, e1, fun i hi => let ⟨cs, k1, k2⟩ := k i hi; ⟨cs, k1.le hl, k2.le hl⟩⟩⟩
def boolsV (had : List Bool) : List Value := had.map Value.bool
def EngC (σ : Hp) (be hb : Nat) (its : List Item) (had : List Bool) : Prop := ∃ iv c, CellsAt σ be 0 [iv, .slice (some ⟨hb, 0, none⟩) had.length c] ∧ ItemsV σ iv its ∧ CellsAt σ hb 0 (boolsV had)
theorem EngC.le {σ τ : Hp} (hl : Le σ τ) {be hb : Nat} {its : List Item} {had : List Bool} (h : EngC σ be hb its had) : EngC τ be hb its had := by
  obtain ⟨iv, c, h1, h2, h3⟩ := h
  exact ⟨iv, c, h1.le hl, h2.le hl, h3.le hl⟩
theorem CellsAt.bool {σ : Hp} {b o : Nat} {had : List Bool} (h : CellsAt σ b o (boolsV had)) {i : Nat} (hi : i < had.length) : CellsAt σ b (o + i * 1) [.bool (had.getD i false)] := by
  obtain ⟨arr, ty, fz, h1, h2⟩ := h
  refine ⟨arr, ty, fz, h1, fun j v hj => ?_⟩
  cases j with
  | zero =>
    simp at hj; subst hj
    simpa using h2 i _ (by simp [boolsV, List.getElem?_eq_getElem hi])
  | succ j => simp at hj
structure ItsOK (its : List Item) : Prop where
  len : its.length ≤ 4096
  kl : ∀ x ∈ its, x.kids.length ≤ 4
  ml : ∀ x ∈ its, x.ments.length ≤ 8192
  kv : ∀ x ∈ its, ∀ z ∈ x.kids, 0 ≤ z ∧ z < (its.length : Int)
  mv : ∀ x ∈ its, ∀ z ∈ x.ments, 0 ≤ z ∧ z < (its.length : Int)
theorem allB_any (had : List Bool) (zs : List Int) : (!zs.any fun z => !hadAt had z) = allB had zs := by
  unfold allB
  rw [Bool.eq_iff_iff]
  simp
theorem IntsV.one {σ : Hp} {v : Value} {zs : List Int} (h : IntsV σ v zs) : v.oneCell' = true := by
  obtain ⟨p, c, rfl, _⟩ := h; rfl
theorem ItemC.one {σ : Hp} {cs : List Value} {x : Item} (h : ItemC σ cs x) : ∀ u ∈ cs, u.oneCell' = true := by
  obtain ⟨kv, mv, rfl, h1, h2⟩ := h
  intro u hu
  simp only [List.mem_cons, List.not_mem_nil, or_false] at hu
  rcases hu with rfl | rfl | rfl
  · rfl
  · exact h1.one
  · exact h2.one
theorem lessV_sub : ∀ {ns zs rs : List Int}, lessV zs ns = some rs → (∀ z ∈ rs, z ∈ zs) ∧ rs.length ≤ zs.length
  | [], zs, rs, h => by
    cases h
    exact ⟨fun z hz => hz, Nat.le_refl _⟩
  | n :: r, zs, rs, h => by
    rw [lessV] at h
    split at h
    · rename_i hm
      obtain ⟨h1, h2⟩ := lessV_sub h
      have := List.length_erase_of_mem hm
      exact ⟨fun z hz => List.mem_of_mem_erase (h1 z hz), by omega⟩
    · cases h
theorem lessB_some {had : List Bool} {x y rs : List Int} (h : lessV x y = some rs) : lessB had x y = allB had rs := by unfold lessB; rw [h]
theorem lessB_none {had : List Bool} {x y : List Int} (h : (lessV x y).isSome = false) : lessB had x y = false := by
  unfold lessB
  cases e : lessV x y with
  | none => rfl
  | some r => rw [e] at h; cases h
theorem powB_drop {had : List Bool} {x : Item} {its : List Item} {i : Nat} (hi : i < its.length) : powB had x i (its.drop i) = ((decide (its[i].op = 7) && had.getD i false && lessB had x.kids its[i].kids) || powB had x (i + 1) (its.drop (i + 1))) := by
  rw [List.drop_eq_getElem_cons hi, powB]
end Go.Proofs.YtnjomdjkbbhdoaaGreatDoor
namespace Go.Proofs.YtnjomdjkbbhdoaaGreatDoor
open Go.RowKit
set_option linter.unusedVariables false
set_option linter.unusedSimpArgs false
set_option linter.unusedSectionVars false
section
variable [DS] {F : Fence} {nn : Nat} {P : Program} {l0 rest : List Oper} {Q : Exit → Act → World → Prop} {N : Nat} {L : TL} {S : World → Prop} {d : Nat} {ty : TypeId} {pos : String} {af : Array Edge} {g : Option (Nat × Bool)} {op : Op}
def OI (F : Fence) (nn : Nat) (P : Program) (l0 : List Oper) (Q : Exit → Act → World → Prop) (l : List Oper) (N : Nat) (L : TL) (S : World → Prop) : Prop :=
  ∀ a w, Fr N L a → S w → wpListIn F nn P l0.toArray Q l a w
theorem cw_regionI {id : Nat} {l : List Oper} (nn : Nat) (h : OI Fence.wide nn P l Q l N L S) : CW P (.region id l.toArray false) Q N L S := fun a w hf hs => wpIn_wide.1 (wpIn_region_lit (h a w hf hs))
theorem oi_nil (h : QW Q .normal N L S) : OI F nn P l0 Q [] N L S := fun a w hf hs => h a w hf hs
theorem oi_split {g : Option (Nat × Bool)} {b : Bool} {l : List Oper} (hb : gb l0 L g = some b) (ht : b = true → OI F nn P l0 Q l N L S) (hf : b = false → OI F nn P l0 Q l N L S) : OI F nn P l0 Q l N L S := by
  cases b
  · exact hf rfl
  · exact ht rfl
theorem oi_step {o : Oper} (hF : ∀ f, F.fn f) (hg : gd l0 L o.guard = some true) (h : ∀ a w, Fr N L a → S w → o.uponIn F nn P a (wpListIn F nn P l0.toArray Q rest) Q ((o.semAt F.round a.eval).run P w)) : OI F nn P l0 Q (o :: rest) N L S :=
  fun a w hf hs => by
    unfold wpListIn
    rw [if_pos (wanted_of hf hg)]
    exact ⟨fun f _ => hF f, h a w hf hs⟩
theorem oi_skip (hF : ∀ f, F.fn f) (hN : Nat.blt d N = true) (hg : gd l0 L g = some false) (k : OI F nn P l0 Q rest N ((d, undef) :: L) S) : OI F nn P l0 Q (⟨some d, op, ty, pos, af, g⟩ :: rest) N L S :=
  fun a w hf hs => by
    unfold wpListIn
    rw [if_neg (by rw [wanted_of hf hg]; simp)]
    exact ⟨fun f _ => hF f, k _ _ (hf.put _ hN) hs⟩
theorem oi_val {v : Value} (hF : ∀ f, F.fn f) (hd : ∀ c, op ≠ .defer c) (hN : Nat.blt d N = true) (hg : gd l0 L g = some true) (h : Ex P op N L S v) (k : OI F nn P l0 Q rest N ((d, v) :: L) S) :
    OI F nn P l0 Q (⟨some d, op, ty, pos, af, g⟩ :: rest) N L S :=
  oi_step hF hg fun a w hf hs => by
    rw [Oper.semAt_plain F _ _ hd, h a w hf hs]
    exact k _ _ (hf.put _ hN) hs
theorem oi_u {T : World → Prop} (hF : ∀ f, F.fn f) (hd : ∀ c, op ≠ .defer c) (hg : gd l0 L g = some true) (h : ExU P op N L S T) (k : OI F nn P l0 Q rest N L T) :
    OI F nn P l0 Q (⟨none, op, ty, pos, af, g⟩ :: rest) N L S :=
  oi_step hF hg fun a w hf hs => by
    obtain ⟨w', h1, h2⟩ := h a w hf hs none ty pos af g
    rw [Oper.semAt_plain F _ _ hd, h1]
    exact k _ _ hf h2
theorem wide_fn (f : FuncId) : Fence.wide.fn f := trivial
theorem oi_cv {v : Value} [hS : Sta S] (hd : ∀ c, op ≠ .defer c) (hN : Nat.blt d N = true) (hg : gd l0 L g = some true) (h : ExC P op N L S (fun w u w' => u = v ∧ Below w.heap.size w w'))
    (k : OI Fence.wide nn P l0 Q rest N ((d, v) :: L) S) : OI Fence.wide nn P l0 Q (⟨some d, op, ty, pos, af, g⟩ :: rest) N L S :=
  oi_step wide_fn hg fun a w hf hs => by
    obtain ⟨f, args, h1, h2⟩ := h a w hf hs (some d) ty pos af g
    rw [Oper.semAt_plain Fence.wide _ _ hd, h1, Oper.uponIn_enter]
    refine ⟨fun hd' => (by cases hd'), callsIn_wide.2 (Calls.mono h2 ?_)⟩
    rintro e w' ⟨u, rfl, rfl, hb⟩
    exact k _ _ (hf.put _ hN) (hS.keep w w' hs hb)
theorem oi_yield {l : Nat} {x fo : Operand} {ats : Array TypeId} {z : Value} {R : World → Ending → World → Prop} (hN : Nat.blt d N = true) (hg : gd l0 L g = some true) (hfo : ev L fo = some (.func (.yield l) #[] #[])) (hx : ev L x = some z)
    (hY : ∀ w, S w → YieldAt Fence.wide (nn - 1) P l #[z] w (R w)) (hR : ∀ w e w', R w e w' → ∃ b, e = .returned (.bool b))
    (k : ∀ b, OI Fence.wide nn P l0 Q rest N ((d, .bool b) :: L) (fun w' => ∃ w, S w ∧ R w (.returned (.bool b)) w')) :
    OI Fence.wide nn P l0 Q (⟨some d, .call { callee := .value fo, args := #[x], argTypes := ats }, ty, pos, af, g⟩ :: rest) N L S :=
  oi_step wide_fn hg fun a w hf hs => by
    obtain ⟨fn, tmps, assign, body, hy, hr⟩ := hY w hs
    have h1 : (execOp a.eval ⟨some d, .call { callee := .value fo, args := #[x], argTypes := ats }, ty, pos, af, g⟩).run P w = .ok (.round l fn tmps assign body) w := by
      simp [execOp, resolve, invoke, Deferred.ofValue, hf.eval hfo, hf.eval hx, hy]
    rw [Oper.semAt_plain Fence.wide _ _ (fun c h => by cases h), h1, Oper.uponIn_round]
    refine ⟨fun hd' => (by cases hd'), hr.mono ?_⟩
    intro e w' he
    obtain ⟨b, rfl⟩ := hR w e w' he
    exact k b _ _ (hf.put _ hN) ⟨w, hs, he⟩
end
theorem CellsAt.took {σ : Hp} {b o k : Nat} {arr : Array Value} {ty : TypeId} {fz : Nat × Nat} {cs : List Value} (h : σ b = some (.cells arr ty fz)) (hv : takeV (dropV arr.toList o) k = some cs) : CellsAt σ b o cs := by
  obtain ⟨_, h2⟩ := takeV_get hv
  refine ⟨arr, ty, fz, h, fun j v hj => ?_⟩
  have := h2 j v hj
  rw [dropV_eq, List.getElem?_drop] at this
  simpa using this
def hadO (e : Nat) (had : List Bool) : Obj := .cells (boolsV had).toArray e (0, 0)
structure KpE (n₀ hb bm e : Nat) (its : List Item) (known : List Int) (W W' : World) : Prop where
  sz : W.heap.size ≤ W'.heap.size
  bl : ∀ k o, k ≠ hb → k ≠ bm → W.heap[k]? = some o → (k < n₀ ∨ o.isCells = true) → W'.heap[k]? = some o
  hd : ∀ had, W.heap[hb]? = some (hadO e had) → Sound its known had → ∃ had', W'.heap[hb]? = some (hadO e had') ∧ HadLe had had' ∧ Sound its known had'
theorem KpE.trans {n₀ hb bm e : Nat} {its : List Item} {known : List Int} {A B C : World} (h : KpE n₀ hb bm e its known A B) (k : KpE n₀ hb bm e its known B C) : KpE n₀ hb bm e its known A C :=
  ⟨Nat.le_trans h.sz k.sz, fun b o h1 h2 h3 h4 => k.bl b o h1 h2 (h.bl b o h1 h2 h3 h4) h4, fun had h1 h2 => by
    obtain ⟨had1, a1, a2, a3⟩ := h.hd had h1 h2
    obtain ⟨had2, b1, b2, b3⟩ := k.hd had1 a1 a3
    exact ⟨had2, b1, a2.trans b2, b3⟩⟩
theorem KpE.turn {n₀ hb bm e : Nat} {its : List Item} {known : List Int} (W : World) (l : Nat) (o o' : Obj) (hl : n₀ ≤ l) (hb0 : hb < n₀) (h : W.heap[l]? = some o) (hc : o.isCells = false) : KpE n₀ hb bm e its known W (W.putObj l o') := by
  refine ⟨by simp, fun k u h1 h2 h3 h4 => ?_, fun had h1 h2 => ⟨had, ?_, HadLe.refl _, h2⟩⟩
  · have hne : k ≠ l := by
      rintro rfl
      rw [h] at h3; cases h3
      rcases h4 with h4 | h4
      · omega
      · rw [hc] at h4; cases h4
    rw [World.putObj_heap_other hne]; exact h3
  · rw [World.putObj_heap_other (by omega)]; exact h1
structure GoodH (n₀ hb bm : Nat) (τ : Hp) : Prop where
  h1 : τ hb = none
  h2 : τ bm = none
  h3 : ∀ b o, τ b = some o → b < n₀ ∨ o.isCells = true
abbrev Hx (its : List Item) (known : List Int) : Type := { x : Nat // x < its.length ∧ Had its known x }
theorem grown_of_below {w0 w : World} (h : Below w0.heap.size w0 w) : w0.grownBy w none := ⟨h.os, h.tape, h.output, h.size, fun k hk _ => h.block k hk⟩
theorem CellsAt.had {σ : Hp} {hb e : Nat} {had : List Bool} : CellsAt (ext σ hb (hadO e had)) hb 0 (boolsV had) := ⟨_, _, _, Go.Proofs.YtnjomdjkbbhdoaaGreatDoor.ext_self _ _ _, fun j v hj => by simpa using hj⟩
theorem St.down {w0 w : World} {M : Nat → Prop} {σ τ : Hp} (h : St w0 M τ [] [] w) (hl : Le σ τ) : St w0 M σ [] [] w := ⟨St0.ag h, fun b o e => St0.im h b o (hl b o e), fun p hp => by simp at hp, fun p hp => by simp at hp, fun p hp => by simp at hp, by simp⟩
theorem ext_le {σ τ : Hp} (h : Le σ τ) (b : Nat) (o : Obj) : Le (ext σ b o) (ext τ b o) := fun k u e => by
  unfold ext at *
  split at e
  · rename_i hk; rw [if_pos hk]; exact e
  · rename_i hk; rw [if_neg hk]; exact h k u e
theorem GoodH.le {n₀ hb bm : Nat} {τ : Hp} (h : GoodH n₀ hb bm τ) (o : Obj) : Le τ (ext τ hb o) := le_ext h.h1
theorem KpE.st {n₀ hb bm e : Nat} {its : List Item} {known : List Int} {w0 w w' : World} {τ : Hp} {had : List Bool} (hk : KpE n₀ hb bm e its known w w') (hg : GoodH n₀ hb bm τ) (hs : St w0 (fun _ => False) (ext τ hb (hadO e had)) [] [] w) (hso : Sound its known had) :
    ∃ had', HadLe had had' ∧ Sound its known had' ∧ St w' (fun _ => False) (ext τ hb (hadO e had')) [] [] w' := by
  obtain ⟨had', a1, a2, a3⟩ := hk.hd had (hs.im hb _ (ext_self _ _ _)) hso
  refine ⟨had', a2, a3, St.start fun b o hb' => ?_⟩
  unfold ext at hb'
  split at hb'
  · rename_i h; subst h; cases hb'; exact a1
  · rename_i h
    have hw := hs.im b o (by unfold ext; rw [if_neg h]; exact hb')
    exact hk.bl b o h (fun e9 => by subst e9; rw [hg.h2] at hb'; cases hb') hw (hg.h3 b o hb')
section
variable {P : Program} {l0 : List Oper} {Q : Exit → Act → World → Prop} {l : List Oper} {N : Nat} {L : TL} {w0 : World} {n₀ hb bm : Nat} {o : Obj} {τ : Hp}
theorem ow_frzIt {arr : Array Value} {e b : Nat} (hg : GoodH n₀ hb bm τ) (hbm : bm < n₀) (hn : n₀ ≤ w0.heap.size)
    (k : ∀ τ', Le τ τ' → GoodH n₀ hb bm τ' → τ' b = some (.cells arr e) → OW P l0 Q l N L (St w0 (fun _ => False) (ext τ' hb o) [] [])) : OW P l0 Q l N L (St w0 (fun _ => False) (ext τ hb o) ((b, .cells arr e) :: []) []) := fun a w hf hs => by
  have hfr := hs.fresh (p := (b, .cells arr e)) (by simp)
  have hne : b ≠ hb := fun e9 => by subst e9; rw [ext_self] at hfr; cases hfr
  have hge : w0.heap.size ≤ b := (St0.mo hs (b, .cells arr e) (by simp)).resolve_left id
  have hτ : τ b = none := by unfold ext at hfr; rwa [if_neg hne] at hfr
  have hc : ext (ext τ hb o) b (.cells arr e) = ext (ext τ b (.cells arr e)) hb o := by
    funext k
    unfold ext
    by_cases h1 : k = b
    · subst h1; simp [hne]
    · simp [h1]
  refine k (ext τ b (.cells arr e)) (le_ext hτ) ⟨?_, ?_, fun x u hx => ?_⟩ (ext_self _ _ _) a w hf (by rw [← hc]; exact hs.freeze)
  · unfold ext; rw [if_neg (Ne.symm hne)]; exact hg.h1
  · unfold ext; rw [if_neg (by omega)]; exact hg.h2
  · unfold ext at hx
    split at hx
    · cases hx; exact .inr rfl
    · exact hg.h3 x u hx
end
def bnd : Nat → Nat
  | 0 => 0
  | i + 1 => bnd i + 8193
theorem bnd_succ (i : Nat) : bnd (i + 1) = bnd i + 8193 := rfl
theorem bnd_le {a b : Nat} (h : a ≤ b) : bnd a ≤ bnd b := by
  induction b with
  | zero => obtain rfl : a = 0 := by omega
            exact Nat.le_refl _
  | succ b ih =>
    by_cases e : a = b + 1
    · subst e; exact Nat.le_refl _
    · have := ih (by omega)
      rw [bnd_succ]; omega
structure ClosedAt (its : List Item) (had : List Bool) (x : Item) (n : Nat) : Prop where
  md : madeB its had x = true → had.getD n false = true
  op : x.op = 4 → had.getD n false = true → allB had x.kids = true → ∀ m ∈ x.ments, hadAt had m = true
structure ItI (its : List Item) (known : List Int) (had0 : List Bool) (i : Nat) (pre : List (Hx its known)) (had : List Bool) : Prop where
  le : HadLe had0 had
  so : Sound its known had
  ni : pre = [] → had = had0
  fs : ∀ x r, pre = x :: r → had0.getD x.1 false = false
  cl : pre = [] → ∀ n (h : n < its.length), n < i → ClosedAt its had0 its[n] n
  ln : pre.length ≤ bnd i
structure ItM (its : List Item) (known : List Int) (had0 : List Bool) (i : Nat) (pre : List (Hx its known)) (had : List Bool) : Prop where
  le : HadLe had0 had
  so : Sound its known had
  ni : pre = [] → had = had0
  fs : ∀ x r, pre = x :: r → had0.getD x.1 false = false
  cl : pre = [] → ∀ n (h : n < its.length), n < i → ClosedAt its had0 its[n] n
  md : pre = [] → ∀ (h : i < its.length), madeB its had0 its[i] = true → had0.getD i false = true
  ln : pre.length ≤ bnd i + 1
structure ItN (its : List Item) (known : List Int) (had0 : List Bool) (i j : Nat) (pre : List (Hx its known)) (had : List Bool) : Prop where
  le : HadLe had0 had
  so : Sound its known had
  ni : pre = [] → had = had0
  fs : ∀ x r, pre = x :: r → had0.getD x.1 false = false
  cl : pre = [] → ∀ n (h : n < its.length), n < i → ClosedAt its had0 its[n] n
  md : pre = [] → ∀ (h : i < its.length), madeB its had0 its[i] = true → had0.getD i false = true
  mn : pre = [] → ∀ (h : i < its.length), ∀ k (hk : k < its[i].ments.length), k < j → hadAt had0 its[i].ments[k] = true
  o4 : ∀ (h : i < its.length), its[i].op = 4 ∧ had.getD i false = true ∧ allB had its[i].kids = true
  ln : pre.length ≤ bnd i + 1 + j
variable {its : List Item} {known : List Int} {had0 had had' : List Bool} {i j : Nat} {pre : List (Hx its known)}
theorem ItI.start (h : Sound its known had0) : ItI its known had0 0 [] had0 := ⟨HadLe.refl _, h, fun _ => rfl, fun x r e => (by cases e), fun _ n _ hn => absurd hn (Nat.not_lt_zero _), Nat.zero_le _⟩
theorem pre_fs {x : Hx its known} (h : ∀ x r, pre = x :: r → had0.getD x.1 false = false) (hni : pre = [] → had = had0) (hx : had.getD x.1 false = false) : ∀ y r, pre ++ [x] = y :: r → had0.getD y.1 false = false := fun y r e => by
  cases pre with
  | nil =>
    simp only [List.nil_append, List.cons.injEq] at e
    rw [← e.1, ← hni rfl]; exact hx
  | cons z r' =>
    simp only [List.cons_append, List.cons.injEq] at e
    exact h y r' (by rw [e.1])
theorem ItI.idle (h : ItI its known had0 i pre had) (hm : ∀ (hi : i < its.length), madeB its had its[i] = true → had.getD i false = true) : ItM its known had0 i pre had :=
  ⟨h.le, h.so, h.ni, h.fs, h.cl, fun e hi => by rw [← h.ni e]; exact hm hi, by have := h.ln; omega⟩
theorem ItI.yields {x : Hx its known} (h : ItI its known had0 i pre had) (hx : had.getD x.1 false = false) (hl : HadLe had had') (hs : Sound its known had') : ItM its known had0 i (pre ++ [x]) had' :=
  ⟨h.le.trans hl, hs, fun e => absurd e (by simp), pre_fs h.fs h.ni hx, fun e => absurd e (by simp), fun e => absurd e (by simp), by have := h.ln; simp; omega⟩
theorem ItM.next (h : ItM its known had0 i pre had) (hn : ∀ (hi : i < its.length), its[i].op = 4 → had.getD i false = true → allB had its[i].kids = true → False) : ItI its known had0 (i + 1) pre had :=
  ⟨h.le, h.so, h.ni, h.fs, fun e n hn' hlt => by
    by_cases he : n = i
    · subst he
      exact ⟨h.md e hn', fun h1 h2 h3 => (hn hn' h1 (by rw [h.ni e]; exact h2) (by rw [h.ni e]; exact h3)).elim⟩
    · exact h.cl e n hn' (by omega), by have := h.ln; rw [bnd_succ]; omega⟩
theorem ItM.opens (h : ItM its known had0 i pre had) (ho : ∀ (hi : i < its.length), its[i].op = 4 ∧ had.getD i false = true ∧ allB had its[i].kids = true) : ItN its known had0 i 0 pre had :=
  ⟨h.le, h.so, h.ni, h.fs, h.cl, h.md, fun _ _ k _ hk => absurd hk (Nat.not_lt_zero _), ho, by have := h.ln; omega⟩
theorem ItN.idle (h : ItN its known had0 i j pre had) (hi : i < its.length) (hj : j < its[i].ments.length) (hm : hadAt had its[i].ments[j] = true) : ItN its known had0 i (j + 1) pre had :=
  ⟨h.le, h.so, h.ni, h.fs, h.cl, h.md, fun e hi' k hk hlt => by
    by_cases he : k = j
    · subst he; rw [← h.ni e]; exact hm
    · exact h.mn e hi' k hk (by omega), h.o4, by have := h.ln; omega⟩
theorem ItN.yields {x : Hx its known} (h : ItN its known had0 i j pre had) (hx : had.getD x.1 false = false) (hl : HadLe had had') (hs : Sound its known had') : ItN its known had0 i (j + 1) (pre ++ [x]) had' :=
  ⟨h.le.trans hl, hs, fun e => absurd e (by simp), pre_fs h.fs h.ni hx, fun e => absurd e (by simp), fun e => absurd e (by simp), fun e => absurd e (by simp), fun hi => ⟨(h.o4 hi).1, hl _ (h.o4 hi).2.1, allB_mono hl (h.o4 hi).2.2⟩, by have := h.ln; simp; omega⟩
theorem ItN.next (h : ItN its known had0 i j pre had) (hi : i < its.length) (hj : its[i].ments.length ≤ j) (hjl : j ≤ 8192) : ItI its known had0 (i + 1) pre had :=
  ⟨h.le, h.so, h.ni, h.fs, fun e n hn' hlt => by
    by_cases he : n = i
    · subst he
      refine ⟨h.md e hn', fun h1 h2 h3 m hm => ?_⟩
      obtain ⟨k, hk, rfl⟩ := List.mem_iff_getElem.1 hm
      exact h.mn e hn' k hk (by omega)
    · exact h.cl e n hn' (by omega), by have := h.ln; rw [bnd_succ]; omega⟩
def SAll (its : List Item) (known : List Int) (had0 : List Bool) (xs : List (Hx its known)) : Prop := (xs = [] → Closed its had0) ∧ ∀ x r, xs = x :: r → had0.getD x.1 false = false
theorem ItI.over (h : ItI its known had0 i pre had) (hi : its.length ≤ i) : SAll its known had0 pre := ⟨fun e n hn => ⟨(h.cl e n hn (by omega)).md, (h.cl e n hn (by omega)).op⟩, h.fs⟩
end Go.Proofs.YtnjomdjkbbhdoaaGreatDoor
namespace Go.Proofs.YtnjomdjkbbhdoaaGreatDoor
set_option linter.unusedVariables false
theorem termV_old {ts es : List T} {n : Int} (h : (termV ts n).2 = true) : termV (ts ++ es) n = termV ts n := by
  unfold termV at h ⊢
  split at h
  · rename_i hn
    have hl : n.toNat < ts.length := by omega
    rw [if_pos (by simp; omega), if_pos hn]
    simp [List.getD_eq_getElem?_getD, List.getElem?_append_left hl]
  · cases h
theorem termV_at {ts : List T} (hn : ts.Nodup) {n : Int} (h : (termV ts n).2 = true) : posT ts (termV ts n).1 = n := by
  unfold termV at h ⊢
  split at h
  · rename_i hc
    have hl : n.toNat < ts.length := by omega
    rw [if_pos hc]
    have := posT_nodup hn (List.getElem?_eq_getElem hl)
    simp only [List.getD_eq_getElem?_getD, List.getElem?_eq_getElem hl, Option.getD_some]
    omega
  · cases h
theorem gather1 {ts : List T} {a : Int} (h : (termV ts a).2 = true) : gatherT ts [a] = some [(termV ts a).1] := by simp [gatherT, h]
theorem gather0 {ts : List T} {a : Int} (h : ¬ (termV ts a).2 = true) : gatherT ts [a] = none := by simp [gatherT, h]
theorem made1 {ts : List T} {op : Int} {d : List UInt8} {a : Int} (h : (termV ts a).2 = true) : madeV ts (ofT op d) [a] = intern ts (.mk op 0 d [(termV ts a).1]) := by
  rw [madeV_some (gather1 h)]; rfl
theorem made0 {ts : List T} {op : Int} {d : List UInt8} {a : Int} (h : ¬ (termV ts a).2 = true) : madeV ts (ofT op d) [a] = (-1, 71, ts) := madeV_none (gather0 h)
theorem made_ext (ts : List T) (op : Int) (d : List UInt8) (a : Int) : ∃ es, (madeV ts (ofT op d) [a]).2.2 = ts ++ es := by
  by_cases h : (termV ts a).2 = true
  · rw [made1 h]; exact intern_ext _ _
  · rw [made0 h]; exact ⟨[], by simp⟩
structure Seals (key other : Int) (d : List UInt8) (ts t1 t2 t3 t4 : List T) (s e g f p h q i : Int) : Prop where
  h1 : madeV ts (ofT 4 d) [key] = (s, e, t1)
  h2 : madeV t1 (ofT 3 d) [key] = (g, f, t2)
  h3 : madeV t2 (ofT 2 []) [key] = (p, h, t3)
  h4 : madeV t3 (ofT 2 []) [other] = (q, i, t4)
  hI : TabI ts
theorem made_ok {ts tt : List T} {op n : Int} {d : List UInt8} {a : Int} (h : madeV ts (ofT op d) [a] = (n, 0, tt)) : (termV ts a).2 = true ∧ n = posT tt (.mk op 0 d [(termV ts a).1]) ∧ 0 ≤ posT tt (.mk op 0 d [(termV ts a).1]) := by
  by_cases hk : (termV ts a).2 = true
  · rw [made1 hk] at h
    have := intern_pos (ts := ts) (t := .mk op 0 d [(termV ts a).1]) (by rw [h])
    rw [h] at this
    exact ⟨hk, this.1, this.2.1⟩
  · rw [made0 hk] at h; simp at h
structure Pows (x y : Int) (a b : List UInt8) (ts t1 t2 t3 t4 : List T) (p e q f h i k j : Int) : Prop where
  h1 : madeV ts (ofT 7 []) [x] = (p, e, t1)
  h2 : madeV t1 (ofT 7 []) [y] = (q, f, t2)
  h3 : madeV t2 (ofT 5 a) [] = (h, i, t3)
  h4 : madeV t3 (ofT 5 b) [] = (k, j, t4)
  hI : TabI ts
end Go.Proofs.YtnjomdjkbbhdoaaGreatDoor
namespace Go.Proofs.YtnjomdjkbbhdoaaGreatDoor
set_option linter.unusedVariables false
set_option linter.unusedSimpArgs false
def itemT (ts : List T) (n : Nat) (t : T) : Item := ⟨t.op, t.kids.map (posT ts), mentS t.data (n : Int)⟩
def itemsT (ts : List T) : List Item := ts.mapIdx (itemT ts)
theorem itemsT_len (ts : List T) : (itemsT ts).length = ts.length := by simp [itemsT]
theorem itemsT_get {ts : List T} {i : Nat} (h : i < (itemsT ts).length) (h' : i < ts.length) : (itemsT ts)[i] = itemT ts i ts[i] := by simp [itemsT]
theorem itemsT_mem {ts : List T} {x : Item} (h : x ∈ itemsT ts) : ∃ i, ∃ h : i < ts.length, x = itemT ts i ts[i] := by
  obtain ⟨i, hi, rfl⟩ := List.mem_iff_getElem.1 h
  have hi' : i < ts.length := by rwa [itemsT_len] at hi
  exact ⟨i, hi', itemsT_get hi hi'⟩
def itemsTo (ts : List T) (i : Nat) : List Item := (ts.take i).mapIdx (itemT ts)
theorem itemsTo_len {ts : List T} {i : Nat} (h : i ≤ ts.length) : (itemsTo ts i).length = i := by simp [itemsTo]; omega
theorem itemsTo_snoc {ts : List T} {i : Nat} (h : i < ts.length) : itemsTo ts (i + 1) = itemsTo ts i ++ [itemT ts i ts[i]] := by
  unfold itemsTo
  rw [List.take_succ_eq_append_getElem h, List.mapIdx_concat]
  congr 3
  simp; omega
theorem itemsTo_all (ts : List T) : itemsTo ts ts.length = itemsT ts := by unfold itemsTo itemsT; rw [List.take_length]
theorem TabI.kidAt {ts : List T} (h : TabI ts) {i : Nat} (hi : i < ts.length) {k : T} (hk : k ∈ ts[i].kids) : 0 ≤ posT ts k ∧ posT ts k < (i : Int) := by
  obtain ⟨j, h1, h2⟩ := h.lo i hi k hk
  rw [posT_nodup h.nd h2]; omega
theorem TabI.shapeAt {ts : List T} (h : TabI ts) {i : Nat} (hi : i < ts.length) : ts[i].kids.length ≤ 4 ∧ ts[i].data.length ≤ 8192 := by
  have hs := (right_shape (h.rt _ (List.getElem_mem hi))).1
  exact ⟨shape_kids hs, (shape_data hs).1⟩
theorem TabI.itemsOK {ts : List T} (h : TabI ts) (hl : ts.length ≤ 4096) : ItsOK (itemsT ts) := by
  refine ⟨by rw [itemsT_len]; exact hl, fun x hx => ?_, fun x hx => ?_, fun x hx z hz => ?_, fun x hx z hz => ?_⟩ <;> obtain ⟨i, hi, rfl⟩ := itemsT_mem hx
  · simp only [itemT, List.length_map]; exact (h.shapeAt hi).1
  · simp only [itemT]
    have h1 := mentS_len ts[i].data (i : Int)
    have h2 := (h.shapeAt hi).2
    omega
  · simp only [itemT, List.mem_map] at hz
    obtain ⟨k, hk, rfl⟩ := hz
    have h1 := h.kidAt hi hk
    rw [itemsT_len]; omega
  · simp only [itemT] at hz
    have h1 := mentS_in hz
    rw [itemsT_len]; omega
theorem had_open {its : List Item} {known : List Int} {s : Nat} (hs : s < its.length) (ho : its[s].op = 4) (h1 : Had its known s) (h2 : ∀ z ∈ its[s].kids, Had its known z.toNat) {m : Int} (hm : m ∈ its[s].ments) : Had its known m.toNat := fun b hl hc hk =>
  (hc s hs).2 ho (h1 b hl hc hk) (by unfold allB hadAt; rw [List.all_eq_true]; exact fun z hz => h2 z hz b hl hc hk) m hm
theorem Clos.mem {its : List Item} {known zs : List Int} (h : Clos its known zs) {n : Int} : n ∈ zs ↔ 0 ≤ n ∧ n < (its.length : Int) ∧ Had its known n.toNat := by
  rw [h.2]
  constructor
  · rintro ⟨k, h1, rfl, h2⟩
    exact ⟨by omega, by omega, by simpa using h2⟩
  · rintro ⟨h1, h2, h3⟩
    exact ⟨n.toNat, by omega, by omega, h3⟩
theorem had_inK {its : List Item} {known : List Int} {z : Int} (h : z ∈ known) (h0 : 0 ≤ z) (hn : z < (its.length : Int)) : Had its known z.toNat :=
  had_known (by rwa [Int.toNat_of_nonneg h0]) (by omega)
theorem Clos.len {its : List Item} {known zs : List Int} (h : Clos its known zs) : zs.length ≤ its.length := by
  have := strict_len (b := (List.range its.length).map fun (k : Nat) => (k : Int)) h.1 fun x hx => by
    obtain ⟨k, h1, rfl, _⟩ := (h.2 x).1 hx
    exact List.mem_map.2 ⟨k, List.mem_range.2 h1, rfl⟩
  simpa using this
theorem Clos.has {its : List Item} {known a : List Int} (ha : Clos its known a) {x : Int} (hx : x ∈ known) (h0 : 0 ≤ x) (h1 : x < (its.length : Int)) : x ∈ a := ha.mem.2 ⟨h0, h1, had_inK hx h0 h1⟩
theorem mentS_self {n below : Int} (h : 0 ≤ n ∧ n < 281474976710656) (hb : n < below) : mentS (mentN n) below = [n] := by
  refine (mentS_is (by simp) fun x => ?_).symm
  have hl : (mentN n).length = 10 := by unfold mentN; rw [if_pos h]; simp [bytesN_len h]
  have hin := (mentS_iff (a := []) (z := []) (below := below) h).2 hb
  simp only [List.nil_append, List.append_nil] at hin
  have hm := ((mentS_facts (mentN n) below).2 n).1 hin
  rw [mentL_mem] at hm
  obtain ⟨i, h1, h2, h3⟩ := hm
  obtain rfl : i = 0 := by omega
  rw [mentL_mem, List.mem_singleton]
  constructor
  · rintro rfl; exact ⟨0, h1, h2, h3⟩
  · rintro ⟨j, k1, k2, k3⟩
    obtain rfl : j = 0 := by omega
    rw [k3, ← h3]
theorem mentS_short {d : List UInt8} {below : Int} (h : d.length < 10) : mentS d below = [] := by
  refine (mentS_is (by simp) fun x => ?_).symm
  rw [mentL_short h]
theorem getElem?_pos {ts : List T} {t : T} {n : Int} (h : n = posT ts t) (h0 : 0 ≤ n) : ∃ i : Nat, n = (i : Int) ∧ ∃ hi : i < ts.length, ts[i] = t := by
  obtain ⟨i, hi⟩ : ∃ i : Nat, n = (i : Int) := ⟨n.toNat, by omega⟩
  have := posT_is (h.symm.trans hi)
  obtain ⟨h1, h2⟩ := List.getElem?_eq_some_iff.1 this
  exact ⟨i, hi, h1, h2⟩
theorem opens {ts t1 : List T} {key s n : Int} {zs : List Int} (hI : TabI ts) (h : madeV ts (ofT 4 (mentN n)) [key] = (s, 0, t1)) (hn : 0 ≤ n ∧ n < 281474976710656) (hs : n < s) (hc : Clos (itemsT t1) [key, s] zs) : n ∈ zs := by
  obtain ⟨h1, h2, h3⟩ := made_ok h
  obtain ⟨es, hes⟩ := made_ext ts 4 (mentN n) key
  rw [h] at hes
  simp only at hes
  subst hes
  have hI1 : TabI (ts ++ es) := by have := madeV_tab (g := ofT 4 (mentN n)) (hs := [key]) hI; rwa [h] at this
  obtain ⟨i, rfl, hi, hti⟩ := getElem?_pos h2 (by omega)
  have hk1 : (termV (ts ++ es) key).2 = true := by rw [termV_old h1]; exact h1
  have hkp : posT (ts ++ es) (termV ts key).1 = key := by rw [← termV_old (es := es) h1]; exact termV_at hI1.nd hk1
  have hkr : 0 ≤ key ∧ key < ((ts ++ es).length : Int) := by
    unfold termV at hk1
    split at hk1
    · rename_i hh; exact hh
    · cases hk1
  have hlt : i < (itemsT (ts ++ es)).length := by rw [itemsT_len]; exact hi
  have hit : (itemsT (ts ++ es))[i] = ⟨4, [key], mentS (mentN n) (i : Int)⟩ := by
    rw [itemsT_get hlt hi, hti]
    simp [itemT, T.op, T.kids, T.data, hkp]
  refine hc.mem.2 ⟨hn.1, by rw [itemsT_len]; omega, ?_⟩
  refine had_open hlt (by rw [hit]) ?_ (fun z hz => ?_) (by rw [hit, mentS_self hn hs]; simp)
  · have := had_inK (its := itemsT (ts ++ es)) (known := [key, (i : Int)]) (z := (i : Int)) (by simp) (by omega) (by omega)
    simpa using this
  · rw [hit] at hz
    simp only [List.mem_singleton] at hz
    subst hz
    exact had_inK (by simp) hkr.1 (by rw [itemsT_len]; exact hkr.2)
end Go.Proofs.YtnjomdjkbbhdoaaGreatDoor
namespace Go.Proofs.YtnjomdjkbbhdoaaGreatDoor
open Go.RowKit
set_option linter.unusedVariables false
set_option linter.unusedSimpArgs false
def drawF (N : Nat) (l : List Oper) (n j : Nat) : Bool :=
  Nat.blt n l.length && Nat.blt j n && ownDst N (l.take n) && aheadB 0 l && (match l[n]? with
    | some o => waitsB l o [j] n
    | none => false) && (List.range l.length).all fun t => decide (t ≤ n) || (match l[t]? with
      | some o => memN n (depsL o.after.toList)
      | none => false)
theorem flow_soundF {P : Program} {l : List Oper} {L : TL} {S : World → Prop} [hSta : Sta S] {N : Nat} {Q : Exit → Act → World → Prop} {id : Nat} [hm : MixT P] (n j : Nat) (hB : drawF N l n j = true)
    (h : Flow P l (Go.Proofs.YtnjomdjkbbhdoaaGreatDoor.cut (l.take n) L) S N (fun K => (∀ a w, Fr N (Go.Proofs.YtnjomdjkbbhdoaaGreatDoor.cut (l.take n) L) a → S w → (∀ e ∈ K, ∃ v, a.tmps[e.d]? = some v ∧ e.p.holds w v) → wpAny P .any l.toArray Q (l.length - n) (firsts n l.length) a w) ∧
      (∀ a w, Fr N (Go.Proofs.YtnjomdjkbbhdoaaGreatDoor.cut (l.take n) L) a → S w → (∀ e ∈ K, Nat.beq e.j j = false → ∃ v, a.tmps[e.d]? = some v ∧ e.p.holds w v) → wpAny P .any l.toArray Q (l.length - n + 1) ((firsts n l.length).setIfInBounds j false) a w)) (l.take n) 0 []) :
    CW P (.region id l.toArray true) Q N L S := by
  simp only [drawF, Bool.and_eq_true] at hB
  obtain ⟨⟨⟨⟨⟨hn, hj⟩, hown⟩, hahead⟩, hwt⟩, hstar⟩ := hB
  have hjn : j < n := by have := hj; simp [Nat.blt] at this; omega
  have hn2 : n < l.length := by have := hn; simp [Nat.blt] at this; omega
  have hn' : n ≤ l.length := by omega
  obtain ⟨on, hon, hwn⟩ : ∃ o, l[n]? = some o ∧ waitsB l o [j] n = true := by
    cases hl : l[n]? with
    | none => rw [hl] at hwt; cases hwt
    | some o => rw [hl] at hwt; exact ⟨o, rfl, hwt⟩
  obtain ⟨Kf, ⟨hfin, hfin2⟩, -, hK, hcov, huni⟩ := flow_all (l.take n) 0 [] (fun j hj => by
    rw [List.length_take] at hj
    rw [List.getElem?_take_of_lt (by omega)]; simp) (fun _ he => absurd he List.not_mem_nil) h
  have hK' : ∀ e ∈ Kf, e.j < n ∧ ∃ o, l[e.j]? = some o ∧ o.dst = some e.d ∧ e.p.pers ∧ ∀ a w, Fr N (Go.Proofs.YtnjomdjkbbhdoaaGreatDoor.cut (l.take n) L) a → S w →
      (∀ e' ∈ Kf, edge o.after.toList e'.j = true → ∃ v, a.tmps[e'.d]? = some v ∧ e'.p.holds w v) → stepOK P l o a w e.p := fun e he => by
    rcases hK e he with h0 | ⟨_, h1, h2⟩
    · cases h0
    · exact ⟨by rw [List.length_take] at h1; omega, h2⟩
  have hsz : l.toArray.size = l.length := by simp
  have key : ∀ (g : Nat) (listed : Array Bool) (a : Act) (w : World), HeadInv .any l.toArray n listed → cnt listed n = g → Fr N (Go.Proofs.YtnjomdjkbbhdoaaGreatDoor.cut (l.take n) L) a → S w →
      (∀ e ∈ Kf, listed.getD e.j true = true → ∃ v, a.tmps[e.d]? = some v ∧ e.p.holds w v) → wpAny P .any l.toArray Q (g + (l.length - n)) listed a w := by
    intro g
    induction g with
    | zero =>
      intro listed a w inv hc hf hs hk
      have hall := cnt_zero hc
      have hlist : listed = firsts n l.length := by
        apply Array.ext_getElem?
        intro i
        have hs1 : listed.size = l.length := by rw [inv.size, hsz]
        unfold firsts
        rcases Nat.lt_or_ge i n with h1 | h1
        · have := hall i h1
          have hi : i < listed.size := by omega
          simp [hi] at this
          simp [hi, this, List.getElem?_append, h1]
        · rcases Nat.lt_or_ge i l.length with h2 | h2
          · have := inv.tail i h1 (by rw [hsz]; exact h2)
            have hi : i < listed.size := by omega
            simp [hi] at this
            simp [hi, this, List.getElem?_append, show ¬ i < n by omega, show i - n < l.length - n by omega]
          · rw [Array.getElem?_eq_none (by omega)]
            simp [List.getElem?_append, show ¬ i < n by omega, show ¬ i - n < l.length - n by omega]
      have hw := hfin a w hf hs (fun e he => hk e he (hall e.j (hK' e he).1))
      rw [hlist, Nat.zero_add]
      exact hw
    | succ g ih =>
      intro listed a w inv hc hf hs hk
      have hs0 : listed.size = l.length := by rw [inv.size, hsz]
      by_cases hlast : ∀ i, i < n → i ≠ j → listed.getD i true = true
      · have hjf : listed.getD j true = false := by
          obtain ⟨i0, hi0, hun0, _⟩ := cnt_pos (show 0 < cnt listed n by omega)
          by_cases e : i0 = j
          · subst e; exact hun0
          · rw [hlast i0 hi0 e] at hun0; cases hun0
        have hg0 : g = 0 := by
          have h1 := cnt_set (listed := listed) (i := j) hjf n hjn
          rcases Nat.eq_zero_or_pos g with h2 | h2
          · exact h2
          · obtain ⟨i1, hi1, hun1, _⟩ := cnt_pos (show 0 < cnt (listed.setIfInBounds j true) n by omega)
            by_cases e : i1 = j
            · subst e
              have : i1 < listed.size := by omega
              simp [this] at hun1
            · rw [getD_set_ne true (fun h => e h.symm), hlast i1 hi1 e] at hun1; cases hun1
        subst hg0
        have hlist : listed = (firsts n l.length).setIfInBounds j false := by
          apply Array.ext_getElem?
          intro i
          rw [Array.getElem?_setIfInBounds]
          unfold firsts
          by_cases e : j = i
          · subst e
            have hi : j < listed.size := by omega
            simp [hi] at hjf
            simp [hi, hjf]; omega
          · rw [if_neg e]
            rcases Nat.lt_or_ge i n with h1 | h1
            · have := hlast i h1 (fun h => e h.symm)
              have hi : i < listed.size := by omega
              simp [hi] at this
              simp [hi, this, List.getElem?_append, h1]
            · rcases Nat.lt_or_ge i l.length with h2 | h2
              · have := inv.tail i h1 (by rw [hsz]; exact h2)
                have hi : i < listed.size := by omega
                simp [hi] at this
                simp [hi, this, List.getElem?_append, show ¬ i < n by omega, show i - n < l.length - n by omega]
              · rw [Array.getElem?_eq_none (by omega)]
                simp [List.getElem?_append, show ¬ i < n by omega, show ¬ i - n < l.length - n by omega]
        have hw := hfin2 a w hf hs (fun e he hne => hk e he (hlast e.j (hK' e he).1 (Nat.ne_of_beq_eq_false hne)))
        rw [hlist, show 0 + 1 + (l.length - n) = l.length - n + 1 by omega]
        exact hw
      obtain ⟨i1, hi1n, hi1j, hi1u⟩ : ∃ i, i < n ∧ i ≠ j ∧ listed.getD i true = false := by
        apply Classical.byContradiction
        intro hno
        refine hlast fun i h1 h2 => ?_
        cases h3 : listed.getD i true with
        | true => rfl
        | false => exact (hno ⟨i, h1, h2, h3⟩).elim
      rw [show g + 1 + (l.length - n) = (g + (l.length - n)) + 1 by omega]
      obtain ⟨i0, hi0, hun0, hbelow⟩ := cnt_pos (show 0 < cnt listed n by omega)
      have hs1 : listed.size = l.length := by rw [inv.size, hsz]
      have hready : i0 ∈ Region.ready .any l.toArray listed := by
        have hlt : i0 < l.length := by omega
        refine mem_ready.2 ⟨hun0, l[i0], by simp [hlt], fun e he hb => ?_⟩
        have h1 := ahead_get hahead i0 l[i0] (by simp [hlt]) e he hb
        have h2 := hbelow e.on (by omega)
        have hlt2 : e.on < listed.size := by omega
        simp [hlt2] at h2 ⊢
        exact h2
      refine ⟨fun hnil => (by rw [hnil] at hready; cases hready), fun i hi => ?_⟩
      have hin : i < n := by
        rcases Nat.lt_or_ge i n with h1 | h1
        · exact h1
        · obtain ⟨_, oi, hoi, hdeps⟩ := mem_ready.1 hi
          have hlt : i < l.length := by have := (Array.getElem?_eq_some_iff.1 hoi).1; simpa using this
          have hoi' : l[i]? = some oi := by simpa using hoi
          rcases Nat.eq_or_lt_of_le h1 with h2 | h2
          · subst h2
            have : oi = on := Option.some.inj (hoi'.symm.trans hon)
            subst this
            have h3 := (List.all_eq_true.1 hwn) i1 (List.mem_range.2 hi1n)
            have hb1 : (i1 == j) = false := by simpa using hi1j
            rw [Bool.or_eq_true] at h3
            replace h3 := h3.resolve_left (fun h => hi1j (by have h5 := memN_mem h; simpa using h5))
            have h4 := clos_listed inv n _ (fun x hx => by
              obtain ⟨e, he, hej, heb⟩ := depsL_mem hx
              rw [← hej]; exact hdeps e (by simpa using he) heb) i1 (memN_mem h3)
            have hlt2 : i1 < listed.size := by omega
            simp [hlt2] at h4 hi1u
            rw [h4] at hi1u; cases hi1u
          · have h3 := (List.all_eq_true.1 hstar) i (List.mem_range.2 hlt)
            simp only [Bool.or_eq_true, decide_eq_true_eq] at h3
            have h4 := h3.resolve_left (by omega)
            rw [hoi'] at h4
            obtain ⟨e, he, hej, heb⟩ := depsL_mem (memN_mem h4)
            have h5 := hdeps e (by simpa using he) heb
            rw [hej] at h5
            have h6 := inv.tail n (Nat.le_refl _) (by rw [hsz]; exact hn2)
            have hlt2 : n < listed.size := by omega
            simp [hlt2] at h5 h6
            rw [h5] at h6; cases h6
      obtain ⟨huni1, oi, hoi, hdeps⟩ := mem_ready.1 hi
      have hoi' : l[i]? = some oi := by simpa using hoi
      obtain ⟨e, heK, hej⟩ := hcov i (by rw [List.length_take]; omega)
      have hej' : e.j = i := by omega
      obtain ⟨_, o, ho, hod, hpers, hstep⟩ := hK' e heK
      rw [hej'] at ho
      have : o = oi := Option.some.inj (ho.symm.trans hoi')
      subst this
      have hdn : e.d < N := by
        obtain ⟨d, hd1, hd2⟩ := ownDst_get hown i o (by rw [List.getElem?_take_of_lt hin]; exact ho)
        rw [hod] at hd1; cases hd1; exact hd2
      have hcutd : ∀ v, lk (Go.Proofs.YtnjomdjkbbhdoaaGreatDoor.cut (l.take n) L) e.d = some v → False := fun v hv => by
        have h1 := (lk_cut hv).1
        rw [anyDst_of (List.mem_of_getElem? (l := l.take n) (i := i) (by rw [List.getElem?_take_of_lt hin]; exact ho)) hod] at h1
        cases h1
      have hso := hstep a w hf hs (fun e' he' hed => by
        obtain ⟨x, hx, hxj, hxb⟩ := edge_mem hed
        have h1 := hdeps x (by simpa using hx) hxb
        rw [hxj] at h1
        have h2 : e'.j < n := (hK' e' he').1
        refine hk e' he' ?_
        have hlt2 : e'.j < listed.size := by omega
        simp [hlt2] at h1 ⊢
        exact h1)
      have next : ∀ v w', Below w.heap.size w w' → e.p.holds w' v → wpAny P .any l.toArray Q (g + (l.length - n)) (listed.setIfInBounds i true) (a.put o.dst v) w' := by
        intro v w' hb hv
        rw [hod]
        refine ih _ _ _ (inv.set hi hin) (by have := cnt_set huni1 n hin; omega) ?_ (hSta.keep w w' hs hb) ?_
        · have hp := hf.put v (d := e.d) (by simp [Nat.blt]; omega)
          exact ⟨hp.df, hp.sz, fun k u hu => hp.get k u (by
            rw [lk_cons]
            split
            · rename_i hk2; subst hk2; exact (hcutd u hu).elim
            · exact hu)⟩
        · intro x hx hxl
          by_cases hxi : x.j = i
          · have : x = e := huni x hx e heK (Nat.zero_le _) (by omega)
            subst this
            exact ⟨v, by simp [Act.put, hf.sz, hdn], hv⟩
          · rw [getD_set_ne true (fun h => hxi h.symm)] at hxl
            obtain ⟨u, hu, hxu⟩ := hk x hx hxl
            obtain ⟨hxn, ox, hox, hxd, hxp, _⟩ := hK' x hx
            have hne : e.d ≠ x.d := fun hee => by
              have := ownDst_ne hown i x.j o ox e.d (by rw [List.getElem?_take_of_lt hin]; exact ho) (by rw [List.getElem?_take_of_lt hxn]; exact hox) hod (by rw [hee]; exact hxd)
              omega
            refine ⟨u, ?_, VP.pers_keep hxp hxu hb⟩
            simp only [Act.put]
            rw [Array.getElem?_setIfInBounds_ne hne]
            exact hu
      unfold wpOp
      simp only [hoi]
      unfold stepOK at hso
      split
      · rename_i hw
        rw [if_pos hw] at hso
        exact .inl (wp_false hso (fun a' w' ⟨v, ha, hb, hv⟩ => by rw [ha]; exact next v w' hb hv))
      · rename_i hw
        rw [if_neg hw] at hso
        exact next undef w (Below.refl _ _) hso
  intro a w hf hs
  refine wp_region_any hm.ok ?_
  have hrep : ∀ j, (Array.replicate l.toArray.size false).getD j false = false := fun j => getD_replicate_false _ _
  have := key n (Array.replicate l.toArray.size false) a w.drew
    ⟨by simp, fun j oj hj hl => (by rw [hrep] at hl; cases hl), fun t ht ht' => by simp at ht'; simp [ht']⟩
    (by rw [hsz]; exact cnt_fresh _ _ hn') (fr_cut hf (lk_cut_sub L)) (hSta.keep _ _ hs (Below.drewB w)) (fun e he hl => by
      have h1 := (hK' e he).1
      simp [show e.j < l.length by omega] at hl)
  rw [show n + (l.length - n) = l.toArray.size by rw [hsz]; omega] at this
  exact this
theorem flow_nilF {P : Program} {l : List Oper} {Q : Exit → Act → World → Prop} {N n j i : Nat} {L0 : TL} {S : World → Prop} {K : List KE} (h : FinT P l Q (l.length - n) (firsts n l.length) N L0 S K) (h2 : FinT P l Q (l.length - n + 1) ((firsts n l.length).setIfInBounds j false) N L0 S (K.filter fun e => !Nat.beq e.j j)) :
    Flow P l L0 S N (fun K => (∀ a w, Fr N L0 a → S w → (∀ e ∈ K, ∃ v, a.tmps[e.d]? = some v ∧ e.p.holds w v) → wpAny P .any l.toArray Q (l.length - n) (firsts n l.length) a w) ∧
      (∀ a w, Fr N L0 a → S w → (∀ e ∈ K, Nat.beq e.j j = false → ∃ v, a.tmps[e.d]? = some v ∧ e.p.holds w v) → wpAny P .any l.toArray Q (l.length - n + 1) ((firsts n l.length).setIfInBounds j false) a w)) [] i K :=
  ⟨h, fun a w hf hs hk => h2 a w hf hs fun e he => by
    obtain ⟨h3, h4⟩ := List.mem_filter.1 he
    exact hk e h3 (by simpa using h4)⟩
end Go.Proofs.YtnjomdjkbbhdoaaGreatDoor
namespace Go.Proofs.YtnjomdjkbbhdoaaGreatDoor
open Go.RowKit
set_option linter.unusedVariables false
set_option linter.unusedSimpArgs false
set_option linter.unusedSectionVars false
def RowI (σ : Hp) (xs : List Value) (its : List Item) : Prop := xs.length = its.length * 3 ∧ ∀ i (h : i < its.length), ItemC σ ((xs.drop (i * 3)).take 3) its[i]
theorem RowI.nil (σ : Hp) : RowI σ [] [] := ⟨rfl, fun i h => by simp at h⟩
theorem RowI.le {σ τ : Hp} (hl : Le σ τ) {xs : List Value} {its : List Item} (h : RowI σ xs its) : RowI τ xs its := ⟨h.1, fun i hi => (h.2 i hi).le hl⟩
theorem ItemC.len {σ : Hp} {cs : List Value} {x : Item} (h : ItemC σ cs x) : cs.length = 3 := by
  obtain ⟨_, _, rfl, _⟩ := h; rfl
theorem RowI.snoc {σ : Hp} {xs cs : List Value} {its : List Item} {x : Item} (h : RowI σ xs its) (hc : ItemC σ cs x) : RowI σ (xs ++ cs) (its ++ [x]) := by
  have hl := h.1
  have hcl := hc.len
  refine ⟨by simp [hl, hcl, Nat.add_mul], fun i hi => ?_⟩
  rw [List.length_append, List.length_singleton] at hi
  by_cases e : i < its.length
  · rw [List.getElem_append_left e, List.drop_append_of_le_length (by omega), List.take_append_of_le_length (by rw [List.length_drop]; omega)]
    exact h.2 i e
  · obtain rfl : i = its.length := by omega
    rw [List.getElem_concat_length rfl, ← hl, List.drop_left, List.take_of_length_le (by omega)]
    exact hc
theorem RowI.one {σ : Hp} {xs : List Value} {its : List Item} (h : RowI σ xs its) : ∀ v ∈ xs, v.oneCell' = true := fun v hv => by
  obtain ⟨j, hj, rfl⟩ := List.mem_iff_getElem.1 hv
  have hl := h.1
  have hi : j / 3 < its.length := by omega
  refine (h.2 _ hi).one _ (List.mem_iff_getElem?.2 ⟨j % 3, ?_⟩)
  rw [List.getElem?_take, if_pos (Nat.mod_lt _ (by decide)), List.getElem?_drop, show j / 3 * 3 + j % 3 = j by omega]
  exact List.getElem?_eq_getElem hj
theorem freezeIt {w0 w : World} {M : Nat → Prop} {σ : Hp} {H Gs Gr : List (Nat × Obj)} {e : Nat} {v : Value} {xs : List Value} {its : List Item} (hs : St w0 M σ H (Gs ++ Gr) w) (hM : ∀ b, M b → False) (hO : OwnSl e 3 v its.length xs Gs) (hr : RowI σ xs its) :
    ∃ σ', Le σ σ' ∧ Fresh σ σ' w0 ∧ St w0 M σ' H Gr w ∧ ItemsV σ' v its := by
  obtain ⟨σ', h1, h2, h3, p, c, e4, h5, h6⟩ := freezeR hs hM hO
  refine ⟨σ', h1, h2, h3, p, c, e4, h5, h6.imp (fun h => List.eq_nil_of_length_eq_zero h) fun ⟨b, e5, h7⟩ => ⟨b, 0, e5, fun i hi => ⟨_, ?_, (hr.2 i hi).le h1⟩⟩⟩
  exact (h7.drop (i * 3)).take 3
section
variable [DS] {P : Program} {l0 : List Oper} {Q : Exit → Act → World → Prop} {rest : List Oper} {N : Nat} {L : TL} {d : Nat} {ty : TypeId} {pos : String} {af : Array Edge} {g : Option (Nat × Bool)} {op : Op} {w0 : World} {M : Nat → Prop} {σ : Hp} {H G : List (Nat × Obj)}
theorem exw_mkbools {t e : Nat} [hA : AppT P t e 1 1] [hZ : ZeroT P e (.bool false)] {x y : Operand} {n : Nat} (hx : ev L x = some (.int .i64 (n : Int))) (hy : ev L y = some (.int .i64 (n : Int))) (hn : n ≤ 1000000) :
    ExW P (.makeSlice t x y) N L (St w0 M σ H G) (fun u w => ∃ b, u = .slice (some ⟨b, 0, none⟩) n n ∧ St w0 M σ ((b, hadO e (List.replicate n false)) :: H) G w) := fun a w hf hs dd tt pp aa gg => by
  obtain ⟨h1, ⟨i, z, h2, h3, h4, h5, h6⟩, h7⟩ := hA.ok
  have hz := hZ.ok
  rw [h2] at hz
  have hz' : i.zero = some (.bool false) := by simpa using hz
  have hr := run_make (P := P) w t e i (.bool false) h1 h2 hz' .i64 .i64 (n : Int) (n : Int) (by omega) (Int.le_refl _) (by rw [h5]; omega) (by omega)
  have hc : madeCells (Value.bool false).cells ((n : Int).toNat * i.size) = (boolsV (List.replicate n false)).toArray := by
    rw [h4]
    unfold madeCells boolsV
    apply Array.ext_getElem?
    intro k
    by_cases hk : k < n
    · simp [hk, Value.cells, Nat.mod_one]
    · simp [hk]
  rw [hc] at hr
  refine ⟨.slice (some ⟨w.heap.size, 0, none⟩) n n, w.alloc (hadO e (List.replicate n false)), ?_, _, rfl, hs.alloc _⟩
  simp only [Int.toNat_natCast] at hr
  simp [execOp, hf.eval hx, hf.eval hy, hr, hadO]
theorem ow_mkbools {n : Nat} {e : Nat} (hN : Nat.blt d N = true) (hg : gd l0 L g = some true)
    (h : ExW P op N L (St w0 M σ H G) (fun u w => ∃ b, u = .slice (some ⟨b, 0, none⟩) n n ∧ St w0 M σ ((b, hadO e (List.replicate n false)) :: H) G w))
    (k : ∀ b, OW P l0 Q rest N ((d, .slice (some ⟨b, 0, none⟩) n n) :: L) (St w0 M σ ((b, hadO e (List.replicate n false)) :: H) G)) : OW P l0 Q (⟨some d, op, ty, pos, af, g⟩ :: rest) N L (St w0 M σ H G) :=
  ow_w hN hg h fun u a w hf ⟨b, hu, hs⟩ => by subst hu; exact k b a w hf hs
end
theorem set_bools {had : List Bool} {i : Nat} (hi : i < had.length) (v : Bool) : over (boolsV had).toArray i [.bool v] = (boolsV (had.set i v)).toArray := by
  unfold over boolsV
  congr 1
  apply List.ext_getElem?
  intro k
  simp only [List.length_singleton]
  rw [List.map_set, List.getElem?_set]
  by_cases h1 : k < i
  · rw [List.getElem?_append_left (by simp; omega), List.getElem?_append_left (by simp; omega), List.getElem?_take, if_pos h1, if_neg (by omega)]
  · by_cases h2 : i = k
    · subst h2
      rw [List.getElem?_append_left (by simp; omega), List.getElem?_append_right (by simp; omega)]
      have e9 : min i had.length = i := by omega
      simp [hi, e9]
    · rw [if_neg h2, List.getElem?_append_right (by simp; omega)]
      simp only [List.length_append, List.length_take, List.length_map, List.length_singleton]
      rw [Nat.min_eq_left (by omega), List.getElem?_drop, show i + 1 + (k - (i + 1)) = k by omega]
theorem exu_bool [DS] {P : Program} {N : Nat} {L : TL} {w0 : World} {M : Nat → Prop} {σ : Hp} {H G : List (Nat × Obj)} (j : Nat) {ty b e i : Nat} {x y : Operand} {v : Bool} {had : List Bool} [h : OneT P ty] (hx0 : ev L x = some (.pointer (some ⟨b, 0 + i * 1, none⟩))) (hy : ev L y = some (.bool v))
    (hH : H[j]? = some (b, hadO e had)) (hi : i < had.length) :
    ExU P (.store ty x y) N L (St w0 M σ H G) (St w0 M σ (setH H j (hadO e (had.set i v))) G) := by
  have hx : ev L x = some (.pointer (some ⟨b, i, none⟩)) := by rw [hx0, Nat.mul_one, Nat.zero_add]
  have hble : Nat.ble (i + 1) (boolsV had).toArray.size = true := Nat.ble_eq_true_of_le (show i + 1 ≤ (boolsV had).toArray.size from Nat.le_of_lt_succ (by have h9 : (boolsV had).toArray.size = had.length := (by simp [boolsV]); omega))
  have := exu_store1 (P := P) (N := N) (w0 := w0) (M := M) (σ := σ) (G := G) (ty := ty) j hx hy hH rfl rfl hble
  rw [set_bools hi] at this
  exact this
section
variable {P : Program} {l0 : List Oper} {Q : Exit → Act → World → Prop} {r : List Oper} {fin : List KE → Prop} {N i : Nat} {L0 L : TL} {K : List KE} {d : Nat} {ty : TypeId} {pos : String} {af : Array Edge} {g : Option (Nat × Bool)} {op : Op} {w0 : World} {M : Nat → Prop} {σ : Hp} {H G : List (Nat × Obj)}
def NewB (w0 : World) (σ : Hp) (X : List (Nat × Obj)) (o : Obj) (w : World) (v : Value) : Prop := ∃ b, v = .pointer (some ⟨b, 0, none⟩) ∧ w.heap[b]? = some o ∧ w0.heap.size ≤ b ∧ σ b = none ∧ ∀ p ∈ X, p.1 ≠ b
def NewR (w0 : World) (σ : Hp) (X : List (Nat × Obj)) (e n : Nat) (xs : List Value) (w : World) (v : Value) : Prop := ∃ Gs, OwnSl e 1 v n xs Gs ∧ Own Gs w ∧ ∀ p ∈ Gs, w0.heap.size ≤ p.1 ∧ σ p.1 = none ∧ ∀ q ∈ X, q.1 ≠ p.1
theorem NewB.pers {X : List (Nat × Obj)} {o : Obj} : ∀ w w' v, NewB w0 σ X o w v → Below w.heap.size w w' → NewB w0 σ X o w' v := fun w w' v ⟨b, h1, h2, h3⟩ hb =>
  ⟨b, h1, by rw [hb.block b (Array.getElem?_eq_some_iff.1 h2).1]; exact h2, h3⟩
theorem NewR.pers {X : List (Nat × Obj)} {e n : Nat} {xs : List Value} : ∀ w w' v, NewR w0 σ X e n xs w v → Below w.heap.size w w' → NewR w0 σ X e n xs w' v := fun w w' v ⟨Gs, h1, h2, h3⟩ hb =>
  ⟨Gs, h1, fun p hp => by rw [hb.block p.1 (Array.getElem?_eq_some_iff.1 (h2 p hp)).1]; exact h2 p hp, h3⟩
theorem flow_alloc {t : TypeId} {z : Value} [hz : ZeroT P t z] (hg : gd l0 (tlK af.toList L0 K) g = some true)
    (k : Flow P l0 L0 (St w0 M σ H G) N fin r (i + 1) (⟨i, d, .sat (NewB w0 σ (H ++ G) (.cells z.cells t))⟩ :: K)) : Flow P l0 L0 (St w0 M σ H G) N fin (⟨some d, .alloc t, ty, pos, af, g⟩ :: r) i K :=
  flow_sat NewB.pers (obk (ob_w hg fun a w hf hs d ty pos af g => by
    have hz' := hz.ok
    cases hi : P.info? t with
    | none => simp [hi] at hz'
    | some i =>
      have hz2 : i.zero = some z := by simpa [hi] using hz'
      refine ⟨.pointer (some ⟨w.heap.size, 0, none⟩), w.alloc (.cells z.cells t), by simp [execOp, Instr.alloc, zeroValue, typeInfo, hi, hz2, newVar, newRow], below_alloc1 _ _, w.heap.size, rfl, heap_push_new _ _, hs.ag.size, ?_, fun p hp => Nat.ne_of_lt (hs.lt hp)⟩
      cases e : σ w.heap.size with
      | none => rfl
      | some o => exact absurd (hs.im.lt e) (Nat.lt_irrefl _))) k
theorem flow_co {e n : Nat} {xs : List Value} (hg : gd l0 (tlK af.toList L0 K) g = some true) (h : ExC P op N (tlK af.toList L0 K) (St w0 M σ H G) (TO e 1 n xs))
    (k : Flow P l0 L0 (St w0 M σ H G) N fin r (i + 1) (⟨i, d, .sat (NewR w0 σ (H ++ G) e n xs)⟩ :: K)) : Flow P l0 L0 (St w0 M σ H G) N fin (⟨some d, op, ty, pos, af, g⟩ :: r) i K :=
  flow_sat NewR.pers (obk (ob_c hg h fun w v w' hs ⟨Gs, h1, h2, h3, h4⟩ => ⟨h4, Gs, h1, h2, fun p hp => ⟨Nat.le_trans hs.ag.size (h3 p hp), by
    cases e : σ p.1 with
    | none => rfl
    | some o => exact absurd (hs.im.lt e) (Nat.not_lt.2 (h3 p hp)), fun q hq => Nat.ne_of_lt (Nat.lt_of_lt_of_le (hs.lt hq) (h3 p hp))⟩⟩)) k
theorem flow_wrap (t : Nat) (F : Value → Value) {X : List (Nat × Obj)} {e n : Nat} {xs : List Value} (hq : satK af.toList K t = some (NewR w0 σ X e n xs)) (hg : ∀ u, gd l0 ((t, u) :: tlK af.toList L0 K) g = some true)
    (h : ∀ u p c, u = .slice p n c → Ex P op N ((t, u) :: tlK af.toList L0 K) (St w0 M σ H G) (F u))
    (k : Flow P l0 L0 (St w0 M σ H G) N fin r (i + 1) (⟨i, d, .sat (fun w v => ∃ u, v = F u ∧ NewR w0 σ X e n xs w u)⟩ :: K)) : Flow P l0 L0 (St w0 M σ H G) N fin (⟨some d, op, ty, pos, af, g⟩ :: r) i K :=
  flow_sat (fun w w' v ⟨u, h1, h2⟩ hb => ⟨u, h1, NewR.pers w w' u h2 hb⟩) (obk_sat t hq fun u a w hf hs => by
    have hs' := hs
    obtain ⟨_, Gs, hO, _, _⟩ := hs
    obtain ⟨p, c, hu, _⟩ := hO.slice
    exact ob_valS (S := fun w => St w0 M σ H G w ∧ NewR w0 σ X e n xs w u) (hg u) (fun a w hf hs => h u p c hu a w hf hs.1) (fun w hw => ⟨u, rfl, hw.2⟩) a w hf hs') k
theorem ow_openI {l : List Oper} {e n et : Nat} {xs : List Value} {zc : Array Value} {F : Value → Value} {v7 v34 : Value} (hne : Nat.beq e et = false)
    (k : ∀ Gs b u, OwnSl e 1 u n xs Gs → v34 = F u → v7 = .pointer (some ⟨b, 0, none⟩) → OW P l0 Q l N L (St w0 M σ ((b, .cells zc et) :: H) (Gs ++ G))) :
    OW P l0 Q l N L (fun w => (St w0 M σ H G w ∧ NewB w0 σ (H ++ G) (.cells zc et) w v7) ∧ ∃ u, v34 = F u ∧ NewR w0 σ (H ++ G) e n xs w u) := fun a w hf hs => by
  obtain ⟨⟨hs, b, h1, h2, h3, h4, h5⟩, u, h6, Gs, hO, ho, hx⟩ := hs
  refine k Gs b u hO h6 h1 a w hf ⟨hs.ag, hs.im, fun p hp => ?_, fun p hp => ?_, fun p hp => ?_, ?_⟩
  · rcases List.mem_append.1 hp with hp | hp
    · rcases List.mem_cons.1 hp with rfl | hp
      · exact h2
      · exact hs.own hp
    · rcases List.mem_append.1 hp with hp | hp
      · exact ho p hp
      · exact hs.ownG hp
  · rcases List.mem_append.1 hp with hp | hp
    · rcases List.mem_cons.1 hp with rfl | hp
      · exact h4
      · exact hs.fresh (by simp [hp])
    · rcases List.mem_append.1 hp with hp | hp
      · exact (hx p hp).2.1
      · exact hs.fresh (by simp [hp])
  · rcases List.mem_append.1 hp with hp | hp
    · rcases List.mem_cons.1 hp with rfl | hp
      · exact .inr h3
      · exact St0.mo hs p (by simp [hp])
    · rcases List.mem_append.1 hp with hp | hp
      · exact .inr (hx p hp).1
      · exact St0.mo hs p (by simp [hp])
  · have hnd := St0.nd hs
    rw [List.map_append, List.nodup_append] at hnd
    obtain ⟨n1, n2, n3⟩ := hnd
    have hbG : ∀ p ∈ Gs, p.1 ≠ b := fun p hp hpb => by
      have h8 := ho p hp
      rw [hpb, h2] at h8
      rcases hO.2 with ⟨_, _, rfl⟩ | ⟨g, c, cur, _, rfl, _⟩
      · cases hp
      · simp only [List.mem_singleton] at hp
        subst hp
        simp at h8
        rw [h8.2] at hne
        simp at hne
    rw [List.cons_append, List.map_cons, List.nodup_cons, List.map_append, List.map_append, List.nodup_append]
    refine ⟨fun hm => ?_, n1, ?_, fun x hx1 y hy => ?_⟩
    · rw [← List.map_append, ← List.map_append] at hm
      obtain ⟨p, hp, hpb⟩ := List.mem_map.1 hm
      rcases List.mem_append.1 hp with hp | hp
      · exact h5 p (by simp [hp]) hpb
      · rcases List.mem_append.1 hp with hp | hp
        · exact hbG p hp hpb
        · exact h5 p (by simp [hp]) hpb
    · rw [List.nodup_append]
      refine ⟨hO.nd, n2, fun x hx1 y hy => ?_⟩
      obtain ⟨p, hp, rfl⟩ := List.mem_map.1 hx1
      obtain ⟨q, hq, rfl⟩ := List.mem_map.1 hy
      exact fun e9 => (hx p hp).2.2 q (by simp [hq]) e9.symm
    · rcases List.mem_append.1 hy with hy | hy
      · obtain ⟨p, hp, rfl⟩ := List.mem_map.1 hy
        obtain ⟨q, hq, rfl⟩ := List.mem_map.1 hx1
        exact (hx p hp).2.2 q (by simp [hq])
      · exact n3 x hx1 y hy
def RepRowC (cs : List Value) (σ : Hp) (v : Value) : Prop := ∃ b, v = .slice (some ⟨b, 0, none⟩) 1 1 ∧ CellsAt σ b 0 cs
instance (cs : List Value) : MonoR (RepRowC cs) := ⟨fun hl ⟨b, e, h⟩ => ⟨b, e, h.le hl⟩⟩
theorem ob_cells {t e k bytes : Nat} [h : AppT P t e k bytes] {x : Operand} {cs : List Value} (hg : gd l0 L g = some true) (hx : ev L x = some (.agg cs.toArray)) (hc : cs.length = k) :
    Ob P l0 ⟨some d, .buildSlice t 1 #[(0, x)], ty, pos, af, g⟩ N L (St w0 M σ H G) (.sat (QR (RepRowC cs) σ w0 (H ++ G))) := ob_w hg fun a w hf hs d ty pos af g => by
  have hrun := run_slit1 (P := P) (t := t) (w := w) hf hx (v := .agg cs.toArray) (by simp [Value.cells, hc]) d ty pos af g
  have hs' : St w0 M σ ((w.heap.size, .cells cs.toArray e (0, 0)) :: H) G (w.alloc (.cells cs.toArray e)) := hs.alloc _
  have hle : Le σ (ext σ w.heap.size (.cells cs.toArray e (0, 0))) := le_ext (hs'.fresh (p := (w.heap.size, .cells cs.toArray e (0, 0))) (by simp))
  refine ⟨_, _, hrun, below_alloc1 _ _, ext σ w.heap.size (.cells cs.toArray e), hle, fun k o hk => ?_, hs'.freeze.im, ⟨w.heap.size, rfl, ⟨cs.toArray, e, (0, 0), ext_self _ _ _, fun j v hj => by simpa using hj⟩⟩, fun p hp => hs'.freeze.fresh hp⟩
  unfold ext at hk
  split at hk
  · rename_i hkb; subst hkb; exact .inr hs.ag.size
  · exact .inl hk
end
theorem SeenV.le {σ τ : Hp} {b c m : Nat} {ts : List T} {p : Option Addr} (hl : Le σ τ) (h : SeenV σ b ts p c m) : SeenV τ b ts p c m := ⟨h.c0.le hl, h.c1.le hl, hl _ _ h.mp, h.cap, h.few, h.tab⟩
theorem noK : ∀ b, keysOf [] b → False := fun b ⟨p, hp, _⟩ => by cases hp
section
variable [DS] {P : Program} {l0 : List Oper} {Q : Exit → Act → World → Prop} {l rest : List Oper} {N : Nat} {L : TL} {d : Nat} {ty : TypeId} {pos : String}
  {af : Array Edge} {g : Option (Nat × Bool)} {op : Op} {w0 : World} {M : Nat → Prop} {σ σK : Hp} {H G Gs Gr : List (Nat × Obj)} {Rep : Hp → Value → Prop}
theorem ow_crsF (hN : Nat.blt d N = true) (hg : gd l0 L g = some true) (hle : Le σ σK) (h : ExC P op N L (St w0 M σK H G) (TR Rep σ))
    (k : ∀ u σ' σK', Le σ σ' → Fresh σ σ' w0 → Rep σ' u → Le σK σK' → Fresh σK σK' w0 → Le σ' σK' → OW P l0 Q rest N ((d, u) :: L) (St w0 M σK' H G)) : OW P l0 Q (⟨some d, op, ty, pos, af, g⟩ :: rest) N L (St w0 M σK H G) :=
  ow_c hN hg h fun u a w' hf ⟨w, hs, σ', h1, h2, h3, h4, h5⟩ => by
    have hk := hs.keep h5
    refine k u σ' (join σK σ') h1 (h2.mono hs.ag.size) h4 (le_join _ _) (fun b o e => ?_) (le_join' hk.im h3) a w' hf (hk.le (hk.im.join h3) fun p hp => ?_)
    · unfold join at e
      cases he : σK b with
      | some o' => rw [he] at e; simp at e; subst e; exact .inl rfl
      | none =>
        rw [he] at e
        rcases h2 b o (by simpa using e) with h6 | h6
        · rw [hle b o h6] at he; cases he
        · exact .inr (Nat.le_trans hs.ag.size h6)
    · unfold join
      rw [hk.fresh hp]
      cases e : σ' p.1 with
      | none => rfl
      | some o =>
        rcases h2 p.1 o e with h6 | h6
        · have := hle p.1 o h6
          rw [hs.fresh hp] at this; cases this
        · exact absurd (hs.lt hp) (Nat.not_lt.2 h6)
theorem ow_frzIg {e n : Nat} {v : Value} {zs : List Int} (hM : ∀ b, M b → False) (hO : OwnSl e 1 v n (intsV zs) Gs) (k : ∀ σ', Le σ σ' → Fresh σ σ' w0 → IntsV σ' v zs → OW P l0 Q l N L (St w0 M σ' H Gr)) : OW P l0 Q l N L (St w0 M σ H (Gs ++ Gr)) := fun a w hf hs => by
  obtain ⟨σ', h1, h2, h3, h4⟩ := freezeI hs hM hO
  exact k σ' h1 h2 h4 a w hf h3
theorem cw_frzIg {c : Code} {e n : Nat} {v : Value} {zs : List Int} (hM : ∀ b, M b → False) (hO : OwnSl e 1 v n (intsV zs) Gs) (k : ∀ σ', Le σ σ' → Fresh σ σ' w0 → IntsV σ' v zs → CW P c Q N L (St w0 M σ' H Gr)) : CW P c Q N L (St w0 M σ H (Gs ++ Gr)) := fun a w hf hs => by
  obtain ⟨σ', h1, h2, h3, h4⟩ := freezeI hs hM hO
  exact k σ' h1 h2 h4 a w hf h3
end
def markD (D : Nat) : Deferred := { target := .collected D, args := #[] }
def marks (Ds : List Nat) : List (Nat × Obj) := Ds.map fun D => (D, .deferred (some []))
theorem enterM {P : Program} {f : FuncId} {fn : Func} {c : Code} {vs : List Value} {w : World} {R : Ending → World → Prop} {N : Nat} (S : World → Prop) (hf : P.funcs[f]? = some fn) (hb : fn.body = some c)
    (hn : fn.ntmps = N) (hle : Nat.ble vs.length N = true) (hS : S w) (h : CW P c (bodyPostM Fence.wide 10 P fn R) N (argL 0 vs) S) : Calls P f vs.toArray w R := by
  refine callsIn_wide.1 (callsIn_of_wp_marks (n := 10) hf hb trivial (wpIn_wide.2 (h _ w ⟨rfl, ?_, fun i v hv => ?_⟩ hS)))
  · have : vs.length ≤ N := Nat.le_of_ble_eq_true hle
    simp [hn]; omega
  · obtain ⟨_, h2⟩ := lk_argL vs 0 i v hv
    have hi : i < vs.length := by have := (List.getElem?_eq_some_iff.1 h2).1; omega
    simp at h2
    have h3 := (List.getElem?_eq_some_iff.1 h2).2
    simp [Array.getElem?_append, hi, h3]
theorem leaves {P : Program} {fn : Func} {tmps : Array Value} {R : Ending → World → Prop} {n : Nat} {w0 : World} {M : Nat → Prop} {σ : Hp} {H : List (Nat × Obj)} (he : ∀ w, St w0 M σ H [] w → LeavesInM Fence.wide n P fn tmps R [] .returning w) :
    ∀ (Ds : List Nat) {w : World}, St w0 M σ H (marks Ds) w → LeavesInM Fence.wide n P fn tmps R (Ds.map markD) .returning w
  | [], w, h => he w h
  | D :: Ds, w, h => by
    have hD : w.heap[D]? = some (.deferred (some [])) := h.ownG (p := (D, .deferred (some []))) (by simp [marks])
    have h2 := (h.putG (i := 0) (b := D) (o' := .deferred (some [])) rfl (.deferred none)).dropG (G' := marks Ds) (List.sublist_cons_self _ _)
    exact ⟨by simp, .inl ⟨D, _, rfl, run_takeDeferred hD, leaves he Ds h2⟩⟩
theorem qw_retM1 [hd : DS] {P : Program} {fn : Func} {R : Ending → World → Prop} {N n : Nat} {L : TL} {w0 : World} {M : Nat → Prop} {σ : Hp} {H : List (Nat × Obj)} {Ds : List Nat} {t : Nat} {v : Value} (hds : hd.ds = Ds.map markD) (hr : fn.results = #[.tmp t]) (hl : lk L t = some v)
    (h : ∀ w, St w0 M σ H [] w → R (.returned v) w) : QW (bodyPostM Fence.wide n P fn R) .ret N L (St w0 M σ H (marks Ds)) := fun a w hf hs => by
  show LeavesInM Fence.wide n P fn a.tmps R a.defers .returning w
  rw [hf.df, hds]
  refine leaves (fun w' hs' => ?_) Ds hs
  refine ⟨v, ?_, h w' hs'⟩
  have hg : a.tmps[t]?.getD undef = v := by rw [hf.get t v hl]; rfl
  simp [results, hr, hg]
theorem St.grown {w0 W W' : World} {M : Nat → Prop} {τ : Hp} {H G : List (Nat × Obj)} {B : Nat} {row : Option Nat} (h : St w0 M τ H G W) (hg : W.grownBy W' row) (hr : ∀ r, row = some r → B ≤ r) (hτ : ∀ b o, τ b = some o → b < B) (hH : ∀ p ∈ H ++ G, p.1 < B) (h0 : w0.heap.size ≤ B) : St w0 M τ H G W' := by
  have key : ∀ k, k < W.heap.size → k < B → W'.heap[k]? = W.heap[k]? := fun k h1 h2 => hg.block k h1 (fun e => by have := hr k e.symm; omega)
  refine ⟨⟨hg.os.trans h.ag.os, hg.tape.trans h.ag.tape, hg.output.trans h.ag.output, Nat.le_trans h.ag.size hg.size, fun k hk hM => ?_⟩, fun b o e => ?_, fun p hp => ?_, St0.dj h, St0.mo h, St0.nd h⟩
  · rw [key k (Nat.lt_of_lt_of_le hk h.ag.size) (by omega)]; exact h.ag.block k hk hM
  · rw [key b (h.im.lt e) (hτ b o e)]; exact h.im b o e
  · rw [key p.1 (h.lt hp) (hH p hp)]; exact St0.ow h p hp
theorem FnT.enters {P : Program} {f : FuncId} [h : FnT P f] (args : Array Value) (w : World) : (callFunc f args).run P w = .ok (.enter f args) w := by
  obtain ⟨fn, h1, h2, h3⟩ := h.ok
  have h2' : ¬ fn.name = "runtime.NumGoroutine" := by simpa using h2
  have h3' : ¬ fn.body = none := fun e0 => by rw [e0] at h3; cases h3
  simp [callFunc, h1, h2', h3']
end Go.Proofs.YtnjomdjkbbhdoaaGreatDoor
namespace Go.Proofs.YtnjomdjkbbhdoaaGreatDoor
open Go.RowKit
set_option linter.unusedVariables false
set_option linter.unusedSimpArgs false
set_option linter.unusedSectionVars false
theorem hadO_inj {e : Nat} {a b : List Bool} (h : hadO e a = hadO e b) : a = b := by
  unfold hadO boolsV at h
  have h2 := (Obj.cells.inj h).1
  have h3 : a.map Value.bool = b.map Value.bool := by simpa using h2
  exact List.map_inj_right (fun x y h => by cases h; rfl) |>.1 h3
theorem St.addG {w0 w : World} {M : Nat → Prop} {σ : Hp} {H G : List (Nat × Obj)} {D : Nat} {o : Obj} (h : St w0 M σ H G w) (ho : w.heap[D]? = some o) (hσ : σ D = none) (hD : w0.heap.size ≤ D) (hn : ∀ p ∈ H ++ G, p.1 ≠ D) : St w0 M σ H ((D, o) :: G) w := by
  have hp : (H ++ (D, o) :: G).Perm ((D, o) :: (H ++ G)) := List.perm_middle
  refine ⟨h.ag, h.im, fun p hm => ?_, fun p hm => ?_, fun p hm => ?_, (hp.map _).nodup_iff.2 ?_⟩
  · rcases List.mem_cons.1 (hp.mem_iff.1 hm) with rfl | hm
    · exact ho
    · exact St0.ow h p hm
  · rcases List.mem_cons.1 (hp.mem_iff.1 hm) with rfl | hm
    · exact hσ
    · exact St0.dj h p hm
  · rcases List.mem_cons.1 (hp.mem_iff.1 hm) with rfl | hm
    · exact .inr hD
    · exact St0.mo h p hm
  · rw [List.map_cons, List.nodup_cons]
    refine ⟨fun hm => ?_, St0.nd h⟩
    obtain ⟨p, h1, h2⟩ := List.mem_map.1 hm
    exact hn p h1 h2
theorem St.less {w0 w : World} {M : Nat → Prop} {σ τ : Hp} {H G : List (Nat × Obj)} (h : St w0 M τ H G w) (hl : Le σ τ) : St w0 M σ H G w := h.le (fun b o e => h.im b o (hl b o e)) fun p hp => by
  cases e : σ p.1 with
  | none => rfl
  | some o =>
    have := hl p.1 o e
    rw [h.fresh hp] at this; cases this
section
variable {P : Program} {Q : Exit → Act → World → Prop} {N : Nat} {L : TL} {S : World → Prop} {α : Type}
def RndD (Dx : α → DS) (N : Nat) (I : α → TL) (T : α → World → Prop) (μ : α → Nat) (m : Nat) (a : Act) (w : World) : Prop := ∃ y, μ y < m ∧ @Fr (Dx y) N (I y) a ∧ T y w
theorem cw_loopD [hd : DS] {c : Code} (Dx : α → DS) (I : α → TL) (T : α → World → Prop) (μ : α → Nat) (x0 : α) (h0 : Dx x0 = hd) (hL : subL L (I x0)) (hS : ∀ w, S w → T x0 w)
    (round : ∀ (x : α) (d : DS), d = Dx x → @CW d P c (Exit.then (RndD Dx N I T μ (μ x)) Q) N (I x) (T x)) : CW P (.loop c) Q N L S := by
  intro a w hf hs
  classical
  refine wp_loop (fun a w => ∃ x, @Fr (Dx x) N (I x) a ∧ T x w)
    (fun a w => if h : ∃ n, ∃ x, μ x = n ∧ @Fr (Dx x) N (I x) a ∧ T x w then Classical.choose (least h) else 0) ⟨x0, by rw [h0]; exact hf.sub hL, hS w hs⟩ ?_
  rintro a w ⟨x, hx, ht⟩
  have hex : ∃ n, ∃ x, μ x = n ∧ @Fr (Dx x) N (I x) a ∧ T x w := ⟨_, x, rfl, hx, ht⟩
  obtain ⟨⟨x, hm, hx, ht⟩, hmin⟩ := Classical.choose_spec (least hex)
  refine wp_mono (round x (Dx x) rfl a w hx ht) ?_
  intro e a' w' h
  cases e with
  | normal =>
    obtain ⟨y, hy, hfy, hty⟩ := h
    refine ⟨⟨y, hfy, hty⟩, ?_⟩
    have hex' : ∃ n, ∃ x, μ x = n ∧ @Fr (Dx x) N (I x) a' ∧ T x w' := ⟨_, y, rfl, hfy, hty⟩
    rw [dif_pos hex', dif_pos hex, ← hm]
    exact Nat.lt_of_le_of_lt ((Classical.choose_spec (least hex')).2 _ ⟨y, rfl, hfy, hty⟩) hy
  | _ => exact h
theorem qw_roundD [hd : DS] {Dx : α → DS} {I : α → TL} {T : α → World → Prop} {μ : α → Nat} {m : Nat} (y : α) (h0 : hd = Dx y) (hmu : μ y < m) (hL : subL L (I y)) (hS : ∀ w, S w → T y w) : QW (Exit.then (RndD Dx N I T μ m) Q) .normal N L S :=
  fun a w hf hs => ⟨y, hmu, by rw [← h0]; exact hf.sub hL, hS w hs⟩
end
theorem cw_frzIs [DS] {P : Program} {Q : Exit → Act → World → Prop} {c : Code} {N : Nat} {L : TL} {w0 : World} {σ τ : Hp} {H Gs Gr : List (Nat × Obj)} {e n : Nat} {v : Value} {zs : List Int} (hl : Le σ τ) (hO : OwnSl e 1 v n (intsV zs) Gs)
    (k : ∀ τ' σ', Le τ τ' → Le σ σ' → Fresh σ σ' w0 → Le σ' τ' → IntsV σ' v zs → CW P c Q N L (St w0 (fun _ => False) τ' H Gr)) : CW P c Q N L (St w0 (fun _ => False) τ H (Gs ++ Gr)) := fun a w hf hs => by
  have hn : zs.length = n := by have := hO.1; simpa [intsV] using this
  subst hn
  rcases hO.2 with ⟨rfl, h0, rfl⟩ | ⟨g, c, cur, rfl, rfl, h2, h3, h4, h5⟩
  · obtain rfl := List.eq_nil_of_length_eq_zero h0
    exact k τ σ (Le.refl _) (Le.refl _) (Fresh.refl _ _) hl (IntsV.nil _) a w hf hs
  · have hs1 : St w0 (fun _ => False) τ ((g, .cells cur e (0, 0)) :: H) Gr w := hs.ofG
    have hg : τ g = none := hs1.fresh (p := (g, .cells cur e (0, 0))) (by simp)
    have hσg : σ g = none := by
      cases e9 : σ g with
      | none => rfl
      | some o => rw [hl g o e9] at hg; cases hg
    refine k (ext τ g (.cells cur e)) (ext σ g (.cells cur e)) (le_ext hg) (le_ext hσg) (fun b o hb => ?_) (ext_le hl g _) ⟨_, c, rfl, h2, .inr ⟨g, 0, rfl, cur, e, (0, 0), ext_self _ _ _, fun j u hj => ?_⟩⟩ a w hf hs1.freeze
    · unfold ext at hb
      split at hb
      · rename_i hbg; subst hbg; exact .inr ((St0.mo hs1 (b, .cells cur e (0, 0)) (by simp)).resolve_left id)
      · exact .inl hb
    · rw [← h5, List.getElem?_take] at hj
      split at hj
      · simpa using hj
      · cases hj
section
variable [DS] {P : Program} {Q : Exit → Act → World → Prop} {N : Nat} {L : TL} {S : World → Prop}
theorem cw_scope {c : Code} (h : CW P c (Exit.noGoto Q) N L S) : CW P (.scope c) Q N L S := fun a w hf hs => wp_scope_straight (h a w hf hs)
theorem cw_label {l : Nat} (h : QW Q .normal N L S) : CW P (.label l) Q N L S := fun a w hf hs => wp_label (h a w hf hs)
theorem qw_nogoto_ret (h : QW Q .ret N L S) : QW (Exit.noGoto Q) .ret N L S := h
end
theorem ex_nilckD [DS] {P : Program} {N : Nat} {L : TL} {S : World → Prop} {x : Operand} {a : Addr} (hx : ev L x = some (.pointer (some a))) : Ex P (.nilCheck x) N L S (.pointer (some a)) := fun ac w hf hs d ty pos af g => by
  simp [execOp, hf.eval hx]
section
variable {P : Program} {Q : Exit → Act → World → Prop} {N : Nat} {L : TL}
theorem cw_range [hd : DS] {gop : Operand} {p0 da ida idb idr gf tb hb bm b1 : Nat} {aty : TypeId} {apos : String} {bops : List Oper} {its : List Item} {known : List Int} {had0 : List Bool} {τ : Hp} {w0 : World} {Ds : List Nat} [hF : FnT P gf]
    (hg : ev L gop = some (.func (.func gf) #[] #[.pointer (some ⟨b1, 0, none⟩)]))
    (hseq : ∀ w, St w0 (fun _ => False) τ [(bm, .cells #[.bool false] tb), (hb, hadO tb had0)] (marks Ds) w →
      SeqStopsK Fence.wide 9 P gf #[.pointer (some ⟨b1, 0, none⟩)] (fun x : Hx its known => #[.int .i64 ((x.1 : Nat) : Int)]) (KpE w.heap.size hb bm tb its known) (SAll its known had0) (fun _ => True) (bnd (its.length + 1)) w)
    (hso : Sound its known had0) (hpN : Nat.blt p0 N = true) (hdN : Nat.blt da N = true)
    (hbody : ∀ (l : Nat) (x : Hx its known) (had : List Bool) (bb : Bool) (W : World) (Q' : Exit → Act → World → Prop), had.length = its.length →
      (∀ a w', St W (keysOf [(bm, .cells #[.bool bb] tb), (hb, hadO tb had)]) τ [(bm, .cells #[.bool true] tb), (hb, hadO tb (had.set x.1 true))] [] w' → Q' .normal a w') →
      @OI DS.none (Fence.wide.inRound l) 8 P bops Q' bops N ((da, .int .i64 ((x.1 : Nat) : Int)) :: (p0, .int .i64 ((x.1 : Nat) : Int)) :: L) (St W (keysOf [(bm, .cells #[.bool bb] tb), (hb, hadO tb had)]) τ [(bm, .cells #[.bool bb] tb), (hb, hadO tb had)] []))
    (k : ∀ (d' : DS) (D : Nat) (xs : List (Hx its known)) (had' : List Bool), d'.ds = markD D :: hd.ds → SAll its known had0 xs → Sound its known had' → HadLe had0 had' → (xs = [] → had' = had0) → (∀ x ∈ xs, had'.getD x.1 false = true) →
      @QW d' Q .normal N L (St w0 (fun _ => False) τ [(bm, .cells #[.bool (!xs.isEmpty)] tb), (hb, hadO tb had')] (marks (D :: Ds)))) :
    CW P (.rangeFunc gop #[p0] (.region ida [⟨some da, .assign (.tmp p0), aty, apos, #[], none⟩].toArray false) (.block idb (.region idr bops.toArray false))) Q N L
      (St w0 (fun _ => False) τ [(bm, .cells #[.bool false] tb), (hb, hadO tb had0)] (marks Ds)) := by
  intro a w hf hs
  have hbmlt : bm < w.heap.size := hs.lt (p := (bm, .cells #[.bool false] tb)) (by simp)
  have hbhlt : hb < w.heap.size := hs.lt (p := (hb, hadO tb had0)) (by simp)
  have hmks : ∀ p ∈ marks Ds, p.1 < w.heap.size := fun p hp => hs.lt (by simp [hp])
  have hne : hb ≠ bm := by
    have := St0.nd hs
    simp only [List.cons_append, List.map_cons, List.nodup_cons, List.mem_cons, not_or] at this
    exact fun e => this.1.1 e.symm
  obtain ⟨I, hI⟩ : ∃ I : List (Hx its known) → World → Prop, I = fun pre W => ∃ had, Sound its known had ∧ HadLe had0 had ∧ (pre = [] → had = had0) ∧ (∀ x ∈ pre, had.getD x.1 false = true) ∧
    St w0 (fun _ => False) τ [(bm, .cells #[.bool (!pre.isEmpty)] tb), (hb, hadO tb had)] (marks Ds) W := ⟨_, rfl⟩
  refine wpIn_wide.1 (wpIn_rangeFunc_ownF (n := 10) rfl (by decide) (gf := gf) (lb := #[.pointer (some ⟨b1, 0, none⟩)]) (hf.eval hg) trivial (fun args w => FnT.enters args w) (hseq w hs) (fun h k => KpE.trans h k)
    (fun W l o o' hl ho hc _ => KpE.turn W l o o' hl hbhlt ho hc) (Below.refl _ _) (fun _ => rfl) I (fun _ _ _ => False) ?hI (fun c s W W' row h _ _ => h) ?h0
    (fun x => ({ tmps := a.tmps.setIfInBounds p0 (.int .i64 ((x.1 : Nat) : Int)), defers := [] } : Act).put (some da) (.int .i64 ((x.1 : Nat) : Int))) ?ass ?body ?done (fun D c pre W _ _ h _ => h.elim))
  case hI =>
    rw [hI]
    rintro s A B row ⟨had, c1, c2, c3, c4, c5⟩ hg' hr
    refine ⟨had, c1, c2, c3, c4, c5.grown hg' (fun r e => (hr r e).1) (fun b o e => hs.im.lt e) (fun p hp => ?_) hs.ag.size⟩
    rcases List.mem_append.1 hp with hp | hp
    · simp only [List.mem_cons, List.not_mem_nil, or_false] at hp
      rcases hp with rfl | rfl
      · exact hbmlt
      · exact hbhlt
    · exact hmks p hp
  case h0 =>
    rw [hI]
    exact ⟨had0, hso, HadLe.refl _, fun _ => rfl, (fun x hx => by cases hx), hs⟩
  case ass =>
    intro l x W K hK
    refine wpIn_region_lit ?_
    have hsz : p0 < a.tmps.size := by rw [hf.sz]; exact Nat.le_of_ble_eq_true hpN
    unfold wpListIn
    rw [if_pos (by simp [Region.wanted])]
    refine ⟨fun f _ => trivial, ?_⟩
    have hrun : (execOp (({ tmps := ((#[p0] : Array Tmp).zip #[Value.int .i64 ((x.1 : Nat) : Int)]).foldl (fun t (p, v) => t.setIfInBounds p v) a.tmps, defers := [] } : Act).eval) ⟨some da, .assign (.tmp p0), aty, apos, #[], none⟩).run P W = .ok (.value (.int .i64 ((x.1 : Nat) : Int))) W := by
      simp [execOp, Act.eval, hsz]
    rw [Oper.semAt_plain _ _ _ (fun c h => by cases h), hrun]
    have e9 : ((#[p0] : Array Tmp).zip #[Value.int .i64 ((x.1 : Nat) : Int)]).foldl (fun t (p, v) => t.setIfInBounds p v) a.tmps = a.tmps.setIfInBounds p0 (.int .i64 ((x.1 : Nat) : Int)) := by simp
    rw [← e9] at hK
    exact hK
  case body =>
    rw [hI]
    rintro l pre x W ⟨had, c1, c2, c3, c4, c5⟩ hlt
    refine wpIn_block (wpIn_region_lit ?_)
    have c6 : St w0 (fun _ => False) τ [] ([(bm, .cells #[.bool (!pre.isEmpty)] tb), (hb, hadO tb had)] ++ marks Ds) W := c5
    have hbm1 : W.heap[bm]? = some (.cells #[.bool (!pre.isEmpty)] tb) := c5.own (p := (bm, .cells #[.bool (!pre.isEmpty)] tb)) (by simp)
    have hhb1 : W.heap[hb]? = some (hadO tb had) := c5.own (p := (hb, hadO tb had)) (by simp)
    have hxl : x.1 < had.length := by rw [c1.1]; exact x.2.1
    refine hbody l x had (!pre.isEmpty) W _ c1.1 (fun a' w' h' => ?_) _ W ?_ (St.flip (St.has c6).start)
    · have h2 : St W (keysOf [(bm, .cells #[.bool (!pre.isEmpty)] tb), (hb, hadO tb had)]) τ [] [(bm, .cells #[.bool true] tb), (hb, hadO tb (had.set x.1 true))] w' := St.flip h'
      have hblk : ∀ q, q < W.heap.size → q ≠ bm → q ≠ hb → w'.heap[q]? = W.heap[q]? := fun q hq h3 h4 => h'.ag.block q hq (by
        rintro ⟨p, hp, rfl⟩
        simp only [List.mem_cons, List.not_mem_nil, or_false] at hp
        rcases hp with rfl | rfl
        · exact h3 rfl
        · exact h4 rfl)
      refine ⟨⟨h'.ag.size, fun q o hq ho => ?_⟩, ⟨h'.ag.size, fun q o h3 h4 hq _ => ?_, fun had2 hq hs2 => ⟨had.set x.1 true, h'.own (p := (hb, hadO tb (had.set x.1 true))) (by simp), ?_, c1.set x.2.2⟩⟩,
        had.set x.1 true, c1.set x.2.2, c2.trans (HadLe.set _ _), fun e => absurd e (by simp), fun y hy => ?_, ?_⟩
      · rw [hblk q (Array.getElem?_eq_some_iff.1 hq).1 (fun e => by subst e; rw [hbm1] at hq; cases hq; cases ho) (fun e => by subst e; rw [hhb1] at hq; cases hq; cases ho)]; exact hq
      · rw [hblk q (Array.getElem?_eq_some_iff.1 hq).1 h4 h3]; exact hq
      · rw [hhb1] at hq
        have e9 : had = had2 := hadO_inj (Option.some.inj hq)
        rw [← e9]; exact HadLe.set _ _
      · rcases List.mem_append.1 hy with hy | hy
        · exact HadLe.set _ _ _ (c4 y hy)
        · simp only [List.mem_singleton] at hy
          subst hy
          rw [getD_set hxl]; simp
      · have h3 := c6.mutK (Fresh.refl _ _) (Le.refl _) h2
        have e9 : (!(pre ++ [x]).isEmpty) = true := by simp
        rw [e9]
        exact h3
    · have hfp : @Fr DS.none N ((p0, .int .i64 ((x.1 : Nat) : Int)) :: L) ({ tmps := a.tmps.setIfInBounds p0 (.int .i64 ((x.1 : Nat) : Int)), defers := [] } : Act) := by
        have hp0 : p0 < a.tmps.size := by rw [hf.sz]; exact Nat.le_of_ble_eq_true hpN
        refine @Fr.mk DS.none _ _ _ rfl (by simpa using hf.sz) (fun i u hu => ?_)
        rw [lk_cons] at hu
        split at hu
        · rename_i e; subst e; cases hu; simp [hp0]
        · rename_i e
          rw [Array.getElem?_setIfInBounds_ne e]
          exact hf.get i u hu
      exact @Fr.put DS.none _ _ _ _ _ hfp hdN
  case done =>
    rw [hI]
    rintro D xs W hD hS ⟨had', c1, c2, c3, c4, c5⟩ hK
    refine k ⟨markD D :: hd.ds⟩ D xs had' rfl hS c1 c2 c3 c4 _ W (@Fr.mk ⟨markD D :: hd.ds⟩ _ _ _ (by show _ :: a.defers = _; rw [hf.df]; rfl) hf.sz hf.get) (c5.addG hK ?_ (Nat.le_trans hs.ag.size hD) (fun p hp => ?_))
    · cases e : τ D with
      | none => rfl
      | some o => exact absurd (hs.im.lt e) (Nat.not_lt.2 hD)
    · rcases List.mem_append.1 hp with hp | hp
      · simp only [List.mem_cons, List.not_mem_nil, or_false] at hp
        rcases hp with rfl | rfl
        · exact Nat.ne_of_lt (Nat.lt_of_lt_of_le hbmlt hD)
        · exact Nat.ne_of_lt (Nat.lt_of_lt_of_le hbhlt hD)
      · exact Nat.ne_of_lt (Nat.lt_of_lt_of_le (hmks p hp) hD)
end
open Classical in
noncomputable def closL (its : List Item) (known : List Int) : List Int := ((List.range its.length).filter fun k => decide (Had its known k)).map fun (k : Nat) => (k : Int)
theorem clos_closL (its : List Item) (known : List Int) : Clos its known (closL its known) := by
  classical
  unfold closL
  constructor
  · rw [List.pairwise_map]
    refine List.Pairwise.imp (fun h => by omega) (List.Pairwise.filter _ (List.pairwise_lt_range))
  · intro x
    rw [List.mem_map]
    constructor
    · rintro ⟨k, hk, rfl⟩
      obtain ⟨h1, h2⟩ := List.mem_filter.1 hk
      exact ⟨k, List.mem_range.1 h1, rfl, of_decide_eq_true h2⟩
    · rintro ⟨k, h1, rfl, h2⟩
      exact ⟨k, List.mem_filter.2 ⟨List.mem_range.2 h1, decide_eq_true h2⟩, rfl⟩
theorem Clos.closL {its : List Item} {known zs : List Int} (h : Clos its known zs) : zs = closL its known := h.uniq (clos_closL _ _)
theorem sound0 (its : List Item) (known : List Int) : Sound its known (List.replicate its.length false) := ⟨by simp, fun n h => by
  simp only [List.getD_eq_getElem?_getD, List.getElem?_replicate] at h
  split at h <;> simp at h⟩
theorem outB_step {had : List Bool} {i : Nat} (hi : i < had.length) : outB 0 (had.take (i + 1)) = outB 0 (had.take i) ++ (if had.getD i false = true then [(i : Int)] else []) := by
  rw [List.take_succ_eq_append_getElem hi, outB_app, List.length_take, Nat.min_eq_left (by omega)]
  congr 1
  rw [List.getD_eq_getElem?_getD, List.getElem?_eq_getElem hi]
  simp only [outB, Option.getD_some, Nat.zero_add]
theorem outB_len : ∀ (had : List Bool) (n : Nat), (outB n had).length ≤ had.length
  | [], n => by simp [outB]
  | b :: r, n => by
    have := outB_len r (n + 1)
    rw [outB]
    split <;> simp <;> omega
theorem ld_had {w0 : World} {M : Nat → Prop} {σ : Hp} {H G : List (Nat × Obj)} {b e i : Nat} {had : List Bool} (j : Nat) (hH : H[j]? = some (b, hadO e had)) (hi : i < had.length) : ∀ w, St w0 M σ H G w → w.cell? ⟨b, 0 + i * 1, none⟩ = some (.bool (had.getD i false)) := fun w hs => by
  have hb := hs.own (List.mem_of_getElem? hH)
  rw [cell_of_blk hb]
  simp [boolsV, List.getD_eq_getElem?_getD, hi]
def RepF (F be : Nat) (σ : Hp) (u : Value) : Prop := ∃ b1, u = .func (.func F) #[] #[.pointer (some ⟨b1, 0, none⟩)] ∧ CellsAt σ b1 0 [.pointer (some ⟨be, 0, none⟩)]
end Go.Proofs.YtnjomdjkbbhdoaaGreatDoor
namespace Go.Proofs.YtnjomdjkbbhdoaaGreatDoor
open Go.RowKit
set_option linter.unusedVariables false
set_option linter.unusedSimpArgs false
set_option linter.unusedSectionVars false
def NewS0 (w0 : World) (σ : Hp) (X : List (Nat × Obj)) (e : Nat) (w : World) (v : Value) : Prop := ∃ b, v = .slice (some ⟨b, 0, none⟩) 0 0 ∧ w.heap[b]? = some (.cells #[] e (0, 0)) ∧ w0.heap.size ≤ b ∧ σ b = none ∧ ∀ p ∈ X, p.1 ≠ b
def NewRk (w0 : World) (σ : Hp) (X : List (Nat × Obj)) (e size n : Nat) (xs : List Value) (w : World) (v : Value) : Prop := ∃ Gs, OwnSl e size v n xs Gs ∧ Own Gs w ∧ ∀ p ∈ Gs, w0.heap.size ≤ p.1 ∧ σ p.1 = none ∧ ∀ q ∈ X, q.1 ≠ p.1
theorem NewS0.pers {w0 : World} {σ : Hp} {X : List (Nat × Obj)} {e : Nat} : ∀ w w' v, NewS0 w0 σ X e w v → Below w.heap.size w w' → NewS0 w0 σ X e w' v := fun w w' v ⟨b, h1, h2, h3⟩ hb =>
  ⟨b, h1, by rw [hb.block b (Array.getElem?_eq_some_iff.1 h2).1]; exact h2, h3⟩
theorem NewRk.pers {w0 : World} {σ : Hp} {X : List (Nat × Obj)} {e size n : Nat} {xs : List Value} : ∀ w w' v, NewRk w0 σ X e size n xs w v → Below w.heap.size w w' → NewRk w0 σ X e size n xs w' v := fun w w' v ⟨Gs, h1, h2, h3⟩ hb =>
  ⟨Gs, h1, fun p hp => by rw [hb.block p.1 (Array.getElem?_eq_some_iff.1 (h2 p hp)).1]; exact h2 p hp, h3⟩
section
variable {P : Program} {l0 : List Oper} {Q : Exit → Act → World → Prop} {r l : List Oper} {fin : List KE → Prop} {N i : Nat} {L0 L : TL} {K : List KE} {d : Nat} {ty : TypeId} {pos : String} {af : Array Edge} {g : Option (Nat × Bool)} {op : Op} {w0 : World} {M : Nat → Prop} {σ : Hp} {H G : List (Nat × Obj)}
theorem flow_slit0 {t e size bytes : Nat} [h : AppT P t e size bytes] (hg : gd l0 (tlK af.toList L0 K) g = some true)
    (k : Flow P l0 L0 (St w0 M σ H G) N fin r (i + 1) (⟨i, d, .sat (NewS0 w0 σ (H ++ G) e)⟩ :: K)) : Flow P l0 L0 (St w0 M σ H G) N fin (⟨some d, .buildSlice t 0 #[], ty, pos, af, g⟩ :: r) i K :=
  flow_sat NewS0.pers (obk (ob_w hg fun a w hf hs dd tt pp aa gg => by
    obtain ⟨h1, ⟨i, z, h2, h3, _⟩, _⟩ := h.ok
    refine ⟨.slice (some ⟨w.heap.size, 0, none⟩) 0 0, w.alloc (.cells #[] e), ?_, below_alloc1 _ _, w.heap.size, rfl, heap_push_new _ _, hs.ag.size, ?_, fun p hp => Nat.ne_of_lt (hs.lt hp)⟩
    · simp [execOp, Instr.buildSlice, run_underlying h1, sizeOf, typeInfo, h2, Instr.fill, newRow]
      rw [show (Array.range 0) = #[] from by simp]
      simp
    · cases e9 : σ w.heap.size with
      | none => rfl
      | some o => exact absurd (hs.im.lt e9) (Nat.lt_irrefl _))) k
theorem run_app0 {t e size bytes : Nat} [hA : AppT P t e size bytes] {b0 m c : Nat} {p : Option Addr} {news : List Value} {ty : TypeId} {w : World} (hl : news.length = m * size) (hsrc : m = 0 ∨ ∃ b o, p = some ⟨b, o, none⟩ ∧ w.rangeAt b o news) (h63 : m ≤ maxLen) (hb : m * bytes ≤ 140737488355328) :
    ∃ v' w', (Builtin.append_ #[t, t] ty #[.slice (some ⟨b0, 0, none⟩) 0 0, .slice p m c]).run P w = .ok v' w' ∧ Below w.heap.size w w' ∧
      ((m = 0 ∧ v' = .slice (some ⟨b0, 0, none⟩) 0 0 ∧ w' = w) ∨ (∃ cap cur, v' = .slice (some ⟨w.heap.size, 0, none⟩) m cap ∧ w'.heap[w.heap.size]? = some (.cells cur e (0, 0)) ∧ m ≤ cap ∧ cap ≤ maxLen ∧ cur.size = cap * size ∧ cur.toList.take (m * size) = news)) := by
  obtain ⟨ht, ⟨i, z, hi, hz, rfl, rfl, hzs⟩, hpos⟩ := hA.ok
  by_cases hm : m = 0
  · subst hm
    refine ⟨_, w, ?_, Below.refl _ _, .inl ⟨rfl, rfl, rfl⟩⟩
    cases p <;> simp [Builtin.append_, run_underlying ht, sizeOf, typeInfo, hi, Builtin.lenOf, Builtin.firstCells, loadCells, loadCellsFrom, storeCells]
  · obtain ⟨b, o, rfl, hr⟩ := hsrc.resolve_left hm
    have hnews : ∀ j u, news[j]? = some u → w.cell? ((⟨b, o, none⟩ : Addr).add j) = some u := fun j u hj => by rw [addr_add]; exact hr j u hj
    have h63' : m ≤ 9223372036854775807 := by unfold maxLen at h63; omega
    have hrun := run_append_grow (P := P) w t ty e i z ht hi hz ⟨b0, 0, none⟩ 0 0 [] (by simp) (fun j v hj => by simp at hj) ⟨b, o, none⟩ m c news hl hnews (by omega) (by omega) (growslice_fits (by omega) (by simpa using hb))
    simp only [Nat.zero_add, List.nil_append, Array.empty_append] at hrun
    have hge := grownCap_ge w m 0 e
    have hcm : grownCap w m 0 e ≤ maxLen := grownCap_le_maxLen w m 0 e h63
    refine ⟨_, _, hrun, (Below.drewB w).alloc (show w.heap.size ≤ w.drew.heap.size from Nat.le_refl _) _, .inr ⟨grownCap w m 0 e, news.toArray ++ Builtin.zeroCells z.cells (grownCap w m 0 e - m), rfl, heap_push_new w.drew _, hge, hcm, ?_, ?_⟩⟩
    · simp only [Array.size_append, List.size_toArray, size_zeroCells, hzs, hl, ← Nat.add_mul, Nat.zero_add, List.length_nil]
      congr 1
      omega
    · simp only [Array.toList_append]
      rw [show m * i.size = news.length from hl.symm]
      simp
theorem flow_app0 (u : Nat) {t e size bytes m c : Nat} [AppT P t e size bytes] {x y : Operand} {X : List (Nat × Obj)} {p : Option Addr} {news : List Value} (hX : X = H ++ G) (hq : satK af.toList K u = some (NewS0 w0 σ X e)) (hx : ∀ v, ev ((u, v) :: tlK af.toList L0 K) x = some v) (hy : ∀ v, ev ((u, v) :: tlK af.toList L0 K) y = some (.slice p m c))
    (hg : ∀ v, gd l0 ((u, v) :: tlK af.toList L0 K) g = some true) (hl : news.length = m * size) (hsrc : m = 0 ∨ ∃ b o, p = some ⟨b, o, none⟩ ∧ ∀ w, St w0 M σ H G w → w.rangeAt b o news) (h63 : m ≤ maxLen) (hb : m * bytes ≤ 140737488355328)
    (k : Flow P l0 L0 (St w0 M σ H G) N fin r (i + 1) (⟨i, d, .sat (NewRk w0 σ X e size m news)⟩ :: K)) :
    Flow P l0 L0 (St w0 M σ H G) N fin (⟨some d, .call { callee := .builtin .append, args := #[x, y], argTypes := #[t, t] }, ty, pos, af, g⟩ :: r) i K :=
  flow_sat NewRk.pers (obk_sat u hq fun v => ob_w (hg v) fun a w hf hs dd tt pp aa gg => by
    obtain ⟨hs, b0, rfl, h2, h3, h4, h5⟩ := hs
    obtain ⟨v', w', h6, h7, h8⟩ := run_app0 (P := P) (t := t) (b0 := b0) (ty := tt) (c := c) hl (hsrc.imp id fun ⟨b, o, e1, h⟩ => ⟨b, o, e1, h w hs⟩) h63 hb
    refine ⟨v', w', by simp [execOp, resolve, invoke, builtin, hf.eval (hx _), hf.eval (hy _), h6], h7, ?_⟩
    rcases h8 with ⟨rfl, rfl, rfl⟩ | ⟨cap, cur, rfl, k1, k2, k3, k4, k5⟩
    · have hn : news = [] := List.eq_nil_of_length_eq_zero (by simpa using hl)
      subst hn
      refine ⟨[(b0, .cells #[] e (0, 0))], ⟨by simp, .inr ⟨b0, 0, #[], rfl, rfl, Nat.le_refl _, Nat.zero_le _, by simp, by simp⟩⟩, fun q hq => ?_, fun q hq => ?_⟩
      · simp only [List.mem_singleton] at hq; subst hq; exact h2
      · simp only [List.mem_singleton] at hq; subst hq; exact ⟨h3, h4, h5⟩
    · refine ⟨[(w.heap.size, .cells cur e (0, 0))], ⟨hl, .inr ⟨w.heap.size, cap, cur, rfl, rfl, k2, k3, k4, k5⟩⟩, fun q hq => ?_, fun q hq => ?_⟩
      · simp only [List.mem_singleton] at hq; subst hq; exact k1
      · simp only [List.mem_singleton] at hq; subst hq
        refine ⟨hs.ag.size, ?_, fun z hz => ?_⟩
        · cases e9 : σ w.heap.size with
          | none => rfl
          | some o => exact absurd (hs.im.lt e9) (Nat.lt_irrefl _)
        · rw [hX] at hz; exact Nat.ne_of_lt (hs.lt hz)) k
theorem ow_openR {e size n : Nat} {xs : List Value} {v : Value} (k : ∀ Gs, OwnSl e size v n xs Gs → OW P l0 Q l N L (St w0 M σ H (Gs ++ G))) : OW P l0 Q l N L (fun w => St w0 M σ H G w ∧ NewRk w0 σ (H ++ G) e size n xs w v) := fun a w hf hs => by
  obtain ⟨hs, Gs, hO, ho, hx⟩ := hs
  refine k Gs hO a w hf ⟨hs.ag, hs.im, fun p hp => ?_, fun p hp => ?_, fun p hp => ?_, ?_⟩
  · rcases List.mem_append.1 hp with hp | hp
    · exact hs.own hp
    · rcases List.mem_append.1 hp with hp | hp
      · exact ho p hp
      · exact hs.ownG hp
  · rcases List.mem_append.1 hp with hp | hp
    · exact hs.fresh (by simp [hp])
    · rcases List.mem_append.1 hp with hp | hp
      · exact (hx p hp).2.1
      · exact hs.fresh (by simp [hp])
  · rcases List.mem_append.1 hp with hp | hp
    · exact St0.mo hs p (by simp [hp])
    · rcases List.mem_append.1 hp with hp | hp
      · exact .inr (hx p hp).1
      · exact St0.mo hs p (by simp [hp])
  · have hnd := St0.nd hs
    rw [List.map_append, List.nodup_append] at hnd
    obtain ⟨n1, n2, n3⟩ := hnd
    rw [List.map_append, List.map_append, List.nodup_append]
    refine ⟨n1, ?_, fun x hx1 y hy => ?_⟩
    · rw [List.nodup_append]
      refine ⟨hO.nd, n2, fun x hx1 y hy => ?_⟩
      obtain ⟨p, hp, rfl⟩ := List.mem_map.1 hx1
      obtain ⟨q, hq, rfl⟩ := List.mem_map.1 hy
      exact fun e9 => (hx p hp).2.2 q (by simp [hq]) e9.symm
    · rcases List.mem_append.1 hy with hy | hy
      · obtain ⟨p, hp, rfl⟩ := List.mem_map.1 hy
        obtain ⟨q, hq, rfl⟩ := List.mem_map.1 hx1
        exact (hx p hp).2.2 q (by simp [hq])
      · exact n3 x hx1 y hy
end
end Go.Proofs.YtnjomdjkbbhdoaaGreatDoor
namespace Go.Proofs.YtnjomdjkbbhdoaaGreatDoor
set_option linter.unusedVariables false
set_option linter.unusedSimpArgs false
theorem findI_first {p : T → Bool} : ∀ {ks : List T} {i : Nat}, findI p ks = (i : Int) → ∀ j (h : j < ks.length), j < i → p ks[j] = false
  | [], i, h, j, hj, _ => absurd hj (Nat.not_lt_zero _)
  | k :: r, i, h, j, hj, hlt => by
    have hg := findI_ge p r
    simp only [findI] at h
    split at h
    · omega
    · rename_i hk
      split at h
      · omega
      · cases j with
        | zero => simpa using hk
        | succ j =>
          obtain ⟨m, rfl⟩ : ∃ m, i = m + 1 := ⟨i - 1, by omega⟩
          exact findI_first (ks := r) (i := m) (by omega) j (by simpa using hj) (by omega)
def isV (ts : List T) (had : List Bool) (t : T) : Bool := decide (0 ≤ posT ts t) && hadAt had (posT ts t)
def withV (l : List T) : List T → Option (List T)
  | [] => some l
  | n :: r => if 0 ≤ posT l n then withV (l.eraseIdx (posT l n).toNat) r else none
def withB (ts : List T) (had : List Bool) (ks ns : List T) : Bool := match withV ks ns with | some rs => rs.all (isV ts had) | none => false
def powRow (ts : List T) (had : List Bool) (ks : List T) : Nat → List T → Bool
  | _, [] => false
  | n, y :: r => (had.getD n false && decide (y.op = 7) && withB ts had ks y.kids) || powRow ts had ks (n + 1) r
def powerR (ts : List T) (had : List Bool) (ks : List T) : Bool := ks.all (isV ts had) || powRow ts had ks 0 ts
def madeR (ts : List T) (had : List Bool) (n : Nat) (t : T) : Bool :=
  if t.op = 2 ∨ t.op = 3 ∨ t.op = 4 ∨ t.op = 6 then isV ts had (t.kids.headD zeroT) && allB had (mentS t.data (n : Int)) else if t.op = 5 then allB had (mentS t.data (n : Int)) else if t.op = 7 then powerR ts had t.kids else false
theorem isV_in {ts : List T} {had : List Bool} {t : T} (h : t ∈ ts) : isV ts had t = hadAt had (posT ts t) := by
  unfold isV
  rw [decide_eq_true (posT_iff.2 h)]; rfl
theorem all_isV {ts : List T} {had : List Bool} {ks : List T} (h : ∀ k ∈ ks, k ∈ ts) : ks.all (isV ts had) = allB had (ks.map (posT ts)) := by
  unfold allB
  rw [List.all_map]
  induction ks with
  | nil => rfl
  | cons k r ih =>
    rw [List.all_cons, List.all_cons, isV_in (h k (by simp)), ih (fun x hx => h x (List.mem_cons_of_mem _ hx))]
    rfl
theorem posT_inj {ts : List T} {a b : T} (ha : a ∈ ts) (hb : b ∈ ts) : posT ts a = posT ts b ↔ a = b := (posT_eq (posT_iff.2 ha) (posT_iff.2 hb)).trans ord_zero
theorem eraseIdx_map' {α β : Type} (f : α → β) (l : List α) (i : Nat) : (l.map f).eraseIdx i = (l.eraseIdx i).map f := by
  rw [List.eraseIdx_eq_take_drop_succ, List.eraseIdx_eq_take_drop_succ, List.map_append, List.map_take, List.map_drop]
theorem withV_less {ts : List T} : ∀ {ns l : List T}, (∀ x ∈ l, x ∈ ts) → (∀ n ∈ ns, n ∈ ts) → lessV (l.map (posT ts)) (ns.map (posT ts)) = (withV l ns).map (List.map (posT ts)) ∧ ∀ r, withV l ns = some r → (∀ x ∈ r, x ∈ l) ∧ r.length ≤ l.length
  | [], l, hl, hn => ⟨by simp [lessV, withV], fun r h => by cases h; exact ⟨fun x hx => hx, Nat.le_refl _⟩⟩
  | n :: ns, l, hl, hn => by
    have hmem : posT ts n ∈ l.map (posT ts) ↔ n ∈ l := by
      rw [List.mem_map]
      constructor
      · rintro ⟨x, hx, e⟩
        rw [← (posT_inj (hl x hx) (hn n (by simp))).1 e]; exact hx
      · intro h; exact ⟨n, h, rfl⟩
    rw [List.map_cons]
    simp only [lessV, withV]
    by_cases h : n ∈ l
    · have h0 := posT_iff.2 h
      obtain ⟨i, hi⟩ : ∃ i : Nat, posT l n = (i : Int) := ⟨(posT l n).toNat, by omega⟩
      rw [if_pos (hmem.2 h), if_pos h0, hi, Int.toNat_natCast]
      have hat := posT_is hi
      obtain ⟨hlt, he⟩ := List.getElem?_eq_some_iff.1 hat
      have hidx : (l.map (posT ts)).idxOf (posT ts n) = i := by
        unfold List.idxOf
        refine (List.findIdx_eq (by simpa using hlt)).2 ⟨by simp [he], fun j hj => ?_⟩
        have hf := findI_first hi j (by omega) hj
        simp only [List.getElem_map, beq_eq_false_iff_ne, ne_eq]
        intro e
        have := (posT_inj (hl _ (List.getElem_mem _)) (hn n (by simp))).1 e
        rw [this] at hf
        simp [ord_self] at hf
      rw [List.erase_eq_eraseIdx_of_idxOf hidx, eraseIdx_map']
      have hsub : ∀ x ∈ l.eraseIdx i, x ∈ l := fun x hx => List.mem_of_mem_eraseIdx hx
      obtain ⟨a1, a2⟩ := withV_less (ns := ns) (l := l.eraseIdx i) (fun x hx => hl x (hsub x hx)) (fun x hx => hn x (List.mem_cons_of_mem _ hx))
      refine ⟨a1, fun r hr => ?_⟩
      obtain ⟨b1, b2⟩ := a2 r hr
      have hle := List.length_eraseIdx_le l i
      exact ⟨fun x hx => hsub x (b1 x hx), by omega⟩
    · have h0 : ¬ 0 ≤ posT l n := fun h1 => h (posT_iff.1 h1)
      rw [if_neg (fun h1 => h (hmem.1 h1)), if_neg h0]
      exact ⟨rfl, fun r hr => by cases hr⟩
theorem withB_less {ts : List T} {had : List Bool} {ks ns : List T} (hk : ∀ x ∈ ks, x ∈ ts) (hn : ∀ n ∈ ns, n ∈ ts) : withB ts had ks ns = lessB had (ks.map (posT ts)) (ns.map (posT ts)) := by
  obtain ⟨h1, h2⟩ := withV_less hk hn
  unfold withB lessB
  rw [h1]
  cases e : withV ks ns with
  | none => rfl
  | some r => exact all_isV fun x hx => hk x ((h2 r e).1 x hx)
theorem powRow_powB {ts : List T} {had : List Bool} {ks : List T} {x : Item} (hk : ∀ k ∈ ks, k ∈ ts) (hx : x.kids = ks.map (posT ts)) : ∀ {l : List T} {its : List Item} {n : Nat}, its.length = l.length → (∀ i (h : i < l.length) (h' : i < its.length), its[i].op = l[i].op ∧ its[i].kids = l[i].kids.map (posT ts)) →
    (∀ y ∈ l, ∀ k ∈ y.kids, k ∈ ts) → powRow ts had ks n l = powB had x n its
  | [], [], n, _, _, _ => rfl
  | [], _ :: _, n, h, _, _ => by simp at h
  | _ :: _, [], n, h, _, _ => by simp at h
  | y :: l, z :: its, n, h, hi, hin => by
    have h0 := hi 0 (by simp) (by simp)
    simp only [List.getElem_cons_zero] at h0
    simp only [powRow, powB]
    rw [withB_less hk (hin y (by simp)), h0.1, h0.2, hx, powRow_powB hk hx (l := l) (its := its) (n := n + 1) (by simpa using h) (fun i h1 h2 => by have := hi (i + 1) (by simpa using h1) (by simpa using h2); simpa using this) (fun u hu => hin u (List.mem_cons_of_mem _ hu))]
    congr 2
    exact Bool.and_comm _ _
theorem TabI.kidsIn {ts : List T} (hI : TabI ts) : ∀ y ∈ ts, ∀ k ∈ y.kids, k ∈ ts := fun y hy k hk => by
  obtain ⟨i, hi, rfl⟩ := List.mem_iff_getElem.1 hy
  obtain ⟨j, _, h2⟩ := hI.lo i hi k hk
  exact List.mem_of_getElem? h2
theorem shape_op {o n : Int} {d : List UInt8} {ks : List T} (h : shape o n d ks = true) : 1 ≤ o ∧ o ≤ 7 ∧ (o = 1 ∨ o = 5 → ks.length = 0) ∧ (o ≠ 1 → o ≠ 5 → o ≠ 7 → ks.length = 1) := by
  unfold shape at h
  simp only [Bool.and_eq_true, decide_eq_true_eq] at h
  obtain ⟨⟨h1, h2⟩, h3⟩ := h
  refine ⟨h2.1, h2.2, fun h => ?_, fun a b c => ?_⟩
  · rw [if_pos h] at h3; simpa using h3
  · rw [if_neg (by omega), if_neg c] at h3; simpa using h3
theorem madeR_eq {ts : List T} (hI : TabI ts) {had : List Bool} {i : Nat} (hi : i < ts.length) : madeR ts had i ts[i] = madeB (itemsT ts) had (itemT ts i ts[i]) := by
  have hy := List.getElem_mem hi
  have hin := hI.kidsIn _ hy
  obtain ⟨s1, s2, s3, s4⟩ := shape_op (right_shape (hI.rt _ hy)).1
  unfold madeR madeB
  show _ = if ts[i].op = 1 then false else if ts[i].op = 7 then powerB (itemsT ts) had (itemT ts i ts[i]) else allB had (ts[i].kids.map (posT ts)) && allB had (mentS ts[i].data (i : Int))
  by_cases h7 : ts[i].op = 7
  · rw [if_neg (by omega), if_neg (by omega), if_pos h7, if_neg (by omega), if_pos h7]
    unfold powerR powerB
    rw [all_isV hin, Bool.or_comm]
    congr 1
    exact powRow_powB hin rfl (itemsT_len ts) (fun j h1 h2 => by rw [itemsT_get h2 h1]; exact ⟨rfl, rfl⟩) hI.kidsIn
  · by_cases h1 : ts[i].op = 1
    · rw [if_neg (by omega), if_neg (by omega), if_neg h7, if_pos h1]
    · by_cases h5 : ts[i].op = 5
      · have hk : ts[i].kids = [] := List.eq_nil_of_length_eq_zero (s3 (.inr h5))
        rw [if_neg (by omega), if_pos h5, if_neg h1, if_neg h7, hk]
        rfl
      · have hk := s4 h1 h5 h7
        rw [if_pos (by omega), if_neg h1, if_neg h7]
        match hks : ts[i].kids, hk with
        | [k], _ =>
          rw [hks] at hin
          show (isV ts had k && _) = _
          rw [isV_in (hin k (by simp))]
          simp [allB]
theorem take_all {α : Type} {p : α → Bool} {l : List α} {i : Nat} (h : i < l.length) : (l.take (i + 1)).all p = ((l.take i).all p && p l[i]) := by
  rw [List.take_succ_eq_append_getElem h, List.all_append]; simp
theorem headD_get {α : Type} {l : List α} {z : α} (h : 0 < l.length) : l.headD z = l[0] := by
  cases l with
  | nil => simp at h
  | cons a r => rfl
theorem powRow_drop {ts : List T} {had : List Bool} {ks : List T} {i : Nat} (hi : i < ts.length) : powRow ts had ks i (ts.drop i) = ((had.getD i false && decide (ts[i].op = 7) && withB ts had ks ts[i].kids) || powRow ts had ks (i + 1) (ts.drop (i + 1))) := by
  rw [List.drop_eq_getElem_cons hi, powRow]
theorem withB_all {ts : List T} {had : List Bool} {ks ns : List T} {j : Nat} (h : ((withV ks ns).getD []).length ≤ j ∨ ((withV ks ns).isSome && (((withV ks ns).getD []).take j).all (isV ts had)) = false) :
    ((withV ks ns).isSome && (((withV ks ns).getD []).take j).all (isV ts had)) = withB ts had ks ns := by
  unfold withB
  cases e : withV ks ns with
  | none => rfl
  | some r =>
    rw [e] at h
    simp only [Option.isSome_some, Option.getD_some, Bool.true_and] at h ⊢
    rcases h with h | h
    · rw [List.take_of_length_le h]
    · rw [h]
      refine (Bool.eq_false_iff.2 fun h9 => ?_).symm
      rw [List.all_eq_true] at h9
      have : (r.take j).all (isV ts had) = true := List.all_eq_true.2 fun x hx => h9 x (List.mem_of_mem_take hx)
      rw [this] at h; cases h
theorem withV_len : ∀ (l ns : List T), ((withV l ns).getD []).length ≤ l.length
  | l, [] => by simp [withV]
  | l, n :: ns => by
    simp only [withV]
    split
    · have h1 := withV_len (l.eraseIdx (posT l n).toNat) ns
      have h2 := List.length_eraseIdx_le l (posT l n).toNat
      omega
    · simp
end Go.Proofs.YtnjomdjkbbhdoaaGreatDoor
namespace Go.Proofs.YtnjomdjkbbhdoaaGreatDoor
open Go.RowKit
set_option linter.unusedVariables false
set_option linter.unusedSimpArgs false
set_option maxRecDepth 100000
set_option maxHeartbeats 400000 in
theorem rIs (t : T) {ct : List Value} {d hb ch : Nat} {sv : Value} {ts : List T} {had : List Bool} {σ : Hp} {w : World} (hi : Imm σ w) (hc0 : CellsAt σ d 0 [sv]) (hks : KidsV σ sv ts) (hh : CellsAt σ hb 0 (boolsV had)) (hl : had.length = ts.length) (ht : TermC σ ct t) : Calls Tryz.prog 98 #[.pointer (some ⟨d, 0, none⟩), .slice (some ⟨hb, 0, none⟩) ts.length ch, .agg ct.toArray] w fun e w' => e = .returned (.bool (isV ts had t)) ∧ Below w.heap.size w w' := by
  have ht0 := ht
  obtain ⟨dv, kv, rfl, ho, hn, hd, hk⟩ := ht.opn
  refine enter (St w (fun _ => False) σ [] []) Tryz.func98 rfl Tryz.ntmps98 rfl (St.start hi) ?_
  refine cw_seq ?_
  refine cw_region ?_
  refine ow_blk rfl rfl (exw_box rfl) ?_; intro b5
  refine ow_val rfl rfl (ex_assign rfl) ?_
  refine ow_nil ?_
  refine qw_seq ?_
  refine cw_seq ?_
  refine cw_region ?_
  refine ow_val rfl rfl (ex_move rfl) ?_
  refine ow_val rfl rfl (ex_loadR rfl (by first | exact ld_ownN 0 rfl rfl | exact ld_ownN 1 rfl rfl | exact ld_ownN 2 rfl rfl | exact ld_ownN 3 rfl rfl | exact ld_ownN 4 rfl rfl | exact ld_ownN 5 rfl rfl | exact ld_ownN 6 rfl rfl | exact ld_ownN 7 rfl rfl | exact ld_ownGN 0 rfl rfl | exact ld_ownGN 1 rfl rfl | exact ld_immT (by assumption) (by assumption))) ?_
  refine ow_cv rfl rfl (ex_callf rfl (fun w h => callB ((rFind t h.im hc0 hks ht0)))) ?_
  refine ow_val rfl rfl (ex_move rfl) ?_
  refine ow_val rfl rfl (ex_extract rfl rfl) ?_
  refine ow_val rfl rfl (ex_extract rfl rfl) ?_
  refine ow_val rfl rfl (ex_assign rfl) ?_
  refine ow_val rfl rfl (ex_assign rfl) ?_
  refine ow_nil ?_
  refine qw_seq ?_
  refine cw_seq ?_
  refine cw_region ?_
  refine ow_val rfl rfl (ex_move rfl) ?_
  refine ow_val rfl rfl (ex_move rfl) ?_
  refine ow_split (g := some (1, true)) rfl (fun s16 => ?_) (fun s16 => ?_)
  ·
    have h0 := of_decide_eq_true s16
    have hkl := posT_lt ts t
    refine ow_val rfl (gd_go rfl s16) (ex_move rfl) ?_
    refine ow_val rfl (gd_go rfl s16) (ex_move rfl) ?_
    refine ow_val rfl (gd_go rfl s16) (ex_index rfl rfl h0 hkl) ?_
    refine ow_val rfl (gd_go rfl s16) (ex_load1 rfl (ld_imm1 (hh.bool (i := (posT ts t).toNat) (by omega)))) ?_
    refine ow_val rfl rfl (ex_pickt rfl s16 rfl) ?_
    refine ow_val rfl rfl (ex_assign rfl) ?_
    refine ow_nil ?_
    refine qw_seq ?_
    refine cw_ret ?_
    refine qw_ret1 rfl rfl (fun w' h => ⟨congrArg (fun z => Ending.returned (.bool z)) ?_, h.ag.below⟩)
    unfold isV
    first
    | (rw [show decide (0 ≤ posT ts t) = true from s16]; rfl)
    | (rw [show decide (0 ≤ posT ts t) = false from s16]; rfl)
  ·
    refine ow_skip rfl (gd_no rfl s16) ?_
    refine ow_skip rfl (gd_no rfl s16) ?_
    refine ow_skip rfl (gd_no rfl s16) ?_
    refine ow_skip rfl (gd_no rfl s16) ?_
    refine ow_val rfl rfl (ex_pickf rfl s16 rfl) ?_
    refine ow_val rfl rfl (ex_assign rfl) ?_
    refine ow_nil ?_
    refine qw_seq ?_
    refine cw_ret ?_
    refine qw_ret1 rfl rfl (fun w' h => ⟨congrArg (fun z => Ending.returned (.bool z)) ?_, h.ag.below⟩)
    unfold isV
    first
    | (rw [show decide (0 ≤ posT ts t) = true from s16]; rfl)
    | (rw [show decide (0 ≤ posT ts t) = false from s16]; rfl)
set_option maxHeartbeats 400000 in
theorem rAll {dd : List UInt8} {dv : Value} {below : Int} {hb n ch : Nat} {had : List Bool} {σ : Hp} {w : World} (hi : Imm σ w) (hh : CellsAt σ hb 0 (boolsV had)) (hl : had.length = n) (hbl : below ≤ (n : Int)) (hd : BytesV σ dv dd) (hdl : dd.length ≤ 17592186044415) : Calls Tryz.prog 113 #[.slice (some ⟨hb, 0, none⟩) n ch, dv, .int .i64 below] w fun e w' => e = .returned (.bool (allB had (mentS dd below))) ∧ Below w.heap.size w w' := by
  refine enter (St w (fun _ => False) σ [] []) Tryz.func113 rfl Tryz.ntmps113 rfl (St.start hi) ?_
  refine cw_seq ?_
  refine cw_region ?_
  refine ow_val rfl rfl (ex_assign rfl) ?_
  refine ow_nil ?_
  refine qw_seq ?_
  refine cw_seq ?_
  refine cw_region ?_
  refine ow_val rfl rfl (ex_move rfl) ?_
  refine ow_val rfl rfl (ex_move rfl) ?_
  refine ow_cr rfl rfl (ex_callf rfl (fun w h => callR (rMentions h.im hd hdl))) (fun v11 τ hlτ hfτ hr => ?_)
  have hml := mentS_len dd below
  obtain ⟨p, c, rfl, _, hs⟩ := hr
  refine ow_val rfl rfl (ex_assign rfl) ?_
  refine ow_nil ?_
  refine qw_seq ?_
  refine cw_seq ?_
  refine cw_seq ?_
  refine cw_region ?_
  refine ow_val rfl rfl (ex_assign rfl) ?_
  refine ow_nil ?_
  refine qw_seq ?_
  refine cw_block ?_
  refine cw_loopS (α := Nat) (fun i => [(0, .slice (some ⟨hb, 0, none⟩) n ch), (7, .slice p (mentS dd below).length c), (8, .int .i64 (i : Int))]) (fun i => i ≤ (mentS dd below).length ∧ ∀ j (h : j < (mentS dd below).length), j < i → hadAt had (mentS dd below)[j] = true) (fun i => (mentS dd below).length - i) 0 (subL_cons (lkv rfl (by first | rfl | simp)) (subL_cons (lkv rfl (by first | rfl | simp)) (subL_cons (lkv rfl (by first | rfl | simp)) (subL_nil _)))) ⟨Nat.zero_le _, fun j _ h => absurd h (Nat.not_lt_zero _)⟩ ?_
  intro i ⟨hle, hzz⟩
  refine cw_seq ?_
  refine cw_seq ?_
  refine cw_region ?_
  refine ow_val rfl rfl (ex_move rfl) ?_
  refine ow_val rfl rfl (ex_move rfl) ?_
  refine ow_val rfl rfl (ex_len (ty := 0) rfl) ?_
  refine ow_val rfl rfl (ex_lss rfl rfl) ?_
  refine ow_nil ?_
  refine qw_seq ?_
  refine cw_cond rfl (fun c15 => ?_) (fun c15 => ?_)
  ·
    have hlt : i < (mentS dd below).length := by have := of_decide_eq_true c15; omega
    obtain ⟨ba, oa, rfl, hca⟩ := hs.resolve_left (fun hn => by rw [hn] at hlt; simp at hlt)
    have hmi := mentS_in (List.getElem_mem hlt)
    refine cw_skip ?_
    refine qw_seq ?_
    refine cw_seq ?_
    refine cw_block ?_
    refine cw_seq ?_
    refine cw_region ?_
    refine ow_val rfl rfl (ex_move rfl) ?_
    refine ow_val rfl rfl (ex_move rfl) ?_
    refine ow_val rfl rfl (ex_move rfl) ?_
    refine ow_val rfl rfl (ex_index_nat (i := i) rfl rfl hlt) ?_
    refine ow_val rfl rfl (ex_load1 rfl (ld_imm1 (hca.int hlt))) ?_
    refine ow_val rfl rfl (ex_index rfl rfl hmi.1 (by omega)) ?_
    refine ow_val rfl rfl (ex_load1 rfl (ld_imm1 ((hh.le hlτ).bool (i := ((mentS dd below)[i]).toNat) (by omega)))) ?_
    refine ow_val rfl rfl (ex_not rfl) ?_
    refine ow_nil ?_
    refine qw_seq ?_
    refine cw_cond rfl (fun c25 => ?_) (fun c25 => ?_)
    ·
      refine cw_seq ?_
      refine cw_region ?_
      refine ow_val rfl rfl (ex_assign rfl) ?_
      refine ow_nil ?_
      refine qw_seq ?_
      refine cw_ret ?_
      refine qw_block_ret ?_
      refine qw_then_ret ?_
      refine qw_then_ret ?_
      refine qw_block_ret ?_
      refine qw_then_ret ?_
      refine qw_ret1 rfl rfl (fun w' h => ⟨congrArg (fun z => Ending.returned (.bool z)) ?_, h.ag.below⟩)
      refine (Bool.eq_false_iff.2 (fun hh9 => ?_)).symm
      unfold allB at hh9
      have := List.all_eq_true.1 hh9 _ (List.getElem_mem hlt)
      unfold hadAt at this
      rw [this] at c25
      simp at c25
    ·
      refine cw_skip ?_
      refine qw_block_normal ?_
      refine qw_seq ?_
      refine cw_region ?_
      refine ow_val rfl rfl (ex_move rfl) ?_
      refine ow_val rfl rfl (ex_addi (z := ((i + 1 : Nat) : Int)) rfl rfl (by omega) (by omega) (by omega)) ?_
      refine ow_val rfl rfl (ex_assign rfl) ?_
      refine ow_nil ?_
      exact qw_roundS (i + 1) (by omega) (subL_cons (lkv rfl (by first | rfl | simp)) (subL_cons (lkv rfl (by first | rfl | simp)) (subL_cons (lkv rfl (by first | rfl | simp)) (subL_nil _)))) ⟨by omega, fun j h hj => by
        by_cases e : j = i
        · subst e; simpa [hadAt] using c25
        · exact hzz j h (by omega)⟩
  ·
    refine cw_exit ?_
    refine qw_then_exit ?_
    refine qw_then_exit ?_
    refine qw_block_exit ?_
    refine qw_seq ?_
    refine cw_seq ?_
    refine cw_region ?_
    refine ow_val rfl rfl (ex_assign rfl) ?_
    refine ow_nil ?_
    refine qw_seq ?_
    refine cw_ret ?_
    refine qw_ret1 rfl rfl (fun w' h => ⟨congrArg (fun z => Ending.returned (.bool z)) ?_, h.ag.below⟩)
    refine (List.all_eq_true.2 (fun z hz => ?_)).symm
    obtain ⟨j, hj, rfl⟩ := List.mem_iff_getElem.1 hz
    exact hzz j hj (by have := of_decide_eq_false c15; omega)
def RepW (o : Option (List T)) (σ : Hp) (u : Value) : Prop := ∃ v, u = .tuple #[v, .bool o.isSome] ∧ KidsV σ v (o.getD [])
instance (o : Option (List T)) : MonoR (RepW o) := ⟨fun hl ⟨v, e, h⟩ => ⟨v, e, h.le hl⟩⟩
set_option maxHeartbeats 2000000 in
theorem rWithout {ls ns : List T} {lv nv : Value} {σ : Hp} {w : World} (hi : Imm σ w) (hlv : KidsV σ lv ls) (hnv : KidsV σ nv ns) (hll : ls.length ≤ 1000) (hnl : ns.length ≤ 1000) : Calls Tryz.prog 138 #[lv, nv] w (GiveR (RepW (withV ls ns)) σ w) := by
  obtain ⟨pl, cl, xl, rfl, hcl, _, hrl, hsl⟩ := hlv.row
  have hnv0 := hnv
  obtain ⟨pn, cn, rfl, hcn, _⟩ := hnv.slice
  refine enter (St w (fun _ => False) σ [] []) Tryz.func138 rfl Tryz.ntmps138 rfl (St.start hi) ?_
  refine cw_seq ?_
  refine cw_region ?_
  refine ow_val rfl rfl (ex_assign rfl) ?_
  refine ow_val rfl rfl (ex_assign rfl) ?_
  refine ow_nil ?_
  refine qw_seq ?_
  refine cw_seq ?_
  refine cw_region ?_
  refine ow_slit rfl rfl exw_slit0 ?_; intro b10
  refine ow_mono (fun w h => h.toG) ?_
  refine ow_val rfl rfl (ex_move rfl) ?_
  refine ow_app1 rfl rfl (exw_append1 (news := xl) rfl rfl (OwnSl.lit0 32 4 b10) hrl.len (hsl.imp (fun h => by rw [h]; rfl) fun ⟨b, f, hp, hca⟩ => ⟨b, f, hp, fun w h => hca.range h.im⟩) hrl.oneCell (by unfold maxLen; omega) (by omega)) (fun v12 G12 hO12 hz12 => ?_)
  have hO12' : OwnSl 32 4 v12 ls.length xl G12 := by have h9 := hO12; rw [Nat.zero_add, List.nil_append] at h9; exact h9
  refine ow_frzG (fun _ h => h) hO12' hrl (by unfold maxKids; omega) (fun σ2 hl2 hf2 hk2 => ?_)
  have hk2' := hk2
  obtain ⟨p2, c2, rfl, _, _⟩ := hk2'.slice
  refine ow_val rfl rfl (ex_assign rfl) ?_
  refine ow_nil ?_
  refine qw_seq ?_
  refine cw_seq ?_
  refine cw_seq ?_
  refine cw_region ?_
  refine ow_val rfl rfl (ex_assign rfl) ?_
  refine ow_nil ?_
  refine qw_seq ?_
  refine cw_block ?_
  refine cw_loop4 (fun (i : Nat) (rs : List T) (pc : Option Addr × Nat) (τ : Hp) => [(1, .slice pn ns.length cn), (6, .slice pc.1 rs.length pc.2), (7, .int .i64 (i : Int))]) (fun i rs pc τ => i ≤ ns.length ∧ KidsV τ (.slice pc.1 rs.length pc.2) rs ∧ Le σ τ ∧ Fresh σ τ w ∧ rs.length ≤ ls.length ∧ withV rs (ns.drop i) = withV ls ns) (fun _ _ _ τ => τ) (fun _ _ _ _ => []) (fun i _ _ _ => ns.length - i) 0 ls (p2, c2) σ2 (subL_cons (lkv rfl (by first | rfl | simp)) (subL_cons (lkv rfl (by first | rfl | simp)) (subL_cons (lkv rfl (by first | rfl | simp)) (subL_nil _)))) ⟨Nat.zero_le _, hk2, hl2, hf2, Nat.le_refl _, rfl⟩ (fun w h => h) ?_
  intro i rs pc τ ⟨hlei, hkr, hlj, hfj, hrl2, hws⟩
  obtain ⟨pp, cc⟩ := pc
  simp only at hkr
  refine cw_seq ?_
  refine cw_seq ?_
  refine cw_region ?_
  refine ow_val rfl rfl (ex_move rfl) ?_
  refine ow_val rfl rfl (ex_move rfl) ?_
  refine ow_val rfl rfl (ex_len (ty := 0) rfl) ?_
  refine ow_val rfl rfl (ex_lss rfl rfl) ?_
  refine ow_nil ?_
  refine qw_seq ?_
  refine cw_cond rfl (fun c16 => ?_) (fun c16 => ?_)
  ·
    have hlt : i < ns.length := by have := of_decide_eq_true c16; omega
    obtain ⟨bn, fn, cn', cs2, e1, e2, hc2, ht2⟩ := hnv0.get i hlt
    cases e1
    have hdr : ns.drop i = ns[i] :: ns.drop (i + 1) := List.drop_eq_getElem_cons hlt
    refine cw_skip ?_
    refine qw_seq ?_
    refine cw_seq ?_
    refine cw_block ?_
    refine cw_seq ?_
    refine cw_region ?_
    refine ow_val rfl rfl (ex_assign rfl) ?_
    refine ow_nil ?_
    refine qw_seq ?_
    refine cw_seq ?_
    refine cw_seq ?_
    refine cw_region ?_
    refine ow_val rfl rfl (ex_assign rfl) ?_
    refine ow_nil ?_
    refine qw_seq ?_
    refine cw_block ?_
    refine cw_loopS (α := Nat × Int) (fun x => [(1, .slice (some ⟨bn, fn, none⟩) ns.length cn), (6, .slice pp rs.length cc), (7, .int .i64 (i : Int)), (8, .int .i64 x.2), (9, .int .i64 (x.1 : Int))]) (fun x => x.1 ≤ rs.length ∧ ((x.2 = -1 ∧ ∀ j (h : j < rs.length), j < x.1 → decide (ord rs[j] ns[i] = 0) = false) ∨ (x.2 = posT rs ns[i] ∧ 0 ≤ x.2))) (fun x => rs.length - x.1) (0, -1) (subL_cons (lkv rfl (by first | rfl | simp)) (subL_cons (lkv rfl (by first | rfl | simp)) (subL_cons (lkv rfl (by first | rfl | simp)) (subL_cons (lkv rfl (by first | rfl | simp)) (subL_cons (lkv rfl (by first | rfl | simp)) (subL_nil _)))))) ⟨Nat.zero_le _, .inl ⟨rfl, fun j _ h => absurd h (Nat.not_lt_zero _)⟩⟩ ?_
    rintro ⟨k, at9⟩ ⟨hlek, hat9⟩
    simp only at hlek hat9
    refine cw_seq ?_
    refine cw_seq ?_
    refine cw_region ?_
    refine ow_val rfl rfl (ex_move rfl) ?_
    refine ow_val rfl rfl (ex_move rfl) ?_
    refine ow_val rfl rfl (ex_len (ty := 0) rfl) ?_
    refine ow_val rfl rfl (ex_lss rfl rfl) ?_
    refine ow_val rfl rfl (ex_move rfl) ?_
    refine ow_split (g := some (4, true)) rfl (fun s23 => ?_) (fun s23 => ?_)
    ·
      refine ow_val rfl (gd_go rfl s23) (ex_move rfl) ?_
      refine ow_val rfl (gd_go rfl s23) (ex_lss rfl rfl) ?_
      refine ow_val rfl rfl (ex_pickt rfl s23 rfl) ?_
      refine ow_nil ?_
      refine qw_seq ?_
      refine cw_cond rfl (fun c26 => ?_) (fun c26 => ?_)
      ·
        have hkl : k < rs.length := by have := of_decide_eq_true s23; omega
        have ha0 : at9 < 0 := of_decide_eq_true c26
        have hno : at9 = -1 ∧ ∀ j (h : j < rs.length), j < k → decide (ord rs[j] ns[i] = 0) = false := hat9.resolve_right (fun h => by omega)
        obtain ⟨bk, fk, ck, cs1, e3, e4, hc1, ht1⟩ := hkr.get k hkl
        cases e3
        refine cw_skip ?_
        refine qw_seq ?_
        refine cw_seq ?_
        refine cw_block ?_
        refine cw_seq ?_
        refine flow_sound 9 (by kernel_rfl) ?_
        refine flow_val rfl (ex_move rfl) ?_
        refine flow_val rfl (ex_move rfl) ?_
        refine flow_val rfl (ex_index_nat (i := k) rfl rfl hkl) ?_
        refine flow_val rfl (ex_loadR rfl (ld_immT hc1 ht1)) ?_
        refine flow_val rfl (ex_move rfl) ?_
        refine flow_val rfl (ex_move rfl) ?_
        refine flow_val rfl (ex_index_nat (i := i) rfl rfl hlt) ?_
        refine flow_val rfl (ex_loadR rfl (ld_immT (hc2.le hlj) (ht2.le hlj))) ?_
        refine flow_cv rfl (ex_callf rfl (fun w h => callB ((rSame _ _ h.im ht1 (ht2.le hlj))))) ?_
        refine flow_nil ?_
        refine fin_is ?_
        refine fin_is ?_
        refine fin_is ?_
        refine fin_is ?_
        refine fin_is ?_
        refine fin_is ?_
        refine fin_is ?_
        refine fin_is ?_
        refine fin_is ?_
        refine fin_nil ?_
        refine ow_nil ?_
        refine qw_seq ?_
        refine cw_cond rfl (fun c37 => ?_) (fun c37 => ?_)
        ·
          refine cw_region ?_
          refine ow_val rfl rfl (ex_move rfl) ?_
          refine ow_val rfl rfl (ex_assign rfl) ?_
          refine ow_nil ?_
          refine qw_block_normal ?_
          refine qw_seq ?_
          refine cw_region ?_
          refine ow_val rfl rfl (ex_move rfl) ?_
          refine ow_val rfl rfl (ex_addi (z := ((k + 1 : Nat) : Int)) rfl rfl (by omega) (by omega) (by omega)) ?_
          refine ow_val rfl rfl (ex_assign rfl) ?_
          refine ow_nil ?_
          exact qw_roundS (k + 1, (k : Int)) (by show rs.length - (k + 1) < rs.length - k; omega) (subL_cons (lkv rfl (by first | rfl | simp)) (subL_cons (lkv rfl (by first | rfl | simp)) (subL_cons (lkv rfl (by first | rfl | simp)) (subL_cons (lkv rfl (by first | rfl | simp)) (subL_cons (lkv rfl (by first | rfl | simp)) (subL_nil _)))))) ⟨by show k + 1 ≤ rs.length; omega, .inr ⟨(findI_at hkl c37 hno.2).symm, by show (0 : Int) ≤ (k : Int); omega⟩⟩
        ·
          refine cw_skip ?_
          refine qw_block_normal ?_
          refine qw_seq ?_
          refine cw_region ?_
          refine ow_val rfl rfl (ex_move rfl) ?_
          refine ow_val rfl rfl (ex_addi (z := ((k + 1 : Nat) : Int)) rfl rfl (by omega) (by omega) (by omega)) ?_
          refine ow_val rfl rfl (ex_assign rfl) ?_
          refine ow_nil ?_
          exact qw_roundS (k + 1, at9) (by show rs.length - (k + 1) < rs.length - k; omega) (subL_cons (lkv rfl (by first | rfl | simp)) (subL_cons (lkv rfl (by first | rfl | simp)) (subL_cons (lkv rfl (by first | rfl | simp)) (subL_cons (lkv rfl (by first | rfl | simp)) (subL_cons (lkv rfl (by first | rfl | simp)) (subL_nil _)))))) ⟨by show k + 1 ≤ rs.length; omega, .inl ⟨hno.1, fun j hj hjk => by
            rcases Nat.lt_or_eq_of_le (Nat.le_of_lt_succ hjk) with h1 | h1
            · exact hno.2 j hj h1
            · subst h1; exact c37⟩⟩
      ·
        refine cw_exit ?_
        refine qw_then_exit ?_
        refine qw_then_exit ?_
        refine qw_block_exit ?_
        refine qw_seq ?_
        refine cw_seq ?_
        refine cw_seq ?_
        refine cw_region ?_
        refine ow_val rfl rfl (ex_move rfl) ?_
        refine ow_val rfl rfl (ex_lss rfl rfl) ?_
        refine ow_nil ?_
        refine qw_seq ?_
        refine cw_cond rfl (fun c40 => ?_) (fun c40 => ?_)
        ·
          have hat : at9 = posT rs ns[i] := by
            rcases hat9 with ⟨h1, h2⟩ | ⟨h1, _⟩
            · have hkl : rs.length ≤ k := by first | (have := of_decide_eq_false s23; omega) | (have := of_decide_eq_false c26; omega)
              rw [h1]; exact (findI_none (fun j hj => h2 j hj (by omega))).symm
            · exact h1
          have hno9 : withV ls ns = none := by
            rw [← hws, hdr, withV, if_neg (by have := of_decide_eq_true c40; omega)]
          refine cw_seq ?_
          refine cw_region ?_
          refine ow_val rfl rfl (ex_assign rfl) ?_
          refine ow_val rfl rfl (ex_assign rfl) ?_
          refine ow_nil ?_
          refine qw_seq ?_
          refine cw_ret ?_
          refine qw_then_ret ?_
          refine qw_block_ret ?_
          refine qw_then_ret ?_
          refine qw_then_ret ?_
          refine qw_block_ret ?_
          refine qw_then_ret ?_
          refine qw_ret2 rfl rfl rfl (fun w' h => ?_)
          rw [hno9]
          exact h.gives hlj hfj ⟨_, rfl, KidsV.nil _⟩
        ·
          have hat : at9 = posT rs ns[i] := by
            rcases hat9 with ⟨h1, h2⟩ | ⟨h1, _⟩
            · have hkl : rs.length ≤ k := by first | (have := of_decide_eq_false s23; omega) | (have := of_decide_eq_false c26; omega)
              rw [h1]; exact (findI_none (fun j hj => h2 j hj (by omega))).symm
            · exact h1
          have ha0 : 0 ≤ posT rs ns[i] := by have := of_decide_eq_false c40; omega
          have hpl := posT_lt rs ns[i]
          obtain ⟨kk, hkq⟩ : ∃ kk : Nat, posT rs ns[i] = (kk : Int) := ⟨(posT rs ns[i]).toNat, by omega⟩
          have hkk : kk < rs.length := by omega
          rw [hat, hkq]
          obtain ⟨pr, cr, xr, er, hcr, _, hrr, hsr⟩ := hkr.row
          cases er
          refine cw_skip ?_
          refine qw_seq ?_
          refine flow_sound 9 (by kernel_rfl) ?_
          refine flow_slit0 rfl ?_
          refine flow_val rfl (ex_move rfl) ?_
          refine flow_val rfl (ex_move rfl) ?_
          refine flow_val rfl (ex_slice_hi (j := kk) rfl rfl (by omega)) ?_
          refine flow_app0 41 (news := xr.take (kk * 4)) rfl rfl (fun v => rfl) (fun v => rfl) (fun v => rfl) (by rw [List.length_take, hrr.len]; omega) (by
            rcases hsr with h9 | ⟨b, f, hp, hca⟩
            · exfalso; rw [h9] at hkk; simp at hkk
            · right; exact ⟨b, f, hp, fun w h => (hca.take _).range h.im⟩) (by unfold maxLen; omega) (by omega) ?_
          refine flow_val rfl (ex_move rfl) ?_
          refine flow_val rfl (ex_move rfl) ?_
          refine flow_val rfl (ex_addi (z := ((kk + 1 : Nat) : Int)) rfl rfl (by omega) (by omega) (by omega)) ?_
          refine flow_val rfl (ex_slice_lo (i := kk + 1) rfl rfl (by omega) (by omega)) ?_
          refine flow_nil ?_
          refine fin_is ?_
          refine fin_is ?_
          refine fin_is ?_
          refine fin_is ?_
          refine fin_sat (fun v45 => ?_)
          refine fin_is ?_
          refine fin_is ?_
          refine fin_is ?_
          refine fin_drop ?_
          refine fin_nil ?_
          refine ow_openR (G := []) (fun G45 hO45 => ?_)
          refine ow_app rfl rfl (exw_append (Gr := []) (news := xr.drop ((kk + 1) * 4)) rfl rfl hO45 (by rw [List.length_drop, hrr.len]; omega) (by
            rcases hsr with h9 | ⟨b, f, hp, hca⟩
            · exfalso; rw [h9] at hkk; simp at hkk
            · by_cases hlast : rs.length - (kk + 1) = 0
              · exact .inl hlast
              · right; rw [if_neg (by omega), hp]; exact ⟨b, f + (kk + 1) * 4, by simp [addr_add], fun w h => (hca.drop _).range h.im⟩) (fun u hu => hrr.oneCell u (List.mem_of_mem_drop hu)) (by unfold maxLen; omega) (by omega)) (fun v50 G50 hO50 hz50 => ?_)
          refine ow_mono (S' := St w (fun _ => False) τ [] G50) (fun w h => by simpa using h) ?_
          have hrow9 : RowC τ (xr.take (kk * 4) ++ xr.drop ((kk + 1) * 4)) (rs.eraseIdx kk) := by
            rw [List.eraseIdx_eq_take_drop_succ]; exact (hrr.take kk).append (hrr.drop (kk + 1))
          have hel := List.length_eraseIdx_of_lt hkk
          refine ow_frzG (ts := rs.eraseIdx kk) (fun _ h => h) (by have h9 := hO50; rw [show kk + (rs.length - (kk + 1)) = (rs.eraseIdx kk).length from by omega] at h9; exact h9) hrow9 (by unfold maxKids; omega) (fun σ7 hl7 hf7 hk7 => ?_)
          have hk7' := hk7
          obtain ⟨p7, c7, rfl, _, _⟩ := hk7'.slice
          refine ow_val rfl rfl (ex_assign rfl) ?_
          refine ow_nil ?_
          refine qw_block_normal ?_
          refine qw_seq ?_
          refine cw_region ?_
          refine ow_val rfl rfl (ex_move rfl) ?_
          refine ow_val rfl rfl (ex_addi (z := ((i + 1 : Nat) : Int)) rfl rfl (by omega) (by omega) (by omega)) ?_
          refine ow_val rfl rfl (ex_assign rfl) ?_
          refine ow_nil ?_
          exact qw_round4 (i + 1) (rs.eraseIdx kk) (p7, c7) σ7 (by omega) (subL_cons (lkv rfl (by first | rfl | simp)) (subL_cons (lkv rfl (by first | rfl | simp)) (subL_cons (lkv rfl (by first | rfl | simp)) (subL_nil _)))) ⟨by omega, hk7, hlj.trans hl7, hfj.trans hf7, by omega, by rw [← hws, hdr, withV, if_pos ha0, hkq, Int.toNat_natCast]⟩ (fun w h => h)
    ·
      refine ow_skip rfl (gd_no rfl s23) ?_
      refine ow_skip rfl (gd_no rfl s23) ?_
      refine ow_val rfl rfl (ex_pickf rfl s23 rfl) ?_
      refine ow_nil ?_
      refine qw_seq ?_
      refine cw_cond_f rfl ?_
      refine cw_exit ?_
      refine qw_then_exit ?_
      refine qw_then_exit ?_
      refine qw_block_exit ?_
      refine qw_seq ?_
      refine cw_seq ?_
      refine cw_seq ?_
      refine cw_region ?_
      refine ow_val rfl rfl (ex_move rfl) ?_
      refine ow_val rfl rfl (ex_lss rfl rfl) ?_
      refine ow_nil ?_
      refine qw_seq ?_
      refine cw_cond rfl (fun c40 => ?_) (fun c40 => ?_)
      ·
        have hat : at9 = posT rs ns[i] := by
          rcases hat9 with ⟨h1, h2⟩ | ⟨h1, _⟩
          · have hkl : rs.length ≤ k := by first | (have := of_decide_eq_false s23; omega) | (have := of_decide_eq_false c26; omega)
            rw [h1]; exact (findI_none (fun j hj => h2 j hj (by omega))).symm
          · exact h1
        have hno9 : withV ls ns = none := by
          rw [← hws, hdr, withV, if_neg (by have := of_decide_eq_true c40; omega)]
        refine cw_seq ?_
        refine cw_region ?_
        refine ow_val rfl rfl (ex_assign rfl) ?_
        refine ow_val rfl rfl (ex_assign rfl) ?_
        refine ow_nil ?_
        refine qw_seq ?_
        refine cw_ret ?_
        refine qw_then_ret ?_
        refine qw_block_ret ?_
        refine qw_then_ret ?_
        refine qw_then_ret ?_
        refine qw_block_ret ?_
        refine qw_then_ret ?_
        refine qw_ret2 rfl rfl rfl (fun w' h => ?_)
        rw [hno9]
        exact h.gives hlj hfj ⟨_, rfl, KidsV.nil _⟩
      ·
        have hat : at9 = posT rs ns[i] := by
          rcases hat9 with ⟨h1, h2⟩ | ⟨h1, _⟩
          · have hkl : rs.length ≤ k := by first | (have := of_decide_eq_false s23; omega) | (have := of_decide_eq_false c26; omega)
            rw [h1]; exact (findI_none (fun j hj => h2 j hj (by omega))).symm
          · exact h1
        have ha0 : 0 ≤ posT rs ns[i] := by have := of_decide_eq_false c40; omega
        have hpl := posT_lt rs ns[i]
        obtain ⟨kk, hkq⟩ : ∃ kk : Nat, posT rs ns[i] = (kk : Int) := ⟨(posT rs ns[i]).toNat, by omega⟩
        have hkk : kk < rs.length := by omega
        rw [hat, hkq]
        obtain ⟨pr, cr, xr, er, hcr, _, hrr, hsr⟩ := hkr.row
        cases er
        refine cw_skip ?_
        refine qw_seq ?_
        refine flow_sound 9 (by kernel_rfl) ?_
        refine flow_slit0 rfl ?_
        refine flow_val rfl (ex_move rfl) ?_
        refine flow_val rfl (ex_move rfl) ?_
        refine flow_val rfl (ex_slice_hi (j := kk) rfl rfl (by omega)) ?_
        refine flow_app0 41 (news := xr.take (kk * 4)) rfl rfl (fun v => rfl) (fun v => rfl) (fun v => rfl) (by rw [List.length_take, hrr.len]; omega) (by
          rcases hsr with h9 | ⟨b, f, hp, hca⟩
          · exfalso; rw [h9] at hkk; simp at hkk
          · right; exact ⟨b, f, hp, fun w h => (hca.take _).range h.im⟩) (by unfold maxLen; omega) (by omega) ?_
        refine flow_val rfl (ex_move rfl) ?_
        refine flow_val rfl (ex_move rfl) ?_
        refine flow_val rfl (ex_addi (z := ((kk + 1 : Nat) : Int)) rfl rfl (by omega) (by omega) (by omega)) ?_
        refine flow_val rfl (ex_slice_lo (i := kk + 1) rfl rfl (by omega) (by omega)) ?_
        refine flow_nil ?_
        refine fin_is ?_
        refine fin_is ?_
        refine fin_is ?_
        refine fin_is ?_
        refine fin_sat (fun v45 => ?_)
        refine fin_is ?_
        refine fin_is ?_
        refine fin_is ?_
        refine fin_drop ?_
        refine fin_nil ?_
        refine ow_openR (G := []) (fun G45 hO45 => ?_)
        refine ow_app rfl rfl (exw_append (Gr := []) (news := xr.drop ((kk + 1) * 4)) rfl rfl hO45 (by rw [List.length_drop, hrr.len]; omega) (by
          rcases hsr with h9 | ⟨b, f, hp, hca⟩
          · exfalso; rw [h9] at hkk; simp at hkk
          · by_cases hlast : rs.length - (kk + 1) = 0
            · exact .inl hlast
            · right; rw [if_neg (by omega), hp]; exact ⟨b, f + (kk + 1) * 4, by simp [addr_add], fun w h => (hca.drop _).range h.im⟩) (fun u hu => hrr.oneCell u (List.mem_of_mem_drop hu)) (by unfold maxLen; omega) (by omega)) (fun v50 G50 hO50 hz50 => ?_)
        refine ow_mono (S' := St w (fun _ => False) τ [] G50) (fun w h => by simpa using h) ?_
        have hrow9 : RowC τ (xr.take (kk * 4) ++ xr.drop ((kk + 1) * 4)) (rs.eraseIdx kk) := by
          rw [List.eraseIdx_eq_take_drop_succ]; exact (hrr.take kk).append (hrr.drop (kk + 1))
        have hel := List.length_eraseIdx_of_lt hkk
        refine ow_frzG (ts := rs.eraseIdx kk) (fun _ h => h) (by have h9 := hO50; rw [show kk + (rs.length - (kk + 1)) = (rs.eraseIdx kk).length from by omega] at h9; exact h9) hrow9 (by unfold maxKids; omega) (fun σ7 hl7 hf7 hk7 => ?_)
        have hk7' := hk7
        obtain ⟨p7, c7, rfl, _, _⟩ := hk7'.slice
        refine ow_val rfl rfl (ex_assign rfl) ?_
        refine ow_nil ?_
        refine qw_block_normal ?_
        refine qw_seq ?_
        refine cw_region ?_
        refine ow_val rfl rfl (ex_move rfl) ?_
        refine ow_val rfl rfl (ex_addi (z := ((i + 1 : Nat) : Int)) rfl rfl (by omega) (by omega) (by omega)) ?_
        refine ow_val rfl rfl (ex_assign rfl) ?_
        refine ow_nil ?_
        exact qw_round4 (i + 1) (rs.eraseIdx kk) (p7, c7) σ7 (by omega) (subL_cons (lkv rfl (by first | rfl | simp)) (subL_cons (lkv rfl (by first | rfl | simp)) (subL_cons (lkv rfl (by first | rfl | simp)) (subL_nil _)))) ⟨by omega, hk7, hlj.trans hl7, hfj.trans hf7, by omega, by rw [← hws, hdr, withV, if_pos ha0, hkq, Int.toNat_natCast]⟩ (fun w h => h)
  ·
    have he : i = ns.length := by have := of_decide_eq_false c16; omega
    rw [he, List.drop_length] at hws
    refine cw_exit ?_
    refine qw_then_exit ?_
    refine qw_then_exit ?_
    refine qw_block_exit ?_
    refine qw_seq ?_
    refine cw_seq ?_
    refine cw_region ?_
    refine ow_val rfl rfl (ex_move rfl) ?_
    refine ow_val rfl rfl (ex_assign rfl) ?_
    refine ow_val rfl rfl (ex_assign rfl) ?_
    refine ow_nil ?_
    refine qw_seq ?_
    refine cw_ret ?_
    refine qw_ret2 rfl rfl rfl (fun w' h => ?_)
    rw [← hws]
    exact h.gives hlj hfj ⟨_, rfl, hkr⟩
end Go.Proofs.YtnjomdjkbbhdoaaGreatDoor
