/-
  Walks of the library: sorting, fewer than twenty.
  No condition.
-/
import Derived.Test.YtnjomdjkbbhdoaaDoorWb4
namespace Go.Proofs.YtnjomdjkbbhdoaaDoor
open Go.RowKit
set_option linter.unusedVariables false
set_option linter.unusedSimpArgs false
set_option maxRecDepth 100000

set_option maxHeartbeats 400000 in
theorem pInsertion0 {p : Option Addr} {c : Nat} {w : World} : Calls Tryd.prog 109 #[.slice p 0 c, .int .i64 (0 : Int), .int .i64 (0 : Int), .func (.func 57) #[] #[]] w fun e w' => e = .returned (.tuple #[]) ∧ Below w.heap.size w w' := by
  refine enter (St w (fun _ => False) (fun _ => none) [] []) Tryd.func109 rfl Tryd.ntmps109 rfl (St.start (fun _ _ h => by cases h)) ?_
  refine cw_seq ?_
  refine cw_region ?_
  refine ow_val rfl rfl (ex_move rfl) ?_
  refine ow_val rfl rfl (ex_addi (z := (1 : Int)) rfl rfl (by omega) (by omega) (by omega)) ?_
  refine ow_val rfl rfl (ex_assign rfl) ?_
  refine ow_nil ?_
  refine qw_seq ?_
  refine cw_block ?_
  refine cw_loopS (α := Unit) (fun _ => [(0, .slice p 0 c), (1, .int .i64 (0 : Int)), (2, .int .i64 (0 : Int)), (3, .func (.func 57) #[] #[]), (8, .int .i64 (1 : Int))]) (fun _ => True) (fun _ => 0) () (subL_cons (lkv rfl (by first | rfl | simp)) (subL_cons (lkv rfl (by first | rfl | simp)) (subL_cons (lkv rfl (by first | rfl | simp)) (subL_cons (lkv rfl (by first | rfl | simp)) (subL_cons (lkv rfl (by first | rfl | simp)) (subL_nil _)))))) trivial ?_
  intro _ _
  refine cw_seq ?_
  refine cw_seq ?_
  refine cw_region ?_
  refine ow_val rfl rfl (ex_move rfl) ?_
  refine ow_val rfl rfl (ex_move rfl) ?_
  refine ow_val rfl rfl (ex_lss rfl rfl) ?_
  refine ow_nil ?_
  refine qw_seq ?_
  refine cw_cond rfl (fun c14 => ?_) (fun c14 => ?_)
  ·
    simp at c14
  ·
    refine cw_exit ?_
    refine qw_then_exit ?_
    refine qw_then_exit ?_
    refine qw_block_exit ?_
    refine qw_end0 rfl (fun w' h => ⟨rfl, h.ag.below⟩)

set_option maxHeartbeats 400000 in
theorem pStable0 {p : Option Addr} {c : Nat} {w : World} : Calls Tryd.prog 90 #[.slice p 0 c, .int .i64 (0 : Int), .func (.func 57) #[] #[]] w fun e w' => e = .returned (.tuple #[]) ∧ Below w.heap.size w w' := by
  refine enter (St w (fun _ => False) (fun _ => none) [] []) Tryd.func90 rfl Tryd.ntmps90 rfl (St.start (fun _ _ h => by cases h)) ?_
  refine cw_seq ?_
  refine cw_region ?_
  refine ow_val rfl rfl (ex_assign rfl) ?_
  refine ow_nil ?_
  refine qw_seq ?_
  refine cw_seq ?_
  refine cw_region ?_
  refine ow_val rfl rfl (ex_move rfl) ?_
  refine ow_val rfl rfl (ex_assign rfl) ?_
  refine ow_val rfl rfl (ex_assign rfl) ?_
  refine ow_nil ?_
  refine qw_seq ?_
  refine cw_seq ?_
  refine cw_block ?_
  refine cw_loopS (α := Unit) (fun _ => [(0, .slice p 0 c), (1, .int .i64 (0 : Int)), (2, .func (.func 57) #[] #[]), (6, .int .i64 (20 : Int)), (7, .int .i64 (0 : Int)), (8, .int .i64 (20 : Int))]) (fun _ => True) (fun _ => 0) () (subL_cons (lkv rfl (by first | rfl | simp)) (subL_cons (lkv rfl (by first | rfl | simp)) (subL_cons (lkv rfl (by first | rfl | simp)) (subL_cons (lkv rfl (by first | rfl | simp)) (subL_cons (lkv rfl (by first | rfl | simp)) (subL_cons (lkv rfl (by first | rfl | simp)) (subL_nil _))))))) trivial ?_
  intro _ _
  refine cw_seq ?_
  refine cw_seq ?_
  refine cw_region ?_
  refine ow_val rfl rfl (ex_move rfl) ?_
  refine ow_val rfl rfl (ex_move rfl) ?_
  refine ow_val rfl rfl (ex_leq rfl rfl) ?_
  refine ow_nil ?_
  refine qw_seq ?_
  refine cw_cond rfl (fun c13 => ?_) (fun c13 => ?_)
  ·
    simp at c13
  ·
    refine cw_exit ?_
    refine qw_then_exit ?_
    refine qw_then_exit ?_
    refine qw_block_exit ?_
    refine qw_seq ?_
    refine cw_seq ?_
    refine cw_region ?_
    refine ow_val rfl rfl (ex_move rfl) ?_
    refine ow_val rfl rfl (ex_move rfl) ?_
    refine ow_val rfl rfl (ex_move rfl) ?_
    refine ow_val rfl rfl (ex_move rfl) ?_
    refine ow_cv rfl rfl (ex_callf rfl (fun w h => callB (pInsertion0))) ?_
    refine ow_nil ?_
    refine qw_seq ?_
    refine cw_block ?_
    refine cw_loopS (α := Unit) (fun _ => [(0, .slice p 0 c), (1, .int .i64 (0 : Int)), (2, .func (.func 57) #[] #[]), (6, .int .i64 (20 : Int)), (7, .int .i64 (0 : Int))]) (fun _ => True) (fun _ => 0) () (subL_cons (lkv rfl (by first | rfl | simp)) (subL_cons (lkv rfl (by first | rfl | simp)) (subL_cons (lkv rfl (by first | rfl | simp)) (subL_cons (lkv rfl (by first | rfl | simp)) (subL_cons (lkv rfl (by first | rfl | simp)) (subL_nil _)))))) trivial ?_
    intro _ _
    refine cw_seq ?_
    refine cw_seq ?_
    refine cw_region ?_
    refine ow_val rfl rfl (ex_move rfl) ?_
    refine ow_val rfl rfl (ex_move rfl) ?_
    refine ow_val rfl rfl (ex_lss rfl rfl) ?_
    refine ow_nil ?_
    refine qw_seq ?_
    refine cw_cond rfl (fun c30 => ?_) (fun c30 => ?_)
    ·
      simp at c30
    ·
      refine cw_exit ?_
      refine qw_then_exit ?_
      refine qw_then_exit ?_
      refine qw_block_exit ?_
      refine qw_end0 rfl (fun w' h => ⟨rfl, h.ag.below⟩)

set_option maxHeartbeats 400000 in
theorem pSort0 {p : Option Addr} {c : Nat} {w : World} : Calls Tryd.prog 70 #[.slice p 0 c, .func (.func 57) #[] #[]] w fun e w' => e = .returned (.tuple #[]) ∧ Below w.heap.size w w' := by
  refine enter (St w (fun _ => False) (fun _ => none) [] []) Tryd.func70 rfl Tryd.ntmps70 rfl (St.start (fun _ _ h => by cases h)) ?_
  refine cw_region ?_
  refine ow_val rfl rfl (ex_move rfl) ?_
  refine ow_val rfl rfl (ex_move rfl) ?_
  refine ow_val rfl rfl (ex_len (ty := 0) rfl) ?_
  refine ow_val rfl rfl (ex_move rfl) ?_
  refine ow_cv rfl rfl (ex_callf rfl (fun w h => callB (pStable0))) ?_
  refine ow_nil ?_
  refine qw_end0 rfl (fun w' h => ⟨rfl, h.ag.below⟩)

set_option maxHeartbeats 400000 in
theorem pStableS {g c : Nat} {ts : List T} {xs tl : List Value} {σ : Hp} {w : World} (hi : Imm σ w) (hg : w.heap[g]? = some (rowO xs tl 30)) (hd : σ g = none) (hr : RowC σ xs ts) (hm : ts.length < 20) (hc : ts.length ≤ c) : Calls Tryd.prog 90 #[.slice (some ⟨g, 0, none⟩) ts.length c, .int .i64 (ts.length : Int), .func (.func 57) #[] #[]] w (GiveM g tl 30 σ (fun us => us.Perm ts ∧ sorted us = true) w) := by
  refine enter (St w (· = g) σ [(g, rowO xs tl 30)] []) Tryd.func90 rfl Tryd.ntmps90 rfl (St.startM hi hg hd) ?_
  refine cw_seq ?_
  refine cw_region ?_
  refine ow_val rfl rfl (ex_assign rfl) ?_
  refine ow_nil ?_
  refine qw_seq ?_
  refine cw_seq ?_
  refine cw_region ?_
  refine ow_val rfl rfl (ex_move rfl) ?_
  refine ow_val rfl rfl (ex_assign rfl) ?_
  refine ow_val rfl rfl (ex_assign rfl) ?_
  refine ow_nil ?_
  refine qw_seq ?_
  refine cw_seq ?_
  refine cw_block ?_
  refine cw_loopS (α := Unit) (fun _ => [(0, .slice (some ⟨g, 0, none⟩) ts.length c), (1, .int .i64 (ts.length : Int)), (2, .func (.func 57) #[] #[]), (6, .int .i64 (20 : Int)), (7, .int .i64 (0 : Int)), (8, .int .i64 (20 : Int))]) (fun _ => True) (fun _ => 0) () (subL_cons (lkv rfl (by first | rfl | simp)) (subL_cons (lkv rfl (by first | rfl | simp)) (subL_cons (lkv rfl (by first | rfl | simp)) (subL_cons (lkv rfl (by first | rfl | simp)) (subL_cons (lkv rfl (by first | rfl | simp)) (subL_cons (lkv rfl (by first | rfl | simp)) (subL_nil _))))))) trivial ?_
  intro _ _
  refine cw_seq ?_
  refine cw_seq ?_
  refine cw_region ?_
  refine ow_val rfl rfl (ex_move rfl) ?_
  refine ow_val rfl rfl (ex_move rfl) ?_
  refine ow_val rfl rfl (ex_leq rfl rfl) ?_
  refine ow_nil ?_
  refine qw_seq ?_
  refine cw_cond rfl (fun c13 => ?_) (fun c13 => ?_)
  ·
    simp at c13; omega
  ·
    refine cw_exit ?_
    refine qw_then_exit ?_
    refine qw_then_exit ?_
    refine qw_block_exit ?_
    refine qw_seq ?_
    refine cw_seq ?_
    refine cw_region ?_
    refine ow_val rfl rfl (ex_move rfl) ?_
    refine ow_val rfl rfl (ex_move rfl) ?_
    refine ow_val rfl rfl (ex_move rfl) ?_
    refine ow_val rfl rfl (ex_move rfl) ?_
    refine ow_cmd rfl rfl (ex_callf rfl (fun w h => callM (pInsertion (a := 0) (b := ts.length) h.im (h.own (p := (g, rowO xs tl 30)) List.mem_cons_self) (h.fresh (p := (g, rowO xs tl 30)) List.mem_cons_self) hr (by unfold maxKids; omega) (Nat.zero_le _) (Nat.le_refl _) hc))) (fun v27 us ys hR hr2 => ?_)
    refine ow_nil ?_
    refine qw_seq ?_
    refine cw_block ?_
    refine cw_loopS (α := Unit) (fun _ => [(0, .slice (some ⟨g, 0, none⟩) ts.length c), (1, .int .i64 (ts.length : Int)), (2, .func (.func 57) #[] #[]), (6, .int .i64 (20 : Int)), (7, .int .i64 (0 : Int))]) (fun _ => True) (fun _ => 0) () (subL_cons (lkv rfl (by first | rfl | simp)) (subL_cons (lkv rfl (by first | rfl | simp)) (subL_cons (lkv rfl (by first | rfl | simp)) (subL_cons (lkv rfl (by first | rfl | simp)) (subL_cons (lkv rfl (by first | rfl | simp)) (subL_nil _)))))) trivial ?_
    intro _ _
    refine cw_seq ?_
    refine cw_seq ?_
    refine cw_region ?_
    refine ow_val rfl rfl (ex_move rfl) ?_
    refine ow_val rfl rfl (ex_move rfl) ?_
    refine ow_val rfl rfl (ex_lss rfl rfl) ?_
    refine ow_nil ?_
    refine qw_seq ?_
    refine cw_cond rfl (fun c30 => ?_) (fun c30 => ?_)
    ·
      simp at c30; omega
    ·
      refine cw_exit ?_
      refine qw_then_exit ?_
      refine qw_then_exit ?_
      refine qw_block_exit ?_
      refine qw_end0 rfl (fun w' h => h.givesM hr2 (sorted_of hR.1 hR.2))

set_option maxHeartbeats 400000 in
theorem pSortS {g c : Nat} {ts : List T} {xs tl : List Value} {σ : Hp} {w : World} (hi : Imm σ w) (hg : w.heap[g]? = some (rowO xs tl 30)) (hd : σ g = none) (hr : RowC σ xs ts) (hm : ts.length < 20) (hc : ts.length ≤ c) : Calls Tryd.prog 70 #[.slice (some ⟨g, 0, none⟩) ts.length c, .func (.func 57) #[] #[]] w (GiveM g tl 30 σ (fun us => us.Perm ts ∧ sorted us = true) w) := by
  refine enter (St w (· = g) σ [(g, rowO xs tl 30)] []) Tryd.func70 rfl Tryd.ntmps70 rfl (St.startM hi hg hd) ?_
  refine cw_region ?_
  refine ow_val rfl rfl (ex_move rfl) ?_
  refine ow_val rfl rfl (ex_move rfl) ?_
  refine ow_val rfl rfl (ex_len (ty := 0) rfl) ?_
  refine ow_val rfl rfl (ex_move rfl) ?_
  refine ow_cmd rfl rfl (ex_callf rfl (fun w h => callM (pStableS h.im (h.own (p := (g, rowO xs tl 30)) List.mem_cons_self) (h.fresh (p := (g, rowO xs tl 30)) List.mem_cons_self) hr hm hc))) (fun v8 us ys hR hr2 => ?_)
  refine ow_nil ?_
  refine qw_end0 rfl (fun w' h => h.givesM hr2 hR)

theorem pSortsS : SortsAt Tryd.prog 70 57 30 19 := fun hn hi hg hd hr hm hc => by subst hn; exact pSortS hi hg hd hr (by omega) hc

end Go.Proofs.YtnjomdjkbbhdoaaDoor
