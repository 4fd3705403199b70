/-
  Walks of the library: the stable sort.
  No condition.
-/
import Derived.Test.YtnjomdjkbbhdoaaWc3
namespace Go.Proofs.Ytnjomdjkbbhdoaa
open Go.RowKit
set_option linter.unusedVariables false
set_option linter.unusedSimpArgs false
set_option maxRecDepth 100000

set_option maxHeartbeats 400000 in
theorem pStable {g c : Nat} {ts : List T} {xs tl : List Value} {σ : Hp} {w : World} (hi : Imm σ w) (hg : w.heap[g]? = some (rowO xs tl 26)) (hd : σ g = none) (hr : RowC σ xs ts) (hm : ts.length ≤ maxKids) (hc : ts.length ≤ c) : Calls Try.prog 46 #[.slice (some ⟨g, 0, none⟩) ts.length c, .int .i64 (ts.length : Int), .func (.func 17) #[] #[]] w (GiveM g tl 26 σ (fun us => us.Perm ts ∧ sorted us = true) w) := by
  have hm2 := hm
  unfold maxKids at hm2
  refine enter (St w (· = g) σ [(g, rowO xs tl 26)] []) Try.func46 rfl Try.ntmps46 rfl (St.startM hi hg hd) ?_
  refine cw_seq ?_
  refine cw_region ?_
  refine ow_val rfl rfl (ex_assign rfl) ?_
  refine ow_nil ?_
  refine qw_seq ?_
  refine cw_seq ?_
  refine cw_region ?_
  refine ow_val rfl rfl (ex_move rfl) ?_
  refine ow_val rfl rfl (ex_assign rfl) ?_
  refine ow_val rfl rfl (ex_assign rfl) ?_
  refine ow_nil ?_
  refine qw_seq ?_
  refine cw_seq ?_
  refine cw_block ?_
  refine cw_loopH4 (fun (k a : Nat) (us : List T) (ys : List Value) => [(0, .slice (some ⟨g, 0, none⟩) ts.length c), (1, .int .i64 (ts.length : Int)), (2, .func (.func 17) #[] #[]), (6, .int .i64 (20 : Int)), (7, .int .i64 (a : Int)), (8, .int .i64 ((a + 20 : Nat) : Int))]) (fun k a us ys => a = 20 * k ∧ a ≤ ts.length ∧ InR 0 ts.length us ts ∧ BlkBelow 20 k us ∧ RowC σ ys us) (fun k a us ys => σ) (fun k a us ys => [(g, rowO ys tl 26)]) (fun k a us ys => []) (fun k a us ys => ts.length + 20 - a) 0 0 ts xs (subL_cons (lkv rfl (by first | rfl | simp)) (subL_cons (lkv rfl (by first | rfl | simp)) (subL_cons (lkv rfl (by first | rfl | simp)) (subL_cons (lkv rfl (by first | rfl | simp)) (subL_cons (lkv rfl (by first | rfl | simp)) (subL_cons (lkv rfl (by first | rfl | simp)) (subL_nil _))))))) ⟨rfl, Nat.zero_le _, InR.refl _ _ _, fun q h => absurd h (Nat.not_lt_zero _), hr⟩ (fun w h => h) ?_
  intro k a us ys ⟨ha, hal, hin, hbl, hrow⟩
  have hul := hin.1
  refine cw_seq ?_
  refine cw_seq ?_
  refine cw_region ?_
  refine ow_val rfl rfl (ex_move rfl) ?_
  refine ow_val rfl rfl (ex_move rfl) ?_
  refine ow_val rfl rfl (ex_leq rfl rfl) ?_
  refine ow_nil ?_
  refine qw_seq ?_
  refine cw_cond rfl (fun c13 => ?_) (fun c13 => ?_)
  ·
    refine cw_skip ?_
    refine qw_seq ?_
    refine cw_block ?_
    refine cw_seq ?_
    have hab : a + 20 ≤ ts.length := by simp at c13; omega
    refine cw_region ?_
    refine ow_val rfl rfl (ex_move rfl) ?_
    refine ow_val rfl rfl (ex_move rfl) ?_
    refine ow_val rfl rfl (ex_move rfl) ?_
    refine ow_val rfl rfl (ex_move rfl) ?_
    refine ow_cmd rfl rfl (ex_callf rfl (fun w h => callM (hul ▸ pInsertion (a := a) (b := a + 20) h.im (h.own (p := (g, rowO ys tl 26)) List.mem_cons_self) (h.fresh (p := (g, rowO ys tl 26)) List.mem_cons_self) hrow (by omega) (by omega) (by omega) (by omega)))) (fun v18 us2 ys2 hR hr2 => ?_)
    obtain ⟨hR1, hR2⟩ := hR
    have hul2 : us2.length = ts.length := hR1.1.trans hul
    refine ow_nil ?_
    refine qw_seq ?_
    refine cw_seq ?_
    refine cw_region ?_
    refine ow_val rfl rfl (ex_move rfl) ?_
    refine ow_val rfl rfl (ex_assign rfl) ?_
    refine ow_nil ?_
    refine qw_seq ?_
    refine cw_region ?_
    refine ow_val rfl rfl (ex_move rfl) ?_
    refine ow_val rfl rfl (ex_move rfl) ?_
    refine ow_val rfl rfl (ex_addi (z := ((a + 20 + 20 : Nat) : Int)) rfl rfl (by omega) (by omega) (by omega)) ?_
    refine ow_val rfl rfl (ex_assign rfl) ?_
    refine ow_nil ?_
    refine qw_block_normal ?_
    exact qw_roundH4 (k + 1) (a + 20) us2 ys2 (by omega) (subL_cons (lkv rfl (by first | rfl | simp)) (subL_cons (lkv rfl (by first | rfl | simp)) (subL_cons (lkv rfl (by first | rfl | simp)) (subL_cons (lkv rfl (by first | rfl | simp)) (subL_cons (lkv rfl (by first | rfl | simp)) (subL_cons (lkv rfl (by first | rfl | simp)) (subL_nil _))))))) ⟨by omega, by omega, (hR1.wide (Nat.zero_le _) (by omega)).trans hin, below_step (e := a + 20) hbl (ha ▸ hR1) (ha ▸ hR2), hr2⟩ (fun w h => h)
  ·
    refine cw_exit ?_
    refine qw_then_exit ?_
    refine qw_then_exit ?_
    refine qw_block_exit ?_
    refine qw_seq ?_
    refine cw_seq ?_
    have hab : ts.length < a + 20 := by simp at c13; omega
    refine cw_region ?_
    refine ow_val rfl rfl (ex_move rfl) ?_
    refine ow_val rfl rfl (ex_move rfl) ?_
    refine ow_val rfl rfl (ex_move rfl) ?_
    refine ow_val rfl rfl (ex_move rfl) ?_
    refine ow_cmd rfl rfl (ex_callf rfl (fun w h => callM (hul ▸ pInsertion (a := a) (b := ts.length) h.im (h.own (p := (g, rowO ys tl 26)) List.mem_cons_self) (h.fresh (p := (g, rowO ys tl 26)) List.mem_cons_self) hrow (by omega) (by omega) (by omega) (by omega)))) (fun v27 us2 ys2 hR hr2 => ?_)
    obtain ⟨hR1, hR2⟩ := hR
    have hul2 : us2.length = ts.length := hR1.1.trans hul
    refine ow_nil ?_
    refine qw_seq ?_
    refine cw_block ?_
    refine cw_loopH3 (fun (s : Nat) (us : List T) (ys : List Value) => [(0, .slice (some ⟨g, 0, none⟩) ts.length c), (1, .int .i64 (ts.length : Int)), (2, .func (.func 17) #[] #[]), (6, .int .i64 (s : Int))]) (fun s us ys => 20 ≤ s ∧ InR 0 ts.length us ts ∧ BlkFrom s 0 us ∧ RowC σ ys us) (fun s us ys => σ) (fun s us ys => [(g, rowO ys tl 26)]) (fun s us ys => []) (fun s us ys => ts.length + ts.length - s) 20 us2 ys2 (subL_cons (lkv rfl (by first | rfl | simp)) (subL_cons (lkv rfl (by first | rfl | simp)) (subL_cons (lkv rfl (by first | rfl | simp)) (subL_cons (lkv rfl (by first | rfl | simp)) (subL_nil _))))) ⟨Nat.le_refl _, (hR1.wide (Nat.zero_le _) (Nat.le_refl _)).trans hin, below_last (n := ts.length) hbl (ha ▸ hR1) hul.symm (by omega) (ha ▸ hR2), hr2⟩ (fun w h => h) ?_
    intro s us ys ⟨hs20, hin, hfr0, hrow⟩
    have hul := hin.1
    refine cw_seq ?_
    refine cw_seq ?_
    refine cw_region ?_
    refine ow_val rfl rfl (ex_move rfl) ?_
    refine ow_val rfl rfl (ex_move rfl) ?_
    refine ow_val rfl rfl (ex_lss rfl rfl) ?_
    refine ow_nil ?_
    refine qw_seq ?_
    refine cw_cond rfl (fun c30 => ?_) (fun c30 => ?_)
    ·
      refine cw_skip ?_
      refine qw_seq ?_
      refine cw_block ?_
      refine cw_seq ?_
      have hsn : s < ts.length := by simpa using c30
      refine cw_region ?_
      refine ow_val rfl rfl (ex_move rfl) ?_
      refine ow_val rfl rfl (ex_muli (z := ((2 * s : Nat) : Int)) rfl rfl (by omega) (by omega) (by omega)) ?_
      refine ow_val rfl rfl (ex_assign rfl) ?_
      refine ow_val rfl rfl (ex_assign rfl) ?_
      refine ow_nil ?_
      refine qw_seq ?_
      refine cw_seq ?_
      refine cw_block ?_
      refine cw_loopH4 (fun (k a : Nat) (us : List T) (ys : List Value) => [(0, .slice (some ⟨g, 0, none⟩) ts.length c), (1, .int .i64 (ts.length : Int)), (2, .func (.func 17) #[] #[]), (6, .int .i64 (s : Int)), (7, .int .i64 (a : Int)), (8, .int .i64 ((a + 2 * s : Nat) : Int))]) (fun k a us ys => a = 2 * s * k ∧ a ≤ ts.length ∧ InR 0 ts.length us ts ∧ BlkBelow (2 * s) k us ∧ BlkFrom s (2 * k) us ∧ RowC σ ys us) (fun k a us ys => σ) (fun k a us ys => [(g, rowO ys tl 26)]) (fun k a us ys => []) (fun k a us ys => ts.length + 2 * s - a) 0 0 us ys (subL_cons (lkv rfl (by first | rfl | simp)) (subL_cons (lkv rfl (by first | rfl | simp)) (subL_cons (lkv rfl (by first | rfl | simp)) (subL_cons (lkv rfl (by first | rfl | simp)) (subL_cons (lkv rfl (by first | rfl | simp)) (subL_cons (lkv rfl (by first | rfl | simp)) (subL_nil _))))))) ⟨rfl, Nat.zero_le _, hin, fun q h => absurd h (Nat.not_lt_zero _), hfr0, hrow⟩ (fun w h => h) ?_
      intro k a us ys ⟨ha, hal, hin, hbl, hfr, hrow⟩
      have hul := hin.1
      refine cw_seq ?_
      refine cw_seq ?_
      refine cw_region ?_
      refine ow_val rfl rfl (ex_move rfl) ?_
      refine ow_val rfl rfl (ex_move rfl) ?_
      refine ow_val rfl rfl (ex_leq rfl rfl) ?_
      refine ow_nil ?_
      refine qw_seq ?_
      refine cw_cond rfl (fun c35 => ?_) (fun c35 => ?_)
      ·
        refine cw_skip ?_
        refine qw_seq ?_
        refine cw_block ?_
        refine cw_seq ?_
        have hab : a + 2 * s ≤ ts.length := by simp at c35; omega
        refine cw_region ?_
        refine ow_val rfl rfl (ex_move rfl) ?_
        refine ow_val rfl rfl (ex_move rfl) ?_
        refine ow_val rfl rfl (ex_move rfl) ?_
        refine ow_val rfl rfl (ex_move rfl) ?_
        refine ow_val rfl rfl (ex_addi (z := ((a + s : Nat) : Int)) rfl rfl (by omega) (by omega) (by omega)) ?_
        refine ow_val rfl rfl (ex_move rfl) ?_
        refine ow_val rfl rfl (ex_move rfl) ?_
        refine ow_cmd rfl rfl (ex_callf rfl (fun w h => callM (pMerge _ (a := a) (m := a + s) (b := a + 2 * s) hul.symm (Nat.lt_succ_self _) h.im (h.own (p := (g, rowO ys tl 26)) List.mem_cons_self) (h.fresh (p := (g, rowO ys tl 26)) List.mem_cons_self) hrow (by omega) (by omega) (by omega) (by omega) (by omega) (ha ▸ (from_even hfr).1) (ha ▸ (from_even hfr).2)))) (fun v43 us2 ys2 hR hr2 => ?_)
        obtain ⟨hR1, hR2⟩ := hR
        have hul2 : us2.length = ts.length := hR1.1.trans hul
        refine ow_nil ?_
        refine qw_seq ?_
        refine cw_seq ?_
        refine cw_region ?_
        refine ow_val rfl rfl (ex_move rfl) ?_
        refine ow_val rfl rfl (ex_assign rfl) ?_
        refine ow_nil ?_
        refine qw_seq ?_
        refine cw_region ?_
        refine ow_val rfl rfl (ex_move rfl) ?_
        refine ow_val rfl rfl (ex_move rfl) ?_
        refine ow_val rfl rfl (ex_muli (z := ((2 * s : Nat) : Int)) rfl rfl (by omega) (by omega) (by omega)) ?_
        refine ow_val rfl rfl (ex_addi (z := ((a + 2 * s + 2 * s : Nat) : Int)) rfl rfl (by omega) (by omega) (by omega)) ?_
        refine ow_val rfl rfl (ex_assign rfl) ?_
        refine ow_nil ?_
        refine qw_block_normal ?_
        exact qw_roundH4 (k + 1) (a + 2 * s) us2 ys2 (by omega) (subL_cons (lkv rfl (by first | rfl | simp)) (subL_cons (lkv rfl (by first | rfl | simp)) (subL_cons (lkv rfl (by first | rfl | simp)) (subL_cons (lkv rfl (by first | rfl | simp)) (subL_cons (lkv rfl (by first | rfl | simp)) (subL_cons (lkv rfl (by first | rfl | simp)) (subL_nil _))))))) ⟨by rw [ha, Nat.mul_add, Nat.mul_one], by omega, (hR1.wide (Nat.zero_le _) (by omega)).trans hin, below_step (e := a + 2 * s) hbl (ha ▸ hR1) (ha ▸ hR2), from_step hfr (ha ▸ hR1), hr2⟩ (fun w h => h)
      ·
        refine cw_exit ?_
        refine qw_then_exit ?_
        refine qw_then_exit ?_
        refine qw_block_exit ?_
        refine qw_seq ?_
        refine cw_seq ?_
        refine cw_seq ?_
        have hab : ts.length < a + 2 * s := by simp at c35; omega
        refine cw_region ?_
        refine ow_val rfl rfl (ex_move rfl) ?_
        refine ow_val rfl rfl (ex_move rfl) ?_
        refine ow_val rfl rfl (ex_addi (z := ((a + s : Nat) : Int)) rfl rfl (by omega) (by omega) (by omega)) ?_
        refine ow_val rfl rfl (ex_assign rfl) ?_
        refine ow_nil ?_
        refine qw_seq ?_
        refine cw_seq ?_
        refine cw_region ?_
        refine ow_val rfl rfl (ex_move rfl) ?_
        refine ow_val rfl rfl (ex_move rfl) ?_
        refine ow_val rfl rfl (ex_lss rfl rfl) ?_
        refine ow_nil ?_
        refine qw_seq ?_
        refine cw_cond rfl (fun c54 => ?_) (fun c54 => ?_)
        ·
          have hms : a + s < ts.length := by have := of_decide_eq_true c54; omega
          refine cw_region ?_
          refine ow_val rfl rfl (ex_move rfl) ?_
          refine ow_val rfl rfl (ex_move rfl) ?_
          refine ow_val rfl rfl (ex_move rfl) ?_
          refine ow_val rfl rfl (ex_move rfl) ?_
          refine ow_val rfl rfl (ex_move rfl) ?_
          refine ow_cmd rfl rfl (ex_callf rfl (fun w h => callM (pMerge _ (a := a) (m := a + s) (b := ts.length) hul.symm (Nat.lt_succ_self _) h.im (h.own (p := (g, rowO ys tl 26)) List.mem_cons_self) (h.fresh (p := (g, rowO ys tl 26)) List.mem_cons_self) hrow (by omega) (by omega) (by omega) (by omega) (by omega) (ha ▸ (from_even hfr).1) (fun j hj k1 k2 => (ha ▸ (from_even hfr).2 : SortedR (a + s) (a + 2 * s) us) j hj k1 (by omega))))) (fun v60 us2 ys2 hR hr2 => ?_)
          obtain ⟨hR1, hR2⟩ := hR
          have hul2 : us2.length = ts.length := hR1.1.trans hul
          refine ow_nil ?_
          refine qw_seq ?_
          refine cw_region ?_
          refine ow_val rfl rfl (ex_move rfl) ?_
          refine ow_val rfl rfl (ex_muli (z := ((2 * s : Nat) : Int)) rfl rfl (by omega) (by omega) (by omega)) ?_
          refine ow_val rfl rfl (ex_assign rfl) ?_
          refine ow_nil ?_
          refine qw_block_normal ?_
          exact qw_roundH3 (2 * s) us2 ys2 (by omega) (subL_cons (lkv rfl (by first | rfl | simp)) (subL_cons (lkv rfl (by first | rfl | simp)) (subL_cons (lkv rfl (by first | rfl | simp)) (subL_cons (lkv rfl (by first | rfl | simp)) (subL_nil _))))) ⟨by omega, (hR1.wide (Nat.zero_le _) (Nat.le_refl _)).trans hin, below_last (n := ts.length) hbl (ha ▸ hR1) hul.symm (by omega) (ha ▸ hR2), hr2⟩ (fun w h => h)
        ·
          have hms : ts.length ≤ a + s := by have := of_decide_eq_false c54; omega
          refine cw_skip ?_
          refine qw_seq ?_
          refine cw_region ?_
          refine ow_val rfl rfl (ex_move rfl) ?_
          refine ow_val rfl rfl (ex_muli (z := ((2 * s : Nat) : Int)) rfl rfl (by omega) (by omega) (by omega)) ?_
          refine ow_val rfl rfl (ex_assign rfl) ?_
          refine ow_nil ?_
          refine qw_block_normal ?_
          exact qw_roundH3 (2 * s) us ys (by omega) (subL_cons (lkv rfl (by first | rfl | simp)) (subL_cons (lkv rfl (by first | rfl | simp)) (subL_cons (lkv rfl (by first | rfl | simp)) (subL_cons (lkv rfl (by first | rfl | simp)) (subL_nil _))))) ⟨by omega, hin, from_half hbl hfr (by omega), hrow⟩ (fun w h => h)
    ·
      refine cw_exit ?_
      refine qw_then_exit ?_
      refine qw_then_exit ?_
      refine qw_block_exit ?_
      refine qw_end0 rfl (fun w' h => h.givesM hrow (sorted_of hin ?_))
      have hge : ts.length ≤ s := by simpa using c30
      exact hul ▸ from_all hfr0 (by omega)

set_option maxHeartbeats 400000 in
theorem pSort {g c : Nat} {ts : List T} {xs tl : List Value} {σ : Hp} {w : World} (hi : Imm σ w) (hg : w.heap[g]? = some (rowO xs tl 26)) (hd : σ g = none) (hr : RowC σ xs ts) (hm : ts.length ≤ maxKids) (hc : ts.length ≤ c) : Calls Try.prog 36 #[.slice (some ⟨g, 0, none⟩) ts.length c, .func (.func 17) #[] #[]] w (GiveM g tl 26 σ (fun us => us.Perm ts ∧ sorted us = true) w) := by
  refine enter (St w (· = g) σ [(g, rowO xs tl 26)] []) Try.func36 rfl Try.ntmps36 rfl (St.startM hi hg hd) ?_
  refine cw_region ?_
  refine ow_val rfl rfl (ex_move rfl) ?_
  refine ow_val rfl rfl (ex_move rfl) ?_
  refine ow_val rfl rfl (ex_len (ty := 0) rfl) ?_
  refine ow_val rfl rfl (ex_move rfl) ?_
  refine ow_cmd rfl rfl (ex_callf rfl (fun w h => callM (pStable h.im (h.own (p := (g, rowO xs tl 26)) List.mem_cons_self) (h.fresh (p := (g, rowO xs tl 26)) List.mem_cons_self) hr hm hc))) (fun v8 us ys hR hr2 => ?_)
  refine ow_nil ?_
  refine qw_end0 rfl (fun w' h => h.givesM hr2 hR)

theorem pSorts : SortsAt Try.prog 36 17 26 maxKids := fun hn hi hg hd hr hm hc => by subst hn; exact pSort hi hg hd hr hm hc

end Go.Proofs.Ytnjomdjkbbhdoaa
