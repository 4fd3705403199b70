/-
  Walks of the reference: which terms are right.
  No condition.
-/
import Derived.Test.YtnjomdjkbbhdoaaDoorWa2
namespace Go.Proofs.YtnjomdjkbbhdoaaDoor
open Go.RowKit
set_option linter.unusedVariables false
set_option linter.unusedSimpArgs false
set_option maxRecDepth 100000

set_option maxHeartbeats 400000 in
theorem rRightD : ∀ (t : T) {deep : Nat} {σ : Hp} {cs : List Value} {w : World}, Imm σ w → TermC σ cs t → deep ≤ 16 → Calls Tryd.prog 68 #[.agg cs.toArray, .int .i64 (deep : Int)] w fun e w' => e = .returned (.bool (rightD t deep)) ∧ Below w.heap.size w w' := by
  intro t
  induction t using T.ind with
  | _ o n d ks ih =>
  intro deep σ cs w hi ht hde
  obtain ⟨dv, kv, rfl, ho, hn, hd, hk⟩ := ht.opn
  simp only [T.kids, T.op, T.num, T.data] at *
  obtain ⟨p, c, rfl, hc, hm⟩ := hk.slice
  obtain ⟨pd, cd, rfl, hcd, hmd⟩ := hd.slice
  have hm2 := hm
  unfold maxKids at hm2
  refine enter (St w (fun _ => False) σ [] []) Tryd.func68 rfl Tryd.ntmps68 rfl (St.start hi) ?_
  refine cw_seq ?_
  refine cw_region ?_
  refine ow_blk rfl rfl (exw_box rfl) ?_; intro b2
  refine ow_val rfl rfl (ex_assign rfl) ?_
  refine ow_nil ?_
  refine qw_seq ?_
  refine cw_seq ?_
  refine cw_region ?_
  refine ow_val rfl rfl (ex_loadR rfl (by first | exact ld_ownN 0 rfl rfl | exact ld_ownN 1 rfl rfl | exact ld_ownN 2 rfl rfl | exact ld_ownN 3 rfl rfl | exact ld_ownN 4 rfl rfl | exact ld_ownN 5 rfl rfl | exact ld_ownN 6 rfl rfl | exact ld_ownN 7 rfl rfl | exact ld_ownGN 0 rfl rfl | exact ld_ownGN 1 rfl rfl | exact ld_immT (by assumption) (by assumption))) ?_
  refine ow_cv rfl rfl (ex_callf rfl (fun w h => callB ((rKids h.im hk)))) ?_
  refine ow_val rfl rfl (ex_assign rfl) ?_
  refine ow_nil ?_
  refine qw_seq ?_
  refine cw_seq ?_
  refine cw_cut1 21 (.bool (decide (16 ≤ (deep : Int)) || (!kidsOK o ks || decide (8192 < (d.length : Int))))) ?_ ?_
  ·
    refine cw_region ?_
    refine ow_val rfl rfl (ex_move rfl) ?_
    refine ow_val rfl rfl (ex_geq rfl rfl) ?_
    refine ow_val rfl rfl (ex_move rfl) ?_
    refine ow_split (g := some (2, false)) rfl (fun s12 => ?_) (fun s12 => ?_)
    ·
      refine ow_skip rfl (gd_no rfl s12) ?_
      refine ow_skip rfl (gd_no rfl s12) ?_
      refine ow_val rfl rfl (ex_pickt rfl s12 rfl) ?_
      refine ow_val rfl rfl (ex_move rfl) ?_
      refine ow_skip rfl rfl ?_
      refine ow_skip rfl rfl ?_
      refine ow_skip rfl rfl ?_
      refine ow_skip rfl rfl ?_
      refine ow_val rfl rfl (ex_pick_t rfl rfl) ?_
      refine ow_nil ?_
      exact qw_meet (subL_meet 12 21 (lkv rfl (by first | rfl | (simp_all; done) | (simp_all <;> omega))) rfl rfl) (fun w h => h)
    ·
      refine ow_val rfl (gd_go rfl s12) (ex_move rfl) ?_
      refine ow_val rfl (gd_go rfl s12) (ex_not rfl) ?_
      refine ow_val rfl rfl (ex_pickf rfl s12 rfl) ?_
      refine ow_val rfl rfl (ex_move rfl) ?_
      refine ow_split (g := some (6, false)) rfl (fun s16 => ?_) (fun s16 => ?_)
      ·
        refine ow_skip rfl (gd_no rfl s16) ?_
        refine ow_skip rfl (gd_no rfl s16) ?_
        refine ow_skip rfl (gd_no rfl s16) ?_
        refine ow_skip rfl (gd_no rfl s16) ?_
        refine ow_val rfl rfl (ex_pickt rfl s16 rfl) ?_
        refine ow_nil ?_
        exact qw_meet (subL_meet 12 21 (lkv rfl (by first | rfl | (simp_all; done) | (simp_all <;> omega))) rfl rfl) (fun w h => h)
      ·
        refine ow_val rfl (gd_go rfl s16) (ex_field rfl) ?_
        refine ow_val rfl (gd_go rfl s16) (ex_load1 rfl (by first | exact ld_own1 0 rfl rfl | exact ld_own1 1 rfl rfl | exact ld_own1 2 rfl rfl | exact ld_own1 3 rfl rfl | exact ld_own1 4 rfl rfl | exact ld_own1 5 rfl rfl | exact ld_own1 6 rfl rfl | exact ld_own1 7 rfl rfl | exact ld_ownG1 0 rfl rfl | exact ld_ownG1 1 rfl rfl | exact ld_imm1 (by assumption))) ?_
        refine ow_val rfl (gd_go rfl s16) (ex_len (ty := 0) rfl) ?_
        refine ow_val rfl (gd_go rfl s16) (ex_gtr rfl rfl) ?_
        refine ow_val rfl rfl (ex_pickf rfl s16 rfl) ?_
        refine ow_nil ?_
        exact qw_meet (subL_meet 12 21 (lkv rfl (by first | rfl | (simp_all; done) | (simp_all <;> omega))) rfl rfl) (fun w h => h)
  ·
    refine cw_cond rfl (fun c21 => ?_) (fun c21 => ?_)
    ·
      refine cw_seq ?_
      refine cw_region ?_
      refine ow_val rfl rfl (ex_assign rfl) ?_
      refine ow_nil ?_
      refine qw_seq ?_
      refine cw_ret ?_
      refine qw_then_ret ?_
      refine qw_ret1 rfl rfl (fun w' h => ⟨congrArg (fun z => Ending.returned (.bool z)) ?_, h.ag.below⟩)
      symm
      rw [rightD_mk]
      simp at c21
      rcases c21 with c21 | c21 | c21
      · simp [show ¬ deep < 16 by omega]
      · simp [shape_go, c21]
      · simp [shape_go, c21]
    ·
      refine cw_skip ?_
      refine qw_seq ?_
      refine cw_seq ?_
      refine cw_cut1 44 (.bool (decide (o = 1) && (decide (n < 0) || decide (1099511627776 < n)) || decide (o ≠ 1) && decide (n ≠ 0))) ?_ ?_
      ·
        refine cw_region ?_
        refine ow_val rfl rfl (ex_field rfl) ?_
        refine ow_val rfl rfl (ex_load1 rfl (by first | exact ld_own1 0 rfl rfl | exact ld_own1 1 rfl rfl | exact ld_own1 2 rfl rfl | exact ld_own1 3 rfl rfl | exact ld_own1 4 rfl rfl | exact ld_own1 5 rfl rfl | exact ld_own1 6 rfl rfl | exact ld_own1 7 rfl rfl | exact ld_ownG1 0 rfl rfl | exact ld_ownG1 1 rfl rfl | exact ld_imm1 (by assumption))) ?_
        refine ow_val rfl rfl (ex_eql rfl rfl) ?_
        refine ow_val rfl rfl (ex_move rfl) ?_
        refine ow_split (g := some (3, true)) rfl (fun s25 => ?_) (fun s25 => ?_)
        ·
          refine ow_val rfl (gd_go rfl s25) (ex_field rfl) ?_
          refine ow_val rfl (gd_go rfl s25) (ex_load1 rfl (by first | exact ld_own1 0 rfl rfl | exact ld_own1 1 rfl rfl | exact ld_own1 2 rfl rfl | exact ld_own1 3 rfl rfl | exact ld_own1 4 rfl rfl | exact ld_own1 5 rfl rfl | exact ld_own1 6 rfl rfl | exact ld_own1 7 rfl rfl | exact ld_ownG1 0 rfl rfl | exact ld_ownG1 1 rfl rfl | exact ld_imm1 (by assumption))) ?_
          refine ow_val rfl (gd_go rfl s25) (ex_lss rfl rfl) ?_
          refine ow_val rfl (gd_go rfl s25) (ex_move rfl) ?_
          refine ow_split (g := some (7, false)) rfl (fun s29 => ?_) (fun s29 => ?_)
          ·
            refine ow_skip rfl (gd_no rfl s29) ?_
            refine ow_skip rfl (gd_no rfl s29) ?_
            refine ow_skip rfl (gd_no rfl s29) ?_
            refine ow_val rfl (gd_go rfl s25) (ex_pickt rfl s29 rfl) ?_
            refine ow_val rfl rfl (ex_pickt rfl s25 rfl) ?_
            refine ow_val rfl rfl (ex_move rfl) ?_
            refine ow_skip rfl rfl ?_
            refine ow_skip rfl rfl ?_
            refine ow_skip rfl rfl ?_
            refine ow_skip rfl rfl ?_
            refine ow_skip rfl rfl ?_
            refine ow_skip rfl rfl ?_
            refine ow_skip rfl rfl ?_
            refine ow_skip rfl rfl ?_
            refine ow_val rfl rfl (ex_pick_t rfl rfl) ?_
            refine ow_nil ?_
            exact qw_meet (subL_meet 23 44 (lkv rfl (by first | rfl | (simp_all; done) | (simp_all <;> omega))) rfl rfl) (fun w h => h)
          ·
            refine ow_val rfl (gd_go rfl s29) (ex_field rfl) ?_
            refine ow_val rfl (gd_go rfl s29) (ex_load1 rfl (by first | exact ld_own1 0 rfl rfl | exact ld_own1 1 rfl rfl | exact ld_own1 2 rfl rfl | exact ld_own1 3 rfl rfl | exact ld_own1 4 rfl rfl | exact ld_own1 5 rfl rfl | exact ld_own1 6 rfl rfl | exact ld_own1 7 rfl rfl | exact ld_ownG1 0 rfl rfl | exact ld_ownG1 1 rfl rfl | exact ld_imm1 (by assumption))) ?_
            refine ow_val rfl (gd_go rfl s29) (ex_gtr rfl rfl) ?_
            refine ow_val rfl (gd_go rfl s25) (ex_pickf rfl s29 rfl) ?_
            refine ow_val rfl rfl (ex_pickt rfl s25 rfl) ?_
            refine ow_val rfl rfl (ex_move rfl) ?_
            refine ow_split (g := some (13, false)) rfl (fun s35 => ?_) (fun s35 => ?_)
            ·
              refine ow_skip rfl (gd_no rfl s35) ?_
              refine ow_skip rfl (gd_no rfl s35) ?_
              refine ow_skip rfl (gd_no rfl s35) ?_
              refine ow_skip rfl (gd_no rfl s35) ?_
              refine ow_skip rfl rfl ?_
              refine ow_skip rfl rfl ?_
              refine ow_skip rfl rfl ?_
              refine ow_skip rfl (gd_no rfl s35) ?_
              refine ow_val rfl rfl (ex_pickt rfl s35 rfl) ?_
              refine ow_nil ?_
              exact qw_meet (subL_meet 23 44 (lkv rfl (by first | rfl | (simp_all; done) | (simp_all <;> omega))) rfl rfl) (fun w h => h)
            ·
              refine ow_val rfl (gd_go rfl s35) (ex_field rfl) ?_
              refine ow_val rfl (gd_go rfl s35) (ex_load1 rfl (by first | exact ld_own1 0 rfl rfl | exact ld_own1 1 rfl rfl | exact ld_own1 2 rfl rfl | exact ld_own1 3 rfl rfl | exact ld_own1 4 rfl rfl | exact ld_own1 5 rfl rfl | exact ld_own1 6 rfl rfl | exact ld_own1 7 rfl rfl | exact ld_ownG1 0 rfl rfl | exact ld_ownG1 1 rfl rfl | exact ld_imm1 (by assumption))) ?_
              refine ow_val rfl (gd_go rfl s35) (ex_neq rfl rfl) ?_
              refine ow_val rfl (gd_go rfl s35) (ex_move rfl) ?_
              refine ow_split (g := some (17, true)) rfl (fun s39 => ?_) (fun s39 => ?_)
              ·
                refine ow_val rfl (gd_go rfl s39) (ex_field rfl) ?_
                refine ow_val rfl (gd_go rfl s39) (ex_load1 rfl (by first | exact ld_own1 0 rfl rfl | exact ld_own1 1 rfl rfl | exact ld_own1 2 rfl rfl | exact ld_own1 3 rfl rfl | exact ld_own1 4 rfl rfl | exact ld_own1 5 rfl rfl | exact ld_own1 6 rfl rfl | exact ld_own1 7 rfl rfl | exact ld_ownG1 0 rfl rfl | exact ld_ownG1 1 rfl rfl | exact ld_imm1 (by assumption))) ?_
                refine ow_val rfl (gd_go rfl s39) (ex_neq rfl rfl) ?_
                refine ow_val rfl (gd_go rfl s35) (ex_pickt rfl s39 rfl) ?_
                refine ow_val rfl rfl (ex_pickf rfl s35 rfl) ?_
                refine ow_nil ?_
                exact qw_meet (subL_meet 23 44 (lkv rfl (by first | rfl | (simp_all; done) | (simp_all <;> omega))) rfl rfl) (fun w h => h)
              ·
                refine ow_skip rfl (gd_no rfl s39) ?_
                refine ow_skip rfl (gd_no rfl s39) ?_
                refine ow_skip rfl (gd_no rfl s39) ?_
                refine ow_val rfl (gd_go rfl s35) (ex_pickf rfl s39 rfl) ?_
                refine ow_val rfl rfl (ex_pickf rfl s35 rfl) ?_
                refine ow_nil ?_
                exact qw_meet (subL_meet 23 44 (lkv rfl (by first | rfl | (simp_all; done) | (simp_all <;> omega))) rfl rfl) (fun w h => h)
        ·
          refine ow_skip rfl (gd_no rfl s25) ?_
          refine ow_skip rfl (gd_no rfl s25) ?_
          refine ow_skip rfl (gd_no rfl s25) ?_
          refine ow_skip rfl (gd_no rfl s25) ?_
          refine ow_skip rfl rfl ?_
          refine ow_skip rfl rfl ?_
          refine ow_skip rfl rfl ?_
          refine ow_skip rfl (gd_no rfl s25) ?_
          refine ow_val rfl rfl (ex_pickf rfl s25 rfl) ?_
          refine ow_val rfl rfl (ex_move rfl) ?_
          refine ow_val rfl rfl (ex_field rfl) ?_
          refine ow_val rfl rfl (ex_load1 rfl (by first | exact ld_own1 0 rfl rfl | exact ld_own1 1 rfl rfl | exact ld_own1 2 rfl rfl | exact ld_own1 3 rfl rfl | exact ld_own1 4 rfl rfl | exact ld_own1 5 rfl rfl | exact ld_own1 6 rfl rfl | exact ld_own1 7 rfl rfl | exact ld_ownG1 0 rfl rfl | exact ld_ownG1 1 rfl rfl | exact ld_imm1 (by assumption))) ?_
          refine ow_val rfl rfl (ex_neq rfl rfl) ?_
          refine ow_val rfl rfl (ex_move rfl) ?_
          refine ow_split (g := some (17, true)) rfl (fun s39 => ?_) (fun s39 => ?_)
          ·
            refine ow_val rfl (gd_go rfl s39) (ex_field rfl) ?_
            refine ow_val rfl (gd_go rfl s39) (ex_load1 rfl (by first | exact ld_own1 0 rfl rfl | exact ld_own1 1 rfl rfl | exact ld_own1 2 rfl rfl | exact ld_own1 3 rfl rfl | exact ld_own1 4 rfl rfl | exact ld_own1 5 rfl rfl | exact ld_own1 6 rfl rfl | exact ld_own1 7 rfl rfl | exact ld_ownG1 0 rfl rfl | exact ld_ownG1 1 rfl rfl | exact ld_imm1 (by assumption))) ?_
            refine ow_val rfl (gd_go rfl s39) (ex_neq rfl rfl) ?_
            refine ow_val rfl rfl (ex_pickt rfl s39 rfl) ?_
            refine ow_val rfl rfl (ex_pick_f rfl rfl) ?_
            refine ow_nil ?_
            exact qw_meet (subL_meet 23 44 (lkv rfl (by first | rfl | (simp_all; done) | (simp_all <;> omega))) rfl rfl) (fun w h => h)
          ·
            refine ow_skip rfl (gd_no rfl s39) ?_
            refine ow_skip rfl (gd_no rfl s39) ?_
            refine ow_skip rfl (gd_no rfl s39) ?_
            refine ow_val rfl rfl (ex_pickf rfl s39 rfl) ?_
            refine ow_val rfl rfl (ex_pick_f rfl rfl) ?_
            refine ow_nil ?_
            exact qw_meet (subL_meet 23 44 (lkv rfl (by first | rfl | (simp_all; done) | (simp_all <;> omega))) rfl rfl) (fun w h => h)
      ·
        refine cw_cond rfl (fun c44 => ?_) (fun c44 => ?_)
        ·
          refine cw_seq ?_
          refine cw_region ?_
          refine ow_val rfl rfl (ex_assign rfl) ?_
          refine ow_nil ?_
          refine qw_seq ?_
          refine cw_ret ?_
          refine qw_then_ret ?_
          refine qw_ret1 rfl rfl (fun w' h => ⟨congrArg (fun z => Ending.returned (.bool z)) ?_, h.ag.below⟩)
          symm
          rw [rightD_mk]
          rw [shape_go, c44]
          simp
        ·
          refine cw_skip ?_
          refine qw_seq ?_
          refine cw_seq ?_
          refine cw_cut1 68 (.bool (decide (0 < (d.length : Int)) && decide (o ≠ 3) && decide (o ≠ 4) && decide (o ≠ 5) && decide (o ≠ 6))) ?_ ?_
          ·
            refine cw_region ?_
            refine ow_val rfl rfl (ex_field rfl) ?_
            refine ow_val rfl rfl (ex_load1 rfl (by first | exact ld_own1 0 rfl rfl | exact ld_own1 1 rfl rfl | exact ld_own1 2 rfl rfl | exact ld_own1 3 rfl rfl | exact ld_own1 4 rfl rfl | exact ld_own1 5 rfl rfl | exact ld_own1 6 rfl rfl | exact ld_own1 7 rfl rfl | exact ld_ownG1 0 rfl rfl | exact ld_ownG1 1 rfl rfl | exact ld_imm1 (by assumption))) ?_
            refine ow_val rfl rfl (ex_len (ty := 0) rfl) ?_
            refine ow_val rfl rfl (ex_gtr rfl rfl) ?_
            refine ow_val rfl rfl (ex_move rfl) ?_
            refine ow_split (g := some (4, true)) rfl (fun s49 => ?_) (fun s49 => ?_)
            ·
              refine ow_val rfl (gd_go rfl s49) (ex_field rfl) ?_
              refine ow_val rfl (gd_go rfl s49) (ex_load1 rfl (by first | exact ld_own1 0 rfl rfl | exact ld_own1 1 rfl rfl | exact ld_own1 2 rfl rfl | exact ld_own1 3 rfl rfl | exact ld_own1 4 rfl rfl | exact ld_own1 5 rfl rfl | exact ld_own1 6 rfl rfl | exact ld_own1 7 rfl rfl | exact ld_ownG1 0 rfl rfl | exact ld_ownG1 1 rfl rfl | exact ld_imm1 (by assumption))) ?_
              refine ow_val rfl (gd_go rfl s49) (ex_neq rfl rfl) ?_
              refine ow_val rfl rfl (ex_pickt rfl s49 rfl) ?_
              refine ow_val rfl rfl (ex_move rfl) ?_
              refine ow_split (g := some (9, true)) rfl (fun s54 => ?_) (fun s54 => ?_)
              ·
                refine ow_val rfl (gd_go rfl s54) (ex_field rfl) ?_
                refine ow_val rfl (gd_go rfl s54) (ex_load1 rfl (by first | exact ld_own1 0 rfl rfl | exact ld_own1 1 rfl rfl | exact ld_own1 2 rfl rfl | exact ld_own1 3 rfl rfl | exact ld_own1 4 rfl rfl | exact ld_own1 5 rfl rfl | exact ld_own1 6 rfl rfl | exact ld_own1 7 rfl rfl | exact ld_ownG1 0 rfl rfl | exact ld_ownG1 1 rfl rfl | exact ld_imm1 (by assumption))) ?_
                refine ow_val rfl (gd_go rfl s54) (ex_neq rfl rfl) ?_
                refine ow_val rfl rfl (ex_pickt rfl s54 rfl) ?_
                refine ow_val rfl rfl (ex_move rfl) ?_
                refine ow_split (g := some (14, true)) rfl (fun s59 => ?_) (fun s59 => ?_)
                ·
                  refine ow_val rfl (gd_go rfl s59) (ex_field rfl) ?_
                  refine ow_val rfl (gd_go rfl s59) (ex_load1 rfl (by first | exact ld_own1 0 rfl rfl | exact ld_own1 1 rfl rfl | exact ld_own1 2 rfl rfl | exact ld_own1 3 rfl rfl | exact ld_own1 4 rfl rfl | exact ld_own1 5 rfl rfl | exact ld_own1 6 rfl rfl | exact ld_own1 7 rfl rfl | exact ld_ownG1 0 rfl rfl | exact ld_ownG1 1 rfl rfl | exact ld_imm1 (by assumption))) ?_
                  refine ow_val rfl (gd_go rfl s59) (ex_neq rfl rfl) ?_
                  refine ow_val rfl rfl (ex_pickt rfl s59 rfl) ?_
                  refine ow_val rfl rfl (ex_move rfl) ?_
                  refine ow_split (g := some (19, true)) rfl (fun s64 => ?_) (fun s64 => ?_)
                  ·
                    refine ow_val rfl (gd_go rfl s64) (ex_field rfl) ?_
                    refine ow_val rfl (gd_go rfl s64) (ex_load1 rfl (by first | exact ld_own1 0 rfl rfl | exact ld_own1 1 rfl rfl | exact ld_own1 2 rfl rfl | exact ld_own1 3 rfl rfl | exact ld_own1 4 rfl rfl | exact ld_own1 5 rfl rfl | exact ld_own1 6 rfl rfl | exact ld_own1 7 rfl rfl | exact ld_ownG1 0 rfl rfl | exact ld_ownG1 1 rfl rfl | exact ld_imm1 (by assumption))) ?_
                    refine ow_val rfl (gd_go rfl s64) (ex_neq rfl rfl) ?_
                    refine ow_val rfl rfl (ex_pickt rfl s64 rfl) ?_
                    refine ow_nil ?_
                    exact qw_meet (subL_meet 24 68 (lkv rfl (by first | rfl | (simp_all; done) | (simp_all <;> omega))) rfl rfl) (fun w h => h)
                  ·
                    refine ow_skip rfl (gd_no rfl s64) ?_
                    refine ow_skip rfl (gd_no rfl s64) ?_
                    refine ow_skip rfl (gd_no rfl s64) ?_
                    refine ow_val rfl rfl (ex_pickf rfl s64 rfl) ?_
                    refine ow_nil ?_
                    exact qw_meet (subL_meet 24 68 (lkv rfl (by first | rfl | (simp_all; done) | (simp_all <;> omega))) rfl rfl) (fun w h => h)
                ·
                  refine ow_skip rfl (gd_no rfl s59) ?_
                  refine ow_skip rfl (gd_no rfl s59) ?_
                  refine ow_skip rfl (gd_no rfl s59) ?_
                  refine ow_val rfl rfl (ex_pickf rfl s59 rfl) ?_
                  refine ow_val rfl rfl (ex_move rfl) ?_
                  refine ow_skip rfl rfl ?_
                  refine ow_skip rfl rfl ?_
                  refine ow_skip rfl rfl ?_
                  refine ow_val rfl rfl (ex_pick_f rfl rfl) ?_
                  refine ow_nil ?_
                  exact qw_meet (subL_meet 24 68 (lkv rfl (by first | rfl | (simp_all; done) | (simp_all <;> omega))) rfl rfl) (fun w h => h)
              ·
                refine ow_skip rfl (gd_no rfl s54) ?_
                refine ow_skip rfl (gd_no rfl s54) ?_
                refine ow_skip rfl (gd_no rfl s54) ?_
                refine ow_val rfl rfl (ex_pickf rfl s54 rfl) ?_
                refine ow_val rfl rfl (ex_move rfl) ?_
                refine ow_skip rfl rfl ?_
                refine ow_skip rfl rfl ?_
                refine ow_skip rfl rfl ?_
                refine ow_val rfl rfl (ex_pick_f rfl rfl) ?_
                refine ow_val rfl rfl (ex_move rfl) ?_
                refine ow_skip rfl rfl ?_
                refine ow_skip rfl rfl ?_
                refine ow_skip rfl rfl ?_
                refine ow_val rfl rfl (ex_pick_f rfl rfl) ?_
                refine ow_nil ?_
                exact qw_meet (subL_meet 24 68 (lkv rfl (by first | rfl | (simp_all; done) | (simp_all <;> omega))) rfl rfl) (fun w h => h)
            ·
              refine ow_skip rfl (gd_no rfl s49) ?_
              refine ow_skip rfl (gd_no rfl s49) ?_
              refine ow_skip rfl (gd_no rfl s49) ?_
              refine ow_val rfl rfl (ex_pickf rfl s49 rfl) ?_
              refine ow_val rfl rfl (ex_move rfl) ?_
              refine ow_skip rfl rfl ?_
              refine ow_skip rfl rfl ?_
              refine ow_skip rfl rfl ?_
              refine ow_val rfl rfl (ex_pick_f rfl rfl) ?_
              refine ow_val rfl rfl (ex_move rfl) ?_
              refine ow_skip rfl rfl ?_
              refine ow_skip rfl rfl ?_
              refine ow_skip rfl rfl ?_
              refine ow_val rfl rfl (ex_pick_f rfl rfl) ?_
              refine ow_val rfl rfl (ex_move rfl) ?_
              refine ow_skip rfl rfl ?_
              refine ow_skip rfl rfl ?_
              refine ow_skip rfl rfl ?_
              refine ow_val rfl rfl (ex_pick_f rfl rfl) ?_
              refine ow_nil ?_
              exact qw_meet (subL_meet 24 68 (lkv rfl (by first | rfl | (simp_all; done) | (simp_all <;> omega))) rfl rfl) (fun w h => h)
          ·
            refine cw_cond rfl (fun c68 => ?_) (fun c68 => ?_)
            ·
              refine cw_seq ?_
              refine cw_region ?_
              refine ow_val rfl rfl (ex_assign rfl) ?_
              refine ow_nil ?_
              refine qw_seq ?_
              refine cw_ret ?_
              refine qw_then_ret ?_
              refine qw_ret1 rfl rfl (fun w' h => ⟨congrArg (fun z => Ending.returned (.bool z)) ?_, h.ag.below⟩)
              symm
              rw [rightD_mk]
              rw [shape_go, c68]
              simp
            ·
              refine cw_skip ?_
              refine qw_seq ?_
              refine cw_seq ?_
              refine cw_seq ?_
              refine cw_region ?_
              refine ow_val rfl rfl (ex_assign rfl) ?_
              refine ow_nil ?_
              refine qw_seq ?_
              refine cw_block ?_
              refine cw_loopS (α := Nat) (fun i => [(1, .int .i64 (deep : Int)), (2, .pointer (some ⟨b2, 0, none⟩)), (6, .int .i64 (i : Int))]) (fun i => i ≤ ks.length ∧ (∀ j (h : j < ks.length), j < i → rightD ks[j] (deep + 1) = true) ∧ (∀ j (h : j + 1 < ks.length), j + 1 < i → ord ks[j] ks[j + 1] ≤ 0)) (fun i => ks.length - i) 0 (subL_cons (lkv rfl (by first | rfl | simp)) (subL_cons (lkv rfl (by first | rfl | simp)) (subL_cons (lkv rfl (by first | rfl | simp)) (subL_nil _)))) ⟨Nat.zero_le _, fun j h hj => absurd hj (Nat.not_lt_zero _), fun j h hj => absurd hj (Nat.not_lt_zero _)⟩ ?_
              intro i ⟨hle, hr, hso⟩
              refine cw_seq ?_
              refine cw_seq ?_
              refine cw_region ?_
              refine ow_val rfl rfl (ex_move rfl) ?_
              refine ow_val rfl rfl (ex_field rfl) ?_
              refine ow_val rfl rfl (ex_load1 rfl (by first | exact ld_own1 0 rfl rfl | exact ld_own1 1 rfl rfl | exact ld_own1 2 rfl rfl | exact ld_own1 3 rfl rfl | exact ld_own1 4 rfl rfl | exact ld_own1 5 rfl rfl | exact ld_own1 6 rfl rfl | exact ld_own1 7 rfl rfl | exact ld_ownG1 0 rfl rfl | exact ld_ownG1 1 rfl rfl | exact ld_imm1 (by assumption))) ?_
              refine ow_val rfl rfl (ex_len (ty := 0) rfl) ?_
              refine ow_val rfl rfl (ex_lss rfl rfl) ?_
              refine ow_nil ?_
              refine qw_seq ?_
              refine cw_cond rfl (fun c73 => ?_) (fun c73 => ?_)
              ·
                refine cw_skip ?_
                refine qw_seq ?_
                refine cw_seq ?_
                refine cw_block ?_
                refine cw_seq ?_
                have hlt : i < ks.length := by simp at c73; omega
                obtain ⟨bk, f, ck, cs, e1, e2, hc1, ht1⟩ := hk.get i hlt
                cases e1
                have hdp : deep < 16 := by simp at c21; omega
                refine cw_region ?_
                refine ow_val rfl rfl (ex_field rfl) ?_
                refine ow_val rfl rfl (ex_load1 rfl (by first | exact ld_own1 0 rfl rfl | exact ld_own1 1 rfl rfl | exact ld_own1 2 rfl rfl | exact ld_own1 3 rfl rfl | exact ld_own1 4 rfl rfl | exact ld_own1 5 rfl rfl | exact ld_own1 6 rfl rfl | exact ld_own1 7 rfl rfl | exact ld_ownG1 0 rfl rfl | exact ld_ownG1 1 rfl rfl | exact ld_imm1 (by assumption))) ?_
                refine ow_val rfl rfl (ex_move rfl) ?_
                refine ow_val rfl rfl (ex_index_nat rfl rfl (by omega)) ?_
                refine ow_val rfl rfl (ex_loadR rfl (by first | exact ld_ownN 0 rfl rfl | exact ld_ownN 1 rfl rfl | exact ld_ownN 2 rfl rfl | exact ld_ownN 3 rfl rfl | exact ld_ownN 4 rfl rfl | exact ld_ownN 5 rfl rfl | exact ld_ownN 6 rfl rfl | exact ld_ownN 7 rfl rfl | exact ld_ownGN 0 rfl rfl | exact ld_ownGN 1 rfl rfl | exact ld_immT (by assumption) (by assumption))) ?_
                refine ow_val rfl rfl (ex_move rfl) ?_
                refine ow_val rfl rfl (ex_addi (z := ((deep + 1 : Nat) : Int)) rfl rfl (by omega) (by omega) (by omega)) ?_
                refine ow_cv rfl rfl (ex_callf rfl (fun w h => callB ((ih _ (List.getElem_mem hlt) h.im ht1 (by omega))))) ?_
                refine ow_val rfl rfl (ex_assign rfl) ?_
                refine ow_nil ?_
                refine qw_seq ?_
                refine cw_seq ?_
                refine cw_seq ?_
                refine cw_region ?_
                refine ow_val rfl rfl (ex_move rfl) ?_
                refine ow_val rfl rfl (ex_not rfl) ?_
                refine ow_nil ?_
                refine qw_seq ?_
                refine cw_cond rfl (fun c85 => ?_) (fun c85 => ?_)
                ·
                  refine cw_seq ?_
                  refine cw_region ?_
                  refine ow_val rfl rfl (ex_assign rfl) ?_
                  refine ow_nil ?_
                  refine qw_seq ?_
                  refine cw_ret ?_
                  refine qw_then_ret ?_
                  refine qw_block_ret ?_
                  refine qw_then_ret ?_
                  refine qw_then_ret ?_
                  refine qw_block_ret ?_
                  refine qw_then_ret ?_
                  refine qw_ret1 rfl rfl (fun w' h => ⟨congrArg (fun z => Ending.returned (.bool z)) ?_, h.ag.below⟩)
                  symm
                  rw [rightD_mk]
                  have : rightsD ks (deep + 1) = false := by
                    cases hq : rightsD ks (deep + 1) with
                    | false => rfl
                    | true => have := rightsD_iff.1 hq i hlt; rw [this] at c85; cases c85
                  rw [this]; simp
                ·
                  refine cw_skip ?_
                  refine qw_seq ?_
                  refine cw_cut1 102 (.bool (decide (0 < (i : Int)) && decide (0 < ord (ks.getD (i - 1) zeroT) ks[i]))) ?_ ?_
                  ·
                    refine flow_sound 17 (by kernel_rfl) ?_
                    refine flow_val rfl (ex_move rfl) ?_
                    refine flow_val rfl (ex_gtr rfl rfl) ?_
                    refine flow_val rfl (ex_move rfl) ?_
                    refine flow_split rfl (fun s88 => ?_) (fun s88 => ?_)
                    ·
                      have hpos : 0 < i := by simpa using s88
                      obtain ⟨bk2, f2, ck2, cs2, e1', e2', hc2, ht2⟩ := hk.get (i - 1) (by omega)
                      cases e1'
                      rw [show ks[i - 1] = ks.getD (i - 1) zeroT by simp [List.getD_eq_getElem?_getD, show i - 1 < ks.length by omega]] at ht2
                      refine flow_val (gd_go rfl s88) (ex_field rfl) ?_
                      refine flow_val (gd_go rfl s88) (ex_load1 rfl (by first | exact ld_own1 0 rfl rfl | exact ld_own1 1 rfl rfl | exact ld_own1 2 rfl rfl | exact ld_own1 3 rfl rfl | exact ld_own1 4 rfl rfl | exact ld_own1 5 rfl rfl | exact ld_own1 6 rfl rfl | exact ld_own1 7 rfl rfl | exact ld_ownG1 0 rfl rfl | exact ld_ownG1 1 rfl rfl | exact ld_imm1 (by assumption))) ?_
                      refine flow_val (gd_go rfl s88) (ex_move rfl) ?_
                      refine flow_val (gd_go rfl s88) (ex_subi (z := ((i - 1 : Nat) : Int)) rfl rfl (by omega) (by omega) (by omega)) ?_
                      refine flow_val (gd_go rfl s88) (ex_index_nat rfl rfl (by omega)) ?_
                      refine flow_val (gd_go rfl s88) (ex_loadR rfl (by first | exact ld_ownN 0 rfl rfl | exact ld_ownN 1 rfl rfl | exact ld_ownN 2 rfl rfl | exact ld_ownN 3 rfl rfl | exact ld_ownN 4 rfl rfl | exact ld_ownN 5 rfl rfl | exact ld_ownN 6 rfl rfl | exact ld_ownN 7 rfl rfl | exact ld_ownGN 0 rfl rfl | exact ld_ownGN 1 rfl rfl | exact ld_immT (by assumption) (by assumption))) ?_
                      refine flow_val (gd_go rfl s88) (ex_field rfl) ?_
                      refine flow_val (gd_go rfl s88) (ex_load1 rfl (by first | exact ld_own1 0 rfl rfl | exact ld_own1 1 rfl rfl | exact ld_own1 2 rfl rfl | exact ld_own1 3 rfl rfl | exact ld_own1 4 rfl rfl | exact ld_own1 5 rfl rfl | exact ld_own1 6 rfl rfl | exact ld_own1 7 rfl rfl | exact ld_ownG1 0 rfl rfl | exact ld_ownG1 1 rfl rfl | exact ld_imm1 (by assumption))) ?_
                      refine flow_val (gd_go rfl s88) (ex_move rfl) ?_
                      refine flow_val (gd_go rfl s88) (ex_index_nat rfl rfl (by omega)) ?_
                      refine flow_val (gd_go rfl s88) (ex_loadR rfl (by first | exact ld_ownN 0 rfl rfl | exact ld_ownN 1 rfl rfl | exact ld_ownN 2 rfl rfl | exact ld_ownN 3 rfl rfl | exact ld_ownN 4 rfl rfl | exact ld_ownN 5 rfl rfl | exact ld_ownN 6 rfl rfl | exact ld_ownN 7 rfl rfl | exact ld_ownGN 0 rfl rfl | exact ld_ownGN 1 rfl rfl | exact ld_immT (by assumption) (by assumption))) ?_
                      refine flow_cv (gd_go rfl s88) (ex_callf rfl (fun w h => callB ((rOrder _ _ h.im ht2 ht1)))) ?_
                      refine flow_val (gd_go rfl s88) (ex_gtr rfl rfl) ?_
                      refine flow_val rfl (ex_pickt rfl s88 rfl) ?_
                      refine flow_nil ?_
                      refine fin_is ?_
                      refine fin_is ?_
                      refine fin_is ?_
                      refine fin_is ?_
                      refine fin_is ?_
                      refine fin_is ?_
                      refine fin_is ?_
                      refine fin_is ?_
                      refine fin_is ?_
                      refine fin_is ?_
                      refine fin_is ?_
                      refine fin_is ?_
                      refine fin_is ?_
                      refine fin_is ?_
                      refine fin_is ?_
                      refine fin_is ?_
                      refine fin_is ?_
                      refine fin_nil ?_
                      refine ow_nil ?_
                      exact qw_meet (subL_meet 17 102 (lkv rfl (by first | rfl | (simp_all; done) | (simp_all <;> omega))) rfl rfl) (fun w h => h)
                    ·
                      refine flow_skip (gd_no rfl s88) ?_
                      refine flow_skip (gd_no rfl s88) ?_
                      refine flow_skip (gd_no rfl s88) ?_
                      refine flow_skip (gd_no rfl s88) ?_
                      refine flow_skip (gd_no rfl s88) ?_
                      refine flow_skip (gd_no rfl s88) ?_
                      refine flow_skip (gd_no rfl s88) ?_
                      refine flow_skip (gd_no rfl s88) ?_
                      refine flow_skip (gd_no rfl s88) ?_
                      refine flow_skip (gd_no rfl s88) ?_
                      refine flow_skip (gd_no rfl s88) ?_
                      refine flow_skip (gd_no rfl s88) ?_
                      refine flow_skip (gd_no rfl s88) ?_
                      refine flow_val rfl (ex_pickf rfl s88 rfl) ?_
                      refine flow_nil ?_
                      refine fin_is ?_
                      refine fin_is ?_
                      refine fin_is ?_
                      refine fin_is ?_
                      refine fin_is ?_
                      refine fin_is ?_
                      refine fin_is ?_
                      refine fin_is ?_
                      refine fin_is ?_
                      refine fin_is ?_
                      refine fin_is ?_
                      refine fin_is ?_
                      refine fin_is ?_
                      refine fin_is ?_
                      refine fin_is ?_
                      refine fin_is ?_
                      refine fin_is ?_
                      refine fin_nil ?_
                      refine ow_nil ?_
                      exact qw_meet (subL_meet 17 102 (lkv rfl (by first | rfl | (simp_all; done) | (simp_all <;> omega))) rfl rfl) (fun w h => h)
                  ·
                    refine cw_cond rfl (fun c102 => ?_) (fun c102 => ?_)
                    ·
                      refine cw_seq ?_
                      refine cw_region ?_
                      refine ow_val rfl rfl (ex_assign rfl) ?_
                      refine ow_nil ?_
                      refine qw_seq ?_
                      refine cw_ret ?_
                      refine qw_block_ret ?_
                      refine qw_then_ret ?_
                      refine qw_then_ret ?_
                      refine qw_block_ret ?_
                      refine qw_then_ret ?_
                      refine qw_ret1 rfl rfl (fun w' h => ⟨congrArg (fun z => Ending.returned (.bool z)) ?_, h.ag.below⟩)
                      symm
                      rw [rightD_mk]
                      have : sorted ks = false := by
                        cases hq : sorted ks with
                        | false => rfl
                        | true =>
                          simp only [Bool.and_eq_true, decide_eq_true_eq] at c102
                          have := sorted_iff.1 hq (i - 1) (by omega)
                          have e : i - 1 + 1 = i := by omega
                          simp only [e] at this
                          rw [List.getD_eq_getElem?_getD, List.getElem?_eq_getElem (show i - 1 < ks.length by omega), Option.getD_some] at c102
                          omega
                      rw [this]; simp
                    ·
                      refine cw_skip ?_
                      refine qw_block_normal ?_
                      refine qw_seq ?_
                      refine cw_region ?_
                      refine ow_val rfl rfl (ex_move rfl) ?_
                      refine ow_val rfl rfl (ex_addi (z := ((i + 1 : Nat) : Int)) rfl rfl (by omega) (by omega) (by omega)) ?_
                      refine ow_val rfl rfl (ex_assign rfl) ?_
                      refine ow_nil ?_
                      exact qw_roundS (i + 1) (by omega) (subL_cons (lkv rfl (by first | rfl | simp)) (subL_cons (lkv rfl (by first | rfl | simp)) (subL_cons (lkv rfl (by first | rfl | simp)) (subL_nil _)))) ⟨by omega, fun j h hj => by
                        by_cases e : j = i
                        · subst e; simpa using c85
                        · exact hr j h (by omega), fun j h hj => by
                        by_cases e : j + 1 = i
                        · subst e
                          have : ord (ks.getD j zeroT) ks[j + 1] ≤ 0 := by simpa using c102
                          rwa [List.getD_eq_getElem?_getD, List.getElem?_eq_getElem (show j < ks.length by omega), Option.getD_some] at this
                        · exact hso j h (by omega)⟩
              ·
                refine cw_exit ?_
                refine qw_then_exit ?_
                refine qw_then_exit ?_
                refine qw_block_exit ?_
                refine qw_seq ?_
                refine cw_seq ?_
                refine cw_region ?_
                refine ow_val rfl rfl (ex_assign rfl) ?_
                refine ow_nil ?_
                refine qw_seq ?_
                refine cw_ret ?_
                refine qw_ret1 rfl rfl (fun w' h => ⟨congrArg (fun z => Ending.returned (.bool z)) ?_, h.ag.below⟩)
                symm
                rw [rightD_mk]
                have hsh : shape o n d ks = true := by
                  rw [shape_go, c44, c68]
                  simp at c21 ⊢
                  exact ⟨c21.2.1, by omega⟩
                have hdp : deep < 16 := by simp at c21; omega
                have he : i = ks.length := by simp at c73; omega
                rw [hsh, rightsD_iff.2 (fun j h => hr j h (by omega)), sorted_iff.2 (fun j h => hso j h (by omega))]
                simp [hdp]

set_option maxHeartbeats 400000 in
theorem rRight (t : T) {σ : Hp} {cs : List Value} {w : World} (hi : Imm σ w) (ht : TermC σ cs t) : Calls Tryd.prog 49 #[.agg cs.toArray] w fun e w' => e = .returned (.bool (right t)) ∧ Below w.heap.size w w' := by
  have ht0 := ht
  obtain ⟨dv, kv, rfl, ho, hn, hd, hk⟩ := ht.opn
  refine enter (St w (fun _ => False) σ [] []) Tryd.func49 rfl Tryd.ntmps49 rfl (St.start hi) ?_
  refine cw_seq ?_
  refine cw_region ?_
  refine ow_blk rfl rfl (exw_box rfl) ?_; intro b1
  refine ow_val rfl rfl (ex_assign rfl) ?_
  refine ow_nil ?_
  refine qw_seq ?_
  refine cw_seq ?_
  refine cw_region ?_
  refine ow_val rfl rfl (ex_loadR rfl (by first | exact ld_ownN 0 rfl rfl | exact ld_ownN 1 rfl rfl | exact ld_ownN 2 rfl rfl | exact ld_ownN 3 rfl rfl | exact ld_ownN 4 rfl rfl | exact ld_ownN 5 rfl rfl | exact ld_ownN 6 rfl rfl | exact ld_ownN 7 rfl rfl | exact ld_ownGN 0 rfl rfl | exact ld_ownGN 1 rfl rfl | exact ld_immT (by assumption) (by assumption))) ?_
  refine ow_cv rfl rfl (ex_callf rfl (fun w h => callB ((rRightD t (deep := 0) h.im ht0 (by omega))))) ?_
  refine ow_val rfl rfl (ex_assign rfl) ?_
  refine ow_nil ?_
  refine qw_seq ?_
  refine cw_ret ?_
  refine qw_ret1 rfl rfl (fun w' h => ⟨rfl, h.ag.below⟩)
end Go.Proofs.YtnjomdjkbbhdoaaDoor
