/-
  What the law DeriveSecrets needs, part 5.
  No condition.
-/
import Derived.Test.YtnjomdjkbbhdoaaGreatDoorP4
set_option linter.unusedVariables false
set_option linter.unusedSimpArgs false
set_option linter.unusedSectionVars false
namespace Go.Proofs.YtnjomdjkbbhdoaaGreatDoor
open Go.RowKit
set_option linter.unusedVariables false
set_option linter.unusedSimpArgs false
set_option maxRecDepth 100000
set_option maxHeartbeats 400000 in
theorem rRightD : ∀ (t : T) {deep : Nat} {σ : Hp} {cs : List Value} {w : World}, Imm σ w → TermC σ cs t → deep ≤ 16 → Calls Tryz.prog 102 #[.agg cs.toArray, .int .i64 (deep : Int)] w fun e w' => e = .returned (.bool (rightD t deep)) ∧ Below w.heap.size w w' := by
  intro t
  induction t using T.ind with
  | _ o n d ks ih =>
  intro deep σ cs w hi ht hde
  obtain ⟨dv, kv, rfl, ho, hn, hd, hk⟩ := ht.opn
  simp only [T.kids, T.op, T.num, T.data] at *
  obtain ⟨p, c, rfl, hc, hm⟩ := hk.slice
  obtain ⟨pd, cd, rfl, hcd, hmd⟩ := hd.slice
  have hm2 := hm
  unfold maxKids at hm2
  refine enter (St w (fun _ => False) σ [] []) Tryz.func102 rfl Tryz.ntmps102 rfl (St.start hi) ?_
  refine cw_seq ?_
  refine cw_region ?_
  refine ow_blk rfl rfl (exw_box rfl) ?_; intro b2
  refine ow_val rfl rfl (ex_assign rfl) ?_
  refine ow_nil ?_
  refine qw_seq ?_
  refine cw_seq ?_
  refine cw_region ?_
  refine ow_val rfl rfl (ex_loadR rfl (by first | exact ld_ownN 0 rfl rfl | exact ld_ownN 1 rfl rfl | exact ld_ownN 2 rfl rfl | exact ld_ownN 3 rfl rfl | exact ld_ownN 4 rfl rfl | exact ld_ownN 5 rfl rfl | exact ld_ownN 6 rfl rfl | exact ld_ownN 7 rfl rfl | exact ld_ownGN 0 rfl rfl | exact ld_ownGN 1 rfl rfl | exact ld_immT (by assumption) (by assumption))) ?_
  refine ow_cv rfl rfl (ex_callf rfl (fun w h => callB ((rKids h.im hk)))) ?_
  refine ow_val rfl rfl (ex_assign rfl) ?_
  refine ow_nil ?_
  refine qw_seq ?_
  refine cw_seq ?_
  refine cw_cut1 21 (.bool (decide (16 ≤ (deep : Int)) || (!kidsOK o ks || decide (8192 < (d.length : Int))))) ?_ ?_
  ·
    refine cw_region ?_
    refine ow_val rfl rfl (ex_move rfl) ?_
    refine ow_val rfl rfl (ex_geq rfl rfl) ?_
    refine ow_val rfl rfl (ex_move rfl) ?_
    refine ow_split (g := some (2, false)) rfl (fun s12 => ?_) (fun s12 => ?_)
    ·
      refine ow_skip rfl (gd_no rfl s12) ?_
      refine ow_skip rfl (gd_no rfl s12) ?_
      refine ow_val rfl rfl (ex_pickt rfl s12 rfl) ?_
      refine ow_val rfl rfl (ex_move rfl) ?_
      refine ow_skip rfl rfl ?_
      refine ow_skip rfl rfl ?_
      refine ow_skip rfl rfl ?_
      refine ow_skip rfl rfl ?_
      refine ow_val rfl rfl (ex_pick_t rfl rfl) ?_
      refine ow_nil ?_
      exact qw_meet (subL_meet 12 21 (lkv rfl (by first | rfl | (simp_all; done) | (simp_all <;> omega))) rfl rfl) (fun w h => h)
    ·
      refine ow_val rfl (gd_go rfl s12) (ex_move rfl) ?_
      refine ow_val rfl (gd_go rfl s12) (ex_not rfl) ?_
      refine ow_val rfl rfl (ex_pickf rfl s12 rfl) ?_
      refine ow_val rfl rfl (ex_move rfl) ?_
      refine ow_split (g := some (6, false)) rfl (fun s16 => ?_) (fun s16 => ?_)
      ·
        refine ow_skip rfl (gd_no rfl s16) ?_
        refine ow_skip rfl (gd_no rfl s16) ?_
        refine ow_skip rfl (gd_no rfl s16) ?_
        refine ow_skip rfl (gd_no rfl s16) ?_
        refine ow_val rfl rfl (ex_pickt rfl s16 rfl) ?_
        refine ow_nil ?_
        exact qw_meet (subL_meet 12 21 (lkv rfl (by first | rfl | (simp_all; done) | (simp_all <;> omega))) rfl rfl) (fun w h => h)
      ·
        refine ow_val rfl (gd_go rfl s16) (ex_field rfl) ?_
        refine ow_val rfl (gd_go rfl s16) (ex_load1 rfl (by first | exact ld_own1 0 rfl rfl | exact ld_own1 1 rfl rfl | exact ld_own1 2 rfl rfl | exact ld_own1 3 rfl rfl | exact ld_own1 4 rfl rfl | exact ld_own1 5 rfl rfl | exact ld_own1 6 rfl rfl | exact ld_own1 7 rfl rfl | exact ld_ownG1 0 rfl rfl | exact ld_ownG1 1 rfl rfl | exact ld_imm1 (by assumption))) ?_
        refine ow_val rfl (gd_go rfl s16) (ex_len (ty := 0) rfl) ?_
        refine ow_val rfl (gd_go rfl s16) (ex_gtr rfl rfl) ?_
        refine ow_val rfl rfl (ex_pickf rfl s16 rfl) ?_
        refine ow_nil ?_
        exact qw_meet (subL_meet 12 21 (lkv rfl (by first | rfl | (simp_all; done) | (simp_all <;> omega))) rfl rfl) (fun w h => h)
  ·
    refine cw_cond rfl (fun c21 => ?_) (fun c21 => ?_)
    ·
      refine cw_seq ?_
      refine cw_region ?_
      refine ow_val rfl rfl (ex_assign rfl) ?_
      refine ow_nil ?_
      refine qw_seq ?_
      refine cw_ret ?_
      refine qw_then_ret ?_
      refine qw_ret1 rfl rfl (fun w' h => ⟨congrArg (fun z => Ending.returned (.bool z)) ?_, h.ag.below⟩)
      symm
      rw [rightD_mk]
      simp at c21
      rcases c21 with c21 | c21 | c21
      · simp [show ¬ deep < 16 by omega]
      · simp [shape_go, c21]
      · simp [shape_go, c21]
    ·
      refine cw_skip ?_
      refine qw_seq ?_
      refine cw_seq ?_
      refine cw_cut1 44 (.bool (decide (o = 1) && (decide (n < 0) || decide (1099511627776 < n)) || decide (o ≠ 1) && decide (n ≠ 0))) ?_ ?_
      ·
        refine cw_region ?_
        refine ow_val rfl rfl (ex_field rfl) ?_
        refine ow_val rfl rfl (ex_load1 rfl (by first | exact ld_own1 0 rfl rfl | exact ld_own1 1 rfl rfl | exact ld_own1 2 rfl rfl | exact ld_own1 3 rfl rfl | exact ld_own1 4 rfl rfl | exact ld_own1 5 rfl rfl | exact ld_own1 6 rfl rfl | exact ld_own1 7 rfl rfl | exact ld_ownG1 0 rfl rfl | exact ld_ownG1 1 rfl rfl | exact ld_imm1 (by assumption))) ?_
        refine ow_val rfl rfl (ex_eql rfl rfl) ?_
        refine ow_val rfl rfl (ex_move rfl) ?_
        refine ow_split (g := some (3, true)) rfl (fun s25 => ?_) (fun s25 => ?_)
        ·
          refine ow_val rfl (gd_go rfl s25) (ex_field rfl) ?_
          refine ow_val rfl (gd_go rfl s25) (ex_load1 rfl (by first | exact ld_own1 0 rfl rfl | exact ld_own1 1 rfl rfl | exact ld_own1 2 rfl rfl | exact ld_own1 3 rfl rfl | exact ld_own1 4 rfl rfl | exact ld_own1 5 rfl rfl | exact ld_own1 6 rfl rfl | exact ld_own1 7 rfl rfl | exact ld_ownG1 0 rfl rfl | exact ld_ownG1 1 rfl rfl | exact ld_imm1 (by assumption))) ?_
          refine ow_val rfl (gd_go rfl s25) (ex_lss rfl rfl) ?_
          refine ow_val rfl (gd_go rfl s25) (ex_move rfl) ?_
          refine ow_split (g := some (7, false)) rfl (fun s29 => ?_) (fun s29 => ?_)
          ·
            refine ow_skip rfl (gd_no rfl s29) ?_
            refine ow_skip rfl (gd_no rfl s29) ?_
            refine ow_skip rfl (gd_no rfl s29) ?_
            refine ow_val rfl (gd_go rfl s25) (ex_pickt rfl s29 rfl) ?_
            refine ow_val rfl rfl (ex_pickt rfl s25 rfl) ?_
            refine ow_val rfl rfl (ex_move rfl) ?_
            refine ow_skip rfl rfl ?_
            refine ow_skip rfl rfl ?_
            refine ow_skip rfl rfl ?_
            refine ow_skip rfl rfl ?_
            refine ow_skip rfl rfl ?_
            refine ow_skip rfl rfl ?_
            refine ow_skip rfl rfl ?_
            refine ow_skip rfl rfl ?_
            refine ow_val rfl rfl (ex_pick_t rfl rfl) ?_
            refine ow_nil ?_
            exact qw_meet (subL_meet 23 44 (lkv rfl (by first | rfl | (simp_all; done) | (simp_all <;> omega))) rfl rfl) (fun w h => h)
          ·
            refine ow_val rfl (gd_go rfl s29) (ex_field rfl) ?_
            refine ow_val rfl (gd_go rfl s29) (ex_load1 rfl (by first | exact ld_own1 0 rfl rfl | exact ld_own1 1 rfl rfl | exact ld_own1 2 rfl rfl | exact ld_own1 3 rfl rfl | exact ld_own1 4 rfl rfl | exact ld_own1 5 rfl rfl | exact ld_own1 6 rfl rfl | exact ld_own1 7 rfl rfl | exact ld_ownG1 0 rfl rfl | exact ld_ownG1 1 rfl rfl | exact ld_imm1 (by assumption))) ?_
            refine ow_val rfl (gd_go rfl s29) (ex_gtr rfl rfl) ?_
            refine ow_val rfl (gd_go rfl s25) (ex_pickf rfl s29 rfl) ?_
            refine ow_val rfl rfl (ex_pickt rfl s25 rfl) ?_
            refine ow_val rfl rfl (ex_move rfl) ?_
            refine ow_split (g := some (13, false)) rfl (fun s35 => ?_) (fun s35 => ?_)
            ·
              refine ow_skip rfl (gd_no rfl s35) ?_
              refine ow_skip rfl (gd_no rfl s35) ?_
              refine ow_skip rfl (gd_no rfl s35) ?_
              refine ow_skip rfl (gd_no rfl s35) ?_
              refine ow_skip rfl rfl ?_
              refine ow_skip rfl rfl ?_
              refine ow_skip rfl rfl ?_
              refine ow_skip rfl (gd_no rfl s35) ?_
              refine ow_val rfl rfl (ex_pickt rfl s35 rfl) ?_
              refine ow_nil ?_
              exact qw_meet (subL_meet 23 44 (lkv rfl (by first | rfl | (simp_all; done) | (simp_all <;> omega))) rfl rfl) (fun w h => h)
            ·
              refine ow_val rfl (gd_go rfl s35) (ex_field rfl) ?_
              refine ow_val rfl (gd_go rfl s35) (ex_load1 rfl (by first | exact ld_own1 0 rfl rfl | exact ld_own1 1 rfl rfl | exact ld_own1 2 rfl rfl | exact ld_own1 3 rfl rfl | exact ld_own1 4 rfl rfl | exact ld_own1 5 rfl rfl | exact ld_own1 6 rfl rfl | exact ld_own1 7 rfl rfl | exact ld_ownG1 0 rfl rfl | exact ld_ownG1 1 rfl rfl | exact ld_imm1 (by assumption))) ?_
              refine ow_val rfl (gd_go rfl s35) (ex_neq rfl rfl) ?_
              refine ow_val rfl (gd_go rfl s35) (ex_move rfl) ?_
              refine ow_split (g := some (17, true)) rfl (fun s39 => ?_) (fun s39 => ?_)
              ·
                refine ow_val rfl (gd_go rfl s39) (ex_field rfl) ?_
                refine ow_val rfl (gd_go rfl s39) (ex_load1 rfl (by first | exact ld_own1 0 rfl rfl | exact ld_own1 1 rfl rfl | exact ld_own1 2 rfl rfl | exact ld_own1 3 rfl rfl | exact ld_own1 4 rfl rfl | exact ld_own1 5 rfl rfl | exact ld_own1 6 rfl rfl | exact ld_own1 7 rfl rfl | exact ld_ownG1 0 rfl rfl | exact ld_ownG1 1 rfl rfl | exact ld_imm1 (by assumption))) ?_
                refine ow_val rfl (gd_go rfl s39) (ex_neq rfl rfl) ?_
                refine ow_val rfl (gd_go rfl s35) (ex_pickt rfl s39 rfl) ?_
                refine ow_val rfl rfl (ex_pickf rfl s35 rfl) ?_
                refine ow_nil ?_
                exact qw_meet (subL_meet 23 44 (lkv rfl (by first | rfl | (simp_all; done) | (simp_all <;> omega))) rfl rfl) (fun w h => h)
              ·
                refine ow_skip rfl (gd_no rfl s39) ?_
                refine ow_skip rfl (gd_no rfl s39) ?_
                refine ow_skip rfl (gd_no rfl s39) ?_
                refine ow_val rfl (gd_go rfl s35) (ex_pickf rfl s39 rfl) ?_
                refine ow_val rfl rfl (ex_pickf rfl s35 rfl) ?_
                refine ow_nil ?_
                exact qw_meet (subL_meet 23 44 (lkv rfl (by first | rfl | (simp_all; done) | (simp_all <;> omega))) rfl rfl) (fun w h => h)
        ·
          refine ow_skip rfl (gd_no rfl s25) ?_
          refine ow_skip rfl (gd_no rfl s25) ?_
          refine ow_skip rfl (gd_no rfl s25) ?_
          refine ow_skip rfl (gd_no rfl s25) ?_
          refine ow_skip rfl rfl ?_
          refine ow_skip rfl rfl ?_
          refine ow_skip rfl rfl ?_
          refine ow_skip rfl (gd_no rfl s25) ?_
          refine ow_val rfl rfl (ex_pickf rfl s25 rfl) ?_
          refine ow_val rfl rfl (ex_move rfl) ?_
          refine ow_val rfl rfl (ex_field rfl) ?_
          refine ow_val rfl rfl (ex_load1 rfl (by first | exact ld_own1 0 rfl rfl | exact ld_own1 1 rfl rfl | exact ld_own1 2 rfl rfl | exact ld_own1 3 rfl rfl | exact ld_own1 4 rfl rfl | exact ld_own1 5 rfl rfl | exact ld_own1 6 rfl rfl | exact ld_own1 7 rfl rfl | exact ld_ownG1 0 rfl rfl | exact ld_ownG1 1 rfl rfl | exact ld_imm1 (by assumption))) ?_
          refine ow_val rfl rfl (ex_neq rfl rfl) ?_
          refine ow_val rfl rfl (ex_move rfl) ?_
          refine ow_split (g := some (17, true)) rfl (fun s39 => ?_) (fun s39 => ?_)
          ·
            refine ow_val rfl (gd_go rfl s39) (ex_field rfl) ?_
            refine ow_val rfl (gd_go rfl s39) (ex_load1 rfl (by first | exact ld_own1 0 rfl rfl | exact ld_own1 1 rfl rfl | exact ld_own1 2 rfl rfl | exact ld_own1 3 rfl rfl | exact ld_own1 4 rfl rfl | exact ld_own1 5 rfl rfl | exact ld_own1 6 rfl rfl | exact ld_own1 7 rfl rfl | exact ld_ownG1 0 rfl rfl | exact ld_ownG1 1 rfl rfl | exact ld_imm1 (by assumption))) ?_
            refine ow_val rfl (gd_go rfl s39) (ex_neq rfl rfl) ?_
            refine ow_val rfl rfl (ex_pickt rfl s39 rfl) ?_
            refine ow_val rfl rfl (ex_pick_f rfl rfl) ?_
            refine ow_nil ?_
            exact qw_meet (subL_meet 23 44 (lkv rfl (by first | rfl | (simp_all; done) | (simp_all <;> omega))) rfl rfl) (fun w h => h)
          ·
            refine ow_skip rfl (gd_no rfl s39) ?_
            refine ow_skip rfl (gd_no rfl s39) ?_
            refine ow_skip rfl (gd_no rfl s39) ?_
            refine ow_val rfl rfl (ex_pickf rfl s39 rfl) ?_
            refine ow_val rfl rfl (ex_pick_f rfl rfl) ?_
            refine ow_nil ?_
            exact qw_meet (subL_meet 23 44 (lkv rfl (by first | rfl | (simp_all; done) | (simp_all <;> omega))) rfl rfl) (fun w h => h)
      ·
        refine cw_cond rfl (fun c44 => ?_) (fun c44 => ?_)
        ·
          refine cw_seq ?_
          refine cw_region ?_
          refine ow_val rfl rfl (ex_assign rfl) ?_
          refine ow_nil ?_
          refine qw_seq ?_
          refine cw_ret ?_
          refine qw_then_ret ?_
          refine qw_ret1 rfl rfl (fun w' h => ⟨congrArg (fun z => Ending.returned (.bool z)) ?_, h.ag.below⟩)
          symm
          rw [rightD_mk]
          rw [shape_go, c44]
          simp
        ·
          refine cw_skip ?_
          refine qw_seq ?_
          refine cw_seq ?_
          refine cw_cut1 68 (.bool (decide (0 < (d.length : Int)) && decide (o ≠ 3) && decide (o ≠ 4) && decide (o ≠ 5) && decide (o ≠ 6))) ?_ ?_
          ·
            refine cw_region ?_
            refine ow_val rfl rfl (ex_field rfl) ?_
            refine ow_val rfl rfl (ex_load1 rfl (by first | exact ld_own1 0 rfl rfl | exact ld_own1 1 rfl rfl | exact ld_own1 2 rfl rfl | exact ld_own1 3 rfl rfl | exact ld_own1 4 rfl rfl | exact ld_own1 5 rfl rfl | exact ld_own1 6 rfl rfl | exact ld_own1 7 rfl rfl | exact ld_ownG1 0 rfl rfl | exact ld_ownG1 1 rfl rfl | exact ld_imm1 (by assumption))) ?_
            refine ow_val rfl rfl (ex_len (ty := 0) rfl) ?_
            refine ow_val rfl rfl (ex_gtr rfl rfl) ?_
            refine ow_val rfl rfl (ex_move rfl) ?_
            refine ow_split (g := some (4, true)) rfl (fun s49 => ?_) (fun s49 => ?_)
            ·
              refine ow_val rfl (gd_go rfl s49) (ex_field rfl) ?_
              refine ow_val rfl (gd_go rfl s49) (ex_load1 rfl (by first | exact ld_own1 0 rfl rfl | exact ld_own1 1 rfl rfl | exact ld_own1 2 rfl rfl | exact ld_own1 3 rfl rfl | exact ld_own1 4 rfl rfl | exact ld_own1 5 rfl rfl | exact ld_own1 6 rfl rfl | exact ld_own1 7 rfl rfl | exact ld_ownG1 0 rfl rfl | exact ld_ownG1 1 rfl rfl | exact ld_imm1 (by assumption))) ?_
              refine ow_val rfl (gd_go rfl s49) (ex_neq rfl rfl) ?_
              refine ow_val rfl rfl (ex_pickt rfl s49 rfl) ?_
              refine ow_val rfl rfl (ex_move rfl) ?_
              refine ow_split (g := some (9, true)) rfl (fun s54 => ?_) (fun s54 => ?_)
              ·
                refine ow_val rfl (gd_go rfl s54) (ex_field rfl) ?_
                refine ow_val rfl (gd_go rfl s54) (ex_load1 rfl (by first | exact ld_own1 0 rfl rfl | exact ld_own1 1 rfl rfl | exact ld_own1 2 rfl rfl | exact ld_own1 3 rfl rfl | exact ld_own1 4 rfl rfl | exact ld_own1 5 rfl rfl | exact ld_own1 6 rfl rfl | exact ld_own1 7 rfl rfl | exact ld_ownG1 0 rfl rfl | exact ld_ownG1 1 rfl rfl | exact ld_imm1 (by assumption))) ?_
                refine ow_val rfl (gd_go rfl s54) (ex_neq rfl rfl) ?_
                refine ow_val rfl rfl (ex_pickt rfl s54 rfl) ?_
                refine ow_val rfl rfl (ex_move rfl) ?_
                refine ow_split (g := some (14, true)) rfl (fun s59 => ?_) (fun s59 => ?_)
                ·
                  refine ow_val rfl (gd_go rfl s59) (ex_field rfl) ?_
                  refine ow_val rfl (gd_go rfl s59) (ex_load1 rfl (by first | exact ld_own1 0 rfl rfl | exact ld_own1 1 rfl rfl | exact ld_own1 2 rfl rfl | exact ld_own1 3 rfl rfl | exact ld_own1 4 rfl rfl | exact ld_own1 5 rfl rfl | exact ld_own1 6 rfl rfl | exact ld_own1 7 rfl rfl | exact ld_ownG1 0 rfl rfl | exact ld_ownG1 1 rfl rfl | exact ld_imm1 (by assumption))) ?_
                  refine ow_val rfl (gd_go rfl s59) (ex_neq rfl rfl) ?_
                  refine ow_val rfl rfl (ex_pickt rfl s59 rfl) ?_
                  refine ow_val rfl rfl (ex_move rfl) ?_
                  refine ow_split (g := some (19, true)) rfl (fun s64 => ?_) (fun s64 => ?_)
                  ·
                    refine ow_val rfl (gd_go rfl s64) (ex_field rfl) ?_
                    refine ow_val rfl (gd_go rfl s64) (ex_load1 rfl (by first | exact ld_own1 0 rfl rfl | exact ld_own1 1 rfl rfl | exact ld_own1 2 rfl rfl | exact ld_own1 3 rfl rfl | exact ld_own1 4 rfl rfl | exact ld_own1 5 rfl rfl | exact ld_own1 6 rfl rfl | exact ld_own1 7 rfl rfl | exact ld_ownG1 0 rfl rfl | exact ld_ownG1 1 rfl rfl | exact ld_imm1 (by assumption))) ?_
                    refine ow_val rfl (gd_go rfl s64) (ex_neq rfl rfl) ?_
                    refine ow_val rfl rfl (ex_pickt rfl s64 rfl) ?_
                    refine ow_nil ?_
                    exact qw_meet (subL_meet 24 68 (lkv rfl (by first | rfl | (simp_all; done) | (simp_all <;> omega))) rfl rfl) (fun w h => h)
                  ·
                    refine ow_skip rfl (gd_no rfl s64) ?_
                    refine ow_skip rfl (gd_no rfl s64) ?_
                    refine ow_skip rfl (gd_no rfl s64) ?_
                    refine ow_val rfl rfl (ex_pickf rfl s64 rfl) ?_
                    refine ow_nil ?_
                    exact qw_meet (subL_meet 24 68 (lkv rfl (by first | rfl | (simp_all; done) | (simp_all <;> omega))) rfl rfl) (fun w h => h)
                ·
                  refine ow_skip rfl (gd_no rfl s59) ?_
                  refine ow_skip rfl (gd_no rfl s59) ?_
                  refine ow_skip rfl (gd_no rfl s59) ?_
                  refine ow_val rfl rfl (ex_pickf rfl s59 rfl) ?_
                  refine ow_val rfl rfl (ex_move rfl) ?_
                  refine ow_skip rfl rfl ?_
                  refine ow_skip rfl rfl ?_
                  refine ow_skip rfl rfl ?_
                  refine ow_val rfl rfl (ex_pick_f rfl rfl) ?_
                  refine ow_nil ?_
                  exact qw_meet (subL_meet 24 68 (lkv rfl (by first | rfl | (simp_all; done) | (simp_all <;> omega))) rfl rfl) (fun w h => h)
              ·
                refine ow_skip rfl (gd_no rfl s54) ?_
                refine ow_skip rfl (gd_no rfl s54) ?_
                refine ow_skip rfl (gd_no rfl s54) ?_
                refine ow_val rfl rfl (ex_pickf rfl s54 rfl) ?_
                refine ow_val rfl rfl (ex_move rfl) ?_
                refine ow_skip rfl rfl ?_
                refine ow_skip rfl rfl ?_
                refine ow_skip rfl rfl ?_
                refine ow_val rfl rfl (ex_pick_f rfl rfl) ?_
                refine ow_val rfl rfl (ex_move rfl) ?_
                refine ow_skip rfl rfl ?_
                refine ow_skip rfl rfl ?_
                refine ow_skip rfl rfl ?_
                refine ow_val rfl rfl (ex_pick_f rfl rfl) ?_
                refine ow_nil ?_
                exact qw_meet (subL_meet 24 68 (lkv rfl (by first | rfl | (simp_all; done) | (simp_all <;> omega))) rfl rfl) (fun w h => h)
            ·
              refine ow_skip rfl (gd_no rfl s49) ?_
              refine ow_skip rfl (gd_no rfl s49) ?_
              refine ow_skip rfl (gd_no rfl s49) ?_
              refine ow_val rfl rfl (ex_pickf rfl s49 rfl) ?_
              refine ow_val rfl rfl (ex_move rfl) ?_
              refine ow_skip rfl rfl ?_
              refine ow_skip rfl rfl ?_
              refine ow_skip rfl rfl ?_
              refine ow_val rfl rfl (ex_pick_f rfl rfl) ?_
              refine ow_val rfl rfl (ex_move rfl) ?_
              refine ow_skip rfl rfl ?_
              refine ow_skip rfl rfl ?_
              refine ow_skip rfl rfl ?_
              refine ow_val rfl rfl (ex_pick_f rfl rfl) ?_
              refine ow_val rfl rfl (ex_move rfl) ?_
              refine ow_skip rfl rfl ?_
              refine ow_skip rfl rfl ?_
              refine ow_skip rfl rfl ?_
              refine ow_val rfl rfl (ex_pick_f rfl rfl) ?_
              refine ow_nil ?_
              exact qw_meet (subL_meet 24 68 (lkv rfl (by first | rfl | (simp_all; done) | (simp_all <;> omega))) rfl rfl) (fun w h => h)
          ·
            refine cw_cond rfl (fun c68 => ?_) (fun c68 => ?_)
            ·
              refine cw_seq ?_
              refine cw_region ?_
              refine ow_val rfl rfl (ex_assign rfl) ?_
              refine ow_nil ?_
              refine qw_seq ?_
              refine cw_ret ?_
              refine qw_then_ret ?_
              refine qw_ret1 rfl rfl (fun w' h => ⟨congrArg (fun z => Ending.returned (.bool z)) ?_, h.ag.below⟩)
              symm
              rw [rightD_mk]
              rw [shape_go, c68]
              simp
            ·
              refine cw_skip ?_
              refine qw_seq ?_
              refine cw_seq ?_
              refine cw_seq ?_
              refine cw_region ?_
              refine ow_val rfl rfl (ex_assign rfl) ?_
              refine ow_nil ?_
              refine qw_seq ?_
              refine cw_block ?_
              refine cw_loopS (α := Nat) (fun i => [(1, .int .i64 (deep : Int)), (2, .pointer (some ⟨b2, 0, none⟩)), (6, .int .i64 (i : Int))]) (fun i => i ≤ ks.length ∧ (∀ j (h : j < ks.length), j < i → rightD ks[j] (deep + 1) = true) ∧ (∀ j (h : j + 1 < ks.length), j + 1 < i → ord ks[j] ks[j + 1] ≤ 0)) (fun i => ks.length - i) 0 (subL_cons (lkv rfl (by first | rfl | simp)) (subL_cons (lkv rfl (by first | rfl | simp)) (subL_cons (lkv rfl (by first | rfl | simp)) (subL_nil _)))) ⟨Nat.zero_le _, fun j h hj => absurd hj (Nat.not_lt_zero _), fun j h hj => absurd hj (Nat.not_lt_zero _)⟩ ?_
              intro i ⟨hle, hr, hso⟩
              refine cw_seq ?_
              refine cw_seq ?_
              refine cw_region ?_
              refine ow_val rfl rfl (ex_move rfl) ?_
              refine ow_val rfl rfl (ex_field rfl) ?_
              refine ow_val rfl rfl (ex_load1 rfl (by first | exact ld_own1 0 rfl rfl | exact ld_own1 1 rfl rfl | exact ld_own1 2 rfl rfl | exact ld_own1 3 rfl rfl | exact ld_own1 4 rfl rfl | exact ld_own1 5 rfl rfl | exact ld_own1 6 rfl rfl | exact ld_own1 7 rfl rfl | exact ld_ownG1 0 rfl rfl | exact ld_ownG1 1 rfl rfl | exact ld_imm1 (by assumption))) ?_
              refine ow_val rfl rfl (ex_len (ty := 0) rfl) ?_
              refine ow_val rfl rfl (ex_lss rfl rfl) ?_
              refine ow_nil ?_
              refine qw_seq ?_
              refine cw_cond rfl (fun c73 => ?_) (fun c73 => ?_)
              ·
                refine cw_skip ?_
                refine qw_seq ?_
                refine cw_seq ?_
                refine cw_block ?_
                refine cw_seq ?_
                have hlt : i < ks.length := by simp at c73; omega
                obtain ⟨bk, f, ck, cs, e1, e2, hc1, ht1⟩ := hk.get i hlt
                cases e1
                have hdp : deep < 16 := by simp at c21; omega
                refine cw_region ?_
                refine ow_val rfl rfl (ex_field rfl) ?_
                refine ow_val rfl rfl (ex_load1 rfl (by first | exact ld_own1 0 rfl rfl | exact ld_own1 1 rfl rfl | exact ld_own1 2 rfl rfl | exact ld_own1 3 rfl rfl | exact ld_own1 4 rfl rfl | exact ld_own1 5 rfl rfl | exact ld_own1 6 rfl rfl | exact ld_own1 7 rfl rfl | exact ld_ownG1 0 rfl rfl | exact ld_ownG1 1 rfl rfl | exact ld_imm1 (by assumption))) ?_
                refine ow_val rfl rfl (ex_move rfl) ?_
                refine ow_val rfl rfl (ex_index_nat rfl rfl (by omega)) ?_
                refine ow_val rfl rfl (ex_loadR rfl (by first | exact ld_ownN 0 rfl rfl | exact ld_ownN 1 rfl rfl | exact ld_ownN 2 rfl rfl | exact ld_ownN 3 rfl rfl | exact ld_ownN 4 rfl rfl | exact ld_ownN 5 rfl rfl | exact ld_ownN 6 rfl rfl | exact ld_ownN 7 rfl rfl | exact ld_ownGN 0 rfl rfl | exact ld_ownGN 1 rfl rfl | exact ld_immT (by assumption) (by assumption))) ?_
                refine ow_val rfl rfl (ex_move rfl) ?_
                refine ow_val rfl rfl (ex_addi (z := ((deep + 1 : Nat) : Int)) rfl rfl (by omega) (by omega) (by omega)) ?_
                refine ow_cv rfl rfl (ex_callf rfl (fun w h => callB ((ih _ (List.getElem_mem hlt) h.im ht1 (by omega))))) ?_
                refine ow_val rfl rfl (ex_assign rfl) ?_
                refine ow_nil ?_
                refine qw_seq ?_
                refine cw_seq ?_
                refine cw_seq ?_
                refine cw_region ?_
                refine ow_val rfl rfl (ex_move rfl) ?_
                refine ow_val rfl rfl (ex_not rfl) ?_
                refine ow_nil ?_
                refine qw_seq ?_
                refine cw_cond rfl (fun c85 => ?_) (fun c85 => ?_)
                ·
                  refine cw_seq ?_
                  refine cw_region ?_
                  refine ow_val rfl rfl (ex_assign rfl) ?_
                  refine ow_nil ?_
                  refine qw_seq ?_
                  refine cw_ret ?_
                  refine qw_then_ret ?_
                  refine qw_block_ret ?_
                  refine qw_then_ret ?_
                  refine qw_then_ret ?_
                  refine qw_block_ret ?_
                  refine qw_then_ret ?_
                  refine qw_ret1 rfl rfl (fun w' h => ⟨congrArg (fun z => Ending.returned (.bool z)) ?_, h.ag.below⟩)
                  symm
                  rw [rightD_mk]
                  have : rightsD ks (deep + 1) = false := by
                    cases hq : rightsD ks (deep + 1) with
                    | false => rfl
                    | true => have := rightsD_iff.1 hq i hlt; rw [this] at c85; cases c85
                  rw [this]; simp
                ·
                  refine cw_skip ?_
                  refine qw_seq ?_
                  refine cw_cut1 102 (.bool (decide (0 < (i : Int)) && decide (0 < ord (ks.getD (i - 1) zeroT) ks[i]))) ?_ ?_
                  ·
                    refine flow_sound 17 (by kernel_rfl) ?_
                    refine flow_val rfl (ex_move rfl) ?_
                    refine flow_val rfl (ex_gtr rfl rfl) ?_
                    refine flow_val rfl (ex_move rfl) ?_
                    refine flow_split rfl (fun s88 => ?_) (fun s88 => ?_)
                    ·
                      have hpos : 0 < i := by simpa using s88
                      obtain ⟨bk2, f2, ck2, cs2, e1', e2', hc2, ht2⟩ := hk.get (i - 1) (by omega)
                      cases e1'
                      rw [show ks[i - 1] = ks.getD (i - 1) zeroT by simp [List.getD_eq_getElem?_getD, show i - 1 < ks.length by omega]] at ht2
                      refine flow_val (gd_go rfl s88) (ex_field rfl) ?_
                      refine flow_val (gd_go rfl s88) (ex_load1 rfl (by first | exact ld_own1 0 rfl rfl | exact ld_own1 1 rfl rfl | exact ld_own1 2 rfl rfl | exact ld_own1 3 rfl rfl | exact ld_own1 4 rfl rfl | exact ld_own1 5 rfl rfl | exact ld_own1 6 rfl rfl | exact ld_own1 7 rfl rfl | exact ld_ownG1 0 rfl rfl | exact ld_ownG1 1 rfl rfl | exact ld_imm1 (by assumption))) ?_
                      refine flow_val (gd_go rfl s88) (ex_move rfl) ?_
                      refine flow_val (gd_go rfl s88) (ex_subi (z := ((i - 1 : Nat) : Int)) rfl rfl (by omega) (by omega) (by omega)) ?_
                      refine flow_val (gd_go rfl s88) (ex_index_nat rfl rfl (by omega)) ?_
                      refine flow_val (gd_go rfl s88) (ex_loadR rfl (by first | exact ld_ownN 0 rfl rfl | exact ld_ownN 1 rfl rfl | exact ld_ownN 2 rfl rfl | exact ld_ownN 3 rfl rfl | exact ld_ownN 4 rfl rfl | exact ld_ownN 5 rfl rfl | exact ld_ownN 6 rfl rfl | exact ld_ownN 7 rfl rfl | exact ld_ownGN 0 rfl rfl | exact ld_ownGN 1 rfl rfl | exact ld_immT (by assumption) (by assumption))) ?_
                      refine flow_val (gd_go rfl s88) (ex_field rfl) ?_
                      refine flow_val (gd_go rfl s88) (ex_load1 rfl (by first | exact ld_own1 0 rfl rfl | exact ld_own1 1 rfl rfl | exact ld_own1 2 rfl rfl | exact ld_own1 3 rfl rfl | exact ld_own1 4 rfl rfl | exact ld_own1 5 rfl rfl | exact ld_own1 6 rfl rfl | exact ld_own1 7 rfl rfl | exact ld_ownG1 0 rfl rfl | exact ld_ownG1 1 rfl rfl | exact ld_imm1 (by assumption))) ?_
                      refine flow_val (gd_go rfl s88) (ex_move rfl) ?_
                      refine flow_val (gd_go rfl s88) (ex_index_nat rfl rfl (by omega)) ?_
                      refine flow_val (gd_go rfl s88) (ex_loadR rfl (by first | exact ld_ownN 0 rfl rfl | exact ld_ownN 1 rfl rfl | exact ld_ownN 2 rfl rfl | exact ld_ownN 3 rfl rfl | exact ld_ownN 4 rfl rfl | exact ld_ownN 5 rfl rfl | exact ld_ownN 6 rfl rfl | exact ld_ownN 7 rfl rfl | exact ld_ownGN 0 rfl rfl | exact ld_ownGN 1 rfl rfl | exact ld_immT (by assumption) (by assumption))) ?_
                      refine flow_cv (gd_go rfl s88) (ex_callf rfl (fun w h => callB ((rOrder _ _ h.im ht2 ht1)))) ?_
                      refine flow_val (gd_go rfl s88) (ex_gtr rfl rfl) ?_
                      refine flow_val rfl (ex_pickt rfl s88 rfl) ?_
                      refine flow_nil ?_
                      refine fin_is ?_
                      refine fin_is ?_
                      refine fin_is ?_
                      refine fin_is ?_
                      refine fin_is ?_
                      refine fin_is ?_
                      refine fin_is ?_
                      refine fin_is ?_
                      refine fin_is ?_
                      refine fin_is ?_
                      refine fin_is ?_
                      refine fin_is ?_
                      refine fin_is ?_
                      refine fin_is ?_
                      refine fin_is ?_
                      refine fin_is ?_
                      refine fin_is ?_
                      refine fin_nil ?_
                      refine ow_nil ?_
                      exact qw_meet (subL_meet 17 102 (lkv rfl (by first | rfl | (simp_all; done) | (simp_all <;> omega))) rfl rfl) (fun w h => h)
                    ·
                      refine flow_skip (gd_no rfl s88) ?_
                      refine flow_skip (gd_no rfl s88) ?_
                      refine flow_skip (gd_no rfl s88) ?_
                      refine flow_skip (gd_no rfl s88) ?_
                      refine flow_skip (gd_no rfl s88) ?_
                      refine flow_skip (gd_no rfl s88) ?_
                      refine flow_skip (gd_no rfl s88) ?_
                      refine flow_skip (gd_no rfl s88) ?_
                      refine flow_skip (gd_no rfl s88) ?_
                      refine flow_skip (gd_no rfl s88) ?_
                      refine flow_skip (gd_no rfl s88) ?_
                      refine flow_skip (gd_no rfl s88) ?_
                      refine flow_skip (gd_no rfl s88) ?_
                      refine flow_val rfl (ex_pickf rfl s88 rfl) ?_
                      refine flow_nil ?_
                      refine fin_is ?_
                      refine fin_is ?_
                      refine fin_is ?_
                      refine fin_is ?_
                      refine fin_is ?_
                      refine fin_is ?_
                      refine fin_is ?_
                      refine fin_is ?_
                      refine fin_is ?_
                      refine fin_is ?_
                      refine fin_is ?_
                      refine fin_is ?_
                      refine fin_is ?_
                      refine fin_is ?_
                      refine fin_is ?_
                      refine fin_is ?_
                      refine fin_is ?_
                      refine fin_nil ?_
                      refine ow_nil ?_
                      exact qw_meet (subL_meet 17 102 (lkv rfl (by first | rfl | (simp_all; done) | (simp_all <;> omega))) rfl rfl) (fun w h => h)
                  ·
                    refine cw_cond rfl (fun c102 => ?_) (fun c102 => ?_)
                    ·
                      refine cw_seq ?_
                      refine cw_region ?_
                      refine ow_val rfl rfl (ex_assign rfl) ?_
                      refine ow_nil ?_
                      refine qw_seq ?_
                      refine cw_ret ?_
                      refine qw_block_ret ?_
                      refine qw_then_ret ?_
                      refine qw_then_ret ?_
                      refine qw_block_ret ?_
                      refine qw_then_ret ?_
                      refine qw_ret1 rfl rfl (fun w' h => ⟨congrArg (fun z => Ending.returned (.bool z)) ?_, h.ag.below⟩)
                      symm
                      rw [rightD_mk]
                      have : sorted ks = false := by
                        cases hq : sorted ks with
                        | false => rfl
                        | true =>
                          simp only [Bool.and_eq_true, decide_eq_true_eq] at c102
                          have := sorted_iff.1 hq (i - 1) (by omega)
                          have e : i - 1 + 1 = i := by omega
                          simp only [e] at this
                          rw [List.getD_eq_getElem?_getD, List.getElem?_eq_getElem (show i - 1 < ks.length by omega), Option.getD_some] at c102
                          omega
                      rw [this]; simp
                    ·
                      refine cw_skip ?_
                      refine qw_block_normal ?_
                      refine qw_seq ?_
                      refine cw_region ?_
                      refine ow_val rfl rfl (ex_move rfl) ?_
                      refine ow_val rfl rfl (ex_addi (z := ((i + 1 : Nat) : Int)) rfl rfl (by omega) (by omega) (by omega)) ?_
                      refine ow_val rfl rfl (ex_assign rfl) ?_
                      refine ow_nil ?_
                      exact qw_roundS (i + 1) (by omega) (subL_cons (lkv rfl (by first | rfl | simp)) (subL_cons (lkv rfl (by first | rfl | simp)) (subL_cons (lkv rfl (by first | rfl | simp)) (subL_nil _)))) ⟨by omega, fun j h hj => by
                        by_cases e : j = i
                        · subst e; simpa using c85
                        · exact hr j h (by omega), fun j h hj => by
                        by_cases e : j + 1 = i
                        · subst e
                          have : ord (ks.getD j zeroT) ks[j + 1] ≤ 0 := by simpa using c102
                          rwa [List.getD_eq_getElem?_getD, List.getElem?_eq_getElem (show j < ks.length by omega), Option.getD_some] at this
                        · exact hso j h (by omega)⟩
              ·
                refine cw_exit ?_
                refine qw_then_exit ?_
                refine qw_then_exit ?_
                refine qw_block_exit ?_
                refine qw_seq ?_
                refine cw_seq ?_
                refine cw_region ?_
                refine ow_val rfl rfl (ex_assign rfl) ?_
                refine ow_nil ?_
                refine qw_seq ?_
                refine cw_ret ?_
                refine qw_ret1 rfl rfl (fun w' h => ⟨congrArg (fun z => Ending.returned (.bool z)) ?_, h.ag.below⟩)
                symm
                rw [rightD_mk]
                have hsh : shape o n d ks = true := by
                  rw [shape_go, c44, c68]
                  simp at c21 ⊢
                  exact ⟨c21.2.1, by omega⟩
                have hdp : deep < 16 := by simp at c21; omega
                have he : i = ks.length := by simp at c73; omega
                rw [hsh, rightsD_iff.2 (fun j h => hr j h (by omega)), sorted_iff.2 (fun j h => hso j h (by omega))]
                simp [hdp]
set_option maxHeartbeats 400000 in
theorem rRight (t : T) {σ : Hp} {cs : List Value} {w : World} (hi : Imm σ w) (ht : TermC σ cs t) : Calls Tryz.prog 75 #[.agg cs.toArray] w fun e w' => e = .returned (.bool (right t)) ∧ Below w.heap.size w w' := by
  have ht0 := ht
  obtain ⟨dv, kv, rfl, ho, hn, hd, hk⟩ := ht.opn
  refine enter (St w (fun _ => False) σ [] []) Tryz.func75 rfl Tryz.ntmps75 rfl (St.start hi) ?_
  refine cw_seq ?_
  refine cw_region ?_
  refine ow_blk rfl rfl (exw_box rfl) ?_; intro b1
  refine ow_val rfl rfl (ex_assign rfl) ?_
  refine ow_nil ?_
  refine qw_seq ?_
  refine cw_seq ?_
  refine cw_region ?_
  refine ow_val rfl rfl (ex_loadR rfl (by first | exact ld_ownN 0 rfl rfl | exact ld_ownN 1 rfl rfl | exact ld_ownN 2 rfl rfl | exact ld_ownN 3 rfl rfl | exact ld_ownN 4 rfl rfl | exact ld_ownN 5 rfl rfl | exact ld_ownN 6 rfl rfl | exact ld_ownN 7 rfl rfl | exact ld_ownGN 0 rfl rfl | exact ld_ownGN 1 rfl rfl | exact ld_immT (by assumption) (by assumption))) ?_
  refine ow_cv rfl rfl (ex_callf rfl (fun w h => callB ((rRightD t (deep := 0) h.im ht0 (by omega))))) ?_
  refine ow_val rfl rfl (ex_assign rfl) ?_
  refine ow_nil ?_
  refine qw_seq ?_
  refine cw_ret ?_
  refine qw_ret1 rfl rfl (fun w' h => ⟨rfl, h.ag.below⟩)
end Go.Proofs.YtnjomdjkbbhdoaaGreatDoor
namespace Go.Proofs.YtnjomdjkbbhdoaaGreatDoor
open Go.RowKit
set_option linter.unusedVariables false
set_option linter.unusedSimpArgs false
set_option maxRecDepth 100000
set_option maxHeartbeats 400000 in
theorem rFind (t : T) {b : Nat} {sv : Value} {ts : List T} {ct : List Value} {σ : Hp} {w : World} (hi : Imm σ w) (hc0 : CellsAt σ b 0 [sv]) (hks : KidsV σ sv ts) (ht : TermC σ ct t) : Calls Tryz.prog 76 #[.pointer (some ⟨b, 0, none⟩), .agg ct.toArray] w fun e w' => e = .returned (.tuple #[.int .i64 (posT ts t), .bool (decide (0 ≤ posT ts t))]) ∧ Below w.heap.size w w' := by
  have ht0 := ht
  obtain ⟨dv, kv, rfl, ho, hn, hd, hk⟩ := ht.opn
  obtain ⟨p, c, rfl, hcl, hml⟩ := hks.slice
  have hm2 := hml
  unfold maxKids at hm2
  refine enter (St w (fun _ => False) σ [] []) Tryz.func76 rfl Tryz.ntmps76 rfl (St.start hi) ?_
  refine cw_seq ?_
  refine cw_region ?_
  refine ow_blk rfl rfl (exw_box rfl) ?_; intro b3
  refine ow_val rfl rfl (ex_assign rfl) ?_
  refine ow_val rfl rfl (ex_assign rfl) ?_
  refine ow_nil ?_
  refine qw_seq ?_
  refine cw_seq ?_
  refine cw_seq ?_
  refine cw_region ?_
  refine ow_val rfl rfl (ex_assign rfl) ?_
  refine ow_nil ?_
  refine qw_seq ?_
  refine cw_block ?_
  refine cw_loopS (α := Nat) (fun i => [(0, .pointer (some ⟨b, 0, none⟩)), (3, .pointer (some ⟨b3, 0, none⟩)), (6, .int .i64 (i : Int))]) (fun i => i ≤ ts.length ∧ ∀ j (h : j < ts.length), j < i → decide (ord ts[j] t = 0) = false) (fun i => ts.length - i) 0 (subL_cons (lkv rfl (by first | rfl | simp)) (subL_cons (lkv rfl (by first | rfl | simp)) (subL_cons (lkv rfl (by first | rfl | simp)) (subL_nil _)))) ⟨Nat.zero_le _, fun j _ h => absurd h (Nat.not_lt_zero _)⟩ ?_
  intro i ⟨hle, hno⟩
  refine cw_seq ?_
  refine cw_seq ?_
  refine cw_region ?_
  refine ow_val rfl rfl (ex_move rfl) ?_
  refine ow_val rfl rfl (ex_move rfl) ?_
  refine ow_val rfl rfl (ex_nilck rfl) ?_
  refine ow_val rfl rfl (ex_field rfl) ?_
  refine ow_val rfl rfl (ex_load1 rfl (by first | exact ld_own1 0 rfl rfl | exact ld_own1 1 rfl rfl | exact ld_own1 2 rfl rfl | exact ld_own1 3 rfl rfl | exact ld_own1 4 rfl rfl | exact ld_own1 5 rfl rfl | exact ld_own1 6 rfl rfl | exact ld_own1 7 rfl rfl | exact ld_ownG1 0 rfl rfl | exact ld_ownG1 1 rfl rfl | exact ld_imm1 (by assumption))) ?_
  refine ow_val rfl rfl (ex_len (ty := 0) rfl) ?_
  refine ow_val rfl rfl (ex_lss rfl rfl) ?_
  refine ow_nil ?_
  refine qw_seq ?_
  refine cw_cond rfl (fun c13 => ?_) (fun c13 => ?_)
  ·
    refine cw_skip ?_
    refine qw_seq ?_
    refine cw_seq ?_
    refine cw_block ?_
    refine cw_seq ?_
    have hlt : i < ts.length := by have := of_decide_eq_true c13; omega
    obtain ⟨bk, f, c', cs, e1, e2, hc1, ht1⟩ := hks.get i hlt
    cases e1
    refine flow_sound 9 (by kernel_rfl) ?_
    refine flow_val rfl (ex_move rfl) ?_
    refine flow_val rfl (ex_nilck rfl) ?_
    refine flow_val rfl (ex_field rfl) ?_
    refine flow_val rfl (ex_load1 rfl (by first | exact ld_own1 0 rfl rfl | exact ld_own1 1 rfl rfl | exact ld_own1 2 rfl rfl | exact ld_own1 3 rfl rfl | exact ld_own1 4 rfl rfl | exact ld_own1 5 rfl rfl | exact ld_own1 6 rfl rfl | exact ld_own1 7 rfl rfl | exact ld_ownG1 0 rfl rfl | exact ld_ownG1 1 rfl rfl | exact ld_imm1 (by assumption))) ?_
    refine flow_val rfl (ex_move rfl) ?_
    refine flow_val rfl (ex_index_nat rfl rfl (by omega)) ?_
    refine flow_val rfl (ex_loadR rfl (ld_immT hc1 ht1)) ?_
    refine flow_val rfl (ex_loadR rfl (by first | exact ld_ownN 0 rfl rfl | exact ld_ownN 1 rfl rfl | exact ld_ownN 2 rfl rfl | exact ld_ownN 3 rfl rfl | exact ld_ownN 4 rfl rfl | exact ld_ownN 5 rfl rfl | exact ld_ownN 6 rfl rfl | exact ld_ownN 7 rfl rfl | exact ld_ownGN 0 rfl rfl | exact ld_ownGN 1 rfl rfl | exact ld_immT (by assumption) (by assumption))) ?_
    refine flow_cv rfl (ex_callf rfl (fun w h => callB ((rSame _ _ h.im ht1 ht0)))) ?_
    refine flow_nil ?_
    refine fin_is ?_
    refine fin_is ?_
    refine fin_is ?_
    refine fin_is ?_
    refine fin_is ?_
    refine fin_is ?_
    refine fin_is ?_
    refine fin_is ?_
    refine fin_is ?_
    refine fin_nil ?_
    refine ow_nil ?_
    refine qw_seq ?_
    refine cw_cond rfl (fun c24 => ?_) (fun c24 => ?_)
    ·
      refine cw_seq ?_
      refine cw_region ?_
      refine ow_val rfl rfl (ex_move rfl) ?_
      refine ow_val rfl rfl (ex_assign rfl) ?_
      refine ow_val rfl rfl (ex_assign rfl) ?_
      refine ow_nil ?_
      refine qw_seq ?_
      refine cw_ret ?_
      refine qw_block_ret ?_
      refine qw_then_ret ?_
      refine qw_then_ret ?_
      refine qw_block_ret ?_
      refine qw_then_ret ?_
      refine qw_ret2 rfl rfl rfl (fun w' h => ⟨?_, h.ag.below⟩)
      have e : posT ts t = (i : Int) := findI_at hlt c24 hno
      rw [e, decide_eq_true (show (0 : Int) ≤ (i : Int) by omega)]
    ·
      refine cw_skip ?_
      refine qw_block_normal ?_
      refine qw_seq ?_
      refine cw_region ?_
      refine ow_val rfl rfl (ex_move rfl) ?_
      refine ow_val rfl rfl (ex_addi (z := ((i + 1 : Nat) : Int)) rfl rfl (by omega) (by omega) (by omega)) ?_
      refine ow_val rfl rfl (ex_assign rfl) ?_
      refine ow_nil ?_
      exact qw_roundS (i + 1) (by omega) (subL_cons (lkv rfl (by first | rfl | simp)) (subL_cons (lkv rfl (by first | rfl | simp)) (subL_cons (lkv rfl (by first | rfl | simp)) (subL_nil _)))) ⟨by omega, fun j hj hji => by
        rcases Nat.lt_or_eq_of_le (Nat.le_of_lt_succ hji) with h1 | h1
        · exact hno j hj h1
        · subst h1; exact c24⟩
  ·
    refine cw_exit ?_
    refine qw_then_exit ?_
    refine qw_then_exit ?_
    refine qw_block_exit ?_
    refine qw_seq ?_
    refine cw_seq ?_
    refine cw_region ?_
    refine ow_val rfl rfl (ex_assign rfl) ?_
    refine ow_val rfl rfl (ex_assign rfl) ?_
    refine ow_nil ?_
    refine qw_seq ?_
    refine cw_ret ?_
    refine qw_ret2 rfl rfl rfl (fun w' h => ⟨?_, h.ag.below⟩)
    have hge : ts.length ≤ i := by have := of_decide_eq_false c13; omega
    have e : posT ts t = -1 := findI_none (fun j hj => hno j hj (by omega))
    rw [e]
    rfl
theorem RefK.seenX {b : Nat} {ts : List T} {σ : Hp} {K : List (Nat × Obj)} {w : World} (h : RefK 63 32 b ts σ K) (hi : Has σ K w) : ∃ sv, CellsAt (exts σ K) b 0 [sv] ∧ KidsV (exts σ K) sv ts := by
  obtain ⟨sv, xs, Gs, rfl, hO, hr, hl⟩ := h
  obtain ⟨p, c, rfl, hc, hsrc⟩ := hO.seen (σ := exts σ ((b, .cells #[sv] 63) :: Gs)) (fun q hq => exts_get hi.nd (by simp [hq]))
  refine ⟨_, CellsAt.of1 (exts_get hi.nd List.mem_cons_self) rfl, p, c, rfl, hc, by unfold maxKids; omega, ?_⟩
  rcases hsrc with h0 | ⟨bb, o, e, hcb⟩
  · exact .inl (List.eq_nil_of_length_eq_zero h0)
  · exact .inr ⟨bb, o, e, (hr.le hi.le).elems hcb⟩
theorem rFindK (t : T) {b : Nat} {ts : List T} {ct : List Value} {σ : Hp} {K : List (Nat × Obj)} {w : World} (hi : Has σ K w) (hv : RefK 63 32 b ts σ K) (ht : TermC σ ct t) : Calls Tryz.prog 76 #[.pointer (some ⟨b, 0, none⟩), .agg ct.toArray] w fun e w' => e = .returned (.tuple #[.int .i64 (posT ts t), .bool (decide (0 ≤ posT ts t))]) ∧ Below w.heap.size w w' :=
  let ⟨_, h1, h2⟩ := hv.seenX hi
  rFind t hi.exts h1 h2 (ht.le hi.le)
set_option maxHeartbeats 400000 in
theorem rPutV : ∀ (t : T) {b : Nat} {ts : List T} {ct : List Value} {σ : Hp} {K : List (Nat × Obj)} {w : World}, Has σ K w → RefK 63 32 b ts σ K → TermC σ ct t → (0 ≤ posT ts t ∨ ts.length + size t ≤ 4096) → Calls Tryz.prog 78 #[.pointer (some ⟨b, 0, none⟩), .agg ct.toArray] w (GiveK (fun σ' u K' => u = .int .i64 (numV t ts) ∧ RefK 63 32 b (putV t ts) σ' K') σ K w) := by
  intro t
  induction t using T.ind with
  | _ o n d ks ih =>
  intro b ts ct σ K w hi hv ht hroom
  have ht0 := ht
  obtain ⟨dv, kv, rfl, ho, hn, hd, hk⟩ := ht.opn
  simp only [T.kids, T.op, T.num, T.data] at *
  obtain ⟨p, c, rfl, hc, hm⟩ := hk.slice
  have hm2 := hm
  unfold maxKids at hm2
  refine enter (St w (keysOf K) σ [] K) Tryz.func78 rfl Tryz.ntmps78 rfl (Has.start hi) ?_
  refine cw_seq ?_
  refine cw_region ?_
  refine ow_blk rfl rfl (exw_box rfl) ?_; intro b3
  refine ow_val rfl rfl (ex_assign rfl) ?_
  refine ow_nil ?_
  refine qw_seq ?_
  refine cw_seq ?_
  refine cw_region ?_
  refine ow_val rfl rfl (ex_move rfl) ?_
  refine ow_val rfl rfl (ex_loadR rfl (by first | exact ld_ownN 0 rfl rfl | exact ld_ownN 1 rfl rfl | exact ld_ownN 2 rfl rfl | exact ld_ownN 3 rfl rfl | exact ld_ownN 4 rfl rfl | exact ld_ownN 5 rfl rfl | exact ld_ownN 6 rfl rfl | exact ld_ownN 7 rfl rfl | exact ld_ownGN 0 rfl rfl | exact ld_ownGN 1 rfl rfl | exact ld_immT (by assumption) (by assumption))) ?_
  refine ow_cv rfl rfl (ex_callf rfl (fun w h => callB ((rFindK _ h.hasE hv ht0)))) ?_
  refine ow_val rfl rfl (ex_move rfl) ?_
  refine ow_val rfl rfl (ex_extract rfl rfl) ?_
  refine ow_val rfl rfl (ex_extract rfl rfl) ?_
  refine ow_val rfl rfl (ex_assign rfl) ?_
  refine ow_val rfl rfl (ex_assign rfl) ?_
  refine ow_nil ?_
  refine qw_seq ?_
  refine cw_seq ?_
  refine cw_seq ?_
  refine cw_region ?_
  refine ow_val rfl rfl (ex_move rfl) ?_
  refine ow_nil ?_
  refine qw_seq ?_
  refine cw_cond rfl (fun c14 => ?_) (fun c14 => ?_)
  ·
    refine cw_seq ?_
    refine cw_region ?_
    refine ow_val rfl rfl (ex_move rfl) ?_
    refine ow_val rfl rfl (ex_assign rfl) ?_
    refine ow_nil ?_
    refine qw_seq ?_
    refine cw_ret ?_
    refine qw_then_ret ?_
    refine qw_ret1 rfl rfl (fun w' h => ?_)
    have h0 := of_decide_eq_true c14
    refine (h.drop (List.nil_sublist _)).givesK (Le.refl _) (Fresh.refl _ _) ⟨?_, ?_⟩
    · unfold numV
      rw [if_pos h0]
    · rw [putV_mk, if_pos h0]
      exact hv
  ·
    have hnp : ¬ 0 ≤ posT ts (.mk o n d ks) := of_decide_eq_false c14
    have hsz := hroom.resolve_left hnp
    simp only [size] at hsz
    refine cw_skip ?_
    refine qw_seq ?_
    refine cw_seq ?_
    refine cw_seq ?_
    refine cw_region ?_
    refine ow_val rfl rfl (ex_assign rfl) ?_
    refine ow_nil ?_
    refine qw_seq ?_
    refine cw_block ?_
    refine cw_loop3 (fun (j : Nat) (τ : Hp) (K' : List (Nat × Obj)) => [(0, .pointer (some ⟨b, 0, none⟩)), (3, .pointer (some ⟨b3, 0, none⟩)), (7, .int .i64 (j : Int))]) (fun j τ K' => j ≤ ks.length ∧ Le σ τ ∧ Fresh σ τ w ∧ RefK 63 32 b (putVs (ks.take j) ts) τ K') (fun j τ K' => τ) (fun j τ K' => K') (fun j _ _ => ks.length - j) 0 σ K (subL_cons (lkv rfl (by first | rfl | simp)) (subL_cons (lkv rfl (by first | rfl | simp)) (subL_cons (lkv rfl (by first | rfl | simp)) (subL_nil _)))) ⟨Nat.zero_le _, Le.refl _, Fresh.refl _ _, by simpa [putVs] using hv⟩ (fun w h => h) ?_
    intro j τj Kj ⟨hlej, hlj, hfj, hvj⟩
    refine cw_seq ?_
    refine cw_seq ?_
    refine cw_region ?_
    refine ow_val rfl rfl (ex_move rfl) ?_
    refine ow_val rfl rfl (ex_field rfl) ?_
    refine ow_val rfl rfl (ex_load1 rfl (by first | exact ld_own1 0 rfl rfl | exact ld_own1 1 rfl rfl | exact ld_own1 2 rfl rfl | exact ld_own1 3 rfl rfl | exact ld_own1 4 rfl rfl | exact ld_own1 5 rfl rfl | exact ld_own1 6 rfl rfl | exact ld_own1 7 rfl rfl | exact ld_ownG1 0 rfl rfl | exact ld_ownG1 1 rfl rfl | exact ld_imm1 (by assumption))) ?_
    refine ow_val rfl rfl (ex_len (ty := 0) rfl) ?_
    refine ow_val rfl rfl (ex_lss rfl rfl) ?_
    refine ow_nil ?_
    refine qw_seq ?_
    refine cw_cond rfl (fun c20 => ?_) (fun c20 => ?_)
    ·
      refine cw_skip ?_
      refine qw_seq ?_
      refine cw_seq ?_
      refine cw_block ?_
      have hltj : j < ks.length := by have := of_decide_eq_true c20; omega
      obtain ⟨bk, f, c', cs, e1, e2, hc1, ht1⟩ := hk.get j hltj
      cases e1
      have hst := putVs_take ks ts j hltj
      have hpl := putVs_len ks ts j
      have hs1 := sizes_take ks j hltj
      have hs2 := sizes_take_le ks (j + 1)
      refine cw_region ?_
      refine ow_val rfl rfl (ex_move rfl) ?_
      refine ow_val rfl rfl (ex_field rfl) ?_
      refine ow_val rfl rfl (ex_load1 rfl (by first | exact ld_own1 0 rfl rfl | exact ld_own1 1 rfl rfl | exact ld_own1 2 rfl rfl | exact ld_own1 3 rfl rfl | exact ld_own1 4 rfl rfl | exact ld_own1 5 rfl rfl | exact ld_own1 6 rfl rfl | exact ld_own1 7 rfl rfl | exact ld_ownG1 0 rfl rfl | exact ld_ownG1 1 rfl rfl | exact ld_imm1 (by assumption))) ?_
      refine ow_val rfl rfl (ex_move rfl) ?_
      refine ow_val rfl rfl (ex_index_nat rfl rfl (by omega)) ?_
      refine ow_val rfl rfl (ex_loadR rfl (ld_immT (hc1.le hlj) (ht1.le hlj))) ?_
      refine ow_ckE rfl rfl (ex_callf rfl (fun w h => ih _ (List.getElem_mem hltj) h.hasE hvj (ht1.le hlj) (.inr (by omega)))) (fun v29 τ33 K33 hl33 hf33 hr33 => ?_)
      refine ow_nil ?_
      refine qw_block_normal ?_
      refine qw_seq ?_
      refine cw_region ?_
      refine ow_val rfl rfl (ex_move rfl) ?_
      refine ow_val rfl rfl (ex_addi (z := ((j + 1 : Nat) : Int)) rfl rfl (by omega) (by omega) (by omega)) ?_
      refine ow_val rfl rfl (ex_assign rfl) ?_
      refine ow_nil ?_
      refine qw_round3 (j + 1) τ33 K33 (by omega) (subL_cons (lkv rfl (by first | rfl | simp)) (subL_cons (lkv rfl (by first | rfl | simp)) (subL_cons (lkv rfl (by first | rfl | simp)) (subL_nil _)))) ⟨by omega, hlj.trans hl33, hfj.trans hf33, ?_⟩ (fun w h => h)
      rw [hst]
      exact hr33.2
    ·
      have he : j = ks.length := by have := of_decide_eq_false c20; omega
      subst he
      rw [List.take_length] at hvj
      have hpl := putVs_len ks ts ks.length
      rw [List.take_length] at hpl
      have hnew := putVs_new (t := .mk o n d ks) hnp
      simp only [T.kids] at hnew
      obtain ⟨sv, xs, Gs, rfl, hO, hrow, hfew⟩ := hvj
      obtain ⟨pq, cq, rfl, hcq⟩ := hO.slice
      refine cw_exit ?_
      refine qw_then_exit ?_
      refine qw_then_exit ?_
      refine qw_block_exit ?_
      refine qw_seq ?_
      refine cw_cut [(0, .pointer (some ⟨b, 0, none⟩))] (fun w' => ∃ (τ5 : Hp) (c45 : List Value) (g cg : Nat) (tl : List Value), (Le τj τ5 ∧ Fresh τj τ5 w ∧ TermC τ5 c45 (.mk o n d ks) ∧ (putVs ks ts).length + 1 ≤ cg ∧ cg ≤ maxLen ∧ (xs ++ c45 ++ tl).length = cg * 4) ∧ St w (keysOf K) τ5 [(g, rowO (xs ++ c45) tl 32), (b, .cells #[.slice (some ⟨g, 0, none⟩) ((putVs ks ts).length + 1) cg] 63)] [] w') ?_ ?_
      ·
        refine flow_soundT 7 (by kernel_rfl) ?_
        refine flow_val rfl (ex_move rfl) ?_
        refine flow_val rfl (ex_nilck rfl) ?_
        refine flow_val rfl (ex_field rfl) ?_
        refine flow_val rfl (ex_load1 rfl (by first | exact ld_own1 0 rfl rfl | exact ld_own1 1 rfl rfl | exact ld_own1 2 rfl rfl | exact ld_own1 3 rfl rfl | exact ld_own1 4 rfl rfl | exact ld_own1 5 rfl rfl | exact ld_own1 6 rfl rfl | exact ld_own1 7 rfl rfl | exact ld_ownG1 0 rfl rfl | exact ld_ownG1 1 rfl rfl | exact ld_imm1 (by assumption))) ?_
        refine flow_val rfl (ex_loadR rfl (by first | exact ld_ownN 0 rfl rfl | exact ld_ownN 1 rfl rfl | exact ld_ownN 2 rfl rfl | exact ld_ownN 3 rfl rfl | exact ld_ownN 4 rfl rfl | exact ld_ownN 5 rfl rfl | exact ld_ownN 6 rfl rfl | exact ld_ownN 7 rfl rfl | exact ld_ownGN 0 rfl rfl | exact ld_ownGN 1 rfl rfl | exact ld_immT (by assumption) (by assumption))) ?_
        refine flow_val rfl (ex_len (ty := 0) rfl) ?_
        refine flow_sat QR.pers (obk (ob_one rfl rfl (zeroT_c _))) ?_
        refine flow_nilT ?_
        refine fint_satR (Le.refl _) (fun v47 τ7 hl7 hf7 hr7 => ?_)
        obtain ⟨bo, co, rfl, hco, htco⟩ := hr7
        have ht45 := (ht0.le hlj).le hl7
        refine fint_is ?_
        refine fint_is ?_
        refine fint_is ?_
        refine fint_is ?_
        refine fint_is ?_
        refine fint_is ?_
        refine fint_nil ?_
        refine any_one (i := 7) (by kernel_rfl) ?_
        refine next_mono (fun w h => h.ofG) ?_
        refine next_app1 rfl rfl (exw_append1 (news := co) rfl rfl hO (by simp [htco.len]) (.inr ⟨_, _, rfl, fun w h => hco.range h.im⟩) htco.one (by unfold maxLen; omega) (by omega)) (fun v48 G48 hO48 hz48 => ?_)
        obtain ⟨g, cg, tl, rfl, rfl, hg1, hg2, hg3⟩ := hO48.open (by omega)
        refine any_mono (fun w h => h.ofG) ?_
        refine any_two (i := 8) (j := 10) (by kernel_rfl) ?_ ?_
        ·
          refine next_val rfl rfl (ex_index_nat rfl rfl (by omega)) ?_
          refine any_two (i := 9) (j := 10) (by kernel_rfl) ?_ ?_
          ·
            refine next_u rfl (exu_storeX 0 rfl rfl rfl ht45.len ht45.one (by simp [hrow.len, htco.len])) ?_
            refine any_one (i := 10) (by kernel_rfl) ?_
            refine next_val rfl rfl (ex_nilck rfl) ?_
            refine any_one (i := 11) (by kernel_rfl) ?_
            refine next_val rfl rfl (ex_field rfl) ?_
            refine any_one (i := 12) (by kernel_rfl) ?_
            refine next_u rfl (exu_store1 1 rfl rfl rfl rfl rfl rfl) ?_
            refine any_done (by kernel_rfl) ?_
            refine qw_meet (subL_cons (lkv rfl (by first | rfl | simp)) (subL_nil _)) (fun w' h => ⟨τ7, _, g, cg, tl, ⟨hl7, hf7, ht45, hg1, hg2, by have h1 := ht45.len; have h2 := htco.len; simp only [List.length_append] at hg3 ⊢; omega⟩, ?_⟩)
            have h1 := h.drop (.cons_cons _ (.cons_cons _ (List.nil_sublist _)))
            rwa [setX_snoc hrow.len htco.len] at h1
          ·
            refine next_val rfl rfl (ex_nilck rfl) ?_
            refine any_two (i := 9) (j := 11) (by kernel_rfl) ?_ ?_
            ·
              refine next_u rfl (exu_storeX 0 rfl rfl rfl ht45.len ht45.one (by simp [hrow.len, htco.len])) ?_
              refine any_one (i := 11) (by kernel_rfl) ?_
              refine next_val rfl rfl (ex_field rfl) ?_
              refine any_one (i := 12) (by kernel_rfl) ?_
              refine next_u rfl (exu_store1 1 rfl rfl rfl rfl rfl rfl) ?_
              refine any_done (by kernel_rfl) ?_
              refine qw_meet (subL_cons (lkv rfl (by first | rfl | simp)) (subL_nil _)) (fun w' h => ⟨τ7, _, g, cg, tl, ⟨hl7, hf7, ht45, hg1, hg2, by have h1 := ht45.len; have h2 := htco.len; simp only [List.length_append] at hg3 ⊢; omega⟩, ?_⟩)
              have h1 := h.drop (.cons_cons _ (.cons_cons _ (List.nil_sublist _)))
              rwa [setX_snoc hrow.len htco.len] at h1
            ·
              refine next_val rfl rfl (ex_field rfl) ?_
              refine any_two (i := 9) (j := 12) (by kernel_rfl) ?_ ?_
              ·
                refine next_u rfl (exu_storeX 0 rfl rfl rfl ht45.len ht45.one (by simp [hrow.len, htco.len])) ?_
                refine any_one (i := 12) (by kernel_rfl) ?_
                refine next_u rfl (exu_store1 1 rfl rfl rfl rfl rfl rfl) ?_
                refine any_done (by kernel_rfl) ?_
                refine qw_meet (subL_cons (lkv rfl (by first | rfl | simp)) (subL_nil _)) (fun w' h => ⟨τ7, _, g, cg, tl, ⟨hl7, hf7, ht45, hg1, hg2, by have h1 := ht45.len; have h2 := htco.len; simp only [List.length_append] at hg3 ⊢; omega⟩, ?_⟩)
                have h1 := h.drop (.cons_cons _ (.cons_cons _ (List.nil_sublist _)))
                rwa [setX_snoc hrow.len htco.len] at h1
              ·
                refine next_u rfl (exu_store1 1 rfl rfl rfl rfl rfl rfl) ?_
                refine any_one (i := 9) (by kernel_rfl) ?_
                refine next_u rfl (exu_storeX 0 rfl rfl rfl ht45.len ht45.one (by simp [hrow.len, htco.len])) ?_
                refine any_done (by kernel_rfl) ?_
                refine qw_meet (subL_cons (lkv rfl (by first | rfl | simp)) (subL_nil _)) (fun w' h => ⟨τ7, _, g, cg, tl, ⟨hl7, hf7, ht45, hg1, hg2, by have h1 := ht45.len; have h2 := htco.len; simp only [List.length_append] at hg3 ⊢; omega⟩, ?_⟩)
                have h1 := h.drop (.cons_cons _ (.cons_cons _ (List.nil_sublist _)))
                rwa [setX_snoc hrow.len htco.len] at h1
        ·
          refine next_val rfl rfl (ex_nilck rfl) ?_
          refine any_two (i := 8) (j := 11) (by kernel_rfl) ?_ ?_
          ·
            refine next_val rfl rfl (ex_index_nat rfl rfl (by omega)) ?_
            refine any_two (i := 9) (j := 11) (by kernel_rfl) ?_ ?_
            ·
              refine next_u rfl (exu_storeX 0 rfl rfl rfl ht45.len ht45.one (by simp [hrow.len, htco.len])) ?_
              refine any_one (i := 11) (by kernel_rfl) ?_
              refine next_val rfl rfl (ex_field rfl) ?_
              refine any_one (i := 12) (by kernel_rfl) ?_
              refine next_u rfl (exu_store1 1 rfl rfl rfl rfl rfl rfl) ?_
              refine any_done (by kernel_rfl) ?_
              refine qw_meet (subL_cons (lkv rfl (by first | rfl | simp)) (subL_nil _)) (fun w' h => ⟨τ7, _, g, cg, tl, ⟨hl7, hf7, ht45, hg1, hg2, by have h1 := ht45.len; have h2 := htco.len; simp only [List.length_append] at hg3 ⊢; omega⟩, ?_⟩)
              have h1 := h.drop (.cons_cons _ (.cons_cons _ (List.nil_sublist _)))
              rwa [setX_snoc hrow.len htco.len] at h1
            ·
              refine next_val rfl rfl (ex_field rfl) ?_
              refine any_two (i := 9) (j := 12) (by kernel_rfl) ?_ ?_
              ·
                refine next_u rfl (exu_storeX 0 rfl rfl rfl ht45.len ht45.one (by simp [hrow.len, htco.len])) ?_
                refine any_one (i := 12) (by kernel_rfl) ?_
                refine next_u rfl (exu_store1 1 rfl rfl rfl rfl rfl rfl) ?_
                refine any_done (by kernel_rfl) ?_
                refine qw_meet (subL_cons (lkv rfl (by first | rfl | simp)) (subL_nil _)) (fun w' h => ⟨τ7, _, g, cg, tl, ⟨hl7, hf7, ht45, hg1, hg2, by have h1 := ht45.len; have h2 := htco.len; simp only [List.length_append] at hg3 ⊢; omega⟩, ?_⟩)
                have h1 := h.drop (.cons_cons _ (.cons_cons _ (List.nil_sublist _)))
                rwa [setX_snoc hrow.len htco.len] at h1
              ·
                refine next_u rfl (exu_store1 1 rfl rfl rfl rfl rfl rfl) ?_
                refine any_one (i := 9) (by kernel_rfl) ?_
                refine next_u rfl (exu_storeX 0 rfl rfl rfl ht45.len ht45.one (by simp [hrow.len, htco.len])) ?_
                refine any_done (by kernel_rfl) ?_
                refine qw_meet (subL_cons (lkv rfl (by first | rfl | simp)) (subL_nil _)) (fun w' h => ⟨τ7, _, g, cg, tl, ⟨hl7, hf7, ht45, hg1, hg2, by have h1 := ht45.len; have h2 := htco.len; simp only [List.length_append] at hg3 ⊢; omega⟩, ?_⟩)
                have h1 := h.drop (.cons_cons _ (.cons_cons _ (List.nil_sublist _)))
                rwa [setX_snoc hrow.len htco.len] at h1
          ·
            refine next_val rfl rfl (ex_field rfl) ?_
            refine any_two (i := 8) (j := 12) (by kernel_rfl) ?_ ?_
            ·
              refine next_val rfl rfl (ex_index_nat rfl rfl (by omega)) ?_
              refine any_two (i := 9) (j := 12) (by kernel_rfl) ?_ ?_
              ·
                refine next_u rfl (exu_storeX 0 rfl rfl rfl ht45.len ht45.one (by simp [hrow.len, htco.len])) ?_
                refine any_one (i := 12) (by kernel_rfl) ?_
                refine next_u rfl (exu_store1 1 rfl rfl rfl rfl rfl rfl) ?_
                refine any_done (by kernel_rfl) ?_
                refine qw_meet (subL_cons (lkv rfl (by first | rfl | simp)) (subL_nil _)) (fun w' h => ⟨τ7, _, g, cg, tl, ⟨hl7, hf7, ht45, hg1, hg2, by have h1 := ht45.len; have h2 := htco.len; simp only [List.length_append] at hg3 ⊢; omega⟩, ?_⟩)
                have h1 := h.drop (.cons_cons _ (.cons_cons _ (List.nil_sublist _)))
                rwa [setX_snoc hrow.len htco.len] at h1
              ·
                refine next_u rfl (exu_store1 1 rfl rfl rfl rfl rfl rfl) ?_
                refine any_one (i := 9) (by kernel_rfl) ?_
                refine next_u rfl (exu_storeX 0 rfl rfl rfl ht45.len ht45.one (by simp [hrow.len, htco.len])) ?_
                refine any_done (by kernel_rfl) ?_
                refine qw_meet (subL_cons (lkv rfl (by first | rfl | simp)) (subL_nil _)) (fun w' h => ⟨τ7, _, g, cg, tl, ⟨hl7, hf7, ht45, hg1, hg2, by have h1 := ht45.len; have h2 := htco.len; simp only [List.length_append] at hg3 ⊢; omega⟩, ?_⟩)
                have h1 := h.drop (.cons_cons _ (.cons_cons _ (List.nil_sublist _)))
                rwa [setX_snoc hrow.len htco.len] at h1
            ·
              refine next_u rfl (exu_store1 1 rfl rfl rfl rfl rfl rfl) ?_
              refine any_one (i := 8) (by kernel_rfl) ?_
              refine next_val rfl rfl (ex_index_nat rfl rfl (by omega)) ?_
              refine any_one (i := 9) (by kernel_rfl) ?_
              refine next_u rfl (exu_storeX 0 rfl rfl rfl ht45.len ht45.one (by simp [hrow.len, htco.len])) ?_
              refine any_done (by kernel_rfl) ?_
              refine qw_meet (subL_cons (lkv rfl (by first | rfl | simp)) (subL_nil _)) (fun w' h => ⟨τ7, _, g, cg, tl, ⟨hl7, hf7, ht45, hg1, hg2, by have h1 := ht45.len; have h2 := htco.len; simp only [List.length_append] at hg3 ⊢; omega⟩, ?_⟩)
              have h1 := h.drop (.cons_cons _ (.cons_cons _ (List.nil_sublist _)))
              rwa [setX_snoc hrow.len htco.len] at h1
      ·
        refine cw_ex fun τ5 => cw_ex fun c45 => cw_ex fun g => cw_ex fun cg => cw_ex fun tl => cw_and fun ⟨hl5, hf5, ht45, hg1, hg2, hg3⟩ => ?_
        refine cw_seq ?_
        refine cw_region ?_
        refine ow_val rfl rfl (ex_move rfl) ?_
        refine ow_val rfl rfl (ex_nilck rfl) ?_
        refine ow_val rfl rfl (ex_field rfl) ?_
        refine ow_val rfl rfl (ex_load1 rfl (by first | exact ld_own1 0 rfl rfl | exact ld_own1 1 rfl rfl | exact ld_own1 2 rfl rfl | exact ld_own1 3 rfl rfl | exact ld_own1 4 rfl rfl | exact ld_own1 5 rfl rfl | exact ld_own1 6 rfl rfl | exact ld_own1 7 rfl rfl | exact ld_ownG1 0 rfl rfl | exact ld_ownG1 1 rfl rfl | exact ld_imm1 (by assumption))) ?_
        refine ow_val rfl rfl (ex_len (ty := 0) rfl) ?_
        refine ow_val rfl rfl (ex_subi (z := (((putVs ks ts).length : Nat) : Int)) rfl rfl (by omega) (by omega) (by omega)) ?_
        refine ow_val rfl rfl (ex_assign rfl) ?_
        refine ow_nil ?_
        refine qw_seq ?_
        refine cw_ret ?_
        refine qw_ret1 rfl rfl (fun w' h => ?_)
        have h2 := (St.flip h).permG (List.reverse_perm _)
        have hlen1 : (putVs ks ts ++ [T.mk o n d ks]).length = (putVs ks ts).length + 1 := by simp
        have hxl := hrow.len
        have hcl5 := ht45.len
        refine h2.givesK (hlj.trans hl5) (hfj.trans hf5) ⟨?_, ?_⟩
        · unfold numV
          rw [if_neg hnp]; rfl
        · rw [putV_mk, if_neg hnp]
          refine ⟨_, xs ++ c45, _, rfl, ?_, (hrow.le hl5).append (RowC.one ht45), ?_⟩
          · rw [show (putVs (T.mk o n d ks).kids ts ++ [T.mk o n d ks]).length = (putVs ks ts).length + 1 from hlen1]
            exact OwnSl.close (by simp; omega) hg1 hg2 hg3
          · rw [show (putVs (T.mk o n d ks).kids ts ++ [T.mk o n d ks]).length = (putVs ks ts).length + 1 from hlen1]; omega
set_option maxHeartbeats 400000 in
theorem rIntern (t : T) {b : Nat} {ts : List T} {ct : List Value} {σ : Hp} {K : List (Nat × Obj)} {w : World} (hi : Has σ K w) (hv : RefK 63 32 b ts σ K) (ht : TermC σ ct t) : Calls Tryz.prog 47 #[.pointer (some ⟨b, 0, none⟩), .agg ct.toArray] w (GiveK (fun σ' u K' => u = .tuple #[.int .i64 (intern ts t).1, .int .i64 (intern ts t).2.1] ∧ RefK 63 32 b (intern ts t).2.2 σ' K') σ K w) := by
  have ht0 := ht
  obtain ⟨dv, kv, rfl, ho, hn, hd, hk⟩ := ht.opn
  obtain ⟨sv, hc0, hks⟩ := hv.seenX hi
  obtain ⟨psv, csv, rfl, _, _⟩ := hks.slice
  have hfew : ts.length ≤ 4096 := by
    obtain ⟨_, _, _, _, _, _, h⟩ := hv
    exact h
  refine enter (St w (keysOf K) σ [] K) Tryz.func47 rfl Tryz.ntmps47 rfl (Has.start hi) ?_
  refine cw_seq ?_
  refine cw_region ?_
  refine ow_blk rfl rfl (exw_box rfl) ?_; intro b3
  refine ow_val rfl rfl (ex_assign rfl) ?_
  refine ow_val rfl rfl (ex_assign rfl) ?_
  refine ow_nil ?_
  refine qw_seq ?_
  refine cw_seq ?_
  refine cw_region ?_
  refine ow_val rfl rfl (ex_loadR rfl (by first | exact ld_ownN 0 rfl rfl | exact ld_ownN 1 rfl rfl | exact ld_ownN 2 rfl rfl | exact ld_ownN 3 rfl rfl | exact ld_ownN 4 rfl rfl | exact ld_ownN 5 rfl rfl | exact ld_ownN 6 rfl rfl | exact ld_ownN 7 rfl rfl | exact ld_ownGN 0 rfl rfl | exact ld_ownGN 1 rfl rfl | exact ld_immT (by assumption) (by assumption))) ?_
  refine ow_cv rfl rfl (ex_callf rfl (fun w h => callB ((rRight t h.im ht0)))) ?_
  refine ow_val rfl rfl (ex_assign rfl) ?_
  refine ow_nil ?_
  refine qw_seq ?_
  refine cw_seq ?_
  refine cw_seq ?_
  refine cw_region ?_
  refine ow_val rfl rfl (ex_move rfl) ?_
  refine ow_val rfl rfl (ex_not rfl) ?_
  refine ow_nil ?_
  refine qw_seq ?_
  refine cw_cond rfl (fun c12 => ?_) (fun c12 => ?_)
  ·
    refine cw_seq ?_
    refine cw_region ?_
    refine ow_val rfl rfl (ex_assign rfl) ?_
    refine ow_val rfl rfl (ex_assign rfl) ?_
    refine ow_nil ?_
    refine qw_seq ?_
    refine cw_ret ?_
    refine qw_then_ret ?_
    refine qw_ret2 rfl rfl rfl (fun w' h => ?_)
    have hr : ¬ right t = true := by simpa using c12
    have e : intern ts t = (-1, 51, ts) := by unfold intern; rw [if_neg hr]
    rw [e]
    exact (h.drop (List.nil_sublist _)).givesK (Le.refl _) (Fresh.refl _ _) ⟨rfl, hv⟩
  ·
    have hr : right t = true := by simpa using c12
    have hsz9 := right_size hr
    unfold maxKids at hsz9
    refine cw_skip ?_
    refine qw_seq ?_
    refine cw_seq ?_
    refine cw_region ?_
    refine ow_val rfl rfl (ex_move rfl) ?_
    refine ow_val rfl rfl (ex_loadR rfl (by first | exact ld_ownN 0 rfl rfl | exact ld_ownN 1 rfl rfl | exact ld_ownN 2 rfl rfl | exact ld_ownN 3 rfl rfl | exact ld_ownN 4 rfl rfl | exact ld_ownN 5 rfl rfl | exact ld_ownN 6 rfl rfl | exact ld_ownN 7 rfl rfl | exact ld_ownGN 0 rfl rfl | exact ld_ownGN 1 rfl rfl | exact ld_immT (by assumption) (by assumption))) ?_
    refine ow_cv rfl rfl (ex_callf rfl (fun w h => callB ((rFindK t h.hasE hv ht0)))) ?_
    refine ow_val rfl rfl (ex_move rfl) ?_
    refine ow_val rfl rfl (ex_extract rfl rfl) ?_
    refine ow_val rfl rfl (ex_extract rfl rfl) ?_
    refine ow_val rfl rfl (ex_assign rfl) ?_
    refine ow_val rfl rfl (ex_assign rfl) ?_
    refine ow_nil ?_
    refine qw_seq ?_
    refine cw_seq ?_
    refine cw_seq ?_
    refine cw_region ?_
    refine ow_val rfl rfl (ex_move rfl) ?_
    refine ow_nil ?_
    refine qw_seq ?_
    refine cw_cond rfl (fun c19 => ?_) (fun c19 => ?_)
    ·
      refine cw_seq ?_
      refine cw_region ?_
      refine ow_val rfl rfl (ex_move rfl) ?_
      refine ow_val rfl rfl (ex_assign rfl) ?_
      refine ow_val rfl rfl (ex_assign rfl) ?_
      refine ow_nil ?_
      refine qw_seq ?_
      refine cw_ret ?_
      refine qw_then_ret ?_
      refine qw_ret2 rfl rfl rfl (fun w' h => ?_)
      have h0 := of_decide_eq_true c19
      have e : intern ts t = (posT ts t, 0, ts) := by unfold intern; rw [if_pos hr, if_pos h0]
      rw [e]
      exact (h.drop (List.nil_sublist _)).givesK (Le.refl _) (Fresh.refl _ _) ⟨rfl, hv⟩
    ·
      refine cw_skip ?_
      refine qw_seq ?_
      refine cw_seq ?_
      refine cw_seq ?_
      refine flow_sound 9 (by kernel_rfl) ?_
      refine flow_val rfl (ex_move rfl) ?_
      refine flow_val rfl (ex_nilck rfl) ?_
      refine flow_val rfl (ex_field rfl) ?_
      refine flow_val rfl (ex_load1 rfl (fun w h => hc0.cell h.hasE.exts)) ?_
      refine flow_val rfl (ex_len (ty := 0) rfl) ?_
      refine flow_val rfl (ex_loadR rfl (by first | exact ld_ownN 0 rfl rfl | exact ld_ownN 1 rfl rfl | exact ld_ownN 2 rfl rfl | exact ld_ownN 3 rfl rfl | exact ld_ownN 4 rfl rfl | exact ld_ownN 5 rfl rfl | exact ld_ownN 6 rfl rfl | exact ld_ownN 7 rfl rfl | exact ld_ownGN 0 rfl rfl | exact ld_ownGN 1 rfl rfl | exact ld_immT (by assumption) (by assumption))) ?_
      refine flow_cv rfl (ex_callf rfl (fun w h => callB ((rSize t h.im ht0 (right_size hr))))) ?_
      refine flow_val rfl (ex_addi (z := ((ts.length : Int) + (size t : Int))) rfl rfl (by omega) (by omega) (by omega)) ?_
      refine flow_val rfl (ex_gtr rfl rfl) ?_
      refine flow_nil ?_
      refine fin_is ?_
      refine fin_is ?_
      refine fin_is ?_
      refine fin_is ?_
      refine fin_is ?_
      refine fin_is ?_
      refine fin_is ?_
      refine fin_is ?_
      refine fin_is ?_
      refine fin_nil ?_
      refine ow_nil ?_
      refine qw_seq ?_
      refine cw_cond rfl (fun c29 => ?_) (fun c29 => ?_)
      ·
        refine cw_seq ?_
        refine cw_region ?_
        refine ow_val rfl rfl (ex_assign rfl) ?_
        refine ow_val rfl rfl (ex_assign rfl) ?_
        refine ow_nil ?_
        refine qw_seq ?_
        refine cw_ret ?_
        refine qw_then_ret ?_
        refine qw_ret2 rfl rfl rfl (fun w' h => ?_)
        have h0 := of_decide_eq_false c19
        have h1 := of_decide_eq_true c29
        have e : intern ts t = (-1, 2, ts) := by unfold intern; rw [if_pos hr, if_neg h0, if_pos (by omega)]
        rw [e]
        exact (h.drop (List.nil_sublist _)).givesK (Le.refl _) (Fresh.refl _ _) ⟨rfl, hv⟩
      ·
        refine cw_skip ?_
        refine qw_seq ?_
        refine cw_seq ?_
        refine cw_region ?_
        refine ow_val rfl rfl (ex_move rfl) ?_
        refine ow_val rfl rfl (ex_loadR rfl (by first | exact ld_ownN 0 rfl rfl | exact ld_ownN 1 rfl rfl | exact ld_ownN 2 rfl rfl | exact ld_ownN 3 rfl rfl | exact ld_ownN 4 rfl rfl | exact ld_ownN 5 rfl rfl | exact ld_ownN 6 rfl rfl | exact ld_ownN 7 rfl rfl | exact ld_ownGN 0 rfl rfl | exact ld_ownGN 1 rfl rfl | exact ld_immT (by assumption) (by assumption))) ?_
        refine ow_ckE rfl rfl (ex_callf rfl (fun w h => rPutV t h.hasE hv ht0 (.inr (by have := of_decide_eq_false c29; omega)))) (fun v32 τ30 K30 hl30 hf30 hr30 => ?_)
        obtain ⟨rfl, hv30⟩ := hr30
        refine ow_val rfl rfl (ex_assign rfl) ?_
        refine ow_val rfl rfl (ex_assign rfl) ?_
        refine ow_nil ?_
        refine qw_seq ?_
        refine cw_ret ?_
        refine qw_ret2 rfl rfl rfl (fun w' h => ?_)
        have h0 := of_decide_eq_false c19
        have h1 := of_decide_eq_false c29
        have e : intern ts t = (numV t ts, 0, putV t ts) := by unfold intern; rw [if_pos hr, if_neg h0, if_neg (by omega)]
        rw [e]
        exact (h.drop (List.nil_sublist _)).givesK hl30 hf30 ⟨rfl, hv30⟩
end Go.Proofs.YtnjomdjkbbhdoaaGreatDoor
namespace Go.Proofs.YtnjomdjkbbhdoaaGreatDoor
open Go.RowKit
set_option linter.unusedVariables false
set_option linter.unusedSimpArgs false
set_option maxRecDepth 100000
set_option maxHeartbeats 400000 in
theorem pBothL (ls : List T) {v : Value} {σ : Hp} {w : World} (hi : Imm σ w) (htab : TabC Tryz.prog σ) (hl : KidsV σ v ls) : Calls Tryz.prog 10 #[v] w (GiveK (fun σ' u K' => (u = .tuple #[.pointer none, .pointer none, .bool false] ∧ K' = []) ∨ ∃ (bv bd : Nat) (Kv Kd : List (Nat × Obj)) (ts : List T), u = .tuple #[.pointer (some ⟨bv, 0, none⟩), .pointer (some ⟨bd, 0, none⟩), .bool true] ∧ K' = Kv ++ Kd ∧ VaultK 80 32 bv ts σ' Kv ∧ RefK 63 32 bd ts σ' Kd) σ [] w) := by
  obtain ⟨p, c, rfl, hc, hm⟩ := hl.slice
  have hm2 := hm
  unfold maxKids at hm2
  refine enter (St w (keysOf []) σ [] []) Tryz.func10 rfl Tryz.ntmps10 rfl (Has.start (Has.nil hi)) ?_
  refine cw_seq ?_
  refine cw_region ?_
  refine ow_val rfl rfl (ex_assign rfl) ?_
  refine ow_val rfl rfl (ex_assign rfl) ?_
  refine ow_val rfl rfl (ex_assign rfl) ?_
  refine ow_nil ?_
  refine qw_seq ?_
  refine cw_seq ?_
  refine cw_region ?_
  refine ow_ck0E rfl rfl (ex_callf rfl (fun w h => pNew h.im)) (fun v12 σ4 K4 hl4 hf4 hr4 => ?_)
  obtain ⟨bv, rfl, hv4⟩ := hr4
  refine ow_val rfl rfl (ex_assign rfl) ?_
  refine ow_nil ?_
  refine qw_seq ?_
  refine cw_seq ?_
  refine cw_region ?_
  refine ow_val rfl rfl (ex_build (parts := []) (cells := #[.slice none 0 0]) rfl (by kernel_rfl)) ?_
  refine ow_blk rfl rfl (exw_box rfl) ?_; intro bd
  refine ow_mono (fun w h => h.toG.permG (List.perm_append_comm (l₁ := K4) (l₂ := [_]))) ?_
  have hd4 : RefK 63 32 bd [] σ4 [(bd, .cells #[.slice none 0 0] 63)] := ⟨_, [], [], rfl, OwnSl.nil _ _, rfl, by simp⟩
  refine ow_val rfl rfl (ex_assign rfl) ?_
  refine ow_nil ?_
  refine qw_seq ?_
  refine cw_seq ?_
  refine cw_seq ?_
  refine cw_region ?_
  refine ow_val rfl rfl (ex_move rfl) ?_
  refine ow_val rfl rfl (ex_ptrnil rfl) ?_
  refine ow_val rfl rfl (ex_move rfl) ?_
  refine ow_split (g := some (2, false)) rfl (fun s17 => ?_) (fun s17 => ?_)
  ·
    simp at s17
  ·
    refine ow_val rfl (gd_go rfl s17) (ex_move rfl) ?_
    refine ow_val rfl (gd_go rfl s17) (ex_len (ty := 0) rfl) ?_
    refine ow_val rfl (gd_go rfl s17) (ex_gtr rfl rfl) ?_
    refine ow_val rfl rfl (ex_pickf rfl s17 rfl) ?_
    refine ow_nil ?_
    refine qw_seq ?_
    refine cw_cond rfl (fun c21 => ?_) (fun c21 => ?_)
    ·
      refine cw_seq ?_
      refine cw_region ?_
      refine ow_val rfl rfl (ex_assign rfl) ?_
      refine ow_val rfl rfl (ex_assign rfl) ?_
      refine ow_val rfl rfl (ex_assign rfl) ?_
      refine ow_nil ?_
      refine qw_seq ?_
      refine cw_ret ?_
      refine qw_then_ret ?_
      refine qw_ret3 rfl rfl rfl rfl (fun w' h => (h.dropG (List.nil_sublist _)).givesK hl4 hf4 (.inl ⟨rfl, rfl⟩))
    ·
      refine cw_skip ?_
      refine qw_seq ?_
      refine cw_seq ?_
      refine cw_seq ?_
      refine cw_region ?_
      refine ow_val rfl rfl (ex_assign rfl) ?_
      refine ow_nil ?_
      refine qw_seq ?_
      refine cw_block ?_
      refine cw_loop5 (fun (i : Nat) (ts : List T) (τ : Hp) (Kv Kd : List (Nat × Obj)) => [(0, .slice p ls.length c), (5, .pointer (some ⟨bv, 0, none⟩)), (6, .pointer (some ⟨bd, 0, none⟩)), (7, .int .i64 (i : Int))]) (fun i ts τ Kv Kd => i ≤ ls.length ∧ Le σ τ ∧ Fresh σ τ w ∧ VaultK 80 32 bv ts τ Kv ∧ RefK 63 32 bd ts τ Kd) (fun i ts τ Kv Kd => τ) (fun i ts τ Kv Kd => Kv ++ Kd) (fun i _ _ _ _ => ls.length - i) 0 [] σ4 K4 [(bd, .cells #[.slice none 0 0] 63)] (subL_cons (lkv rfl (by first | rfl | simp)) (subL_cons (lkv rfl (by first | rfl | simp)) (subL_cons (lkv rfl (by first | rfl | simp)) (subL_cons (lkv rfl (by first | rfl | simp)) (subL_nil _))))) ⟨Nat.zero_le _, hl4, hf4, hv4, hd4⟩ (fun w h => h) ?_
      intro i ts τj Kv Kd ⟨hlej, hlj, hfj, hvj, hdj⟩
      refine cw_seq ?_
      refine cw_seq ?_
      refine cw_region ?_
      refine ow_val rfl rfl (ex_move rfl) ?_
      refine ow_val rfl rfl (ex_move rfl) ?_
      refine ow_val rfl rfl (ex_len (ty := 0) rfl) ?_
      refine ow_val rfl rfl (ex_lss rfl rfl) ?_
      refine ow_nil ?_
      refine qw_seq ?_
      refine cw_cond rfl (fun c25 => ?_) (fun c25 => ?_)
      ·
        refine cw_skip ?_
        refine qw_seq ?_
        refine cw_seq ?_
        refine cw_block ?_
        refine cw_seq ?_
        refine cw_seq ?_
        have hlt : i < ls.length := by have := of_decide_eq_true c25; omega
        obtain ⟨bk, f, c', cs, e1, e2, hc1, ht1⟩ := hl.get i hlt
        cases e1
        refine cw_region ?_
        refine ow_val rfl rfl (ex_move rfl) ?_
        refine ow_val rfl rfl (ex_move rfl) ?_
        refine ow_val rfl rfl (ex_index_nat rfl rfl (by omega)) ?_
        refine ow_val rfl rfl (ex_loadR rfl (ld_immT (hc1.le hlj) (ht1.le hlj))) ?_
        refine ow_cv rfl rfl (ex_callf rfl (fun w h => callB ((rParts _ h.im (ht1.le hlj) (by omega) (by omega))))) ?_
        refine ow_val rfl rfl (ex_gtr rfl rfl) ?_
        refine ow_nil ?_
        refine qw_seq ?_
        refine cw_cond rfl (fun c33 => ?_) (fun c33 => ?_)
        ·
          refine cw_seq ?_
          refine cw_region ?_
          refine ow_val rfl rfl (ex_assign rfl) ?_
          refine ow_val rfl rfl (ex_assign rfl) ?_
          refine ow_val rfl rfl (ex_assign rfl) ?_
          refine ow_nil ?_
          refine qw_seq ?_
          refine cw_ret ?_
          refine qw_then_ret ?_
          refine qw_block_ret ?_
          refine qw_then_ret ?_
          refine qw_then_ret ?_
          refine qw_block_ret ?_
          refine qw_then_ret ?_
          refine qw_ret3 rfl rfl rfl rfl (fun w' h => (h.dropG (List.nil_sublist _)).givesK hlj hfj (.inl ⟨rfl, rfl⟩))
        ·
          refine cw_skip ?_
          refine qw_seq ?_
          refine cw_seq ?_
          refine cw_region ?_
          refine ow_val rfl rfl (ex_move rfl) ?_
          refine ow_val rfl rfl (ex_move rfl) ?_
          refine ow_val rfl rfl (ex_move rfl) ?_
          refine ow_val rfl rfl (ex_index_nat rfl rfl (by omega)) ?_
          refine ow_val rfl rfl (ex_loadR rfl (ld_immT (hc1.le hlj) (ht1.le hlj))) ?_
          refine ow_ck rfl rfl (ex_callf rfl (fun w h => pIntern _ h.has (htab.le hlj) hvj (ht1.le hlj))) (fun v40 τ2 K2 hl2 hf2 hr2 => ?_)
          obtain ⟨rfl, hv2⟩ := hr2
          refine ow_val rfl rfl (ex_move rfl) ?_
          refine ow_val rfl rfl (ex_extract rfl rfl) ?_
          refine ow_val rfl rfl (ex_extract rfl rfl) ?_
          refine ow_val rfl rfl (ex_assign rfl) ?_
          refine ow_val rfl rfl (ex_assign rfl) ?_
          refine ow_nil ?_
          refine qw_seq ?_
          refine cw_seq ?_
          refine cw_region ?_
          refine ow_val rfl rfl (ex_move rfl) ?_
          refine ow_val rfl rfl (ex_move rfl) ?_
          refine ow_val rfl rfl (ex_move rfl) ?_
          refine ow_val rfl rfl (ex_index_nat rfl rfl (by omega)) ?_
          refine ow_val rfl rfl (ex_loadR rfl (ld_immT (hc1.le (hlj.trans hl2)) (ht1.le (hlj.trans hl2)))) ?_
          refine ow_mono (fun w h => h.permG List.perm_append_comm) ?_
          refine ow_ck rfl rfl (ex_callf rfl (fun w h => rIntern _ h.has (hdj.le hl2) (ht1.le (hlj.trans hl2)))) (fun v49 τ3 K3 hl3 hf3 hr3 => ?_)
          obtain ⟨rfl, hd3⟩ := hr3
          refine ow_mono (fun w h => h.permG List.perm_append_comm) ?_
          refine ow_val rfl rfl (ex_move rfl) ?_
          refine ow_val rfl rfl (ex_extract rfl rfl) ?_
          refine ow_val rfl rfl (ex_extract rfl rfl) ?_
          refine ow_val rfl rfl (ex_assign rfl) ?_
          refine ow_val rfl rfl (ex_assign rfl) ?_
          refine ow_nil ?_
          refine qw_seq ?_
          refine cw_seq ?_
          refine cw_region ?_
          refine ow_val rfl rfl (ex_move rfl) ?_
          refine ow_val rfl rfl (ex_move rfl) ?_
          refine ow_val rfl rfl (ex_neq rfl rfl) ?_
          refine ow_val rfl rfl (ex_move rfl) ?_
          refine ow_split (g := some (3, false)) rfl (fun s55 => ?_) (fun s55 => ?_)
          ·
            simp at s55
          ·
            refine ow_val rfl (gd_go rfl s55) (ex_move rfl) ?_
            refine ow_val rfl (gd_go rfl s55) (ex_move rfl) ?_
            refine ow_val rfl (gd_go rfl s55) (ex_neq rfl rfl) ?_
            refine ow_val rfl rfl (ex_pickf rfl s55 rfl) ?_
            refine ow_nil ?_
            refine qw_seq ?_
            refine cw_cond rfl (fun c59 => ?_) (fun c59 => ?_)
            ·
              simp at c59
            ·
              refine cw_skip ?_
              refine qw_block_normal ?_
              refine qw_seq ?_
              refine cw_region ?_
              refine ow_val rfl rfl (ex_move rfl) ?_
              refine ow_val rfl rfl (ex_addi (z := ((i + 1 : Nat) : Int)) rfl rfl (by omega) (by omega) (by omega)) ?_
              refine ow_val rfl rfl (ex_assign rfl) ?_
              refine ow_nil ?_
              exact qw_round5 (i + 1) (intern ts ls[i]).2.2 τ3 K2 K3 (by omega) (subL_cons (lkv rfl (by first | rfl | simp)) (subL_cons (lkv rfl (by first | rfl | simp)) (subL_cons (lkv rfl (by first | rfl | simp)) (subL_cons (lkv rfl (by first | rfl | simp)) (subL_nil _))))) ⟨by omega, (hlj.trans hl2).trans hl3, (hfj.trans hf2).trans hf3, hv2.le hl3, hd3⟩ (fun w h => h)
      ·
        refine cw_exit ?_
        refine qw_then_exit ?_
        refine qw_then_exit ?_
        refine qw_block_exit ?_
        refine qw_seq ?_
        refine cw_seq ?_
        refine cw_region ?_
        refine ow_val rfl rfl (ex_move rfl) ?_
        refine ow_val rfl rfl (ex_move rfl) ?_
        refine ow_val rfl rfl (ex_assign rfl) ?_
        refine ow_val rfl rfl (ex_assign rfl) ?_
        refine ow_val rfl rfl (ex_assign rfl) ?_
        refine ow_nil ?_
        refine qw_seq ?_
        refine cw_ret ?_
        refine qw_ret3 rfl rfl rfl rfl (fun w' h => h.givesK hlj hfj (.inr ⟨bv, bd, Kv, Kd, ts, rfl, rfl, hvj, hdj⟩))
end Go.Proofs.YtnjomdjkbbhdoaaGreatDoor
namespace Go.Proofs.YtnjomdjkbbhdoaaGreatDoor
open Go.RowKit
set_option linter.unusedVariables false
set_option linter.unusedSimpArgs false
set_option maxRecDepth 100000
theorem bothR {u : Value} {σ' : Hp} {K' : List (Nat × Obj)} (h : (u = .tuple #[.pointer none, .pointer none, .bool false] ∧ K' = []) ∨ ∃ (bv bd : Nat) (Kv Kd : List (Nat × Obj)) (ts : List T), u = .tuple #[.pointer (some ⟨bv, 0, none⟩), .pointer (some ⟨bd, 0, none⟩), .bool true] ∧ K' = Kv ++ Kd ∧ VaultK 80 32 bv ts σ' Kv ∧ RefK 63 32 bd ts σ' Kd) : ∃ pv pd ok, u = .tuple #[.pointer pv, .pointer pd, .bool ok] ∧ (ok = true → ∃ (bv bd : Nat) (Kv Kd : List (Nat × Obj)) (ts : List T), pv = some ⟨bv, 0, none⟩ ∧ pd = some ⟨bd, 0, none⟩ ∧ K' = Kv ++ Kd ∧ VaultK 80 32 bv ts σ' Kv ∧ RefK 63 32 bd ts σ' Kd) := by
  rcases h with ⟨h, _⟩ | ⟨bv, bd, Kv, Kd, ts, h, h1, h2, h3⟩
  · exact ⟨none, none, false, h, fun h => by cases h⟩
  · exact ⟨_, _, true, h, fun _ => ⟨bv, bd, Kv, Kd, ts, rfl, rfl, h1, h2, h3⟩⟩
end Go.Proofs.YtnjomdjkbbhdoaaGreatDoor
namespace Go.Proofs.YtnjomdjkbbhdoaaGreatDoor
open Go.RowKit
set_option linter.unusedVariables false
set_option linter.unusedSimpArgs false
set_option maxRecDepth 100000
set_option maxHeartbeats 400000 in
theorem rMentions {d : List UInt8} {below : Int} {v : Value} {σ : Hp} {w : World} (hi : Imm σ w) (hd : BytesV σ v d) (hmx : d.length ≤ 17592186044415) : Calls Tryz.prog 42 #[v, .int .i64 below] w (GiveR (RepI (mentS d below)) σ w) := by
  obtain ⟨p, c, rfl, hc0, _⟩ := hd.slice
  refine enter (St w (fun _ => False) σ [] []) Tryz.func42 rfl Tryz.ntmps42 rfl (St.start hi) ?_
  refine cw_seq ?_
  refine cw_region ?_
  refine ow_val rfl rfl (ex_assign rfl) ?_
  refine ow_nil ?_
  refine qw_seq ?_
  refine cw_seq ?_
  refine cw_region ?_
  refine ow_val rfl rfl (ex_assign rfl) ?_
  refine ow_nil ?_
  refine qw_seq ?_
  refine cw_seq ?_
  refine cw_seq ?_
  refine cw_region ?_
  refine ow_val rfl rfl (ex_assign rfl) ?_
  refine ow_nil ?_
  refine qw_seq ?_
  refine cw_block ?_
  refine cw_loop5 (fun (i : Nat) (zs : List Int) (q : Option Addr) (cz : Nat) (τ : Hp) => [(0, .slice p d.length c), (1, .int .i64 below), (5, .slice q zs.length cz), (6, .int .i64 (i : Int))]) (fun i zs q cz τ => i ≤ d.length ∧ Le σ τ ∧ Fresh σ τ w ∧ zs.length ≤ cz ∧ (zs = [] ∨ ∃ b o, q = some ⟨b, o, none⟩ ∧ CellsAt τ b o (intsV zs)) ∧ zs.Pairwise (· < ·) ∧ ∀ x, (x ∈ zs ∨ x ∈ mentL (d.drop i) below) ↔ x ∈ mentL d below) (fun _ _ _ _ τ => τ) (fun _ _ _ _ _ => []) (fun i _ _ _ _ => d.length - i) 0 [] none 0 σ (subL_cons (lkv rfl (by first | rfl | simp)) (subL_cons (lkv rfl (by first | rfl | simp)) (subL_cons (lkv rfl (by first | rfl | simp)) (subL_cons (lkv rfl (by first | rfl | simp)) (subL_nil _))))) ⟨Nat.zero_le _, Le.refl _, Fresh.refl _ _, Nat.le_refl _, .inl rfl, List.Pairwise.nil, by simp⟩ (fun w h => h) ?_
  intro i zs q cz τ ⟨hlei, hlj, hfj, hcz, hsz, hpw, hmem⟩
  refine cw_seq ?_
  refine cw_seq ?_
  refine cw_region ?_
  refine ow_val rfl rfl (ex_move rfl) ?_
  refine ow_val rfl rfl (ex_addi (z := ((i + 10 : Nat) : Int)) rfl rfl (by omega) (by omega) (by omega)) ?_
  refine ow_val rfl rfl (ex_move rfl) ?_
  refine ow_val rfl rfl (ex_len (ty := 0) rfl) ?_
  refine ow_val rfl rfl (ex_leq rfl rfl) ?_
  refine ow_nil ?_
  refine qw_seq ?_
  refine cw_cond rfl (fun c15 => ?_) (fun c15 => ?_)
  ·
    have h10 : i + 10 ≤ d.length := by have := of_decide_eq_true c15; omega
    obtain ⟨bq, oq, rfl, hcq⟩ := hd.ptr (by omega)
    have hmid : BytesV τ (.slice (some (if c = i + 2 then ⟨bq, oq, none⟩ else ⟨bq, oq + (i + 2) * 1, none⟩)) (i + 10 - (i + 2)) (c - (i + 2))) (((d.drop i).drop 2).take 8) := by
      have h9 := (hd.le hlj).mid (i := i + 2) (j := i + 10) (by omega) (by omega)
      have e9 : i + 10 - (i + 2) = 8 := by omega
      rw [e9] at h9
      rw [List.drop_drop, e9]; exact h9
    have hzl : zs.length ≤ d.length := Nat.le_trans (strict_len hpw fun x hx => (hmem x).1 (.inl hx)) (mentL_len d below)
    refine cw_skip ?_
    refine qw_seq ?_
    refine cw_seq ?_
    refine cw_block ?_
    refine cw_seq ?_
    refine cw_region ?_
    refine ow_val rfl rfl (ex_move rfl) ?_
    refine ow_val rfl rfl (ex_move rfl) ?_
    refine ow_val rfl rfl (ex_addi (z := ((i + 2 : Nat) : Int)) rfl rfl (by omega) (by omega) (by omega)) ?_
    refine ow_val rfl rfl (ex_move rfl) ?_
    refine ow_val rfl rfl (ex_addi (z := ((i + 10 : Nat) : Int)) rfl rfl (by omega) (by omega) (by omega)) ?_
    refine ow_val rfl rfl (ex_slice (i := i + 2) (j := i + 10) rfl rfl rfl (by omega) (by omega)) ?_
    refine ow_cv rfl rfl (ex_callf rfl (fun w h => callB ((rNumber h.im hmid)))) ?_
    refine ow_val rfl rfl (ex_move rfl) ?_
    refine ow_val rfl rfl (ex_extract rfl rfl) ?_
    refine ow_val rfl rfl (ex_extract rfl rfl) ?_
    refine ow_val rfl rfl (ex_assign rfl) ?_
    refine ow_val rfl rfl (ex_assign rfl) ?_
    refine ow_nil ?_
    refine qw_seq ?_
    refine cw_seq ?_
    refine cw_seq ?_
    refine cw_region ?_
    refine ow_val rfl rfl (ex_move rfl) ?_
    refine ow_val rfl rfl (ex_not rfl) ?_
    refine ow_val rfl rfl (ex_move rfl) ?_
    refine ow_split (g := some (2, false)) rfl (fun s30 => ?_) (fun s30 => ?_)
    ·
      have hm : hitB (d.drop i) below = false := by unfold hitB; rw [show (numB (((d.drop i).drop 2).take 8)).2 = false from by simpa using s30]; rfl
      refine ow_skip rfl (gd_no rfl s30) ?_
      refine ow_skip rfl (gd_no rfl s30) ?_
      refine ow_skip rfl (gd_no rfl s30) ?_
      refine ow_val rfl rfl (ex_pickt rfl s30 rfl) ?_
      refine ow_val rfl rfl (ex_move rfl) ?_
      refine ow_skip rfl rfl ?_
      refine ow_skip rfl rfl ?_
      refine ow_skip rfl rfl ?_
      refine ow_skip rfl rfl ?_
      refine ow_skip rfl rfl ?_
      refine ow_val rfl rfl (ex_pick_t rfl rfl) ?_
      refine ow_val rfl rfl (ex_move rfl) ?_
      refine ow_skip rfl rfl ?_
      refine ow_skip rfl rfl ?_
      refine ow_skip rfl rfl ?_
      refine ow_skip rfl rfl ?_
      refine ow_skip rfl rfl ?_
      refine ow_skip rfl rfl ?_
      refine ow_val rfl rfl (ex_pick_t rfl rfl) ?_
      refine ow_nil ?_
      refine qw_seq ?_
      refine cw_cond_t rfl ?_
      refine cw_exit ?_
      refine qw_then_exit ?_
      refine qw_block_exit ?_
      refine qw_seq ?_
      refine cw_region ?_
      refine ow_val rfl rfl (ex_move rfl) ?_
      refine ow_val rfl rfl (ex_addi (z := ((i + 1 : Nat) : Int)) rfl rfl (by omega) (by omega) (by omega)) ?_
      refine ow_val rfl rfl (ex_assign rfl) ?_
      refine ow_nil ?_
      exact qw_round5 (i + 1) zs q cz τ (by omega) (subL_cons (lkv rfl (by first | rfl | simp)) (subL_cons (lkv rfl (by first | rfl | simp)) (subL_cons (lkv rfl (by first | rfl | simp)) (subL_cons (lkv rfl (by first | rfl | simp)) (subL_nil _))))) ⟨by omega, hlj, hfj, hcz, hsz, hpw, by
        intro x
        rw [← hmem x, mentL_miss hm, show (d.drop i).drop 1 = d.drop (i + 1) from by rw [List.drop_drop]]⟩ (fun w h => h)
    ·
      have q1 : (numB (((d.drop i).drop 2).take 8)).2 = true := by simpa using s30
      refine ow_val rfl (gd_go rfl s30) (ex_move rfl) ?_
      refine ow_val rfl (gd_go rfl s30) (ex_move rfl) ?_
      refine ow_val rfl (gd_go rfl s30) (ex_geq rfl rfl) ?_
      refine ow_val rfl rfl (ex_pickf rfl s30 rfl) ?_
      refine ow_val rfl rfl (ex_move rfl) ?_
      refine ow_split (g := some (7, false)) rfl (fun s35 => ?_) (fun s35 => ?_)
      ·
        have hm : hitB (d.drop i) below = false := by unfold hitB; rw [show decide ((numB (((d.drop i).drop 2).take 8)).1 < below) = false from by have := of_decide_eq_true s35; exact decide_eq_false (by omega)]; simp
        refine ow_skip rfl (gd_no rfl s35) ?_
        refine ow_skip rfl (gd_no rfl s35) ?_
        refine ow_skip rfl (gd_no rfl s35) ?_
        refine ow_skip rfl (gd_no rfl s35) ?_
        refine ow_skip rfl (gd_no rfl s35) ?_
        refine ow_val rfl rfl (ex_pickt rfl s35 rfl) ?_
        refine ow_val rfl rfl (ex_move rfl) ?_
        refine ow_skip rfl rfl ?_
        refine ow_skip rfl rfl ?_
        refine ow_skip rfl rfl ?_
        refine ow_skip rfl rfl ?_
        refine ow_skip rfl rfl ?_
        refine ow_skip rfl rfl ?_
        refine ow_val rfl rfl (ex_pick_t rfl rfl) ?_
        refine ow_nil ?_
        refine qw_seq ?_
        refine cw_cond_t rfl ?_
        refine cw_exit ?_
        refine qw_then_exit ?_
        refine qw_block_exit ?_
        refine qw_seq ?_
        refine cw_region ?_
        refine ow_val rfl rfl (ex_move rfl) ?_
        refine ow_val rfl rfl (ex_addi (z := ((i + 1 : Nat) : Int)) rfl rfl (by omega) (by omega) (by omega)) ?_
        refine ow_val rfl rfl (ex_assign rfl) ?_
        refine ow_nil ?_
        exact qw_round5 (i + 1) zs q cz τ (by omega) (subL_cons (lkv rfl (by first | rfl | simp)) (subL_cons (lkv rfl (by first | rfl | simp)) (subL_cons (lkv rfl (by first | rfl | simp)) (subL_cons (lkv rfl (by first | rfl | simp)) (subL_nil _))))) ⟨by omega, hlj, hfj, hcz, hsz, hpw, by
          intro x
          rw [← hmem x, mentL_miss hm, show (d.drop i).drop 1 = d.drop (i + 1) from by rw [List.drop_drop]]⟩ (fun w h => h)
      ·
        have q2 : decide ((numB (((d.drop i).drop 2).take 8)).1 < below) = true := by have := of_decide_eq_false s35; exact decide_eq_true (by omega)
        refine ow_val rfl (gd_go rfl s35) (ex_move rfl) ?_
        refine ow_val rfl (gd_go rfl s35) (ex_move rfl) ?_
        refine ow_val rfl (gd_go rfl s35) (ex_index_nat (i := i) rfl rfl (by omega)) ?_
        refine ow_val rfl (gd_go rfl s35) (ex_load1 rfl (ld_imm1 ((hcq.le hlj).byte (i := i) (by omega)))) ?_
        refine ow_val rfl (gd_go rfl s35) (ex_neq rfl rfl) ?_
        refine ow_val rfl rfl (ex_pickf rfl s35 rfl) ?_
        refine ow_val rfl rfl (ex_move rfl) ?_
        refine ow_split (g := some (14, false)) rfl (fun s42 => ?_) (fun s42 => ?_)
        ·
          have hm : hitB (d.drop i) below = false := by unfold hitB; rw [hit_two h10, show decide (d.getD i 0 = 4) = false from decide_eq_false (fun hc => (of_decide_eq_true s42) (getD_eq.2 hc))]; simp
          refine ow_skip rfl (gd_no rfl s42) ?_
          refine ow_skip rfl (gd_no rfl s42) ?_
          refine ow_skip rfl (gd_no rfl s42) ?_
          refine ow_skip rfl (gd_no rfl s42) ?_
          refine ow_skip rfl (gd_no rfl s42) ?_
          refine ow_skip rfl (gd_no rfl s42) ?_
          refine ow_val rfl rfl (ex_pickt rfl s42 rfl) ?_
          refine ow_nil ?_
          refine qw_seq ?_
          refine cw_cond_t rfl ?_
          refine cw_exit ?_
          refine qw_then_exit ?_
          refine qw_block_exit ?_
          refine qw_seq ?_
          refine cw_region ?_
          refine ow_val rfl rfl (ex_move rfl) ?_
          refine ow_val rfl rfl (ex_addi (z := ((i + 1 : Nat) : Int)) rfl rfl (by omega) (by omega) (by omega)) ?_
          refine ow_val rfl rfl (ex_assign rfl) ?_
          refine ow_nil ?_
          exact qw_round5 (i + 1) zs q cz τ (by omega) (subL_cons (lkv rfl (by first | rfl | simp)) (subL_cons (lkv rfl (by first | rfl | simp)) (subL_cons (lkv rfl (by first | rfl | simp)) (subL_cons (lkv rfl (by first | rfl | simp)) (subL_nil _))))) ⟨by omega, hlj, hfj, hcz, hsz, hpw, by
            intro x
            rw [← hmem x, mentL_miss hm, show (d.drop i).drop 1 = d.drop (i + 1) from by rw [List.drop_drop]]⟩ (fun w h => h)
        ·
          have q3 : d.getD i 0 = 4 := getD_eq.1 (Decidable.not_not.1 (of_decide_eq_false s42))
          refine ow_val rfl (gd_go rfl s42) (ex_move rfl) ?_
          refine ow_val rfl (gd_go rfl s42) (ex_move rfl) ?_
          refine ow_val rfl (gd_go rfl s42) (ex_addi (z := ((i + 1 : Nat) : Int)) rfl rfl (by omega) (by omega) (by omega)) ?_
          refine ow_val rfl (gd_go rfl s42) (ex_index_nat (i := i + 1) rfl rfl (by omega)) ?_
          refine ow_val rfl (gd_go rfl s42) (ex_load1 rfl (ld_imm1 ((hcq.le hlj).byte (i := i + 1) (by omega)))) ?_
          refine ow_val rfl (gd_go rfl s42) (ex_neq rfl rfl) ?_
          refine ow_val rfl rfl (ex_pickf rfl s42 rfl) ?_
          refine ow_nil ?_
          refine qw_seq ?_
          refine cw_cond rfl (fun c49 => ?_) (fun c49 => ?_)
          ·
            have hm : hitB (d.drop i) below = false := by unfold hitB; rw [hit_two h10, show decide (d.getD (i + 1) 0 = 8) = false from decide_eq_false (fun hc => (of_decide_eq_true c49) (getD_eq.2 hc))]; simp
            refine cw_exit ?_
            refine qw_then_exit ?_
            refine qw_block_exit ?_
            refine qw_seq ?_
            refine cw_region ?_
            refine ow_val rfl rfl (ex_move rfl) ?_
            refine ow_val rfl rfl (ex_addi (z := ((i + 1 : Nat) : Int)) rfl rfl (by omega) (by omega) (by omega)) ?_
            refine ow_val rfl rfl (ex_assign rfl) ?_
            refine ow_nil ?_
            exact qw_round5 (i + 1) zs q cz τ (by omega) (subL_cons (lkv rfl (by first | rfl | simp)) (subL_cons (lkv rfl (by first | rfl | simp)) (subL_cons (lkv rfl (by first | rfl | simp)) (subL_cons (lkv rfl (by first | rfl | simp)) (subL_nil _))))) ⟨by omega, hlj, hfj, hcz, hsz, hpw, by
              intro x
              rw [← hmem x, mentL_miss hm, show (d.drop i).drop 1 = d.drop (i + 1) from by rw [List.drop_drop]]⟩ (fun w h => h)
          ·
            have q4 : d.getD (i + 1) 0 = 8 := getD_eq.1 (Decidable.not_not.1 (of_decide_eq_false c49))
            have hh : hitB (d.drop i) below = true := by unfold hitB; rw [hit_two h10, q1, q2, q3, q4]; decide
            have hmh := mentL_hit (d := d.drop i) (by rw [List.length_drop]; omega) hh
            refine cw_skip ?_
            refine qw_seq ?_
            refine cw_seq ?_
            refine cw_region ?_
            refine ow_val rfl rfl (ex_move rfl) ?_
            refine ow_val rfl rfl (ex_len (ty := 0) rfl) ?_
            refine ow_val rfl rfl (ex_assign rfl) ?_
            refine ow_nil ?_
            refine qw_seq ?_
            refine cw_seq ?_
            refine cw_block ?_
            refine cw_loopS (α := Nat) (fun k => [(0, .slice (some ⟨bq, oq, none⟩) d.length c), (1, .int .i64 below), (5, .slice q zs.length cz), (6, .int .i64 (i : Int)), (7, .int .i64 (numB (((d.drop i).drop 2).take 8)).1), (9, .int .i64 (k : Int))]) (fun k => k ≤ zs.length ∧ ∀ j, k ≤ j → j < zs.length → (numB (((d.drop i).drop 2).take 8)).1 ≤ zs.getD j 0) (fun k => k) zs.length (subL_cons (lkv rfl (by first | rfl | simp)) (subL_cons (lkv rfl (by first | rfl | simp)) (subL_cons (lkv rfl (by first | rfl | simp)) (subL_cons (lkv rfl (by first | rfl | simp)) (subL_cons (lkv rfl (by first | rfl | simp)) (subL_cons (lkv rfl (by first | rfl | simp)) (subL_nil _))))))) ⟨Nat.le_refl _, fun j h1 h2 => by omega⟩ ?_
            intro k ⟨hlek, hge⟩
            refine cw_seq ?_
            refine cw_cut1 62 (.bool (decide (0 < (k : Int)) && decide ((numB (((d.drop i).drop 2).take 8)).1 ≤ zs.getD (k - 1) 0))) ?_ ?_
            ·
              refine cw_region ?_
              refine ow_val rfl rfl (ex_move rfl) ?_
              refine ow_val rfl rfl (ex_gtr rfl rfl) ?_
              refine ow_val rfl rfl (ex_move rfl) ?_
              refine ow_split (g := some (2, true)) rfl (fun s54 => ?_) (fun s54 => ?_)
              ·
                have hk0 : 0 < k := by have := of_decide_eq_true s54; omega
                obtain ⟨ba, oa, rfl, hca⟩ := hsz.resolve_left (fun hz => by subst hz; simp at hlek; omega)
                refine ow_val rfl (gd_go rfl s54) (ex_move rfl) ?_
                refine ow_val rfl (gd_go rfl s54) (ex_move rfl) ?_
                refine ow_val rfl (gd_go rfl s54) (ex_subi (z := ((k - 1 : Nat) : Int)) rfl rfl (by omega) (by omega) (by omega)) ?_
                refine ow_val rfl (gd_go rfl s54) (ex_index_nat (i := k - 1) rfl rfl (by omega)) ?_
                refine ow_val rfl (gd_go rfl s54) (ex_load1 rfl (ld_imm1 (hca.intD (i := k - 1) (by omega)))) ?_
                refine ow_val rfl (gd_go rfl s54) (ex_move rfl) ?_
                refine ow_val rfl (gd_go rfl s54) (ex_geq rfl rfl) ?_
                refine ow_val rfl rfl (ex_pickt rfl s54 rfl) ?_
                refine ow_nil ?_
                exact qw_meet (subL_meet 11 62 (lkv rfl (by first | rfl | (have q9 : decide (0 < (k : Int)) = false := s54; rw [q9]; rfl) | (have q9 : decide (0 < (k : Int)) = true := s54; rw [q9]; rfl))) rfl rfl) (fun w h => h)
              ·
                refine ow_skip rfl (gd_no rfl s54) ?_
                refine ow_skip rfl (gd_no rfl s54) ?_
                refine ow_skip rfl (gd_no rfl s54) ?_
                refine ow_skip rfl (gd_no rfl s54) ?_
                refine ow_skip rfl (gd_no rfl s54) ?_
                refine ow_skip rfl (gd_no rfl s54) ?_
                refine ow_skip rfl (gd_no rfl s54) ?_
                refine ow_val rfl rfl (ex_pickf rfl s54 rfl) ?_
                refine ow_nil ?_
                exact qw_meet (subL_meet 11 62 (lkv rfl (by first | rfl | (have q9 : decide (0 < (k : Int)) = false := s54; rw [q9]; rfl) | (have q9 : decide (0 < (k : Int)) = true := s54; rw [q9]; rfl))) rfl rfl) (fun w h => h)
            ·
              refine cw_cond rfl (fun c62 => ?_) (fun c62 => ?_)
              ·
                simp only [Bool.and_eq_true, decide_eq_true_eq] at c62
                obtain ⟨hk0, hk1⟩ := c62
                refine cw_skip ?_
                refine qw_seq ?_
                refine cw_block ?_
                refine cw_region ?_
                refine ow_val rfl rfl (ex_move rfl) ?_
                refine ow_val rfl rfl (ex_subi (z := ((k - 1 : Nat) : Int)) rfl rfl (by omega) (by omega) (by omega)) ?_
                refine ow_val rfl rfl (ex_assign rfl) ?_
                refine ow_nil ?_
                refine qw_block_normal ?_
                exact qw_roundS (k - 1) (by omega) (subL_cons (lkv rfl (by first | rfl | simp)) (subL_cons (lkv rfl (by first | rfl | simp)) (subL_cons (lkv rfl (by first | rfl | simp)) (subL_cons (lkv rfl (by first | rfl | simp)) (subL_cons (lkv rfl (by first | rfl | simp)) (subL_cons (lkv rfl (by first | rfl | simp)) (subL_nil _))))))) ⟨by omega, fun j h1 h2 => by
                  by_cases e9 : j = k - 1
                  · subst e9; exact hk1
                  · exact hge j (by omega) h2⟩
              ·
                have hlt : k = 0 ∨ zs.getD (k - 1) 0 < (numB (((d.drop i).drop 2).take 8)).1 := by
                  simp only [Bool.and_eq_false_iff, decide_eq_false_iff_not] at c62; omega
                refine cw_exit ?_
                refine qw_then_exit ?_
                refine qw_then_exit ?_
                refine qw_block_exit ?_
                refine qw_seq ?_
                refine cw_seq ?_
                refine cw_cut1 76 (.bool (decide ((k : Int) < (zs.length : Int)) && decide (zs.getD k 0 = (numB (((d.drop i).drop 2).take 8)).1))) ?_ ?_
                ·
                  refine cw_region ?_
                  refine ow_val rfl rfl (ex_move rfl) ?_
                  refine ow_val rfl rfl (ex_move rfl) ?_
                  refine ow_val rfl rfl (ex_len (ty := 0) rfl) ?_
                  refine ow_val rfl rfl (ex_lss rfl rfl) ?_
                  refine ow_val rfl rfl (ex_move rfl) ?_
                  refine ow_split (g := some (4, true)) rfl (fun s69 => ?_) (fun s69 => ?_)
                  ·
                    have hk0 : k < zs.length := by have := of_decide_eq_true s69; omega
                    obtain ⟨ba, oa, rfl, hca⟩ := hsz.resolve_left (fun hz => by subst hz; simp at hk0)
                    refine ow_val rfl (gd_go rfl s69) (ex_move rfl) ?_
                    refine ow_val rfl (gd_go rfl s69) (ex_move rfl) ?_
                    refine ow_val rfl (gd_go rfl s69) (ex_index_nat (i := k) rfl rfl (by omega)) ?_
                    refine ow_val rfl (gd_go rfl s69) (ex_load1 rfl (ld_imm1 (hca.intD (i := k) (by omega)))) ?_
                    refine ow_val rfl (gd_go rfl s69) (ex_move rfl) ?_
                    refine ow_val rfl (gd_go rfl s69) (ex_eql rfl rfl) ?_
                    refine ow_val rfl rfl (ex_pickt rfl s69 rfl) ?_
                    refine ow_nil ?_
                    exact qw_meet (subL_meet 12 76 (lkv rfl (by first | rfl | (have q9 : decide ((k : Int) < (zs.length : Int)) = false := s69; rw [q9]; rfl) | (have q9 : decide ((k : Int) < (zs.length : Int)) = true := s69; rw [q9]; rfl))) rfl rfl) (fun w h => h)
                  ·
                    refine ow_skip rfl (gd_no rfl s69) ?_
                    refine ow_skip rfl (gd_no rfl s69) ?_
                    refine ow_skip rfl (gd_no rfl s69) ?_
                    refine ow_skip rfl (gd_no rfl s69) ?_
                    refine ow_skip rfl (gd_no rfl s69) ?_
                    refine ow_skip rfl (gd_no rfl s69) ?_
                    refine ow_val rfl rfl (ex_pickf rfl s69 rfl) ?_
                    refine ow_nil ?_
                    exact qw_meet (subL_meet 12 76 (lkv rfl (by first | rfl | (have q9 : decide ((k : Int) < (zs.length : Int)) = false := s69; rw [q9]; rfl) | (have q9 : decide ((k : Int) < (zs.length : Int)) = true := s69; rw [q9]; rfl))) rfl rfl) (fun w h => h)
                ·
                  refine cw_cond rfl (fun c76 => ?_) (fun c76 => ?_)
                  ·
                    simp only [Bool.and_eq_true, decide_eq_true_eq] at c76
                    have hin : (numB (((d.drop i).drop 2).take 8)).1 ∈ zs := by
                      rw [← c76.2, List.getD_eq_getElem?_getD, List.getElem?_eq_getElem (by omega)]; exact List.getElem_mem _
                    refine cw_exit ?_
                    refine qw_then_exit ?_
                    refine qw_block_exit ?_
                    refine qw_seq ?_
                    refine cw_region ?_
                    refine ow_val rfl rfl (ex_move rfl) ?_
                    refine ow_val rfl rfl (ex_addi (z := ((i + 1 : Nat) : Int)) rfl rfl (by omega) (by omega) (by omega)) ?_
                    refine ow_val rfl rfl (ex_assign rfl) ?_
                    refine ow_nil ?_
                    exact qw_round5 (i + 1) zs q cz τ (by omega) (subL_cons (lkv rfl (by first | rfl | simp)) (subL_cons (lkv rfl (by first | rfl | simp)) (subL_cons (lkv rfl (by first | rfl | simp)) (subL_cons (lkv rfl (by first | rfl | simp)) (subL_nil _))))) ⟨by omega, hlj, hfj, hcz, hsz, hpw, by
                      intro x
                      rw [← hmem x, hmh, show (d.drop i).drop 1 = d.drop (i + 1) from by rw [List.drop_drop], List.mem_cons]
                      constructor
                      · rintro (h | h)
                        · exact .inl h
                        · exact .inr (.inr h)
                      · rintro (h | h | h)
                        · exact .inl h
                        · exact .inl (h ▸ hin)
                        · exact .inr h⟩ (fun w h => h)
                  ·
                    have hins := ins_facts hpw hlek hge hlt (fun hc => by rw [decide_eq_true (show (k : Int) < (zs.length : Int) by omega), decide_eq_true hc.2] at c76; cases c76)
                    refine cw_skip ?_
                    refine qw_seq ?_
                    refine cw_seq ?_
                    refine cw_region ?_
                    refine ow_slit rfl rfl exw_slit0 ?_; intro b77
                    refine ow_mono (fun w h => h.toG) ?_
                    refine ow_val rfl rfl (ex_move rfl) ?_
                    refine ow_val rfl rfl (ex_move rfl) ?_
                    refine ow_val rfl rfl (ex_slice_hi (j := k) rfl rfl (by omega)) ?_
                    refine ow_app1 rfl rfl (exw_append1 (news := (intsV zs).take (k * 1)) rfl rfl (OwnSl.lit0 3 1 b77) (by rw [List.length_take, intsV_len]; omega) ?_ (fun u hu => intsV_one u (List.mem_of_mem_take hu)) (by unfold maxLen; omega) (by omega)) (fun v81 G81 hO81 hz81 => ?_)
                    · rcases hsz with h0 | ⟨b, f, hp, hca⟩
                      · left; subst h0; simp at hlek; exact hlek
                      · right; exact ⟨b, f, hp, fun w h => (hca.take _).range h.im⟩
                    refine ow_val rfl rfl (ex_assign rfl) ?_
                    refine ow_nil ?_
                    refine qw_seq ?_
                    refine cw_seq ?_
                    refine cw_region ?_
                    refine ow_val rfl rfl (ex_move rfl) ?_
                    refine ow_val rfl rfl (ex_move rfl) ?_
                    refine ow_slit rfl rfl (exw_slit1 rfl rfl) ?_; intro b84
                    refine ow_app1 rfl rfl (exw_append1 (news := [.int .i64 (numB (((d.drop i).drop 2).take 8)).1]) rfl rfl hO81 rfl (.inr ⟨_, _, rfl, (ld_ownN (k := 1) 0 rfl rfl).2⟩) (fun u hu => by simp at hu; subst hu; rfl) (by unfold maxLen; omega) (by omega)) (fun v85 G85 hO85 hz85 => ?_)
                    refine ow_val rfl rfl (ex_assign rfl) ?_
                    refine ow_nil ?_
                    refine qw_seq ?_
                    refine cw_region ?_
                    refine ow_val rfl rfl (ex_move rfl) ?_
                    refine ow_val rfl rfl (ex_move rfl) ?_
                    refine ow_val rfl rfl (ex_move rfl) ?_
                    refine ow_val rfl rfl (ex_slice_lo (i := k) rfl rfl (by omega) hcz) ?_
                    refine ow_app1 rfl rfl (exw_append1 (news := (intsV zs).drop (k * 1)) rfl rfl hO85 (by rw [List.length_drop, intsV_len]; omega) ?_ (fun u hu => intsV_one u (List.mem_of_mem_drop hu)) (by unfold maxLen; omega) (by omega)) (fun v90 G90 hO90 hz90 => ?_)
                    · rcases hsz with h0 | ⟨b, f, hp, hca⟩
                      · left; subst h0; simp
                      · by_cases hlast : zs.length - k = 0
                        · exact .inl hlast
                        · right; rw [if_neg (by omega), hp]; exact ⟨b, f + k * 1, by simp [addr_add], fun w h => (hca.drop _).range h.im⟩
                    have hO90' : OwnSl 3 1 v90 (0 + k + 1 + (zs.length - k)) (intsV (zs.take k ++ [(numB (((d.drop i).drop 2).take 8)).1] ++ zs.drop k)) G90 := by
                      have e9 : intsV (zs.take k ++ [(numB (((d.drop i).drop 2).take 8)).1] ++ zs.drop k) = [] ++ (intsV zs).take (k * 1) ++ [.int .i64 (numB (((d.drop i).drop 2).take 8)).1] ++ (intsV zs).drop (k * 1) := by simp [intsV]
                      rw [e9]; exact hO90
                    refine ow_frzI (fun _ h => h) hO90' (fun σ6 hl6 hf6 hi6 => ?_)
                    obtain ⟨q6, c6, rfl, hcz6, hsz6⟩ := hi6
                    refine ow_val rfl rfl (ex_assign rfl) ?_
                    refine ow_nil ?_
                    refine qw_block_normal ?_
                    refine qw_seq ?_
                    refine cw_region ?_
                    refine ow_val rfl rfl (ex_move rfl) ?_
                    refine ow_val rfl rfl (ex_addi (z := ((i + 1 : Nat) : Int)) rfl rfl (by omega) (by omega) (by omega)) ?_
                    refine ow_val rfl rfl (ex_assign rfl) ?_
                    refine ow_nil ?_
                    exact qw_round5 (i + 1) (zs.take k ++ [(numB (((d.drop i).drop 2).take 8)).1] ++ zs.drop k) q6 c6 σ6 (by omega) (subL_cons (lkv rfl (by first | rfl | simp)) (subL_cons (lkv rfl (by first | rfl | simp)) (subL_cons (lkv rfl (by first | rfl | simp)) (subL_cons (lkv rfl (by first | rfl | simp)) (subL_nil _))))) ⟨by omega, hlj.trans hl6, hfj.trans hf6, hcz6, hsz6, hins.1, by
                      intro x
                      rw [← hmem x, hmh, show (d.drop i).drop 1 = d.drop (i + 1) from by rw [List.drop_drop], List.mem_cons, hins.2]
                      constructor
                      · rintro ((h | h) | h)
                        · exact .inr (.inl h)
                        · exact .inl h
                        · exact .inr (.inr h)
                      · rintro (h | h | h)
                        · exact .inl (.inr h)
                        · exact .inl (.inl h)
                        · exact .inr h⟩ (fun w h => h.drop (List.nil_sublist _))
  ·
    have h10 : d.length < i + 10 := by have := of_decide_eq_false c15; omega
    refine cw_exit ?_
    refine qw_then_exit ?_
    refine qw_then_exit ?_
    refine qw_block_exit ?_
    refine qw_seq ?_
    refine cw_seq ?_
    refine cw_region ?_
    refine ow_val rfl rfl (ex_move rfl) ?_
    refine ow_val rfl rfl (ex_assign rfl) ?_
    refine ow_nil ?_
    refine qw_seq ?_
    refine cw_ret ?_
    refine qw_ret1 rfl rfl (fun w' h => h.gives hlj hfj ?_)
    rw [← mentS_is hpw (fun x => by rw [← hmem x, mentL_short (by rw [List.length_drop]; omega)]; simp)]
    exact ⟨_, _, rfl, hcz, hsz⟩
end Go.Proofs.YtnjomdjkbbhdoaaGreatDoor
namespace Go.Proofs.YtnjomdjkbbhdoaaGreatDoor
open Go.RowKit
set_option linter.unusedVariables false
set_option linter.unusedSimpArgs false
set_option maxRecDepth 100000
theorem atomC {num : Int} (h : -9223372036854775808 ≤ num ∧ num ≤ 9223372036854775807) {σ : Hp} : TermC σ [.int .i64 1, .int .i64 num, .slice none 0 0, .slice none 0 0] (.mk 1 num [] []) := TermC.mk (by omega) h (BytesV.nil σ) (KidsV.nil σ)
theorem atom_key {num : Int} (h : -9223372036854775808 ≤ num ∧ num ≤ 9223372036854775807) : (keyB (.mk 1 num [] [])).length ≤ 140737488355328 := Nat.le_trans (keyB_bulk' _ (atomC (σ := fun _ => none) h)) (by simp [bulkT, bulkTs])
set_option maxHeartbeats 2000000 in
theorem pNamed {b : Nat} {ts : List T} {n : Int} {σ : Hp} {K : List (Nat × Obj)} {w : World} (hi : Has σ K w) (hv : VaultK 80 32 b ts σ K) : Calls Tryz.prog 43 #[.pointer (some ⟨b, 0, none⟩), .int .i64 n] w fun e w' => e = .returned (.bool (namedB ts n)) ∧ Below w.heap.size w w' := by
  obtain ⟨hI, hfew⟩ := hv.nd
  refine enter (St w (fun _ => False) (exts σ K) [] []) Tryz.func43 rfl Tryz.ntmps43 rfl (St.start hi.exts) ?_
  refine cw_seq ?_
  refine cw_region ?_
  refine ow_val rfl rfl (ex_assign rfl) ?_
  refine ow_nil ?_
  refine qw_seq ?_
  refine cw_seq ?_
  refine cw_seq ?_
  refine cw_region ?_
  refine ow_val rfl rfl (ex_assign rfl) ?_
  refine ow_nil ?_
  refine qw_seq ?_
  refine cw_block ?_
  refine cw_loop2 (fun (i : Nat) (τ : Hp) => [(0, .pointer (some ⟨b, 0, none⟩)), (1, .int .i64 n), (5, .int .i64 (i : Int))]) (fun i τ => i ≤ ts.length ∧ Le (exts σ K) τ ∧ ∀ j (h : j < ts.length), j < i → ts[j].op = 4 → n ∉ mentS ts[j].data (j : Int)) (fun i τ => τ) (fun i τ => []) (fun i _ => ts.length - i) 0 (exts σ K) (subL_cons (lkv rfl (by first | rfl | simp)) (subL_cons (lkv rfl (by first | rfl | simp)) (subL_cons (lkv rfl (by first | rfl | simp)) (subL_nil _)))) ⟨Nat.zero_le _, Le.refl _, fun j _ h => absurd h (Nat.not_lt_zero _)⟩ (fun w h => h) ?_
  intro i τj ⟨hlei, hlj, hno⟩
  refine cw_seq ?_
  refine cw_seq ?_
  refine cw_region ?_
  refine ow_val rfl rfl (ex_move rfl) ?_
  refine ow_val rfl rfl (ex_move rfl) ?_
  refine ow_cv rfl rfl (ex_callf rfl (fun w h => callB ((pLenK (hi.of_im h.im hlj) hv)))) ?_
  refine ow_val rfl rfl (ex_lss rfl rfl) ?_
  refine ow_nil ?_
  refine qw_seq ?_
  refine cw_cond rfl (fun c11 => ?_) (fun c11 => ?_)
  ·
    have hil : i < ts.length := by have := of_decide_eq_true c11; omega
    have hsh := hI.shapeAt hil
    have etv : termV ts (i : Int) = (ts[i], true) := by
      unfold termV
      rw [if_pos (by omega)]
      simp [List.getD_eq_getElem?_getD, hil]
    refine cw_skip ?_
    refine qw_seq ?_
    refine cw_seq ?_
    refine cw_block ?_
    refine cw_seq ?_
    refine cw_region ?_
    refine ow_val rfl rfl (ex_move rfl) ?_
    refine ow_val rfl rfl (ex_move rfl) ?_
    refine ow_crsF rfl rfl (hi.le.trans hlj) (ex_callf rfl (fun w h => callR (pTerm (hi.of_im h.im hlj) hv))) (fun v17 τ25 τ5 hl25 hf25 hr25 hlk hfk hle25 => ?_)
    rw [etv] at hr25
    obtain ⟨c25, rfl, ht25⟩ := hr25
    have ht25 : TermC τ5 c25 ts[i] := ht25.le hle25
    have ht25' := ht25
    obtain ⟨d25, k25, rfl, ho25, hn25, hd25, hk25⟩ := ht25'.opn
    refine ow_val rfl rfl (ex_move rfl) ?_
    refine ow_val rfl rfl (ex_extract rfl rfl) ?_
    refine ow_val rfl rfl (ex_extract rfl rfl) ?_
    refine ow_blk rfl rfl exw_alloc ?_; intro b6
    refine ow_u rfl (exu_storeN 0 rfl rfl rfl rfl ht25.one rfl) ?_
    refine ow_frzO (fun _ h => h) (fun τ6 hl6 hf6 hb6 => ?_)
    have hc6 : CellsAt τ6 b6 0 [.int .i64 ts[i].op, .int .i64 ts[i].num, d25, k25] := CellsAt.took (k := 4) hb6 rfl
    have hd6 := hd25.le hl6
    have hk6 := hk25.le hl6
    obtain ⟨pd6, cd6, rfl, _, _⟩ := hd6.slice
    obtain ⟨pk6, ck6, rfl, hck6, _⟩ := hk6.slice
    refine ow_val rfl rfl (ex_assign rfl) ?_
    refine ow_nil ?_
    refine qw_seq ?_
    refine cw_seq ?_
    refine cw_region ?_
    refine ow_val rfl rfl (ex_field rfl) ?_
    refine ow_val rfl rfl (ex_load1 rfl (ld_imm1 (hc6.fld (i := 0) rfl))) ?_
    refine ow_val rfl rfl (ex_eql rfl rfl) ?_
    refine ow_val rfl rfl (ex_move rfl) ?_
    refine ow_split (g := some (3, true)) rfl (fun s23 => ?_) (fun s23 => ?_)
    ·
      have q4 := of_decide_eq_true s23
      refine ow_val rfl (gd_go rfl s23) (ex_field rfl) ?_
      refine ow_val rfl (gd_go rfl s23) (ex_load1 rfl (ld_imm1 (hc6.fld (i := 2) rfl))) ?_
      refine ow_val rfl (gd_go rfl s23) (ex_move rfl) ?_
      refine ow_cr rfl (gd_go rfl s23) (ex_callf rfl (fun w h => callR (rMentions h.im hd6 (by omega)))) (fun v27 τ7 hl7 hf7 hr7 => ?_)
      have hml := mentS_len ts[i].data (i : Int)
      have hr7' := hr7
      obtain ⟨p7, c7, rfl, _, _⟩ := hr7'
      refine ow_val rfl (gd_go rfl s23) (ex_move rfl) ?_
      refine ow_cv rfl (gd_go rfl s23) (ex_callf rfl (fun w h => callB ((pHas h.im hr7 (by omega))))) ?_
      refine ow_val rfl rfl (ex_pickt rfl s23 rfl) ?_
      refine ow_nil ?_
      refine qw_seq ?_
      refine cw_cond rfl (fun c30 => ?_) (fun c30 => ?_)
      ·
        refine cw_seq ?_
        refine cw_region ?_
        refine ow_val rfl rfl (ex_assign rfl) ?_
        refine ow_nil ?_
        refine qw_seq ?_
        refine cw_ret ?_
        refine qw_block_ret ?_
        refine qw_then_ret ?_
        refine qw_then_ret ?_
        refine qw_block_ret ?_
        refine qw_then_ret ?_
        refine qw_ret1 rfl rfl (fun w' h => ⟨congrArg (fun z => Ending.returned (.bool z)) ?_, h.ag.below⟩)
        exact (namedB_true hil q4 (of_decide_eq_true c30)).symm
      ·
        refine cw_skip ?_
        refine qw_block_normal ?_
        refine qw_seq ?_
        refine cw_region ?_
        refine ow_val rfl rfl (ex_move rfl) ?_
        refine ow_val rfl rfl (ex_addi (z := ((i + 1 : Nat) : Int)) rfl rfl (by omega) (by omega) (by omega)) ?_
        refine ow_val rfl rfl (ex_assign rfl) ?_
        refine ow_nil ?_
        exact qw_round2 (i + 1) τ7 (by omega) (subL_cons (lkv rfl (by first | rfl | simp)) (subL_cons (lkv rfl (by first | rfl | simp)) (subL_cons (lkv rfl (by first | rfl | simp)) (subL_nil _)))) ⟨by omega, hlj.trans (hlk.trans (hl6.trans hl7)), fun j hj hji ho => by
          by_cases e : j = i
          · subst e; exact of_decide_eq_false c30
          · exact hno j hj (by omega) ho⟩ (fun w h => h)
    ·
      have q4 := of_decide_eq_false s23
      refine ow_skip rfl (gd_no rfl s23) ?_
      refine ow_skip rfl (gd_no rfl s23) ?_
      refine ow_skip rfl (gd_no rfl s23) ?_
      refine ow_skip rfl (gd_no rfl s23) ?_
      refine ow_skip rfl (gd_no rfl s23) ?_
      refine ow_skip rfl (gd_no rfl s23) ?_
      refine ow_val rfl rfl (ex_pickf rfl s23 rfl) ?_
      refine ow_nil ?_
      refine qw_seq ?_
      refine cw_cond_f rfl ?_
      refine cw_skip ?_
      refine qw_block_normal ?_
      refine qw_seq ?_
      refine cw_region ?_
      refine ow_val rfl rfl (ex_move rfl) ?_
      refine ow_val rfl rfl (ex_addi (z := ((i + 1 : Nat) : Int)) rfl rfl (by omega) (by omega) (by omega)) ?_
      refine ow_val rfl rfl (ex_assign rfl) ?_
      refine ow_nil ?_
      exact qw_round2 (i + 1) τ6 (by omega) (subL_cons (lkv rfl (by first | rfl | simp)) (subL_cons (lkv rfl (by first | rfl | simp)) (subL_cons (lkv rfl (by first | rfl | simp)) (subL_nil _)))) ⟨by omega, hlj.trans (hlk.trans hl6), fun j hj hji ho => by
        by_cases e : j = i
        · subst e; exact absurd ho q4
        · exact hno j hj (by omega) ho⟩ (fun w h => h)
  ·
    refine cw_exit ?_
    refine qw_then_exit ?_
    refine qw_then_exit ?_
    refine qw_block_exit ?_
    refine qw_seq ?_
    refine cw_seq ?_
    refine cw_region ?_
    refine ow_val rfl rfl (ex_assign rfl) ?_
    refine ow_nil ?_
    refine qw_seq ?_
    refine cw_ret ?_
    refine qw_ret1 rfl rfl (fun w' h => ⟨congrArg (fun z => Ending.returned (.bool z)) ?_, h.ag.below⟩)
    exact (namedB_none (fun j hj ho => hno j hj (by have := of_decide_eq_false c11; omega) ho)).symm
set_option maxHeartbeats 4000000 in
theorem lawSecrets (ks : List T) (known : List Int) (num : Int) (hnum : -9223372036854775808 ≤ num ∧ num ≤ 9223372036854775807) {v kv : Value} {σ : Hp} {w : World} (hi : Imm σ w) (htab : TabC Tryz.prog σ) (hl : KidsV σ v ks) (hk : IntsV σ kv known) : Calls Tryz.prog 8 #[v, kv, .int .i64 num] w fun e w' => e = .returned (.bool true) ∧ Below w.heap.size w w' := by
  have hk0 := hk
  obtain ⟨pk, ck, rfl, hck, hsk⟩ := hk
  refine enter (St w (fun _ => False) σ [] []) Tryz.func8 rfl Tryz.ntmps8 rfl (St.start hi) ?_
  refine cw_seq ?_
  refine cw_region ?_
  refine ow_val rfl rfl (ex_assign rfl) ?_
  refine ow_nil ?_
  refine qw_seq ?_
  refine cw_seq ?_
  refine cw_region ?_
  refine ow_cv rfl rfl (ex_callf rfl (fun w h => callB ((pHead8 h.im htab)))) ?_
  refine ow_val rfl rfl (ex_assign rfl) ?_
  refine ow_nil ?_
  refine qw_seq ?_
  refine cw_seq ?_
  refine cw_region ?_
  refine ow_val rfl rfl (ex_move rfl) ?_
  refine ow_ck0E rfl rfl (ex_callf rfl (fun w h => pBothL ks h.im htab hl)) (fun v23 σ4 K4 hl4 hf4 hr4 => ?_)
  obtain ⟨pv, pd, ok, rfl, hok⟩ := bothR hr4
  refine ow_val rfl rfl (ex_move rfl) ?_
  refine ow_val rfl rfl (ex_extract rfl rfl) ?_
  refine ow_val rfl rfl (ex_extract rfl rfl) ?_
  refine ow_val rfl rfl (ex_extract rfl rfl) ?_
  refine ow_val rfl rfl (ex_assign rfl) ?_
  refine ow_val rfl rfl (ex_assign rfl) ?_
  refine ow_val rfl rfl (ex_assign rfl) ?_
  refine ow_nil ?_
  refine qw_seq ?_
  refine cw_seq ?_
  refine cw_seq ?_
  refine cw_region ?_
  refine ow_val rfl rfl (ex_move rfl) ?_
  refine ow_val rfl rfl (ex_not rfl) ?_
  refine ow_val rfl rfl (ex_move rfl) ?_
  refine ow_split (g := some (2, false)) rfl (fun s29 => ?_) (fun s29 => ?_)
  ·
    refine ow_skip rfl (gd_no rfl s29) ?_
    refine ow_skip rfl (gd_no rfl s29) ?_
    refine ow_skip rfl (gd_no rfl s29) ?_
    refine ow_val rfl rfl (ex_pickt rfl s29 rfl) ?_
    refine ow_nil ?_
    refine qw_seq ?_
    refine cw_cond_t rfl ?_
    refine cw_seq ?_
    refine cw_region ?_
    refine ow_val rfl rfl (ex_move rfl) ?_
    refine ow_val rfl rfl (ex_assign rfl) ?_
    refine ow_nil ?_
    refine qw_seq ?_
    refine cw_ret ?_
    refine qw_then_ret ?_
    refine qw_ret1 rfl rfl (fun w' h => ⟨congrArg (fun z => Ending.returned (.bool z)) ?_, h.ag.below⟩)
    rfl
  ·
    have hok1 : ok = true := by simpa using s29
    obtain ⟨bv, bd, Kv, Kd, ts, rfl, rfl, rfl, hv4, hd4⟩ := hok hok1
    subst hok1
    refine ow_val rfl (gd_go rfl s29) (ex_move rfl) ?_
    refine ow_val rfl (gd_go rfl s29) (ex_len (ty := 0) rfl) ?_
    refine ow_val rfl (gd_go rfl s29) (ex_gtr rfl rfl) ?_
    refine ow_val rfl rfl (ex_pickf rfl s29 rfl) ?_
    refine ow_nil ?_
    refine qw_seq ?_
    refine cw_cond rfl (fun c33 => ?_) (fun c33 => ?_)
    ·
      refine cw_seq ?_
      refine cw_region ?_
      refine ow_val rfl rfl (ex_move rfl) ?_
      refine ow_val rfl rfl (ex_assign rfl) ?_
      refine ow_nil ?_
      refine qw_seq ?_
      refine cw_ret ?_
      refine qw_then_ret ?_
      refine qw_ret1 rfl rfl (fun w' h => ⟨congrArg (fun z => Ending.returned (.bool z)) ?_, h.ag.below⟩)
      rfl
    ·
      refine cw_skip ?_
      refine qw_seq ?_
      refine cw_seq ?_
      have hkl : known.length ≤ 500 := by have := of_decide_eq_false c33; omega
      have htab4 := htab.le hl4
      have hk4 := hk0.le hl4
      obtain ⟨hI, hfew⟩ := hv4.nd
      refine cw_mono (fun w h => h.dropG (List.sublist_append_left _ _)) ?_
      refine cw_region ?_
      refine ow_val rfl rfl (ex_move rfl) ?_
      refine ow_val rfl rfl (ex_move rfl) ?_
      refine ow_val rfl rfl (ex_build (parts := [(0, _), (1, _)]) (cells := #[.int .i64 1, .int .i64 num, .slice none 0 0, .slice none 0 0]) rfl (by kernel_rfl)) ?_
      refine ow_cv rfl rfl (ex_callf rfl (fun w h => callB ((pFindK (T.mk 1 num [] []) h.hasE htab4 hv4 (atomC hnum) (atom_key hnum))))) ?_
      refine ow_val rfl rfl (ex_move rfl) ?_
      refine ow_val rfl rfl (ex_extract rfl rfl) ?_
      refine ow_val rfl rfl (ex_extract rfl rfl) ?_
      refine ow_val rfl rfl (ex_assign rfl) ?_
      refine ow_val rfl rfl (ex_assign rfl) ?_
      refine ow_nil ?_
      refine qw_seq ?_
      refine cw_seq ?_
      refine cw_seq ?_
      refine cw_region ?_
      refine ow_val rfl rfl (ex_move rfl) ?_
      refine ow_val rfl rfl (ex_not rfl) ?_
      refine ow_val rfl rfl (ex_move rfl) ?_
      refine ow_split (g := some (2, false)) rfl (fun s44 => ?_) (fun s44 => ?_)
      ·
        refine ow_skip rfl (gd_no rfl s44) ?_
        refine ow_skip rfl (gd_no rfl s44) ?_
        refine ow_skip rfl (gd_no rfl s44) ?_
        refine ow_val rfl rfl (ex_pickt rfl s44 rfl) ?_
        refine ow_nil ?_
        refine qw_seq ?_
        refine cw_cond_t rfl ?_
        refine cw_seq ?_
        refine cw_region ?_
        refine ow_val rfl rfl (ex_move rfl) ?_
        refine ow_val rfl rfl (ex_assign rfl) ?_
        refine ow_nil ?_
        refine qw_seq ?_
        refine cw_ret ?_
        refine qw_then_ret ?_
        refine qw_ret1 rfl rfl (fun w' h => ⟨congrArg (fun z => Ending.returned (.bool z)) ?_, h.ag.below⟩)
        rfl
      ·
        have hx0 : 0 ≤ (posT ts (T.mk 1 num [] [])) := by simpa using s44
        refine ow_val rfl (gd_go rfl s44) (ex_move rfl) ?_
        refine ow_val rfl (gd_go rfl s44) (ex_move rfl) ?_
        refine ow_cv rfl (gd_go rfl s44) (ex_callf rfl (fun w h => callB ((pHas h.im hk4 (by omega))))) ?_
        refine ow_val rfl rfl (ex_pickf rfl s44 rfl) ?_
        refine ow_nil ?_
        refine qw_seq ?_
        refine cw_cond rfl (fun c48 => ?_) (fun c48 => ?_)
        ·
          refine cw_seq ?_
          refine cw_region ?_
          refine ow_val rfl rfl (ex_move rfl) ?_
          refine ow_val rfl rfl (ex_assign rfl) ?_
          refine ow_nil ?_
          refine qw_seq ?_
          refine cw_ret ?_
          refine qw_then_ret ?_
          refine qw_ret1 rfl rfl (fun w' h => ⟨congrArg (fun z => Ending.returned (.bool z)) ?_, h.ag.below⟩)
          rfl
        ·
          have hkx : (posT ts (T.mk 1 num [] [])) ∉ known := of_decide_eq_false c48
          refine cw_skip ?_
          refine qw_seq ?_
          refine cw_seq ?_
          refine cw_seq ?_
          refine cw_region ?_
          refine ow_val rfl rfl (ex_assign rfl) ?_
          refine ow_nil ?_
          refine qw_seq ?_
          refine cw_block ?_
          refine cw_loop2 (fun (i : Nat) (τ : Hp) => [(1, .slice pk known.length ck), (2, .int .i64 num), (7, .bool true), (8, .pointer (some ⟨bv, 0, none⟩)), (11, .int .i64 (posT ts (T.mk 1 num [] []))), (13, .int .i64 (i : Int))]) (fun i τ => i ≤ ts.length ∧ Le σ4 τ ∧ ∀ j (h : j < ts.length), j < i → ts[j].op = 4 → (posT ts (T.mk 1 num [] [])) ∉ mentS ts[j].data (j : Int)) (fun i τ => τ) (fun i τ => Kv) (fun i _ => ts.length - i) 0 σ4 (subL_cons (lkv rfl (by first | rfl | simp)) (subL_cons (lkv rfl (by first | rfl | simp)) (subL_cons (lkv rfl (by first | rfl | simp)) (subL_cons (lkv rfl (by first | rfl | simp)) (subL_cons (lkv rfl (by first | rfl | simp)) (subL_cons (lkv rfl (by first | rfl | simp)) (subL_nil _))))))) ⟨Nat.zero_le _, Le.refl _, fun j _ h => absurd h (Nat.not_lt_zero _)⟩ (fun w h => h) ?_
          intro i τj ⟨hlei, hlj, hno⟩
          refine cw_seq ?_
          refine cw_seq ?_
          refine cw_region ?_
          refine ow_val rfl rfl (ex_move rfl) ?_
          refine ow_val rfl rfl (ex_move rfl) ?_
          refine ow_cv rfl rfl (ex_callf rfl (fun w h => callB ((pLenK h.hasE (hv4.le hlj))))) ?_
          refine ow_val rfl rfl (ex_lss rfl rfl) ?_
          refine ow_nil ?_
          refine qw_seq ?_
          refine cw_cond rfl (fun c53 => ?_) (fun c53 => ?_)
          ·
            have hil : i < ts.length := by have := of_decide_eq_true c53; omega
            have hsh := hI.shapeAt hil
            have etv : termV ts (i : Int) = (ts[i], true) := by
              unfold termV
              rw [if_pos (by omega)]
              simp [List.getD_eq_getElem?_getD, hil]
            refine cw_skip ?_
            refine qw_seq ?_
            refine cw_seq ?_
            refine cw_block ?_
            refine cw_seq ?_
            refine cw_region ?_
            refine ow_val rfl rfl (ex_move rfl) ?_
            refine ow_val rfl rfl (ex_move rfl) ?_
            refine ow_cr rfl rfl (ex_callf rfl (fun w h => callR (pTerm h.hasE (hv4.le hlj)))) (fun v59 τ5 hlk hfk hr25 => ?_)
            rw [etv] at hr25
            obtain ⟨c25, rfl, ht25⟩ := hr25
            have ht25 : TermC τ5 c25 ts[i] := ht25
            have ht25' := ht25
            obtain ⟨d25, k25, rfl, ho25, hn25, hd25, hk25⟩ := ht25'.opn
            refine ow_val rfl rfl (ex_move rfl) ?_
            refine ow_val rfl rfl (ex_extract rfl rfl) ?_
            refine ow_val rfl rfl (ex_extract rfl rfl) ?_
            refine ow_blk rfl rfl exw_alloc ?_; intro b14
            refine ow_u rfl (exu_storeN 0 rfl rfl rfl rfl ht25.one rfl) ?_
            refine ow_frzO (fun _ h => h) (fun τ6 hl6 hf6 hb6 => ?_)
            have hc14 : CellsAt τ6 b14 0 [.int .i64 ts[i].op, .int .i64 ts[i].num, d25, k25] := CellsAt.took (k := 4) hb6 rfl
            have hd6 := hd25.le hl6
            have hk6 := hk25.le hl6
            obtain ⟨pd6, cd6, rfl, _, _⟩ := hd6.slice
            obtain ⟨pk6, ck6, rfl, hck6, _⟩ := hk6.slice
            refine ow_val rfl rfl (ex_assign rfl) ?_
            refine ow_nil ?_
            refine qw_seq ?_
            refine cw_seq ?_
            refine cw_region ?_
            refine ow_val rfl rfl (ex_field rfl) ?_
            refine ow_val rfl rfl (ex_load1 rfl (ld_imm1 (hc14.fld (i := 0) rfl))) ?_
            refine ow_val rfl rfl (ex_eql rfl rfl) ?_
            refine ow_val rfl rfl (ex_move rfl) ?_
            refine ow_split (g := some (3, true)) rfl (fun s65 => ?_) (fun s65 => ?_)
            ·
              have q4 := of_decide_eq_true s65
              refine ow_val rfl (gd_go rfl s65) (ex_field rfl) ?_
              refine ow_val rfl (gd_go rfl s65) (ex_load1 rfl (ld_imm1 (hc14.fld (i := 2) rfl))) ?_
              refine ow_val rfl (gd_go rfl s65) (ex_move rfl) ?_
              refine ow_cr rfl (gd_go rfl s65) (ex_callf rfl (fun w h => callR (rMentions h.im hd6 (by omega)))) (fun v69 τ7 hl7 hf7 hr7 => ?_)
              have hml := mentS_len ts[i].data (i : Int)
              have hr7' := hr7
              obtain ⟨p7, c7, rfl, _, _⟩ := hr7'
              refine ow_val rfl (gd_go rfl s65) (ex_move rfl) ?_
              refine ow_cv rfl (gd_go rfl s65) (ex_callf rfl (fun w h => callB ((pHas h.im hr7 (by omega))))) ?_
              refine ow_val rfl rfl (ex_pickt rfl s65 rfl) ?_
              refine ow_nil ?_
              refine qw_seq ?_
              refine cw_cond rfl (fun c72 => ?_) (fun c72 => ?_)
              ·
                refine cw_seq ?_
                refine cw_region ?_
                refine ow_val rfl rfl (ex_move rfl) ?_
                refine ow_val rfl rfl (ex_assign rfl) ?_
                refine ow_nil ?_
                refine qw_seq ?_
                refine cw_ret ?_
                refine qw_block_ret ?_
                refine qw_then_ret ?_
                refine qw_then_ret ?_
                refine qw_block_ret ?_
                refine qw_then_ret ?_
                refine qw_ret1 rfl rfl (fun w' h => ⟨congrArg (fun z => Ending.returned (.bool z)) ?_, h.ag.below⟩)
                rfl
              ·
                refine cw_skip ?_
                refine qw_block_normal ?_
                refine qw_seq ?_
                refine cw_region ?_
                refine ow_val rfl rfl (ex_move rfl) ?_
                refine ow_val rfl rfl (ex_addi (z := ((i + 1 : Nat) : Int)) rfl rfl (by omega) (by omega) (by omega)) ?_
                refine ow_val rfl rfl (ex_assign rfl) ?_
                refine ow_nil ?_
                exact qw_round2 (i + 1) τ7 (by omega) (subL_cons (lkv rfl (by first | rfl | simp)) (subL_cons (lkv rfl (by first | rfl | simp)) (subL_cons (lkv rfl (by first | rfl | simp)) (subL_cons (lkv rfl (by first | rfl | simp)) (subL_cons (lkv rfl (by first | rfl | simp)) (subL_cons (lkv rfl (by first | rfl | simp)) (subL_nil _))))))) ⟨by omega, hlj.trans (hlk.trans (hl6.trans hl7)), fun j hj hji ho => by
                  by_cases e : j = i
                  · subst e; exact of_decide_eq_false c72
                  · exact hno j hj (by omega) ho⟩ (fun w h => h)
            ·
              have q4 := of_decide_eq_false s65
              refine ow_skip rfl (gd_no rfl s65) ?_
              refine ow_skip rfl (gd_no rfl s65) ?_
              refine ow_skip rfl (gd_no rfl s65) ?_
              refine ow_skip rfl (gd_no rfl s65) ?_
              refine ow_skip rfl (gd_no rfl s65) ?_
              refine ow_skip rfl (gd_no rfl s65) ?_
              refine ow_val rfl rfl (ex_pickf rfl s65 rfl) ?_
              refine ow_nil ?_
              refine qw_seq ?_
              refine cw_cond_f rfl ?_
              refine cw_skip ?_
              refine qw_block_normal ?_
              refine qw_seq ?_
              refine cw_region ?_
              refine ow_val rfl rfl (ex_move rfl) ?_
              refine ow_val rfl rfl (ex_addi (z := ((i + 1 : Nat) : Int)) rfl rfl (by omega) (by omega) (by omega)) ?_
              refine ow_val rfl rfl (ex_assign rfl) ?_
              refine ow_nil ?_
              exact qw_round2 (i + 1) τ6 (by omega) (subL_cons (lkv rfl (by first | rfl | simp)) (subL_cons (lkv rfl (by first | rfl | simp)) (subL_cons (lkv rfl (by first | rfl | simp)) (subL_cons (lkv rfl (by first | rfl | simp)) (subL_cons (lkv rfl (by first | rfl | simp)) (subL_cons (lkv rfl (by first | rfl | simp)) (subL_nil _))))))) ⟨by omega, hlj.trans (hlk.trans hl6), fun j hj hji ho => by
                by_cases e : j = i
                · subst e; exact absurd ho q4
                · exact hno j hj (by omega) ho⟩ (fun w h => h)
          ·
            have hmx : ∀ j (h : j < ts.length), ts[j].op = 4 → (posT ts (T.mk 1 num [] [])) ∉ mentS ts[j].data (j : Int) := fun j hj ho => hno j hj (by have := of_decide_eq_false c53; omega) ho
            refine cw_exit ?_
            refine qw_then_exit ?_
            refine qw_then_exit ?_
            refine qw_block_exit ?_
            refine qw_seq ?_
            refine cw_seq ?_
            refine cw_region ?_
            refine ow_val rfl rfl (ex_move rfl) ?_
            refine ow_val rfl rfl (ex_move rfl) ?_
            refine ow_cr rfl rfl (ex_callf rfl (fun w h => callR (pClosure h.hasE (htab4.le hlj) (hv4.le hlj) (hk4.le hlj) (by omega)))) (fun v76 σ8 hl8 hf8 hr8 => ?_)
            have hr8' := hr8
            obtain ⟨p8, c8, rfl, _, _⟩ := hr8'
            have hlc := closL_len ts known
            refine ow_val rfl rfl (ex_assign rfl) ?_
            refine ow_nil ?_
            refine qw_seq ?_
            refine cw_seq ?_
            refine cw_seq ?_
            refine cw_region ?_
            refine ow_val rfl rfl (ex_move rfl) ?_
            refine ow_val rfl rfl (ex_move rfl) ?_
            refine ow_cv rfl rfl (ex_callf rfl (fun w h => callB ((pHas h.im hr8 (by omega))))) ?_
            refine ow_nil ?_
            refine qw_seq ?_
            refine cw_cond rfl (fun c79 => ?_) (fun c79 => ?_)
            ·
              exact absurd (of_decide_eq_true c79) (secret_atom hI hx0 hmx hkx)
            ·
              refine cw_skip ?_
              refine qw_seq ?_
              refine cw_seq ?_
              refine cw_seq ?_
              refine cw_region ?_
              refine ow_val rfl rfl (ex_assign rfl) ?_
              refine ow_nil ?_
              refine qw_seq ?_
              refine cw_block ?_
              refine cw_loop2 (fun (i : Nat) (τ : Hp) => [(1, .slice pk known.length ck), (2, .int .i64 num), (7, .bool true), (8, .pointer (some ⟨bv, 0, none⟩)), (11, .int .i64 (posT ts (T.mk 1 num [] []))), (16, .slice p8 (closL (itemsT ts) known).length c8), (17, .int .i64 (i : Int))]) (fun i τ => i ≤ ts.length ∧ Le σ4 τ ∧ Le σ8 τ) (fun i τ => τ) (fun i τ => Kv) (fun i _ => ts.length - i) 0 σ8 (subL_cons (lkv rfl (by first | rfl | simp)) (subL_cons (lkv rfl (by first | rfl | simp)) (subL_cons (lkv rfl (by first | rfl | simp)) (subL_cons (lkv rfl (by first | rfl | simp)) (subL_cons (lkv rfl (by first | rfl | simp)) (subL_cons (lkv rfl (by first | rfl | simp)) (subL_cons (lkv rfl (by first | rfl | simp)) (subL_nil _)))))))) ⟨Nat.zero_le _, hlj.trans hl8, Le.refl _⟩ (fun w h => h) ?_
              clear hno hlei
              intro i τ9 ⟨hlei, hl9, hl98⟩
              refine cw_seq ?_
              refine cw_seq ?_
              refine cw_region ?_
              refine ow_val rfl rfl (ex_move rfl) ?_
              refine ow_val rfl rfl (ex_move rfl) ?_
              refine ow_cv rfl rfl (ex_callf rfl (fun w h => callB ((pLenK h.hasE (hv4.le hl9))))) ?_
              refine ow_val rfl rfl (ex_lss rfl rfl) ?_
              refine ow_nil ?_
              refine qw_seq ?_
              refine cw_cond rfl (fun c83 => ?_) (fun c83 => ?_)
              ·
                have hil : i < ts.length := by have := of_decide_eq_true c83; omega
                have hsh := hI.shapeAt hil
                have etv : termV ts (i : Int) = (ts[i], true) := by
                  unfold termV
                  rw [if_pos (by omega)]
                  simp [List.getD_eq_getElem?_getD, hil]
                refine cw_skip ?_
                refine qw_seq ?_
                refine cw_seq ?_
                refine cw_block ?_
                refine cw_seq ?_
                refine cw_region ?_
                refine ow_val rfl rfl (ex_move rfl) ?_
                refine ow_val rfl rfl (ex_move rfl) ?_
                refine ow_cr rfl rfl (ex_callf rfl (fun w h => callR (pTerm h.hasE (hv4.le hl9)))) (fun v89 τ5 hlk hfk hr25 => ?_)
                rw [etv] at hr25
                obtain ⟨c25, rfl, ht25⟩ := hr25
                have ht25 : TermC τ5 c25 ts[i] := ht25
                have ht25' := ht25
                obtain ⟨d25, k25, rfl, ho25, hn25, hd25, hk25⟩ := ht25'.opn
                refine ow_val rfl rfl (ex_move rfl) ?_
                refine ow_val rfl rfl (ex_extract rfl rfl) ?_
                refine ow_val rfl rfl (ex_extract rfl rfl) ?_
                refine ow_blk rfl rfl exw_alloc ?_; intro b18
                refine ow_u rfl (exu_storeN 0 rfl rfl rfl rfl ht25.one rfl) ?_
                refine ow_frzO (fun _ h => h) (fun τ6 hl6 hf6 hb6 => ?_)
                have hc18 : CellsAt τ6 b18 0 [.int .i64 ts[i].op, .int .i64 ts[i].num, d25, k25] := CellsAt.took (k := 4) hb6 rfl
                have hd6 := hd25.le hl6
                have hk6 := hk25.le hl6
                obtain ⟨pd6, cd6, rfl, _, _⟩ := hd6.slice
                obtain ⟨pk6, ck6, rfl, hck6, _⟩ := hk6.slice
                refine ow_val rfl rfl (ex_assign rfl) ?_
                refine ow_nil ?_
                refine qw_seq ?_
                refine cw_seq ?_
                refine cw_region ?_
                refine ow_val rfl rfl (ex_field rfl) ?_
                refine ow_val rfl rfl (ex_load1 rfl (ld_imm1 (hc18.fld (i := 0) rfl))) ?_
                refine ow_val rfl rfl (ex_eql rfl rfl) ?_
                refine ow_val rfl rfl (ex_move rfl) ?_
                refine ow_split (g := some (3, false)) rfl (fun s95 => ?_) (fun s95 => ?_)
                ·
                  refine ow_skip rfl (gd_no rfl s95) ?_
                  refine ow_skip rfl (gd_no rfl s95) ?_
                  refine ow_skip rfl (gd_no rfl s95) ?_
                  refine ow_val rfl rfl (ex_pickt rfl s95 rfl) ?_
                  refine ow_val rfl rfl (ex_move rfl) ?_
                  refine ow_skip rfl rfl ?_
                  refine ow_skip rfl rfl ?_
                  refine ow_skip rfl rfl ?_
                  refine ow_val rfl rfl (ex_pick_t rfl rfl) ?_
                  refine ow_val rfl rfl (ex_move rfl) ?_
                  refine ow_val rfl rfl (ex_field rfl) ?_
                  have hop3 : ts[i].op = 6 ∨ ts[i].op = 2 ∨ ts[i].op = 3 := by first | exact .inl (of_decide_eq_true s95) | exact .inr (.inl (of_decide_eq_true s100)) | exact .inr (.inr (of_decide_eq_true s105))
                  have hk1 := keyed_one (hI.rt _ (List.getElem_mem hil)) (by omega)
                  have hk0 : 0 < ts[i].kids.length := by omega
                  obtain ⟨bk, fk, ck', cs, e1, e2, hc1, ht1⟩ := hk6.get 0 hk0
                  cases e1
                  have ht1' := ht1
                  obtain ⟨d9, k9, rfl, _, _, _, _⟩ := ht1'.opn
                  refine ow_val rfl rfl (ex_load1 rfl (ld_imm1 (hc18.fld (i := 3) rfl))) ?_
                  refine ow_val rfl rfl (ex_index_nat (i := 0) rfl rfl hk0) ?_
                  refine ow_val rfl rfl (ex_field rfl) ?_
                  refine ow_val rfl rfl (ex_load1 rfl (ld_imm1 (hc1.fld (i := 0) rfl))) ?_
                  refine ow_val rfl rfl (ex_eql rfl rfl) ?_
                  refine ow_val rfl rfl (ex_pick_t rfl rfl) ?_
                  refine ow_val rfl rfl (ex_move rfl) ?_
                  refine ow_split (g := some (21, true)) rfl (fun s113 => ?_) (fun s113 => ?_)
                  ·
                    refine ow_val rfl (gd_go rfl s113) (ex_field rfl) ?_
                    refine ow_val rfl (gd_go rfl s113) (ex_load1 rfl (ld_imm1 (hc18.fld (i := 3) rfl))) ?_
                    refine ow_val rfl (gd_go rfl s113) (ex_index_nat (i := 0) rfl rfl hk0) ?_
                    refine ow_val rfl (gd_go rfl s113) (ex_field rfl) ?_
                    refine ow_val rfl (gd_go rfl s113) (ex_load1 rfl (ld_imm1 (hc1.fld (i := 1) rfl))) ?_
                    refine ow_val rfl (gd_go rfl s113) (ex_move rfl) ?_
                    refine ow_val rfl (gd_go rfl s113) (ex_eql rfl rfl) ?_
                    refine ow_val rfl rfl (ex_pickt rfl s113 rfl) ?_
                    refine ow_val rfl rfl (ex_move rfl) ?_
                    refine ow_split (g := some (30, true)) rfl (fun s122 => ?_) (fun s122 => ?_)
                    ·
                      refine ow_val rfl (gd_go rfl s122) (ex_move rfl) ?_
                      refine ow_val rfl (gd_go rfl s122) (ex_move rfl) ?_
                      refine ow_cv rfl (gd_go rfl s122) (ex_callf rfl (fun w h => callB ((pHas h.im (hk4.le (hl9.trans (hlk.trans hl6))) (by omega))))) ?_
                      refine ow_val rfl (gd_go rfl s122) (ex_not rfl) ?_
                      refine ow_val rfl rfl (ex_pickt rfl s122 rfl) ?_
                      refine ow_val rfl rfl (ex_move rfl) ?_
                      refine ow_split (g := some (36, true)) rfl (fun s128 => ?_) (fun s128 => ?_)
                      ·
                        refine ow_val rfl (gd_go rfl s128) (ex_move rfl) ?_
                        refine ow_val rfl (gd_go rfl s128) (ex_move rfl) ?_
                        refine ow_cv rfl (gd_go rfl s128) (ex_callf rfl (fun w h => callB ((pNamed h.hasE (hv4.le (hl9.trans (hlk.trans hl6))))))) ?_
                        refine ow_val rfl (gd_go rfl s128) (ex_not rfl) ?_
                        refine ow_val rfl rfl (ex_pickt rfl s128 rfl) ?_
                        refine ow_val rfl rfl (ex_move rfl) ?_
                        refine ow_split (g := some (42, true)) rfl (fun s134 => ?_) (fun s134 => ?_)
                        ·
                          refine ow_val rfl (gd_go rfl s134) (ex_move rfl) ?_
                          refine ow_val rfl (gd_go rfl s134) (ex_move rfl) ?_
                          refine ow_cv rfl (gd_go rfl s134) (ex_callf rfl (fun w h => callB ((pHas h.im (hr8.le (hl98.trans (hlk.trans hl6))) (by omega))))) ?_
                          refine ow_val rfl rfl (ex_pickt rfl s134 rfl) ?_
                          refine ow_nil ?_
                          refine qw_seq ?_
                          refine cw_cond rfl (fun c138 => ?_) (fun c138 => ?_)
                          ·
                            first | (cases c138; done) | exact absurd (of_decide_eq_true c138) (secret_key hI hil hx0 hop3 hk0 (of_decide_eq_true s113) (of_decide_eq_true s122) hmx (namedB_false (by simpa using s134)) hkx (by simpa using s128))
                          ·
                            refine cw_skip ?_
                            refine qw_block_normal ?_
                            refine qw_seq ?_
                            refine cw_region ?_
                            refine ow_val rfl rfl (ex_move rfl) ?_
                            refine ow_val rfl rfl (ex_addi (z := ((i + 1 : Nat) : Int)) rfl rfl (by omega) (by omega) (by omega)) ?_
                            refine ow_val rfl rfl (ex_assign rfl) ?_
                            refine ow_nil ?_
                            exact qw_round2 (i + 1) τ6 (by omega) (subL_cons (lkv rfl (by first | rfl | simp)) (subL_cons (lkv rfl (by first | rfl | simp)) (subL_cons (lkv rfl (by first | rfl | simp)) (subL_cons (lkv rfl (by first | rfl | simp)) (subL_cons (lkv rfl (by first | rfl | simp)) (subL_cons (lkv rfl (by first | rfl | simp)) (subL_cons (lkv rfl (by first | rfl | simp)) (subL_nil _)))))))) ⟨by omega, hl9.trans (hlk.trans hl6), hl98.trans (hlk.trans hl6)⟩ (fun w h => h)
                        ·
                          refine ow_skip rfl (gd_no rfl s134) ?_
                          refine ow_skip rfl (gd_no rfl s134) ?_
                          refine ow_skip rfl (gd_no rfl s134) ?_
                          refine ow_val rfl rfl (ex_pickf rfl s134 rfl) ?_
                          refine ow_nil ?_
                          refine qw_seq ?_
                          refine cw_cond_f rfl ?_
                          refine cw_skip ?_
                          refine qw_block_normal ?_
                          refine qw_seq ?_
                          refine cw_region ?_
                          refine ow_val rfl rfl (ex_move rfl) ?_
                          refine ow_val rfl rfl (ex_addi (z := ((i + 1 : Nat) : Int)) rfl rfl (by omega) (by omega) (by omega)) ?_
                          refine ow_val rfl rfl (ex_assign rfl) ?_
                          refine ow_nil ?_
                          exact qw_round2 (i + 1) τ6 (by omega) (subL_cons (lkv rfl (by first | rfl | simp)) (subL_cons (lkv rfl (by first | rfl | simp)) (subL_cons (lkv rfl (by first | rfl | simp)) (subL_cons (lkv rfl (by first | rfl | simp)) (subL_cons (lkv rfl (by first | rfl | simp)) (subL_cons (lkv rfl (by first | rfl | simp)) (subL_cons (lkv rfl (by first | rfl | simp)) (subL_nil _)))))))) ⟨by omega, hl9.trans (hlk.trans hl6), hl98.trans (hlk.trans hl6)⟩ (fun w h => h)
                      ·
                        refine ow_skip rfl (gd_no rfl s128) ?_
                        refine ow_skip rfl (gd_no rfl s128) ?_
                        refine ow_skip rfl (gd_no rfl s128) ?_
                        refine ow_skip rfl (gd_no rfl s128) ?_
                        refine ow_val rfl rfl (ex_pickf rfl s128 rfl) ?_
                        refine ow_val rfl rfl (ex_move rfl) ?_
                        refine ow_skip rfl rfl ?_
                        refine ow_skip rfl rfl ?_
                        refine ow_skip rfl rfl ?_
                        refine ow_val rfl rfl (ex_pick_f rfl rfl) ?_
                        refine ow_nil ?_
                        refine qw_seq ?_
                        refine cw_cond_f rfl ?_
                        refine cw_skip ?_
                        refine qw_block_normal ?_
                        refine qw_seq ?_
                        refine cw_region ?_
                        refine ow_val rfl rfl (ex_move rfl) ?_
                        refine ow_val rfl rfl (ex_addi (z := ((i + 1 : Nat) : Int)) rfl rfl (by omega) (by omega) (by omega)) ?_
                        refine ow_val rfl rfl (ex_assign rfl) ?_
                        refine ow_nil ?_
                        exact qw_round2 (i + 1) τ6 (by omega) (subL_cons (lkv rfl (by first | rfl | simp)) (subL_cons (lkv rfl (by first | rfl | simp)) (subL_cons (lkv rfl (by first | rfl | simp)) (subL_cons (lkv rfl (by first | rfl | simp)) (subL_cons (lkv rfl (by first | rfl | simp)) (subL_cons (lkv rfl (by first | rfl | simp)) (subL_cons (lkv rfl (by first | rfl | simp)) (subL_nil _)))))))) ⟨by omega, hl9.trans (hlk.trans hl6), hl98.trans (hlk.trans hl6)⟩ (fun w h => h)
                    ·
                      refine ow_skip rfl (gd_no rfl s122) ?_
                      refine ow_skip rfl (gd_no rfl s122) ?_
                      refine ow_skip rfl (gd_no rfl s122) ?_
                      refine ow_skip rfl (gd_no rfl s122) ?_
                      refine ow_val rfl rfl (ex_pickf rfl s122 rfl) ?_
                      refine ow_val rfl rfl (ex_move rfl) ?_
                      refine ow_skip rfl rfl ?_
                      refine ow_skip rfl rfl ?_
                      refine ow_skip rfl rfl ?_
                      refine ow_skip rfl rfl ?_
                      refine ow_val rfl rfl (ex_pick_f rfl rfl) ?_
                      refine ow_val rfl rfl (ex_move rfl) ?_
                      refine ow_skip rfl rfl ?_
                      refine ow_skip rfl rfl ?_
                      refine ow_skip rfl rfl ?_
                      refine ow_val rfl rfl (ex_pick_f rfl rfl) ?_
                      refine ow_nil ?_
                      refine qw_seq ?_
                      refine cw_cond_f rfl ?_
                      refine cw_skip ?_
                      refine qw_block_normal ?_
                      refine qw_seq ?_
                      refine cw_region ?_
                      refine ow_val rfl rfl (ex_move rfl) ?_
                      refine ow_val rfl rfl (ex_addi (z := ((i + 1 : Nat) : Int)) rfl rfl (by omega) (by omega) (by omega)) ?_
                      refine ow_val rfl rfl (ex_assign rfl) ?_
                      refine ow_nil ?_
                      exact qw_round2 (i + 1) τ6 (by omega) (subL_cons (lkv rfl (by first | rfl | simp)) (subL_cons (lkv rfl (by first | rfl | simp)) (subL_cons (lkv rfl (by first | rfl | simp)) (subL_cons (lkv rfl (by first | rfl | simp)) (subL_cons (lkv rfl (by first | rfl | simp)) (subL_cons (lkv rfl (by first | rfl | simp)) (subL_cons (lkv rfl (by first | rfl | simp)) (subL_nil _)))))))) ⟨by omega, hl9.trans (hlk.trans hl6), hl98.trans (hlk.trans hl6)⟩ (fun w h => h)
                  ·
                    refine ow_skip rfl (gd_no rfl s113) ?_
                    refine ow_skip rfl (gd_no rfl s113) ?_
                    refine ow_skip rfl (gd_no rfl s113) ?_
                    refine ow_skip rfl (gd_no rfl s113) ?_
                    refine ow_skip rfl (gd_no rfl s113) ?_
                    refine ow_skip rfl (gd_no rfl s113) ?_
                    refine ow_skip rfl (gd_no rfl s113) ?_
                    refine ow_val rfl rfl (ex_pickf rfl s113 rfl) ?_
                    refine ow_val rfl rfl (ex_move rfl) ?_
                    refine ow_skip rfl rfl ?_
                    refine ow_skip rfl rfl ?_
                    refine ow_skip rfl rfl ?_
                    refine ow_skip rfl rfl ?_
                    refine ow_val rfl rfl (ex_pick_f rfl rfl) ?_
                    refine ow_val rfl rfl (ex_move rfl) ?_
                    refine ow_skip rfl rfl ?_
                    refine ow_skip rfl rfl ?_
                    refine ow_skip rfl rfl ?_
                    refine ow_skip rfl rfl ?_
                    refine ow_val rfl rfl (ex_pick_f rfl rfl) ?_
                    refine ow_val rfl rfl (ex_move rfl) ?_
                    refine ow_skip rfl rfl ?_
                    refine ow_skip rfl rfl ?_
                    refine ow_skip rfl rfl ?_
                    refine ow_val rfl rfl (ex_pick_f rfl rfl) ?_
                    refine ow_nil ?_
                    refine qw_seq ?_
                    refine cw_cond_f rfl ?_
                    refine cw_skip ?_
                    refine qw_block_normal ?_
                    refine qw_seq ?_
                    refine cw_region ?_
                    refine ow_val rfl rfl (ex_move rfl) ?_
                    refine ow_val rfl rfl (ex_addi (z := ((i + 1 : Nat) : Int)) rfl rfl (by omega) (by omega) (by omega)) ?_
                    refine ow_val rfl rfl (ex_assign rfl) ?_
                    refine ow_nil ?_
                    exact qw_round2 (i + 1) τ6 (by omega) (subL_cons (lkv rfl (by first | rfl | simp)) (subL_cons (lkv rfl (by first | rfl | simp)) (subL_cons (lkv rfl (by first | rfl | simp)) (subL_cons (lkv rfl (by first | rfl | simp)) (subL_cons (lkv rfl (by first | rfl | simp)) (subL_cons (lkv rfl (by first | rfl | simp)) (subL_cons (lkv rfl (by first | rfl | simp)) (subL_nil _)))))))) ⟨by omega, hl9.trans (hlk.trans hl6), hl98.trans (hlk.trans hl6)⟩ (fun w h => h)
                ·
                  refine ow_val rfl (gd_go rfl s95) (ex_field rfl) ?_
                  refine ow_val rfl (gd_go rfl s95) (ex_load1 rfl (ld_imm1 (hc18.fld (i := 0) rfl))) ?_
                  refine ow_val rfl (gd_go rfl s95) (ex_eql rfl rfl) ?_
                  refine ow_val rfl rfl (ex_pickf rfl s95 rfl) ?_
                  refine ow_val rfl rfl (ex_move rfl) ?_
                  refine ow_split (g := some (8, false)) rfl (fun s100 => ?_) (fun s100 => ?_)
                  ·
                    refine ow_skip rfl (gd_no rfl s100) ?_
                    refine ow_skip rfl (gd_no rfl s100) ?_
                    refine ow_skip rfl (gd_no rfl s100) ?_
                    refine ow_val rfl rfl (ex_pickt rfl s100 rfl) ?_
                    refine ow_val rfl rfl (ex_move rfl) ?_
                    refine ow_val rfl rfl (ex_field rfl) ?_
                    have hop3 : ts[i].op = 6 ∨ ts[i].op = 2 ∨ ts[i].op = 3 := by first | exact .inl (of_decide_eq_true s95) | exact .inr (.inl (of_decide_eq_true s100)) | exact .inr (.inr (of_decide_eq_true s105))
                    have hk1 := keyed_one (hI.rt _ (List.getElem_mem hil)) (by omega)
                    have hk0 : 0 < ts[i].kids.length := by omega
                    obtain ⟨bk, fk, ck', cs, e1, e2, hc1, ht1⟩ := hk6.get 0 hk0
                    cases e1
                    have ht1' := ht1
                    obtain ⟨d9, k9, rfl, _, _, _, _⟩ := ht1'.opn
                    refine ow_val rfl rfl (ex_load1 rfl (ld_imm1 (hc18.fld (i := 3) rfl))) ?_
                    refine ow_val rfl rfl (ex_index_nat (i := 0) rfl rfl hk0) ?_
                    refine ow_val rfl rfl (ex_field rfl) ?_
                    refine ow_val rfl rfl (ex_load1 rfl (ld_imm1 (hc1.fld (i := 0) rfl))) ?_
                    refine ow_val rfl rfl (ex_eql rfl rfl) ?_
                    refine ow_val rfl rfl (ex_pick_t rfl rfl) ?_
                    refine ow_val rfl rfl (ex_move rfl) ?_
                    refine ow_split (g := some (21, true)) rfl (fun s113 => ?_) (fun s113 => ?_)
                    ·
                      refine ow_val rfl (gd_go rfl s113) (ex_field rfl) ?_
                      refine ow_val rfl (gd_go rfl s113) (ex_load1 rfl (ld_imm1 (hc18.fld (i := 3) rfl))) ?_
                      refine ow_val rfl (gd_go rfl s113) (ex_index_nat (i := 0) rfl rfl hk0) ?_
                      refine ow_val rfl (gd_go rfl s113) (ex_field rfl) ?_
                      refine ow_val rfl (gd_go rfl s113) (ex_load1 rfl (ld_imm1 (hc1.fld (i := 1) rfl))) ?_
                      refine ow_val rfl (gd_go rfl s113) (ex_move rfl) ?_
                      refine ow_val rfl (gd_go rfl s113) (ex_eql rfl rfl) ?_
                      refine ow_val rfl rfl (ex_pickt rfl s113 rfl) ?_
                      refine ow_val rfl rfl (ex_move rfl) ?_
                      refine ow_split (g := some (30, true)) rfl (fun s122 => ?_) (fun s122 => ?_)
                      ·
                        refine ow_val rfl (gd_go rfl s122) (ex_move rfl) ?_
                        refine ow_val rfl (gd_go rfl s122) (ex_move rfl) ?_
                        refine ow_cv rfl (gd_go rfl s122) (ex_callf rfl (fun w h => callB ((pHas h.im (hk4.le (hl9.trans (hlk.trans hl6))) (by omega))))) ?_
                        refine ow_val rfl (gd_go rfl s122) (ex_not rfl) ?_
                        refine ow_val rfl rfl (ex_pickt rfl s122 rfl) ?_
                        refine ow_val rfl rfl (ex_move rfl) ?_
                        refine ow_split (g := some (36, true)) rfl (fun s128 => ?_) (fun s128 => ?_)
                        ·
                          refine ow_val rfl (gd_go rfl s128) (ex_move rfl) ?_
                          refine ow_val rfl (gd_go rfl s128) (ex_move rfl) ?_
                          refine ow_cv rfl (gd_go rfl s128) (ex_callf rfl (fun w h => callB ((pNamed h.hasE (hv4.le (hl9.trans (hlk.trans hl6))))))) ?_
                          refine ow_val rfl (gd_go rfl s128) (ex_not rfl) ?_
                          refine ow_val rfl rfl (ex_pickt rfl s128 rfl) ?_
                          refine ow_val rfl rfl (ex_move rfl) ?_
                          refine ow_split (g := some (42, true)) rfl (fun s134 => ?_) (fun s134 => ?_)
                          ·
                            refine ow_val rfl (gd_go rfl s134) (ex_move rfl) ?_
                            refine ow_val rfl (gd_go rfl s134) (ex_move rfl) ?_
                            refine ow_cv rfl (gd_go rfl s134) (ex_callf rfl (fun w h => callB ((pHas h.im (hr8.le (hl98.trans (hlk.trans hl6))) (by omega))))) ?_
                            refine ow_val rfl rfl (ex_pickt rfl s134 rfl) ?_
                            refine ow_nil ?_
                            refine qw_seq ?_
                            refine cw_cond rfl (fun c138 => ?_) (fun c138 => ?_)
                            ·
                              first | (cases c138; done) | exact absurd (of_decide_eq_true c138) (secret_key hI hil hx0 hop3 hk0 (of_decide_eq_true s113) (of_decide_eq_true s122) hmx (namedB_false (by simpa using s134)) hkx (by simpa using s128))
                            ·
                              refine cw_skip ?_
                              refine qw_block_normal ?_
                              refine qw_seq ?_
                              refine cw_region ?_
                              refine ow_val rfl rfl (ex_move rfl) ?_
                              refine ow_val rfl rfl (ex_addi (z := ((i + 1 : Nat) : Int)) rfl rfl (by omega) (by omega) (by omega)) ?_
                              refine ow_val rfl rfl (ex_assign rfl) ?_
                              refine ow_nil ?_
                              exact qw_round2 (i + 1) τ6 (by omega) (subL_cons (lkv rfl (by first | rfl | simp)) (subL_cons (lkv rfl (by first | rfl | simp)) (subL_cons (lkv rfl (by first | rfl | simp)) (subL_cons (lkv rfl (by first | rfl | simp)) (subL_cons (lkv rfl (by first | rfl | simp)) (subL_cons (lkv rfl (by first | rfl | simp)) (subL_cons (lkv rfl (by first | rfl | simp)) (subL_nil _)))))))) ⟨by omega, hl9.trans (hlk.trans hl6), hl98.trans (hlk.trans hl6)⟩ (fun w h => h)
                          ·
                            refine ow_skip rfl (gd_no rfl s134) ?_
                            refine ow_skip rfl (gd_no rfl s134) ?_
                            refine ow_skip rfl (gd_no rfl s134) ?_
                            refine ow_val rfl rfl (ex_pickf rfl s134 rfl) ?_
                            refine ow_nil ?_
                            refine qw_seq ?_
                            refine cw_cond_f rfl ?_
                            refine cw_skip ?_
                            refine qw_block_normal ?_
                            refine qw_seq ?_
                            refine cw_region ?_
                            refine ow_val rfl rfl (ex_move rfl) ?_
                            refine ow_val rfl rfl (ex_addi (z := ((i + 1 : Nat) : Int)) rfl rfl (by omega) (by omega) (by omega)) ?_
                            refine ow_val rfl rfl (ex_assign rfl) ?_
                            refine ow_nil ?_
                            exact qw_round2 (i + 1) τ6 (by omega) (subL_cons (lkv rfl (by first | rfl | simp)) (subL_cons (lkv rfl (by first | rfl | simp)) (subL_cons (lkv rfl (by first | rfl | simp)) (subL_cons (lkv rfl (by first | rfl | simp)) (subL_cons (lkv rfl (by first | rfl | simp)) (subL_cons (lkv rfl (by first | rfl | simp)) (subL_cons (lkv rfl (by first | rfl | simp)) (subL_nil _)))))))) ⟨by omega, hl9.trans (hlk.trans hl6), hl98.trans (hlk.trans hl6)⟩ (fun w h => h)
                        ·
                          refine ow_skip rfl (gd_no rfl s128) ?_
                          refine ow_skip rfl (gd_no rfl s128) ?_
                          refine ow_skip rfl (gd_no rfl s128) ?_
                          refine ow_skip rfl (gd_no rfl s128) ?_
                          refine ow_val rfl rfl (ex_pickf rfl s128 rfl) ?_
                          refine ow_val rfl rfl (ex_move rfl) ?_
                          refine ow_skip rfl rfl ?_
                          refine ow_skip rfl rfl ?_
                          refine ow_skip rfl rfl ?_
                          refine ow_val rfl rfl (ex_pick_f rfl rfl) ?_
                          refine ow_nil ?_
                          refine qw_seq ?_
                          refine cw_cond_f rfl ?_
                          refine cw_skip ?_
                          refine qw_block_normal ?_
                          refine qw_seq ?_
                          refine cw_region ?_
                          refine ow_val rfl rfl (ex_move rfl) ?_
                          refine ow_val rfl rfl (ex_addi (z := ((i + 1 : Nat) : Int)) rfl rfl (by omega) (by omega) (by omega)) ?_
                          refine ow_val rfl rfl (ex_assign rfl) ?_
                          refine ow_nil ?_
                          exact qw_round2 (i + 1) τ6 (by omega) (subL_cons (lkv rfl (by first | rfl | simp)) (subL_cons (lkv rfl (by first | rfl | simp)) (subL_cons (lkv rfl (by first | rfl | simp)) (subL_cons (lkv rfl (by first | rfl | simp)) (subL_cons (lkv rfl (by first | rfl | simp)) (subL_cons (lkv rfl (by first | rfl | simp)) (subL_cons (lkv rfl (by first | rfl | simp)) (subL_nil _)))))))) ⟨by omega, hl9.trans (hlk.trans hl6), hl98.trans (hlk.trans hl6)⟩ (fun w h => h)
                      ·
                        refine ow_skip rfl (gd_no rfl s122) ?_
                        refine ow_skip rfl (gd_no rfl s122) ?_
                        refine ow_skip rfl (gd_no rfl s122) ?_
                        refine ow_skip rfl (gd_no rfl s122) ?_
                        refine ow_val rfl rfl (ex_pickf rfl s122 rfl) ?_
                        refine ow_val rfl rfl (ex_move rfl) ?_
                        refine ow_skip rfl rfl ?_
                        refine ow_skip rfl rfl ?_
                        refine ow_skip rfl rfl ?_
                        refine ow_skip rfl rfl ?_
                        refine ow_val rfl rfl (ex_pick_f rfl rfl) ?_
                        refine ow_val rfl rfl (ex_move rfl) ?_
                        refine ow_skip rfl rfl ?_
                        refine ow_skip rfl rfl ?_
                        refine ow_skip rfl rfl ?_
                        refine ow_val rfl rfl (ex_pick_f rfl rfl) ?_
                        refine ow_nil ?_
                        refine qw_seq ?_
                        refine cw_cond_f rfl ?_
                        refine cw_skip ?_
                        refine qw_block_normal ?_
                        refine qw_seq ?_
                        refine cw_region ?_
                        refine ow_val rfl rfl (ex_move rfl) ?_
                        refine ow_val rfl rfl (ex_addi (z := ((i + 1 : Nat) : Int)) rfl rfl (by omega) (by omega) (by omega)) ?_
                        refine ow_val rfl rfl (ex_assign rfl) ?_
                        refine ow_nil ?_
                        exact qw_round2 (i + 1) τ6 (by omega) (subL_cons (lkv rfl (by first | rfl | simp)) (subL_cons (lkv rfl (by first | rfl | simp)) (subL_cons (lkv rfl (by first | rfl | simp)) (subL_cons (lkv rfl (by first | rfl | simp)) (subL_cons (lkv rfl (by first | rfl | simp)) (subL_cons (lkv rfl (by first | rfl | simp)) (subL_cons (lkv rfl (by first | rfl | simp)) (subL_nil _)))))))) ⟨by omega, hl9.trans (hlk.trans hl6), hl98.trans (hlk.trans hl6)⟩ (fun w h => h)
                    ·
                      refine ow_skip rfl (gd_no rfl s113) ?_
                      refine ow_skip rfl (gd_no rfl s113) ?_
                      refine ow_skip rfl (gd_no rfl s113) ?_
                      refine ow_skip rfl (gd_no rfl s113) ?_
                      refine ow_skip rfl (gd_no rfl s113) ?_
                      refine ow_skip rfl (gd_no rfl s113) ?_
                      refine ow_skip rfl (gd_no rfl s113) ?_
                      refine ow_val rfl rfl (ex_pickf rfl s113 rfl) ?_
                      refine ow_val rfl rfl (ex_move rfl) ?_
                      refine ow_skip rfl rfl ?_
                      refine ow_skip rfl rfl ?_
                      refine ow_skip rfl rfl ?_
                      refine ow_skip rfl rfl ?_
                      refine ow_val rfl rfl (ex_pick_f rfl rfl) ?_
                      refine ow_val rfl rfl (ex_move rfl) ?_
                      refine ow_skip rfl rfl ?_
                      refine ow_skip rfl rfl ?_
                      refine ow_skip rfl rfl ?_
                      refine ow_skip rfl rfl ?_
                      refine ow_val rfl rfl (ex_pick_f rfl rfl) ?_
                      refine ow_val rfl rfl (ex_move rfl) ?_
                      refine ow_skip rfl rfl ?_
                      refine ow_skip rfl rfl ?_
                      refine ow_skip rfl rfl ?_
                      refine ow_val rfl rfl (ex_pick_f rfl rfl) ?_
                      refine ow_nil ?_
                      refine qw_seq ?_
                      refine cw_cond_f rfl ?_
                      refine cw_skip ?_
                      refine qw_block_normal ?_
                      refine qw_seq ?_
                      refine cw_region ?_
                      refine ow_val rfl rfl (ex_move rfl) ?_
                      refine ow_val rfl rfl (ex_addi (z := ((i + 1 : Nat) : Int)) rfl rfl (by omega) (by omega) (by omega)) ?_
                      refine ow_val rfl rfl (ex_assign rfl) ?_
                      refine ow_nil ?_
                      exact qw_round2 (i + 1) τ6 (by omega) (subL_cons (lkv rfl (by first | rfl | simp)) (subL_cons (lkv rfl (by first | rfl | simp)) (subL_cons (lkv rfl (by first | rfl | simp)) (subL_cons (lkv rfl (by first | rfl | simp)) (subL_cons (lkv rfl (by first | rfl | simp)) (subL_cons (lkv rfl (by first | rfl | simp)) (subL_cons (lkv rfl (by first | rfl | simp)) (subL_nil _)))))))) ⟨by omega, hl9.trans (hlk.trans hl6), hl98.trans (hlk.trans hl6)⟩ (fun w h => h)
                  ·
                    refine ow_val rfl (gd_go rfl s100) (ex_field rfl) ?_
                    refine ow_val rfl (gd_go rfl s100) (ex_load1 rfl (ld_imm1 (hc18.fld (i := 0) rfl))) ?_
                    refine ow_val rfl (gd_go rfl s100) (ex_eql rfl rfl) ?_
                    refine ow_val rfl rfl (ex_pickf rfl s100 rfl) ?_
                    refine ow_val rfl rfl (ex_move rfl) ?_
                    refine ow_split (g := some (13, true)) rfl (fun s105 => ?_) (fun s105 => ?_)
                    ·
                      refine ow_val rfl (gd_go rfl s105) (ex_field rfl) ?_
                      have hop3 : ts[i].op = 6 ∨ ts[i].op = 2 ∨ ts[i].op = 3 := by first | exact .inl (of_decide_eq_true s95) | exact .inr (.inl (of_decide_eq_true s100)) | exact .inr (.inr (of_decide_eq_true s105))
                      have hk1 := keyed_one (hI.rt _ (List.getElem_mem hil)) (by omega)
                      have hk0 : 0 < ts[i].kids.length := by omega
                      obtain ⟨bk, fk, ck', cs, e1, e2, hc1, ht1⟩ := hk6.get 0 hk0
                      cases e1
                      have ht1' := ht1
                      obtain ⟨d9, k9, rfl, _, _, _, _⟩ := ht1'.opn
                      refine ow_val rfl (gd_go rfl s105) (ex_load1 rfl (ld_imm1 (hc18.fld (i := 3) rfl))) ?_
                      refine ow_val rfl (gd_go rfl s105) (ex_index_nat (i := 0) rfl rfl hk0) ?_
                      refine ow_val rfl (gd_go rfl s105) (ex_field rfl) ?_
                      refine ow_val rfl (gd_go rfl s105) (ex_load1 rfl (ld_imm1 (hc1.fld (i := 0) rfl))) ?_
                      refine ow_val rfl (gd_go rfl s105) (ex_eql rfl rfl) ?_
                      refine ow_val rfl rfl (ex_pickt rfl s105 rfl) ?_
                      refine ow_val rfl rfl (ex_move rfl) ?_
                      refine ow_split (g := some (21, true)) rfl (fun s113 => ?_) (fun s113 => ?_)
                      ·
                        refine ow_val rfl (gd_go rfl s113) (ex_field rfl) ?_
                        refine ow_val rfl (gd_go rfl s113) (ex_load1 rfl (ld_imm1 (hc18.fld (i := 3) rfl))) ?_
                        refine ow_val rfl (gd_go rfl s113) (ex_index_nat (i := 0) rfl rfl hk0) ?_
                        refine ow_val rfl (gd_go rfl s113) (ex_field rfl) ?_
                        refine ow_val rfl (gd_go rfl s113) (ex_load1 rfl (ld_imm1 (hc1.fld (i := 1) rfl))) ?_
                        refine ow_val rfl (gd_go rfl s113) (ex_move rfl) ?_
                        refine ow_val rfl (gd_go rfl s113) (ex_eql rfl rfl) ?_
                        refine ow_val rfl rfl (ex_pickt rfl s113 rfl) ?_
                        refine ow_val rfl rfl (ex_move rfl) ?_
                        refine ow_split (g := some (30, true)) rfl (fun s122 => ?_) (fun s122 => ?_)
                        ·
                          refine ow_val rfl (gd_go rfl s122) (ex_move rfl) ?_
                          refine ow_val rfl (gd_go rfl s122) (ex_move rfl) ?_
                          refine ow_cv rfl (gd_go rfl s122) (ex_callf rfl (fun w h => callB ((pHas h.im (hk4.le (hl9.trans (hlk.trans hl6))) (by omega))))) ?_
                          refine ow_val rfl (gd_go rfl s122) (ex_not rfl) ?_
                          refine ow_val rfl rfl (ex_pickt rfl s122 rfl) ?_
                          refine ow_val rfl rfl (ex_move rfl) ?_
                          refine ow_split (g := some (36, true)) rfl (fun s128 => ?_) (fun s128 => ?_)
                          ·
                            refine ow_val rfl (gd_go rfl s128) (ex_move rfl) ?_
                            refine ow_val rfl (gd_go rfl s128) (ex_move rfl) ?_
                            refine ow_cv rfl (gd_go rfl s128) (ex_callf rfl (fun w h => callB ((pNamed h.hasE (hv4.le (hl9.trans (hlk.trans hl6))))))) ?_
                            refine ow_val rfl (gd_go rfl s128) (ex_not rfl) ?_
                            refine ow_val rfl rfl (ex_pickt rfl s128 rfl) ?_
                            refine ow_val rfl rfl (ex_move rfl) ?_
                            refine ow_split (g := some (42, true)) rfl (fun s134 => ?_) (fun s134 => ?_)
                            ·
                              refine ow_val rfl (gd_go rfl s134) (ex_move rfl) ?_
                              refine ow_val rfl (gd_go rfl s134) (ex_move rfl) ?_
                              refine ow_cv rfl (gd_go rfl s134) (ex_callf rfl (fun w h => callB ((pHas h.im (hr8.le (hl98.trans (hlk.trans hl6))) (by omega))))) ?_
                              refine ow_val rfl rfl (ex_pickt rfl s134 rfl) ?_
                              refine ow_nil ?_
                              refine qw_seq ?_
                              refine cw_cond rfl (fun c138 => ?_) (fun c138 => ?_)
                              ·
                                first | (cases c138; done) | exact absurd (of_decide_eq_true c138) (secret_key hI hil hx0 hop3 hk0 (of_decide_eq_true s113) (of_decide_eq_true s122) hmx (namedB_false (by simpa using s134)) hkx (by simpa using s128))
                              ·
                                refine cw_skip ?_
                                refine qw_block_normal ?_
                                refine qw_seq ?_
                                refine cw_region ?_
                                refine ow_val rfl rfl (ex_move rfl) ?_
                                refine ow_val rfl rfl (ex_addi (z := ((i + 1 : Nat) : Int)) rfl rfl (by omega) (by omega) (by omega)) ?_
                                refine ow_val rfl rfl (ex_assign rfl) ?_
                                refine ow_nil ?_
                                exact qw_round2 (i + 1) τ6 (by omega) (subL_cons (lkv rfl (by first | rfl | simp)) (subL_cons (lkv rfl (by first | rfl | simp)) (subL_cons (lkv rfl (by first | rfl | simp)) (subL_cons (lkv rfl (by first | rfl | simp)) (subL_cons (lkv rfl (by first | rfl | simp)) (subL_cons (lkv rfl (by first | rfl | simp)) (subL_cons (lkv rfl (by first | rfl | simp)) (subL_nil _)))))))) ⟨by omega, hl9.trans (hlk.trans hl6), hl98.trans (hlk.trans hl6)⟩ (fun w h => h)
                            ·
                              refine ow_skip rfl (gd_no rfl s134) ?_
                              refine ow_skip rfl (gd_no rfl s134) ?_
                              refine ow_skip rfl (gd_no rfl s134) ?_
                              refine ow_val rfl rfl (ex_pickf rfl s134 rfl) ?_
                              refine ow_nil ?_
                              refine qw_seq ?_
                              refine cw_cond_f rfl ?_
                              refine cw_skip ?_
                              refine qw_block_normal ?_
                              refine qw_seq ?_
                              refine cw_region ?_
                              refine ow_val rfl rfl (ex_move rfl) ?_
                              refine ow_val rfl rfl (ex_addi (z := ((i + 1 : Nat) : Int)) rfl rfl (by omega) (by omega) (by omega)) ?_
                              refine ow_val rfl rfl (ex_assign rfl) ?_
                              refine ow_nil ?_
                              exact qw_round2 (i + 1) τ6 (by omega) (subL_cons (lkv rfl (by first | rfl | simp)) (subL_cons (lkv rfl (by first | rfl | simp)) (subL_cons (lkv rfl (by first | rfl | simp)) (subL_cons (lkv rfl (by first | rfl | simp)) (subL_cons (lkv rfl (by first | rfl | simp)) (subL_cons (lkv rfl (by first | rfl | simp)) (subL_cons (lkv rfl (by first | rfl | simp)) (subL_nil _)))))))) ⟨by omega, hl9.trans (hlk.trans hl6), hl98.trans (hlk.trans hl6)⟩ (fun w h => h)
                          ·
                            refine ow_skip rfl (gd_no rfl s128) ?_
                            refine ow_skip rfl (gd_no rfl s128) ?_
                            refine ow_skip rfl (gd_no rfl s128) ?_
                            refine ow_skip rfl (gd_no rfl s128) ?_
                            refine ow_val rfl rfl (ex_pickf rfl s128 rfl) ?_
                            refine ow_val rfl rfl (ex_move rfl) ?_
                            refine ow_skip rfl rfl ?_
                            refine ow_skip rfl rfl ?_
                            refine ow_skip rfl rfl ?_
                            refine ow_val rfl rfl (ex_pick_f rfl rfl) ?_
                            refine ow_nil ?_
                            refine qw_seq ?_
                            refine cw_cond_f rfl ?_
                            refine cw_skip ?_
                            refine qw_block_normal ?_
                            refine qw_seq ?_
                            refine cw_region ?_
                            refine ow_val rfl rfl (ex_move rfl) ?_
                            refine ow_val rfl rfl (ex_addi (z := ((i + 1 : Nat) : Int)) rfl rfl (by omega) (by omega) (by omega)) ?_
                            refine ow_val rfl rfl (ex_assign rfl) ?_
                            refine ow_nil ?_
                            exact qw_round2 (i + 1) τ6 (by omega) (subL_cons (lkv rfl (by first | rfl | simp)) (subL_cons (lkv rfl (by first | rfl | simp)) (subL_cons (lkv rfl (by first | rfl | simp)) (subL_cons (lkv rfl (by first | rfl | simp)) (subL_cons (lkv rfl (by first | rfl | simp)) (subL_cons (lkv rfl (by first | rfl | simp)) (subL_cons (lkv rfl (by first | rfl | simp)) (subL_nil _)))))))) ⟨by omega, hl9.trans (hlk.trans hl6), hl98.trans (hlk.trans hl6)⟩ (fun w h => h)
                        ·
                          refine ow_skip rfl (gd_no rfl s122) ?_
                          refine ow_skip rfl (gd_no rfl s122) ?_
                          refine ow_skip rfl (gd_no rfl s122) ?_
                          refine ow_skip rfl (gd_no rfl s122) ?_
                          refine ow_val rfl rfl (ex_pickf rfl s122 rfl) ?_
                          refine ow_val rfl rfl (ex_move rfl) ?_
                          refine ow_skip rfl rfl ?_
                          refine ow_skip rfl rfl ?_
                          refine ow_skip rfl rfl ?_
                          refine ow_skip rfl rfl ?_
                          refine ow_val rfl rfl (ex_pick_f rfl rfl) ?_
                          refine ow_val rfl rfl (ex_move rfl) ?_
                          refine ow_skip rfl rfl ?_
                          refine ow_skip rfl rfl ?_
                          refine ow_skip rfl rfl ?_
                          refine ow_val rfl rfl (ex_pick_f rfl rfl) ?_
                          refine ow_nil ?_
                          refine qw_seq ?_
                          refine cw_cond_f rfl ?_
                          refine cw_skip ?_
                          refine qw_block_normal ?_
                          refine qw_seq ?_
                          refine cw_region ?_
                          refine ow_val rfl rfl (ex_move rfl) ?_
                          refine ow_val rfl rfl (ex_addi (z := ((i + 1 : Nat) : Int)) rfl rfl (by omega) (by omega) (by omega)) ?_
                          refine ow_val rfl rfl (ex_assign rfl) ?_
                          refine ow_nil ?_
                          exact qw_round2 (i + 1) τ6 (by omega) (subL_cons (lkv rfl (by first | rfl | simp)) (subL_cons (lkv rfl (by first | rfl | simp)) (subL_cons (lkv rfl (by first | rfl | simp)) (subL_cons (lkv rfl (by first | rfl | simp)) (subL_cons (lkv rfl (by first | rfl | simp)) (subL_cons (lkv rfl (by first | rfl | simp)) (subL_cons (lkv rfl (by first | rfl | simp)) (subL_nil _)))))))) ⟨by omega, hl9.trans (hlk.trans hl6), hl98.trans (hlk.trans hl6)⟩ (fun w h => h)
                      ·
                        refine ow_skip rfl (gd_no rfl s113) ?_
                        refine ow_skip rfl (gd_no rfl s113) ?_
                        refine ow_skip rfl (gd_no rfl s113) ?_
                        refine ow_skip rfl (gd_no rfl s113) ?_
                        refine ow_skip rfl (gd_no rfl s113) ?_
                        refine ow_skip rfl (gd_no rfl s113) ?_
                        refine ow_skip rfl (gd_no rfl s113) ?_
                        refine ow_val rfl rfl (ex_pickf rfl s113 rfl) ?_
                        refine ow_val rfl rfl (ex_move rfl) ?_
                        refine ow_skip rfl rfl ?_
                        refine ow_skip rfl rfl ?_
                        refine ow_skip rfl rfl ?_
                        refine ow_skip rfl rfl ?_
                        refine ow_val rfl rfl (ex_pick_f rfl rfl) ?_
                        refine ow_val rfl rfl (ex_move rfl) ?_
                        refine ow_skip rfl rfl ?_
                        refine ow_skip rfl rfl ?_
                        refine ow_skip rfl rfl ?_
                        refine ow_skip rfl rfl ?_
                        refine ow_val rfl rfl (ex_pick_f rfl rfl) ?_
                        refine ow_val rfl rfl (ex_move rfl) ?_
                        refine ow_skip rfl rfl ?_
                        refine ow_skip rfl rfl ?_
                        refine ow_skip rfl rfl ?_
                        refine ow_val rfl rfl (ex_pick_f rfl rfl) ?_
                        refine ow_nil ?_
                        refine qw_seq ?_
                        refine cw_cond_f rfl ?_
                        refine cw_skip ?_
                        refine qw_block_normal ?_
                        refine qw_seq ?_
                        refine cw_region ?_
                        refine ow_val rfl rfl (ex_move rfl) ?_
                        refine ow_val rfl rfl (ex_addi (z := ((i + 1 : Nat) : Int)) rfl rfl (by omega) (by omega) (by omega)) ?_
                        refine ow_val rfl rfl (ex_assign rfl) ?_
                        refine ow_nil ?_
                        exact qw_round2 (i + 1) τ6 (by omega) (subL_cons (lkv rfl (by first | rfl | simp)) (subL_cons (lkv rfl (by first | rfl | simp)) (subL_cons (lkv rfl (by first | rfl | simp)) (subL_cons (lkv rfl (by first | rfl | simp)) (subL_cons (lkv rfl (by first | rfl | simp)) (subL_cons (lkv rfl (by first | rfl | simp)) (subL_cons (lkv rfl (by first | rfl | simp)) (subL_nil _)))))))) ⟨by omega, hl9.trans (hlk.trans hl6), hl98.trans (hlk.trans hl6)⟩ (fun w h => h)
                    ·
                      refine ow_skip rfl (gd_no rfl s105) ?_
                      refine ow_skip rfl (gd_no rfl s105) ?_
                      refine ow_skip rfl (gd_no rfl s105) ?_
                      refine ow_skip rfl (gd_no rfl s105) ?_
                      refine ow_skip rfl (gd_no rfl s105) ?_
                      refine ow_skip rfl (gd_no rfl s105) ?_
                      refine ow_val rfl rfl (ex_pickf rfl s105 rfl) ?_
                      refine ow_val rfl rfl (ex_move rfl) ?_
                      refine ow_skip rfl rfl ?_
                      refine ow_skip rfl rfl ?_
                      refine ow_skip rfl rfl ?_
                      refine ow_skip rfl rfl ?_
                      refine ow_skip rfl rfl ?_
                      refine ow_skip rfl rfl ?_
                      refine ow_skip rfl rfl ?_
                      refine ow_val rfl rfl (ex_pick_f rfl rfl) ?_
                      refine ow_val rfl rfl (ex_move rfl) ?_
                      refine ow_skip rfl rfl ?_
                      refine ow_skip rfl rfl ?_
                      refine ow_skip rfl rfl ?_
                      refine ow_skip rfl rfl ?_
                      refine ow_val rfl rfl (ex_pick_f rfl rfl) ?_
                      refine ow_val rfl rfl (ex_move rfl) ?_
                      refine ow_skip rfl rfl ?_
                      refine ow_skip rfl rfl ?_
                      refine ow_skip rfl rfl ?_
                      refine ow_skip rfl rfl ?_
                      refine ow_val rfl rfl (ex_pick_f rfl rfl) ?_
                      refine ow_val rfl rfl (ex_move rfl) ?_
                      refine ow_skip rfl rfl ?_
                      refine ow_skip rfl rfl ?_
                      refine ow_skip rfl rfl ?_
                      refine ow_val rfl rfl (ex_pick_f rfl rfl) ?_
                      refine ow_nil ?_
                      refine qw_seq ?_
                      refine cw_cond_f rfl ?_
                      refine cw_skip ?_
                      refine qw_block_normal ?_
                      refine qw_seq ?_
                      refine cw_region ?_
                      refine ow_val rfl rfl (ex_move rfl) ?_
                      refine ow_val rfl rfl (ex_addi (z := ((i + 1 : Nat) : Int)) rfl rfl (by omega) (by omega) (by omega)) ?_
                      refine ow_val rfl rfl (ex_assign rfl) ?_
                      refine ow_nil ?_
                      exact qw_round2 (i + 1) τ6 (by omega) (subL_cons (lkv rfl (by first | rfl | simp)) (subL_cons (lkv rfl (by first | rfl | simp)) (subL_cons (lkv rfl (by first | rfl | simp)) (subL_cons (lkv rfl (by first | rfl | simp)) (subL_cons (lkv rfl (by first | rfl | simp)) (subL_cons (lkv rfl (by first | rfl | simp)) (subL_cons (lkv rfl (by first | rfl | simp)) (subL_nil _)))))))) ⟨by omega, hl9.trans (hlk.trans hl6), hl98.trans (hlk.trans hl6)⟩ (fun w h => h)
              ·
                refine cw_exit ?_
                refine qw_then_exit ?_
                refine qw_then_exit ?_
                refine qw_block_exit ?_
                refine qw_seq ?_
                refine cw_seq ?_
                refine cw_region ?_
                refine ow_val rfl rfl (ex_move rfl) ?_
                refine ow_val rfl rfl (ex_assign rfl) ?_
                refine ow_nil ?_
                refine qw_seq ?_
                refine cw_ret ?_
                refine qw_ret1 rfl rfl (fun w' h => ⟨congrArg (fun z => Ending.returned (.bool z)) ?_, h.ag.below⟩)
                rfl
end Go.Proofs.YtnjomdjkbbhdoaaGreatDoor
namespace Go.Proofs.YtnjomdjkbbhdoaaGreatDoor
open Go.ChangeShapes Go.WideShapes Go.ChangeAt Go.RowKit
set_option linter.unusedVariables false
section
variable {H : Type} {enc : TypeId × Value → H} {P : Program} {w : World}
theorem read_ints {t e : TypeId} {fuel : Nat} {v : Value} {x : DataW H × List MemPlace} (hu : P.underlying t = some (.slice e)) (he : P.underlying e = some (.int .i64)) (hc : P.cellsOf e = 1)
    (h : DataW.trod enc P w 0 (fun _ => true) true fuel t [v] = some x) (hw : ∀ n ∈ x.1.weights P t, n ≤ reachBytes) : ∃ zs, IntsV (nowH w) v zs := by
  rcases open_ints hu he hc h with ⟨hcs, hx⟩ | ⟨a, len, cap, zs, hcs, _, hl, hm, hz, hx, hcell, hwf⟩
  · simp at hcs
    subst hcs
    exact ⟨[], IntsV.nil _⟩
  · simp at hcs
    subst hcs
    have hlz : len ≤ zs.length := by simp at hz; omega
    have hlen : (zs.take len).length = len := by simp; omega
    refine ⟨zs.take len, some a, cap, by rw [hlen], by rw [hlen]; exact hl, ?_⟩
    by_cases h0 : len = 0
    · left; subst h0; simp
    · right
      have hsp : a.spot = none := (cell_open (hcell 0 (by omega))).1
      obtain ⟨b, o, sp⟩ := a
      have hsp' : sp = none := hsp
      subst hsp'
      refine ⟨b, o, rfl, ?_⟩
      unfold intsV
      refine cellsAt_now (fun e => ?_) (fun i u hi => ?_)
      · have := congrArg List.length e
        rw [List.length_map, List.length_take, List.length_nil] at this
        omega
      · rw [List.getElem?_map, List.getElem?_take] at hi
        split at hi
        · rename_i hil
          have := hcell i (Nat.lt_of_lt_of_le hil hlz)
          rw [addr_add] at this
          rw [this, List.getD_eq_getElem?_getD]
          cases hz' : zs[i]? with
          | none => rw [hz'] at hi; simp at hi
          | some z => rw [hz'] at hi; simpa using hi
        · simp at hi
end
end Go.Proofs.YtnjomdjkbbhdoaaGreatDoor
