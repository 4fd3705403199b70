/-
  Walks of the laws: the head; which terms are right.
  No condition.
-/
import Derived.Test.YtnjomdjkbbhdoaaWb7
import Derived.Test.YtnjomdjkbbhdoaaWa7
namespace Go.Proofs.Ytnjomdjkbbhdoaa
open Go.RowKit
set_option linter.unusedVariables false
set_option linter.unusedSimpArgs false
set_option maxRecDepth 100000

def oneT : T := .mk 1 1 [] []
def sevT : T := .mk 7 0 [] []
def sevOne : T := .mk 7 0 [] [oneT]
theorem headPow : pow sevT oneT = (sevOne, true) := by
  unfold pow
  rw [if_pos ⟨by decide, by decide, rfl, by decide⟩]
  rfl
theorem oneT_c (σ : Hp) : TermC σ [.int .i64 1, .int .i64 1, .slice none 0 0, .slice none 0 0] oneT := TermC.mk (by omega) (by omega) (BytesV.nil σ) (KidsV.nil σ)
theorem sevT_c (σ : Hp) : TermC σ [.int .i64 7, .int .i64 0, .slice none 0 0, .slice none 0 0] sevT := TermC.mk (by omega) (by omega) (BytesV.nil σ) (KidsV.nil σ)
theorem signI_tri {x : Int} (h : Tri x) : signI x = x := by unfold Tri at h; unfold signI; rcases h with h | h | h <;> subst h <;> decide


set_option maxHeartbeats 400000 in
theorem pHead {w : World} : Calls Try.prog 10 #[] w fun e w' => e = .returned (.bool true) ∧ Below w.heap.size w w' := by
  refine enter (St w (fun _ => False) (fun _ => none) [] []) Try.func10 rfl Try.ntmps10 rfl (St.start (fun _ _ h => by cases h)) ?_
  refine cw_seq ?_
  refine cw_region ?_
  refine ow_val rfl rfl (ex_assign rfl) ?_
  refine ow_nil ?_
  refine qw_seq ?_
  refine cw_seq ?_
  refine cw_region ?_
  refine ow_val rfl rfl (ex_build (parts := [(0, _), (1, _)]) (cells := #[.int .i64 1, .int .i64 1, .slice none 0 0, .slice none 0 0]) rfl (by kernel_rfl)) ?_
  refine ow_blk rfl rfl exw_alloc ?_; intro b1
  refine ow_u rfl (exu_storeN 0 (cs := [.int .i64 1, .int .i64 1, .slice none 0 0, .slice none 0 0]) rfl rfl rfl rfl (oneT_c (fun _ => none)).one rfl) ?_
  refine ow_nil ?_
  refine qw_seq ?_
  refine cw_seq ?_
  refine cw_region ?_
  refine ow_val rfl rfl (ex_build (parts := [(0, _)]) (cells := #[.int .i64 7, .int .i64 0, .slice none 0 0, .slice none 0 0]) rfl (by kernel_rfl)) ?_
  refine ow_val rfl rfl (ex_loadR rfl (by first | exact ld_ownN 0 rfl rfl | exact ld_ownN 1 rfl rfl | exact ld_ownN 2 rfl rfl | exact ld_ownN 3 rfl rfl | exact ld_ownN 4 rfl rfl | exact ld_ownN 5 rfl rfl | exact ld_ownN 6 rfl rfl | exact ld_ownN 7 rfl rfl | exact ld_immT (by assumption) (by assumption))) ?_
  refine ow_cr rfl rfl (ex_callf rfl (fun w h => callR (pPow h.im (sevT_c _) (oneT_c _)))) (fun v8 τ hl hf hr8 => ?_)
  rw [headPow] at hr8
  obtain ⟨c8, rfl, ht8⟩ := hr8
  have ht8' := ht8
  obtain ⟨d8, k8, rfl, _, _, _, hk8⟩ := ht8'.opn
  have hk8' := hk8
  obtain ⟨q, cq, rfl, _, _⟩ := hk8'.slice
  refine ow_val rfl rfl (ex_move rfl) ?_
  refine ow_val rfl rfl (ex_extract rfl rfl) ?_
  refine ow_val rfl rfl (ex_extract rfl rfl) ?_
  refine ow_blk rfl rfl exw_alloc ?_; intro b2
  refine ow_u rfl (exu_storeN 0 rfl rfl rfl rfl ht8.one rfl) ?_
  refine ow_val rfl rfl (ex_assign rfl) ?_
  refine ow_nil ?_
  refine qw_seq ?_
  refine cw_seq ?_
  refine cw_region ?_
  refine ow_val rfl rfl (ex_loadR rfl (by first | exact ld_ownN 0 rfl rfl | exact ld_ownN 1 rfl rfl | exact ld_ownN 2 rfl rfl | exact ld_ownN 3 rfl rfl | exact ld_ownN 4 rfl rfl | exact ld_ownN 5 rfl rfl | exact ld_ownN 6 rfl rfl | exact ld_ownN 7 rfl rfl | exact ld_immT (by assumption) (by assumption))) ?_
  refine ow_cv rfl rfl (ex_callf rfl (fun w h => callB ((pRight oneT h.im (oneT_c _))))) ?_
  refine ow_val rfl rfl (ex_move rfl) ?_
  refine ow_split (g := some (2, true)) rfl (fun s13 => ?_) (fun s13 => ?_)
  ·
    refine ow_val rfl (gd_go rfl s13) (ex_move rfl) ?_
    refine ow_val rfl rfl (ex_pickt rfl s13 rfl) ?_
    refine ow_val rfl rfl (ex_move rfl) ?_
    refine ow_split (g := some (5, true)) rfl (fun s16 => ?_) (fun s16 => ?_)
    ·
      refine ow_val rfl (gd_go rfl s16) (ex_field rfl) ?_
      refine ow_val rfl (gd_go rfl s16) (ex_load1 rfl (by first | exact ld_own1 0 rfl rfl | exact ld_own1 1 rfl rfl | exact ld_own1 2 rfl rfl | exact ld_own1 3 rfl rfl | exact ld_own1 4 rfl rfl | exact ld_own1 5 rfl rfl | exact ld_own1 6 rfl rfl | exact ld_own1 7 rfl rfl | exact ld_imm1 (by assumption))) ?_
      refine ow_val rfl (gd_go rfl s16) (ex_len (ty := 0) rfl) ?_
      refine ow_val rfl (gd_go rfl s16) (ex_eql rfl rfl) ?_
      refine ow_val rfl rfl (ex_pickt rfl s16 rfl) ?_
      refine ow_val rfl rfl (ex_move rfl) ?_
      refine ow_split (g := some (11, true)) rfl (fun s22 => ?_) (fun s22 => ?_)
      ·
        refine ow_val rfl (gd_go rfl s22) (ex_field rfl) ?_
        refine ow_val rfl (gd_go rfl s22) (ex_load1 rfl (by first | exact ld_own1 0 rfl rfl | exact ld_own1 1 rfl rfl | exact ld_own1 2 rfl rfl | exact ld_own1 3 rfl rfl | exact ld_own1 4 rfl rfl | exact ld_own1 5 rfl rfl | exact ld_own1 6 rfl rfl | exact ld_own1 7 rfl rfl | exact ld_imm1 (by assumption))) ?_
        refine ow_val rfl (gd_go rfl s22) (ex_eql rfl rfl) ?_
        refine ow_val rfl rfl (ex_pickt rfl s22 rfl) ?_
        refine ow_val rfl rfl (ex_move rfl) ?_
        refine ow_split (g := some (16, true)) rfl (fun s27 => ?_) (fun s27 => ?_)
        ·
          refine ow_val rfl (gd_go rfl s27) (ex_loadR rfl (by first | exact ld_ownN 0 rfl rfl | exact ld_ownN 1 rfl rfl | exact ld_ownN 2 rfl rfl | exact ld_ownN 3 rfl rfl | exact ld_ownN 4 rfl rfl | exact ld_ownN 5 rfl rfl | exact ld_ownN 6 rfl rfl | exact ld_ownN 7 rfl rfl | exact ld_immT (by assumption) (by assumption))) ?_
          refine ow_cv rfl (gd_go rfl s27) (ex_callf rfl (fun w h => callB ((pSize sevOne h.im ht8 (by unfold maxKids; decide))))) ?_
          refine ow_val rfl (gd_go rfl s27) (ex_eql rfl rfl) ?_
          refine ow_val rfl rfl (ex_pickt rfl s27 rfl) ?_
          refine ow_val rfl rfl (ex_move rfl) ?_
          refine ow_split (g := some (21, true)) rfl (fun s32 => ?_) (fun s32 => ?_)
          ·
            refine ow_val rfl (gd_go rfl s32) (ex_loadR rfl (by first | exact ld_ownN 0 rfl rfl | exact ld_ownN 1 rfl rfl | exact ld_ownN 2 rfl rfl | exact ld_ownN 3 rfl rfl | exact ld_ownN 4 rfl rfl | exact ld_ownN 5 rfl rfl | exact ld_ownN 6 rfl rfl | exact ld_ownN 7 rfl rfl | exact ld_immT (by assumption) (by assumption))) ?_
            refine ow_val rfl (gd_go rfl s32) (ex_loadR rfl (by first | exact ld_ownN 0 rfl rfl | exact ld_ownN 1 rfl rfl | exact ld_ownN 2 rfl rfl | exact ld_ownN 3 rfl rfl | exact ld_ownN 4 rfl rfl | exact ld_ownN 5 rfl rfl | exact ld_ownN 6 rfl rfl | exact ld_ownN 7 rfl rfl | exact ld_immT (by assumption) (by assumption))) ?_
            refine ow_cv rfl (gd_go rfl s32) (ex_callf rfl (fun w h => callB ((pOrder oneT sevOne h.im (oneT_c _) ht8)))) ?_
            refine ow_val rfl (gd_go rfl s32) (ex_lss rfl rfl) ?_
            refine ow_val rfl rfl (ex_pickt rfl s32 rfl) ?_
            refine ow_val rfl rfl (ex_assign rfl) ?_
            refine ow_nil ?_
            refine qw_seq ?_
            refine cw_ret ?_
            refine qw_ret1 rfl rfl (fun w' h => ⟨congrArg (fun z => Ending.returned (.bool z)) ?_, h.ag.below⟩)
            decide
          ·
            exact absurd s32 (by decide)
        ·
          exact absurd s27 (by decide)
      ·
        exact absurd s22 (by decide)
    ·
      exact absurd s16 (by decide)
  ·
    exact absurd s13 (by decide)

set_option maxHeartbeats 400000 in
theorem lawRight (t : T) {σ : Hp} {cs : List Value} {w : World} (hi : Imm σ w) (ht : TermC σ cs t) : Calls Try.prog 3 #[.agg cs.toArray] w fun e w' => e = .returned (.bool true) ∧ Below w.heap.size w w' := by
  have ht0 := ht
  obtain ⟨dv, kv, rfl, ho, hn, hd, hk⟩ := ht.opn
  refine enter (St w (fun _ => False) σ [] []) Try.func3 rfl Try.ntmps3 rfl (St.start hi) ?_
  refine cw_seq ?_
  refine cw_region ?_
  refine ow_blk rfl rfl (exw_box rfl) ?_; intro b1
  refine ow_val rfl rfl (ex_assign rfl) ?_
  refine ow_nil ?_
  refine qw_seq ?_
  refine cw_seq ?_
  refine cw_region ?_
  refine ow_cv rfl rfl (ex_callf rfl (fun w h => callB (pHead))) ?_
  refine ow_val rfl rfl (ex_assign rfl) ?_
  refine ow_nil ?_
  refine qw_seq ?_
  refine cw_seq ?_
  refine flow_sound 20 (by kernel_rfl) ?_
  refine flow_val rfl (ex_move rfl) ?_
  refine flow_val rfl (ex_move rfl) ?_
  refine flow_split rfl (fun s6 => ?_) (fun s6 => ?_)
  ·
    refine flow_val (gd_go rfl s6) (ex_loadR rfl (by first | exact ld_ownN 0 rfl rfl | exact ld_ownN 1 rfl rfl | exact ld_ownN 2 rfl rfl | exact ld_ownN 3 rfl rfl | exact ld_ownN 4 rfl rfl | exact ld_ownN 5 rfl rfl | exact ld_ownN 6 rfl rfl | exact ld_ownN 7 rfl rfl | exact ld_immT (by assumption) (by assumption))) ?_
    refine flow_cv (gd_go rfl s6) (ex_callf rfl (fun w h => callB ((rGreat t h.im ht0)))) ?_
    refine flow_val (gd_go rfl s6) (ex_move rfl) ?_
    refine flow_split rfl (fun s9 => ?_) (fun s9 => ?_)
    ·
      refine flow_skip (gd_no rfl s9) ?_
      refine flow_skip (gd_no rfl s9) ?_
      refine flow_skip (gd_no rfl s9) ?_
      refine flow_skip (gd_no rfl s9) ?_
      refine flow_skip (gd_no rfl s9) ?_
      refine flow_skip (gd_no rfl s9) ?_
      refine flow_skip rfl ?_
      refine flow_skip rfl ?_
      refine flow_skip rfl ?_
      refine flow_skip rfl ?_
      refine flow_skip rfl ?_
      refine flow_skip (gd_no rfl s9) ?_
      refine flow_val (gd_go rfl s6) (ex_pickt rfl s9 rfl) ?_
      refine flow_val rfl (ex_pickt rfl s6 rfl) ?_
      refine flow_val rfl (ex_assign rfl) ?_
      refine flow_nil ?_
      refine fin_is ?_
      refine fin_is ?_
      refine fin_is ?_
      refine fin_is ?_
      refine fin_is ?_
      refine fin_is ?_
      refine fin_is ?_
      refine fin_is ?_
      refine fin_is ?_
      refine fin_is ?_
      refine fin_is ?_
      refine fin_is ?_
      refine fin_is ?_
      refine fin_is ?_
      refine fin_is ?_
      refine fin_is ?_
      refine fin_is ?_
      refine fin_is ?_
      refine fin_is ?_
      refine fin_is ?_
      refine fin_nil ?_
      refine ow_nil ?_
      refine qw_seq ?_
      refine cw_ret ?_
      refine qw_ret1 rfl rfl (fun w' h => ⟨congrArg (fun z => Ending.returned (.bool z)) ?_, h.ag.below⟩)
      first | rfl | (simp; done) | (simp_all; done)
    ·
      have hsz : size t ≤ maxKids := by simp at s9; unfold maxKids; omega
      refine flow_val (gd_go rfl s9) (ex_loadR rfl (by first | exact ld_ownN 0 rfl rfl | exact ld_ownN 1 rfl rfl | exact ld_ownN 2 rfl rfl | exact ld_ownN 3 rfl rfl | exact ld_ownN 4 rfl rfl | exact ld_ownN 5 rfl rfl | exact ld_ownN 6 rfl rfl | exact ld_ownN 7 rfl rfl | exact ld_immT (by assumption) (by assumption))) ?_
      refine flow_cv (gd_go rfl s9) (ex_callf rfl (fun w h => callB ((pRight t h.im ht0)))) ?_
      refine flow_val (gd_go rfl s9) (ex_loadR rfl (by first | exact ld_ownN 0 rfl rfl | exact ld_ownN 1 rfl rfl | exact ld_ownN 2 rfl rfl | exact ld_ownN 3 rfl rfl | exact ld_ownN 4 rfl rfl | exact ld_ownN 5 rfl rfl | exact ld_ownN 6 rfl rfl | exact ld_ownN 7 rfl rfl | exact ld_immT (by assumption) (by assumption))) ?_
      refine flow_cv (gd_go rfl s9) (ex_callf rfl (fun w h => callB ((rRight t h.im ht0)))) ?_
      refine flow_val (gd_go rfl s9) (ex_eqlb rfl rfl) ?_
      refine flow_val (gd_go rfl s9) (ex_move rfl) ?_
      refine flow_split rfl (fun s15 => ?_) (fun s15 => ?_)
      ·
        refine flow_val (gd_go rfl s15) (ex_loadR rfl (by first | exact ld_ownN 0 rfl rfl | exact ld_ownN 1 rfl rfl | exact ld_ownN 2 rfl rfl | exact ld_ownN 3 rfl rfl | exact ld_ownN 4 rfl rfl | exact ld_ownN 5 rfl rfl | exact ld_ownN 6 rfl rfl | exact ld_ownN 7 rfl rfl | exact ld_immT (by assumption) (by assumption))) ?_
        refine flow_cv (gd_go rfl s15) (ex_callf rfl (fun w h => callB ((pSize t h.im ht0 hsz)))) ?_
        refine flow_val (gd_go rfl s15) (ex_loadR rfl (by first | exact ld_ownN 0 rfl rfl | exact ld_ownN 1 rfl rfl | exact ld_ownN 2 rfl rfl | exact ld_ownN 3 rfl rfl | exact ld_ownN 4 rfl rfl | exact ld_ownN 5 rfl rfl | exact ld_ownN 6 rfl rfl | exact ld_ownN 7 rfl rfl | exact ld_immT (by assumption) (by assumption))) ?_
        refine flow_cv (gd_go rfl s15) (ex_callf rfl (fun w h => callB ((rSize t h.im ht0 hsz)))) ?_
        refine flow_val (gd_go rfl s15) (ex_eql rfl rfl) ?_
        refine flow_val (gd_go rfl s9) (ex_pickt rfl s15 rfl) ?_
        refine flow_val (gd_go rfl s6) (ex_pickf rfl s9 rfl) ?_
        refine flow_val rfl (ex_pickt rfl s6 rfl) ?_
        refine flow_val rfl (ex_assign rfl) ?_
        refine flow_nil ?_
        refine fin_is ?_
        refine fin_is ?_
        refine fin_is ?_
        refine fin_is ?_
        refine fin_is ?_
        refine fin_is ?_
        refine fin_is ?_
        refine fin_is ?_
        refine fin_is ?_
        refine fin_is ?_
        refine fin_is ?_
        refine fin_is ?_
        refine fin_is ?_
        refine fin_is ?_
        refine fin_is ?_
        refine fin_is ?_
        refine fin_is ?_
        refine fin_is ?_
        refine fin_is ?_
        refine fin_is ?_
        refine fin_nil ?_
        refine ow_nil ?_
        refine qw_seq ?_
        refine cw_ret ?_
        refine qw_ret1 rfl rfl (fun w' h => ⟨congrArg (fun z => Ending.returned (.bool z)) ?_, h.ag.below⟩)
        first | rfl | (simp; done) | (simp_all; done)
      ·
        refine flow_skip (gd_no rfl s15) ?_
        refine flow_skip (gd_no rfl s15) ?_
        refine flow_skip (gd_no rfl s15) ?_
        refine flow_skip (gd_no rfl s15) ?_
        refine flow_skip (gd_no rfl s15) ?_
        refine flow_val (gd_go rfl s9) (ex_pickf rfl s15 rfl) ?_
        refine flow_val (gd_go rfl s6) (ex_pickf rfl s9 rfl) ?_
        refine flow_val rfl (ex_pickt rfl s6 rfl) ?_
        refine flow_val rfl (ex_assign rfl) ?_
        refine flow_nil ?_
        refine fin_is ?_
        refine fin_is ?_
        refine fin_is ?_
        refine fin_is ?_
        refine fin_is ?_
        refine fin_is ?_
        refine fin_is ?_
        refine fin_is ?_
        refine fin_is ?_
        refine fin_is ?_
        refine fin_is ?_
        refine fin_is ?_
        refine fin_is ?_
        refine fin_is ?_
        refine fin_is ?_
        refine fin_is ?_
        refine fin_is ?_
        refine fin_is ?_
        refine fin_is ?_
        refine fin_is ?_
        refine fin_nil ?_
        refine ow_nil ?_
        refine qw_seq ?_
        refine cw_ret ?_
        refine qw_ret1 rfl rfl (fun w' h => ⟨congrArg (fun z => Ending.returned (.bool z)) ?_, h.ag.below⟩)
        first | rfl | (simp; done) | (simp_all; done)
  ·
    exact absurd s6 (by decide)
end Go.Proofs.Ytnjomdjkbbhdoaa
