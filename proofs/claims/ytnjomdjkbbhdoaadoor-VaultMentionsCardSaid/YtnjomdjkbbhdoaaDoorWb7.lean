/-
  Walks of the program: a power of a power.
  No condition.
-/
import Derived.Test.YtnjomdjkbbhdoaaDoorWb6
import Derived.Test.YtnjomdjkbbhdoaaDoorMB
namespace Go.Proofs.YtnjomdjkbbhdoaaDoor
open Go.RowKit
set_option linter.unusedVariables false
set_option linter.unusedSimpArgs false
set_option maxRecDepth 100000

set_option maxHeartbeats 400000 in
theorem pPow {t x : T} {σ : Hp} {ca cb : List Value} {w : World} (hi : Imm σ w) (ha : TermC σ ca t) (hb : TermC σ cb x) :
    Calls Tryd.prog 61 #[.agg ca.toArray, .agg cb.toArray] w (GiveR (RepTB (pow t x).1 (pow t x).2) σ w) := by
  have ha0 := ha
  have hb0 := hb
  obtain ⟨dv, kv, rfl, ho, hn, hd, hk⟩ := ha.opn
  obtain ⟨dv', kv', rfl, ho', hn', hd', hk'⟩ := hb.opn
  obtain ⟨p, c, xs, rfl, hc, hm, hrow, hsrc⟩ := hk.row
  refine enter (St w (fun _ => False) σ [] []) Tryd.func61 rfl Tryd.ntmps61 rfl (St.start hi) ?_
  refine cw_seq ?_
  refine cw_region ?_
  refine ow_blk rfl rfl (exw_box rfl) ?_; intro b2
  refine ow_blk rfl rfl (exw_box rfl) ?_; intro b3
  refine ow_blk rfl rfl exw_alloc ?_; intro b4
  refine ow_val rfl rfl (ex_assign rfl) ?_
  refine ow_nil ?_
  refine qw_seq ?_
  refine cw_seq ?_
  refine cw_cut1 19 (.bool (decide (t.op ≠ 7) || (!right t || !right x))) ?_ ?_
  ·
    refine cw_region ?_
    refine ow_val rfl rfl (ex_field rfl) ?_
    refine ow_val rfl rfl (ex_load1 rfl (by first | exact ld_own1 0 rfl rfl | exact ld_own1 1 rfl rfl | exact ld_own1 2 rfl rfl | exact ld_own1 3 rfl rfl | exact ld_own1 4 rfl rfl | exact ld_own1 5 rfl rfl | exact ld_own1 6 rfl rfl | exact ld_own1 7 rfl rfl | exact ld_ownG1 0 rfl rfl | exact ld_ownG1 1 rfl rfl | exact ld_imm1 (by assumption))) ?_
    refine ow_val rfl rfl (ex_neq rfl rfl) ?_
    refine ow_val rfl rfl (ex_move rfl) ?_
    refine ow_split (g := some (3, false)) rfl (fun s10 => ?_) (fun s10 => ?_)
    ·
      refine ow_skip rfl (gd_no rfl s10) ?_
      refine ow_skip rfl (gd_no rfl s10) ?_
      refine ow_skip rfl (gd_no rfl s10) ?_
      refine ow_val rfl rfl (ex_pickt rfl s10 rfl) ?_
      refine ow_val rfl rfl (ex_move rfl) ?_
      refine ow_skip rfl rfl ?_
      refine ow_skip rfl rfl ?_
      refine ow_skip rfl rfl ?_
      refine ow_val rfl rfl (ex_pick_t rfl rfl) ?_
      refine ow_nil ?_
      exact qw_meet (subL_meet 13 19 (lkv rfl (by first | rfl | (simp_all; done) | (simp_all <;> omega))) rfl rfl) (fun w h => h)
    ·
      refine ow_val rfl (gd_go rfl s10) (ex_loadR rfl (by first | exact ld_ownN 0 rfl rfl | exact ld_ownN 1 rfl rfl | exact ld_ownN 2 rfl rfl | exact ld_ownN 3 rfl rfl | exact ld_ownN 4 rfl rfl | exact ld_ownN 5 rfl rfl | exact ld_ownN 6 rfl rfl | exact ld_ownN 7 rfl rfl | exact ld_ownGN 0 rfl rfl | exact ld_ownGN 1 rfl rfl | exact ld_immT (by assumption) (by assumption))) ?_
      refine ow_cv rfl (gd_go rfl s10) (ex_callf rfl (fun w h => callB ((pRight t h.im ha0)))) ?_
      refine ow_val rfl (gd_go rfl s10) (ex_not rfl) ?_
      refine ow_val rfl rfl (ex_pickf rfl s10 rfl) ?_
      refine ow_val rfl rfl (ex_move rfl) ?_
      refine ow_split (g := some (8, false)) rfl (fun s15 => ?_) (fun s15 => ?_)
      ·
        refine ow_skip rfl (gd_no rfl s15) ?_
        refine ow_skip rfl (gd_no rfl s15) ?_
        refine ow_skip rfl (gd_no rfl s15) ?_
        refine ow_val rfl rfl (ex_pickt rfl s15 rfl) ?_
        refine ow_nil ?_
        exact qw_meet (subL_meet 13 19 (lkv rfl (by first | rfl | (simp_all; done) | (simp_all <;> omega))) rfl rfl) (fun w h => h)
      ·
        refine ow_val rfl (gd_go rfl s15) (ex_loadR rfl (by first | exact ld_ownN 0 rfl rfl | exact ld_ownN 1 rfl rfl | exact ld_ownN 2 rfl rfl | exact ld_ownN 3 rfl rfl | exact ld_ownN 4 rfl rfl | exact ld_ownN 5 rfl rfl | exact ld_ownN 6 rfl rfl | exact ld_ownN 7 rfl rfl | exact ld_ownGN 0 rfl rfl | exact ld_ownGN 1 rfl rfl | exact ld_immT (by assumption) (by assumption))) ?_
        refine ow_cv rfl (gd_go rfl s15) (ex_callf rfl (fun w h => callB ((pRight x h.im hb0)))) ?_
        refine ow_val rfl (gd_go rfl s15) (ex_not rfl) ?_
        refine ow_val rfl rfl (ex_pickf rfl s15 rfl) ?_
        refine ow_nil ?_
        exact qw_meet (subL_meet 13 19 (lkv rfl (by first | rfl | (simp_all; done) | (simp_all <;> omega))) rfl rfl) (fun w h => h)
  ·
    refine cw_cond rfl (fun c19 => ?_) (fun c19 => ?_)
    ·
      refine cw_seq ?_
      refine cw_region ?_
      refine ow_val rfl rfl (ex_build (parts := []) (cells := #[.int .i64 0, .int .i64 0, .slice none 0 0, .slice none 0 0]) rfl (by kernel_rfl)) ?_
      refine ow_u rfl (exu_storeN 0 (cs := [.int .i64 0, .int .i64 0, .slice none 0 0, .slice none 0 0]) rfl rfl rfl rfl (by intro u hu; simp at hu; rcases hu with rfl | rfl <;> rfl) rfl) ?_
      refine ow_val rfl rfl (ex_assign rfl) ?_
      refine ow_nil ?_
      refine qw_seq ?_
      refine cw_ret ?_
      refine qw_then_ret ?_
      refine qw_retC1 rfl rfl (ld_ownN 0 rfl rfl) rfl (fun w' h => ?_)
      have e : pow t x = (zeroT, false) := by
        unfold pow
        rw [if_neg]
        rintro ⟨h1, h2, h3, _⟩
        simp [h1, h2, h3] at c19
      rw [e]
      exact h.gives (Le.refl _) (Fresh.refl _ _) ⟨_, rfl, TermC.mk (by omega) (by omega) (BytesV.nil σ) (KidsV.nil σ)⟩
    ·
      simp at c19
      obtain ⟨hop, hr1, hr2⟩ := c19
      have hk4 := right_exps hr1 hop
      have hlen : t.kids.length < maxKids := by unfold maxKids; omega
      obtain ⟨hnp, hsl⟩ := (pow_prog hr1 hr2).resolve_right (fun h => h hop)
      refine cw_skip ?_
      refine qw_seq ?_
      refine cw_seq ?_
      refine flow_sound 15 (by kernel_rfl) ?_
      refine flow_val rfl (ex_field rfl) ?_
      refine flow_val rfl (ex_load1 rfl (by first | exact ld_own1 0 rfl rfl | exact ld_own1 1 rfl rfl | exact ld_own1 2 rfl rfl | exact ld_own1 3 rfl rfl | exact ld_own1 4 rfl rfl | exact ld_own1 5 rfl rfl | exact ld_own1 6 rfl rfl | exact ld_own1 7 rfl rfl | exact ld_ownG1 0 rfl rfl | exact ld_ownG1 1 rfl rfl | exact ld_imm1 (by assumption))) ?_
      refine flow_val rfl (ex_field rfl) ?_
      refine flow_val rfl (ex_load1 rfl (by first | exact ld_own1 0 rfl rfl | exact ld_own1 1 rfl rfl | exact ld_own1 2 rfl rfl | exact ld_own1 3 rfl rfl | exact ld_own1 4 rfl rfl | exact ld_own1 5 rfl rfl | exact ld_own1 6 rfl rfl | exact ld_own1 7 rfl rfl | exact ld_ownG1 0 rfl rfl | exact ld_ownG1 1 rfl rfl | exact ld_imm1 (by assumption))) ?_
      refine flow_val rfl (ex_len (ty := 0) rfl) ?_
      refine flow_val rfl (ex_field rfl) ?_
      refine flow_val rfl (ex_load1 rfl (by first | exact ld_own1 0 rfl rfl | exact ld_own1 1 rfl rfl | exact ld_own1 2 rfl rfl | exact ld_own1 3 rfl rfl | exact ld_own1 4 rfl rfl | exact ld_own1 5 rfl rfl | exact ld_own1 6 rfl rfl | exact ld_own1 7 rfl rfl | exact ld_ownG1 0 rfl rfl | exact ld_ownG1 1 rfl rfl | exact ld_imm1 (by assumption))) ?_
      refine flow_val rfl (ex_len (ty := 0) rfl) ?_
      refine flow_val rfl (ex_slice_him rfl rfl rfl (Nat.le_refl _) hc) ?_
      refine flow_val rfl (ex_loadR rfl (by first | exact ld_ownN 0 rfl rfl | exact ld_ownN 1 rfl rfl | exact ld_ownN 2 rfl rfl | exact ld_ownN 3 rfl rfl | exact ld_ownN 4 rfl rfl | exact ld_ownN 5 rfl rfl | exact ld_ownN 6 rfl rfl | exact ld_ownN 7 rfl rfl | exact ld_ownGN 0 rfl rfl | exact ld_ownGN 1 rfl rfl | exact ld_immT (by assumption) (by assumption))) ?_
      refine flow_sat QR.pers (obk (ob_one rfl rfl hb0)) ?_
      refine flow_open (Rep := RepK (t.kids ++ [x])) 31 rfl (fun v31 τ hl hf hr => ?_) ?_
      · obtain ⟨bo, co, rfl, hco, htc⟩ := hr
        exact ob_appK rfl rfl rfl rfl (hrow.le hl) (hsrc.imp id fun ⟨b, f, e, h⟩ => ⟨b, f, e, h.le hl⟩) hco htc hlen (by omega)
      refine flow_open (Rep := RepT (.mk 7 0 [] (t.kids ++ [x]))) 32 rfl (fun v32 τ hl hf hr => ?_) ?_
      · have hr' := hr
        obtain ⟨q, cq, rfl, _, _⟩ := KidsV.slice hr'
        exact ob_valQ rfl (ex_build (parts := [(0, _), (3, _)]) (cells := #[.int .i64 7, .int .i64 0, .slice none 0 0, .slice q (t.kids ++ [x]).length cq]) rfl (by kernel_rfl)) ⟨_, rfl, TermC.mk (by omega) (by omega) (BytesV.nil τ) hr⟩
      refine flow_open (Rep := RepT (norm (.mk 7 0 [] (t.kids ++ [x])))) 33 rfl (fun v33 τ hl hf hr => ?_) ?_
      · obtain ⟨cq, rfl, htq⟩ := hr
        exact ob_cr rfl (ex_callf rfl (fun w h => callR (pNorm pSortsS (by unfold maxKids; omega) _ hsl h.im htq)))
      refine flow_sat QA.pers (obk (ob_allocA rfl)) ?_
      refine flow_nil ?_
      refine fin_allocT (by rw [hnp]; exact powT_noZ hr1 hr2) (fun b6 cn τ hl hf htn => ?_)
      skip
      refine fin_drop ?_
      refine fin_drop ?_
      refine fin_drop ?_
      refine fin_is ?_
      refine fin_is ?_
      refine fin_is ?_
      refine fin_is ?_
      refine fin_is ?_
      refine fin_is ?_
      refine fin_is ?_
      refine fin_is ?_
      refine fin_is ?_
      refine fin_is ?_
      refine fin_nil ?_
      rw [hnp] at htn
      have htn' := htn
      obtain ⟨d6, k6, rfl, _, _, _, _⟩ := htn'.opn
      refine ow_u rfl (exu_storeN 0 rfl rfl rfl rfl htn.one rfl) ?_
      refine ow_nil ?_
      refine qw_seq ?_
      refine cw_seq ?_
      refine cw_seq ?_
      refine cw_region ?_
      refine ow_val rfl rfl (ex_loadR rfl (by first | exact ld_ownN 0 rfl rfl | exact ld_ownN 1 rfl rfl | exact ld_ownN 2 rfl rfl | exact ld_ownN 3 rfl rfl | exact ld_ownN 4 rfl rfl | exact ld_ownN 5 rfl rfl | exact ld_ownN 6 rfl rfl | exact ld_ownN 7 rfl rfl | exact ld_ownGN 0 rfl rfl | exact ld_ownGN 1 rfl rfl | exact ld_immT (by assumption) (by assumption))) ?_
      refine ow_cv rfl rfl (ex_callf rfl (fun w h => callB ((pRight (powT t x) h.im htn)))) ?_
      refine ow_val rfl rfl (ex_not rfl) ?_
      refine ow_nil ?_
      refine qw_seq ?_
      refine cw_cond rfl (fun c37 => ?_) (fun c37 => ?_)
      ·
        refine cw_seq ?_
        refine cw_region ?_
        refine ow_val rfl rfl (ex_build (parts := []) (cells := #[.int .i64 0, .int .i64 0, .slice none 0 0, .slice none 0 0]) rfl (by kernel_rfl)) ?_
        refine ow_u rfl (exu_storeN 1 (cs := [.int .i64 0, .int .i64 0, .slice none 0 0, .slice none 0 0]) rfl rfl rfl rfl (by intro u hu; simp at hu; rcases hu with rfl | rfl <;> rfl) rfl) ?_
        refine ow_val rfl rfl (ex_assign rfl) ?_
        refine ow_nil ?_
        refine qw_seq ?_
        refine cw_ret ?_
        refine qw_then_ret ?_
        refine qw_retC1 rfl rfl (ld_ownN 1 rfl rfl) rfl (fun w' h => ?_)
        have e : pow t x = (zeroT, false) := by
          unfold pow
          rw [if_neg]
          rintro ⟨_, _, _, h4⟩
          rw [h4] at c37
          cases c37
        rw [e]
        exact h.gives hl hf ⟨_, rfl, TermC.mk (by omega) (by omega) (BytesV.nil τ) (KidsV.nil τ)⟩
      ·
        refine cw_skip ?_
        refine qw_seq ?_
        refine cw_seq ?_
        refine cw_region ?_
        refine ow_val rfl rfl (ex_loadR rfl (by first | exact ld_ownN 0 rfl rfl | exact ld_ownN 1 rfl rfl | exact ld_ownN 2 rfl rfl | exact ld_ownN 3 rfl rfl | exact ld_ownN 4 rfl rfl | exact ld_ownN 5 rfl rfl | exact ld_ownN 6 rfl rfl | exact ld_ownN 7 rfl rfl | exact ld_ownGN 0 rfl rfl | exact ld_ownGN 1 rfl rfl | exact ld_immT (by assumption) (by assumption))) ?_
        refine ow_u rfl (exu_storeN 1 rfl rfl rfl rfl htn.one rfl) ?_
        refine ow_val rfl rfl (ex_assign rfl) ?_
        refine ow_nil ?_
        refine qw_seq ?_
        refine cw_ret ?_
        refine qw_retC1 rfl rfl (ld_ownN 1 rfl rfl) rfl (fun w' h => ?_)
        have e : pow t x = (powT t x, true) := by
          unfold pow
          rw [if_pos ⟨hr1, hr2, hop, by simpa using c37⟩]
        rw [e]
        exact h.gives hl hf ⟨_, rfl, htn⟩
end Go.Proofs.YtnjomdjkbbhdoaaDoor
