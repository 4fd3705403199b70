/-
  Walks of the reference: a power of a power.
  No condition.
-/
import Derived.Test.YtnjomdjkbbhdoaaWa5
namespace Go.Proofs.Ytnjomdjkbbhdoaa
open Go.RowKit
set_option linter.unusedVariables false
set_option linter.unusedSimpArgs false
set_option maxRecDepth 100000

set_option maxHeartbeats 400000 in
theorem rPow {t x : T} {σ : Hp} {ca cb : List Value} {w : World} (hi : Imm σ w) (ha : TermC σ ca t) (hb : TermC σ cb x) :
    Calls Try.prog 24 #[.agg ca.toArray, .agg cb.toArray] w (GiveR (RepTB (pow t x).1 (pow t x).2) σ w) := by
  have ha0 := ha
  have hb0 := hb
  obtain ⟨dv, kv, rfl, ho, hn, hd, hk⟩ := ha.opn
  obtain ⟨dv', kv', rfl, ho', hn', hd', hk'⟩ := hb.opn
  refine enter (St w (fun _ => False) σ [] []) Try.func24 rfl Try.ntmps24 rfl (St.start hi) ?_
  refine cw_seq ?_
  refine cw_region ?_
  refine ow_blk rfl rfl (exw_box rfl) ?_; intro b2
  refine ow_blk rfl rfl (exw_box rfl) ?_; intro b3
  refine ow_blk rfl rfl exw_alloc ?_; intro b4
  refine ow_val rfl rfl (ex_assign rfl) ?_
  refine ow_nil ?_
  refine qw_seq ?_
  refine cw_seq ?_
  refine cw_region ?_
  refine ow_val rfl rfl (ex_loadR rfl (by first | exact ld_ownN 0 rfl rfl | exact ld_ownN 1 rfl rfl | exact ld_ownN 2 rfl rfl | exact ld_ownN 3 rfl rfl | exact ld_ownN 4 rfl rfl | exact ld_ownN 5 rfl rfl | exact ld_ownN 6 rfl rfl | exact ld_ownN 7 rfl rfl | exact ld_immT (by assumption) (by assumption))) ?_
  refine ow_cv rfl rfl (ex_callf rfl (fun w h => callB ((rRight t h.im ha0)))) ?_
  refine ow_val rfl rfl (ex_assign rfl) ?_
  refine ow_nil ?_
  refine qw_seq ?_
  refine cw_seq ?_
  refine cw_region ?_
  refine ow_val rfl rfl (ex_loadR rfl (by first | exact ld_ownN 0 rfl rfl | exact ld_ownN 1 rfl rfl | exact ld_ownN 2 rfl rfl | exact ld_ownN 3 rfl rfl | exact ld_ownN 4 rfl rfl | exact ld_ownN 5 rfl rfl | exact ld_ownN 6 rfl rfl | exact ld_ownN 7 rfl rfl | exact ld_immT (by assumption) (by assumption))) ?_
  refine ow_cv rfl rfl (ex_callf rfl (fun w h => callB ((rRight x h.im hb0)))) ?_
  refine ow_val rfl rfl (ex_assign rfl) ?_
  refine ow_nil ?_
  refine qw_seq ?_
  refine cw_seq ?_
  refine cw_cut1 24 (.bool (!right t || (!right x || decide (t.op ≠ 7)))) ?_ ?_
  ·
    refine cw_region ?_
    refine ow_val rfl rfl (ex_move rfl) ?_
    refine ow_val rfl rfl (ex_not rfl) ?_
    refine ow_val rfl rfl (ex_move rfl) ?_
    refine ow_split (g := some (2, false)) rfl (fun s16 => ?_) (fun s16 => ?_)
    ·
      refine ow_skip rfl (gd_no rfl s16) ?_
      refine ow_skip rfl (gd_no rfl s16) ?_
      refine ow_val rfl rfl (ex_pickt rfl s16 rfl) ?_
      refine ow_val rfl rfl (ex_move rfl) ?_
      refine ow_skip rfl rfl ?_
      refine ow_skip rfl rfl ?_
      refine ow_skip rfl rfl ?_
      refine ow_val rfl rfl (ex_pick_t rfl rfl) ?_
      refine ow_nil ?_
      exact qw_meet (subL_meet 11 24 (lkv rfl (by first | rfl | (simp_all; done) | (simp_all <;> omega))) rfl rfl) (fun w h => h)
    ·
      refine ow_val rfl (gd_go rfl s16) (ex_move rfl) ?_
      refine ow_val rfl (gd_go rfl s16) (ex_not rfl) ?_
      refine ow_val rfl rfl (ex_pickf rfl s16 rfl) ?_
      refine ow_val rfl rfl (ex_move rfl) ?_
      refine ow_split (g := some (6, false)) rfl (fun s20 => ?_) (fun s20 => ?_)
      ·
        refine ow_skip rfl (gd_no rfl s20) ?_
        refine ow_skip rfl (gd_no rfl s20) ?_
        refine ow_skip rfl (gd_no rfl s20) ?_
        refine ow_val rfl rfl (ex_pickt rfl s20 rfl) ?_
        refine ow_nil ?_
        exact qw_meet (subL_meet 11 24 (lkv rfl (by first | rfl | (simp_all; done) | (simp_all <;> omega))) rfl rfl) (fun w h => h)
      ·
        refine ow_val rfl (gd_go rfl s20) (ex_field rfl) ?_
        refine ow_val rfl (gd_go rfl s20) (ex_load1 rfl (by first | exact ld_own1 0 rfl rfl | exact ld_own1 1 rfl rfl | exact ld_own1 2 rfl rfl | exact ld_own1 3 rfl rfl | exact ld_own1 4 rfl rfl | exact ld_own1 5 rfl rfl | exact ld_own1 6 rfl rfl | exact ld_own1 7 rfl rfl | exact ld_imm1 (by assumption))) ?_
        refine ow_val rfl (gd_go rfl s20) (ex_neq rfl rfl) ?_
        refine ow_val rfl rfl (ex_pickf rfl s20 rfl) ?_
        refine ow_nil ?_
        exact qw_meet (subL_meet 11 24 (lkv rfl (by first | rfl | (simp_all; done) | (simp_all <;> omega))) rfl rfl) (fun w h => h)
  ·
    refine cw_cond rfl (fun c24 => ?_) (fun c24 => ?_)
    ·
      refine cw_seq ?_
      refine cw_region ?_
      refine ow_val rfl rfl (ex_build (parts := []) (cells := #[.int .i64 0, .int .i64 0, .slice none 0 0, .slice none 0 0]) rfl (by kernel_rfl)) ?_
      refine ow_u rfl (exu_storeN 0 (cs := [.int .i64 0, .int .i64 0, .slice none 0 0, .slice none 0 0]) rfl rfl rfl rfl (by intro u hu; simp at hu; rcases hu with rfl | rfl <;> rfl) rfl) ?_
      refine ow_val rfl rfl (ex_assign rfl) ?_
      refine ow_nil ?_
      refine qw_seq ?_
      refine cw_ret ?_
      refine qw_then_ret ?_
      refine qw_retC1 rfl rfl (ld_ownN 0 rfl rfl) rfl (fun w' h => ?_)
      have e : pow t x = (zeroT, false) := by
        unfold pow
        rw [if_neg]
        rintro ⟨h1, h2, h3, _⟩
        simp [h1, h2, h3] at c24
      rw [e]
      exact h.gives (Le.refl _) (Fresh.refl _ _) ⟨_, rfl, TermC.mk (by omega) (by omega) (BytesV.nil σ) (KidsV.nil σ)⟩
    ·
      simp at c24
      obtain ⟨hr1, hr2, hop⟩ := c24
      have hlen : t.kids.length < maxKids := by
        have := right_exps hr1 hop
        unfold maxKids; omega
      refine cw_skip ?_
      refine qw_seq ?_
      refine cw_seq ?_
      refine cw_region ?_
      refine ow_val rfl rfl (ex_field rfl) ?_
      refine ow_val rfl rfl (ex_load1 rfl (by first | exact ld_own1 0 rfl rfl | exact ld_own1 1 rfl rfl | exact ld_own1 2 rfl rfl | exact ld_own1 3 rfl rfl | exact ld_own1 4 rfl rfl | exact ld_own1 5 rfl rfl | exact ld_own1 6 rfl rfl | exact ld_own1 7 rfl rfl | exact ld_imm1 (by assumption))) ?_
      refine ow_val rfl rfl (ex_loadR rfl (by first | exact ld_ownN 0 rfl rfl | exact ld_ownN 1 rfl rfl | exact ld_ownN 2 rfl rfl | exact ld_ownN 3 rfl rfl | exact ld_ownN 4 rfl rfl | exact ld_ownN 5 rfl rfl | exact ld_ownN 6 rfl rfl | exact ld_ownN 7 rfl rfl | exact ld_immT (by assumption) (by assumption))) ?_
      refine ow_cr rfl rfl (ex_callf rfl (fun w h => callR (rPut h.im hk hb0 hlen))) (fun v29 τ hl hf hr29 => ?_)
      have hr29' := hr29
      obtain ⟨q, n29, rfl, _, _⟩ := KidsV.slice hr29'
      have htp : TermC τ [.int .i64 7, .int .i64 0, .slice none 0 0, .slice q (putB t.kids x).length n29] (powT t x) := TermC.mk (by omega) (by omega) (BytesV.nil τ) hr29
      refine ow_val rfl rfl (ex_build (parts := [(0, _), (3, _)]) (cells := #[.int .i64 7, .int .i64 0, .slice none 0 0, .slice q (putB t.kids x).length n29]) rfl (by kernel_rfl)) ?_
      refine ow_blk rfl rfl exw_alloc ?_; intro b8
      refine ow_u rfl (exu_storeN 0 (cs := [.int .i64 7, .int .i64 0, .slice none 0 0, .slice q (putB t.kids x).length n29]) rfl rfl rfl rfl (TermC.one htp) rfl) ?_
      refine ow_nil ?_
      refine qw_seq ?_
      refine cw_seq ?_
      refine cw_region ?_
      refine ow_val rfl rfl (ex_loadR rfl (by first | exact ld_ownN 0 rfl rfl | exact ld_ownN 1 rfl rfl | exact ld_ownN 2 rfl rfl | exact ld_ownN 3 rfl rfl | exact ld_ownN 4 rfl rfl | exact ld_ownN 5 rfl rfl | exact ld_ownN 6 rfl rfl | exact ld_ownN 7 rfl rfl | exact ld_immT (by assumption) (by assumption))) ?_
      refine ow_cv rfl rfl (ex_callf rfl (fun w h => callB ((rRight (powT t x) h.im htp)))) ?_
      refine ow_val rfl rfl (ex_assign rfl) ?_
      refine ow_nil ?_
      refine qw_seq ?_
      refine cw_seq ?_
      refine cw_seq ?_
      refine cw_region ?_
      refine ow_val rfl rfl (ex_move rfl) ?_
      refine ow_val rfl rfl (ex_not rfl) ?_
      refine ow_nil ?_
      refine qw_seq ?_
      refine cw_cond rfl (fun c34 => ?_) (fun c34 => ?_)
      ·
        refine cw_seq ?_
        refine cw_region ?_
        refine ow_val rfl rfl (ex_build (parts := []) (cells := #[.int .i64 0, .int .i64 0, .slice none 0 0, .slice none 0 0]) rfl (by kernel_rfl)) ?_
        refine ow_u rfl (exu_storeN 1 (cs := [.int .i64 0, .int .i64 0, .slice none 0 0, .slice none 0 0]) rfl rfl rfl rfl (by intro u hu; simp at hu; rcases hu with rfl | rfl <;> rfl) rfl) ?_
        refine ow_val rfl rfl (ex_assign rfl) ?_
        refine ow_nil ?_
        refine qw_seq ?_
        refine cw_ret ?_
        refine qw_then_ret ?_
        refine qw_retC1 rfl rfl (ld_ownN 1 rfl rfl) rfl (fun w' h => ?_)
        have e : pow t x = (zeroT, false) := by
          unfold pow
          rw [if_neg]
          rintro ⟨_, _, _, h4⟩
          rw [h4] at c34
          cases c34
        rw [e]
        exact h.gives hl hf ⟨_, rfl, TermC.mk (by omega) (by omega) (BytesV.nil τ) (KidsV.nil τ)⟩
      ·
        refine cw_skip ?_
        refine qw_seq ?_
        refine cw_seq ?_
        refine cw_region ?_
        refine ow_val rfl rfl (ex_loadR rfl (by first | exact ld_ownN 0 rfl rfl | exact ld_ownN 1 rfl rfl | exact ld_ownN 2 rfl rfl | exact ld_ownN 3 rfl rfl | exact ld_ownN 4 rfl rfl | exact ld_ownN 5 rfl rfl | exact ld_ownN 6 rfl rfl | exact ld_ownN 7 rfl rfl | exact ld_immT (by assumption) (by assumption))) ?_
        refine ow_u rfl (exu_storeN 1 (cs := [.int .i64 7, .int .i64 0, .slice none 0 0, .slice q (putB t.kids x).length n29]) rfl rfl rfl rfl (TermC.one htp) rfl) ?_
        refine ow_val rfl rfl (ex_assign rfl) ?_
        refine ow_nil ?_
        refine qw_seq ?_
        refine cw_ret ?_
        refine qw_retC1 rfl rfl (ld_ownN 1 rfl rfl) rfl (fun w' h => ?_)
        have e : pow t x = (powT t x, true) := by
          unfold pow
          rw [if_pos ⟨hr1, hr2, hop, by simpa using c34⟩]
        rw [e]
        exact h.gives hl hf ⟨_, rfl, htp⟩
end Go.Proofs.Ytnjomdjkbbhdoaa
