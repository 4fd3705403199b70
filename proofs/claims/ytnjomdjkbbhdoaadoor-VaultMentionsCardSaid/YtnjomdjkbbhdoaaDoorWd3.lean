/-
  Walks: a number's bytes.
  No condition.
-/
import Derived.Test.YtnjomdjkbbhdoaaDoorWd2
import Derived.Test.YtnjomdjkbbhdoaaDoorMC
namespace Go.Proofs.YtnjomdjkbbhdoaaDoor
open Go.RowKit
set_option linter.unusedVariables false
set_option linter.unusedSimpArgs false
set_option maxRecDepth 100000

set_option maxHeartbeats 400000 in
theorem pNumBytes {n : Int} {σ : Hp} {w : World} (hi : Imm σ w) : Calls Tryd.prog 38 #[.int .i64 n] w (GiveR (RepBN (bytesN n)) σ w) := by
  refine enter (St w (fun _ => False) σ [] []) Tryd.func38 rfl Tryd.ntmps38 rfl (St.start hi) ?_
  refine cw_seq ?_
  refine cw_region ?_
  refine ow_val rfl rfl (ex_assign rfl) ?_
  refine ow_nil ?_
  refine qw_seq ?_
  refine cw_seq ?_
  refine cw_seq ?_
  refine cw_region ?_
  refine ow_val rfl rfl (ex_move rfl) ?_
  refine ow_val rfl rfl (ex_lss rfl rfl) ?_
  refine ow_val rfl rfl (ex_move rfl) ?_
  refine ow_split (g := some (2, false)) rfl (fun s5 => ?_) (fun s5 => ?_)
  ·
    refine ow_skip rfl (gd_no rfl s5) ?_
    refine ow_skip rfl (gd_no rfl s5) ?_
    refine ow_val rfl rfl (ex_pickt rfl s5 rfl) ?_
    refine ow_nil ?_
    refine qw_seq ?_
    refine cw_cond_t rfl ?_
    refine cw_seq ?_
    refine cw_region ?_
    refine ow_val rfl rfl (ex_assign rfl) ?_
    refine ow_nil ?_
    refine qw_seq ?_
    refine cw_ret ?_
    refine qw_then_ret ?_
    refine qw_ret1 rfl rfl (fun w' h => ?_)
    rw [bytesN_out (by have := of_decide_eq_true s5; omega)]
    exact h.gives (Le.refl _) (Fresh.refl _ _) ⟨BytesV.nil σ, fun _ => rfl⟩
  ·
    refine ow_val rfl (gd_go rfl s5) (ex_move rfl) ?_
    refine ow_val rfl (gd_go rfl s5) (ex_geq rfl rfl) ?_
    refine ow_val rfl rfl (ex_pickf rfl s5 rfl) ?_
    refine ow_nil ?_
    refine qw_seq ?_
    refine cw_cond rfl (fun c8 => ?_) (fun c8 => ?_)
    ·
      refine cw_seq ?_
      refine cw_region ?_
      refine ow_val rfl rfl (ex_assign rfl) ?_
      refine ow_nil ?_
      refine qw_seq ?_
      refine cw_ret ?_
      refine qw_then_ret ?_
      refine qw_ret1 rfl rfl (fun w' h => ?_)
      rw [bytesN_out (by have := of_decide_eq_true c8; omega)]
      exact h.gives (Le.refl _) (Fresh.refl _ _) ⟨BytesV.nil σ, fun _ => rfl⟩
    ·
      refine cw_skip ?_
      refine qw_seq ?_
      refine cw_seq ?_
      obtain ⟨hn0, hn1⟩ : 0 ≤ n ∧ n < 281474976710656 := by
        have h1 := of_decide_eq_false s5
        have h2 := of_decide_eq_false c8
        omega
      obtain ⟨m, rfl⟩ : ∃ m : Nat, n = (m : Int) := ⟨n.toNat, by omega⟩
      refine cw_region ?_
      refine ow_val rfl rfl (ex_move rfl) ?_
      refine ow_val rfl rfl (ex_shrN (s := 40) rfl rfl (by omega)) ?_
      refine ow_val rfl rfl (ex_toB Tryd.underlying3 Tryd.underlying5 rfl) ?_
      refine ow_val rfl rfl (ex_move rfl) ?_
      refine ow_val rfl rfl (ex_shrN (s := 32) rfl rfl (by omega)) ?_
      refine ow_val rfl rfl (ex_toB Tryd.underlying3 Tryd.underlying5 rfl) ?_
      refine ow_val rfl rfl (ex_move rfl) ?_
      refine ow_val rfl rfl (ex_shrN (s := 24) rfl rfl (by omega)) ?_
      refine ow_val rfl rfl (ex_toB Tryd.underlying3 Tryd.underlying5 rfl) ?_
      refine ow_val rfl rfl (ex_move rfl) ?_
      refine ow_val rfl rfl (ex_shrN (s := 16) rfl rfl (by omega)) ?_
      refine ow_val rfl rfl (ex_toB Tryd.underlying3 Tryd.underlying5 rfl) ?_
      refine ow_val rfl rfl (ex_move rfl) ?_
      refine ow_val rfl rfl (ex_shrN (s := 8) rfl rfl (by omega)) ?_
      refine ow_val rfl rfl (ex_toB Tryd.underlying3 Tryd.underlying5 rfl) ?_
      refine ow_val rfl rfl (ex_move rfl) ?_
      refine ow_val rfl rfl (ex_toB Tryd.underlying3 Tryd.underlying5 rfl) ?_
      refine ow_slit rfl rfl (exw_slitN (vs := (eightB m).map byteV) (by kernel_rfl) (bytes_cells _) rfl (by decide) (by decide)) ?_; intro b26
      refine ow_val rfl rfl (ex_assign rfl) ?_
      refine ow_nil ?_
      refine qw_seq ?_
      refine cw_ret ?_
      refine qw_ret1 rfl rfl (fun w' h => ?_)
      obtain ⟨σ', h1, h2, h3, h4⟩ := freezeB (Gr := []) (St.toG h) (fun _ h => h) (OwnSl.lit (xs := (eightB m).map byteV) (by simp [eightB, maxLen])) rfl (by simp [eightB, maxData])
      refine h2.gives h1 h4 ?_
      rw [bytesN_in (by omega), ← eightB_is]
      exact ⟨h3, fun hn => by cases hn⟩

set_option maxHeartbeats 400000 in
theorem pHead6 {σ : Hp} {w : World} (hi : Imm σ w) (htab : TabC Tryd.prog σ) : Calls Tryd.prog 12 #[] w fun e w' => e = .returned (.bool true) ∧ Below w.heap.size w w' := by
  refine enter (St w (fun _ => False) σ [] []) Tryd.func12 rfl Tryd.ntmps12 rfl (St.start hi) ?_
  refine cw_seq ?_
  refine cw_region ?_
  refine ow_val rfl rfl (ex_assign rfl) ?_
  refine ow_nil ?_
  refine qw_seq ?_
  refine cw_seq ?_
  refine cw_region ?_
  refine ow_ck0E rfl rfl (ex_callf rfl (fun w h => pNew h.im)) (fun v4 σ4 K4 hl4 hf4 hr4 => ?_)
  obtain ⟨b, rfl, hv4⟩ := hr4
  refine ow_val rfl rfl (ex_assign rfl) ?_
  refine ow_nil ?_
  refine qw_seq ?_
  refine cw_seq ?_
  refine cw_seq ?_
  refine cw_region ?_
  refine ow_val rfl rfl (ex_move rfl) ?_
  refine ow_val rfl rfl (ex_ptrnil rfl) ?_
  refine ow_nil ?_
  refine qw_seq ?_
  refine cw_cond rfl (fun c6 => ?_) (fun c6 => ?_)
  ·
    simp at c6
  ·
    refine cw_skip ?_
    refine qw_seq ?_
    refine cw_seq ?_
    refine cw_region ?_
    refine ow_val rfl rfl (ex_move rfl) ?_
    refine ow_val rfl rfl (ex_build (parts := [(0, _), (1, _)]) (cells := #[.int .i64 1, .int .i64 1, .slice none 0 0, .slice none 0 0]) rfl (by kernel_rfl)) ?_
    refine ow_slit rfl rfl (exw_slit1 rfl rfl) ?_; intro b10
    refine ow_frzH (fun _ h => h) (fun σ5 hl5 hf5 hb10 => ?_)
    have htp : TermC σ5 [.int .i64 2, .int .i64 0, .slice none 0 0, .slice (some ⟨b10, 0, none⟩) 1 1] pubOne := TermC.mk (by omega) (by omega) (BytesV.nil _) (KidsV.one (CellsAt.of4 hb10) (atomOne_c _))
    refine ow_val rfl rfl (ex_build (parts := [(0, _), (3, _)]) (cells := #[.int .i64 2, .int .i64 0, .slice none 0 0, .slice (some ⟨b10, 0, none⟩) 1 1]) rfl (by kernel_rfl)) ?_
    refine ow_ckE rfl rfl (ex_callf rfl (fun w h => pIntern pubOne h.hasE ((htab.le hl4).le hl5) (hv4.le hl5) htp)) (fun v12 σ12 K12 hl12 hf12 hr12 => ?_)
    rw [intern_pub] at hr12
    obtain ⟨rfl, hv12⟩ := hr12
    refine ow_val rfl rfl (ex_move rfl) ?_
    refine ow_val rfl rfl (ex_extract rfl rfl) ?_
    refine ow_val rfl rfl (ex_extract rfl rfl) ?_
    refine ow_val rfl rfl (ex_assign rfl) ?_
    refine ow_val rfl rfl (ex_assign rfl) ?_
    refine ow_nil ?_
    refine qw_seq ?_
    refine cw_seq ?_
    refine cw_region ?_
    refine ow_val rfl rfl (ex_move rfl) ?_
    refine ow_val rfl rfl (ex_eql rfl rfl) ?_
    refine ow_val rfl rfl (ex_move rfl) ?_
    refine ow_split (g := some (2, true)) rfl (fun s17 => ?_) (fun s17 => ?_)
    ·
      refine ow_val rfl (gd_go rfl s17) (ex_move rfl) ?_
      refine ow_val rfl (gd_go rfl s17) (ex_eql rfl rfl) ?_
      refine ow_val rfl rfl (ex_pickt rfl s17 rfl) ?_
      refine ow_val rfl rfl (ex_move rfl) ?_
      refine ow_split (g := some (6, true)) rfl (fun s21 => ?_) (fun s21 => ?_)
      ·
        refine ow_val rfl (gd_go rfl s21) (ex_move rfl) ?_
        refine ow_cv rfl (gd_go rfl s21) (ex_callf rfl (fun w h => callB (pLen h.hasE.exts (hv12.seenX h.hasE).choose_spec.choose_spec.choose_spec))) ?_
        refine ow_val rfl (gd_go rfl s21) (ex_eql rfl rfl) ?_
        refine ow_val rfl rfl (ex_pickt rfl s21 rfl) ?_
        refine ow_val rfl rfl (ex_move rfl) ?_
        refine ow_split (g := some (11, true)) rfl (fun s26 => ?_) (fun s26 => ?_)
        ·
          refine ow_cr rfl (gd_go rfl s26) (ex_callf rfl (fun w h => callR (pNumBytes h.im))) (fun v27 τ hl hf hr27 => ?_)
          obtain ⟨q27, c27, rfl, _, _⟩ := hr27.1.slice
          refine ow_val rfl (gd_go rfl s26) (ex_len (ty := 0) rfl) ?_
          refine ow_val rfl (gd_go rfl s26) (ex_eql rfl rfl) ?_
          refine ow_val rfl rfl (ex_pickt rfl s26 rfl) ?_
          refine ow_val rfl rfl (ex_assign rfl) ?_
          refine ow_nil ?_
          refine qw_seq ?_
          refine cw_ret ?_
          refine qw_ret1 rfl rfl (fun w' h => ⟨congrArg (fun z => Ending.returned (.bool z)) ?_, h.ag.below⟩)
          rfl
        ·
          exact absurd s26 (by decide)
      ·
        exact absurd s21 (by decide)
    ·
      exact absurd s17 (by decide)
end Go.Proofs.YtnjomdjkbbhdoaaDoor
