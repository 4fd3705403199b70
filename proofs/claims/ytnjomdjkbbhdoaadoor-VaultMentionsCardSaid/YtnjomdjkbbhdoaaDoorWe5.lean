/-
  Walks of the laws: bytes, mentions.
  No condition.
-/
import Derived.Test.YtnjomdjkbbhdoaaDoorWe3
import Derived.Test.YtnjomdjkbbhdoaaDoorWe4
namespace Go.Proofs.YtnjomdjkbbhdoaaDoor
open Go.RowKit
set_option linter.unusedVariables false
set_option linter.unusedSimpArgs false
set_option maxRecDepth 100000

set_option maxHeartbeats 2000000 in
theorem lawBytes (n : Int) (d : List UInt8) (below : Int) {v : Value} {σ : Hp} {w : World} (hi : Imm σ w) (htab : TabC Tryd.prog σ) (hd : BytesV σ v d) : Calls Tryd.prog 10 #[.int .i64 n, v, .int .i64 below] w fun e w' => e = .returned (.bool true) ∧ Below w.heap.size w w' := by
  have hd0 := hd
  obtain ⟨p, c, rfl, hc, hmd⟩ := hd.slice
  refine enter (St w (fun _ => False) σ [] []) Tryd.func10 rfl Tryd.ntmps10 rfl (St.start hi) ?_
  refine cw_seq ?_
  refine cw_region ?_
  refine ow_val rfl rfl (ex_assign rfl) ?_
  refine ow_nil ?_
  refine qw_seq ?_
  refine cw_seq ?_
  refine cw_region ?_
  refine ow_cv rfl rfl (ex_callf rfl (fun w h => callB ((pHead6 h.im htab)))) ?_
  refine ow_val rfl rfl (ex_assign rfl) ?_
  refine ow_nil ?_
  refine qw_seq ?_
  refine cw_seq ?_
  refine cw_region ?_
  refine ow_val rfl rfl (ex_move rfl) ?_
  refine ow_cv rfl rfl (ex_callf rfl (fun w h => callB ((pNumber h.im hd0)))) ?_
  refine ow_val rfl rfl (ex_move rfl) ?_
  refine ow_val rfl rfl (ex_extract rfl rfl) ?_
  refine ow_val rfl rfl (ex_extract rfl rfl) ?_
  refine ow_val rfl rfl (ex_assign rfl) ?_
  refine ow_val rfl rfl (ex_assign rfl) ?_
  refine ow_nil ?_
  refine qw_seq ?_
  refine cw_seq ?_
  refine cw_region ?_
  refine ow_val rfl rfl (ex_move rfl) ?_
  refine ow_cv rfl rfl (ex_callf rfl (fun w h => callB ((rNumber h.im hd0)))) ?_
  refine ow_val rfl rfl (ex_move rfl) ?_
  refine ow_val rfl rfl (ex_extract rfl rfl) ?_
  refine ow_val rfl rfl (ex_extract rfl rfl) ?_
  refine ow_val rfl rfl (ex_assign rfl) ?_
  refine ow_val rfl rfl (ex_assign rfl) ?_
  refine ow_nil ?_
  refine qw_seq ?_
  refine cw_seq ?_
  refine cw_seq ?_
  refine cw_region ?_
  refine ow_val rfl rfl (ex_move rfl) ?_
  refine ow_val rfl rfl (ex_len (ty := 0) rfl) ?_
  refine ow_val rfl rfl (ex_gtr rfl rfl) ?_
  refine ow_nil ?_
  refine qw_seq ?_
  refine cw_cond rfl (fun c25 => ?_) (fun c25 => ?_)
  ·
    refine cw_seq ?_
    refine cw_region ?_
    refine ow_val rfl rfl (ex_move rfl) ?_
    refine ow_val rfl rfl (ex_move rfl) ?_
    refine ow_split (g := some (1, true)) rfl (fun s27 => ?_) (fun s27 => ?_)
    ·
      refine ow_val rfl (gd_go rfl s27) (ex_move rfl) ?_
      refine ow_val rfl (gd_go rfl s27) (ex_move rfl) ?_
      refine ow_val rfl (gd_go rfl s27) (ex_eql rfl rfl) ?_
      refine ow_val rfl rfl (ex_pickt rfl s27 rfl) ?_
      refine ow_val rfl rfl (ex_move rfl) ?_
      refine ow_split (g := some (6, true)) rfl (fun s32 => ?_) (fun s32 => ?_)
      ·
        refine ow_val rfl (gd_go rfl s32) (ex_move rfl) ?_
        refine ow_val rfl (gd_go rfl s32) (ex_move rfl) ?_
        refine ow_val rfl (gd_go rfl s32) (ex_eqlb rfl rfl) ?_
        refine ow_val rfl rfl (ex_pickt rfl s32 rfl) ?_
        refine ow_val rfl rfl (ex_assign rfl) ?_
        refine ow_nil ?_
        refine qw_seq ?_
        refine cw_ret ?_
        refine qw_then_ret ?_
        refine qw_ret1 rfl rfl (fun w' h => ⟨congrArg (fun z => Ending.returned (.bool z)) ?_, h.ag.below⟩)
        simp
      ·
        simp at s32
    ·
      cases s27
  ·
    have hlen : d.length ≤ 20000 := by have := of_decide_eq_false c25; omega
    refine cw_skip ?_
    refine qw_seq ?_
    refine cw_seq ?_
    refine flow_sound 39 (by kernel_rfl) ?_
    refine flow_val rfl (ex_move rfl) ?_
    refine flow_val rfl (ex_move rfl) ?_
    refine flow_split rfl (fun s38 => ?_) (fun s38 => ?_)
    ·
      refine flow_val (gd_go rfl s38) (ex_move rfl) ?_
      refine flow_cr (gd_go rfl s38) (ex_callf rfl (fun w h => callR (pNumBytes h.im))) ?_
      refine flow_is (v := .string (strOf (bytesN n))) (obk_sat 40 rfl (fun v40 => ob_open (fun τ' hl' hf' hr' => ?_))) ?_
      · exact ob_val (gd_go rfl s38) (ex_tostr rfl hr'.1 (fun w h => h.im))
      refine flow_val (gd_go rfl s38) (ex_move rfl) ?_
      refine flow_cr (gd_go rfl s38) (ex_callf rfl (fun w h => callR (rNumBytes h.im))) ?_
      refine flow_is (v := .string (strOf (bytesN n))) (obk_sat 43 rfl (fun v43 => ob_open (fun τ' hl' hf' hr' => ?_))) ?_
      · exact ob_val (gd_go rfl s38) (ex_tostr rfl hr' (fun w h => h.im))
      refine flow_val (gd_go rfl s38) (ex_streql rfl rfl) ?_
      refine flow_val rfl (ex_pickt rfl s38 rfl) ?_
      refine flow_val rfl (ex_move rfl) ?_
      refine flow_split rfl (fun s47 => ?_) (fun s47 => ?_)
      ·
        refine flow_val (gd_go rfl s47) (ex_move rfl) ?_
        refine flow_cr (gd_go rfl s47) (ex_callf rfl (fun w h => callR (pMention h.im))) ?_
        refine flow_is (v := .string (strOf (mentN n))) (obk_sat 49 rfl (fun v49 => ob_open (fun τ' hl' hf' hr' => ?_))) ?_
        · exact ob_val (gd_go rfl s47) (ex_tostr rfl hr' (fun w h => h.im))
        refine flow_val (gd_go rfl s47) (ex_move rfl) ?_
        refine flow_cr (gd_go rfl s47) (ex_callf rfl (fun w h => callR (rMention h.im))) ?_
        refine flow_is (v := .string (strOf (mentN n))) (obk_sat 52 rfl (fun v52 => ob_open (fun τ' hl' hf' hr' => ?_))) ?_
        · exact ob_val (gd_go rfl s47) (ex_tostr rfl hr' (fun w h => h.im))
        refine flow_val (gd_go rfl s47) (ex_streql rfl rfl) ?_
        refine flow_val rfl (ex_pickt rfl s47 rfl) ?_
        refine flow_val rfl (ex_move rfl) ?_
        refine flow_split rfl (fun s56 => ?_) (fun s56 => ?_)
        ·
          refine flow_val (gd_go rfl s56) (ex_move rfl) ?_
          refine flow_val (gd_go rfl s56) (ex_move rfl) ?_
          refine flow_val (gd_go rfl s56) (ex_eql rfl rfl) ?_
          refine flow_val rfl (ex_pickt rfl s56 rfl) ?_
          refine flow_val rfl (ex_move rfl) ?_
          refine flow_split rfl (fun s61 => ?_) (fun s61 => ?_)
          ·
            refine flow_val (gd_go rfl s61) (ex_move rfl) ?_
            refine flow_val (gd_go rfl s61) (ex_move rfl) ?_
            refine flow_val (gd_go rfl s61) (ex_eqlb rfl rfl) ?_
            refine flow_val rfl (ex_pickt rfl s61 rfl) ?_
            refine flow_val rfl (ex_move rfl) ?_
            refine flow_split rfl (fun s66 => ?_) (fun s66 => ?_)
            ·
              refine flow_val (gd_go rfl s66) (ex_move rfl) ?_
              refine flow_val (gd_go rfl s66) (ex_move rfl) ?_
              refine flow_cr (gd_go rfl s66) (ex_callf rfl (fun w h => callR (pMentions h.im hd0 (by omega)))) ?_
              refine flow_val (gd_go rfl s66) (ex_move rfl) ?_
              refine flow_val (gd_go rfl s66) (ex_move rfl) ?_
              refine flow_cr (gd_go rfl s66) (ex_callf rfl (fun w h => callR (rMentions h.im hd0 (by omega)))) ?_
              refine flow_is (v := .bool (mentS d below == mentS d below)) (obk_sat2 69 72 rfl rfl (fun v69 v72 => ob_open2 (fun τ hl hf h69 h72 => ?_))) ?_
              · exact ob_cv (gd_go rfl s66) (ex_callf rfl (fun w h => callB (rSameI h.im h69 h72 (by have := mentS_len d below; omega))))
              refine flow_val rfl (ex_pickt rfl s66 rfl) ?_
              refine flow_val rfl (ex_assign rfl) ?_
              refine flow_nil ?_
              refine fin_is ?_
              refine fin_is ?_
              refine fin_is ?_
              refine fin_drop ?_
              refine fin_is ?_
              refine fin_is ?_
              refine fin_drop ?_
              refine fin_is ?_
              refine fin_is ?_
              refine fin_is ?_
              refine fin_is ?_
              refine fin_is ?_
              refine fin_is ?_
              refine fin_is ?_
              refine fin_is ?_
              refine fin_is ?_
              refine fin_is ?_
              refine fin_is ?_
              refine fin_is ?_
              refine fin_is ?_
              refine fin_is ?_
              refine fin_is ?_
              refine fin_is ?_
              refine fin_drop ?_
              refine fin_is ?_
              refine fin_is ?_
              refine fin_drop ?_
              refine fin_is ?_
              refine fin_is ?_
              refine fin_is ?_
              refine fin_is ?_
              refine fin_is ?_
              refine fin_drop ?_
              refine fin_is ?_
              refine fin_is ?_
              refine fin_drop ?_
              refine fin_is ?_
              refine fin_is ?_
              refine fin_is ?_
              refine fin_nil ?_
              refine ow_nil ?_
              refine qw_seq ?_
              refine cw_ret ?_
              refine qw_ret1 rfl rfl (fun w' h => ⟨congrArg (fun z => Ending.returned (.bool z)) ?_, h.ag.below⟩)
              simp
            ·
              simp at s66
          ·
            simp at s61
        ·
          simp at s56
      ·
        simp at s47
    ·
      cases s38

set_option maxHeartbeats 2000000 in
theorem lawMentions (a z : List UInt8) (n below : Int) {va vz : Value} {σ : Hp} {w : World} (hi : Imm σ w) (htab : TabC Tryd.prog σ) (ha : BytesV σ va a) (hz : BytesV σ vz z) : Calls Tryd.prog 11 #[va, .int .i64 n, vz, .int .i64 below] w fun e w' => e = .returned (.bool true) ∧ Below w.heap.size w w' := by
  have ha0 := ha
  obtain ⟨pa, ca, rfl, hca, _, hsa⟩ := ha.row
  have hz0 := hz
  obtain ⟨pz, cz, rfl, hcz, _, hsz⟩ := hz.row
  refine enter (St w (fun _ => False) σ [] []) Tryd.func11 rfl Tryd.ntmps11 rfl (St.start hi) ?_
  refine cw_seq ?_
  refine cw_region ?_
  refine ow_val rfl rfl (ex_assign rfl) ?_
  refine ow_nil ?_
  refine qw_seq ?_
  refine cw_seq ?_
  refine cw_region ?_
  refine ow_cv rfl rfl (ex_callf rfl (fun w h => callB ((pHead6 h.im htab)))) ?_
  refine ow_val rfl rfl (ex_assign rfl) ?_
  refine ow_nil ?_
  refine qw_seq ?_
  refine cw_seq ?_
  refine cw_region ?_
  refine ow_val rfl rfl (ex_move rfl) ?_
  refine ow_cr rfl rfl (ex_callf rfl (fun w h => callR (pNumBytes h.im))) (fun v18 σ4 hl4 hf4 hr4 => ?_)
  obtain ⟨hb4, _⟩ := hr4
  obtain ⟨p4, c4, rfl, _, _⟩ := hb4.slice
  refine ow_val rfl rfl (ex_assign rfl) ?_
  refine ow_nil ?_
  refine qw_seq ?_
  refine cw_seq ?_
  refine cw_seq ?_
  refine cw_region ?_
  refine ow_val rfl rfl (ex_move rfl) ?_
  refine ow_val rfl rfl (ex_lss rfl rfl) ?_
  refine ow_val rfl rfl (ex_move rfl) ?_
  refine ow_split (g := some (2, false)) rfl (fun s21 => ?_) (fun s21 => ?_)
  ·
    refine ow_skip rfl (gd_no rfl s21) ?_
    refine ow_skip rfl (gd_no rfl s21) ?_
    refine ow_val rfl rfl (ex_pickt rfl s21 rfl) ?_
    refine ow_val rfl rfl (ex_move rfl) ?_
    refine ow_skip rfl rfl ?_
    refine ow_skip rfl rfl ?_
    refine ow_skip rfl rfl ?_
    refine ow_val rfl rfl (ex_pick_t rfl rfl) ?_
    refine ow_val rfl rfl (ex_move rfl) ?_
    refine ow_skip rfl rfl ?_
    refine ow_skip rfl rfl ?_
    refine ow_skip rfl rfl ?_
    refine ow_val rfl rfl (ex_pick_t rfl rfl) ?_
    refine ow_nil ?_
    refine qw_seq ?_
    refine cw_cond_t rfl ?_
    refine cw_seq ?_
    refine cw_region ?_
    refine ow_val rfl rfl (ex_move rfl) ?_
    refine ow_val rfl rfl (ex_move rfl) ?_
    refine ow_split (g := some (1, true)) rfl (fun s36 => ?_) (fun s36 => ?_)
    ·
      refine ow_val rfl (gd_go rfl s36) (ex_move rfl) ?_
      refine ow_val rfl (gd_go rfl s36) (ex_len (ty := 0) rfl) ?_
      refine ow_val rfl (gd_go rfl s36) (ex_eql rfl rfl) ?_
      refine ow_val rfl (gd_go rfl s36) (ex_move rfl) ?_
      refine ow_split (g := some (5, false)) rfl (fun s40 => ?_) (fun s40 => ?_)
      ·
        refine ow_skip rfl (gd_no rfl s40) ?_
        refine ow_skip rfl (gd_no rfl s40) ?_
        refine ow_skip rfl (gd_no rfl s40) ?_
        refine ow_val rfl (gd_go rfl s36) (ex_pickt rfl s40 rfl) ?_
        refine ow_val rfl rfl (ex_pickt rfl s36 rfl) ?_
        refine ow_val rfl rfl (ex_assign rfl) ?_
        refine ow_nil ?_
        refine qw_seq ?_
        refine cw_ret ?_
        refine qw_then_ret ?_
        refine qw_ret1 rfl rfl (fun w' h => ⟨congrArg (fun z => Ending.returned (.bool z)) ?_, h.ag.below⟩)
        first
        | rfl
        | (rw [hall]; rw [show decide (n ∈ (mentS (a ++ mentN n ++ z) below)) = decide (n < below) from by simp only [mentS_iff hin]]; simp)
        | (have := bytesN_8 n; have q := of_decide_eq_false s40; exact decide_eq_true (by omega))
      ·
        refine ow_val rfl (gd_go rfl s40) (ex_move rfl) ?_
        refine ow_val rfl (gd_go rfl s40) (ex_len (ty := 0) rfl) ?_
        refine ow_val rfl (gd_go rfl s40) (ex_eql rfl rfl) ?_
        refine ow_val rfl (gd_go rfl s36) (ex_pickf rfl s40 rfl) ?_
        refine ow_val rfl rfl (ex_pickt rfl s36 rfl) ?_
        refine ow_val rfl rfl (ex_assign rfl) ?_
        refine ow_nil ?_
        refine qw_seq ?_
        refine cw_ret ?_
        refine qw_then_ret ?_
        refine qw_ret1 rfl rfl (fun w' h => ⟨congrArg (fun z => Ending.returned (.bool z)) ?_, h.ag.below⟩)
        first
        | rfl
        | (rw [hall]; rw [show decide (n ∈ (mentS (a ++ mentN n ++ z) below)) = decide (n < below) from by simp only [mentS_iff hin]]; simp)
        | (have := bytesN_8 n; have q := of_decide_eq_false s40; exact decide_eq_true (by omega))
    ·
      cases s36
  ·
    refine ow_val rfl (gd_go rfl s21) (ex_move rfl) ?_
    refine ow_val rfl (gd_go rfl s21) (ex_geq rfl rfl) ?_
    refine ow_val rfl rfl (ex_pickf rfl s21 rfl) ?_
    refine ow_val rfl rfl (ex_move rfl) ?_
    refine ow_split (g := some (6, false)) rfl (fun s25 => ?_) (fun s25 => ?_)
    ·
      refine ow_skip rfl (gd_no rfl s25) ?_
      refine ow_skip rfl (gd_no rfl s25) ?_
      refine ow_skip rfl (gd_no rfl s25) ?_
      refine ow_val rfl rfl (ex_pickt rfl s25 rfl) ?_
      refine ow_val rfl rfl (ex_move rfl) ?_
      refine ow_skip rfl rfl ?_
      refine ow_skip rfl rfl ?_
      refine ow_skip rfl rfl ?_
      refine ow_val rfl rfl (ex_pick_t rfl rfl) ?_
      refine ow_nil ?_
      refine qw_seq ?_
      refine cw_cond_t rfl ?_
      refine cw_seq ?_
      refine cw_region ?_
      refine ow_val rfl rfl (ex_move rfl) ?_
      refine ow_val rfl rfl (ex_move rfl) ?_
      refine ow_split (g := some (1, true)) rfl (fun s36 => ?_) (fun s36 => ?_)
      ·
        refine ow_val rfl (gd_go rfl s36) (ex_move rfl) ?_
        refine ow_val rfl (gd_go rfl s36) (ex_len (ty := 0) rfl) ?_
        refine ow_val rfl (gd_go rfl s36) (ex_eql rfl rfl) ?_
        refine ow_val rfl (gd_go rfl s36) (ex_move rfl) ?_
        refine ow_split (g := some (5, false)) rfl (fun s40 => ?_) (fun s40 => ?_)
        ·
          refine ow_skip rfl (gd_no rfl s40) ?_
          refine ow_skip rfl (gd_no rfl s40) ?_
          refine ow_skip rfl (gd_no rfl s40) ?_
          refine ow_val rfl (gd_go rfl s36) (ex_pickt rfl s40 rfl) ?_
          refine ow_val rfl rfl (ex_pickt rfl s36 rfl) ?_
          refine ow_val rfl rfl (ex_assign rfl) ?_
          refine ow_nil ?_
          refine qw_seq ?_
          refine cw_ret ?_
          refine qw_then_ret ?_
          refine qw_ret1 rfl rfl (fun w' h => ⟨congrArg (fun z => Ending.returned (.bool z)) ?_, h.ag.below⟩)
          first
          | rfl
          | (rw [hall]; rw [show decide (n ∈ (mentS (a ++ mentN n ++ z) below)) = decide (n < below) from by simp only [mentS_iff hin]]; simp)
          | (have := bytesN_8 n; have q := of_decide_eq_false s40; exact decide_eq_true (by omega))
        ·
          refine ow_val rfl (gd_go rfl s40) (ex_move rfl) ?_
          refine ow_val rfl (gd_go rfl s40) (ex_len (ty := 0) rfl) ?_
          refine ow_val rfl (gd_go rfl s40) (ex_eql rfl rfl) ?_
          refine ow_val rfl (gd_go rfl s36) (ex_pickf rfl s40 rfl) ?_
          refine ow_val rfl rfl (ex_pickt rfl s36 rfl) ?_
          refine ow_val rfl rfl (ex_assign rfl) ?_
          refine ow_nil ?_
          refine qw_seq ?_
          refine cw_ret ?_
          refine qw_then_ret ?_
          refine qw_ret1 rfl rfl (fun w' h => ⟨congrArg (fun z => Ending.returned (.bool z)) ?_, h.ag.below⟩)
          first
          | rfl
          | (rw [hall]; rw [show decide (n ∈ (mentS (a ++ mentN n ++ z) below)) = decide (n < below) from by simp only [mentS_iff hin]]; simp)
          | (have := bytesN_8 n; have q := of_decide_eq_false s40; exact decide_eq_true (by omega))
      ·
        cases s36
    ·
      refine ow_val rfl (gd_go rfl s25) (ex_move rfl) ?_
      refine ow_val rfl (gd_go rfl s25) (ex_len (ty := 0) rfl) ?_
      refine ow_val rfl (gd_go rfl s25) (ex_gtr rfl rfl) ?_
      refine ow_val rfl rfl (ex_pickf rfl s25 rfl) ?_
      refine ow_val rfl rfl (ex_move rfl) ?_
      refine ow_split (g := some (11, false)) rfl (fun s30 => ?_) (fun s30 => ?_)
      ·
        refine ow_skip rfl (gd_no rfl s30) ?_
        refine ow_skip rfl (gd_no rfl s30) ?_
        refine ow_skip rfl (gd_no rfl s30) ?_
        refine ow_val rfl rfl (ex_pickt rfl s30 rfl) ?_
        refine ow_nil ?_
        refine qw_seq ?_
        refine cw_cond_t rfl ?_
        refine cw_seq ?_
        refine cw_region ?_
        refine ow_val rfl rfl (ex_move rfl) ?_
        refine ow_val rfl rfl (ex_move rfl) ?_
        refine ow_split (g := some (1, true)) rfl (fun s36 => ?_) (fun s36 => ?_)
        ·
          refine ow_val rfl (gd_go rfl s36) (ex_move rfl) ?_
          refine ow_val rfl (gd_go rfl s36) (ex_len (ty := 0) rfl) ?_
          refine ow_val rfl (gd_go rfl s36) (ex_eql rfl rfl) ?_
          refine ow_val rfl (gd_go rfl s36) (ex_move rfl) ?_
          refine ow_split (g := some (5, false)) rfl (fun s40 => ?_) (fun s40 => ?_)
          ·
            refine ow_skip rfl (gd_no rfl s40) ?_
            refine ow_skip rfl (gd_no rfl s40) ?_
            refine ow_skip rfl (gd_no rfl s40) ?_
            refine ow_val rfl (gd_go rfl s36) (ex_pickt rfl s40 rfl) ?_
            refine ow_val rfl rfl (ex_pickt rfl s36 rfl) ?_
            refine ow_val rfl rfl (ex_assign rfl) ?_
            refine ow_nil ?_
            refine qw_seq ?_
            refine cw_ret ?_
            refine qw_then_ret ?_
            refine qw_ret1 rfl rfl (fun w' h => ⟨congrArg (fun z => Ending.returned (.bool z)) ?_, h.ag.below⟩)
            first
            | rfl
            | (rw [hall]; rw [show decide (n ∈ (mentS (a ++ mentN n ++ z) below)) = decide (n < below) from by simp only [mentS_iff hin]]; simp)
            | (have := bytesN_8 n; have q := of_decide_eq_false s40; exact decide_eq_true (by omega))
          ·
            refine ow_val rfl (gd_go rfl s40) (ex_move rfl) ?_
            refine ow_val rfl (gd_go rfl s40) (ex_len (ty := 0) rfl) ?_
            refine ow_val rfl (gd_go rfl s40) (ex_eql rfl rfl) ?_
            refine ow_val rfl (gd_go rfl s36) (ex_pickf rfl s40 rfl) ?_
            refine ow_val rfl rfl (ex_pickt rfl s36 rfl) ?_
            refine ow_val rfl rfl (ex_assign rfl) ?_
            refine ow_nil ?_
            refine qw_seq ?_
            refine cw_ret ?_
            refine qw_then_ret ?_
            refine qw_ret1 rfl rfl (fun w' h => ⟨congrArg (fun z => Ending.returned (.bool z)) ?_, h.ag.below⟩)
            first
            | rfl
            | (rw [hall]; rw [show decide (n ∈ (mentS (a ++ mentN n ++ z) below)) = decide (n < below) from by simp only [mentS_iff hin]]; simp)
            | (have := bytesN_8 n; have q := of_decide_eq_false s40; exact decide_eq_true (by omega))
        ·
          cases s36
      ·
        refine ow_val rfl (gd_go rfl s30) (ex_move rfl) ?_
        refine ow_val rfl (gd_go rfl s30) (ex_len (ty := 0) rfl) ?_
        refine ow_val rfl (gd_go rfl s30) (ex_gtr rfl rfl) ?_
        refine ow_val rfl rfl (ex_pickf rfl s30 rfl) ?_
        refine ow_nil ?_
        refine qw_seq ?_
        refine cw_cond rfl (fun c34 => ?_) (fun c34 => ?_)
        ·
          refine cw_seq ?_
          refine cw_region ?_
          refine ow_val rfl rfl (ex_move rfl) ?_
          refine ow_val rfl rfl (ex_move rfl) ?_
          refine ow_split (g := some (1, true)) rfl (fun s36 => ?_) (fun s36 => ?_)
          ·
            refine ow_val rfl (gd_go rfl s36) (ex_move rfl) ?_
            refine ow_val rfl (gd_go rfl s36) (ex_len (ty := 0) rfl) ?_
            refine ow_val rfl (gd_go rfl s36) (ex_eql rfl rfl) ?_
            refine ow_val rfl (gd_go rfl s36) (ex_move rfl) ?_
            refine ow_split (g := some (5, false)) rfl (fun s40 => ?_) (fun s40 => ?_)
            ·
              refine ow_skip rfl (gd_no rfl s40) ?_
              refine ow_skip rfl (gd_no rfl s40) ?_
              refine ow_skip rfl (gd_no rfl s40) ?_
              refine ow_val rfl (gd_go rfl s36) (ex_pickt rfl s40 rfl) ?_
              refine ow_val rfl rfl (ex_pickt rfl s36 rfl) ?_
              refine ow_val rfl rfl (ex_assign rfl) ?_
              refine ow_nil ?_
              refine qw_seq ?_
              refine cw_ret ?_
              refine qw_then_ret ?_
              refine qw_ret1 rfl rfl (fun w' h => ⟨congrArg (fun z => Ending.returned (.bool z)) ?_, h.ag.below⟩)
              first
              | rfl
              | (rw [hall]; rw [show decide (n ∈ (mentS (a ++ mentN n ++ z) below)) = decide (n < below) from by simp only [mentS_iff hin]]; simp)
              | (have := bytesN_8 n; have q := of_decide_eq_false s40; exact decide_eq_true (by omega))
            ·
              refine ow_val rfl (gd_go rfl s40) (ex_move rfl) ?_
              refine ow_val rfl (gd_go rfl s40) (ex_len (ty := 0) rfl) ?_
              refine ow_val rfl (gd_go rfl s40) (ex_eql rfl rfl) ?_
              refine ow_val rfl (gd_go rfl s36) (ex_pickf rfl s40 rfl) ?_
              refine ow_val rfl rfl (ex_pickt rfl s36 rfl) ?_
              refine ow_val rfl rfl (ex_assign rfl) ?_
              refine ow_nil ?_
              refine qw_seq ?_
              refine cw_ret ?_
              refine qw_then_ret ?_
              refine qw_ret1 rfl rfl (fun w' h => ⟨congrArg (fun z => Ending.returned (.bool z)) ?_, h.ag.below⟩)
              first
              | rfl
              | (rw [hall]; rw [show decide (n ∈ (mentS (a ++ mentN n ++ z) below)) = decide (n < below) from by simp only [mentS_iff hin]]; simp)
              | (have := bytesN_8 n; have q := of_decide_eq_false s40; exact decide_eq_true (by omega))
          ·
            cases s36
        ·
          refine cw_skip ?_
          refine qw_seq ?_
          refine cw_seq ?_
          have hin : 0 ≤ n ∧ n < 281474976710656 := by
            have h1 := of_decide_eq_false s21
            have h2 := of_decide_eq_false s25
            omega
          have hla : a.length ≤ 5000 := by have := of_decide_eq_false s30; omega
          have hlz : z.length ≤ 5000 := by have := of_decide_eq_false c34; omega
          have hnb := numB_bytes hin
          have hml : (mentN n).length = 10 := by unfold mentN; rw [if_pos hin]; simp [bytesN_len hin]
          refine cw_region ?_
          refine ow_val rfl rfl (ex_move rfl) ?_
          refine ow_cv rfl rfl (ex_callf rfl (fun w h => callB ((pNumber h.im hb4)))) ?_
          refine ow_val rfl rfl (ex_move rfl) ?_
          refine ow_val rfl rfl (ex_extract rfl rfl) ?_
          refine ow_val rfl rfl (ex_extract rfl rfl) ?_
          refine ow_val rfl rfl (ex_assign rfl) ?_
          refine ow_val rfl rfl (ex_assign rfl) ?_
          refine ow_nil ?_
          refine qw_seq ?_
          refine cw_seq ?_
          refine cw_seq ?_
          refine cw_region ?_
          refine ow_val rfl rfl (ex_move rfl) ?_
          refine ow_val rfl rfl (ex_not rfl) ?_
          refine ow_val rfl rfl (ex_move rfl) ?_
          refine ow_split (g := some (2, false)) rfl (fun s53 => ?_) (fun s53 => ?_)
          ·
            rw [hnb] at s53; cases s53
          ·
            refine ow_val rfl (gd_go rfl s53) (ex_move rfl) ?_
            refine ow_val rfl (gd_go rfl s53) (ex_move rfl) ?_
            refine ow_val rfl (gd_go rfl s53) (ex_neq rfl rfl) ?_
            refine ow_val rfl rfl (ex_pickf rfl s53 rfl) ?_
            refine ow_nil ?_
            refine qw_seq ?_
            refine cw_cond rfl (fun c57 => ?_) (fun c57 => ?_)
            ·
              rw [hnb] at c57; simp at c57
            ·
              refine cw_skip ?_
              refine qw_seq ?_
              refine cw_seq ?_
              refine cw_region ?_
              refine ow_slit rfl rfl exw_slit0 ?_; intro b58
              refine ow_mono (fun w h => h.toG) ?_
              refine ow_val rfl rfl (ex_move rfl) ?_
              refine ow_app1 rfl rfl (exw_append1 (news := a.map byteV) rfl rfl (OwnSl.lit0 5 1 b58) (by simp) (hsa.imp id fun ⟨b, f, hp, hca⟩ => ⟨b, f, hp, fun w h => (hca.le hl4).range h.im⟩) (bytes_one a) (by unfold maxLen; omega) (by omega)) (fun v60 G60 hO60 hz60 => ?_)
              refine ow_val rfl rfl (ex_move rfl) ?_
              refine ow_cr rfl rfl (ex_callf rfl (fun w h => callR (pMention h.im))) (fun v62 σ5 hl5 hf5 hr5 => ?_)
              obtain ⟨pm, cm, rfl, hcm, _, hsm⟩ := BytesV.row hr5
              refine ow_app1 rfl rfl (exw_append1 (news := (mentN n).map byteV) rfl rfl hO60 (by simp) (hsm.imp id fun ⟨b, f, hp, hca⟩ => ⟨b, f, hp, fun w h => hca.range h.im⟩) (bytes_one _) (by unfold maxLen; omega) (by omega)) (fun v63 G63 hO63 hz63 => ?_)
              refine ow_val rfl rfl (ex_move rfl) ?_
              refine ow_app1 rfl rfl (exw_append1 (news := z.map byteV) rfl rfl hO63 (by simp) (hsz.imp id fun ⟨b, f, hp, hca⟩ => ⟨b, f, hp, fun w h => ((hca.le hl4).le hl5).range h.im⟩) (bytes_one z) (by unfold maxLen; omega) (by omega)) (fun v65 G65 hO65 hz65 => ?_)
              refine ow_frzB (d := a ++ mentN n ++ z) (fun _ h => h) hO65 (by simp) (by simp [maxData]; omega) (fun σ6 hl6 hf6 hb6 => ?_)
              obtain ⟨p6, c6, e6, _, _⟩ := hb6.slice
              refine ow_val rfl rfl (ex_move rfl) ?_
              refine ow_cr rfl rfl (ex_callf rfl (fun w h => callR (pMentions h.im hb6 (by simp; omega)))) (fun v67 σ7 hl7 hf7 hr7 => ?_)
              obtain ⟨p7, c7, rfl, hc7, hs7⟩ := hr7
              refine ow_val rfl rfl (ex_assign rfl) ?_
              refine ow_nil ?_
              refine qw_seq ?_
              refine cw_seq ?_
              refine cw_region ?_
              refine ow_val rfl rfl (ex_assign rfl) ?_
              refine ow_nil ?_
              refine qw_seq ?_
              refine cw_seq ?_
              refine cw_seq ?_
              refine cw_region ?_
              refine ow_val rfl rfl (ex_assign rfl) ?_
              refine ow_nil ?_
              refine qw_seq ?_
              refine cw_block ?_
              refine cw_loopS (α := Nat) (fun i => [(1, .int .i64 n), (3, .int .i64 below), (9, .bool true), (13, .slice p7 (mentS (a ++ mentN n ++ z) below).length c7), (14, .bool (decide (n ∈ (mentS (a ++ mentN n ++ z) below).take i))), (15, .int .i64 (i : Int))]) (fun i => i ≤ (mentS (a ++ mentN n ++ z) below).length) (fun i => (mentS (a ++ mentN n ++ z) below).length - i) 0 (subL_cons (lkv rfl (by first | rfl | simp)) (subL_cons (lkv rfl (by first | rfl | simp)) (subL_cons (lkv rfl (by first | rfl | simp)) (subL_cons (lkv rfl (by first | rfl | simp)) (subL_cons (lkv rfl (by first | rfl | simp)) (subL_cons (lkv rfl (by first | rfl | simp)) (subL_nil _))))))) (Nat.zero_le _) ?_
              intro i hlei
              refine cw_seq ?_
              refine cw_seq ?_
              refine cw_region ?_
              refine ow_val rfl rfl (ex_move rfl) ?_
              refine ow_val rfl rfl (ex_move rfl) ?_
              refine ow_val rfl rfl (ex_len (ty := 0) rfl) ?_
              refine ow_val rfl rfl (ex_lss rfl rfl) ?_
              refine ow_nil ?_
              refine qw_seq ?_
              refine cw_cond rfl (fun c71 => ?_) (fun c71 => ?_)
              ·
                have hlt : i < (mentS (a ++ mentN n ++ z) below).length := by have := of_decide_eq_true c71; omega
                obtain ⟨bq, oq, rfl, hcq⟩ := hs7.resolve_left (fun hn => by rw [hn] at hlt; simp at hlt)
                have hmi := mentS_in (getD_mem hlt)
                have hzl := mentS_len (a ++ mentN n ++ z) below
                have hDl : (a ++ mentN n ++ z).length ≤ 10010 := by simp; omega
                refine cw_skip ?_
                refine qw_seq ?_
                refine cw_seq ?_
                refine cw_block ?_
                refine cw_cut1 14 (.bool (decide (n ∈ (mentS (a ++ mentN n ++ z) below).take (i + 1)))) ?_ ?_
                ·
                  refine cw_region ?_
                  refine ow_val rfl rfl (ex_move rfl) ?_
                  refine ow_val rfl rfl (ex_move rfl) ?_
                  refine ow_split (g := some (1, false)) rfl (fun s75 => ?_) (fun s75 => ?_)
                  ·
                    refine ow_skip rfl (gd_no rfl s75) ?_
                    refine ow_skip rfl (gd_no rfl s75) ?_
                    refine ow_skip rfl (gd_no rfl s75) ?_
                    refine ow_skip rfl (gd_no rfl s75) ?_
                    refine ow_skip rfl (gd_no rfl s75) ?_
                    refine ow_skip rfl (gd_no rfl s75) ?_
                    refine ow_val rfl rfl (ex_pickt rfl s75 rfl) ?_
                    refine ow_val rfl rfl (ex_assign rfl) ?_
                    refine ow_nil ?_
                    exact qw_meet (subL_meet 10 14 (lkv rfl (by rw [take_mem hlt]; first | (rw [show decide (n ∈ (mentS (a ++ mentN n ++ z) below).take i) = true from s75]; rfl) | (rw [show decide (n ∈ (mentS (a ++ mentN n ++ z) below).take i) = false from s75]; rfl))) rfl rfl) (fun w h => h)
                  ·
                    refine ow_val rfl (gd_go rfl s75) (ex_move rfl) ?_
                    refine ow_val rfl (gd_go rfl s75) (ex_move rfl) ?_
                    refine ow_val rfl (gd_go rfl s75) (ex_index_nat (i := i) rfl rfl hlt) ?_
                    refine ow_val rfl (gd_go rfl s75) (ex_load1 rfl (ld_imm1 (hcq.intD hlt))) ?_
                    refine ow_val rfl (gd_go rfl s75) (ex_move rfl) ?_
                    refine ow_val rfl (gd_go rfl s75) (ex_eql rfl rfl) ?_
                    refine ow_val rfl rfl (ex_pickf rfl s75 rfl) ?_
                    refine ow_val rfl rfl (ex_assign rfl) ?_
                    refine ow_nil ?_
                    exact qw_meet (subL_meet 10 14 (lkv rfl (by rw [take_mem hlt]; first | (rw [show decide (n ∈ (mentS (a ++ mentN n ++ z) below).take i) = true from s75]; rfl) | (rw [show decide (n ∈ (mentS (a ++ mentN n ++ z) below).take i) = false from s75]; rfl))) rfl rfl) (fun w h => h)
                ·
                  refine cw_seq ?_
                  refine flow_sound 29 (by kernel_rfl) ?_
                  refine flow_val rfl (ex_move rfl) ?_
                  refine flow_val rfl (ex_move rfl) ?_
                  refine flow_val rfl (ex_index_nat (i := i) rfl rfl hlt) ?_
                  refine flow_val rfl (ex_load1 rfl (ld_imm1 (hcq.intD hlt))) ?_
                  refine flow_val rfl (ex_move rfl) ?_
                  refine flow_val rfl (ex_geq rfl rfl) ?_
                  refine flow_val rfl (ex_move rfl) ?_
                  refine flow_split rfl (fun s89 => ?_) (fun s89 => ?_)
                  ·
                    have := of_decide_eq_true s89; omega
                  ·
                    refine flow_val (gd_go rfl s89) (ex_move rfl) ?_
                    refine flow_val (gd_go rfl s89) (ex_move rfl) ?_
                    refine flow_val (gd_go rfl s89) (ex_index_nat (i := i) rfl rfl hlt) ?_
                    refine flow_val (gd_go rfl s89) (ex_load1 rfl (ld_imm1 (hcq.intD hlt))) ?_
                    refine flow_val (gd_go rfl s89) (ex_lss rfl rfl) ?_
                    refine flow_val rfl (ex_pickf rfl s89 rfl) ?_
                    refine flow_val rfl (ex_move rfl) ?_
                    refine flow_split rfl (fun s96 => ?_) (fun s96 => ?_)
                    ·
                      have := of_decide_eq_true s96; omega
                    ·
                      refine flow_val (gd_go rfl s96) (ex_move rfl) ?_
                      refine flow_val (gd_go rfl s96) (ex_gtr rfl rfl) ?_
                      refine flow_val (gd_go rfl s96) (ex_move rfl) ?_
                      refine flow_split rfl (fun s99 => ?_) (fun s99 => ?_)
                      ·
                        have hi0 : 0 < i := by have := of_decide_eq_true s99; omega
                        have hasc := mentS_asc (d := a ++ mentN n ++ z) (below := below) (i := i - 1) (j := i) (by omega) hlt
                        refine flow_val (gd_go rfl s99) (ex_move rfl) ?_
                        refine flow_val (gd_go rfl s99) (ex_move rfl) ?_
                        refine flow_val (gd_go rfl s99) (ex_subi (z := ((i - 1 : Nat) : Int)) rfl rfl (by omega) (by omega) (by omega)) ?_
                        refine flow_val (gd_go rfl s99) (ex_index_nat (i := i - 1) rfl rfl (by omega)) ?_
                        refine flow_val (gd_go rfl s99) (ex_load1 rfl (ld_imm1 (hcq.intD (i := i - 1) (by omega)))) ?_
                        refine flow_val (gd_go rfl s99) (ex_move rfl) ?_
                        refine flow_val (gd_go rfl s99) (ex_move rfl) ?_
                        refine flow_val (gd_go rfl s99) (ex_index_nat (i := i) rfl rfl hlt) ?_
                        refine flow_val (gd_go rfl s99) (ex_load1 rfl (ld_imm1 (hcq.intD hlt))) ?_
                        refine flow_val (gd_go rfl s99) (ex_geq rfl rfl) ?_
                        refine flow_val (gd_go rfl s96) (ex_pickt rfl s99 rfl) ?_
                        refine flow_val rfl (ex_pickf rfl s96 rfl) ?_
                        refine flow_nil ?_
                        refine fin_is ?_
                        refine fin_is ?_
                        refine fin_is ?_
                        refine fin_is ?_
                        refine fin_is ?_
                        refine fin_is ?_
                        refine fin_is ?_
                        refine fin_is ?_
                        refine fin_is ?_
                        refine fin_is ?_
                        refine fin_is ?_
                        refine fin_is ?_
                        refine fin_is ?_
                        refine fin_is ?_
                        refine fin_is ?_
                        refine fin_is ?_
                        refine fin_is ?_
                        refine fin_is ?_
                        refine fin_is ?_
                        refine fin_is ?_
                        refine fin_is ?_
                        refine fin_is ?_
                        refine fin_is ?_
                        refine fin_is ?_
                        refine fin_is ?_
                        refine fin_is ?_
                        refine fin_is ?_
                        refine fin_is ?_
                        refine fin_is ?_
                        refine fin_nil ?_
                        refine ow_nil ?_
                        refine qw_seq ?_
                        refine cw_cond rfl (fun c111 => ?_) (fun c111 => ?_)
                        ·
                          first | (cases c111; done) | (have := of_decide_eq_true c111; omega)
                        ·
                          refine cw_skip ?_
                          refine qw_block_normal ?_
                          refine qw_seq ?_
                          refine cw_region ?_
                          refine ow_val rfl rfl (ex_move rfl) ?_
                          refine ow_val rfl rfl (ex_addi (z := ((i + 1 : Nat) : Int)) rfl rfl (by omega) (by omega) (by omega)) ?_
                          refine ow_val rfl rfl (ex_assign rfl) ?_
                          refine ow_nil ?_
                          exact qw_roundS (i + 1) (by omega) (subL_cons (lkv rfl (by first | rfl | simp)) (subL_cons (lkv rfl (by first | rfl | simp)) (subL_cons (lkv rfl (by first | rfl | simp)) (subL_cons (lkv rfl (by first | rfl | simp)) (subL_cons (lkv rfl (by first | rfl | simp)) (subL_cons (lkv rfl (by first | rfl | simp)) (subL_nil _))))))) (by omega)
                      ·
                        refine flow_skip (gd_no rfl s99) ?_
                        refine flow_skip (gd_no rfl s99) ?_
                        refine flow_skip (gd_no rfl s99) ?_
                        refine flow_skip (gd_no rfl s99) ?_
                        refine flow_skip (gd_no rfl s99) ?_
                        refine flow_skip (gd_no rfl s99) ?_
                        refine flow_skip (gd_no rfl s99) ?_
                        refine flow_skip (gd_no rfl s99) ?_
                        refine flow_skip (gd_no rfl s99) ?_
                        refine flow_skip (gd_no rfl s99) ?_
                        refine flow_val (gd_go rfl s96) (ex_pickf rfl s99 rfl) ?_
                        refine flow_val rfl (ex_pickf rfl s96 rfl) ?_
                        refine flow_nil ?_
                        refine fin_is ?_
                        refine fin_is ?_
                        refine fin_is ?_
                        refine fin_is ?_
                        refine fin_is ?_
                        refine fin_is ?_
                        refine fin_is ?_
                        refine fin_is ?_
                        refine fin_is ?_
                        refine fin_is ?_
                        refine fin_is ?_
                        refine fin_is ?_
                        refine fin_is ?_
                        refine fin_is ?_
                        refine fin_is ?_
                        refine fin_is ?_
                        refine fin_is ?_
                        refine fin_is ?_
                        refine fin_is ?_
                        refine fin_is ?_
                        refine fin_is ?_
                        refine fin_is ?_
                        refine fin_is ?_
                        refine fin_is ?_
                        refine fin_is ?_
                        refine fin_is ?_
                        refine fin_is ?_
                        refine fin_is ?_
                        refine fin_is ?_
                        refine fin_nil ?_
                        refine ow_nil ?_
                        refine qw_seq ?_
                        refine cw_cond_f rfl ?_
                        refine cw_skip ?_
                        refine qw_block_normal ?_
                        refine qw_seq ?_
                        refine cw_region ?_
                        refine ow_val rfl rfl (ex_move rfl) ?_
                        refine ow_val rfl rfl (ex_addi (z := ((i + 1 : Nat) : Int)) rfl rfl (by omega) (by omega) (by omega)) ?_
                        refine ow_val rfl rfl (ex_assign rfl) ?_
                        refine ow_nil ?_
                        exact qw_roundS (i + 1) (by omega) (subL_cons (lkv rfl (by first | rfl | simp)) (subL_cons (lkv rfl (by first | rfl | simp)) (subL_cons (lkv rfl (by first | rfl | simp)) (subL_cons (lkv rfl (by first | rfl | simp)) (subL_cons (lkv rfl (by first | rfl | simp)) (subL_cons (lkv rfl (by first | rfl | simp)) (subL_nil _))))))) (by omega)
              ·
                have hall : (mentS (a ++ mentN n ++ z) below).take i = (mentS (a ++ mentN n ++ z) below) := List.take_of_length_le (by have := of_decide_eq_false c71; omega)
                refine cw_exit ?_
                refine qw_then_exit ?_
                refine qw_then_exit ?_
                refine qw_block_exit ?_
                refine qw_seq ?_
                refine cw_seq ?_
                refine cw_region ?_
                refine ow_val rfl rfl (ex_move rfl) ?_
                refine ow_val rfl rfl (ex_move rfl) ?_
                refine ow_split (g := some (1, true)) rfl (fun s113 => ?_) (fun s113 => ?_)
                ·
                  refine ow_val rfl (gd_go rfl s113) (ex_move rfl) ?_
                  refine ow_val rfl (gd_go rfl s113) (ex_move rfl) ?_
                  refine ow_val rfl (gd_go rfl s113) (ex_move rfl) ?_
                  refine ow_val rfl (gd_go rfl s113) (ex_lss rfl rfl) ?_
                  refine ow_val rfl (gd_go rfl s113) (ex_eqlb rfl rfl) ?_
                  refine ow_val rfl rfl (ex_pickt rfl s113 rfl) ?_
                  refine ow_val rfl rfl (ex_assign rfl) ?_
                  refine ow_nil ?_
                  refine qw_seq ?_
                  refine cw_ret ?_
                  refine qw_ret1 rfl rfl (fun w' h => ⟨congrArg (fun z => Ending.returned (.bool z)) ?_, h.ag.below⟩)
                  first
                  | rfl
                  | (rw [hall]; rw [show decide (n ∈ (mentS (a ++ mentN n ++ z) below)) = decide (n < below) from by simp only [mentS_iff hin]]; simp)
                  | (have := bytesN_8 n; have q := of_decide_eq_false s40; exact decide_eq_true (by omega))
                ·
                  cases s113
end Go.Proofs.YtnjomdjkbbhdoaaDoor
