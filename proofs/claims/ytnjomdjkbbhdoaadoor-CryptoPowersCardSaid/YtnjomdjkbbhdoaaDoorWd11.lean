/-
  Walks of the laws of keys: seals, powers.
  No condition.
-/
import Derived.Test.YtnjomdjkbbhdoaaDoorWd10
namespace Go.Proofs.YtnjomdjkbbhdoaaDoor
open Go.RowKit
set_option linter.unusedVariables false
set_option linter.unusedSimpArgs false
set_option maxRecDepth 100000

set_option maxHeartbeats 4000000 in
theorem lawSeals (ks : List T) (a c : Int) (d m : List UInt8) {v mv nv : Value} {σ : Hp} {w : World} (hi : Imm σ w) (htab : TabC Tryd.prog σ) (hl : KidsV σ v ks) (hm : BytesV σ mv d) (hn : BytesV σ nv m) : Calls Tryd.prog 8 #[v, .int .i64 a, .int .i64 c, mv, nv] w fun e w' => e = .returned (.bool true) ∧ Below w.heap.size w w' := by
  refine enter (St w (fun _ => False) σ [] []) Tryd.func8 rfl Tryd.ntmps8 rfl (St.start hi) ?_
  refine cw_seq ?_
  refine cw_region ?_
  refine ow_val rfl rfl (ex_assign rfl) ?_
  refine ow_nil ?_
  refine qw_seq ?_
  refine cw_seq ?_
  refine cw_region ?_
  refine ow_cv rfl rfl (ex_callf rfl (fun w h => callB ((pHead7 h.im htab)))) ?_
  refine ow_val rfl rfl (ex_assign rfl) ?_
  refine ow_nil ?_
  refine qw_seq ?_
  refine cw_seq ?_
  refine cw_region ?_
  refine ow_val rfl rfl (ex_move rfl) ?_
  refine ow_ck0E rfl rfl (ex_callf rfl (fun w h => pBothL ks h.im htab hl)) (fun v30 σ4 K4 hl4 hf4 hr4 => ?_)
  obtain ⟨pv, pd, ok, rfl, hok⟩ := bothR hr4
  refine ow_val rfl rfl (ex_move rfl) ?_
  refine ow_val rfl rfl (ex_extract rfl rfl) ?_
  refine ow_val rfl rfl (ex_extract rfl rfl) ?_
  refine ow_val rfl rfl (ex_extract rfl rfl) ?_
  refine ow_val rfl rfl (ex_assign rfl) ?_
  refine ow_val rfl rfl (ex_assign rfl) ?_
  refine ow_val rfl rfl (ex_assign rfl) ?_
  refine ow_nil ?_
  refine qw_seq ?_
  refine cw_seq ?_
  refine cw_seq ?_
  refine cw_region ?_
  refine ow_val rfl rfl (ex_move rfl) ?_
  refine ow_val rfl rfl (ex_not rfl) ?_
  refine ow_nil ?_
  refine qw_seq ?_
  refine cw_cond rfl (fun c35 => ?_) (fun c35 => ?_)
  ·
    refine cw_seq ?_
    refine cw_region ?_
    refine ow_val rfl rfl (ex_move rfl) ?_
    refine ow_val rfl rfl (ex_assign rfl) ?_
    refine ow_nil ?_
    refine qw_seq ?_
    refine cw_ret ?_
    refine qw_then_ret ?_
    refine qw_ret1 rfl rfl (fun w' h => ⟨congrArg (fun z => Ending.returned (.bool z)) ?_, h.ag.below⟩)
    first | rfl | (rw [G7]; rfl) | (refine decide_eq_true ?_; (simp only [decide_eq_true_eq, decide_eq_false_iff_not, ne_eq, Decidable.not_not] at *; have hB := hS.bad (by omega); omega))
  ·
    have hok1 : ok = true := by simpa using c35
    obtain ⟨bv, bd, Kv, Kd, ts, rfl, rfl, rfl, hv4, hd4⟩ := hok hok1
    subst hok1
    refine cw_skip ?_
    refine qw_seq ?_
    refine cw_seq ?_
    have htab4 := htab.le hl4
    have hm4 := hm.le hl4
    have hn4 := hn.le hl4
    refine cw_mono (fun w h => h.dropG (List.sublist_append_left _ _)) ?_
    refine cw_region ?_
    refine ow_val rfl rfl (ex_move rfl) ?_
    refine ow_val rfl rfl (ex_move rfl) ?_
    refine ow_val rfl rfl (ex_move rfl) ?_
    refine ow_ckE rfl rfl (ex_callf rfl (fun w h => pSeal h.hasE htab4 hv4 hm4)) (fun v41 σ5 K5 hl5 hf5 hr5 => ?_)
    rcases hq5 : madeV ts (ofT 4 d) [a] with ⟨s0, e1, t1⟩
    rw [hq5] at hr5
    simp only at hr5
    obtain ⟨rfl, hv5⟩ := hr5
    have htab5 := htab4.le hl5
    have hm5 := hm4.le hl5
    have hn5 := hn4.le hl5
    refine ow_val rfl rfl (ex_move rfl) ?_
    refine ow_val rfl rfl (ex_extract rfl rfl) ?_
    refine ow_val rfl rfl (ex_extract rfl rfl) ?_
    refine ow_val rfl rfl (ex_assign rfl) ?_
    refine ow_val rfl rfl (ex_assign rfl) ?_
    refine ow_nil ?_
    refine qw_seq ?_
    refine cw_seq ?_
    refine cw_region ?_
    refine ow_val rfl rfl (ex_move rfl) ?_
    refine ow_val rfl rfl (ex_move rfl) ?_
    refine ow_val rfl rfl (ex_move rfl) ?_
    refine ow_ckE rfl rfl (ex_callf rfl (fun w h => pSign h.hasE htab5 hv5 hm5)) (fun v48 σ6 K6 hl6 hf6 hr6 => ?_)
    rcases hq6 : madeV t1 (ofT 3 d) [a] with ⟨g0, f1, t2⟩
    rw [hq6] at hr6
    simp only at hr6
    obtain ⟨rfl, hv6⟩ := hr6
    have htab6 := htab5.le hl6
    have hm6 := hm5.le hl6
    have hn6 := hn5.le hl6
    refine ow_val rfl rfl (ex_move rfl) ?_
    refine ow_val rfl rfl (ex_extract rfl rfl) ?_
    refine ow_val rfl rfl (ex_extract rfl rfl) ?_
    refine ow_val rfl rfl (ex_assign rfl) ?_
    refine ow_val rfl rfl (ex_assign rfl) ?_
    refine ow_nil ?_
    refine qw_seq ?_
    refine cw_seq ?_
    refine cw_region ?_
    refine ow_val rfl rfl (ex_move rfl) ?_
    refine ow_val rfl rfl (ex_move rfl) ?_
    refine ow_ckE rfl rfl (ex_callf rfl (fun w h => pPub h.hasE htab6 hv6)) (fun v54 σ7 K7 hl7 hf7 hr7 => ?_)
    rcases hq7 : madeV t2 (ofT 2 []) [a] with ⟨p0, h1, t3⟩
    rw [hq7] at hr7
    simp only at hr7
    obtain ⟨rfl, hv7⟩ := hr7
    have htab7 := htab6.le hl7
    have hm7 := hm6.le hl7
    have hn7 := hn6.le hl7
    refine ow_val rfl rfl (ex_move rfl) ?_
    refine ow_val rfl rfl (ex_extract rfl rfl) ?_
    refine ow_val rfl rfl (ex_extract rfl rfl) ?_
    refine ow_val rfl rfl (ex_assign rfl) ?_
    refine ow_val rfl rfl (ex_assign rfl) ?_
    refine ow_nil ?_
    refine qw_seq ?_
    refine cw_seq ?_
    refine cw_region ?_
    refine ow_val rfl rfl (ex_move rfl) ?_
    refine ow_val rfl rfl (ex_move rfl) ?_
    refine ow_ckE rfl rfl (ex_callf rfl (fun w h => pPub h.hasE htab7 hv7)) (fun v60 σ8 K8 hl8 hf8 hr8 => ?_)
    rcases hq8 : madeV t3 (ofT 2 []) [c] with ⟨q0, i1, t4⟩
    rw [hq8] at hr8
    simp only at hr8
    obtain ⟨rfl, hv8⟩ := hr8
    have htab8 := htab7.le hl8
    have hm8 := hm7.le hl8
    have hn8 := hn7.le hl8
    have hS : Seals a c d ts t1 t2 t3 t4 s0 e1 g0 f1 p0 h1 q0 i1 := ⟨hq5, hq6, hq7, hq8, hv4.nd.1⟩
    refine ow_val rfl rfl (ex_move rfl) ?_
    refine ow_val rfl rfl (ex_extract rfl rfl) ?_
    refine ow_val rfl rfl (ex_extract rfl rfl) ?_
    refine ow_val rfl rfl (ex_assign rfl) ?_
    refine ow_val rfl rfl (ex_assign rfl) ?_
    refine ow_nil ?_
    refine qw_seq ?_
    refine cw_seq ?_
    refine cw_seq ?_
    refine cw_region ?_
    refine ow_val rfl rfl (ex_move rfl) ?_
    refine ow_val rfl rfl (ex_neq rfl rfl) ?_
    refine ow_val rfl rfl (ex_move rfl) ?_
    refine ow_split (g := some (2, false)) rfl (fun s65 => ?_) (fun s65 => ?_)
    ·
      refine ow_skip rfl (gd_no rfl s65) ?_
      refine ow_skip rfl (gd_no rfl s65) ?_
      refine ow_val rfl rfl (ex_pickt rfl s65 rfl) ?_
      refine ow_val rfl rfl (ex_move rfl) ?_
      refine ow_skip rfl rfl ?_
      refine ow_skip rfl rfl ?_
      refine ow_val rfl rfl (ex_pick_t rfl rfl) ?_
      refine ow_val rfl rfl (ex_move rfl) ?_
      refine ow_skip rfl rfl ?_
      refine ow_skip rfl rfl ?_
      refine ow_val rfl rfl (ex_pick_t rfl rfl) ?_
      refine ow_nil ?_
      refine qw_seq ?_
      refine cw_cond_t rfl ?_
      refine cw_seq ?_
      refine cw_region ?_
      refine ow_val rfl rfl (ex_move rfl) ?_
      refine ow_val rfl rfl (ex_move rfl) ?_
      refine ow_split (g := some (1, true)) rfl (fun s78 => ?_) (fun s78 => ?_)
      ·
        refine ow_val rfl (gd_go rfl s78) (ex_move rfl) ?_
        refine ow_val rfl (gd_go rfl s78) (ex_move rfl) ?_
        refine ow_val rfl (gd_go rfl s78) (ex_eql rfl rfl) ?_
        refine ow_val rfl (gd_go rfl s78) (ex_move rfl) ?_
        refine ow_split (g := some (5, true)) rfl (fun s82 => ?_) (fun s82 => ?_)
        ·
          refine ow_val rfl (gd_go rfl s82) (ex_move rfl) ?_
          refine ow_val rfl (gd_go rfl s82) (ex_move rfl) ?_
          refine ow_val rfl (gd_go rfl s82) (ex_eql rfl rfl) ?_
          refine ow_val rfl (gd_go rfl s78) (ex_pickt rfl s82 rfl) ?_
          refine ow_val rfl (gd_go rfl s78) (ex_move rfl) ?_
          refine ow_split (g := some (10, false)) rfl (fun s87 => ?_) (fun s87 => ?_)
          ·
            refine ow_skip rfl (gd_no rfl s87) ?_
            refine ow_skip rfl (gd_no rfl s87) ?_
            refine ow_val rfl (gd_go rfl s78) (ex_pickt rfl s87 rfl) ?_
            refine ow_val rfl (gd_go rfl s78) (ex_move rfl) ?_
            refine ow_skip rfl rfl ?_
            refine ow_skip rfl rfl ?_
            refine ow_val rfl (gd_go rfl s78) (ex_pick_t rfl rfl) ?_
            refine ow_val rfl (gd_go rfl s78) (ex_move rfl) ?_
            refine ow_skip rfl rfl ?_
            refine ow_skip rfl rfl ?_
            refine ow_val rfl (gd_go rfl s78) (ex_pick_t rfl rfl) ?_
            refine ow_val rfl (gd_go rfl s78) (ex_move rfl) ?_
            refine ow_skip rfl rfl ?_
            refine ow_skip rfl rfl ?_
            refine ow_val rfl (gd_go rfl s78) (ex_pick_t rfl rfl) ?_
            refine ow_val rfl (gd_go rfl s78) (ex_move rfl) ?_
            refine ow_skip rfl rfl ?_
            refine ow_skip rfl rfl ?_
            refine ow_val rfl (gd_go rfl s78) (ex_pick_t rfl rfl) ?_
            refine ow_val rfl rfl (ex_pickt rfl s78 rfl) ?_
            refine ow_val rfl rfl (ex_assign rfl) ?_
            refine ow_nil ?_
            refine qw_seq ?_
            refine cw_ret ?_
            refine qw_then_ret ?_
            refine qw_ret1 rfl rfl (fun w' h => ⟨congrArg (fun z => Ending.returned (.bool z)) ?_, h.ag.below⟩)
            first | rfl | (rw [G7]; rfl) | (refine decide_eq_true ?_; (simp only [decide_eq_true_eq, decide_eq_false_iff_not, ne_eq, Decidable.not_not] at *; have hB := hS.bad (by omega); omega))
          ·
            refine ow_val rfl (gd_go rfl s87) (ex_move rfl) ?_
            refine ow_val rfl (gd_go rfl s87) (ex_neq rfl rfl) ?_
            refine ow_val rfl (gd_go rfl s78) (ex_pickf rfl s87 rfl) ?_
            refine ow_val rfl (gd_go rfl s78) (ex_move rfl) ?_
            refine ow_split (g := some (14, false)) rfl (fun s91 => ?_) (fun s91 => ?_)
            ·
              refine ow_skip rfl (gd_no rfl s91) ?_
              refine ow_skip rfl (gd_no rfl s91) ?_
              refine ow_val rfl (gd_go rfl s78) (ex_pickt rfl s91 rfl) ?_
              refine ow_val rfl (gd_go rfl s78) (ex_move rfl) ?_
              refine ow_skip rfl rfl ?_
              refine ow_skip rfl rfl ?_
              refine ow_val rfl (gd_go rfl s78) (ex_pick_t rfl rfl) ?_
              refine ow_val rfl (gd_go rfl s78) (ex_move rfl) ?_
              refine ow_skip rfl rfl ?_
              refine ow_skip rfl rfl ?_
              refine ow_val rfl (gd_go rfl s78) (ex_pick_t rfl rfl) ?_
              refine ow_val rfl (gd_go rfl s78) (ex_move rfl) ?_
              refine ow_skip rfl rfl ?_
              refine ow_skip rfl rfl ?_
              refine ow_val rfl (gd_go rfl s78) (ex_pick_t rfl rfl) ?_
              refine ow_val rfl rfl (ex_pickt rfl s78 rfl) ?_
              refine ow_val rfl rfl (ex_assign rfl) ?_
              refine ow_nil ?_
              refine qw_seq ?_
              refine cw_ret ?_
              refine qw_then_ret ?_
              refine qw_ret1 rfl rfl (fun w' h => ⟨congrArg (fun z => Ending.returned (.bool z)) ?_, h.ag.below⟩)
              first | rfl | (rw [G7]; rfl) | (refine decide_eq_true ?_; (simp only [decide_eq_true_eq, decide_eq_false_iff_not, ne_eq, Decidable.not_not] at *; have hB := hS.bad (by omega); omega))
            ·
              refine ow_val rfl (gd_go rfl s91) (ex_move rfl) ?_
              refine ow_val rfl (gd_go rfl s91) (ex_eql rfl rfl) ?_
              refine ow_val rfl (gd_go rfl s78) (ex_pickf rfl s91 rfl) ?_
              refine ow_val rfl (gd_go rfl s78) (ex_move rfl) ?_
              refine ow_split (g := some (18, false)) rfl (fun s95 => ?_) (fun s95 => ?_)
              ·
                refine ow_skip rfl (gd_no rfl s95) ?_
                refine ow_skip rfl (gd_no rfl s95) ?_
                refine ow_val rfl (gd_go rfl s78) (ex_pickt rfl s95 rfl) ?_
                refine ow_val rfl (gd_go rfl s78) (ex_move rfl) ?_
                refine ow_skip rfl rfl ?_
                refine ow_skip rfl rfl ?_
                refine ow_val rfl (gd_go rfl s78) (ex_pick_t rfl rfl) ?_
                refine ow_val rfl (gd_go rfl s78) (ex_move rfl) ?_
                refine ow_skip rfl rfl ?_
                refine ow_skip rfl rfl ?_
                refine ow_val rfl (gd_go rfl s78) (ex_pick_t rfl rfl) ?_
                refine ow_val rfl rfl (ex_pickt rfl s78 rfl) ?_
                refine ow_val rfl rfl (ex_assign rfl) ?_
                refine ow_nil ?_
                refine qw_seq ?_
                refine cw_ret ?_
                refine qw_then_ret ?_
                refine qw_ret1 rfl rfl (fun w' h => ⟨congrArg (fun z => Ending.returned (.bool z)) ?_, h.ag.below⟩)
                first | rfl | (rw [G7]; rfl) | (refine decide_eq_true ?_; (simp only [decide_eq_true_eq, decide_eq_false_iff_not, ne_eq, Decidable.not_not] at *; have hB := hS.bad (by omega); omega))
              ·
                refine ow_val rfl (gd_go rfl s95) (ex_move rfl) ?_
                refine ow_val rfl (gd_go rfl s95) (ex_eql rfl rfl) ?_
                refine ow_val rfl (gd_go rfl s78) (ex_pickf rfl s95 rfl) ?_
                refine ow_val rfl (gd_go rfl s78) (ex_move rfl) ?_
                refine ow_split (g := some (22, false)) rfl (fun s99 => ?_) (fun s99 => ?_)
                ·
                  refine ow_skip rfl (gd_no rfl s99) ?_
                  refine ow_skip rfl (gd_no rfl s99) ?_
                  refine ow_val rfl (gd_go rfl s78) (ex_pickt rfl s99 rfl) ?_
                  refine ow_val rfl (gd_go rfl s78) (ex_move rfl) ?_
                  refine ow_skip rfl rfl ?_
                  refine ow_skip rfl rfl ?_
                  refine ow_val rfl (gd_go rfl s78) (ex_pick_t rfl rfl) ?_
                  refine ow_val rfl rfl (ex_pickt rfl s78 rfl) ?_
                  refine ow_val rfl rfl (ex_assign rfl) ?_
                  refine ow_nil ?_
                  refine qw_seq ?_
                  refine cw_ret ?_
                  refine qw_then_ret ?_
                  refine qw_ret1 rfl rfl (fun w' h => ⟨congrArg (fun z => Ending.returned (.bool z)) ?_, h.ag.below⟩)
                  first | rfl | (rw [G7]; rfl) | (refine decide_eq_true ?_; (simp only [decide_eq_true_eq, decide_eq_false_iff_not, ne_eq, Decidable.not_not] at *; have hB := hS.bad (by omega); omega))
                ·
                  refine ow_val rfl (gd_go rfl s99) (ex_move rfl) ?_
                  refine ow_val rfl (gd_go rfl s99) (ex_eql rfl rfl) ?_
                  refine ow_val rfl (gd_go rfl s78) (ex_pickf rfl s99 rfl) ?_
                  refine ow_val rfl (gd_go rfl s78) (ex_move rfl) ?_
                  refine ow_split (g := some (26, false)) rfl (fun s103 => ?_) (fun s103 => ?_)
                  ·
                    refine ow_skip rfl (gd_no rfl s103) ?_
                    refine ow_skip rfl (gd_no rfl s103) ?_
                    refine ow_val rfl (gd_go rfl s78) (ex_pickt rfl s103 rfl) ?_
                    refine ow_val rfl rfl (ex_pickt rfl s78 rfl) ?_
                    refine ow_val rfl rfl (ex_assign rfl) ?_
                    refine ow_nil ?_
                    refine qw_seq ?_
                    refine cw_ret ?_
                    refine qw_then_ret ?_
                    refine qw_ret1 rfl rfl (fun w' h => ⟨congrArg (fun z => Ending.returned (.bool z)) ?_, h.ag.below⟩)
                    first | rfl | (rw [G7]; rfl) | (refine decide_eq_true ?_; (simp only [decide_eq_true_eq, decide_eq_false_iff_not, ne_eq, Decidable.not_not] at *; have hB := hS.bad (by omega); omega))
                  ·
                    refine ow_val rfl (gd_go rfl s103) (ex_move rfl) ?_
                    refine ow_val rfl (gd_go rfl s103) (ex_eql rfl rfl) ?_
                    refine ow_val rfl (gd_go rfl s78) (ex_pickf rfl s103 rfl) ?_
                    refine ow_val rfl rfl (ex_pickt rfl s78 rfl) ?_
                    refine ow_val rfl rfl (ex_assign rfl) ?_
                    refine ow_nil ?_
                    refine qw_seq ?_
                    refine cw_ret ?_
                    refine qw_then_ret ?_
                    refine qw_ret1 rfl rfl (fun w' h => ⟨congrArg (fun z => Ending.returned (.bool z)) ?_, h.ag.below⟩)
                    first | rfl | (rw [G7]; rfl) | (refine decide_eq_true ?_; (simp only [decide_eq_true_eq, decide_eq_false_iff_not, ne_eq, Decidable.not_not] at *; have hB := hS.bad (by omega); omega))
        ·
          refine ow_skip rfl (gd_no rfl s82) ?_
          refine ow_skip rfl (gd_no rfl s82) ?_
          refine ow_skip rfl (gd_no rfl s82) ?_
          refine ow_val rfl (gd_go rfl s78) (ex_pickf rfl s82 rfl) ?_
          refine ow_val rfl (gd_go rfl s78) (ex_move rfl) ?_
          refine ow_val rfl rfl (ex_move rfl) ?_
          refine ow_val rfl rfl (ex_neq rfl rfl) ?_
          refine ow_val rfl (gd_go rfl s78) (ex_pick_f rfl rfl) ?_
          refine ow_val rfl (gd_go rfl s78) (ex_move rfl) ?_
          refine ow_split (g := some (14, false)) rfl (fun s91 => ?_) (fun s91 => ?_)
          ·
            refine ow_skip rfl (gd_no rfl s91) ?_
            refine ow_skip rfl (gd_no rfl s91) ?_
            refine ow_val rfl (gd_go rfl s78) (ex_pickt rfl s91 rfl) ?_
            refine ow_val rfl (gd_go rfl s78) (ex_move rfl) ?_
            refine ow_skip rfl rfl ?_
            refine ow_skip rfl rfl ?_
            refine ow_val rfl (gd_go rfl s78) (ex_pick_t rfl rfl) ?_
            refine ow_val rfl (gd_go rfl s78) (ex_move rfl) ?_
            refine ow_skip rfl rfl ?_
            refine ow_skip rfl rfl ?_
            refine ow_val rfl (gd_go rfl s78) (ex_pick_t rfl rfl) ?_
            refine ow_val rfl (gd_go rfl s78) (ex_move rfl) ?_
            refine ow_skip rfl rfl ?_
            refine ow_skip rfl rfl ?_
            refine ow_val rfl (gd_go rfl s78) (ex_pick_t rfl rfl) ?_
            refine ow_val rfl rfl (ex_pickt rfl s78 rfl) ?_
            refine ow_val rfl rfl (ex_assign rfl) ?_
            refine ow_nil ?_
            refine qw_seq ?_
            refine cw_ret ?_
            refine qw_then_ret ?_
            refine qw_ret1 rfl rfl (fun w' h => ⟨congrArg (fun z => Ending.returned (.bool z)) ?_, h.ag.below⟩)
            first | rfl | (rw [G7]; rfl) | (refine decide_eq_true ?_; (simp only [decide_eq_true_eq, decide_eq_false_iff_not, ne_eq, Decidable.not_not] at *; have hB := hS.bad (by omega); omega))
          ·
            refine ow_val rfl (gd_go rfl s91) (ex_move rfl) ?_
            refine ow_val rfl (gd_go rfl s91) (ex_eql rfl rfl) ?_
            refine ow_val rfl (gd_go rfl s78) (ex_pickf rfl s91 rfl) ?_
            refine ow_val rfl (gd_go rfl s78) (ex_move rfl) ?_
            refine ow_split (g := some (18, false)) rfl (fun s95 => ?_) (fun s95 => ?_)
            ·
              refine ow_skip rfl (gd_no rfl s95) ?_
              refine ow_skip rfl (gd_no rfl s95) ?_
              refine ow_val rfl (gd_go rfl s78) (ex_pickt rfl s95 rfl) ?_
              refine ow_val rfl (gd_go rfl s78) (ex_move rfl) ?_
              refine ow_skip rfl rfl ?_
              refine ow_skip rfl rfl ?_
              refine ow_val rfl (gd_go rfl s78) (ex_pick_t rfl rfl) ?_
              refine ow_val rfl (gd_go rfl s78) (ex_move rfl) ?_
              refine ow_skip rfl rfl ?_
              refine ow_skip rfl rfl ?_
              refine ow_val rfl (gd_go rfl s78) (ex_pick_t rfl rfl) ?_
              refine ow_val rfl rfl (ex_pickt rfl s78 rfl) ?_
              refine ow_val rfl rfl (ex_assign rfl) ?_
              refine ow_nil ?_
              refine qw_seq ?_
              refine cw_ret ?_
              refine qw_then_ret ?_
              refine qw_ret1 rfl rfl (fun w' h => ⟨congrArg (fun z => Ending.returned (.bool z)) ?_, h.ag.below⟩)
              first | rfl | (rw [G7]; rfl) | (refine decide_eq_true ?_; (simp only [decide_eq_true_eq, decide_eq_false_iff_not, ne_eq, Decidable.not_not] at *; have hB := hS.bad (by omega); omega))
            ·
              refine ow_val rfl (gd_go rfl s95) (ex_move rfl) ?_
              refine ow_val rfl (gd_go rfl s95) (ex_eql rfl rfl) ?_
              refine ow_val rfl (gd_go rfl s78) (ex_pickf rfl s95 rfl) ?_
              refine ow_val rfl (gd_go rfl s78) (ex_move rfl) ?_
              refine ow_split (g := some (22, false)) rfl (fun s99 => ?_) (fun s99 => ?_)
              ·
                refine ow_skip rfl (gd_no rfl s99) ?_
                refine ow_skip rfl (gd_no rfl s99) ?_
                refine ow_val rfl (gd_go rfl s78) (ex_pickt rfl s99 rfl) ?_
                refine ow_val rfl (gd_go rfl s78) (ex_move rfl) ?_
                refine ow_skip rfl rfl ?_
                refine ow_skip rfl rfl ?_
                refine ow_val rfl (gd_go rfl s78) (ex_pick_t rfl rfl) ?_
                refine ow_val rfl rfl (ex_pickt rfl s78 rfl) ?_
                refine ow_val rfl rfl (ex_assign rfl) ?_
                refine ow_nil ?_
                refine qw_seq ?_
                refine cw_ret ?_
                refine qw_then_ret ?_
                refine qw_ret1 rfl rfl (fun w' h => ⟨congrArg (fun z => Ending.returned (.bool z)) ?_, h.ag.below⟩)
                first | rfl | (rw [G7]; rfl) | (refine decide_eq_true ?_; (simp only [decide_eq_true_eq, decide_eq_false_iff_not, ne_eq, Decidable.not_not] at *; have hB := hS.bad (by omega); omega))
              ·
                refine ow_val rfl (gd_go rfl s99) (ex_move rfl) ?_
                refine ow_val rfl (gd_go rfl s99) (ex_eql rfl rfl) ?_
                refine ow_val rfl (gd_go rfl s78) (ex_pickf rfl s99 rfl) ?_
                refine ow_val rfl (gd_go rfl s78) (ex_move rfl) ?_
                refine ow_split (g := some (26, false)) rfl (fun s103 => ?_) (fun s103 => ?_)
                ·
                  refine ow_skip rfl (gd_no rfl s103) ?_
                  refine ow_skip rfl (gd_no rfl s103) ?_
                  refine ow_val rfl (gd_go rfl s78) (ex_pickt rfl s103 rfl) ?_
                  refine ow_val rfl rfl (ex_pickt rfl s78 rfl) ?_
                  refine ow_val rfl rfl (ex_assign rfl) ?_
                  refine ow_nil ?_
                  refine qw_seq ?_
                  refine cw_ret ?_
                  refine qw_then_ret ?_
                  refine qw_ret1 rfl rfl (fun w' h => ⟨congrArg (fun z => Ending.returned (.bool z)) ?_, h.ag.below⟩)
                  first | rfl | (rw [G7]; rfl) | (refine decide_eq_true ?_; (simp only [decide_eq_true_eq, decide_eq_false_iff_not, ne_eq, Decidable.not_not] at *; have hB := hS.bad (by omega); omega))
                ·
                  refine ow_val rfl (gd_go rfl s103) (ex_move rfl) ?_
                  refine ow_val rfl (gd_go rfl s103) (ex_eql rfl rfl) ?_
                  refine ow_val rfl (gd_go rfl s78) (ex_pickf rfl s103 rfl) ?_
                  refine ow_val rfl rfl (ex_pickt rfl s78 rfl) ?_
                  refine ow_val rfl rfl (ex_assign rfl) ?_
                  refine ow_nil ?_
                  refine qw_seq ?_
                  refine cw_ret ?_
                  refine qw_then_ret ?_
                  refine qw_ret1 rfl rfl (fun w' h => ⟨congrArg (fun z => Ending.returned (.bool z)) ?_, h.ag.below⟩)
                  first | rfl | (rw [G7]; rfl) | (refine decide_eq_true ?_; (simp only [decide_eq_true_eq, decide_eq_false_iff_not, ne_eq, Decidable.not_not] at *; have hB := hS.bad (by omega); omega))
      ·
        cases s78
    ·
      refine ow_val rfl (gd_go rfl s65) (ex_move rfl) ?_
      refine ow_val rfl (gd_go rfl s65) (ex_neq rfl rfl) ?_
      refine ow_val rfl rfl (ex_pickf rfl s65 rfl) ?_
      refine ow_val rfl rfl (ex_move rfl) ?_
      refine ow_split (g := some (6, false)) rfl (fun s69 => ?_) (fun s69 => ?_)
      ·
        refine ow_skip rfl (gd_no rfl s69) ?_
        refine ow_skip rfl (gd_no rfl s69) ?_
        refine ow_val rfl rfl (ex_pickt rfl s69 rfl) ?_
        refine ow_val rfl rfl (ex_move rfl) ?_
        refine ow_skip rfl rfl ?_
        refine ow_skip rfl rfl ?_
        refine ow_val rfl rfl (ex_pick_t rfl rfl) ?_
        refine ow_nil ?_
        refine qw_seq ?_
        refine cw_cond_t rfl ?_
        refine cw_seq ?_
        refine cw_region ?_
        refine ow_val rfl rfl (ex_move rfl) ?_
        refine ow_val rfl rfl (ex_move rfl) ?_
        refine ow_split (g := some (1, true)) rfl (fun s78 => ?_) (fun s78 => ?_)
        ·
          refine ow_val rfl (gd_go rfl s78) (ex_move rfl) ?_
          refine ow_val rfl (gd_go rfl s78) (ex_move rfl) ?_
          refine ow_val rfl (gd_go rfl s78) (ex_eql rfl rfl) ?_
          refine ow_val rfl (gd_go rfl s78) (ex_move rfl) ?_
          refine ow_split (g := some (5, true)) rfl (fun s82 => ?_) (fun s82 => ?_)
          ·
            refine ow_val rfl (gd_go rfl s82) (ex_move rfl) ?_
            refine ow_val rfl (gd_go rfl s82) (ex_move rfl) ?_
            refine ow_val rfl (gd_go rfl s82) (ex_eql rfl rfl) ?_
            refine ow_val rfl (gd_go rfl s78) (ex_pickt rfl s82 rfl) ?_
            refine ow_val rfl (gd_go rfl s78) (ex_move rfl) ?_
            refine ow_split (g := some (10, false)) rfl (fun s87 => ?_) (fun s87 => ?_)
            ·
              refine ow_skip rfl (gd_no rfl s87) ?_
              refine ow_skip rfl (gd_no rfl s87) ?_
              refine ow_val rfl (gd_go rfl s78) (ex_pickt rfl s87 rfl) ?_
              refine ow_val rfl (gd_go rfl s78) (ex_move rfl) ?_
              refine ow_skip rfl rfl ?_
              refine ow_skip rfl rfl ?_
              refine ow_val rfl (gd_go rfl s78) (ex_pick_t rfl rfl) ?_
              refine ow_val rfl (gd_go rfl s78) (ex_move rfl) ?_
              refine ow_skip rfl rfl ?_
              refine ow_skip rfl rfl ?_
              refine ow_val rfl (gd_go rfl s78) (ex_pick_t rfl rfl) ?_
              refine ow_val rfl (gd_go rfl s78) (ex_move rfl) ?_
              refine ow_skip rfl rfl ?_
              refine ow_skip rfl rfl ?_
              refine ow_val rfl (gd_go rfl s78) (ex_pick_t rfl rfl) ?_
              refine ow_val rfl (gd_go rfl s78) (ex_move rfl) ?_
              refine ow_skip rfl rfl ?_
              refine ow_skip rfl rfl ?_
              refine ow_val rfl (gd_go rfl s78) (ex_pick_t rfl rfl) ?_
              refine ow_val rfl rfl (ex_pickt rfl s78 rfl) ?_
              refine ow_val rfl rfl (ex_assign rfl) ?_
              refine ow_nil ?_
              refine qw_seq ?_
              refine cw_ret ?_
              refine qw_then_ret ?_
              refine qw_ret1 rfl rfl (fun w' h => ⟨congrArg (fun z => Ending.returned (.bool z)) ?_, h.ag.below⟩)
              first | rfl | (rw [G7]; rfl) | (refine decide_eq_true ?_; (simp only [decide_eq_true_eq, decide_eq_false_iff_not, ne_eq, Decidable.not_not] at *; have hB := hS.bad (by omega); omega))
            ·
              refine ow_val rfl (gd_go rfl s87) (ex_move rfl) ?_
              refine ow_val rfl (gd_go rfl s87) (ex_neq rfl rfl) ?_
              refine ow_val rfl (gd_go rfl s78) (ex_pickf rfl s87 rfl) ?_
              refine ow_val rfl (gd_go rfl s78) (ex_move rfl) ?_
              refine ow_split (g := some (14, false)) rfl (fun s91 => ?_) (fun s91 => ?_)
              ·
                refine ow_skip rfl (gd_no rfl s91) ?_
                refine ow_skip rfl (gd_no rfl s91) ?_
                refine ow_val rfl (gd_go rfl s78) (ex_pickt rfl s91 rfl) ?_
                refine ow_val rfl (gd_go rfl s78) (ex_move rfl) ?_
                refine ow_skip rfl rfl ?_
                refine ow_skip rfl rfl ?_
                refine ow_val rfl (gd_go rfl s78) (ex_pick_t rfl rfl) ?_
                refine ow_val rfl (gd_go rfl s78) (ex_move rfl) ?_
                refine ow_skip rfl rfl ?_
                refine ow_skip rfl rfl ?_
                refine ow_val rfl (gd_go rfl s78) (ex_pick_t rfl rfl) ?_
                refine ow_val rfl (gd_go rfl s78) (ex_move rfl) ?_
                refine ow_skip rfl rfl ?_
                refine ow_skip rfl rfl ?_
                refine ow_val rfl (gd_go rfl s78) (ex_pick_t rfl rfl) ?_
                refine ow_val rfl rfl (ex_pickt rfl s78 rfl) ?_
                refine ow_val rfl rfl (ex_assign rfl) ?_
                refine ow_nil ?_
                refine qw_seq ?_
                refine cw_ret ?_
                refine qw_then_ret ?_
                refine qw_ret1 rfl rfl (fun w' h => ⟨congrArg (fun z => Ending.returned (.bool z)) ?_, h.ag.below⟩)
                first | rfl | (rw [G7]; rfl) | (refine decide_eq_true ?_; (simp only [decide_eq_true_eq, decide_eq_false_iff_not, ne_eq, Decidable.not_not] at *; have hB := hS.bad (by omega); omega))
              ·
                refine ow_val rfl (gd_go rfl s91) (ex_move rfl) ?_
                refine ow_val rfl (gd_go rfl s91) (ex_eql rfl rfl) ?_
                refine ow_val rfl (gd_go rfl s78) (ex_pickf rfl s91 rfl) ?_
                refine ow_val rfl (gd_go rfl s78) (ex_move rfl) ?_
                refine ow_split (g := some (18, false)) rfl (fun s95 => ?_) (fun s95 => ?_)
                ·
                  refine ow_skip rfl (gd_no rfl s95) ?_
                  refine ow_skip rfl (gd_no rfl s95) ?_
                  refine ow_val rfl (gd_go rfl s78) (ex_pickt rfl s95 rfl) ?_
                  refine ow_val rfl (gd_go rfl s78) (ex_move rfl) ?_
                  refine ow_skip rfl rfl ?_
                  refine ow_skip rfl rfl ?_
                  refine ow_val rfl (gd_go rfl s78) (ex_pick_t rfl rfl) ?_
                  refine ow_val rfl (gd_go rfl s78) (ex_move rfl) ?_
                  refine ow_skip rfl rfl ?_
                  refine ow_skip rfl rfl ?_
                  refine ow_val rfl (gd_go rfl s78) (ex_pick_t rfl rfl) ?_
                  refine ow_val rfl rfl (ex_pickt rfl s78 rfl) ?_
                  refine ow_val rfl rfl (ex_assign rfl) ?_
                  refine ow_nil ?_
                  refine qw_seq ?_
                  refine cw_ret ?_
                  refine qw_then_ret ?_
                  refine qw_ret1 rfl rfl (fun w' h => ⟨congrArg (fun z => Ending.returned (.bool z)) ?_, h.ag.below⟩)
                  first | rfl | (rw [G7]; rfl) | (refine decide_eq_true ?_; (simp only [decide_eq_true_eq, decide_eq_false_iff_not, ne_eq, Decidable.not_not] at *; have hB := hS.bad (by omega); omega))
                ·
                  refine ow_val rfl (gd_go rfl s95) (ex_move rfl) ?_
                  refine ow_val rfl (gd_go rfl s95) (ex_eql rfl rfl) ?_
                  refine ow_val rfl (gd_go rfl s78) (ex_pickf rfl s95 rfl) ?_
                  refine ow_val rfl (gd_go rfl s78) (ex_move rfl) ?_
                  refine ow_split (g := some (22, false)) rfl (fun s99 => ?_) (fun s99 => ?_)
                  ·
                    refine ow_skip rfl (gd_no rfl s99) ?_
                    refine ow_skip rfl (gd_no rfl s99) ?_
                    refine ow_val rfl (gd_go rfl s78) (ex_pickt rfl s99 rfl) ?_
                    refine ow_val rfl (gd_go rfl s78) (ex_move rfl) ?_
                    refine ow_skip rfl rfl ?_
                    refine ow_skip rfl rfl ?_
                    refine ow_val rfl (gd_go rfl s78) (ex_pick_t rfl rfl) ?_
                    refine ow_val rfl rfl (ex_pickt rfl s78 rfl) ?_
                    refine ow_val rfl rfl (ex_assign rfl) ?_
                    refine ow_nil ?_
                    refine qw_seq ?_
                    refine cw_ret ?_
                    refine qw_then_ret ?_
                    refine qw_ret1 rfl rfl (fun w' h => ⟨congrArg (fun z => Ending.returned (.bool z)) ?_, h.ag.below⟩)
                    first | rfl | (rw [G7]; rfl) | (refine decide_eq_true ?_; (simp only [decide_eq_true_eq, decide_eq_false_iff_not, ne_eq, Decidable.not_not] at *; have hB := hS.bad (by omega); omega))
                  ·
                    refine ow_val rfl (gd_go rfl s99) (ex_move rfl) ?_
                    refine ow_val rfl (gd_go rfl s99) (ex_eql rfl rfl) ?_
                    refine ow_val rfl (gd_go rfl s78) (ex_pickf rfl s99 rfl) ?_
                    refine ow_val rfl (gd_go rfl s78) (ex_move rfl) ?_
                    refine ow_split (g := some (26, false)) rfl (fun s103 => ?_) (fun s103 => ?_)
                    ·
                      refine ow_skip rfl (gd_no rfl s103) ?_
                      refine ow_skip rfl (gd_no rfl s103) ?_
                      refine ow_val rfl (gd_go rfl s78) (ex_pickt rfl s103 rfl) ?_
                      refine ow_val rfl rfl (ex_pickt rfl s78 rfl) ?_
                      refine ow_val rfl rfl (ex_assign rfl) ?_
                      refine ow_nil ?_
                      refine qw_seq ?_
                      refine cw_ret ?_
                      refine qw_then_ret ?_
                      refine qw_ret1 rfl rfl (fun w' h => ⟨congrArg (fun z => Ending.returned (.bool z)) ?_, h.ag.below⟩)
                      first | rfl | (rw [G7]; rfl) | (refine decide_eq_true ?_; (simp only [decide_eq_true_eq, decide_eq_false_iff_not, ne_eq, Decidable.not_not] at *; have hB := hS.bad (by omega); omega))
                    ·
                      refine ow_val rfl (gd_go rfl s103) (ex_move rfl) ?_
                      refine ow_val rfl (gd_go rfl s103) (ex_eql rfl rfl) ?_
                      refine ow_val rfl (gd_go rfl s78) (ex_pickf rfl s103 rfl) ?_
                      refine ow_val rfl rfl (ex_pickt rfl s78 rfl) ?_
                      refine ow_val rfl rfl (ex_assign rfl) ?_
                      refine ow_nil ?_
                      refine qw_seq ?_
                      refine cw_ret ?_
                      refine qw_then_ret ?_
                      refine qw_ret1 rfl rfl (fun w' h => ⟨congrArg (fun z => Ending.returned (.bool z)) ?_, h.ag.below⟩)
                      first | rfl | (rw [G7]; rfl) | (refine decide_eq_true ?_; (simp only [decide_eq_true_eq, decide_eq_false_iff_not, ne_eq, Decidable.not_not] at *; have hB := hS.bad (by omega); omega))
          ·
            refine ow_skip rfl (gd_no rfl s82) ?_
            refine ow_skip rfl (gd_no rfl s82) ?_
            refine ow_skip rfl (gd_no rfl s82) ?_
            refine ow_val rfl (gd_go rfl s78) (ex_pickf rfl s82 rfl) ?_
            refine ow_val rfl (gd_go rfl s78) (ex_move rfl) ?_
            refine ow_val rfl rfl (ex_move rfl) ?_
            refine ow_val rfl rfl (ex_neq rfl rfl) ?_
            refine ow_val rfl (gd_go rfl s78) (ex_pick_f rfl rfl) ?_
            refine ow_val rfl (gd_go rfl s78) (ex_move rfl) ?_
            refine ow_split (g := some (14, false)) rfl (fun s91 => ?_) (fun s91 => ?_)
            ·
              refine ow_skip rfl (gd_no rfl s91) ?_
              refine ow_skip rfl (gd_no rfl s91) ?_
              refine ow_val rfl (gd_go rfl s78) (ex_pickt rfl s91 rfl) ?_
              refine ow_val rfl (gd_go rfl s78) (ex_move rfl) ?_
              refine ow_skip rfl rfl ?_
              refine ow_skip rfl rfl ?_
              refine ow_val rfl (gd_go rfl s78) (ex_pick_t rfl rfl) ?_
              refine ow_val rfl (gd_go rfl s78) (ex_move rfl) ?_
              refine ow_skip rfl rfl ?_
              refine ow_skip rfl rfl ?_
              refine ow_val rfl (gd_go rfl s78) (ex_pick_t rfl rfl) ?_
              refine ow_val rfl (gd_go rfl s78) (ex_move rfl) ?_
              refine ow_skip rfl rfl ?_
              refine ow_skip rfl rfl ?_
              refine ow_val rfl (gd_go rfl s78) (ex_pick_t rfl rfl) ?_
              refine ow_val rfl rfl (ex_pickt rfl s78 rfl) ?_
              refine ow_val rfl rfl (ex_assign rfl) ?_
              refine ow_nil ?_
              refine qw_seq ?_
              refine cw_ret ?_
              refine qw_then_ret ?_
              refine qw_ret1 rfl rfl (fun w' h => ⟨congrArg (fun z => Ending.returned (.bool z)) ?_, h.ag.below⟩)
              first | rfl | (rw [G7]; rfl) | (refine decide_eq_true ?_; (simp only [decide_eq_true_eq, decide_eq_false_iff_not, ne_eq, Decidable.not_not] at *; have hB := hS.bad (by omega); omega))
            ·
              refine ow_val rfl (gd_go rfl s91) (ex_move rfl) ?_
              refine ow_val rfl (gd_go rfl s91) (ex_eql rfl rfl) ?_
              refine ow_val rfl (gd_go rfl s78) (ex_pickf rfl s91 rfl) ?_
              refine ow_val rfl (gd_go rfl s78) (ex_move rfl) ?_
              refine ow_split (g := some (18, false)) rfl (fun s95 => ?_) (fun s95 => ?_)
              ·
                refine ow_skip rfl (gd_no rfl s95) ?_
                refine ow_skip rfl (gd_no rfl s95) ?_
                refine ow_val rfl (gd_go rfl s78) (ex_pickt rfl s95 rfl) ?_
                refine ow_val rfl (gd_go rfl s78) (ex_move rfl) ?_
                refine ow_skip rfl rfl ?_
                refine ow_skip rfl rfl ?_
                refine ow_val rfl (gd_go rfl s78) (ex_pick_t rfl rfl) ?_
                refine ow_val rfl (gd_go rfl s78) (ex_move rfl) ?_
                refine ow_skip rfl rfl ?_
                refine ow_skip rfl rfl ?_
                refine ow_val rfl (gd_go rfl s78) (ex_pick_t rfl rfl) ?_
                refine ow_val rfl rfl (ex_pickt rfl s78 rfl) ?_
                refine ow_val rfl rfl (ex_assign rfl) ?_
                refine ow_nil ?_
                refine qw_seq ?_
                refine cw_ret ?_
                refine qw_then_ret ?_
                refine qw_ret1 rfl rfl (fun w' h => ⟨congrArg (fun z => Ending.returned (.bool z)) ?_, h.ag.below⟩)
                first | rfl | (rw [G7]; rfl) | (refine decide_eq_true ?_; (simp only [decide_eq_true_eq, decide_eq_false_iff_not, ne_eq, Decidable.not_not] at *; have hB := hS.bad (by omega); omega))
              ·
                refine ow_val rfl (gd_go rfl s95) (ex_move rfl) ?_
                refine ow_val rfl (gd_go rfl s95) (ex_eql rfl rfl) ?_
                refine ow_val rfl (gd_go rfl s78) (ex_pickf rfl s95 rfl) ?_
                refine ow_val rfl (gd_go rfl s78) (ex_move rfl) ?_
                refine ow_split (g := some (22, false)) rfl (fun s99 => ?_) (fun s99 => ?_)
                ·
                  refine ow_skip rfl (gd_no rfl s99) ?_
                  refine ow_skip rfl (gd_no rfl s99) ?_
                  refine ow_val rfl (gd_go rfl s78) (ex_pickt rfl s99 rfl) ?_
                  refine ow_val rfl (gd_go rfl s78) (ex_move rfl) ?_
                  refine ow_skip rfl rfl ?_
                  refine ow_skip rfl rfl ?_
                  refine ow_val rfl (gd_go rfl s78) (ex_pick_t rfl rfl) ?_
                  refine ow_val rfl rfl (ex_pickt rfl s78 rfl) ?_
                  refine ow_val rfl rfl (ex_assign rfl) ?_
                  refine ow_nil ?_
                  refine qw_seq ?_
                  refine cw_ret ?_
                  refine qw_then_ret ?_
                  refine qw_ret1 rfl rfl (fun w' h => ⟨congrArg (fun z => Ending.returned (.bool z)) ?_, h.ag.below⟩)
                  first | rfl | (rw [G7]; rfl) | (refine decide_eq_true ?_; (simp only [decide_eq_true_eq, decide_eq_false_iff_not, ne_eq, Decidable.not_not] at *; have hB := hS.bad (by omega); omega))
                ·
                  refine ow_val rfl (gd_go rfl s99) (ex_move rfl) ?_
                  refine ow_val rfl (gd_go rfl s99) (ex_eql rfl rfl) ?_
                  refine ow_val rfl (gd_go rfl s78) (ex_pickf rfl s99 rfl) ?_
                  refine ow_val rfl (gd_go rfl s78) (ex_move rfl) ?_
                  refine ow_split (g := some (26, false)) rfl (fun s103 => ?_) (fun s103 => ?_)
                  ·
                    refine ow_skip rfl (gd_no rfl s103) ?_
                    refine ow_skip rfl (gd_no rfl s103) ?_
                    refine ow_val rfl (gd_go rfl s78) (ex_pickt rfl s103 rfl) ?_
                    refine ow_val rfl rfl (ex_pickt rfl s78 rfl) ?_
                    refine ow_val rfl rfl (ex_assign rfl) ?_
                    refine ow_nil ?_
                    refine qw_seq ?_
                    refine cw_ret ?_
                    refine qw_then_ret ?_
                    refine qw_ret1 rfl rfl (fun w' h => ⟨congrArg (fun z => Ending.returned (.bool z)) ?_, h.ag.below⟩)
                    first | rfl | (rw [G7]; rfl) | (refine decide_eq_true ?_; (simp only [decide_eq_true_eq, decide_eq_false_iff_not, ne_eq, Decidable.not_not] at *; have hB := hS.bad (by omega); omega))
                  ·
                    refine ow_val rfl (gd_go rfl s103) (ex_move rfl) ?_
                    refine ow_val rfl (gd_go rfl s103) (ex_eql rfl rfl) ?_
                    refine ow_val rfl (gd_go rfl s78) (ex_pickf rfl s103 rfl) ?_
                    refine ow_val rfl rfl (ex_pickt rfl s78 rfl) ?_
                    refine ow_val rfl rfl (ex_assign rfl) ?_
                    refine ow_nil ?_
                    refine qw_seq ?_
                    refine cw_ret ?_
                    refine qw_then_ret ?_
                    refine qw_ret1 rfl rfl (fun w' h => ⟨congrArg (fun z => Ending.returned (.bool z)) ?_, h.ag.below⟩)
                    first | rfl | (rw [G7]; rfl) | (refine decide_eq_true ?_; (simp only [decide_eq_true_eq, decide_eq_false_iff_not, ne_eq, Decidable.not_not] at *; have hB := hS.bad (by omega); omega))
        ·
          cases s78
      ·
        refine ow_val rfl (gd_go rfl s69) (ex_move rfl) ?_
        refine ow_val rfl (gd_go rfl s69) (ex_neq rfl rfl) ?_
        refine ow_val rfl rfl (ex_pickf rfl s69 rfl) ?_
        refine ow_val rfl rfl (ex_move rfl) ?_
        refine ow_split (g := some (10, false)) rfl (fun s73 => ?_) (fun s73 => ?_)
        ·
          refine ow_skip rfl (gd_no rfl s73) ?_
          refine ow_skip rfl (gd_no rfl s73) ?_
          refine ow_val rfl rfl (ex_pickt rfl s73 rfl) ?_
          refine ow_nil ?_
          refine qw_seq ?_
          refine cw_cond_t rfl ?_
          refine cw_seq ?_
          refine cw_region ?_
          refine ow_val rfl rfl (ex_move rfl) ?_
          refine ow_val rfl rfl (ex_move rfl) ?_
          refine ow_split (g := some (1, true)) rfl (fun s78 => ?_) (fun s78 => ?_)
          ·
            refine ow_val rfl (gd_go rfl s78) (ex_move rfl) ?_
            refine ow_val rfl (gd_go rfl s78) (ex_move rfl) ?_
            refine ow_val rfl (gd_go rfl s78) (ex_eql rfl rfl) ?_
            refine ow_val rfl (gd_go rfl s78) (ex_move rfl) ?_
            refine ow_split (g := some (5, true)) rfl (fun s82 => ?_) (fun s82 => ?_)
            ·
              refine ow_val rfl (gd_go rfl s82) (ex_move rfl) ?_
              refine ow_val rfl (gd_go rfl s82) (ex_move rfl) ?_
              refine ow_val rfl (gd_go rfl s82) (ex_eql rfl rfl) ?_
              refine ow_val rfl (gd_go rfl s78) (ex_pickt rfl s82 rfl) ?_
              refine ow_val rfl (gd_go rfl s78) (ex_move rfl) ?_
              refine ow_split (g := some (10, false)) rfl (fun s87 => ?_) (fun s87 => ?_)
              ·
                refine ow_skip rfl (gd_no rfl s87) ?_
                refine ow_skip rfl (gd_no rfl s87) ?_
                refine ow_val rfl (gd_go rfl s78) (ex_pickt rfl s87 rfl) ?_
                refine ow_val rfl (gd_go rfl s78) (ex_move rfl) ?_
                refine ow_skip rfl rfl ?_
                refine ow_skip rfl rfl ?_
                refine ow_val rfl (gd_go rfl s78) (ex_pick_t rfl rfl) ?_
                refine ow_val rfl (gd_go rfl s78) (ex_move rfl) ?_
                refine ow_skip rfl rfl ?_
                refine ow_skip rfl rfl ?_
                refine ow_val rfl (gd_go rfl s78) (ex_pick_t rfl rfl) ?_
                refine ow_val rfl (gd_go rfl s78) (ex_move rfl) ?_
                refine ow_skip rfl rfl ?_
                refine ow_skip rfl rfl ?_
                refine ow_val rfl (gd_go rfl s78) (ex_pick_t rfl rfl) ?_
                refine ow_val rfl (gd_go rfl s78) (ex_move rfl) ?_
                refine ow_skip rfl rfl ?_
                refine ow_skip rfl rfl ?_
                refine ow_val rfl (gd_go rfl s78) (ex_pick_t rfl rfl) ?_
                refine ow_val rfl rfl (ex_pickt rfl s78 rfl) ?_
                refine ow_val rfl rfl (ex_assign rfl) ?_
                refine ow_nil ?_
                refine qw_seq ?_
                refine cw_ret ?_
                refine qw_then_ret ?_
                refine qw_ret1 rfl rfl (fun w' h => ⟨congrArg (fun z => Ending.returned (.bool z)) ?_, h.ag.below⟩)
                first | rfl | (rw [G7]; rfl) | (refine decide_eq_true ?_; (simp only [decide_eq_true_eq, decide_eq_false_iff_not, ne_eq, Decidable.not_not] at *; have hB := hS.bad (by omega); omega))
              ·
                refine ow_val rfl (gd_go rfl s87) (ex_move rfl) ?_
                refine ow_val rfl (gd_go rfl s87) (ex_neq rfl rfl) ?_
                refine ow_val rfl (gd_go rfl s78) (ex_pickf rfl s87 rfl) ?_
                refine ow_val rfl (gd_go rfl s78) (ex_move rfl) ?_
                refine ow_split (g := some (14, false)) rfl (fun s91 => ?_) (fun s91 => ?_)
                ·
                  refine ow_skip rfl (gd_no rfl s91) ?_
                  refine ow_skip rfl (gd_no rfl s91) ?_
                  refine ow_val rfl (gd_go rfl s78) (ex_pickt rfl s91 rfl) ?_
                  refine ow_val rfl (gd_go rfl s78) (ex_move rfl) ?_
                  refine ow_skip rfl rfl ?_
                  refine ow_skip rfl rfl ?_
                  refine ow_val rfl (gd_go rfl s78) (ex_pick_t rfl rfl) ?_
                  refine ow_val rfl (gd_go rfl s78) (ex_move rfl) ?_
                  refine ow_skip rfl rfl ?_
                  refine ow_skip rfl rfl ?_
                  refine ow_val rfl (gd_go rfl s78) (ex_pick_t rfl rfl) ?_
                  refine ow_val rfl (gd_go rfl s78) (ex_move rfl) ?_
                  refine ow_skip rfl rfl ?_
                  refine ow_skip rfl rfl ?_
                  refine ow_val rfl (gd_go rfl s78) (ex_pick_t rfl rfl) ?_
                  refine ow_val rfl rfl (ex_pickt rfl s78 rfl) ?_
                  refine ow_val rfl rfl (ex_assign rfl) ?_
                  refine ow_nil ?_
                  refine qw_seq ?_
                  refine cw_ret ?_
                  refine qw_then_ret ?_
                  refine qw_ret1 rfl rfl (fun w' h => ⟨congrArg (fun z => Ending.returned (.bool z)) ?_, h.ag.below⟩)
                  first | rfl | (rw [G7]; rfl) | (refine decide_eq_true ?_; (simp only [decide_eq_true_eq, decide_eq_false_iff_not, ne_eq, Decidable.not_not] at *; have hB := hS.bad (by omega); omega))
                ·
                  refine ow_val rfl (gd_go rfl s91) (ex_move rfl) ?_
                  refine ow_val rfl (gd_go rfl s91) (ex_eql rfl rfl) ?_
                  refine ow_val rfl (gd_go rfl s78) (ex_pickf rfl s91 rfl) ?_
                  refine ow_val rfl (gd_go rfl s78) (ex_move rfl) ?_
                  refine ow_split (g := some (18, false)) rfl (fun s95 => ?_) (fun s95 => ?_)
                  ·
                    refine ow_skip rfl (gd_no rfl s95) ?_
                    refine ow_skip rfl (gd_no rfl s95) ?_
                    refine ow_val rfl (gd_go rfl s78) (ex_pickt rfl s95 rfl) ?_
                    refine ow_val rfl (gd_go rfl s78) (ex_move rfl) ?_
                    refine ow_skip rfl rfl ?_
                    refine ow_skip rfl rfl ?_
                    refine ow_val rfl (gd_go rfl s78) (ex_pick_t rfl rfl) ?_
                    refine ow_val rfl (gd_go rfl s78) (ex_move rfl) ?_
                    refine ow_skip rfl rfl ?_
                    refine ow_skip rfl rfl ?_
                    refine ow_val rfl (gd_go rfl s78) (ex_pick_t rfl rfl) ?_
                    refine ow_val rfl rfl (ex_pickt rfl s78 rfl) ?_
                    refine ow_val rfl rfl (ex_assign rfl) ?_
                    refine ow_nil ?_
                    refine qw_seq ?_
                    refine cw_ret ?_
                    refine qw_then_ret ?_
                    refine qw_ret1 rfl rfl (fun w' h => ⟨congrArg (fun z => Ending.returned (.bool z)) ?_, h.ag.below⟩)
                    first | rfl | (rw [G7]; rfl) | (refine decide_eq_true ?_; (simp only [decide_eq_true_eq, decide_eq_false_iff_not, ne_eq, Decidable.not_not] at *; have hB := hS.bad (by omega); omega))
                  ·
                    refine ow_val rfl (gd_go rfl s95) (ex_move rfl) ?_
                    refine ow_val rfl (gd_go rfl s95) (ex_eql rfl rfl) ?_
                    refine ow_val rfl (gd_go rfl s78) (ex_pickf rfl s95 rfl) ?_
                    refine ow_val rfl (gd_go rfl s78) (ex_move rfl) ?_
                    refine ow_split (g := some (22, false)) rfl (fun s99 => ?_) (fun s99 => ?_)
                    ·
                      refine ow_skip rfl (gd_no rfl s99) ?_
                      refine ow_skip rfl (gd_no rfl s99) ?_
                      refine ow_val rfl (gd_go rfl s78) (ex_pickt rfl s99 rfl) ?_
                      refine ow_val rfl (gd_go rfl s78) (ex_move rfl) ?_
                      refine ow_skip rfl rfl ?_
                      refine ow_skip rfl rfl ?_
                      refine ow_val rfl (gd_go rfl s78) (ex_pick_t rfl rfl) ?_
                      refine ow_val rfl rfl (ex_pickt rfl s78 rfl) ?_
                      refine ow_val rfl rfl (ex_assign rfl) ?_
                      refine ow_nil ?_
                      refine qw_seq ?_
                      refine cw_ret ?_
                      refine qw_then_ret ?_
                      refine qw_ret1 rfl rfl (fun w' h => ⟨congrArg (fun z => Ending.returned (.bool z)) ?_, h.ag.below⟩)
                      first | rfl | (rw [G7]; rfl) | (refine decide_eq_true ?_; (simp only [decide_eq_true_eq, decide_eq_false_iff_not, ne_eq, Decidable.not_not] at *; have hB := hS.bad (by omega); omega))
                    ·
                      refine ow_val rfl (gd_go rfl s99) (ex_move rfl) ?_
                      refine ow_val rfl (gd_go rfl s99) (ex_eql rfl rfl) ?_
                      refine ow_val rfl (gd_go rfl s78) (ex_pickf rfl s99 rfl) ?_
                      refine ow_val rfl (gd_go rfl s78) (ex_move rfl) ?_
                      refine ow_split (g := some (26, false)) rfl (fun s103 => ?_) (fun s103 => ?_)
                      ·
                        refine ow_skip rfl (gd_no rfl s103) ?_
                        refine ow_skip rfl (gd_no rfl s103) ?_
                        refine ow_val rfl (gd_go rfl s78) (ex_pickt rfl s103 rfl) ?_
                        refine ow_val rfl rfl (ex_pickt rfl s78 rfl) ?_
                        refine ow_val rfl rfl (ex_assign rfl) ?_
                        refine ow_nil ?_
                        refine qw_seq ?_
                        refine cw_ret ?_
                        refine qw_then_ret ?_
                        refine qw_ret1 rfl rfl (fun w' h => ⟨congrArg (fun z => Ending.returned (.bool z)) ?_, h.ag.below⟩)
                        first | rfl | (rw [G7]; rfl) | (refine decide_eq_true ?_; (simp only [decide_eq_true_eq, decide_eq_false_iff_not, ne_eq, Decidable.not_not] at *; have hB := hS.bad (by omega); omega))
                      ·
                        refine ow_val rfl (gd_go rfl s103) (ex_move rfl) ?_
                        refine ow_val rfl (gd_go rfl s103) (ex_eql rfl rfl) ?_
                        refine ow_val rfl (gd_go rfl s78) (ex_pickf rfl s103 rfl) ?_
                        refine ow_val rfl rfl (ex_pickt rfl s78 rfl) ?_
                        refine ow_val rfl rfl (ex_assign rfl) ?_
                        refine ow_nil ?_
                        refine qw_seq ?_
                        refine cw_ret ?_
                        refine qw_then_ret ?_
                        refine qw_ret1 rfl rfl (fun w' h => ⟨congrArg (fun z => Ending.returned (.bool z)) ?_, h.ag.below⟩)
                        first | rfl | (rw [G7]; rfl) | (refine decide_eq_true ?_; (simp only [decide_eq_true_eq, decide_eq_false_iff_not, ne_eq, Decidable.not_not] at *; have hB := hS.bad (by omega); omega))
            ·
              refine ow_skip rfl (gd_no rfl s82) ?_
              refine ow_skip rfl (gd_no rfl s82) ?_
              refine ow_skip rfl (gd_no rfl s82) ?_
              refine ow_val rfl (gd_go rfl s78) (ex_pickf rfl s82 rfl) ?_
              refine ow_val rfl (gd_go rfl s78) (ex_move rfl) ?_
              refine ow_val rfl rfl (ex_move rfl) ?_
              refine ow_val rfl rfl (ex_neq rfl rfl) ?_
              refine ow_val rfl (gd_go rfl s78) (ex_pick_f rfl rfl) ?_
              refine ow_val rfl (gd_go rfl s78) (ex_move rfl) ?_
              refine ow_split (g := some (14, false)) rfl (fun s91 => ?_) (fun s91 => ?_)
              ·
                refine ow_skip rfl (gd_no rfl s91) ?_
                refine ow_skip rfl (gd_no rfl s91) ?_
                refine ow_val rfl (gd_go rfl s78) (ex_pickt rfl s91 rfl) ?_
                refine ow_val rfl (gd_go rfl s78) (ex_move rfl) ?_
                refine ow_skip rfl rfl ?_
                refine ow_skip rfl rfl ?_
                refine ow_val rfl (gd_go rfl s78) (ex_pick_t rfl rfl) ?_
                refine ow_val rfl (gd_go rfl s78) (ex_move rfl) ?_
                refine ow_skip rfl rfl ?_
                refine ow_skip rfl rfl ?_
                refine ow_val rfl (gd_go rfl s78) (ex_pick_t rfl rfl) ?_
                refine ow_val rfl (gd_go rfl s78) (ex_move rfl) ?_
                refine ow_skip rfl rfl ?_
                refine ow_skip rfl rfl ?_
                refine ow_val rfl (gd_go rfl s78) (ex_pick_t rfl rfl) ?_
                refine ow_val rfl rfl (ex_pickt rfl s78 rfl) ?_
                refine ow_val rfl rfl (ex_assign rfl) ?_
                refine ow_nil ?_
                refine qw_seq ?_
                refine cw_ret ?_
                refine qw_then_ret ?_
                refine qw_ret1 rfl rfl (fun w' h => ⟨congrArg (fun z => Ending.returned (.bool z)) ?_, h.ag.below⟩)
                first | rfl | (rw [G7]; rfl) | (refine decide_eq_true ?_; (simp only [decide_eq_true_eq, decide_eq_false_iff_not, ne_eq, Decidable.not_not] at *; have hB := hS.bad (by omega); omega))
              ·
                refine ow_val rfl (gd_go rfl s91) (ex_move rfl) ?_
                refine ow_val rfl (gd_go rfl s91) (ex_eql rfl rfl) ?_
                refine ow_val rfl (gd_go rfl s78) (ex_pickf rfl s91 rfl) ?_
                refine ow_val rfl (gd_go rfl s78) (ex_move rfl) ?_
                refine ow_split (g := some (18, false)) rfl (fun s95 => ?_) (fun s95 => ?_)
                ·
                  refine ow_skip rfl (gd_no rfl s95) ?_
                  refine ow_skip rfl (gd_no rfl s95) ?_
                  refine ow_val rfl (gd_go rfl s78) (ex_pickt rfl s95 rfl) ?_
                  refine ow_val rfl (gd_go rfl s78) (ex_move rfl) ?_
                  refine ow_skip rfl rfl ?_
                  refine ow_skip rfl rfl ?_
                  refine ow_val rfl (gd_go rfl s78) (ex_pick_t rfl rfl) ?_
                  refine ow_val rfl (gd_go rfl s78) (ex_move rfl) ?_
                  refine ow_skip rfl rfl ?_
                  refine ow_skip rfl rfl ?_
                  refine ow_val rfl (gd_go rfl s78) (ex_pick_t rfl rfl) ?_
                  refine ow_val rfl rfl (ex_pickt rfl s78 rfl) ?_
                  refine ow_val rfl rfl (ex_assign rfl) ?_
                  refine ow_nil ?_
                  refine qw_seq ?_
                  refine cw_ret ?_
                  refine qw_then_ret ?_
                  refine qw_ret1 rfl rfl (fun w' h => ⟨congrArg (fun z => Ending.returned (.bool z)) ?_, h.ag.below⟩)
                  first | rfl | (rw [G7]; rfl) | (refine decide_eq_true ?_; (simp only [decide_eq_true_eq, decide_eq_false_iff_not, ne_eq, Decidable.not_not] at *; have hB := hS.bad (by omega); omega))
                ·
                  refine ow_val rfl (gd_go rfl s95) (ex_move rfl) ?_
                  refine ow_val rfl (gd_go rfl s95) (ex_eql rfl rfl) ?_
                  refine ow_val rfl (gd_go rfl s78) (ex_pickf rfl s95 rfl) ?_
                  refine ow_val rfl (gd_go rfl s78) (ex_move rfl) ?_
                  refine ow_split (g := some (22, false)) rfl (fun s99 => ?_) (fun s99 => ?_)
                  ·
                    refine ow_skip rfl (gd_no rfl s99) ?_
                    refine ow_skip rfl (gd_no rfl s99) ?_
                    refine ow_val rfl (gd_go rfl s78) (ex_pickt rfl s99 rfl) ?_
                    refine ow_val rfl (gd_go rfl s78) (ex_move rfl) ?_
                    refine ow_skip rfl rfl ?_
                    refine ow_skip rfl rfl ?_
                    refine ow_val rfl (gd_go rfl s78) (ex_pick_t rfl rfl) ?_
                    refine ow_val rfl rfl (ex_pickt rfl s78 rfl) ?_
                    refine ow_val rfl rfl (ex_assign rfl) ?_
                    refine ow_nil ?_
                    refine qw_seq ?_
                    refine cw_ret ?_
                    refine qw_then_ret ?_
                    refine qw_ret1 rfl rfl (fun w' h => ⟨congrArg (fun z => Ending.returned (.bool z)) ?_, h.ag.below⟩)
                    first | rfl | (rw [G7]; rfl) | (refine decide_eq_true ?_; (simp only [decide_eq_true_eq, decide_eq_false_iff_not, ne_eq, Decidable.not_not] at *; have hB := hS.bad (by omega); omega))
                  ·
                    refine ow_val rfl (gd_go rfl s99) (ex_move rfl) ?_
                    refine ow_val rfl (gd_go rfl s99) (ex_eql rfl rfl) ?_
                    refine ow_val rfl (gd_go rfl s78) (ex_pickf rfl s99 rfl) ?_
                    refine ow_val rfl (gd_go rfl s78) (ex_move rfl) ?_
                    refine ow_split (g := some (26, false)) rfl (fun s103 => ?_) (fun s103 => ?_)
                    ·
                      refine ow_skip rfl (gd_no rfl s103) ?_
                      refine ow_skip rfl (gd_no rfl s103) ?_
                      refine ow_val rfl (gd_go rfl s78) (ex_pickt rfl s103 rfl) ?_
                      refine ow_val rfl rfl (ex_pickt rfl s78 rfl) ?_
                      refine ow_val rfl rfl (ex_assign rfl) ?_
                      refine ow_nil ?_
                      refine qw_seq ?_
                      refine cw_ret ?_
                      refine qw_then_ret ?_
                      refine qw_ret1 rfl rfl (fun w' h => ⟨congrArg (fun z => Ending.returned (.bool z)) ?_, h.ag.below⟩)
                      first | rfl | (rw [G7]; rfl) | (refine decide_eq_true ?_; (simp only [decide_eq_true_eq, decide_eq_false_iff_not, ne_eq, Decidable.not_not] at *; have hB := hS.bad (by omega); omega))
                    ·
                      refine ow_val rfl (gd_go rfl s103) (ex_move rfl) ?_
                      refine ow_val rfl (gd_go rfl s103) (ex_eql rfl rfl) ?_
                      refine ow_val rfl (gd_go rfl s78) (ex_pickf rfl s103 rfl) ?_
                      refine ow_val rfl rfl (ex_pickt rfl s78 rfl) ?_
                      refine ow_val rfl rfl (ex_assign rfl) ?_
                      refine ow_nil ?_
                      refine qw_seq ?_
                      refine cw_ret ?_
                      refine qw_then_ret ?_
                      refine qw_ret1 rfl rfl (fun w' h => ⟨congrArg (fun z => Ending.returned (.bool z)) ?_, h.ag.below⟩)
                      first | rfl | (rw [G7]; rfl) | (refine decide_eq_true ?_; (simp only [decide_eq_true_eq, decide_eq_false_iff_not, ne_eq, Decidable.not_not] at *; have hB := hS.bad (by omega); omega))
          ·
            cases s78
        ·
          refine ow_val rfl (gd_go rfl s73) (ex_move rfl) ?_
          refine ow_val rfl (gd_go rfl s73) (ex_neq rfl rfl) ?_
          refine ow_val rfl rfl (ex_pickf rfl s73 rfl) ?_
          refine ow_nil ?_
          refine qw_seq ?_
          refine cw_cond rfl (fun c76 => ?_) (fun c76 => ?_)
          ·
            refine cw_seq ?_
            refine cw_region ?_
            refine ow_val rfl rfl (ex_move rfl) ?_
            refine ow_val rfl rfl (ex_move rfl) ?_
            refine ow_split (g := some (1, true)) rfl (fun s78 => ?_) (fun s78 => ?_)
            ·
              refine ow_val rfl (gd_go rfl s78) (ex_move rfl) ?_
              refine ow_val rfl (gd_go rfl s78) (ex_move rfl) ?_
              refine ow_val rfl (gd_go rfl s78) (ex_eql rfl rfl) ?_
              refine ow_val rfl (gd_go rfl s78) (ex_move rfl) ?_
              refine ow_split (g := some (5, true)) rfl (fun s82 => ?_) (fun s82 => ?_)
              ·
                refine ow_val rfl (gd_go rfl s82) (ex_move rfl) ?_
                refine ow_val rfl (gd_go rfl s82) (ex_move rfl) ?_
                refine ow_val rfl (gd_go rfl s82) (ex_eql rfl rfl) ?_
                refine ow_val rfl (gd_go rfl s78) (ex_pickt rfl s82 rfl) ?_
                refine ow_val rfl (gd_go rfl s78) (ex_move rfl) ?_
                refine ow_split (g := some (10, false)) rfl (fun s87 => ?_) (fun s87 => ?_)
                ·
                  refine ow_skip rfl (gd_no rfl s87) ?_
                  refine ow_skip rfl (gd_no rfl s87) ?_
                  refine ow_val rfl (gd_go rfl s78) (ex_pickt rfl s87 rfl) ?_
                  refine ow_val rfl (gd_go rfl s78) (ex_move rfl) ?_
                  refine ow_skip rfl rfl ?_
                  refine ow_skip rfl rfl ?_
                  refine ow_val rfl (gd_go rfl s78) (ex_pick_t rfl rfl) ?_
                  refine ow_val rfl (gd_go rfl s78) (ex_move rfl) ?_
                  refine ow_skip rfl rfl ?_
                  refine ow_skip rfl rfl ?_
                  refine ow_val rfl (gd_go rfl s78) (ex_pick_t rfl rfl) ?_
                  refine ow_val rfl (gd_go rfl s78) (ex_move rfl) ?_
                  refine ow_skip rfl rfl ?_
                  refine ow_skip rfl rfl ?_
                  refine ow_val rfl (gd_go rfl s78) (ex_pick_t rfl rfl) ?_
                  refine ow_val rfl (gd_go rfl s78) (ex_move rfl) ?_
                  refine ow_skip rfl rfl ?_
                  refine ow_skip rfl rfl ?_
                  refine ow_val rfl (gd_go rfl s78) (ex_pick_t rfl rfl) ?_
                  refine ow_val rfl rfl (ex_pickt rfl s78 rfl) ?_
                  refine ow_val rfl rfl (ex_assign rfl) ?_
                  refine ow_nil ?_
                  refine qw_seq ?_
                  refine cw_ret ?_
                  refine qw_then_ret ?_
                  refine qw_ret1 rfl rfl (fun w' h => ⟨congrArg (fun z => Ending.returned (.bool z)) ?_, h.ag.below⟩)
                  first | rfl | (rw [G7]; rfl) | (refine decide_eq_true ?_; (simp only [decide_eq_true_eq, decide_eq_false_iff_not, ne_eq, Decidable.not_not] at *; have hB := hS.bad (by omega); omega))
                ·
                  refine ow_val rfl (gd_go rfl s87) (ex_move rfl) ?_
                  refine ow_val rfl (gd_go rfl s87) (ex_neq rfl rfl) ?_
                  refine ow_val rfl (gd_go rfl s78) (ex_pickf rfl s87 rfl) ?_
                  refine ow_val rfl (gd_go rfl s78) (ex_move rfl) ?_
                  refine ow_split (g := some (14, false)) rfl (fun s91 => ?_) (fun s91 => ?_)
                  ·
                    refine ow_skip rfl (gd_no rfl s91) ?_
                    refine ow_skip rfl (gd_no rfl s91) ?_
                    refine ow_val rfl (gd_go rfl s78) (ex_pickt rfl s91 rfl) ?_
                    refine ow_val rfl (gd_go rfl s78) (ex_move rfl) ?_
                    refine ow_skip rfl rfl ?_
                    refine ow_skip rfl rfl ?_
                    refine ow_val rfl (gd_go rfl s78) (ex_pick_t rfl rfl) ?_
                    refine ow_val rfl (gd_go rfl s78) (ex_move rfl) ?_
                    refine ow_skip rfl rfl ?_
                    refine ow_skip rfl rfl ?_
                    refine ow_val rfl (gd_go rfl s78) (ex_pick_t rfl rfl) ?_
                    refine ow_val rfl (gd_go rfl s78) (ex_move rfl) ?_
                    refine ow_skip rfl rfl ?_
                    refine ow_skip rfl rfl ?_
                    refine ow_val rfl (gd_go rfl s78) (ex_pick_t rfl rfl) ?_
                    refine ow_val rfl rfl (ex_pickt rfl s78 rfl) ?_
                    refine ow_val rfl rfl (ex_assign rfl) ?_
                    refine ow_nil ?_
                    refine qw_seq ?_
                    refine cw_ret ?_
                    refine qw_then_ret ?_
                    refine qw_ret1 rfl rfl (fun w' h => ⟨congrArg (fun z => Ending.returned (.bool z)) ?_, h.ag.below⟩)
                    first | rfl | (rw [G7]; rfl) | (refine decide_eq_true ?_; (simp only [decide_eq_true_eq, decide_eq_false_iff_not, ne_eq, Decidable.not_not] at *; have hB := hS.bad (by omega); omega))
                  ·
                    refine ow_val rfl (gd_go rfl s91) (ex_move rfl) ?_
                    refine ow_val rfl (gd_go rfl s91) (ex_eql rfl rfl) ?_
                    refine ow_val rfl (gd_go rfl s78) (ex_pickf rfl s91 rfl) ?_
                    refine ow_val rfl (gd_go rfl s78) (ex_move rfl) ?_
                    refine ow_split (g := some (18, false)) rfl (fun s95 => ?_) (fun s95 => ?_)
                    ·
                      refine ow_skip rfl (gd_no rfl s95) ?_
                      refine ow_skip rfl (gd_no rfl s95) ?_
                      refine ow_val rfl (gd_go rfl s78) (ex_pickt rfl s95 rfl) ?_
                      refine ow_val rfl (gd_go rfl s78) (ex_move rfl) ?_
                      refine ow_skip rfl rfl ?_
                      refine ow_skip rfl rfl ?_
                      refine ow_val rfl (gd_go rfl s78) (ex_pick_t rfl rfl) ?_
                      refine ow_val rfl (gd_go rfl s78) (ex_move rfl) ?_
                      refine ow_skip rfl rfl ?_
                      refine ow_skip rfl rfl ?_
                      refine ow_val rfl (gd_go rfl s78) (ex_pick_t rfl rfl) ?_
                      refine ow_val rfl rfl (ex_pickt rfl s78 rfl) ?_
                      refine ow_val rfl rfl (ex_assign rfl) ?_
                      refine ow_nil ?_
                      refine qw_seq ?_
                      refine cw_ret ?_
                      refine qw_then_ret ?_
                      refine qw_ret1 rfl rfl (fun w' h => ⟨congrArg (fun z => Ending.returned (.bool z)) ?_, h.ag.below⟩)
                      first | rfl | (rw [G7]; rfl) | (refine decide_eq_true ?_; (simp only [decide_eq_true_eq, decide_eq_false_iff_not, ne_eq, Decidable.not_not] at *; have hB := hS.bad (by omega); omega))
                    ·
                      refine ow_val rfl (gd_go rfl s95) (ex_move rfl) ?_
                      refine ow_val rfl (gd_go rfl s95) (ex_eql rfl rfl) ?_
                      refine ow_val rfl (gd_go rfl s78) (ex_pickf rfl s95 rfl) ?_
                      refine ow_val rfl (gd_go rfl s78) (ex_move rfl) ?_
                      refine ow_split (g := some (22, false)) rfl (fun s99 => ?_) (fun s99 => ?_)
                      ·
                        refine ow_skip rfl (gd_no rfl s99) ?_
                        refine ow_skip rfl (gd_no rfl s99) ?_
                        refine ow_val rfl (gd_go rfl s78) (ex_pickt rfl s99 rfl) ?_
                        refine ow_val rfl (gd_go rfl s78) (ex_move rfl) ?_
                        refine ow_skip rfl rfl ?_
                        refine ow_skip rfl rfl ?_
                        refine ow_val rfl (gd_go rfl s78) (ex_pick_t rfl rfl) ?_
                        refine ow_val rfl rfl (ex_pickt rfl s78 rfl) ?_
                        refine ow_val rfl rfl (ex_assign rfl) ?_
                        refine ow_nil ?_
                        refine qw_seq ?_
                        refine cw_ret ?_
                        refine qw_then_ret ?_
                        refine qw_ret1 rfl rfl (fun w' h => ⟨congrArg (fun z => Ending.returned (.bool z)) ?_, h.ag.below⟩)
                        first | rfl | (rw [G7]; rfl) | (refine decide_eq_true ?_; (simp only [decide_eq_true_eq, decide_eq_false_iff_not, ne_eq, Decidable.not_not] at *; have hB := hS.bad (by omega); omega))
                      ·
                        refine ow_val rfl (gd_go rfl s99) (ex_move rfl) ?_
                        refine ow_val rfl (gd_go rfl s99) (ex_eql rfl rfl) ?_
                        refine ow_val rfl (gd_go rfl s78) (ex_pickf rfl s99 rfl) ?_
                        refine ow_val rfl (gd_go rfl s78) (ex_move rfl) ?_
                        refine ow_split (g := some (26, false)) rfl (fun s103 => ?_) (fun s103 => ?_)
                        ·
                          refine ow_skip rfl (gd_no rfl s103) ?_
                          refine ow_skip rfl (gd_no rfl s103) ?_
                          refine ow_val rfl (gd_go rfl s78) (ex_pickt rfl s103 rfl) ?_
                          refine ow_val rfl rfl (ex_pickt rfl s78 rfl) ?_
                          refine ow_val rfl rfl (ex_assign rfl) ?_
                          refine ow_nil ?_
                          refine qw_seq ?_
                          refine cw_ret ?_
                          refine qw_then_ret ?_
                          refine qw_ret1 rfl rfl (fun w' h => ⟨congrArg (fun z => Ending.returned (.bool z)) ?_, h.ag.below⟩)
                          first | rfl | (rw [G7]; rfl) | (refine decide_eq_true ?_; (simp only [decide_eq_true_eq, decide_eq_false_iff_not, ne_eq, Decidable.not_not] at *; have hB := hS.bad (by omega); omega))
                        ·
                          refine ow_val rfl (gd_go rfl s103) (ex_move rfl) ?_
                          refine ow_val rfl (gd_go rfl s103) (ex_eql rfl rfl) ?_
                          refine ow_val rfl (gd_go rfl s78) (ex_pickf rfl s103 rfl) ?_
                          refine ow_val rfl rfl (ex_pickt rfl s78 rfl) ?_
                          refine ow_val rfl rfl (ex_assign rfl) ?_
                          refine ow_nil ?_
                          refine qw_seq ?_
                          refine cw_ret ?_
                          refine qw_then_ret ?_
                          refine qw_ret1 rfl rfl (fun w' h => ⟨congrArg (fun z => Ending.returned (.bool z)) ?_, h.ag.below⟩)
                          first | rfl | (rw [G7]; rfl) | (refine decide_eq_true ?_; (simp only [decide_eq_true_eq, decide_eq_false_iff_not, ne_eq, Decidable.not_not] at *; have hB := hS.bad (by omega); omega))
              ·
                refine ow_skip rfl (gd_no rfl s82) ?_
                refine ow_skip rfl (gd_no rfl s82) ?_
                refine ow_skip rfl (gd_no rfl s82) ?_
                refine ow_val rfl (gd_go rfl s78) (ex_pickf rfl s82 rfl) ?_
                refine ow_val rfl (gd_go rfl s78) (ex_move rfl) ?_
                refine ow_val rfl rfl (ex_move rfl) ?_
                refine ow_val rfl rfl (ex_neq rfl rfl) ?_
                refine ow_val rfl (gd_go rfl s78) (ex_pick_f rfl rfl) ?_
                refine ow_val rfl (gd_go rfl s78) (ex_move rfl) ?_
                refine ow_split (g := some (14, false)) rfl (fun s91 => ?_) (fun s91 => ?_)
                ·
                  refine ow_skip rfl (gd_no rfl s91) ?_
                  refine ow_skip rfl (gd_no rfl s91) ?_
                  refine ow_val rfl (gd_go rfl s78) (ex_pickt rfl s91 rfl) ?_
                  refine ow_val rfl (gd_go rfl s78) (ex_move rfl) ?_
                  refine ow_skip rfl rfl ?_
                  refine ow_skip rfl rfl ?_
                  refine ow_val rfl (gd_go rfl s78) (ex_pick_t rfl rfl) ?_
                  refine ow_val rfl (gd_go rfl s78) (ex_move rfl) ?_
                  refine ow_skip rfl rfl ?_
                  refine ow_skip rfl rfl ?_
                  refine ow_val rfl (gd_go rfl s78) (ex_pick_t rfl rfl) ?_
                  refine ow_val rfl (gd_go rfl s78) (ex_move rfl) ?_
                  refine ow_skip rfl rfl ?_
                  refine ow_skip rfl rfl ?_
                  refine ow_val rfl (gd_go rfl s78) (ex_pick_t rfl rfl) ?_
                  refine ow_val rfl rfl (ex_pickt rfl s78 rfl) ?_
                  refine ow_val rfl rfl (ex_assign rfl) ?_
                  refine ow_nil ?_
                  refine qw_seq ?_
                  refine cw_ret ?_
                  refine qw_then_ret ?_
                  refine qw_ret1 rfl rfl (fun w' h => ⟨congrArg (fun z => Ending.returned (.bool z)) ?_, h.ag.below⟩)
                  first | rfl | (rw [G7]; rfl) | (refine decide_eq_true ?_; (simp only [decide_eq_true_eq, decide_eq_false_iff_not, ne_eq, Decidable.not_not] at *; have hB := hS.bad (by omega); omega))
                ·
                  refine ow_val rfl (gd_go rfl s91) (ex_move rfl) ?_
                  refine ow_val rfl (gd_go rfl s91) (ex_eql rfl rfl) ?_
                  refine ow_val rfl (gd_go rfl s78) (ex_pickf rfl s91 rfl) ?_
                  refine ow_val rfl (gd_go rfl s78) (ex_move rfl) ?_
                  refine ow_split (g := some (18, false)) rfl (fun s95 => ?_) (fun s95 => ?_)
                  ·
                    refine ow_skip rfl (gd_no rfl s95) ?_
                    refine ow_skip rfl (gd_no rfl s95) ?_
                    refine ow_val rfl (gd_go rfl s78) (ex_pickt rfl s95 rfl) ?_
                    refine ow_val rfl (gd_go rfl s78) (ex_move rfl) ?_
                    refine ow_skip rfl rfl ?_
                    refine ow_skip rfl rfl ?_
                    refine ow_val rfl (gd_go rfl s78) (ex_pick_t rfl rfl) ?_
                    refine ow_val rfl (gd_go rfl s78) (ex_move rfl) ?_
                    refine ow_skip rfl rfl ?_
                    refine ow_skip rfl rfl ?_
                    refine ow_val rfl (gd_go rfl s78) (ex_pick_t rfl rfl) ?_
                    refine ow_val rfl rfl (ex_pickt rfl s78 rfl) ?_
                    refine ow_val rfl rfl (ex_assign rfl) ?_
                    refine ow_nil ?_
                    refine qw_seq ?_
                    refine cw_ret ?_
                    refine qw_then_ret ?_
                    refine qw_ret1 rfl rfl (fun w' h => ⟨congrArg (fun z => Ending.returned (.bool z)) ?_, h.ag.below⟩)
                    first | rfl | (rw [G7]; rfl) | (refine decide_eq_true ?_; (simp only [decide_eq_true_eq, decide_eq_false_iff_not, ne_eq, Decidable.not_not] at *; have hB := hS.bad (by omega); omega))
                  ·
                    refine ow_val rfl (gd_go rfl s95) (ex_move rfl) ?_
                    refine ow_val rfl (gd_go rfl s95) (ex_eql rfl rfl) ?_
                    refine ow_val rfl (gd_go rfl s78) (ex_pickf rfl s95 rfl) ?_
                    refine ow_val rfl (gd_go rfl s78) (ex_move rfl) ?_
                    refine ow_split (g := some (22, false)) rfl (fun s99 => ?_) (fun s99 => ?_)
                    ·
                      refine ow_skip rfl (gd_no rfl s99) ?_
                      refine ow_skip rfl (gd_no rfl s99) ?_
                      refine ow_val rfl (gd_go rfl s78) (ex_pickt rfl s99 rfl) ?_
                      refine ow_val rfl (gd_go rfl s78) (ex_move rfl) ?_
                      refine ow_skip rfl rfl ?_
                      refine ow_skip rfl rfl ?_
                      refine ow_val rfl (gd_go rfl s78) (ex_pick_t rfl rfl) ?_
                      refine ow_val rfl rfl (ex_pickt rfl s78 rfl) ?_
                      refine ow_val rfl rfl (ex_assign rfl) ?_
                      refine ow_nil ?_
                      refine qw_seq ?_
                      refine cw_ret ?_
                      refine qw_then_ret ?_
                      refine qw_ret1 rfl rfl (fun w' h => ⟨congrArg (fun z => Ending.returned (.bool z)) ?_, h.ag.below⟩)
                      first | rfl | (rw [G7]; rfl) | (refine decide_eq_true ?_; (simp only [decide_eq_true_eq, decide_eq_false_iff_not, ne_eq, Decidable.not_not] at *; have hB := hS.bad (by omega); omega))
                    ·
                      refine ow_val rfl (gd_go rfl s99) (ex_move rfl) ?_
                      refine ow_val rfl (gd_go rfl s99) (ex_eql rfl rfl) ?_
                      refine ow_val rfl (gd_go rfl s78) (ex_pickf rfl s99 rfl) ?_
                      refine ow_val rfl (gd_go rfl s78) (ex_move rfl) ?_
                      refine ow_split (g := some (26, false)) rfl (fun s103 => ?_) (fun s103 => ?_)
                      ·
                        refine ow_skip rfl (gd_no rfl s103) ?_
                        refine ow_skip rfl (gd_no rfl s103) ?_
                        refine ow_val rfl (gd_go rfl s78) (ex_pickt rfl s103 rfl) ?_
                        refine ow_val rfl rfl (ex_pickt rfl s78 rfl) ?_
                        refine ow_val rfl rfl (ex_assign rfl) ?_
                        refine ow_nil ?_
                        refine qw_seq ?_
                        refine cw_ret ?_
                        refine qw_then_ret ?_
                        refine qw_ret1 rfl rfl (fun w' h => ⟨congrArg (fun z => Ending.returned (.bool z)) ?_, h.ag.below⟩)
                        first | rfl | (rw [G7]; rfl) | (refine decide_eq_true ?_; (simp only [decide_eq_true_eq, decide_eq_false_iff_not, ne_eq, Decidable.not_not] at *; have hB := hS.bad (by omega); omega))
                      ·
                        refine ow_val rfl (gd_go rfl s103) (ex_move rfl) ?_
                        refine ow_val rfl (gd_go rfl s103) (ex_eql rfl rfl) ?_
                        refine ow_val rfl (gd_go rfl s78) (ex_pickf rfl s103 rfl) ?_
                        refine ow_val rfl rfl (ex_pickt rfl s78 rfl) ?_
                        refine ow_val rfl rfl (ex_assign rfl) ?_
                        refine ow_nil ?_
                        refine qw_seq ?_
                        refine cw_ret ?_
                        refine qw_then_ret ?_
                        refine qw_ret1 rfl rfl (fun w' h => ⟨congrArg (fun z => Ending.returned (.bool z)) ?_, h.ag.below⟩)
                        first | rfl | (rw [G7]; rfl) | (refine decide_eq_true ?_; (simp only [decide_eq_true_eq, decide_eq_false_iff_not, ne_eq, Decidable.not_not] at *; have hB := hS.bad (by omega); omega))
            ·
              cases s78
          ·
            refine cw_skip ?_
            refine qw_seq ?_
            refine cw_seq ?_
            obtain ⟨G1, G2, G3, G4, G5, G6, G7⟩ := hS.good (by simp only [decide_eq_true_eq, decide_eq_false_iff_not, ne_eq, Decidable.not_not] at *; omega) m
            refine cw_region ?_
            refine ow_val rfl rfl (ex_move rfl) ?_
            refine ow_val rfl rfl (ex_move rfl) ?_
            refine ow_val rfl rfl (ex_move rfl) ?_
            refine ow_cr rfl rfl (ex_callf rfl (fun w h => callR (pOpen h.hasE hv8))) (fun v112 σ9 hl9 hf9 hr9 => ?_)
            rw [G1] at hr9
            obtain ⟨o112, rfl, hb112⟩ := hr9
            have hb112' := hb112
            obtain ⟨p112, c112, rfl, _, _⟩ := hb112'.slice
            refine ow_val rfl rfl (ex_move rfl) ?_
            refine ow_val rfl rfl (ex_extract rfl rfl) ?_
            refine ow_val rfl rfl (ex_extract rfl rfl) ?_
            refine ow_val rfl rfl (ex_assign rfl) ?_
            refine ow_val rfl rfl (ex_assign rfl) ?_
            refine ow_nil ?_
            refine qw_seq ?_
            refine cw_seq ?_
            refine cw_region ?_
            refine ow_val rfl rfl (ex_move rfl) ?_
            refine ow_val rfl rfl (ex_move rfl) ?_
            refine ow_val rfl rfl (ex_move rfl) ?_
            refine ow_cr rfl rfl (ex_callf rfl (fun w h => callR (pOpen h.hasE (hv8.le hl9)))) (fun v119 σ10 hl10 hf10 hr10 => ?_)
            rw [G2] at hr10
            obtain ⟨o119, rfl, hb119⟩ := hr10
            have hm10 := (hm8.le hl9).le hl10
            have hn10 := (hn8.le hl9).le hl10
            refine ow_val rfl rfl (ex_move rfl) ?_
            refine ow_val rfl rfl (ex_extract rfl rfl) ?_
            refine ow_val rfl rfl (ex_extract rfl rfl) ?_
            refine ow_val rfl rfl (ex_assign rfl) ?_
            refine ow_val rfl rfl (ex_assign rfl) ?_
            refine ow_nil ?_
            refine qw_seq ?_
            refine cw_seq ?_
            refine cw_seq ?_
            refine cw_region ?_
            refine ow_val rfl rfl (ex_move rfl) ?_
            refine ow_val rfl rfl (ex_not rfl) ?_
            refine ow_val rfl rfl (ex_move rfl) ?_
            refine ow_split (g := some (2, false)) rfl (fun s124 => ?_) (fun s124 => ?_)
            ·
              simp at s124
            ·
              refine ow_val rfl (gd_go rfl s124) (ex_move rfl) ?_
              refine ow_val rfl (gd_go rfl s124) (ex_tostr rfl (hb112.le hl10) (fun w h => h.im)) ?_
              refine ow_val rfl (gd_go rfl s124) (ex_move rfl) ?_
              refine ow_val rfl (gd_go rfl s124) (ex_tostr rfl hm10 (fun w h => h.im)) ?_
              refine ow_val rfl (gd_go rfl s124) (ex_strneq rfl rfl) ?_
              refine ow_val rfl rfl (ex_pickf rfl s124 rfl) ?_
              refine ow_val rfl rfl (ex_move rfl) ?_
              refine ow_split (g := some (9, false)) rfl (fun s131 => ?_) (fun s131 => ?_)
              ·
                simp at s131
              ·
                refine ow_val rfl (gd_go rfl s131) (ex_move rfl) ?_
                refine ow_val rfl (gd_go rfl s131) (ex_move rfl) ?_
                refine ow_val rfl (gd_go rfl s131) (ex_move rfl) ?_
                refine ow_val rfl (gd_go rfl s131) (ex_eql rfl rfl) ?_
                refine ow_val rfl (gd_go rfl s131) (ex_neqb rfl rfl) ?_
                refine ow_val rfl rfl (ex_pickf rfl s131 rfl) ?_
                refine ow_nil ?_
                refine qw_seq ?_
                refine cw_cond rfl (fun c137 => ?_) (fun c137 => ?_)
                ·
                  simp at c137
                ·
                  refine cw_skip ?_
                  refine qw_seq ?_
                  refine cw_seq ?_
                  refine flow_sound 50 (by kernel_rfl) ?_
                  refine flow_val rfl (ex_move rfl) ?_
                  refine flow_val rfl (ex_move rfl) ?_
                  refine flow_split rfl (fun s139 => ?_) (fun s139 => ?_)
                  ·
                    refine flow_val (gd_go rfl s139) (ex_move rfl) ?_
                    refine flow_val (gd_go rfl s139) (ex_move rfl) ?_
                    refine flow_val (gd_go rfl s139) (ex_move rfl) ?_
                    refine flow_val (gd_go rfl s139) (ex_move rfl) ?_
                    refine flow_cv (gd_go rfl s139) (ex_callf rfl (fun w h => callB ((pVerify h.hasE ((hv8.le hl9).le hl10) hm10)))) ?_
                    refine flow_val rfl (ex_pickt rfl s139 rfl) ?_
                    refine flow_val rfl (ex_move rfl) ?_
                    refine flow_split rfl (fun s146 => ?_) (fun s146 => ?_)
                    ·
                      refine flow_val (gd_go rfl s146) (ex_move rfl) ?_
                      refine flow_val (gd_go rfl s146) (ex_move rfl) ?_
                      refine flow_val (gd_go rfl s146) (ex_move rfl) ?_
                      refine flow_val (gd_go rfl s146) (ex_move rfl) ?_
                      refine flow_cv (gd_go rfl s146) (ex_callf rfl (fun w h => callB ((pVerify h.hasE ((hv8.le hl9).le hl10) hm10)))) ?_
                      refine flow_val (gd_go rfl s146) (ex_move rfl) ?_
                      refine flow_val (gd_go rfl s146) (ex_move rfl) ?_
                      refine flow_val (gd_go rfl s146) (ex_eql rfl rfl) ?_
                      refine flow_val (gd_go rfl s146) (ex_eqlb rfl rfl) ?_
                      refine flow_val rfl (ex_pickt rfl s146 rfl) ?_
                      refine flow_val rfl (ex_move rfl) ?_
                      refine flow_split rfl (fun s157 => ?_) (fun s157 => ?_)
                      ·
                        refine flow_val (gd_go rfl s157) (ex_move rfl) ?_
                        refine flow_val (gd_go rfl s157) (ex_move rfl) ?_
                        refine flow_val (gd_go rfl s157) (ex_eql rfl rfl) ?_
                        refine flow_val (gd_go rfl s157) (ex_move rfl) ?_
                        refine flow_val (gd_go rfl s157) (ex_move rfl) ?_
                        refine flow_val (gd_go rfl s157) (ex_eql rfl rfl) ?_
                        refine flow_val (gd_go rfl s157) (ex_eqlb rfl rfl) ?_
                        refine flow_val rfl (ex_pickt rfl s157 rfl) ?_
                        refine flow_val rfl (ex_move rfl) ?_
                        refine flow_split rfl (fun s166 => ?_) (fun s166 => ?_)
                        ·
                          refine flow_val (gd_go rfl s166) (ex_move rfl) ?_
                          refine flow_val (gd_go rfl s166) (ex_move rfl) ?_
                          refine flow_val (gd_go rfl s166) (ex_move rfl) ?_
                          refine flow_val (gd_go rfl s166) (ex_move rfl) ?_
                          refine flow_cv (gd_go rfl s166) (ex_callf rfl (fun w h => callB ((pVerify h.hasE ((hv8.le hl9).le hl10) hn10)))) ?_
                          refine flow_val (gd_go rfl s166) (ex_move rfl) ?_
                          refine flow_val (gd_go rfl s166) (ex_tostr rfl hn10 (fun w h => h.im)) ?_
                          refine flow_val (gd_go rfl s166) (ex_move rfl) ?_
                          refine flow_val (gd_go rfl s166) (ex_tostr rfl hm10 (fun w h => h.im)) ?_
                          refine flow_val (gd_go rfl s166) (ex_streql rfl rfl) ?_
                          refine flow_val (gd_go rfl s166) (ex_eqlb rfl rfl) ?_
                          refine flow_val rfl (ex_pickt rfl s166 rfl) ?_
                          refine flow_val rfl (ex_move rfl) ?_
                          refine flow_split rfl (fun s179 => ?_) (fun s179 => ?_)
                          ·
                            refine flow_val (gd_go rfl s179) (ex_move rfl) ?_
                            refine flow_val (gd_go rfl s179) (ex_move rfl) ?_
                            refine flow_val (gd_go rfl s179) (ex_move rfl) ?_
                            refine flow_val (gd_go rfl s179) (ex_move rfl) ?_
                            refine flow_cv (gd_go rfl s179) (ex_callf rfl (fun w h => callB ((pVerify h.hasE ((hv8.le hl9).le hl10) hm10)))) ?_
                            refine flow_val (gd_go rfl s179) (ex_not rfl) ?_
                            refine flow_val rfl (ex_pickt rfl s179 rfl) ?_
                            refine flow_val rfl (ex_assign rfl) ?_
                            refine flow_nil ?_
                            refine fin_is ?_
                            refine fin_is ?_
                            refine fin_is ?_
                            refine fin_is ?_
                            refine fin_is ?_
                            refine fin_is ?_
                            refine fin_is ?_
                            refine fin_is ?_
                            refine fin_is ?_
                            refine fin_is ?_
                            refine fin_is ?_
                            refine fin_is ?_
                            refine fin_is ?_
                            refine fin_is ?_
                            refine fin_is ?_
                            refine fin_is ?_
                            refine fin_is ?_
                            refine fin_is ?_
                            refine fin_is ?_
                            refine fin_is ?_
                            refine fin_is ?_
                            refine fin_is ?_
                            refine fin_is ?_
                            refine fin_is ?_
                            refine fin_is ?_
                            refine fin_is ?_
                            refine fin_is ?_
                            refine fin_is ?_
                            refine fin_is ?_
                            refine fin_is ?_
                            refine fin_is ?_
                            refine fin_is ?_
                            refine fin_is ?_
                            refine fin_is ?_
                            refine fin_is ?_
                            refine fin_is ?_
                            refine fin_is ?_
                            refine fin_is ?_
                            refine fin_is ?_
                            refine fin_is ?_
                            refine fin_is ?_
                            refine fin_is ?_
                            refine fin_is ?_
                            refine fin_is ?_
                            refine fin_is ?_
                            refine fin_is ?_
                            refine fin_is ?_
                            refine fin_is ?_
                            refine fin_is ?_
                            refine fin_is ?_
                            refine fin_nil ?_
                            refine ow_nil ?_
                            refine qw_seq ?_
                            refine cw_ret ?_
                            refine qw_ret1 rfl rfl (fun w' h => ⟨congrArg (fun z => Ending.returned (.bool z)) ?_, h.ag.below⟩)
                            first | rfl | (rw [G7]; rfl) | (refine decide_eq_true ?_; (simp only [decide_eq_true_eq, decide_eq_false_iff_not, ne_eq, Decidable.not_not] at *; have hB := hS.bad (by omega); omega))
                          ·
                            rw [G6] at s179; simp at s179
                        ·
                          rw [G5] at s166; simp at s166
                      ·
                        rw [G4] at s157; simp at s157
                    ·
                      rw [G3] at s146; cases s146
                  ·
                    cases s139

set_option maxHeartbeats 4000000 in
theorem lawPowers (ks : List T) (x y : Int) (d m : List UInt8) {v mv nv : Value} {σ : Hp} {w : World} (hi : Imm σ w) (htab : TabC Tryd.prog σ) (hl : KidsV σ v ks) (hm : BytesV σ mv d) (hn : BytesV σ nv m) : Calls Tryd.prog 9 #[v, .int .i64 x, .int .i64 y, mv, nv] w fun e w' => e = .returned (.bool true) ∧ Below w.heap.size w w' := by
  refine enter (St w (fun _ => False) σ [] []) Tryd.func9 rfl Tryd.ntmps9 rfl (St.start hi) ?_
  refine cw_seq ?_
  refine cw_region ?_
  refine ow_val rfl rfl (ex_assign rfl) ?_
  refine ow_nil ?_
  refine qw_seq ?_
  refine cw_seq ?_
  refine cw_region ?_
  refine ow_cv rfl rfl (ex_callf rfl (fun w h => callB ((pHead7 h.im htab)))) ?_
  refine ow_val rfl rfl (ex_assign rfl) ?_
  refine ow_nil ?_
  refine qw_seq ?_
  refine cw_seq ?_
  refine cw_region ?_
  refine ow_val rfl rfl (ex_move rfl) ?_
  refine ow_ck0E rfl rfl (ex_callf rfl (fun w h => pBothL ks h.im htab hl)) (fun v30 σ4 K4 hl4 hf4 hr4 => ?_)
  obtain ⟨pv, pd, ok, rfl, hok⟩ := bothR hr4
  refine ow_val rfl rfl (ex_move rfl) ?_
  refine ow_val rfl rfl (ex_extract rfl rfl) ?_
  refine ow_val rfl rfl (ex_extract rfl rfl) ?_
  refine ow_val rfl rfl (ex_extract rfl rfl) ?_
  refine ow_val rfl rfl (ex_assign rfl) ?_
  refine ow_val rfl rfl (ex_assign rfl) ?_
  refine ow_val rfl rfl (ex_assign rfl) ?_
  refine ow_nil ?_
  refine qw_seq ?_
  refine cw_seq ?_
  refine cw_seq ?_
  refine cw_region ?_
  refine ow_val rfl rfl (ex_move rfl) ?_
  refine ow_val rfl rfl (ex_not rfl) ?_
  refine ow_nil ?_
  refine qw_seq ?_
  refine cw_cond rfl (fun c35 => ?_) (fun c35 => ?_)
  ·
    refine cw_seq ?_
    refine cw_region ?_
    refine ow_val rfl rfl (ex_move rfl) ?_
    refine ow_val rfl rfl (ex_assign rfl) ?_
    refine ow_nil ?_
    refine qw_seq ?_
    refine cw_ret ?_
    refine qw_then_ret ?_
    refine qw_ret1 rfl rfl (fun w' h => ⟨congrArg (fun z => Ending.returned (.bool z)) ?_, h.ag.below⟩)
    first | rfl | (rw [G1]; simp)
  ·
    have hok1 : ok = true := by simpa using c35
    obtain ⟨bv, bd, Kv, Kd, ts, rfl, rfl, rfl, hv4, hd4⟩ := hok hok1
    subst hok1
    refine cw_skip ?_
    refine qw_seq ?_
    refine cw_seq ?_
    have htab4 := htab.le hl4
    have hm4 := hm.le hl4
    have hn4 := hn.le hl4
    refine cw_mono (fun w h => h.dropG (List.sublist_append_left _ _)) ?_
    refine cw_region ?_
    refine ow_val rfl rfl (ex_move rfl) ?_
    refine ow_val rfl rfl (ex_move rfl) ?_
    refine ow_ckE rfl rfl (ex_callf rfl (fun w h => pExp h.hasE htab4 hv4)) (fun v40 σ5 K5 hl5 hf5 hr5 => ?_)
    rcases hq5 : madeV ts (ofT 7 []) [x] with ⟨p0, e1, t1⟩
    rw [hq5] at hr5
    simp only at hr5
    obtain ⟨rfl, hv5⟩ := hr5
    have htab5 := htab4.le hl5
    have hm5 := hm4.le hl5
    have hn5 := hn4.le hl5
    refine ow_val rfl rfl (ex_move rfl) ?_
    refine ow_val rfl rfl (ex_extract rfl rfl) ?_
    refine ow_val rfl rfl (ex_extract rfl rfl) ?_
    refine ow_val rfl rfl (ex_assign rfl) ?_
    refine ow_val rfl rfl (ex_assign rfl) ?_
    refine ow_nil ?_
    refine qw_seq ?_
    refine cw_seq ?_
    refine cw_region ?_
    refine ow_val rfl rfl (ex_move rfl) ?_
    refine ow_val rfl rfl (ex_move rfl) ?_
    refine ow_ckE rfl rfl (ex_callf rfl (fun w h => pExp h.hasE htab5 hv5)) (fun v46 σ6 K6 hl6 hf6 hr6 => ?_)
    rcases hq6 : madeV t1 (ofT 7 []) [y] with ⟨q0, f1, t2⟩
    rw [hq6] at hr6
    simp only at hr6
    obtain ⟨rfl, hv6⟩ := hr6
    have htab6 := htab5.le hl6
    have hm6 := hm5.le hl6
    have hn6 := hn5.le hl6
    refine ow_val rfl rfl (ex_move rfl) ?_
    refine ow_val rfl rfl (ex_extract rfl rfl) ?_
    refine ow_val rfl rfl (ex_extract rfl rfl) ?_
    refine ow_val rfl rfl (ex_assign rfl) ?_
    refine ow_val rfl rfl (ex_assign rfl) ?_
    refine ow_nil ?_
    refine qw_seq ?_
    refine cw_seq ?_
    refine cw_region ?_
    refine ow_val rfl rfl (ex_move rfl) ?_
    refine ow_val rfl rfl (ex_move rfl) ?_
    refine ow_ckE rfl rfl (ex_callf rfl (fun w h => pHash h.hasE htab6 hv6 hm6)) (fun v52 σ7 K7 hl7 hf7 hr7 => ?_)
    rcases hq7 : madeV t2 (ofT 5 d) [] with ⟨h1, i1, t3⟩
    rw [hq7] at hr7
    simp only at hr7
    obtain ⟨rfl, hv7⟩ := hr7
    have htab7 := htab6.le hl7
    have hm7 := hm6.le hl7
    have hn7 := hn6.le hl7
    refine ow_val rfl rfl (ex_move rfl) ?_
    refine ow_val rfl rfl (ex_extract rfl rfl) ?_
    refine ow_val rfl rfl (ex_extract rfl rfl) ?_
    refine ow_val rfl rfl (ex_assign rfl) ?_
    refine ow_val rfl rfl (ex_assign rfl) ?_
    refine ow_nil ?_
    refine qw_seq ?_
    refine cw_seq ?_
    refine cw_region ?_
    refine ow_val rfl rfl (ex_move rfl) ?_
    refine ow_val rfl rfl (ex_move rfl) ?_
    refine ow_ckE rfl rfl (ex_callf rfl (fun w h => pHash h.hasE htab7 hv7 hn7)) (fun v58 σ8 K8 hl8 hf8 hr8 => ?_)
    rcases hq8 : madeV t3 (ofT 5 m) [] with ⟨k1, j1, t4⟩
    rw [hq8] at hr8
    simp only at hr8
    obtain ⟨rfl, hv8⟩ := hr8
    have htab8 := htab7.le hl8
    have hm8 := hm7.le hl8
    have hn8 := hn7.le hl8
    have hS : Pows x y d m ts t1 t2 t3 t4 p0 e1 q0 f1 h1 i1 k1 j1 := ⟨hq5, hq6, hq7, hq8, hv4.nd.1⟩
    refine ow_val rfl rfl (ex_move rfl) ?_
    refine ow_val rfl rfl (ex_extract rfl rfl) ?_
    refine ow_val rfl rfl (ex_extract rfl rfl) ?_
    refine ow_val rfl rfl (ex_assign rfl) ?_
    refine ow_val rfl rfl (ex_assign rfl) ?_
    refine ow_nil ?_
    refine qw_seq ?_
    refine cw_seq ?_
    refine cw_seq ?_
    refine cw_region ?_
    refine ow_val rfl rfl (ex_move rfl) ?_
    refine ow_val rfl rfl (ex_eql rfl rfl) ?_
    refine ow_val rfl rfl (ex_move rfl) ?_
    refine ow_split (g := some (2, true)) rfl (fun s63 => ?_) (fun s63 => ?_)
    ·
      refine ow_val rfl (gd_go rfl s63) (ex_move rfl) ?_
      refine ow_val rfl (gd_go rfl s63) (ex_eql rfl rfl) ?_
      refine ow_val rfl rfl (ex_pickt rfl s63 rfl) ?_
      refine ow_val rfl rfl (ex_move rfl) ?_
      refine ow_split (g := some (6, true)) rfl (fun s67 => ?_) (fun s67 => ?_)
      ·
        refine ow_val rfl (gd_go rfl s67) (ex_move rfl) ?_
        refine ow_val rfl (gd_go rfl s67) (ex_move rfl) ?_
        refine ow_val rfl (gd_go rfl s67) (ex_eql rfl rfl) ?_
        refine ow_val rfl (gd_go rfl s67) (ex_move rfl) ?_
        refine ow_val rfl (gd_go rfl s67) (ex_tostr rfl hm8 (fun w h => h.im)) ?_
        refine ow_val rfl (gd_go rfl s67) (ex_move rfl) ?_
        refine ow_val rfl (gd_go rfl s67) (ex_tostr rfl hn8 (fun w h => h.im)) ?_
        refine ow_val rfl (gd_go rfl s67) (ex_streql rfl rfl) ?_
        refine ow_val rfl (gd_go rfl s67) (ex_neqb rfl rfl) ?_
        refine ow_val rfl rfl (ex_pickt rfl s67 rfl) ?_
        refine ow_nil ?_
        refine qw_seq ?_
        refine cw_cond rfl (fun c77 => ?_) (fun c77 => ?_)
        ·
          first | (cases c77; done) | (rw [hS.hash (by simp only [decide_eq_true_eq, decide_eq_false_iff_not, ne_eq, Decidable.not_not] at *; omega) (by simp only [decide_eq_true_eq, decide_eq_false_iff_not, ne_eq, Decidable.not_not] at *; omega)] at c77; simp at c77)
        ·
          refine cw_skip ?_
          refine qw_seq ?_
          refine cw_seq ?_
          refine cw_seq ?_
          refine cw_region ?_
          refine ow_val rfl rfl (ex_move rfl) ?_
          refine ow_val rfl rfl (ex_neq rfl rfl) ?_
          refine ow_val rfl rfl (ex_move rfl) ?_
          refine ow_split (g := some (2, false)) rfl (fun s80 => ?_) (fun s80 => ?_)
          ·
            refine ow_skip rfl (gd_no rfl s80) ?_
            refine ow_skip rfl (gd_no rfl s80) ?_
            refine ow_val rfl rfl (ex_pickt rfl s80 rfl) ?_
            refine ow_nil ?_
            refine qw_seq ?_
            refine cw_cond_t rfl ?_
            refine cw_seq ?_
            refine cw_region ?_
            refine ow_val rfl rfl (ex_move rfl) ?_
            refine ow_val rfl rfl (ex_assign rfl) ?_
            refine ow_nil ?_
            refine qw_seq ?_
            refine cw_ret ?_
            refine qw_then_ret ?_
            refine qw_ret1 rfl rfl (fun w' h => ⟨congrArg (fun z => Ending.returned (.bool z)) ?_, h.ag.below⟩)
            first | rfl | (rw [G1]; simp)
          ·
            refine ow_val rfl (gd_go rfl s80) (ex_move rfl) ?_
            refine ow_val rfl (gd_go rfl s80) (ex_neq rfl rfl) ?_
            refine ow_val rfl rfl (ex_pickf rfl s80 rfl) ?_
            refine ow_nil ?_
            refine qw_seq ?_
            refine cw_cond rfl (fun c83 => ?_) (fun c83 => ?_)
            ·
              refine cw_seq ?_
              refine cw_region ?_
              refine ow_val rfl rfl (ex_move rfl) ?_
              refine ow_val rfl rfl (ex_assign rfl) ?_
              refine ow_nil ?_
              refine qw_seq ?_
              refine cw_ret ?_
              refine qw_then_ret ?_
              refine qw_ret1 rfl rfl (fun w' h => ⟨congrArg (fun z => Ending.returned (.bool z)) ?_, h.ag.below⟩)
              first | rfl | (rw [G1]; simp)
            ·
              refine cw_skip ?_
              refine qw_seq ?_
              refine cw_seq ?_
              obtain ⟨G1, G2⟩ := hS.good (by simp only [decide_eq_true_eq, decide_eq_false_iff_not, ne_eq, Decidable.not_not] at *; omega) (by simp only [decide_eq_true_eq, decide_eq_false_iff_not, ne_eq, Decidable.not_not] at *; omega)
              refine cw_region ?_
              refine ow_val rfl rfl (ex_move rfl) ?_
              refine ow_val rfl rfl (ex_move rfl) ?_
              refine ow_val rfl rfl (ex_move rfl) ?_
              refine ow_ckE rfl rfl (ex_callf rfl (fun w h => pPowK h.hasE htab8 hv8)) (fun v89 σ9 K9 hl9 hf9 hr9 => ?_)
              rcases hq9 : madeV t4 (powG) [p0, y] with ⟨r1, g1, t5⟩
              rw [hq9] at hr9
              simp only at hr9
              obtain ⟨rfl, hv9⟩ := hr9
              have htab9 := htab8.le hl9
              refine ow_val rfl rfl (ex_move rfl) ?_
              refine ow_val rfl rfl (ex_extract rfl rfl) ?_
              refine ow_val rfl rfl (ex_extract rfl rfl) ?_
              refine ow_val rfl rfl (ex_assign rfl) ?_
              refine ow_val rfl rfl (ex_assign rfl) ?_
              refine ow_nil ?_
              refine qw_seq ?_
              refine cw_seq ?_
              refine cw_region ?_
              refine ow_val rfl rfl (ex_move rfl) ?_
              refine ow_val rfl rfl (ex_move rfl) ?_
              refine ow_val rfl rfl (ex_move rfl) ?_
              refine ow_ckE rfl rfl (ex_callf rfl (fun w h => pPowK h.hasE htab9 hv9)) (fun v96 σ10 K10 hl10 hf10 hr10 => ?_)
              rcases hq10 : madeV t5 (powG) [q0, x] with ⟨s1, m1, t6⟩
              rw [hq10] at hr10
              simp only at hr10
              obtain ⟨rfl, hv10⟩ := hr10
              have htab10 := htab9.le hl10
              refine ow_val rfl rfl (ex_move rfl) ?_
              refine ow_val rfl rfl (ex_extract rfl rfl) ?_
              refine ow_val rfl rfl (ex_extract rfl rfl) ?_
              refine ow_val rfl rfl (ex_assign rfl) ?_
              refine ow_val rfl rfl (ex_assign rfl) ?_
              refine ow_nil ?_
              refine qw_seq ?_
              refine cw_seq ?_
              refine cw_region ?_
              refine ow_val rfl rfl (ex_move rfl) ?_
              refine ow_val rfl rfl (ex_move rfl) ?_
              refine ow_split (g := some (1, true)) rfl (fun s100 => ?_) (fun s100 => ?_)
              ·
                refine ow_val rfl (gd_go rfl s100) (ex_move rfl) ?_
                refine ow_val rfl (gd_go rfl s100) (ex_neq rfl rfl) ?_
                refine ow_val rfl (gd_go rfl s100) (ex_move rfl) ?_
                refine ow_split (g := some (4, false)) rfl (fun s103 => ?_) (fun s103 => ?_)
                ·
                  refine ow_skip rfl (gd_no rfl s103) ?_
                  refine ow_skip rfl (gd_no rfl s103) ?_
                  refine ow_val rfl (gd_go rfl s100) (ex_pickt rfl s103 rfl) ?_
                  refine ow_val rfl (gd_go rfl s100) (ex_move rfl) ?_
                  refine ow_skip rfl rfl ?_
                  refine ow_skip rfl rfl ?_
                  refine ow_skip rfl rfl ?_
                  refine ow_val rfl (gd_go rfl s100) (ex_pick_t rfl rfl) ?_
                  refine ow_val rfl rfl (ex_pickt rfl s100 rfl) ?_
                  refine ow_val rfl rfl (ex_move rfl) ?_
                  refine ow_val rfl rfl (ex_move rfl) ?_
                  refine ow_val rfl rfl (ex_move rfl) ?_
                  refine ow_val rfl rfl (ex_eql rfl rfl) ?_
                  refine ow_val rfl rfl (ex_move rfl) ?_
                  refine ow_val rfl rfl (ex_move rfl) ?_
                  refine ow_val rfl rfl (ex_eql rfl rfl) ?_
                  refine ow_val rfl rfl (ex_eqlb rfl rfl) ?_
                  refine ow_val rfl rfl (ex_pick_t rfl rfl) ?_
                  refine ow_val rfl rfl (ex_assign rfl) ?_
                  refine ow_nil ?_
                  refine qw_seq ?_
                  refine cw_ret ?_
                  refine qw_ret1 rfl rfl (fun w' h => ⟨congrArg (fun z => Ending.returned (.bool z)) ?_, h.ag.below⟩)
                  first | rfl | (rw [G1]; simp)
                ·
                  refine ow_val rfl (gd_go rfl s103) (ex_move rfl) ?_
                  refine ow_val rfl (gd_go rfl s103) (ex_neq rfl rfl) ?_
                  refine ow_val rfl (gd_go rfl s100) (ex_pickf rfl s103 rfl) ?_
                  refine ow_val rfl (gd_go rfl s100) (ex_move rfl) ?_
                  refine ow_split (g := some (8, false)) rfl (fun s107 => ?_) (fun s107 => ?_)
                  ·
                    refine ow_skip rfl (gd_no rfl s107) ?_
                    refine ow_skip rfl (gd_no rfl s107) ?_
                    refine ow_skip rfl (gd_no rfl s107) ?_
                    refine ow_val rfl (gd_go rfl s100) (ex_pickt rfl s107 rfl) ?_
                    refine ow_val rfl rfl (ex_pickt rfl s100 rfl) ?_
                    refine ow_val rfl rfl (ex_move rfl) ?_
                    refine ow_val rfl rfl (ex_move rfl) ?_
                    refine ow_val rfl rfl (ex_move rfl) ?_
                    refine ow_val rfl rfl (ex_eql rfl rfl) ?_
                    refine ow_val rfl rfl (ex_move rfl) ?_
                    refine ow_val rfl rfl (ex_move rfl) ?_
                    refine ow_val rfl rfl (ex_eql rfl rfl) ?_
                    refine ow_val rfl rfl (ex_eqlb rfl rfl) ?_
                    refine ow_val rfl rfl (ex_pick_t rfl rfl) ?_
                    refine ow_val rfl rfl (ex_assign rfl) ?_
                    refine ow_nil ?_
                    refine qw_seq ?_
                    refine cw_ret ?_
                    refine qw_ret1 rfl rfl (fun w' h => ⟨congrArg (fun z => Ending.returned (.bool z)) ?_, h.ag.below⟩)
                    first | rfl | (rw [G1]; simp)
                  ·
                    refine ow_val rfl (gd_go rfl s107) (ex_move rfl) ?_
                    refine ow_val rfl (gd_go rfl s107) (ex_move rfl) ?_
                    refine ow_val rfl (gd_go rfl s107) (ex_eql rfl rfl) ?_
                    refine ow_val rfl (gd_go rfl s100) (ex_pickf rfl s107 rfl) ?_
                    refine ow_val rfl rfl (ex_pickt rfl s100 rfl) ?_
                    refine ow_val rfl rfl (ex_move rfl) ?_
                    refine ow_split (g := some (14, true)) rfl (fun s113 => ?_) (fun s113 => ?_)
                    ·
                      refine ow_val rfl (gd_go rfl s113) (ex_move rfl) ?_
                      refine ow_val rfl (gd_go rfl s113) (ex_move rfl) ?_
                      refine ow_val rfl (gd_go rfl s113) (ex_eql rfl rfl) ?_
                      refine ow_val rfl (gd_go rfl s113) (ex_move rfl) ?_
                      refine ow_val rfl (gd_go rfl s113) (ex_move rfl) ?_
                      refine ow_val rfl (gd_go rfl s113) (ex_eql rfl rfl) ?_
                      refine ow_val rfl (gd_go rfl s113) (ex_eqlb rfl rfl) ?_
                      refine ow_val rfl rfl (ex_pickt rfl s113 rfl) ?_
                      refine ow_val rfl rfl (ex_assign rfl) ?_
                      refine ow_nil ?_
                      refine qw_seq ?_
                      refine cw_ret ?_
                      refine qw_ret1 rfl rfl (fun w' h => ⟨congrArg (fun z => Ending.returned (.bool z)) ?_, h.ag.below⟩)
                      first | rfl | (rw [G1]; simp)
                    ·
                      first | (cases s113; done) | (rw [hq9] at G2; simp only at G2; rw [hq10] at G2; simp only [decide_eq_true_eq, decide_eq_false_iff_not, ne_eq, Decidable.not_not] at *; exact (s113 (G2 (by omega) (by omega))).elim)
              ·
                cases s100
      ·
        refine ow_skip rfl (gd_no rfl s67) ?_
        refine ow_skip rfl (gd_no rfl s67) ?_
        refine ow_skip rfl (gd_no rfl s67) ?_
        refine ow_skip rfl (gd_no rfl s67) ?_
        refine ow_skip rfl (gd_no rfl s67) ?_
        refine ow_skip rfl (gd_no rfl s67) ?_
        refine ow_skip rfl (gd_no rfl s67) ?_
        refine ow_skip rfl (gd_no rfl s67) ?_
        refine ow_skip rfl (gd_no rfl s67) ?_
        refine ow_val rfl rfl (ex_pickf rfl s67 rfl) ?_
        refine ow_nil ?_
        refine qw_seq ?_
        refine cw_cond_f rfl ?_
        refine cw_skip ?_
        refine qw_seq ?_
        refine cw_seq ?_
        refine cw_seq ?_
        refine cw_region ?_
        refine ow_val rfl rfl (ex_move rfl) ?_
        refine ow_val rfl rfl (ex_neq rfl rfl) ?_
        refine ow_val rfl rfl (ex_move rfl) ?_
        refine ow_split (g := some (2, false)) rfl (fun s80 => ?_) (fun s80 => ?_)
        ·
          refine ow_skip rfl (gd_no rfl s80) ?_
          refine ow_skip rfl (gd_no rfl s80) ?_
          refine ow_val rfl rfl (ex_pickt rfl s80 rfl) ?_
          refine ow_nil ?_
          refine qw_seq ?_
          refine cw_cond_t rfl ?_
          refine cw_seq ?_
          refine cw_region ?_
          refine ow_val rfl rfl (ex_move rfl) ?_
          refine ow_val rfl rfl (ex_assign rfl) ?_
          refine ow_nil ?_
          refine qw_seq ?_
          refine cw_ret ?_
          refine qw_then_ret ?_
          refine qw_ret1 rfl rfl (fun w' h => ⟨congrArg (fun z => Ending.returned (.bool z)) ?_, h.ag.below⟩)
          first | rfl | (rw [G1]; simp)
        ·
          refine ow_val rfl (gd_go rfl s80) (ex_move rfl) ?_
          refine ow_val rfl (gd_go rfl s80) (ex_neq rfl rfl) ?_
          refine ow_val rfl rfl (ex_pickf rfl s80 rfl) ?_
          refine ow_nil ?_
          refine qw_seq ?_
          refine cw_cond rfl (fun c83 => ?_) (fun c83 => ?_)
          ·
            refine cw_seq ?_
            refine cw_region ?_
            refine ow_val rfl rfl (ex_move rfl) ?_
            refine ow_val rfl rfl (ex_assign rfl) ?_
            refine ow_nil ?_
            refine qw_seq ?_
            refine cw_ret ?_
            refine qw_then_ret ?_
            refine qw_ret1 rfl rfl (fun w' h => ⟨congrArg (fun z => Ending.returned (.bool z)) ?_, h.ag.below⟩)
            first | rfl | (rw [G1]; simp)
          ·
            refine cw_skip ?_
            refine qw_seq ?_
            refine cw_seq ?_
            obtain ⟨G1, G2⟩ := hS.good (by simp only [decide_eq_true_eq, decide_eq_false_iff_not, ne_eq, Decidable.not_not] at *; omega) (by simp only [decide_eq_true_eq, decide_eq_false_iff_not, ne_eq, Decidable.not_not] at *; omega)
            refine cw_region ?_
            refine ow_val rfl rfl (ex_move rfl) ?_
            refine ow_val rfl rfl (ex_move rfl) ?_
            refine ow_val rfl rfl (ex_move rfl) ?_
            refine ow_ckE rfl rfl (ex_callf rfl (fun w h => pPowK h.hasE htab8 hv8)) (fun v89 σ9 K9 hl9 hf9 hr9 => ?_)
            rcases hq9 : madeV t4 (powG) [p0, y] with ⟨r1, g1, t5⟩
            rw [hq9] at hr9
            simp only at hr9
            obtain ⟨rfl, hv9⟩ := hr9
            have htab9 := htab8.le hl9
            refine ow_val rfl rfl (ex_move rfl) ?_
            refine ow_val rfl rfl (ex_extract rfl rfl) ?_
            refine ow_val rfl rfl (ex_extract rfl rfl) ?_
            refine ow_val rfl rfl (ex_assign rfl) ?_
            refine ow_val rfl rfl (ex_assign rfl) ?_
            refine ow_nil ?_
            refine qw_seq ?_
            refine cw_seq ?_
            refine cw_region ?_
            refine ow_val rfl rfl (ex_move rfl) ?_
            refine ow_val rfl rfl (ex_move rfl) ?_
            refine ow_val rfl rfl (ex_move rfl) ?_
            refine ow_ckE rfl rfl (ex_callf rfl (fun w h => pPowK h.hasE htab9 hv9)) (fun v96 σ10 K10 hl10 hf10 hr10 => ?_)
            rcases hq10 : madeV t5 (powG) [q0, x] with ⟨s1, m1, t6⟩
            rw [hq10] at hr10
            simp only at hr10
            obtain ⟨rfl, hv10⟩ := hr10
            have htab10 := htab9.le hl10
            refine ow_val rfl rfl (ex_move rfl) ?_
            refine ow_val rfl rfl (ex_extract rfl rfl) ?_
            refine ow_val rfl rfl (ex_extract rfl rfl) ?_
            refine ow_val rfl rfl (ex_assign rfl) ?_
            refine ow_val rfl rfl (ex_assign rfl) ?_
            refine ow_nil ?_
            refine qw_seq ?_
            refine cw_seq ?_
            refine cw_region ?_
            refine ow_val rfl rfl (ex_move rfl) ?_
            refine ow_val rfl rfl (ex_move rfl) ?_
            refine ow_split (g := some (1, true)) rfl (fun s100 => ?_) (fun s100 => ?_)
            ·
              refine ow_val rfl (gd_go rfl s100) (ex_move rfl) ?_
              refine ow_val rfl (gd_go rfl s100) (ex_neq rfl rfl) ?_
              refine ow_val rfl (gd_go rfl s100) (ex_move rfl) ?_
              refine ow_split (g := some (4, false)) rfl (fun s103 => ?_) (fun s103 => ?_)
              ·
                refine ow_skip rfl (gd_no rfl s103) ?_
                refine ow_skip rfl (gd_no rfl s103) ?_
                refine ow_val rfl (gd_go rfl s100) (ex_pickt rfl s103 rfl) ?_
                refine ow_val rfl (gd_go rfl s100) (ex_move rfl) ?_
                refine ow_skip rfl rfl ?_
                refine ow_skip rfl rfl ?_
                refine ow_skip rfl rfl ?_
                refine ow_val rfl (gd_go rfl s100) (ex_pick_t rfl rfl) ?_
                refine ow_val rfl rfl (ex_pickt rfl s100 rfl) ?_
                refine ow_val rfl rfl (ex_move rfl) ?_
                refine ow_val rfl rfl (ex_move rfl) ?_
                refine ow_val rfl rfl (ex_move rfl) ?_
                refine ow_val rfl rfl (ex_eql rfl rfl) ?_
                refine ow_val rfl rfl (ex_move rfl) ?_
                refine ow_val rfl rfl (ex_move rfl) ?_
                refine ow_val rfl rfl (ex_eql rfl rfl) ?_
                refine ow_val rfl rfl (ex_eqlb rfl rfl) ?_
                refine ow_val rfl rfl (ex_pick_t rfl rfl) ?_
                refine ow_val rfl rfl (ex_assign rfl) ?_
                refine ow_nil ?_
                refine qw_seq ?_
                refine cw_ret ?_
                refine qw_ret1 rfl rfl (fun w' h => ⟨congrArg (fun z => Ending.returned (.bool z)) ?_, h.ag.below⟩)
                first | rfl | (rw [G1]; simp)
              ·
                refine ow_val rfl (gd_go rfl s103) (ex_move rfl) ?_
                refine ow_val rfl (gd_go rfl s103) (ex_neq rfl rfl) ?_
                refine ow_val rfl (gd_go rfl s100) (ex_pickf rfl s103 rfl) ?_
                refine ow_val rfl (gd_go rfl s100) (ex_move rfl) ?_
                refine ow_split (g := some (8, false)) rfl (fun s107 => ?_) (fun s107 => ?_)
                ·
                  refine ow_skip rfl (gd_no rfl s107) ?_
                  refine ow_skip rfl (gd_no rfl s107) ?_
                  refine ow_skip rfl (gd_no rfl s107) ?_
                  refine ow_val rfl (gd_go rfl s100) (ex_pickt rfl s107 rfl) ?_
                  refine ow_val rfl rfl (ex_pickt rfl s100 rfl) ?_
                  refine ow_val rfl rfl (ex_move rfl) ?_
                  refine ow_val rfl rfl (ex_move rfl) ?_
                  refine ow_val rfl rfl (ex_move rfl) ?_
                  refine ow_val rfl rfl (ex_eql rfl rfl) ?_
                  refine ow_val rfl rfl (ex_move rfl) ?_
                  refine ow_val rfl rfl (ex_move rfl) ?_
                  refine ow_val rfl rfl (ex_eql rfl rfl) ?_
                  refine ow_val rfl rfl (ex_eqlb rfl rfl) ?_
                  refine ow_val rfl rfl (ex_pick_t rfl rfl) ?_
                  refine ow_val rfl rfl (ex_assign rfl) ?_
                  refine ow_nil ?_
                  refine qw_seq ?_
                  refine cw_ret ?_
                  refine qw_ret1 rfl rfl (fun w' h => ⟨congrArg (fun z => Ending.returned (.bool z)) ?_, h.ag.below⟩)
                  first | rfl | (rw [G1]; simp)
                ·
                  refine ow_val rfl (gd_go rfl s107) (ex_move rfl) ?_
                  refine ow_val rfl (gd_go rfl s107) (ex_move rfl) ?_
                  refine ow_val rfl (gd_go rfl s107) (ex_eql rfl rfl) ?_
                  refine ow_val rfl (gd_go rfl s100) (ex_pickf rfl s107 rfl) ?_
                  refine ow_val rfl rfl (ex_pickt rfl s100 rfl) ?_
                  refine ow_val rfl rfl (ex_move rfl) ?_
                  refine ow_split (g := some (14, true)) rfl (fun s113 => ?_) (fun s113 => ?_)
                  ·
                    refine ow_val rfl (gd_go rfl s113) (ex_move rfl) ?_
                    refine ow_val rfl (gd_go rfl s113) (ex_move rfl) ?_
                    refine ow_val rfl (gd_go rfl s113) (ex_eql rfl rfl) ?_
                    refine ow_val rfl (gd_go rfl s113) (ex_move rfl) ?_
                    refine ow_val rfl (gd_go rfl s113) (ex_move rfl) ?_
                    refine ow_val rfl (gd_go rfl s113) (ex_eql rfl rfl) ?_
                    refine ow_val rfl (gd_go rfl s113) (ex_eqlb rfl rfl) ?_
                    refine ow_val rfl rfl (ex_pickt rfl s113 rfl) ?_
                    refine ow_val rfl rfl (ex_assign rfl) ?_
                    refine ow_nil ?_
                    refine qw_seq ?_
                    refine cw_ret ?_
                    refine qw_ret1 rfl rfl (fun w' h => ⟨congrArg (fun z => Ending.returned (.bool z)) ?_, h.ag.below⟩)
                    first | rfl | (rw [G1]; simp)
                  ·
                    first | (cases s113; done) | (rw [hq9] at G2; simp only at G2; rw [hq10] at G2; simp only [decide_eq_true_eq, decide_eq_false_iff_not, ne_eq, Decidable.not_not] at *; exact (s113 (G2 (by omega) (by omega))).elim)
            ·
              cases s100
    ·
      refine ow_skip rfl (gd_no rfl s63) ?_
      refine ow_skip rfl (gd_no rfl s63) ?_
      refine ow_val rfl rfl (ex_pickf rfl s63 rfl) ?_
      refine ow_val rfl rfl (ex_move rfl) ?_
      refine ow_skip rfl rfl ?_
      refine ow_skip rfl rfl ?_
      refine ow_skip rfl rfl ?_
      refine ow_skip rfl rfl ?_
      refine ow_skip rfl rfl ?_
      refine ow_skip rfl rfl ?_
      refine ow_skip rfl rfl ?_
      refine ow_skip rfl rfl ?_
      refine ow_skip rfl rfl ?_
      refine ow_val rfl rfl (ex_pick_f rfl rfl) ?_
      refine ow_nil ?_
      refine qw_seq ?_
      refine cw_cond_f rfl ?_
      refine cw_skip ?_
      refine qw_seq ?_
      refine cw_seq ?_
      refine cw_seq ?_
      refine cw_region ?_
      refine ow_val rfl rfl (ex_move rfl) ?_
      refine ow_val rfl rfl (ex_neq rfl rfl) ?_
      refine ow_val rfl rfl (ex_move rfl) ?_
      refine ow_split (g := some (2, false)) rfl (fun s80 => ?_) (fun s80 => ?_)
      ·
        refine ow_skip rfl (gd_no rfl s80) ?_
        refine ow_skip rfl (gd_no rfl s80) ?_
        refine ow_val rfl rfl (ex_pickt rfl s80 rfl) ?_
        refine ow_nil ?_
        refine qw_seq ?_
        refine cw_cond_t rfl ?_
        refine cw_seq ?_
        refine cw_region ?_
        refine ow_val rfl rfl (ex_move rfl) ?_
        refine ow_val rfl rfl (ex_assign rfl) ?_
        refine ow_nil ?_
        refine qw_seq ?_
        refine cw_ret ?_
        refine qw_then_ret ?_
        refine qw_ret1 rfl rfl (fun w' h => ⟨congrArg (fun z => Ending.returned (.bool z)) ?_, h.ag.below⟩)
        first | rfl | (rw [G1]; simp)
      ·
        refine ow_val rfl (gd_go rfl s80) (ex_move rfl) ?_
        refine ow_val rfl (gd_go rfl s80) (ex_neq rfl rfl) ?_
        refine ow_val rfl rfl (ex_pickf rfl s80 rfl) ?_
        refine ow_nil ?_
        refine qw_seq ?_
        refine cw_cond rfl (fun c83 => ?_) (fun c83 => ?_)
        ·
          refine cw_seq ?_
          refine cw_region ?_
          refine ow_val rfl rfl (ex_move rfl) ?_
          refine ow_val rfl rfl (ex_assign rfl) ?_
          refine ow_nil ?_
          refine qw_seq ?_
          refine cw_ret ?_
          refine qw_then_ret ?_
          refine qw_ret1 rfl rfl (fun w' h => ⟨congrArg (fun z => Ending.returned (.bool z)) ?_, h.ag.below⟩)
          first | rfl | (rw [G1]; simp)
        ·
          refine cw_skip ?_
          refine qw_seq ?_
          refine cw_seq ?_
          obtain ⟨G1, G2⟩ := hS.good (by simp only [decide_eq_true_eq, decide_eq_false_iff_not, ne_eq, Decidable.not_not] at *; omega) (by simp only [decide_eq_true_eq, decide_eq_false_iff_not, ne_eq, Decidable.not_not] at *; omega)
          refine cw_region ?_
          refine ow_val rfl rfl (ex_move rfl) ?_
          refine ow_val rfl rfl (ex_move rfl) ?_
          refine ow_val rfl rfl (ex_move rfl) ?_
          refine ow_ckE rfl rfl (ex_callf rfl (fun w h => pPowK h.hasE htab8 hv8)) (fun v89 σ9 K9 hl9 hf9 hr9 => ?_)
          rcases hq9 : madeV t4 (powG) [p0, y] with ⟨r1, g1, t5⟩
          rw [hq9] at hr9
          simp only at hr9
          obtain ⟨rfl, hv9⟩ := hr9
          have htab9 := htab8.le hl9
          refine ow_val rfl rfl (ex_move rfl) ?_
          refine ow_val rfl rfl (ex_extract rfl rfl) ?_
          refine ow_val rfl rfl (ex_extract rfl rfl) ?_
          refine ow_val rfl rfl (ex_assign rfl) ?_
          refine ow_val rfl rfl (ex_assign rfl) ?_
          refine ow_nil ?_
          refine qw_seq ?_
          refine cw_seq ?_
          refine cw_region ?_
          refine ow_val rfl rfl (ex_move rfl) ?_
          refine ow_val rfl rfl (ex_move rfl) ?_
          refine ow_val rfl rfl (ex_move rfl) ?_
          refine ow_ckE rfl rfl (ex_callf rfl (fun w h => pPowK h.hasE htab9 hv9)) (fun v96 σ10 K10 hl10 hf10 hr10 => ?_)
          rcases hq10 : madeV t5 (powG) [q0, x] with ⟨s1, m1, t6⟩
          rw [hq10] at hr10
          simp only at hr10
          obtain ⟨rfl, hv10⟩ := hr10
          have htab10 := htab9.le hl10
          refine ow_val rfl rfl (ex_move rfl) ?_
          refine ow_val rfl rfl (ex_extract rfl rfl) ?_
          refine ow_val rfl rfl (ex_extract rfl rfl) ?_
          refine ow_val rfl rfl (ex_assign rfl) ?_
          refine ow_val rfl rfl (ex_assign rfl) ?_
          refine ow_nil ?_
          refine qw_seq ?_
          refine cw_seq ?_
          refine cw_region ?_
          refine ow_val rfl rfl (ex_move rfl) ?_
          refine ow_val rfl rfl (ex_move rfl) ?_
          refine ow_split (g := some (1, true)) rfl (fun s100 => ?_) (fun s100 => ?_)
          ·
            refine ow_val rfl (gd_go rfl s100) (ex_move rfl) ?_
            refine ow_val rfl (gd_go rfl s100) (ex_neq rfl rfl) ?_
            refine ow_val rfl (gd_go rfl s100) (ex_move rfl) ?_
            refine ow_split (g := some (4, false)) rfl (fun s103 => ?_) (fun s103 => ?_)
            ·
              refine ow_skip rfl (gd_no rfl s103) ?_
              refine ow_skip rfl (gd_no rfl s103) ?_
              refine ow_val rfl (gd_go rfl s100) (ex_pickt rfl s103 rfl) ?_
              refine ow_val rfl (gd_go rfl s100) (ex_move rfl) ?_
              refine ow_skip rfl rfl ?_
              refine ow_skip rfl rfl ?_
              refine ow_skip rfl rfl ?_
              refine ow_val rfl (gd_go rfl s100) (ex_pick_t rfl rfl) ?_
              refine ow_val rfl rfl (ex_pickt rfl s100 rfl) ?_
              refine ow_val rfl rfl (ex_move rfl) ?_
              refine ow_val rfl rfl (ex_move rfl) ?_
              refine ow_val rfl rfl (ex_move rfl) ?_
              refine ow_val rfl rfl (ex_eql rfl rfl) ?_
              refine ow_val rfl rfl (ex_move rfl) ?_
              refine ow_val rfl rfl (ex_move rfl) ?_
              refine ow_val rfl rfl (ex_eql rfl rfl) ?_
              refine ow_val rfl rfl (ex_eqlb rfl rfl) ?_
              refine ow_val rfl rfl (ex_pick_t rfl rfl) ?_
              refine ow_val rfl rfl (ex_assign rfl) ?_
              refine ow_nil ?_
              refine qw_seq ?_
              refine cw_ret ?_
              refine qw_ret1 rfl rfl (fun w' h => ⟨congrArg (fun z => Ending.returned (.bool z)) ?_, h.ag.below⟩)
              first | rfl | (rw [G1]; simp)
            ·
              refine ow_val rfl (gd_go rfl s103) (ex_move rfl) ?_
              refine ow_val rfl (gd_go rfl s103) (ex_neq rfl rfl) ?_
              refine ow_val rfl (gd_go rfl s100) (ex_pickf rfl s103 rfl) ?_
              refine ow_val rfl (gd_go rfl s100) (ex_move rfl) ?_
              refine ow_split (g := some (8, false)) rfl (fun s107 => ?_) (fun s107 => ?_)
              ·
                refine ow_skip rfl (gd_no rfl s107) ?_
                refine ow_skip rfl (gd_no rfl s107) ?_
                refine ow_skip rfl (gd_no rfl s107) ?_
                refine ow_val rfl (gd_go rfl s100) (ex_pickt rfl s107 rfl) ?_
                refine ow_val rfl rfl (ex_pickt rfl s100 rfl) ?_
                refine ow_val rfl rfl (ex_move rfl) ?_
                refine ow_val rfl rfl (ex_move rfl) ?_
                refine ow_val rfl rfl (ex_move rfl) ?_
                refine ow_val rfl rfl (ex_eql rfl rfl) ?_
                refine ow_val rfl rfl (ex_move rfl) ?_
                refine ow_val rfl rfl (ex_move rfl) ?_
                refine ow_val rfl rfl (ex_eql rfl rfl) ?_
                refine ow_val rfl rfl (ex_eqlb rfl rfl) ?_
                refine ow_val rfl rfl (ex_pick_t rfl rfl) ?_
                refine ow_val rfl rfl (ex_assign rfl) ?_
                refine ow_nil ?_
                refine qw_seq ?_
                refine cw_ret ?_
                refine qw_ret1 rfl rfl (fun w' h => ⟨congrArg (fun z => Ending.returned (.bool z)) ?_, h.ag.below⟩)
                first | rfl | (rw [G1]; simp)
              ·
                refine ow_val rfl (gd_go rfl s107) (ex_move rfl) ?_
                refine ow_val rfl (gd_go rfl s107) (ex_move rfl) ?_
                refine ow_val rfl (gd_go rfl s107) (ex_eql rfl rfl) ?_
                refine ow_val rfl (gd_go rfl s100) (ex_pickf rfl s107 rfl) ?_
                refine ow_val rfl rfl (ex_pickt rfl s100 rfl) ?_
                refine ow_val rfl rfl (ex_move rfl) ?_
                refine ow_split (g := some (14, true)) rfl (fun s113 => ?_) (fun s113 => ?_)
                ·
                  refine ow_val rfl (gd_go rfl s113) (ex_move rfl) ?_
                  refine ow_val rfl (gd_go rfl s113) (ex_move rfl) ?_
                  refine ow_val rfl (gd_go rfl s113) (ex_eql rfl rfl) ?_
                  refine ow_val rfl (gd_go rfl s113) (ex_move rfl) ?_
                  refine ow_val rfl (gd_go rfl s113) (ex_move rfl) ?_
                  refine ow_val rfl (gd_go rfl s113) (ex_eql rfl rfl) ?_
                  refine ow_val rfl (gd_go rfl s113) (ex_eqlb rfl rfl) ?_
                  refine ow_val rfl rfl (ex_pickt rfl s113 rfl) ?_
                  refine ow_val rfl rfl (ex_assign rfl) ?_
                  refine ow_nil ?_
                  refine qw_seq ?_
                  refine cw_ret ?_
                  refine qw_ret1 rfl rfl (fun w' h => ⟨congrArg (fun z => Ending.returned (.bool z)) ?_, h.ag.below⟩)
                  first | rfl | (rw [G1]; simp)
                ·
                  first | (cases s113; done) | (rw [hq9] at G2; simp only at G2; rw [hq10] at G2; simp only [decide_eq_true_eq, decide_eq_false_iff_not, ne_eq, Decidable.not_not] at *; exact (s113 (G2 (by omega) (by omega))).elim)
          ·
            cases s100
end Go.Proofs.YtnjomdjkbbhdoaaDoor
