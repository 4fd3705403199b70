/-
  Walks of the laws of keys.
  No condition.
-/
import Derived.Test.YtnjomdjkbbhdoaaDoorWd9
import Derived.Test.YtnjomdjkbbhdoaaDoorLawC
namespace Go.Proofs.YtnjomdjkbbhdoaaDoor
open Go.RowKit
set_option linter.unusedVariables false
set_option linter.unusedSimpArgs false
set_option maxRecDepth 100000

theorem bothR {u : Value} {σ' : Hp} {K' : List (Nat × Obj)} (h : (u = .tuple #[.pointer none, .pointer none, .bool false] ∧ K' = []) ∨ ∃ (bv bd : Nat) (Kv Kd : List (Nat × Obj)) (ts : List T), u = .tuple #[.pointer (some ⟨bv, 0, none⟩), .pointer (some ⟨bd, 0, none⟩), .bool true] ∧ K' = Kv ++ Kd ∧ VaultK 68 30 bv ts σ' Kv ∧ RefK 41 30 bd ts σ' Kd) : ∃ pv pd ok, u = .tuple #[.pointer pv, .pointer pd, .bool ok] ∧ (ok = true → ∃ (bv bd : Nat) (Kv Kd : List (Nat × Obj)) (ts : List T), pv = some ⟨bv, 0, none⟩ ∧ pd = some ⟨bd, 0, none⟩ ∧ K' = Kv ++ Kd ∧ VaultK 68 30 bv ts σ' Kv ∧ RefK 41 30 bd ts σ' Kd) := by
  rcases h with ⟨h, _⟩ | ⟨bv, bd, Kv, Kd, ts, h, h1, h2, h3⟩
  · exact ⟨none, none, false, h, fun h => by cases h⟩
  · exact ⟨_, _, true, h, fun _ => ⟨bv, bd, Kv, Kd, ts, rfl, rfl, h1, h2, h3⟩⟩


set_option maxHeartbeats 400000 in
theorem lawNothing (ks : List T) (a b : Int) (d : List UInt8) {v mv : Value} {σ : Hp} {w : World} (hi : Imm σ w) (htab : TabC Tryd.prog σ) (hl : KidsV σ v ks) (hm : BytesV σ mv d) : Calls Tryd.prog 7 #[v, .int .i64 a, .int .i64 b, mv] w fun e w' => e = .returned (.bool true) ∧ Below w.heap.size w w' := by
  refine enter (St w (fun _ => False) σ [] []) Tryd.func7 rfl Tryd.ntmps7 rfl (St.start hi) ?_
  refine cw_seq ?_
  refine cw_region ?_
  refine ow_val rfl rfl (ex_assign rfl) ?_
  refine ow_nil ?_
  refine qw_seq ?_
  refine cw_seq ?_
  refine cw_region ?_
  refine ow_cv rfl rfl (ex_callf rfl (fun w h => callB ((pHead7 h.im htab)))) ?_
  refine ow_val rfl rfl (ex_assign rfl) ?_
  refine ow_nil ?_
  refine qw_seq ?_
  refine cw_seq ?_
  refine cw_region ?_
  refine ow_val rfl rfl (ex_move rfl) ?_
  refine ow_ck0E rfl rfl (ex_callf rfl (fun w h => pBothL ks h.im htab hl)) (fun v20 σ4 K4 hl4 hf4 hr4 => ?_)
  obtain ⟨pv, pd, ok, rfl, hok⟩ := bothR hr4
  refine ow_val rfl rfl (ex_move rfl) ?_
  refine ow_val rfl rfl (ex_extract rfl rfl) ?_
  refine ow_val rfl rfl (ex_extract rfl rfl) ?_
  refine ow_val rfl rfl (ex_extract rfl rfl) ?_
  refine ow_val rfl rfl (ex_assign rfl) ?_
  refine ow_val rfl rfl (ex_assign rfl) ?_
  refine ow_val rfl rfl (ex_assign rfl) ?_
  refine ow_nil ?_
  refine qw_seq ?_
  refine cw_seq ?_
  refine cw_seq ?_
  refine cw_region ?_
  refine ow_val rfl rfl (ex_move rfl) ?_
  refine ow_val rfl rfl (ex_not rfl) ?_
  refine ow_nil ?_
  refine qw_seq ?_
  refine cw_cond rfl (fun c25 => ?_) (fun c25 => ?_)
  ·
    refine cw_seq ?_
    refine cw_region ?_
    refine ow_val rfl rfl (ex_move rfl) ?_
    refine ow_val rfl rfl (ex_assign rfl) ?_
    refine ow_nil ?_
    refine qw_seq ?_
    refine cw_ret ?_
    refine qw_then_ret ?_
    refine qw_ret1 rfl rfl (fun w' h => ⟨congrArg (fun z => Ending.returned (.bool z)) ?_, h.ag.below⟩)
    first | rfl | (have hvn := @verify_no ts a b d; have hon := @open_no ts a b; simp_all)
  ·
    have hok1 : ok = true := by simpa using c25
    obtain ⟨bv, bd, Kv, Kd, ts, rfl, rfl, rfl, hv4, hd4⟩ := hok hok1
    subst hok1
    refine cw_skip ?_
    refine qw_seq ?_
    refine cw_seq ?_
    refine cw_mono (fun w h => h.dropG (List.sublist_append_left _ _)) ?_
    refine cw_region ?_
    refine ow_val rfl rfl (ex_move rfl) ?_
    refine ow_val rfl rfl (ex_move rfl) ?_
    refine ow_cr rfl rfl (ex_callf rfl (fun w h => callR (pTerm h.hasE hv4))) (fun v30 σ5 hl5 hf5 hr5 => ?_)
    obtain ⟨c30, rfl, ht30⟩ := hr5
    have ht30' := ht30
    obtain ⟨d30, k30, rfl, _, _, _, hk30⟩ := ht30'.opn
    refine ow_val rfl rfl (ex_move rfl) ?_
    refine ow_val rfl rfl (ex_extract rfl rfl) ?_
    refine ow_val rfl rfl (ex_extract rfl rfl) ?_
    refine ow_blk rfl rfl exw_alloc ?_; intro b13
    refine ow_u rfl (exu_storeN 0 rfl rfl rfl rfl ht30.one rfl) ?_
    refine ow_val rfl rfl (ex_assign rfl) ?_
    refine ow_nil ?_
    refine qw_seq ?_
    refine cw_seq ?_
    refine cw_region ?_
    refine ow_val rfl rfl (ex_move rfl) ?_
    refine ow_val rfl rfl (ex_move rfl) ?_
    refine ow_val rfl rfl (ex_move rfl) ?_
    refine ow_cr rfl rfl (ex_callf rfl (fun w h => callR (pOpen h.hasE (hv4.le hl5)))) (fun v37 σ6 hl6 hf6 hr6 => ?_)
    obtain ⟨o37, rfl, _⟩ := hr6
    refine ow_val rfl rfl (ex_move rfl) ?_
    refine ow_val rfl rfl (ex_extract rfl rfl) ?_
    refine ow_val rfl rfl (ex_extract rfl rfl) ?_
    refine ow_val rfl rfl (ex_assign rfl) ?_
    refine ow_val rfl rfl (ex_assign rfl) ?_
    refine ow_nil ?_
    refine qw_seq ?_
    refine cw_seq ?_
    refine cw_region ?_
    refine ow_val rfl rfl (ex_move rfl) ?_
    refine ow_val rfl rfl (ex_move rfl) ?_
    refine ow_split (g := some (1, true)) rfl (fun s41 => ?_) (fun s41 => ?_)
    ·
      refine ow_val rfl (gd_go rfl s41) (ex_field rfl) ?_
      refine ow_val rfl (gd_go rfl s41) (ex_load1 rfl (by first | exact ld_own1 0 rfl rfl | exact ld_own1 1 rfl rfl | exact ld_own1 2 rfl rfl | exact ld_own1 3 rfl rfl | exact ld_own1 4 rfl rfl | exact ld_own1 5 rfl rfl | exact ld_own1 6 rfl rfl | exact ld_own1 7 rfl rfl | exact ld_ownG1 0 rfl rfl | exact ld_ownG1 1 rfl rfl | exact ld_imm1 (by assumption))) ?_
      refine ow_val rfl (gd_go rfl s41) (ex_eql rfl rfl) ?_
      refine ow_val rfl (gd_go rfl s41) (ex_move rfl) ?_
      refine ow_split (g := some (5, false)) rfl (fun s45 => ?_) (fun s45 => ?_)
      ·
        refine ow_skip rfl (gd_no rfl s45) ?_
        refine ow_skip rfl (gd_no rfl s45) ?_
        refine ow_val rfl (gd_go rfl s41) (ex_pickt rfl s45 rfl) ?_
        refine ow_val rfl rfl (ex_pickt rfl s41 rfl) ?_
        refine ow_val rfl rfl (ex_move rfl) ?_
        refine ow_val rfl rfl (ex_field rfl) ?_
        refine ow_val rfl rfl (ex_load1 rfl (by first | exact ld_own1 0 rfl rfl | exact ld_own1 1 rfl rfl | exact ld_own1 2 rfl rfl | exact ld_own1 3 rfl rfl | exact ld_own1 4 rfl rfl | exact ld_own1 5 rfl rfl | exact ld_own1 6 rfl rfl | exact ld_own1 7 rfl rfl | exact ld_ownG1 0 rfl rfl | exact ld_ownG1 1 rfl rfl | exact ld_imm1 (by assumption))) ?_
        refine ow_val rfl rfl (ex_eql rfl rfl) ?_
        refine ow_val rfl rfl (ex_move rfl) ?_
        refine ow_split (g := some (14, false)) rfl (fun s54 => ?_) (fun s54 => ?_)
        ·
          refine ow_skip rfl (gd_no rfl s54) ?_
          refine ow_skip rfl (gd_no rfl s54) ?_
          refine ow_skip rfl (gd_no rfl s54) ?_
          refine ow_skip rfl (gd_no rfl s54) ?_
          refine ow_skip rfl (gd_no rfl s54) ?_
          refine ow_skip rfl (gd_no rfl s54) ?_
          refine ow_val rfl rfl (ex_pickt rfl s54 rfl) ?_
          refine ow_val rfl rfl (ex_pick_t rfl rfl) ?_
          refine ow_val rfl rfl (ex_assign rfl) ?_
          refine ow_nil ?_
          refine qw_seq ?_
          refine cw_ret ?_
          refine qw_ret1 rfl rfl (fun w' h => ⟨congrArg (fun z => Ending.returned (.bool z)) ?_, h.ag.below⟩)
          first | rfl | (have hvn := @verify_no ts a b d; have hon := @open_no ts a b; simp_all)
        ·
          refine ow_val rfl (gd_go rfl s54) (ex_move rfl) ?_
          refine ow_val rfl (gd_go rfl s54) (ex_move rfl) ?_
          refine ow_val rfl (gd_go rfl s54) (ex_move rfl) ?_
          refine ow_val rfl (gd_go rfl s54) (ex_move rfl) ?_
          refine ow_cv rfl (gd_go rfl s54) (ex_callf rfl (fun w h => callB ((pVerify h.hasE ((hv4.le hl5).le hl6) (((hm.le hl4).le hl5).le hl6))))) ?_
          refine ow_val rfl (gd_go rfl s54) (ex_not rfl) ?_
          refine ow_val rfl rfl (ex_pickf rfl s54 rfl) ?_
          refine ow_val rfl rfl (ex_pick_t rfl rfl) ?_
          refine ow_val rfl rfl (ex_assign rfl) ?_
          refine ow_nil ?_
          refine qw_seq ?_
          refine cw_ret ?_
          refine qw_ret1 rfl rfl (fun w' h => ⟨congrArg (fun z => Ending.returned (.bool z)) ?_, h.ag.below⟩)
          first | rfl | (have hvn := @verify_no ts a b d; have hon := @open_no ts a b; simp_all)
      ·
        refine ow_val rfl (gd_go rfl s45) (ex_move rfl) ?_
        refine ow_val rfl (gd_go rfl s45) (ex_not rfl) ?_
        refine ow_val rfl (gd_go rfl s41) (ex_pickf rfl s45 rfl) ?_
        refine ow_val rfl rfl (ex_pickt rfl s41 rfl) ?_
        refine ow_val rfl rfl (ex_move rfl) ?_
        refine ow_split (g := some (10, true)) rfl (fun s50 => ?_) (fun s50 => ?_)
        ·
          refine ow_val rfl (gd_go rfl s50) (ex_field rfl) ?_
          refine ow_val rfl (gd_go rfl s50) (ex_load1 rfl (by first | exact ld_own1 0 rfl rfl | exact ld_own1 1 rfl rfl | exact ld_own1 2 rfl rfl | exact ld_own1 3 rfl rfl | exact ld_own1 4 rfl rfl | exact ld_own1 5 rfl rfl | exact ld_own1 6 rfl rfl | exact ld_own1 7 rfl rfl | exact ld_ownG1 0 rfl rfl | exact ld_ownG1 1 rfl rfl | exact ld_imm1 (by assumption))) ?_
          refine ow_val rfl (gd_go rfl s50) (ex_eql rfl rfl) ?_
          refine ow_val rfl (gd_go rfl s50) (ex_move rfl) ?_
          refine ow_split (g := some (14, false)) rfl (fun s54 => ?_) (fun s54 => ?_)
          ·
            refine ow_skip rfl (gd_no rfl s54) ?_
            refine ow_skip rfl (gd_no rfl s54) ?_
            refine ow_skip rfl (gd_no rfl s54) ?_
            refine ow_skip rfl (gd_no rfl s54) ?_
            refine ow_skip rfl (gd_no rfl s54) ?_
            refine ow_skip rfl (gd_no rfl s54) ?_
            refine ow_val rfl (gd_go rfl s50) (ex_pickt rfl s54 rfl) ?_
            refine ow_val rfl rfl (ex_pickt rfl s50 rfl) ?_
            refine ow_val rfl rfl (ex_assign rfl) ?_
            refine ow_nil ?_
            refine qw_seq ?_
            refine cw_ret ?_
            refine qw_ret1 rfl rfl (fun w' h => ⟨congrArg (fun z => Ending.returned (.bool z)) ?_, h.ag.below⟩)
            first | rfl | (have hvn := @verify_no ts a b d; have hon := @open_no ts a b; simp_all)
          ·
            refine ow_val rfl (gd_go rfl s54) (ex_move rfl) ?_
            refine ow_val rfl (gd_go rfl s54) (ex_move rfl) ?_
            refine ow_val rfl (gd_go rfl s54) (ex_move rfl) ?_
            refine ow_val rfl (gd_go rfl s54) (ex_move rfl) ?_
            refine ow_cv rfl (gd_go rfl s54) (ex_callf rfl (fun w h => callB ((pVerify h.hasE ((hv4.le hl5).le hl6) (((hm.le hl4).le hl5).le hl6))))) ?_
            refine ow_val rfl (gd_go rfl s54) (ex_not rfl) ?_
            refine ow_val rfl (gd_go rfl s50) (ex_pickf rfl s54 rfl) ?_
            refine ow_val rfl rfl (ex_pickt rfl s50 rfl) ?_
            refine ow_val rfl rfl (ex_assign rfl) ?_
            refine ow_nil ?_
            refine qw_seq ?_
            refine cw_ret ?_
            refine qw_ret1 rfl rfl (fun w' h => ⟨congrArg (fun z => Ending.returned (.bool z)) ?_, h.ag.below⟩)
            first | rfl | (have hvn := @verify_no ts a b d; have hon := @open_no ts a b; simp_all)
        ·
          refine ow_skip rfl (gd_no rfl s50) ?_
          refine ow_skip rfl (gd_no rfl s50) ?_
          refine ow_skip rfl (gd_no rfl s50) ?_
          refine ow_skip rfl (gd_no rfl s50) ?_
          refine ow_skip rfl rfl ?_
          refine ow_skip rfl rfl ?_
          refine ow_skip rfl rfl ?_
          refine ow_skip rfl rfl ?_
          refine ow_skip rfl rfl ?_
          refine ow_skip rfl rfl ?_
          refine ow_skip rfl (gd_no rfl s50) ?_
          refine ow_val rfl rfl (ex_pickf rfl s50 rfl) ?_
          refine ow_val rfl rfl (ex_assign rfl) ?_
          refine ow_nil ?_
          refine qw_seq ?_
          refine cw_ret ?_
          refine qw_ret1 rfl rfl (fun w' h => ⟨congrArg (fun z => Ending.returned (.bool z)) ?_, h.ag.below⟩)
          first | rfl | (have hvn := @verify_no ts a b d; have hon := @open_no ts a b; simp_all)
    ·
      refine ow_skip rfl (gd_no rfl s41) ?_
      refine ow_skip rfl (gd_no rfl s41) ?_
      refine ow_skip rfl (gd_no rfl s41) ?_
      refine ow_skip rfl (gd_no rfl s41) ?_
      refine ow_skip rfl rfl ?_
      refine ow_skip rfl rfl ?_
      refine ow_skip rfl (gd_no rfl s41) ?_
      refine ow_val rfl rfl (ex_pickf rfl s41 rfl) ?_
      refine ow_val rfl rfl (ex_move rfl) ?_
      refine ow_skip rfl rfl ?_
      refine ow_skip rfl rfl ?_
      refine ow_skip rfl rfl ?_
      refine ow_skip rfl rfl ?_
      refine ow_skip rfl rfl ?_
      refine ow_skip rfl rfl ?_
      refine ow_skip rfl rfl ?_
      refine ow_skip rfl rfl ?_
      refine ow_skip rfl rfl ?_
      refine ow_skip rfl rfl ?_
      refine ow_skip rfl rfl ?_
      refine ow_val rfl rfl (ex_pick_f rfl rfl) ?_
      refine ow_val rfl rfl (ex_assign rfl) ?_
      refine ow_nil ?_
      refine qw_seq ?_
      refine cw_ret ?_
      refine qw_ret1 rfl rfl (fun w' h => ⟨congrArg (fun z => Ending.returned (.bool z)) ?_, h.ag.below⟩)
      first | rfl | (have hvn := @verify_no ts a b d; have hon := @open_no ts a b; simp_all)

set_option maxHeartbeats 400000 in
theorem lawAgain (ks : List T) (a : Int) (d : List UInt8) {v mv : Value} {σ : Hp} {w : World} (hi : Imm σ w) (htab : TabC Tryd.prog σ) (hl : KidsV σ v ks) (hm : BytesV σ mv d) : Calls Tryd.prog 6 #[v, .int .i64 a, mv] w fun e w' => e = .returned (.bool true) ∧ Below w.heap.size w w' := by
  refine enter (St w (fun _ => False) σ [] []) Tryd.func6 rfl Tryd.ntmps6 rfl (St.start hi) ?_
  refine cw_seq ?_
  refine cw_region ?_
  refine ow_val rfl rfl (ex_assign rfl) ?_
  refine ow_nil ?_
  refine qw_seq ?_
  refine cw_seq ?_
  refine cw_region ?_
  refine ow_cv rfl rfl (ex_callf rfl (fun w h => callB ((pHead7 h.im htab)))) ?_
  refine ow_val rfl rfl (ex_assign rfl) ?_
  refine ow_nil ?_
  refine qw_seq ?_
  refine cw_seq ?_
  refine cw_region ?_
  refine ow_val rfl rfl (ex_move rfl) ?_
  refine ow_ck0E rfl rfl (ex_callf rfl (fun w h => pBothL ks h.im htab hl)) (fun v27 σ4 K4 hl4 hf4 hr4 => ?_)
  obtain ⟨pv, pd, ok, rfl, hok⟩ := bothR hr4
  refine ow_val rfl rfl (ex_move rfl) ?_
  refine ow_val rfl rfl (ex_extract rfl rfl) ?_
  refine ow_val rfl rfl (ex_extract rfl rfl) ?_
  refine ow_val rfl rfl (ex_extract rfl rfl) ?_
  refine ow_val rfl rfl (ex_assign rfl) ?_
  refine ow_val rfl rfl (ex_assign rfl) ?_
  refine ow_val rfl rfl (ex_assign rfl) ?_
  refine ow_nil ?_
  refine qw_seq ?_
  refine cw_seq ?_
  refine cw_seq ?_
  refine cw_region ?_
  refine ow_val rfl rfl (ex_move rfl) ?_
  refine ow_val rfl rfl (ex_not rfl) ?_
  refine ow_nil ?_
  refine qw_seq ?_
  refine cw_cond rfl (fun c32 => ?_) (fun c32 => ?_)
  ·
    refine cw_seq ?_
    refine cw_region ?_
    refine ow_val rfl rfl (ex_move rfl) ?_
    refine ow_val rfl rfl (ex_assign rfl) ?_
    refine ow_nil ?_
    refine qw_seq ?_
    refine cw_ret ?_
    refine qw_then_ret ?_
    refine qw_ret1 rfl rfl (fun w' h => ⟨congrArg (fun z => Ending.returned (.bool z)) ?_, h.ag.below⟩)
    first | rfl | (simp_all)
  ·
    have hok1 : ok = true := by simpa using c32
    obtain ⟨bv, bd, Kv, Kd, ts, rfl, rfl, rfl, hv4, hd4⟩ := hok hok1
    subst hok1
    refine cw_skip ?_
    refine qw_seq ?_
    refine cw_seq ?_
    have htab4 := htab.le hl4
    have hm4 := hm.le hl4
    refine cw_mono (fun w h => h.dropG (List.sublist_append_left _ _)) ?_
    refine cw_region ?_
    refine ow_val rfl rfl (ex_move rfl) ?_
    refine ow_val rfl rfl (ex_move rfl) ?_
    refine ow_val rfl rfl (ex_move rfl) ?_
    refine ow_ckE rfl rfl (ex_callf rfl (fun w h => pSign h.hasE htab4 hv4 hm4)) (fun v38 σ5 K5 hl5 hf5 hr5 => ?_)
    rcases hq5 : madeV ts (ofT 3 d) [a] with ⟨x1, e1, t1⟩
    rw [hq5] at hr5
    simp only at hr5
    obtain ⟨rfl, hv5⟩ := hr5
    have htab5 := htab4.le hl5
    have hm5 := hm4.le hl5
    refine ow_val rfl rfl (ex_move rfl) ?_
    refine ow_val rfl rfl (ex_extract rfl rfl) ?_
    refine ow_val rfl rfl (ex_extract rfl rfl) ?_
    refine ow_val rfl rfl (ex_assign rfl) ?_
    refine ow_val rfl rfl (ex_assign rfl) ?_
    refine ow_nil ?_
    refine qw_seq ?_
    refine cw_seq ?_
    refine cw_region ?_
    refine ow_val rfl rfl (ex_move rfl) ?_
    refine ow_val rfl rfl (ex_move rfl) ?_
    refine ow_val rfl rfl (ex_move rfl) ?_
    refine ow_ckE rfl rfl (ex_callf rfl (fun w h => pSeal h.hasE htab5 hv5 hm5)) (fun v45 σ6 K6 hl6 hf6 hr6 => ?_)
    rcases hq6 : madeV t1 (ofT 4 d) [a] with ⟨x2, e2, t2⟩
    rw [hq6] at hr6
    simp only at hr6
    obtain ⟨rfl, hv6⟩ := hr6
    have htab6 := htab5.le hl6
    have hm6 := hm5.le hl6
    refine ow_val rfl rfl (ex_move rfl) ?_
    refine ow_val rfl rfl (ex_extract rfl rfl) ?_
    refine ow_val rfl rfl (ex_extract rfl rfl) ?_
    refine ow_val rfl rfl (ex_assign rfl) ?_
    refine ow_val rfl rfl (ex_assign rfl) ?_
    refine ow_nil ?_
    refine qw_seq ?_
    refine cw_seq ?_
    refine cw_region ?_
    refine ow_val rfl rfl (ex_move rfl) ?_
    refine ow_val rfl rfl (ex_move rfl) ?_
    refine ow_val rfl rfl (ex_move rfl) ?_
    refine ow_ckE rfl rfl (ex_callf rfl (fun w h => pKdf h.hasE htab6 hv6 hm6)) (fun v52 σ7 K7 hl7 hf7 hr7 => ?_)
    rcases hq7 : madeV t2 (ofT 6 d) [a] with ⟨x3, e3, t3⟩
    rw [hq7] at hr7
    simp only at hr7
    obtain ⟨rfl, hv7⟩ := hr7
    have htab7 := htab6.le hl7
    have hm7 := hm6.le hl7
    obtain ⟨g1, g2, g3, g4⟩ := again ts a d hq5 hq6 hq7
    refine ow_val rfl rfl (ex_move rfl) ?_
    refine ow_val rfl rfl (ex_extract rfl rfl) ?_
    refine ow_val rfl rfl (ex_extract rfl rfl) ?_
    refine ow_val rfl rfl (ex_assign rfl) ?_
    refine ow_val rfl rfl (ex_assign rfl) ?_
    refine ow_nil ?_
    refine qw_seq ?_
    refine cw_seq ?_
    refine cw_region ?_
    refine ow_val rfl rfl (ex_move rfl) ?_
    refine ow_cv rfl rfl (ex_callf rfl (fun w h => callB ((pLenK h.hasE hv7)))) ?_
    refine ow_val rfl rfl (ex_assign rfl) ?_
    refine ow_nil ?_
    refine qw_seq ?_
    refine cw_seq ?_
    refine cw_region ?_
    refine ow_val rfl rfl (ex_move rfl) ?_
    refine ow_val rfl rfl (ex_move rfl) ?_
    refine ow_val rfl rfl (ex_move rfl) ?_
    refine ow_ckE rfl rfl (ex_callf rfl (fun w h => pSign h.hasE htab7 hv7 hm7)) (fun v61 σ8 K8 hl8 hf8 hr8 => ?_)
    rw [g1] at hr8
    simp only at hr8
    obtain ⟨rfl, hv8⟩ := hr8
    have htab8 := htab7.le hl8
    have hm8 := hm7.le hl8
    refine ow_val rfl rfl (ex_move rfl) ?_
    refine ow_val rfl rfl (ex_extract rfl rfl) ?_
    refine ow_val rfl rfl (ex_extract rfl rfl) ?_
    refine ow_val rfl rfl (ex_assign rfl) ?_
    refine ow_val rfl rfl (ex_assign rfl) ?_
    refine ow_nil ?_
    refine qw_seq ?_
    refine cw_seq ?_
    refine cw_region ?_
    refine ow_val rfl rfl (ex_move rfl) ?_
    refine ow_val rfl rfl (ex_move rfl) ?_
    refine ow_val rfl rfl (ex_move rfl) ?_
    refine ow_ckE rfl rfl (ex_callf rfl (fun w h => pSeal h.hasE htab8 hv8 hm8)) (fun v68 σ9 K9 hl9 hf9 hr9 => ?_)
    rw [g2] at hr9
    simp only at hr9
    obtain ⟨rfl, hv9⟩ := hr9
    have htab9 := htab8.le hl9
    have hm9 := hm8.le hl9
    refine ow_val rfl rfl (ex_move rfl) ?_
    refine ow_val rfl rfl (ex_extract rfl rfl) ?_
    refine ow_val rfl rfl (ex_extract rfl rfl) ?_
    refine ow_val rfl rfl (ex_assign rfl) ?_
    refine ow_val rfl rfl (ex_assign rfl) ?_
    refine ow_nil ?_
    refine qw_seq ?_
    refine cw_seq ?_
    refine cw_region ?_
    refine ow_val rfl rfl (ex_move rfl) ?_
    refine ow_val rfl rfl (ex_move rfl) ?_
    refine ow_val rfl rfl (ex_move rfl) ?_
    refine ow_ckE rfl rfl (ex_callf rfl (fun w h => pKdf h.hasE htab9 hv9 hm9)) (fun v75 σ10 K10 hl10 hf10 hr10 => ?_)
    rw [g3] at hr10
    simp only at hr10
    obtain ⟨rfl, hv10⟩ := hr10
    have htab10 := htab9.le hl10
    have hm10 := hm9.le hl10
    refine ow_val rfl rfl (ex_move rfl) ?_
    refine ow_val rfl rfl (ex_extract rfl rfl) ?_
    refine ow_val rfl rfl (ex_extract rfl rfl) ?_
    refine ow_val rfl rfl (ex_assign rfl) ?_
    refine ow_val rfl rfl (ex_assign rfl) ?_
    refine ow_nil ?_
    refine qw_seq ?_
    refine cw_seq ?_
    refine cw_seq ?_
    refine cw_region ?_
    refine ow_val rfl rfl (ex_move rfl) ?_
    refine ow_val rfl rfl (ex_move rfl) ?_
    refine ow_val rfl rfl (ex_neq rfl rfl) ?_
    refine ow_val rfl rfl (ex_move rfl) ?_
    refine ow_split (g := some (3, false)) rfl (fun s81 => ?_) (fun s81 => ?_)
    ·
      simp at s81
    ·
      refine ow_val rfl (gd_go rfl s81) (ex_move rfl) ?_
      refine ow_val rfl (gd_go rfl s81) (ex_move rfl) ?_
      refine ow_val rfl (gd_go rfl s81) (ex_neq rfl rfl) ?_
      refine ow_val rfl rfl (ex_pickf rfl s81 rfl) ?_
      refine ow_val rfl rfl (ex_move rfl) ?_
      refine ow_split (g := some (8, false)) rfl (fun s86 => ?_) (fun s86 => ?_)
      ·
        simp at s86
      ·
        refine ow_val rfl (gd_go rfl s86) (ex_move rfl) ?_
        refine ow_val rfl (gd_go rfl s86) (ex_move rfl) ?_
        refine ow_val rfl (gd_go rfl s86) (ex_neq rfl rfl) ?_
        refine ow_val rfl rfl (ex_pickf rfl s86 rfl) ?_
        refine ow_val rfl rfl (ex_move rfl) ?_
        refine ow_split (g := some (13, false)) rfl (fun s91 => ?_) (fun s91 => ?_)
        ·
          simp at s91
        ·
          refine ow_val rfl (gd_go rfl s91) (ex_move rfl) ?_
          refine ow_val rfl (gd_go rfl s91) (ex_move rfl) ?_
          refine ow_val rfl (gd_go rfl s91) (ex_neq rfl rfl) ?_
          refine ow_val rfl rfl (ex_pickf rfl s91 rfl) ?_
          refine ow_val rfl rfl (ex_move rfl) ?_
          refine ow_split (g := some (18, false)) rfl (fun s96 => ?_) (fun s96 => ?_)
          ·
            simp at s96
          ·
            refine ow_val rfl (gd_go rfl s96) (ex_move rfl) ?_
            refine ow_val rfl (gd_go rfl s96) (ex_move rfl) ?_
            refine ow_val rfl (gd_go rfl s96) (ex_neq rfl rfl) ?_
            refine ow_val rfl rfl (ex_pickf rfl s96 rfl) ?_
            refine ow_val rfl rfl (ex_move rfl) ?_
            refine ow_split (g := some (23, false)) rfl (fun s101 => ?_) (fun s101 => ?_)
            ·
              simp at s101
            ·
              refine ow_val rfl (gd_go rfl s101) (ex_move rfl) ?_
              refine ow_val rfl (gd_go rfl s101) (ex_move rfl) ?_
              refine ow_val rfl (gd_go rfl s101) (ex_neq rfl rfl) ?_
              refine ow_val rfl rfl (ex_pickf rfl s101 rfl) ?_
              refine ow_val rfl rfl (ex_move rfl) ?_
              refine ow_split (g := some (28, false)) rfl (fun s106 => ?_) (fun s106 => ?_)
              ·
                simp at s106
              ·
                refine ow_val rfl (gd_go rfl s106) (ex_move rfl) ?_
                refine ow_cv rfl (gd_go rfl s106) (ex_callf rfl (fun w h => callB ((pLenK h.hasE hv10)))) ?_
                refine ow_val rfl (gd_go rfl s106) (ex_move rfl) ?_
                refine ow_val rfl (gd_go rfl s106) (ex_neq rfl rfl) ?_
                refine ow_val rfl rfl (ex_pickf rfl s106 rfl) ?_
                refine ow_nil ?_
                refine qw_seq ?_
                refine cw_cond rfl (fun c111 => ?_) (fun c111 => ?_)
                ·
                  simp at c111
                ·
                  refine cw_skip ?_
                  refine qw_seq ?_
                  refine cw_seq ?_
                  refine cw_region ?_
                  refine ow_val rfl rfl (ex_move rfl) ?_
                  refine ow_val rfl rfl (ex_move rfl) ?_
                  refine ow_split (g := some (1, true)) rfl (fun s113 => ?_) (fun s113 => ?_)
                  ·
                    refine ow_val rfl (gd_go rfl s113) (ex_move rfl) ?_
                    refine ow_val rfl (gd_go rfl s113) (ex_neq rfl rfl) ?_
                    refine ow_val rfl (gd_go rfl s113) (ex_move rfl) ?_
                    refine ow_split (g := some (4, false)) rfl (fun s116 => ?_) (fun s116 => ?_)
                    ·
                      refine ow_skip rfl (gd_no rfl s116) ?_
                      refine ow_skip rfl (gd_no rfl s116) ?_
                      refine ow_val rfl (gd_go rfl s113) (ex_pickt rfl s116 rfl) ?_
                      refine ow_val rfl (gd_go rfl s113) (ex_move rfl) ?_
                      refine ow_skip rfl rfl ?_
                      refine ow_skip rfl rfl ?_
                      refine ow_val rfl (gd_go rfl s113) (ex_pick_t rfl rfl) ?_
                      refine ow_val rfl (gd_go rfl s113) (ex_move rfl) ?_
                      refine ow_skip rfl rfl ?_
                      refine ow_skip rfl rfl ?_
                      refine ow_skip rfl rfl ?_
                      refine ow_skip rfl rfl ?_
                      refine ow_skip rfl rfl ?_
                      refine ow_skip rfl rfl ?_
                      refine ow_skip rfl rfl ?_
                      refine ow_skip rfl rfl ?_
                      refine ow_skip rfl rfl ?_
                      refine ow_skip rfl rfl ?_
                      refine ow_skip rfl rfl ?_
                      refine ow_skip rfl rfl ?_
                      refine ow_skip rfl rfl ?_
                      refine ow_val rfl (gd_go rfl s113) (ex_pick_t rfl rfl) ?_
                      refine ow_val rfl rfl (ex_pickt rfl s113 rfl) ?_
                      refine ow_val rfl rfl (ex_assign rfl) ?_
                      refine ow_nil ?_
                      refine qw_seq ?_
                      refine cw_ret ?_
                      refine qw_ret1 rfl rfl (fun w' h => ⟨congrArg (fun z => Ending.returned (.bool z)) ?_, h.ag.below⟩)
                      first | rfl | (simp_all)
                    ·
                      refine ow_val rfl (gd_go rfl s116) (ex_move rfl) ?_
                      refine ow_val rfl (gd_go rfl s116) (ex_neq rfl rfl) ?_
                      refine ow_val rfl (gd_go rfl s113) (ex_pickf rfl s116 rfl) ?_
                      refine ow_val rfl (gd_go rfl s113) (ex_move rfl) ?_
                      refine ow_split (g := some (8, false)) rfl (fun s120 => ?_) (fun s120 => ?_)
                      ·
                        refine ow_skip rfl (gd_no rfl s120) ?_
                        refine ow_skip rfl (gd_no rfl s120) ?_
                        refine ow_val rfl (gd_go rfl s113) (ex_pickt rfl s120 rfl) ?_
                        refine ow_val rfl (gd_go rfl s113) (ex_move rfl) ?_
                        refine ow_skip rfl rfl ?_
                        refine ow_skip rfl rfl ?_
                        refine ow_skip rfl rfl ?_
                        refine ow_skip rfl rfl ?_
                        refine ow_skip rfl rfl ?_
                        refine ow_skip rfl rfl ?_
                        refine ow_skip rfl rfl ?_
                        refine ow_skip rfl rfl ?_
                        refine ow_skip rfl rfl ?_
                        refine ow_skip rfl rfl ?_
                        refine ow_skip rfl rfl ?_
                        refine ow_skip rfl rfl ?_
                        refine ow_skip rfl rfl ?_
                        refine ow_val rfl (gd_go rfl s113) (ex_pick_t rfl rfl) ?_
                        refine ow_val rfl rfl (ex_pickt rfl s113 rfl) ?_
                        refine ow_val rfl rfl (ex_assign rfl) ?_
                        refine ow_nil ?_
                        refine qw_seq ?_
                        refine cw_ret ?_
                        refine qw_ret1 rfl rfl (fun w' h => ⟨congrArg (fun z => Ending.returned (.bool z)) ?_, h.ag.below⟩)
                        first | rfl | (simp_all)
                      ·
                        refine ow_val rfl (gd_go rfl s120) (ex_move rfl) ?_
                        refine ow_val rfl (gd_go rfl s120) (ex_neq rfl rfl) ?_
                        refine ow_val rfl (gd_go rfl s113) (ex_pickf rfl s120 rfl) ?_
                        refine ow_val rfl (gd_go rfl s113) (ex_move rfl) ?_
                        refine ow_split (g := some (12, false)) rfl (fun s124 => ?_) (fun s124 => ?_)
                        ·
                          refine ow_skip rfl (gd_no rfl s124) ?_
                          refine ow_skip rfl (gd_no rfl s124) ?_
                          refine ow_skip rfl (gd_no rfl s124) ?_
                          refine ow_skip rfl (gd_no rfl s124) ?_
                          refine ow_skip rfl rfl ?_
                          refine ow_skip rfl rfl ?_
                          refine ow_skip rfl rfl ?_
                          refine ow_skip rfl (gd_no rfl s124) ?_
                          refine ow_skip rfl (gd_no rfl s124) ?_
                          refine ow_skip rfl rfl ?_
                          refine ow_skip rfl rfl ?_
                          refine ow_skip rfl rfl ?_
                          refine ow_skip rfl (gd_no rfl s124) ?_
                          refine ow_val rfl (gd_go rfl s113) (ex_pickt rfl s124 rfl) ?_
                          refine ow_val rfl rfl (ex_pickt rfl s113 rfl) ?_
                          refine ow_val rfl rfl (ex_assign rfl) ?_
                          refine ow_nil ?_
                          refine qw_seq ?_
                          refine cw_ret ?_
                          refine qw_ret1 rfl rfl (fun w' h => ⟨congrArg (fun z => Ending.returned (.bool z)) ?_, h.ag.below⟩)
                          first | rfl | (simp_all)
                        ·
                          refine ow_val rfl (gd_go rfl s124) (ex_move rfl) ?_
                          refine ow_val rfl (gd_go rfl s124) (ex_move rfl) ?_
                          refine ow_val rfl (gd_go rfl s124) (ex_neq rfl rfl) ?_
                          refine ow_val rfl (gd_go rfl s124) (ex_move rfl) ?_
                          refine ow_split (g := some (16, true)) rfl (fun s128 => ?_) (fun s128 => ?_)
                          ·
                            refine ow_val rfl (gd_go rfl s128) (ex_move rfl) ?_
                            refine ow_val rfl (gd_go rfl s128) (ex_move rfl) ?_
                            refine ow_val rfl (gd_go rfl s128) (ex_neq rfl rfl) ?_
                            refine ow_val rfl (gd_go rfl s124) (ex_pickt rfl s128 rfl) ?_
                            refine ow_val rfl (gd_go rfl s124) (ex_move rfl) ?_
                            refine ow_split (g := some (21, true)) rfl (fun s133 => ?_) (fun s133 => ?_)
                            ·
                              refine ow_val rfl (gd_go rfl s133) (ex_move rfl) ?_
                              refine ow_val rfl (gd_go rfl s133) (ex_move rfl) ?_
                              refine ow_val rfl (gd_go rfl s133) (ex_neq rfl rfl) ?_
                              refine ow_val rfl (gd_go rfl s124) (ex_pickt rfl s133 rfl) ?_
                              refine ow_val rfl (gd_go rfl s113) (ex_pickf rfl s124 rfl) ?_
                              refine ow_val rfl rfl (ex_pickt rfl s113 rfl) ?_
                              refine ow_val rfl rfl (ex_assign rfl) ?_
                              refine ow_nil ?_
                              refine qw_seq ?_
                              refine cw_ret ?_
                              refine qw_ret1 rfl rfl (fun w' h => ⟨congrArg (fun z => Ending.returned (.bool z)) ?_, h.ag.below⟩)
                              first | rfl | (simp_all)
                            ·
                              refine ow_skip rfl (gd_no rfl s133) ?_
                              refine ow_skip rfl (gd_no rfl s133) ?_
                              refine ow_skip rfl (gd_no rfl s133) ?_
                              refine ow_val rfl (gd_go rfl s124) (ex_pickf rfl s133 rfl) ?_
                              refine ow_val rfl (gd_go rfl s113) (ex_pickf rfl s124 rfl) ?_
                              refine ow_val rfl rfl (ex_pickt rfl s113 rfl) ?_
                              refine ow_val rfl rfl (ex_assign rfl) ?_
                              refine ow_nil ?_
                              refine qw_seq ?_
                              refine cw_ret ?_
                              refine qw_ret1 rfl rfl (fun w' h => ⟨congrArg (fun z => Ending.returned (.bool z)) ?_, h.ag.below⟩)
                              first | rfl | (simp_all)
                          ·
                            refine ow_skip rfl (gd_no rfl s128) ?_
                            refine ow_skip rfl (gd_no rfl s128) ?_
                            refine ow_skip rfl (gd_no rfl s128) ?_
                            refine ow_val rfl (gd_go rfl s124) (ex_pickf rfl s128 rfl) ?_
                            refine ow_val rfl (gd_go rfl s124) (ex_move rfl) ?_
                            refine ow_skip rfl rfl ?_
                            refine ow_skip rfl rfl ?_
                            refine ow_skip rfl rfl ?_
                            refine ow_val rfl (gd_go rfl s124) (ex_pick_f rfl rfl) ?_
                            refine ow_val rfl (gd_go rfl s113) (ex_pickf rfl s124 rfl) ?_
                            refine ow_val rfl rfl (ex_pickt rfl s113 rfl) ?_
                            refine ow_val rfl rfl (ex_assign rfl) ?_
                            refine ow_nil ?_
                            refine qw_seq ?_
                            refine cw_ret ?_
                            refine qw_ret1 rfl rfl (fun w' h => ⟨congrArg (fun z => Ending.returned (.bool z)) ?_, h.ag.below⟩)
                            first | rfl | (simp_all)
                  ·
                    refine ow_skip rfl (gd_no rfl s113) ?_
                    refine ow_skip rfl (gd_no rfl s113) ?_
                    refine ow_skip rfl (gd_no rfl s113) ?_
                    refine ow_skip rfl rfl ?_
                    refine ow_skip rfl rfl ?_
                    refine ow_skip rfl (gd_no rfl s113) ?_
                    refine ow_skip rfl (gd_no rfl s113) ?_
                    refine ow_skip rfl rfl ?_
                    refine ow_skip rfl rfl ?_
                    refine ow_skip rfl (gd_no rfl s113) ?_
                    refine ow_skip rfl (gd_no rfl s113) ?_
                    refine ow_skip rfl rfl ?_
                    refine ow_skip rfl rfl ?_
                    refine ow_skip rfl rfl ?_
                    refine ow_skip rfl rfl ?_
                    refine ow_skip rfl rfl ?_
                    refine ow_skip rfl rfl ?_
                    refine ow_skip rfl rfl ?_
                    refine ow_skip rfl rfl ?_
                    refine ow_skip rfl rfl ?_
                    refine ow_skip rfl rfl ?_
                    refine ow_skip rfl rfl ?_
                    refine ow_skip rfl rfl ?_
                    refine ow_skip rfl rfl ?_
                    refine ow_skip rfl (gd_no rfl s113) ?_
                    refine ow_val rfl rfl (ex_pickf rfl s113 rfl) ?_
                    refine ow_val rfl rfl (ex_assign rfl) ?_
                    refine ow_nil ?_
                    refine qw_seq ?_
                    refine cw_ret ?_
                    refine qw_ret1 rfl rfl (fun w' h => ⟨congrArg (fun z => Ending.returned (.bool z)) ?_, h.ag.below⟩)
                    first | rfl | (simp_all)
end Go.Proofs.YtnjomdjkbbhdoaaDoor
