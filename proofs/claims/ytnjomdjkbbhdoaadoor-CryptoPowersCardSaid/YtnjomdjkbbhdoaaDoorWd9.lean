/-
  Walks: keys; two tables.
  No condition.
-/
import Derived.Test.YtnjomdjkbbhdoaaDoorWd8
import Derived.Test.YtnjomdjkbbhdoaaDoorWd5
namespace Go.Proofs.YtnjomdjkbbhdoaaDoor
open Go.RowKit
set_option linter.unusedVariables false
set_option linter.unusedSimpArgs false
set_option maxRecDepth 100000

set_option maxHeartbeats 400000 in
theorem pVerify {pub sig : Int} {msg : List UInt8} {mv : Value} {b : Nat} {ts : List T} {σ : Hp} {K : List (Nat × Obj)} {w : World} (hi : Has σ K w) (hvk : VaultK 68 30 b ts σ K) (hm : BytesV σ mv msg) : Calls Tryd.prog 31 #[.pointer (some ⟨b, 0, none⟩), .int .i64 pub, mv, .int .i64 sig] w fun e w' => e = .returned (.bool (verifyV ts pub msg sig)) ∧ Below w.heap.size w w' := by
  have hlt := hi.le
  have him := hi.exts
  have hti := hvk.nd.1
  refine enter (St w (fun _ => False) (exts σ K) [] []) Tryd.func31 rfl Tryd.ntmps31 rfl (St.start him) ?_
  refine cw_seq ?_
  refine cw_region ?_
  refine ow_val rfl rfl (ex_assign rfl) ?_
  refine ow_nil ?_
  refine qw_seq ?_
  refine cw_seq ?_
  refine cw_region ?_
  refine ow_val rfl rfl (ex_move rfl) ?_
  refine ow_val rfl rfl (ex_move rfl) ?_
  refine ow_val rfl rfl (ex_move rfl) ?_
  refine ow_crs rfl rfl hlt (ex_callf rfl (fun w h => callR (pBoth (hi.of_im h.im (Le.refl _)) hvk))) (fun v16 τ1 κ1 hl1 hf1 hr1 hlk1 hle1 => ?_)
  obtain ⟨cx, cy, rfl, htx, hty⟩ := hr1
  have htx' := htx
  obtain ⟨dx, kx, rfl, _, _, hdx, hkx⟩ := htx'.opn
  have hty' := hty
  obtain ⟨dy, ky, rfl, _, _, hdy, hky⟩ := hty'.opn
  obtain ⟨px, ccx, rfl, hcx, hmx⟩ := hkx.slice
  obtain ⟨py, ccy, rfl, hcy, hmy⟩ := hky.slice
  refine ow_val rfl rfl (ex_move rfl) ?_
  refine ow_val rfl rfl (ex_extract rfl rfl) ?_
  refine ow_val rfl rfl (ex_extract rfl rfl) ?_
  refine ow_val rfl rfl (ex_extract rfl rfl) ?_
  refine ow_blk rfl rfl exw_alloc ?_; intro b9
  refine ow_blk rfl rfl exw_alloc ?_; intro b10
  refine ow_u rfl (exu_storeN 1 rfl rfl rfl rfl htx.one rfl) ?_
  refine ow_u rfl (exu_storeN 0 rfl rfl rfl rfl hty.one rfl) ?_
  refine ow_val rfl rfl (ex_assign rfl) ?_
  refine ow_nil ?_
  refine qw_seq ?_
  refine cw_seq ?_
  refine flow_sound 25 (by kernel_rfl) ?_
  refine flow_val rfl (ex_move rfl) ?_
  refine flow_val rfl (ex_move rfl) ?_
  refine flow_split rfl (fun s21 => ?_) (fun s21 => ?_)
  ·
    have hbt0 : bothV ts 3 sig pub = true := s21
    have hbt := hbt0
    simp only [bothV, Bool.and_eq_true, decide_eq_true_eq] at hbt
    refine flow_val (gd_go rfl s21) (ex_field rfl) ?_
    refine flow_val (gd_go rfl s21) (ex_load1 rfl (by first | exact ld_own1 0 rfl rfl | exact ld_own1 1 rfl rfl | exact ld_own1 2 rfl rfl | exact ld_own1 3 rfl rfl | exact ld_own1 4 rfl rfl | exact ld_own1 5 rfl rfl | exact ld_own1 6 rfl rfl | exact ld_own1 7 rfl rfl | exact ld_ownG1 0 rfl rfl | exact ld_ownG1 1 rfl rfl | exact ld_imm1 (by assumption))) ?_
    refine flow_val (gd_go rfl s21) (ex_eql rfl rfl) ?_
    refine flow_val rfl (ex_pickt rfl s21 rfl) ?_
    refine flow_val rfl (ex_move rfl) ?_
    refine flow_split rfl (fun s26 => ?_) (fun s26 => ?_)
    ·
      have hp1 : decide ((termV ts pub).1.op = 2) = true := s26
      have hp2 := of_decide_eq_true hp1
      have hone := keyed_one (hti.rt _ (termV_mem hbt.1.1)) (by omega)
      have hone2 := keyed_one (hti.rt _ (termV_mem hbt.1.2)) (by omega)
      obtain ⟨bk, f, ck, c0, e1, _, hc0, ht0⟩ := hkx.get 0 (by omega)
      cases e1
      obtain ⟨bk2, f2, ck2, c2, e2, _, hc2, ht2⟩ := hky.get 0 (by omega)
      cases e2
      have hk0 : (termV ts sig).1.kids[0] = (termV ts sig).1.kids.getD 0 zeroT := by simp [List.getD_eq_getElem?_getD, show 0 < (termV ts sig).1.kids.length by omega]
      have hk2 : (termV ts pub).1.kids[0] = (termV ts pub).1.kids.getD 0 zeroT := by simp [List.getD_eq_getElem?_getD, show 0 < (termV ts pub).1.kids.length by omega]
      rw [hk0] at ht0
      rw [hk2] at ht2
      refine flow_val (gd_go rfl s26) (ex_field rfl) ?_
      refine flow_val (gd_go rfl s26) (ex_load1 rfl (by first | exact ld_own1 0 rfl rfl | exact ld_own1 1 rfl rfl | exact ld_own1 2 rfl rfl | exact ld_own1 3 rfl rfl | exact ld_own1 4 rfl rfl | exact ld_own1 5 rfl rfl | exact ld_own1 6 rfl rfl | exact ld_own1 7 rfl rfl | exact ld_ownG1 0 rfl rfl | exact ld_ownG1 1 rfl rfl | exact ld_imm1 (by assumption))) ?_
      refine flow_val (gd_go rfl s26) (ex_move rfl) ?_
      refine flow_cv (gd_go rfl s26) (ex_callf rfl (fun w h => callB ((pBytesEq h.im (hdx.le hle1) (hm.le (hlt.trans hlk1)))))) ?_
      refine flow_val rfl (ex_pickt rfl s26 rfl) ?_
      refine flow_val rfl (ex_move rfl) ?_
      refine flow_split rfl (fun s32 => ?_) (fun s32 => ?_)
      ·
        have hq1 : ((termV ts sig).1.data == msg) = true := s32
        refine flow_val (gd_go rfl s32) (ex_field rfl) ?_
        refine flow_val (gd_go rfl s32) (ex_load1 rfl (by first | exact ld_own1 0 rfl rfl | exact ld_own1 1 rfl rfl | exact ld_own1 2 rfl rfl | exact ld_own1 3 rfl rfl | exact ld_own1 4 rfl rfl | exact ld_own1 5 rfl rfl | exact ld_own1 6 rfl rfl | exact ld_own1 7 rfl rfl | exact ld_ownG1 0 rfl rfl | exact ld_ownG1 1 rfl rfl | exact ld_imm1 (by assumption))) ?_
        refine flow_val (gd_go rfl s32) (ex_index_nat (i := 0) rfl rfl (by omega)) ?_
        refine flow_val (gd_go rfl s32) (ex_loadR rfl (ld_immT (hc0.le hle1) (ht0.le hle1))) ?_
        refine flow_val (gd_go rfl s32) (ex_field rfl) ?_
        refine flow_val (gd_go rfl s32) (ex_load1 rfl (by first | exact ld_own1 0 rfl rfl | exact ld_own1 1 rfl rfl | exact ld_own1 2 rfl rfl | exact ld_own1 3 rfl rfl | exact ld_own1 4 rfl rfl | exact ld_own1 5 rfl rfl | exact ld_own1 6 rfl rfl | exact ld_own1 7 rfl rfl | exact ld_ownG1 0 rfl rfl | exact ld_ownG1 1 rfl rfl | exact ld_imm1 (by assumption))) ?_
        refine flow_val (gd_go rfl s32) (ex_index_nat (i := 0) rfl rfl (by omega)) ?_
        refine flow_val (gd_go rfl s32) (ex_loadR rfl (ld_immT (hc2.le hle1) (ht2.le hle1))) ?_
        refine flow_cv (gd_go rfl s32) (ex_callf rfl (fun w h => callB ((pOrder _ _ h.im (ht0.le hle1) (ht2.le hle1))))) ?_
        refine flow_val (gd_go rfl s32) (ex_eql rfl rfl) ?_
        refine flow_val rfl (ex_pickt rfl s32 rfl) ?_
        refine flow_val rfl (ex_assign rfl) ?_
        refine flow_nil ?_
        refine fin_is ?_
        refine fin_is ?_
        refine fin_is ?_
        refine fin_is ?_
        refine fin_is ?_
        refine fin_is ?_
        refine fin_is ?_
        refine fin_is ?_
        refine fin_is ?_
        refine fin_is ?_
        refine fin_is ?_
        refine fin_is ?_
        refine fin_is ?_
        refine fin_is ?_
        refine fin_is ?_
        refine fin_is ?_
        refine fin_is ?_
        refine fin_is ?_
        refine fin_is ?_
        refine fin_is ?_
        refine fin_is ?_
        refine fin_is ?_
        refine fin_is ?_
        refine fin_is ?_
        refine fin_is ?_
        refine fin_nil ?_
        refine ow_nil ?_
        refine qw_seq ?_
        refine cw_ret ?_
        refine qw_ret1 rfl rfl (fun w' h => ⟨congrArg (fun z => Ending.returned (.bool z)) ?_, h.ag.below⟩)
        simp [verifyV, hbt0, hp1, hq1]
      ·
        have hqf : ((termV ts sig).1.data == msg) = false := s32
        refine flow_skip (gd_no rfl s32) ?_
        refine flow_skip (gd_no rfl s32) ?_
        refine flow_skip (gd_no rfl s32) ?_
        refine flow_skip (gd_no rfl s32) ?_
        refine flow_skip (gd_no rfl s32) ?_
        refine flow_skip (gd_no rfl s32) ?_
        refine flow_skip (gd_no rfl s32) ?_
        refine flow_skip (gd_no rfl s32) ?_
        refine flow_skip (gd_no rfl s32) ?_
        refine flow_skip (gd_no rfl s32) ?_
        refine flow_val rfl (ex_pickf rfl s32 rfl) ?_
        refine flow_val rfl (ex_assign rfl) ?_
        refine flow_nil ?_
        refine fin_is ?_
        refine fin_is ?_
        refine fin_is ?_
        refine fin_is ?_
        refine fin_is ?_
        refine fin_is ?_
        refine fin_is ?_
        refine fin_is ?_
        refine fin_is ?_
        refine fin_is ?_
        refine fin_is ?_
        refine fin_is ?_
        refine fin_is ?_
        refine fin_is ?_
        refine fin_is ?_
        refine fin_is ?_
        refine fin_is ?_
        refine fin_is ?_
        refine fin_is ?_
        refine fin_is ?_
        refine fin_is ?_
        refine fin_is ?_
        refine fin_is ?_
        refine fin_is ?_
        refine fin_is ?_
        refine fin_nil ?_
        refine ow_nil ?_
        refine qw_seq ?_
        refine cw_ret ?_
        refine qw_ret1 rfl rfl (fun w' h => ⟨congrArg (fun z => Ending.returned (.bool z)) ?_, h.ag.below⟩)
        simp [verifyV, hqf]
    ·
      have hpf : decide ((termV ts pub).1.op = 2) = false := s26
      refine flow_skip (gd_no rfl s26) ?_
      refine flow_skip (gd_no rfl s26) ?_
      refine flow_skip (gd_no rfl s26) ?_
      refine flow_skip (gd_no rfl s26) ?_
      refine flow_val rfl (ex_pickf rfl s26 rfl) ?_
      refine flow_val rfl (ex_move rfl) ?_
      refine flow_skip rfl ?_
      refine flow_skip rfl ?_
      refine flow_skip rfl ?_
      refine flow_skip rfl ?_
      refine flow_skip rfl ?_
      refine flow_skip rfl ?_
      refine flow_skip rfl ?_
      refine flow_skip rfl ?_
      refine flow_skip rfl ?_
      refine flow_skip rfl ?_
      refine flow_val rfl (ex_pick_f rfl rfl) ?_
      refine flow_val rfl (ex_assign rfl) ?_
      refine flow_nil ?_
      refine fin_is ?_
      refine fin_is ?_
      refine fin_is ?_
      refine fin_is ?_
      refine fin_is ?_
      refine fin_is ?_
      refine fin_is ?_
      refine fin_is ?_
      refine fin_is ?_
      refine fin_is ?_
      refine fin_is ?_
      refine fin_is ?_
      refine fin_is ?_
      refine fin_is ?_
      refine fin_is ?_
      refine fin_is ?_
      refine fin_is ?_
      refine fin_is ?_
      refine fin_is ?_
      refine fin_is ?_
      refine fin_is ?_
      refine fin_is ?_
      refine fin_is ?_
      refine fin_is ?_
      refine fin_is ?_
      refine fin_nil ?_
      refine ow_nil ?_
      refine qw_seq ?_
      refine cw_ret ?_
      refine qw_ret1 rfl rfl (fun w' h => ⟨congrArg (fun z => Ending.returned (.bool z)) ?_, h.ag.below⟩)
      simp [verifyV, hpf]
  ·
    have hbf : bothV ts 3 sig pub = false := s21
    refine flow_skip (gd_no rfl s21) ?_
    refine flow_skip (gd_no rfl s21) ?_
    refine flow_skip (gd_no rfl s21) ?_
    refine flow_val rfl (ex_pickf rfl s21 rfl) ?_
    refine flow_val rfl (ex_move rfl) ?_
    refine flow_skip rfl ?_
    refine flow_skip rfl ?_
    refine flow_skip rfl ?_
    refine flow_skip rfl ?_
    refine flow_val rfl (ex_pick_f rfl rfl) ?_
    refine flow_val rfl (ex_move rfl) ?_
    refine flow_skip rfl ?_
    refine flow_skip rfl ?_
    refine flow_skip rfl ?_
    refine flow_skip rfl ?_
    refine flow_skip rfl ?_
    refine flow_skip rfl ?_
    refine flow_skip rfl ?_
    refine flow_skip rfl ?_
    refine flow_skip rfl ?_
    refine flow_skip rfl ?_
    refine flow_val rfl (ex_pick_f rfl rfl) ?_
    refine flow_val rfl (ex_assign rfl) ?_
    refine flow_nil ?_
    refine fin_is ?_
    refine fin_is ?_
    refine fin_is ?_
    refine fin_is ?_
    refine fin_is ?_
    refine fin_is ?_
    refine fin_is ?_
    refine fin_is ?_
    refine fin_is ?_
    refine fin_is ?_
    refine fin_is ?_
    refine fin_is ?_
    refine fin_is ?_
    refine fin_is ?_
    refine fin_is ?_
    refine fin_is ?_
    refine fin_is ?_
    refine fin_is ?_
    refine fin_is ?_
    refine fin_is ?_
    refine fin_is ?_
    refine fin_is ?_
    refine fin_is ?_
    refine fin_is ?_
    refine fin_is ?_
    refine fin_nil ?_
    refine ow_nil ?_
    refine qw_seq ?_
    refine cw_ret ?_
    refine qw_ret1 rfl rfl (fun w' h => ⟨congrArg (fun z => Ending.returned (.bool z)) ?_, h.ag.below⟩)
    simp [verifyV, hbf]

set_option maxHeartbeats 400000 in
theorem pHead7 {σ : Hp} {w : World} (hi : Imm σ w) (htab : TabC Tryd.prog σ) : Calls Tryd.prog 25 #[] w fun e w' => e = .returned (.bool true) ∧ Below w.heap.size w w' := by
  refine enter (St w (fun _ => False) σ [] []) Tryd.func25 rfl Tryd.ntmps25 rfl (St.start hi) ?_
  refine cw_seq ?_
  refine cw_region ?_
  refine ow_val rfl rfl (ex_assign rfl) ?_
  refine ow_nil ?_
  refine qw_seq ?_
  refine cw_seq ?_
  refine cw_region ?_
  refine ow_ck0E rfl rfl (ex_callf rfl (fun w h => pNew h.im)) (fun v10 σ4 K4 hl4 hf4 hr4 => ?_)
  obtain ⟨b, rfl, hv4⟩ := hr4
  refine ow_val rfl rfl (ex_assign rfl) ?_
  refine ow_nil ?_
  refine qw_seq ?_
  refine cw_seq ?_
  refine cw_seq ?_
  refine cw_region ?_
  refine ow_val rfl rfl (ex_move rfl) ?_
  refine ow_val rfl rfl (ex_ptrnil rfl) ?_
  refine ow_nil ?_
  refine qw_seq ?_
  refine cw_cond rfl (fun c12 => ?_) (fun c12 => ?_)
  ·
    simp at c12
  ·
    refine cw_skip ?_
    refine qw_seq ?_
    refine cw_seq ?_
    refine cw_region ?_
    refine ow_val rfl rfl (ex_move rfl) ?_
    refine ow_ckE rfl rfl (ex_callf rfl (fun w h => pAtom h.hasE (htab.le hl4) hv4 (by decide))) (fun v15 σ5 K5 hl5 hf5 hr5 => ?_)
    rw [made_atom] at hr5
    obtain ⟨rfl, hv5⟩ := hr5
    refine ow_val rfl rfl (ex_move rfl) ?_
    refine ow_val rfl rfl (ex_extract rfl rfl) ?_
    refine ow_val rfl rfl (ex_extract rfl rfl) ?_
    refine ow_val rfl rfl (ex_assign rfl) ?_
    refine ow_val rfl rfl (ex_assign rfl) ?_
    refine ow_nil ?_
    refine qw_seq ?_
    refine cw_seq ?_
    refine cw_region ?_
    refine ow_val rfl rfl (ex_move rfl) ?_
    refine ow_val rfl rfl (ex_move rfl) ?_
    refine ow_slit rfl rfl (exw_slitN (vs := ([97] : List UInt8).map byteV) (by kernel_rfl) (bytes_cells _) rfl (by decide) (by decide)) ?_; intro b21
    refine ow_conv rfl rfl rfl ?_
    refine ow_frzO (fun _ h => h) (fun σ6 hl6 hf6 hb6 => ?_)
    have hbv : BytesV σ6 (.slice (some ⟨b21, 0, none⟩) 1 1) [97] := BytesV.lit hb6 rfl (by decide)
    refine ow_ckE rfl rfl (ex_callf rfl (fun w h => pSeal h.hasE (((htab.le hl4).le hl5).le hl6) (hv5.le hl6) hbv)) (fun v23 σ7 K7 hl7 hf7 hr7 => ?_)
    rw [made_enc] at hr7
    obtain ⟨rfl, hv7⟩ := hr7
    refine ow_val rfl rfl (ex_move rfl) ?_
    refine ow_val rfl rfl (ex_extract rfl rfl) ?_
    refine ow_val rfl rfl (ex_extract rfl rfl) ?_
    refine ow_val rfl rfl (ex_assign rfl) ?_
    refine ow_val rfl rfl (ex_assign rfl) ?_
    refine ow_nil ?_
    refine qw_seq ?_
    refine cw_seq ?_
    refine cw_region ?_
    refine ow_val rfl rfl (ex_move rfl) ?_
    refine ow_val rfl rfl (ex_move rfl) ?_
    refine ow_val rfl rfl (ex_move rfl) ?_
    refine ow_cr rfl rfl (ex_callf rfl (fun w h => callR (pOpen h.hasE hv7))) (fun v30 σ8 hl8 hf8 hr8 => ?_)
    rw [open_enc] at hr8
    obtain ⟨q30, rfl, hb30⟩ := hr8
    obtain ⟨p30, c30, rfl, _, _⟩ := hb30.slice
    refine ow_val rfl rfl (ex_move rfl) ?_
    refine ow_val rfl rfl (ex_extract rfl rfl) ?_
    refine ow_val rfl rfl (ex_extract rfl rfl) ?_
    refine ow_val rfl rfl (ex_assign rfl) ?_
    refine ow_val rfl rfl (ex_assign rfl) ?_
    refine ow_nil ?_
    refine qw_seq ?_
    refine cw_seq ?_
    refine cw_region ?_
    refine ow_cv rfl rfl (ex_callf rfl (fun w h => callB ((pAtomNil h.im)))) ?_
    refine ow_val rfl rfl (ex_move rfl) ?_
    refine ow_val rfl rfl (ex_extract rfl rfl) ?_
    refine ow_val rfl rfl (ex_extract rfl rfl) ?_
    refine ow_val rfl rfl (ex_assign rfl) ?_
    refine ow_val rfl rfl (ex_assign rfl) ?_
    refine ow_nil ?_
    refine qw_seq ?_
    refine cw_seq ?_
    refine cw_region ?_
    refine ow_val rfl rfl (ex_move rfl) ?_
    refine ow_val rfl rfl (ex_eql rfl rfl) ?_
    refine ow_val rfl rfl (ex_move rfl) ?_
    refine ow_split (g := some (2, true)) rfl (fun s39 => ?_) (fun s39 => ?_)
    ·
      refine ow_val rfl (gd_go rfl s39) (ex_move rfl) ?_
      refine ow_val rfl (gd_go rfl s39) (ex_eql rfl rfl) ?_
      refine ow_val rfl rfl (ex_pickt rfl s39 rfl) ?_
      refine ow_val rfl rfl (ex_move rfl) ?_
      refine ow_split (g := some (6, true)) rfl (fun s43 => ?_) (fun s43 => ?_)
      ·
        refine ow_val rfl (gd_go rfl s43) (ex_move rfl) ?_
        refine ow_val rfl rfl (ex_pickt rfl s43 rfl) ?_
        refine ow_val rfl rfl (ex_move rfl) ?_
        refine ow_split (g := some (9, true)) rfl (fun s46 => ?_) (fun s46 => ?_)
        ·
          refine ow_val rfl (gd_go rfl s46) (ex_move rfl) ?_
          refine ow_val rfl (gd_go rfl s46) (ex_tostr rfl hb30 (fun w h => h.im)) ?_
          refine ow_val rfl (gd_go rfl s46) (ex_streql (b := [97]) rfl rfl) ?_
          refine ow_val rfl rfl (ex_pickt rfl s46 rfl) ?_
          refine ow_val rfl rfl (ex_move rfl) ?_
          refine ow_split (g := some (14, true)) rfl (fun s51 => ?_) (fun s51 => ?_)
          ·
            refine ow_val rfl (gd_go rfl s51) (ex_move rfl) ?_
            refine ow_val rfl (gd_go rfl s51) (ex_eql rfl rfl) ?_
            refine ow_val rfl rfl (ex_pickt rfl s51 rfl) ?_
            refine ow_val rfl rfl (ex_assign rfl) ?_
            refine ow_nil ?_
            refine qw_seq ?_
            refine cw_ret ?_
            refine qw_ret1 rfl rfl (fun w' h => ⟨congrArg (fun z => Ending.returned (.bool z)) ?_, h.ag.below⟩)
            rfl
          ·
            exact absurd s51 (by decide)
        ·
          exact absurd s46 (by decide)
      ·
        exact absurd s43 (by decide)
    ·
      exact absurd s39 (by decide)

set_option maxHeartbeats 400000 in
theorem pBothL (ls : List T) {v : Value} {σ : Hp} {w : World} (hi : Imm σ w) (htab : TabC Tryd.prog σ) (hl : KidsV σ v ls) : Calls Tryd.prog 26 #[v] w (GiveK (fun σ' u K' => (u = .tuple #[.pointer none, .pointer none, .bool false] ∧ K' = []) ∨ ∃ (bv bd : Nat) (Kv Kd : List (Nat × Obj)) (ts : List T), u = .tuple #[.pointer (some ⟨bv, 0, none⟩), .pointer (some ⟨bd, 0, none⟩), .bool true] ∧ K' = Kv ++ Kd ∧ VaultK 68 30 bv ts σ' Kv ∧ RefK 41 30 bd ts σ' Kd) σ [] w) := by
  obtain ⟨p, c, rfl, hc, hm⟩ := hl.slice
  have hm2 := hm
  unfold maxKids at hm2
  refine enter (St w (keysOf []) σ [] []) Tryd.func26 rfl Tryd.ntmps26 rfl (Has.start (Has.nil hi)) ?_
  refine cw_seq ?_
  refine cw_region ?_
  refine ow_val rfl rfl (ex_assign rfl) ?_
  refine ow_val rfl rfl (ex_assign rfl) ?_
  refine ow_val rfl rfl (ex_assign rfl) ?_
  refine ow_nil ?_
  refine qw_seq ?_
  refine cw_seq ?_
  refine cw_region ?_
  refine ow_ck0E rfl rfl (ex_callf rfl (fun w h => pNew h.im)) (fun v12 σ4 K4 hl4 hf4 hr4 => ?_)
  obtain ⟨bv, rfl, hv4⟩ := hr4
  refine ow_val rfl rfl (ex_assign rfl) ?_
  refine ow_nil ?_
  refine qw_seq ?_
  refine cw_seq ?_
  refine cw_region ?_
  refine ow_val rfl rfl (ex_build (parts := []) (cells := #[.slice none 0 0]) rfl (by kernel_rfl)) ?_
  refine ow_blk rfl rfl (exw_box rfl) ?_; intro bd
  refine ow_mono (fun w h => h.toG.permG (List.perm_append_comm (l₁ := K4) (l₂ := [_]))) ?_
  have hd4 : RefK 41 30 bd [] σ4 [(bd, .cells #[.slice none 0 0] 41)] := ⟨_, [], [], rfl, OwnSl.nil _ _, rfl, by simp⟩
  refine ow_val rfl rfl (ex_assign rfl) ?_
  refine ow_nil ?_
  refine qw_seq ?_
  refine cw_seq ?_
  refine cw_seq ?_
  refine cw_region ?_
  refine ow_val rfl rfl (ex_move rfl) ?_
  refine ow_val rfl rfl (ex_ptrnil rfl) ?_
  refine ow_val rfl rfl (ex_move rfl) ?_
  refine ow_split (g := some (2, false)) rfl (fun s17 => ?_) (fun s17 => ?_)
  ·
    simp at s17
  ·
    refine ow_val rfl (gd_go rfl s17) (ex_move rfl) ?_
    refine ow_val rfl (gd_go rfl s17) (ex_len (ty := 0) rfl) ?_
    refine ow_val rfl (gd_go rfl s17) (ex_gtr rfl rfl) ?_
    refine ow_val rfl rfl (ex_pickf rfl s17 rfl) ?_
    refine ow_nil ?_
    refine qw_seq ?_
    refine cw_cond rfl (fun c21 => ?_) (fun c21 => ?_)
    ·
      refine cw_seq ?_
      refine cw_region ?_
      refine ow_val rfl rfl (ex_assign rfl) ?_
      refine ow_val rfl rfl (ex_assign rfl) ?_
      refine ow_val rfl rfl (ex_assign rfl) ?_
      refine ow_nil ?_
      refine qw_seq ?_
      refine cw_ret ?_
      refine qw_then_ret ?_
      refine qw_ret3 rfl rfl rfl rfl (fun w' h => (h.dropG (List.nil_sublist _)).givesK hl4 hf4 (.inl ⟨rfl, rfl⟩))
    ·
      refine cw_skip ?_
      refine qw_seq ?_
      refine cw_seq ?_
      refine cw_seq ?_
      refine cw_region ?_
      refine ow_val rfl rfl (ex_assign rfl) ?_
      refine ow_nil ?_
      refine qw_seq ?_
      refine cw_block ?_
      refine cw_loop5 (fun (i : Nat) (ts : List T) (τ : Hp) (Kv Kd : List (Nat × Obj)) => [(0, .slice p ls.length c), (5, .pointer (some ⟨bv, 0, none⟩)), (6, .pointer (some ⟨bd, 0, none⟩)), (7, .int .i64 (i : Int))]) (fun i ts τ Kv Kd => i ≤ ls.length ∧ Le σ τ ∧ Fresh σ τ w ∧ VaultK 68 30 bv ts τ Kv ∧ RefK 41 30 bd ts τ Kd) (fun i ts τ Kv Kd => τ) (fun i ts τ Kv Kd => Kv ++ Kd) (fun i _ _ _ _ => ls.length - i) 0 [] σ4 K4 [(bd, .cells #[.slice none 0 0] 41)] (subL_cons (lkv rfl (by first | rfl | simp)) (subL_cons (lkv rfl (by first | rfl | simp)) (subL_cons (lkv rfl (by first | rfl | simp)) (subL_cons (lkv rfl (by first | rfl | simp)) (subL_nil _))))) ⟨Nat.zero_le _, hl4, hf4, hv4, hd4⟩ (fun w h => h) ?_
      intro i ts τj Kv Kd ⟨hlej, hlj, hfj, hvj, hdj⟩
      refine cw_seq ?_
      refine cw_seq ?_
      refine cw_region ?_
      refine ow_val rfl rfl (ex_move rfl) ?_
      refine ow_val rfl rfl (ex_move rfl) ?_
      refine ow_val rfl rfl (ex_len (ty := 0) rfl) ?_
      refine ow_val rfl rfl (ex_lss rfl rfl) ?_
      refine ow_nil ?_
      refine qw_seq ?_
      refine cw_cond rfl (fun c25 => ?_) (fun c25 => ?_)
      ·
        refine cw_skip ?_
        refine qw_seq ?_
        refine cw_seq ?_
        refine cw_block ?_
        refine cw_seq ?_
        refine cw_seq ?_
        have hlt : i < ls.length := by have := of_decide_eq_true c25; omega
        obtain ⟨bk, f, c', cs, e1, e2, hc1, ht1⟩ := hl.get i hlt
        cases e1
        refine cw_region ?_
        refine ow_val rfl rfl (ex_move rfl) ?_
        refine ow_val rfl rfl (ex_move rfl) ?_
        refine ow_val rfl rfl (ex_index_nat rfl rfl (by omega)) ?_
        refine ow_val rfl rfl (ex_loadR rfl (ld_immT (hc1.le hlj) (ht1.le hlj))) ?_
        refine ow_cv rfl rfl (ex_callf rfl (fun w h => callB ((rParts _ h.im (ht1.le hlj) (by omega) (by omega))))) ?_
        refine ow_val rfl rfl (ex_gtr rfl rfl) ?_
        refine ow_nil ?_
        refine qw_seq ?_
        refine cw_cond rfl (fun c33 => ?_) (fun c33 => ?_)
        ·
          refine cw_seq ?_
          refine cw_region ?_
          refine ow_val rfl rfl (ex_assign rfl) ?_
          refine ow_val rfl rfl (ex_assign rfl) ?_
          refine ow_val rfl rfl (ex_assign rfl) ?_
          refine ow_nil ?_
          refine qw_seq ?_
          refine cw_ret ?_
          refine qw_then_ret ?_
          refine qw_block_ret ?_
          refine qw_then_ret ?_
          refine qw_then_ret ?_
          refine qw_block_ret ?_
          refine qw_then_ret ?_
          refine qw_ret3 rfl rfl rfl rfl (fun w' h => (h.dropG (List.nil_sublist _)).givesK hlj hfj (.inl ⟨rfl, rfl⟩))
        ·
          refine cw_skip ?_
          refine qw_seq ?_
          refine cw_seq ?_
          refine cw_region ?_
          refine ow_val rfl rfl (ex_move rfl) ?_
          refine ow_val rfl rfl (ex_move rfl) ?_
          refine ow_val rfl rfl (ex_move rfl) ?_
          refine ow_val rfl rfl (ex_index_nat rfl rfl (by omega)) ?_
          refine ow_val rfl rfl (ex_loadR rfl (ld_immT (hc1.le hlj) (ht1.le hlj))) ?_
          refine ow_ck rfl rfl (ex_callf rfl (fun w h => pIntern _ h.has (htab.le hlj) hvj (ht1.le hlj))) (fun v40 τ2 K2 hl2 hf2 hr2 => ?_)
          obtain ⟨rfl, hv2⟩ := hr2
          refine ow_val rfl rfl (ex_move rfl) ?_
          refine ow_val rfl rfl (ex_extract rfl rfl) ?_
          refine ow_val rfl rfl (ex_extract rfl rfl) ?_
          refine ow_val rfl rfl (ex_assign rfl) ?_
          refine ow_val rfl rfl (ex_assign rfl) ?_
          refine ow_nil ?_
          refine qw_seq ?_
          refine cw_seq ?_
          refine cw_region ?_
          refine ow_val rfl rfl (ex_move rfl) ?_
          refine ow_val rfl rfl (ex_move rfl) ?_
          refine ow_val rfl rfl (ex_move rfl) ?_
          refine ow_val rfl rfl (ex_index_nat rfl rfl (by omega)) ?_
          refine ow_val rfl rfl (ex_loadR rfl (ld_immT (hc1.le (hlj.trans hl2)) (ht1.le (hlj.trans hl2)))) ?_
          refine ow_mono (fun w h => h.permG List.perm_append_comm) ?_
          refine ow_ck rfl rfl (ex_callf rfl (fun w h => rIntern _ h.has (hdj.le hl2) (ht1.le (hlj.trans hl2)))) (fun v49 τ3 K3 hl3 hf3 hr3 => ?_)
          obtain ⟨rfl, hd3⟩ := hr3
          refine ow_mono (fun w h => h.permG List.perm_append_comm) ?_
          refine ow_val rfl rfl (ex_move rfl) ?_
          refine ow_val rfl rfl (ex_extract rfl rfl) ?_
          refine ow_val rfl rfl (ex_extract rfl rfl) ?_
          refine ow_val rfl rfl (ex_assign rfl) ?_
          refine ow_val rfl rfl (ex_assign rfl) ?_
          refine ow_nil ?_
          refine qw_seq ?_
          refine cw_seq ?_
          refine cw_region ?_
          refine ow_val rfl rfl (ex_move rfl) ?_
          refine ow_val rfl rfl (ex_move rfl) ?_
          refine ow_val rfl rfl (ex_neq rfl rfl) ?_
          refine ow_val rfl rfl (ex_move rfl) ?_
          refine ow_split (g := some (3, false)) rfl (fun s55 => ?_) (fun s55 => ?_)
          ·
            simp at s55
          ·
            refine ow_val rfl (gd_go rfl s55) (ex_move rfl) ?_
            refine ow_val rfl (gd_go rfl s55) (ex_move rfl) ?_
            refine ow_val rfl (gd_go rfl s55) (ex_neq rfl rfl) ?_
            refine ow_val rfl rfl (ex_pickf rfl s55 rfl) ?_
            refine ow_nil ?_
            refine qw_seq ?_
            refine cw_cond rfl (fun c59 => ?_) (fun c59 => ?_)
            ·
              simp at c59
            ·
              refine cw_skip ?_
              refine qw_block_normal ?_
              refine qw_seq ?_
              refine cw_region ?_
              refine ow_val rfl rfl (ex_move rfl) ?_
              refine ow_val rfl rfl (ex_addi (z := ((i + 1 : Nat) : Int)) rfl rfl (by omega) (by omega) (by omega)) ?_
              refine ow_val rfl rfl (ex_assign rfl) ?_
              refine ow_nil ?_
              exact qw_round5 (i + 1) (intern ts ls[i]).2.2 τ3 K2 K3 (by omega) (subL_cons (lkv rfl (by first | rfl | simp)) (subL_cons (lkv rfl (by first | rfl | simp)) (subL_cons (lkv rfl (by first | rfl | simp)) (subL_cons (lkv rfl (by first | rfl | simp)) (subL_nil _))))) ⟨by omega, (hlj.trans hl2).trans hl3, (hfj.trans hf2).trans hf3, hv2.le hl3, hd3⟩ (fun w h => h)
      ·
        refine cw_exit ?_
        refine qw_then_exit ?_
        refine qw_then_exit ?_
        refine qw_block_exit ?_
        refine qw_seq ?_
        refine cw_seq ?_
        refine cw_region ?_
        refine ow_val rfl rfl (ex_move rfl) ?_
        refine ow_val rfl rfl (ex_move rfl) ?_
        refine ow_val rfl rfl (ex_assign rfl) ?_
        refine ow_val rfl rfl (ex_assign rfl) ?_
        refine ow_val rfl rfl (ex_assign rfl) ?_
        refine ow_nil ?_
        refine qw_seq ?_
        refine cw_ret ?_
        refine qw_ret3 rfl rfl rfl rfl (fun w' h => h.givesK hlj hfj (.inr ⟨bv, bd, Kv, Kd, ts, rfl, rfl, hvj, hdj⟩))
end Go.Proofs.YtnjomdjkbbhdoaaDoor
