/-
  Walks of the reference: the order; how many terms one is, up to a bound.
  No condition.
-/
import Derived.Test.YtnjomdjkbbhdoaaDoorWa1
namespace Go.Proofs.YtnjomdjkbbhdoaaDoor
open Go.RowKit
set_option linter.unusedVariables false
set_option linter.unusedSimpArgs false
set_option maxRecDepth 100000

set_option maxHeartbeats 400000 in
theorem rOrder : ∀ (t u : T) {σ : Hp} {ca cb : List Value} {w : World}, Imm σ w → TermC σ ca t → TermC σ cb u → Calls Tryd.prog 52 #[.agg ca.toArray, .agg cb.toArray] w fun e w' => e = .returned (.int .i64 (ord t u)) ∧ Below w.heap.size w w' := by
  intro t
  induction t using T.ind with
  | _ o n d ks ih =>
  intro u
  obtain ⟨o', n', d', ks'⟩ := u
  intro σ ca cb w hi ha hb
  obtain ⟨dv, kv, rfl, ho, hn, hd, hk⟩ := ha.opn
  obtain ⟨dv', kv', rfl, ho', hn', hd', hk'⟩ := hb.opn
  obtain ⟨p, c, rfl, hc, hm⟩ := hk.slice
  obtain ⟨p', c', rfl, hc', hm'⟩ := hk'.slice
  simp only [T.kids, T.op, T.num, T.data] at *
  rw [ord_mk]
  simp only [T.kids, T.op, T.num, T.data]
  have hm2 := hm
  unfold maxKids at hm2
  refine enter (St w (fun _ => False) σ [] []) Tryd.func52 rfl Tryd.ntmps52 rfl (St.start hi) ?_
  refine cw_seq ?_
  refine cw_region ?_
  refine ow_blk rfl rfl (exw_box rfl) ?_; intro b2
  refine ow_blk rfl rfl (exw_box rfl) ?_; intro b3
  refine ow_val rfl rfl (ex_assign rfl) ?_
  refine ow_nil ?_
  refine qw_seq ?_
  refine cw_seq ?_
  refine cw_seq ?_
  refine cw_region ?_
  refine ow_val rfl rfl (ex_field rfl) ?_
  refine ow_val rfl rfl (ex_load1 rfl (by first | exact ld_own1 0 rfl rfl | exact ld_own1 1 rfl rfl | exact ld_own1 2 rfl rfl | exact ld_own1 3 rfl rfl | exact ld_own1 4 rfl rfl | exact ld_own1 5 rfl rfl | exact ld_own1 6 rfl rfl | exact ld_own1 7 rfl rfl | exact ld_ownG1 0 rfl rfl | exact ld_ownG1 1 rfl rfl | exact ld_imm1 (by assumption))) ?_
  refine ow_val rfl rfl (ex_field rfl) ?_
  refine ow_val rfl rfl (ex_load1 rfl (by first | exact ld_own1 0 rfl rfl | exact ld_own1 1 rfl rfl | exact ld_own1 2 rfl rfl | exact ld_own1 3 rfl rfl | exact ld_own1 4 rfl rfl | exact ld_own1 5 rfl rfl | exact ld_own1 6 rfl rfl | exact ld_own1 7 rfl rfl | exact ld_ownG1 0 rfl rfl | exact ld_ownG1 1 rfl rfl | exact ld_imm1 (by assumption))) ?_
  refine ow_val rfl rfl (ex_neq rfl rfl) ?_
  refine ow_nil ?_
  refine qw_seq ?_
  refine cw_cond rfl (fun c11 => ?_) (fun c11 => ?_)
  ·
    refine cw_seq ?_
    refine cw_seq ?_
    refine cw_region ?_
    refine ow_val rfl rfl (ex_field rfl) ?_
    refine ow_val rfl rfl (ex_load1 rfl (by first | exact ld_own1 0 rfl rfl | exact ld_own1 1 rfl rfl | exact ld_own1 2 rfl rfl | exact ld_own1 3 rfl rfl | exact ld_own1 4 rfl rfl | exact ld_own1 5 rfl rfl | exact ld_own1 6 rfl rfl | exact ld_own1 7 rfl rfl | exact ld_ownG1 0 rfl rfl | exact ld_ownG1 1 rfl rfl | exact ld_imm1 (by assumption))) ?_
    refine ow_val rfl rfl (ex_field rfl) ?_
    refine ow_val rfl rfl (ex_load1 rfl (by first | exact ld_own1 0 rfl rfl | exact ld_own1 1 rfl rfl | exact ld_own1 2 rfl rfl | exact ld_own1 3 rfl rfl | exact ld_own1 4 rfl rfl | exact ld_own1 5 rfl rfl | exact ld_own1 6 rfl rfl | exact ld_own1 7 rfl rfl | exact ld_ownG1 0 rfl rfl | exact ld_ownG1 1 rfl rfl | exact ld_imm1 (by assumption))) ?_
    refine ow_val rfl rfl (ex_lss rfl rfl) ?_
    refine ow_nil ?_
    refine qw_seq ?_
    refine cw_cond rfl (fun c16 => ?_) (fun c16 => ?_)
    ·
      refine cw_seq ?_
      refine cw_region ?_
      refine ow_val rfl rfl (ex_assign rfl) ?_
      refine ow_nil ?_
      refine qw_seq ?_
      refine cw_ret ?_
      refine qw_then_ret ?_
      refine qw_then_ret ?_
      refine qw_ret1 rfl rfl (fun w' h => ⟨congrArg (fun z => Ending.returned (.int .i64 z)) ?_, h.ag.below⟩)
      simp at c11 c16
      rw [cmpI_m (by omega), lex_ne (by decide)]
    ·
      refine cw_skip ?_
      refine qw_seq ?_
      refine cw_seq ?_
      refine cw_region ?_
      refine ow_val rfl rfl (ex_assign rfl) ?_
      refine ow_nil ?_
      refine qw_seq ?_
      refine cw_ret ?_
      refine qw_then_ret ?_
      refine qw_ret1 rfl rfl (fun w' h => ⟨congrArg (fun z => Ending.returned (.int .i64 z)) ?_, h.ag.below⟩)
      simp at c11 c16
      rw [cmpI_p (by omega), lex_ne (by decide)]
  ·
    refine cw_skip ?_
    refine qw_seq ?_
    refine cw_seq ?_
    refine cw_seq ?_
    refine cw_region ?_
    refine ow_val rfl rfl (ex_field rfl) ?_
    refine ow_val rfl rfl (ex_load1 rfl (by first | exact ld_own1 0 rfl rfl | exact ld_own1 1 rfl rfl | exact ld_own1 2 rfl rfl | exact ld_own1 3 rfl rfl | exact ld_own1 4 rfl rfl | exact ld_own1 5 rfl rfl | exact ld_own1 6 rfl rfl | exact ld_own1 7 rfl rfl | exact ld_ownG1 0 rfl rfl | exact ld_ownG1 1 rfl rfl | exact ld_imm1 (by assumption))) ?_
    refine ow_val rfl rfl (ex_field rfl) ?_
    refine ow_val rfl rfl (ex_load1 rfl (by first | exact ld_own1 0 rfl rfl | exact ld_own1 1 rfl rfl | exact ld_own1 2 rfl rfl | exact ld_own1 3 rfl rfl | exact ld_own1 4 rfl rfl | exact ld_own1 5 rfl rfl | exact ld_own1 6 rfl rfl | exact ld_own1 7 rfl rfl | exact ld_ownG1 0 rfl rfl | exact ld_ownG1 1 rfl rfl | exact ld_imm1 (by assumption))) ?_
    refine ow_val rfl rfl (ex_neq rfl rfl) ?_
    refine ow_nil ?_
    refine qw_seq ?_
    refine cw_cond rfl (fun c21 => ?_) (fun c21 => ?_)
    ·
      refine cw_seq ?_
      refine cw_seq ?_
      refine cw_region ?_
      refine ow_val rfl rfl (ex_field rfl) ?_
      refine ow_val rfl rfl (ex_load1 rfl (by first | exact ld_own1 0 rfl rfl | exact ld_own1 1 rfl rfl | exact ld_own1 2 rfl rfl | exact ld_own1 3 rfl rfl | exact ld_own1 4 rfl rfl | exact ld_own1 5 rfl rfl | exact ld_own1 6 rfl rfl | exact ld_own1 7 rfl rfl | exact ld_ownG1 0 rfl rfl | exact ld_ownG1 1 rfl rfl | exact ld_imm1 (by assumption))) ?_
      refine ow_val rfl rfl (ex_field rfl) ?_
      refine ow_val rfl rfl (ex_load1 rfl (by first | exact ld_own1 0 rfl rfl | exact ld_own1 1 rfl rfl | exact ld_own1 2 rfl rfl | exact ld_own1 3 rfl rfl | exact ld_own1 4 rfl rfl | exact ld_own1 5 rfl rfl | exact ld_own1 6 rfl rfl | exact ld_own1 7 rfl rfl | exact ld_ownG1 0 rfl rfl | exact ld_ownG1 1 rfl rfl | exact ld_imm1 (by assumption))) ?_
      refine ow_val rfl rfl (ex_lss rfl rfl) ?_
      refine ow_nil ?_
      refine qw_seq ?_
      refine cw_cond rfl (fun c26 => ?_) (fun c26 => ?_)
      ·
        refine cw_seq ?_
        refine cw_region ?_
        refine ow_val rfl rfl (ex_assign rfl) ?_
        refine ow_nil ?_
        refine qw_seq ?_
        refine cw_ret ?_
        refine qw_then_ret ?_
        refine qw_then_ret ?_
        refine qw_ret1 rfl rfl (fun w' h => ⟨congrArg (fun z => Ending.returned (.int .i64 z)) ?_, h.ag.below⟩)
        simp at c11 c21 c26
        rw [cmpI_0 (by omega), lex_of0 rfl, cmpI_m (by omega), lex_ne (by decide)]
      ·
        refine cw_skip ?_
        refine qw_seq ?_
        refine cw_seq ?_
        refine cw_region ?_
        refine ow_val rfl rfl (ex_assign rfl) ?_
        refine ow_nil ?_
        refine qw_seq ?_
        refine cw_ret ?_
        refine qw_then_ret ?_
        refine qw_ret1 rfl rfl (fun w' h => ⟨congrArg (fun z => Ending.returned (.int .i64 z)) ?_, h.ag.below⟩)
        simp at c11 c21 c26
        rw [cmpI_0 (by omega), lex_of0 rfl, cmpI_p (by omega), lex_ne (by decide)]
    ·
      refine cw_skip ?_
      refine qw_seq ?_
      refine cw_seq ?_
      refine cw_region ?_
      refine ow_val rfl rfl (ex_field rfl) ?_
      refine ow_val rfl rfl (ex_load1 rfl (by first | exact ld_own1 0 rfl rfl | exact ld_own1 1 rfl rfl | exact ld_own1 2 rfl rfl | exact ld_own1 3 rfl rfl | exact ld_own1 4 rfl rfl | exact ld_own1 5 rfl rfl | exact ld_own1 6 rfl rfl | exact ld_own1 7 rfl rfl | exact ld_ownG1 0 rfl rfl | exact ld_ownG1 1 rfl rfl | exact ld_imm1 (by assumption))) ?_
      refine ow_val rfl rfl (ex_field rfl) ?_
      refine ow_val rfl rfl (ex_load1 rfl (by first | exact ld_own1 0 rfl rfl | exact ld_own1 1 rfl rfl | exact ld_own1 2 rfl rfl | exact ld_own1 3 rfl rfl | exact ld_own1 4 rfl rfl | exact ld_own1 5 rfl rfl | exact ld_own1 6 rfl rfl | exact ld_own1 7 rfl rfl | exact ld_ownG1 0 rfl rfl | exact ld_ownG1 1 rfl rfl | exact ld_imm1 (by assumption))) ?_
      refine ow_cv rfl rfl (ex_callf rfl (fun w h => callB ((rText h.im hd hd')))) ?_
      refine ow_val rfl rfl (ex_assign rfl) ?_
      refine ow_nil ?_
      refine qw_seq ?_
      refine cw_seq ?_
      refine cw_seq ?_
      refine cw_region ?_
      refine ow_val rfl rfl (ex_move rfl) ?_
      refine ow_val rfl rfl (ex_neq rfl rfl) ?_
      refine ow_nil ?_
      refine qw_seq ?_
      refine cw_cond rfl (fun c33 => ?_) (fun c33 => ?_)
      ·
        refine cw_seq ?_
        refine cw_region ?_
        refine ow_val rfl rfl (ex_move rfl) ?_
        refine ow_val rfl rfl (ex_assign rfl) ?_
        refine ow_nil ?_
        refine qw_seq ?_
        refine cw_ret ?_
        refine qw_then_ret ?_
        refine qw_ret1 rfl rfl (fun w' h => ⟨congrArg (fun z => Ending.returned (.int .i64 z)) ?_, h.ag.below⟩)
        simp at c11 c21 c33
        rw [cmpI_0 (by omega), lex_of0 rfl, cmpI_0 (by omega), lex_of0 rfl, lex_ne c33]
      ·
        refine cw_skip ?_
        refine qw_seq ?_
        refine cw_seq ?_
        refine cw_seq ?_
        refine cw_region ?_
        refine ow_val rfl rfl (ex_assign rfl) ?_
        refine ow_nil ?_
        refine qw_seq ?_
        refine cw_block ?_
        refine cw_loopS (α := Nat) (fun i => [(2, .pointer (some ⟨b2, 0, none⟩)), (3, .pointer (some ⟨b3, 0, none⟩)), (6, .int .i64 (i : Int))]) (fun i => i ≤ ks.length ∧ i ≤ ks'.length ∧ ords ks ks' = ords (ks.drop i) (ks'.drop i)) (fun i => ks.length - i) 0 (subL_cons (lkv rfl (by first | rfl | simp)) (subL_cons (lkv rfl (by first | rfl | simp)) (subL_cons (lkv rfl (by first | rfl | simp)) (subL_nil _)))) ⟨Nat.zero_le _, Nat.zero_le _, by simp⟩ ?_
        intro i ⟨hle, hle', hords⟩
        refine cw_seq ?_
        refine cw_cut1 46 (.bool (decide ((i : Int) < (ks.length : Int)) && decide ((i : Int) < (ks'.length : Int)))) ?_ ?_
        ·
          refine cw_region ?_
          refine ow_val rfl rfl (ex_move rfl) ?_
          refine ow_val rfl rfl (ex_field rfl) ?_
          refine ow_val rfl rfl (ex_load1 rfl (by first | exact ld_own1 0 rfl rfl | exact ld_own1 1 rfl rfl | exact ld_own1 2 rfl rfl | exact ld_own1 3 rfl rfl | exact ld_own1 4 rfl rfl | exact ld_own1 5 rfl rfl | exact ld_own1 6 rfl rfl | exact ld_own1 7 rfl rfl | exact ld_ownG1 0 rfl rfl | exact ld_ownG1 1 rfl rfl | exact ld_imm1 (by assumption))) ?_
          refine ow_val rfl rfl (ex_len (ty := 0) rfl) ?_
          refine ow_val rfl rfl (ex_lss rfl rfl) ?_
          refine ow_val rfl rfl (ex_move rfl) ?_
          refine ow_split (g := some (5, true)) rfl (fun s40 => ?_) (fun s40 => ?_)
          ·
            refine ow_val rfl (gd_go rfl s40) (ex_move rfl) ?_
            refine ow_val rfl (gd_go rfl s40) (ex_field rfl) ?_
            refine ow_val rfl (gd_go rfl s40) (ex_load1 rfl (by first | exact ld_own1 0 rfl rfl | exact ld_own1 1 rfl rfl | exact ld_own1 2 rfl rfl | exact ld_own1 3 rfl rfl | exact ld_own1 4 rfl rfl | exact ld_own1 5 rfl rfl | exact ld_own1 6 rfl rfl | exact ld_own1 7 rfl rfl | exact ld_ownG1 0 rfl rfl | exact ld_ownG1 1 rfl rfl | exact ld_imm1 (by assumption))) ?_
            refine ow_val rfl (gd_go rfl s40) (ex_len (ty := 0) rfl) ?_
            refine ow_val rfl (gd_go rfl s40) (ex_lss rfl rfl) ?_
            refine ow_val rfl rfl (ex_pickt rfl s40 rfl) ?_
            refine ow_nil ?_
            exact qw_meet (subL_meet 12 46 (lkv rfl (by first | rfl | (simp_all; done) | (simp_all <;> omega))) rfl rfl) (fun w h => h)
          ·
            refine ow_skip rfl (gd_no rfl s40) ?_
            refine ow_skip rfl (gd_no rfl s40) ?_
            refine ow_skip rfl (gd_no rfl s40) ?_
            refine ow_skip rfl (gd_no rfl s40) ?_
            refine ow_skip rfl (gd_no rfl s40) ?_
            refine ow_val rfl rfl (ex_pickf rfl s40 rfl) ?_
            refine ow_nil ?_
            exact qw_meet (subL_meet 12 46 (lkv rfl (by first | rfl | (simp_all; done) | (simp_all <;> omega))) rfl rfl) (fun w h => h)
        ·
          refine cw_cond rfl (fun c46 => ?_) (fun c46 => ?_)
          ·
            refine cw_skip ?_
            refine qw_seq ?_
            refine cw_seq ?_
            refine cw_block ?_
            refine cw_seq ?_
            have hlt : i < ks.length := by simp at c46; omega
            have hlt' : i < ks'.length := by simp at c46; omega
            obtain ⟨bk, f, ck, cs, e1, e2, hc1, ht1⟩ := hk.get i hlt
            obtain ⟨bk', f', ck', cs', e1', e2', hc1', ht1'⟩ := hk'.get i hlt'
            cases e1
            cases e1'
            refine flow_sound 11 (by kernel_rfl) ?_
            refine flow_val rfl (ex_field rfl) ?_
            refine flow_val rfl (ex_load1 rfl (by first | exact ld_own1 0 rfl rfl | exact ld_own1 1 rfl rfl | exact ld_own1 2 rfl rfl | exact ld_own1 3 rfl rfl | exact ld_own1 4 rfl rfl | exact ld_own1 5 rfl rfl | exact ld_own1 6 rfl rfl | exact ld_own1 7 rfl rfl | exact ld_ownG1 0 rfl rfl | exact ld_ownG1 1 rfl rfl | exact ld_imm1 (by assumption))) ?_
            refine flow_val rfl (ex_move rfl) ?_
            refine flow_val rfl (ex_index_nat rfl rfl (by omega)) ?_
            refine flow_val rfl (ex_loadR rfl (by first | exact ld_ownN 0 rfl rfl | exact ld_ownN 1 rfl rfl | exact ld_ownN 2 rfl rfl | exact ld_ownN 3 rfl rfl | exact ld_ownN 4 rfl rfl | exact ld_ownN 5 rfl rfl | exact ld_ownN 6 rfl rfl | exact ld_ownN 7 rfl rfl | exact ld_ownGN 0 rfl rfl | exact ld_ownGN 1 rfl rfl | exact ld_immT (by assumption) (by assumption))) ?_
            refine flow_val rfl (ex_field rfl) ?_
            refine flow_val rfl (ex_load1 rfl (by first | exact ld_own1 0 rfl rfl | exact ld_own1 1 rfl rfl | exact ld_own1 2 rfl rfl | exact ld_own1 3 rfl rfl | exact ld_own1 4 rfl rfl | exact ld_own1 5 rfl rfl | exact ld_own1 6 rfl rfl | exact ld_own1 7 rfl rfl | exact ld_ownG1 0 rfl rfl | exact ld_ownG1 1 rfl rfl | exact ld_imm1 (by assumption))) ?_
            refine flow_val rfl (ex_move rfl) ?_
            refine flow_val rfl (ex_index_nat rfl rfl (by omega)) ?_
            refine flow_val rfl (ex_loadR rfl (by first | exact ld_ownN 0 rfl rfl | exact ld_ownN 1 rfl rfl | exact ld_ownN 2 rfl rfl | exact ld_ownN 3 rfl rfl | exact ld_ownN 4 rfl rfl | exact ld_ownN 5 rfl rfl | exact ld_ownN 6 rfl rfl | exact ld_ownN 7 rfl rfl | exact ld_ownGN 0 rfl rfl | exact ld_ownGN 1 rfl rfl | exact ld_immT (by assumption) (by assumption))) ?_
            refine flow_cv rfl (ex_callf rfl (fun w h => callB ((ih _ (List.getElem_mem hlt) _ h.im ht1 ht1')))) ?_
            refine flow_nil ?_
            refine fin_is ?_
            refine fin_is ?_
            refine fin_is ?_
            refine fin_is ?_
            refine fin_is ?_
            refine fin_is ?_
            refine fin_is ?_
            refine fin_is ?_
            refine fin_is ?_
            refine fin_is ?_
            refine fin_is ?_
            refine fin_nil ?_
            refine ow_val rfl rfl (ex_assign rfl) ?_
            refine ow_nil ?_
            refine qw_seq ?_
            refine cw_seq ?_
            refine cw_region ?_
            refine ow_val rfl rfl (ex_move rfl) ?_
            refine ow_val rfl rfl (ex_neq rfl rfl) ?_
            refine ow_nil ?_
            refine qw_seq ?_
            refine cw_cond rfl (fun c61 => ?_) (fun c61 => ?_)
            ·
              refine cw_seq ?_
              refine cw_region ?_
              refine ow_val rfl rfl (ex_move rfl) ?_
              refine ow_val rfl rfl (ex_assign rfl) ?_
              refine ow_nil ?_
              refine qw_seq ?_
              refine cw_ret ?_
              refine qw_block_ret ?_
              refine qw_then_ret ?_
              refine qw_then_ret ?_
              refine qw_block_ret ?_
              refine qw_then_ret ?_
              refine qw_ret1 rfl rfl (fun w' h => ⟨congrArg (fun z => Ending.returned (.int .i64 z)) ?_, h.ag.below⟩)
              simp at c11 c21 c33 c61
              rw [cmpI_0 (by omega), lex_of0 rfl, cmpI_0 (by omega), lex_of0 rfl, lex_of0 c33, hords, ords_step hlt hlt', lex_ne c61]
            ·
              refine cw_skip ?_
              refine qw_block_normal ?_
              refine qw_seq ?_
              refine cw_region ?_
              refine ow_val rfl rfl (ex_move rfl) ?_
              refine ow_val rfl rfl (ex_addi (z := ((i + 1 : Nat) : Int)) rfl rfl (by omega) (by omega) (by omega)) ?_
              refine ow_val rfl rfl (ex_assign rfl) ?_
              refine ow_nil ?_
              exact qw_roundS (i + 1) (by omega) (subL_cons (lkv rfl (by first | rfl | simp)) (subL_cons (lkv rfl (by first | rfl | simp)) (subL_cons (lkv rfl (by first | rfl | simp)) (subL_nil _)))) ⟨by omega, by omega, by rw [hords, ords_step hlt hlt', lex_of0 (by simpa using c61)]⟩
          ·
            refine cw_exit ?_
            refine qw_then_exit ?_
            refine qw_then_exit ?_
            refine qw_block_exit ?_
            refine qw_seq ?_
            refine cw_seq ?_
            refine cw_seq ?_
            refine cw_region ?_
            refine ow_val rfl rfl (ex_field rfl) ?_
            refine ow_val rfl rfl (ex_load1 rfl (by first | exact ld_own1 0 rfl rfl | exact ld_own1 1 rfl rfl | exact ld_own1 2 rfl rfl | exact ld_own1 3 rfl rfl | exact ld_own1 4 rfl rfl | exact ld_own1 5 rfl rfl | exact ld_own1 6 rfl rfl | exact ld_own1 7 rfl rfl | exact ld_ownG1 0 rfl rfl | exact ld_ownG1 1 rfl rfl | exact ld_imm1 (by assumption))) ?_
            refine ow_val rfl rfl (ex_len (ty := 0) rfl) ?_
            refine ow_val rfl rfl (ex_field rfl) ?_
            refine ow_val rfl rfl (ex_load1 rfl (by first | exact ld_own1 0 rfl rfl | exact ld_own1 1 rfl rfl | exact ld_own1 2 rfl rfl | exact ld_own1 3 rfl rfl | exact ld_own1 4 rfl rfl | exact ld_own1 5 rfl rfl | exact ld_own1 6 rfl rfl | exact ld_own1 7 rfl rfl | exact ld_ownG1 0 rfl rfl | exact ld_ownG1 1 rfl rfl | exact ld_imm1 (by assumption))) ?_
            refine ow_val rfl rfl (ex_len (ty := 0) rfl) ?_
            refine ow_val rfl rfl (ex_lss rfl rfl) ?_
            refine ow_nil ?_
            refine qw_seq ?_
            refine cw_cond rfl (fun c69 => ?_) (fun c69 => ?_)
            ·
              refine cw_seq ?_
              refine cw_region ?_
              refine ow_val rfl rfl (ex_assign rfl) ?_
              refine ow_nil ?_
              refine qw_seq ?_
              refine cw_ret ?_
              refine qw_then_ret ?_
              refine qw_ret1 rfl rfl (fun w' h => ⟨congrArg (fun z => Ending.returned (.int .i64 z)) ?_, h.ag.below⟩)
              simp at c11 c21 c33 c46 c69
              rw [cmpI_0 (by omega), lex_of0 rfl, cmpI_0 (by omega), lex_of0 rfl, lex_of0 c33, hords, ords_short (by omega) (by omega)]
            ·
              refine cw_skip ?_
              refine qw_seq ?_
              refine cw_seq ?_
              refine cw_seq ?_
              refine cw_region ?_
              refine ow_val rfl rfl (ex_field rfl) ?_
              refine ow_val rfl rfl (ex_load1 rfl (by first | exact ld_own1 0 rfl rfl | exact ld_own1 1 rfl rfl | exact ld_own1 2 rfl rfl | exact ld_own1 3 rfl rfl | exact ld_own1 4 rfl rfl | exact ld_own1 5 rfl rfl | exact ld_own1 6 rfl rfl | exact ld_own1 7 rfl rfl | exact ld_ownG1 0 rfl rfl | exact ld_ownG1 1 rfl rfl | exact ld_imm1 (by assumption))) ?_
              refine ow_val rfl rfl (ex_len (ty := 0) rfl) ?_
              refine ow_val rfl rfl (ex_field rfl) ?_
              refine ow_val rfl rfl (ex_load1 rfl (by first | exact ld_own1 0 rfl rfl | exact ld_own1 1 rfl rfl | exact ld_own1 2 rfl rfl | exact ld_own1 3 rfl rfl | exact ld_own1 4 rfl rfl | exact ld_own1 5 rfl rfl | exact ld_own1 6 rfl rfl | exact ld_own1 7 rfl rfl | exact ld_ownG1 0 rfl rfl | exact ld_ownG1 1 rfl rfl | exact ld_imm1 (by assumption))) ?_
              refine ow_val rfl rfl (ex_len (ty := 0) rfl) ?_
              refine ow_val rfl rfl (ex_gtr rfl rfl) ?_
              refine ow_nil ?_
              refine qw_seq ?_
              refine cw_cond rfl (fun c76 => ?_) (fun c76 => ?_)
              ·
                refine cw_seq ?_
                refine cw_region ?_
                refine ow_val rfl rfl (ex_assign rfl) ?_
                refine ow_nil ?_
                refine qw_seq ?_
                refine cw_ret ?_
                refine qw_then_ret ?_
                refine qw_ret1 rfl rfl (fun w' h => ⟨congrArg (fun z => Ending.returned (.int .i64 z)) ?_, h.ag.below⟩)
                simp at c11 c21 c33 c46 c69 c76
                rw [cmpI_0 (by omega), lex_of0 rfl, cmpI_0 (by omega), lex_of0 rfl, lex_of0 c33, hords, ords_long (by omega) (by omega)]
              ·
                refine cw_skip ?_
                refine qw_seq ?_
                refine cw_seq ?_
                refine cw_region ?_
                refine ow_val rfl rfl (ex_assign rfl) ?_
                refine ow_nil ?_
                refine qw_seq ?_
                refine cw_ret ?_
                refine qw_ret1 rfl rfl (fun w' h => ⟨congrArg (fun z => Ending.returned (.int .i64 z)) ?_, h.ag.below⟩)
                simp at c11 c21 c33 c46 c69 c76
                rw [cmpI_0 (by omega), lex_of0 rfl, cmpI_0 (by omega), lex_of0 rfl, lex_of0 c33, hords, ords_end (by omega) (by omega)]

set_option maxHeartbeats 400000 in
theorem rSame (t u : T) {σ : Hp} {ca cb : List Value} {w : World} (hi : Imm σ w) (ha : TermC σ ca t) (hb : TermC σ cb u) : Calls Tryd.prog 24 #[.agg ca.toArray, .agg cb.toArray] w fun e w' => e = .returned (.bool (decide (ord t u = 0))) ∧ Below w.heap.size w w' := by
  have ha0 := ha
  have hb0 := hb
  obtain ⟨dv, kv, rfl, ho, hn, hd, hk⟩ := ha.opn
  obtain ⟨dv', kv', rfl, ho', hn', hd', hk'⟩ := hb.opn
  refine enter (St w (fun _ => False) σ [] []) Tryd.func24 rfl Tryd.ntmps24 rfl (St.start hi) ?_
  refine cw_seq ?_
  refine cw_region ?_
  refine ow_blk rfl rfl (exw_box rfl) ?_; intro b2
  refine ow_blk rfl rfl (exw_box rfl) ?_; intro b3
  refine ow_val rfl rfl (ex_assign rfl) ?_
  refine ow_nil ?_
  refine qw_seq ?_
  refine cw_seq ?_
  refine cw_region ?_
  refine ow_val rfl rfl (ex_loadR rfl (by first | exact ld_ownN 0 rfl rfl | exact ld_ownN 1 rfl rfl | exact ld_ownN 2 rfl rfl | exact ld_ownN 3 rfl rfl | exact ld_ownN 4 rfl rfl | exact ld_ownN 5 rfl rfl | exact ld_ownN 6 rfl rfl | exact ld_ownN 7 rfl rfl | exact ld_ownGN 0 rfl rfl | exact ld_ownGN 1 rfl rfl | exact ld_immT (by assumption) (by assumption))) ?_
  refine ow_val rfl rfl (ex_loadR rfl (by first | exact ld_ownN 0 rfl rfl | exact ld_ownN 1 rfl rfl | exact ld_ownN 2 rfl rfl | exact ld_ownN 3 rfl rfl | exact ld_ownN 4 rfl rfl | exact ld_ownN 5 rfl rfl | exact ld_ownN 6 rfl rfl | exact ld_ownN 7 rfl rfl | exact ld_ownGN 0 rfl rfl | exact ld_ownGN 1 rfl rfl | exact ld_immT (by assumption) (by assumption))) ?_
  refine ow_cv rfl rfl (ex_callf rfl (fun w h => callB ((rOrder t u h.im ha0 hb0)))) ?_
  refine ow_val rfl rfl (ex_eql rfl rfl) ?_
  refine ow_val rfl rfl (ex_assign rfl) ?_
  refine ow_nil ?_
  refine qw_seq ?_
  refine cw_ret ?_
  refine qw_ret1 rfl rfl (fun w' h => ⟨rfl, h.ag.below⟩)

set_option maxHeartbeats 400000 in
theorem rParts : ∀ (t : T) {m : Int} {σ : Hp} {cs : List Value} {w : World}, Imm σ w → TermC σ cs t → 0 ≤ m → m ≤ 1000000 → Calls Tryd.prog 14 #[.agg cs.toArray, .int .i64 m] w fun e w' => e = .returned (.int .i64 (min (size t : Int) (m + 1))) ∧ Below w.heap.size w w' := by
  intro t
  induction t using T.ind with
  | _ o n d ks ih =>
  intro m σ cs w hi ht h0 h1
  obtain ⟨dv, kv, rfl, ho, hn, hd, hk⟩ := ht.opn
  simp only [T.kids, T.op, T.num] at *
  obtain ⟨p, c, rfl, hc, hm⟩ := hk.slice
  simp only [size]
  have hm2 := hm
  unfold maxKids at hm2
  refine enter (St w (fun _ => False) σ [] []) Tryd.func14 rfl Tryd.ntmps14 rfl (St.start hi) ?_
  refine cw_seq ?_
  refine cw_region ?_
  refine ow_blk rfl rfl (exw_box rfl) ?_; intro b2
  refine ow_val rfl rfl (ex_assign rfl) ?_
  refine ow_nil ?_
  refine qw_seq ?_
  refine cw_seq ?_
  refine cw_region ?_
  refine ow_val rfl rfl (ex_assign rfl) ?_
  refine ow_nil ?_
  refine qw_seq ?_
  refine cw_seq ?_
  refine cw_seq ?_
  refine cw_region ?_
  refine ow_val rfl rfl (ex_assign rfl) ?_
  refine ow_nil ?_
  refine qw_seq ?_
  refine cw_block ?_
  refine cw_loopS (α := Nat) (fun i => [(1, .int .i64 m), (2, .pointer (some ⟨b2, 0, none⟩)), (5, .int .i64 (min ((sizes (ks.take i) + 1 : Nat) : Int) (m + 1))), (6, .int .i64 (i : Int))]) (fun i => i ≤ ks.length) (fun i => ks.length - i) 0 (subL_cons rfl (subL_cons rfl (subL_cons (lkv rfl (by simp [sizes]; omega)) (subL_cons rfl (subL_nil _))))) (Nat.zero_le _) ?_
  intro i hle
  refine cw_seq ?_
  refine cw_cut1 16 (.bool (decide ((i : Int) < (ks.length : Int)) && decide (min ((sizes (ks.take i) + 1 : Nat) : Int) (m + 1) ≤ m))) ?_ ?_
  ·
    refine cw_region ?_
    refine ow_val rfl rfl (ex_move rfl) ?_
    refine ow_val rfl rfl (ex_field rfl) ?_
    refine ow_val rfl rfl (ex_load1 rfl (by first | exact ld_own1 0 rfl rfl | exact ld_own1 1 rfl rfl | exact ld_own1 2 rfl rfl | exact ld_own1 3 rfl rfl | exact ld_own1 4 rfl rfl | exact ld_own1 5 rfl rfl | exact ld_own1 6 rfl rfl | exact ld_own1 7 rfl rfl | exact ld_ownG1 0 rfl rfl | exact ld_ownG1 1 rfl rfl | exact ld_imm1 (by assumption))) ?_
    refine ow_val rfl rfl (ex_len (ty := 0) rfl) ?_
    refine ow_val rfl rfl (ex_lss rfl rfl) ?_
    refine ow_val rfl rfl (ex_move rfl) ?_
    refine ow_split (g := some (5, true)) rfl (fun s12 => ?_) (fun s12 => ?_)
    ·
      refine ow_val rfl (gd_go rfl s12) (ex_move rfl) ?_
      refine ow_val rfl (gd_go rfl s12) (ex_move rfl) ?_
      refine ow_val rfl (gd_go rfl s12) (ex_leq rfl rfl) ?_
      refine ow_val rfl rfl (ex_pickt rfl s12 rfl) ?_
      refine ow_nil ?_
      exact qw_meet (subL_meet 10 16 (lkv rfl (by first | rfl | (simp_all; done) | (simp_all <;> omega))) rfl rfl) (fun w h => h)
    ·
      refine ow_skip rfl (gd_no rfl s12) ?_
      refine ow_skip rfl (gd_no rfl s12) ?_
      refine ow_skip rfl (gd_no rfl s12) ?_
      refine ow_val rfl rfl (ex_pickf rfl s12 rfl) ?_
      refine ow_nil ?_
      exact qw_meet (subL_meet 10 16 (lkv rfl (by first | rfl | (simp_all; done) | (simp_all <;> omega))) rfl rfl) (fun w h => h)
  ·
    refine cw_cond rfl (fun c16 => ?_) (fun c16 => ?_)
    ·
      refine cw_skip ?_
      refine qw_seq ?_
      refine cw_seq ?_
      refine cw_block ?_
      have hlt : i < ks.length := by simp at c16; omega
      obtain ⟨bk, f, c', cs, e1, e2, hc1, ht1⟩ := hk.get i hlt
      cases e1
      have hst := sizes_take ks i hlt
      have hle2 : min ((sizes (ks.take i) + 1 : Nat) : Int) (m + 1) ≤ m := by simp only [Bool.and_eq_true, decide_eq_true_eq] at c16; exact c16.2
      refine cw_region ?_
      refine ow_val rfl rfl (ex_move rfl) ?_
      refine ow_val rfl rfl (ex_field rfl) ?_
      refine ow_val rfl rfl (ex_load1 rfl (by first | exact ld_own1 0 rfl rfl | exact ld_own1 1 rfl rfl | exact ld_own1 2 rfl rfl | exact ld_own1 3 rfl rfl | exact ld_own1 4 rfl rfl | exact ld_own1 5 rfl rfl | exact ld_own1 6 rfl rfl | exact ld_own1 7 rfl rfl | exact ld_ownG1 0 rfl rfl | exact ld_ownG1 1 rfl rfl | exact ld_imm1 (by assumption))) ?_
      refine ow_val rfl rfl (ex_move rfl) ?_
      refine ow_val rfl rfl (ex_index_nat rfl rfl (by omega)) ?_
      refine ow_val rfl rfl (ex_loadR rfl (by first | exact ld_ownN 0 rfl rfl | exact ld_ownN 1 rfl rfl | exact ld_ownN 2 rfl rfl | exact ld_ownN 3 rfl rfl | exact ld_ownN 4 rfl rfl | exact ld_ownN 5 rfl rfl | exact ld_ownN 6 rfl rfl | exact ld_ownN 7 rfl rfl | exact ld_ownGN 0 rfl rfl | exact ld_ownGN 1 rfl rfl | exact ld_immT (by assumption) (by assumption))) ?_
      refine ow_val rfl rfl (ex_move rfl) ?_
      refine ow_val rfl rfl (ex_move rfl) ?_
      refine ow_val rfl rfl (ex_subi (z := (m - min ((sizes (ks.take i) + 1 : Nat) : Int) (m + 1))) rfl rfl (by omega) (by omega) (by omega)) ?_
      refine ow_cv rfl rfl (ex_callf rfl (fun w h => callB ((ih _ (List.getElem_mem hlt) h.im ht1 (by omega) (by omega))))) ?_
      refine ow_val rfl rfl (ex_addi (z := (min ((sizes (ks.take (i + 1)) + 1 : Nat) : Int) (m + 1))) rfl rfl (by omega) (by omega) (by omega)) ?_
      refine ow_val rfl rfl (ex_assign rfl) ?_
      refine ow_nil ?_
      refine qw_block_normal ?_
      refine qw_seq ?_
      refine cw_region ?_
      refine ow_val rfl rfl (ex_move rfl) ?_
      refine ow_val rfl rfl (ex_addi (z := ((i + 1 : Nat) : Int)) rfl rfl (by omega) (by omega) (by omega)) ?_
      refine ow_val rfl rfl (ex_assign rfl) ?_
      refine ow_nil ?_
      exact qw_roundS (i + 1) (by omega) (subL_cons (lkv rfl (by first | rfl | simp)) (subL_cons (lkv rfl (by first | rfl | simp)) (subL_cons (lkv rfl (by first | rfl | simp)) (subL_cons (lkv rfl (by first | rfl | simp)) (subL_nil _))))) (by omega)
    ·
      refine cw_exit ?_
      refine qw_then_exit ?_
      refine qw_then_exit ?_
      refine qw_block_exit ?_
      refine qw_seq ?_
      refine cw_seq ?_
      refine cw_region ?_
      refine ow_val rfl rfl (ex_move rfl) ?_
      refine ow_val rfl rfl (ex_assign rfl) ?_
      refine ow_nil ?_
      refine qw_seq ?_
      refine cw_ret ?_
      refine qw_ret1 rfl rfl (fun w' h => ⟨congrArg (fun z => Ending.returned (.int .i64 z)) ?_, h.ag.below⟩)
      have hsl := sizes_take_le ks i
      simp only [Bool.and_eq_false_iff, decide_eq_false_iff_not] at c16
      rcases c16 with c16 | c16
      · have he : i = ks.length := by omega
        rw [he, List.take_length]
      · omega

end Go.Proofs.YtnjomdjkbbhdoaaDoor
