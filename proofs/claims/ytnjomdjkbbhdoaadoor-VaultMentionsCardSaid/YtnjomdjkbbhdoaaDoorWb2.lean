/-
  Walks of the program: the order of terms.
  No condition.
-/
import Derived.Test.YtnjomdjkbbhdoaaDoorWa2
import Derived.Test.YtnjomdjkbbhdoaaDoorWb1
namespace Go.Proofs.YtnjomdjkbbhdoaaDoor
open Go.RowKit
set_option linter.unusedVariables false
set_option linter.unusedSimpArgs false
set_option maxRecDepth 100000

set_option maxHeartbeats 400000 in
theorem pCompareFunc {ks ls : List T} (ih : ∀ k, k ∈ ks → ∀ (u : T) {σ : Hp} {ca cb : List Value} {w : World}, Imm σ w → TermC σ ca k → TermC σ cb u → Calls Tryd.prog 57 #[.agg ca.toArray, .agg cb.toArray] w fun e w' => e = .returned (.int .i64 (ord k u)) ∧ Below w.heap.size w w') {σ : Hp} {va vb : Value} {w : World} (hi : Imm σ w) (ha : KidsV σ va ks) (hb : KidsV σ vb ls) : Calls Tryd.prog 78 #[va, vb, .func (.func 57) #[] #[]] w fun e w' => e = .returned (.int .i64 (ords ks ls)) ∧ Below w.heap.size w w' := by
  obtain ⟨p, c, rfl, hc, hm⟩ := ha.slice
  obtain ⟨p', c', rfl, hc', hm'⟩ := hb.slice
  have hm2 := hm
  unfold maxKids at hm2
  have hm2' := hm'
  unfold maxKids at hm2'
  refine enter (St w (fun _ => False) σ [] []) Tryd.func78 rfl Tryd.ntmps78 rfl (St.start hi) ?_
  refine cw_seq ?_
  refine cw_region ?_
  refine ow_val rfl rfl (ex_assign rfl) ?_
  refine ow_nil ?_
  refine qw_seq ?_
  refine cw_seq ?_
  refine cw_seq ?_
  refine cw_region ?_
  refine ow_val rfl rfl (ex_move rfl) ?_
  refine ow_val rfl rfl (ex_len (ty := 0) rfl) ?_
  refine ow_val rfl rfl (ex_move rfl) ?_
  refine ow_nil ?_
  refine qw_seq ?_
  refine cw_block ?_
  refine cw_loopS (α := Nat) (fun i => [(0, .slice p ks.length c), (1, .slice p' ls.length c'), (2, .func (.func 57) #[] #[]), (11, .slice p ks.length c), (12, .int .i64 (ks.length : Int)), (13, .int .i64 (i : Int))]) (fun i => i ≤ ks.length ∧ i ≤ ls.length ∧ ords ks ls = ords (ks.drop i) (ls.drop i)) (fun i => ks.length - i) 0 (subL_cons (lkv rfl (by first | rfl | simp)) (subL_cons (lkv rfl (by first | rfl | simp)) (subL_cons (lkv rfl (by first | rfl | simp)) (subL_cons (lkv rfl (by first | rfl | simp)) (subL_cons (lkv rfl (by first | rfl | simp)) (subL_cons (lkv rfl (by first | rfl | simp)) (subL_nil _))))))) ⟨Nat.zero_le _, Nat.zero_le _, by simp⟩ ?_
  intro i ⟨hle, hle', hords⟩
  refine cw_seq ?_
  refine cw_region ?_
  refine ow_val rfl rfl (ex_lss rfl rfl) ?_
  refine ow_nil ?_
  refine qw_seq ?_
  refine cw_seq ?_
  refine cw_cond rfl (fun c14 => ?_) (fun c14 => ?_)
  ·
    refine cw_skip ?_
    refine qw_seq ?_
    refine cw_seq ?_
    refine cw_block ?_
    refine cw_seq ?_
    have hlt : i < ks.length := by simpa using c14
    obtain ⟨bk, f, ck, cs, e1, e2, hc1, ht1⟩ := ha.get i hlt
    cases e1
    have ht1' := ht1
    obtain ⟨dv1, kv1, rfl, _, _, _, _⟩ := ht1'.opn
    refine cw_region ?_
    refine ow_val rfl rfl (ex_move rfl) ?_
    refine ow_val rfl rfl (ex_index_nat rfl rfl (by omega)) ?_
    refine ow_val rfl rfl (ex_loadR rfl (by first | exact ld_ownN 0 rfl rfl | exact ld_ownN 1 rfl rfl | exact ld_ownN 2 rfl rfl | exact ld_ownN 3 rfl rfl | exact ld_ownN 4 rfl rfl | exact ld_ownN 5 rfl rfl | exact ld_ownN 6 rfl rfl | exact ld_ownN 7 rfl rfl | exact ld_ownGN 0 rfl rfl | exact ld_ownGN 1 rfl rfl | exact ld_immT (by assumption) (by assumption))) ?_
    refine ow_blk rfl rfl exw_alloc ?_; intro b8
    refine ow_val rfl rfl (ex_assign rfl) ?_
    refine ow_u rfl (exu_storeN 0 rfl rfl rfl rfl ht1.one rfl) ?_
    refine ow_nil ?_
    refine qw_seq ?_
    refine cw_seq ?_
    refine cw_seq ?_
    refine cw_region ?_
    refine ow_val rfl rfl (ex_move rfl) ?_
    refine ow_val rfl rfl (ex_move rfl) ?_
    refine ow_val rfl rfl (ex_len (ty := 0) rfl) ?_
    refine ow_val rfl rfl (ex_geq rfl rfl) ?_
    refine ow_nil ?_
    refine qw_seq ?_
    refine cw_cond rfl (fun c21 => ?_) (fun c21 => ?_)
    ·
      refine cw_seq ?_
      refine cw_region ?_
      refine ow_val rfl rfl (ex_assign rfl) ?_
      refine ow_nil ?_
      refine qw_seq ?_
      refine cw_ret ?_
      refine qw_then_ret ?_
      refine qw_block_ret ?_
      refine qw_then_ret ?_
      refine qw_then_ret ?_
      refine qw_block_ret ?_
      refine qw_then_ret ?_
      refine qw_ret1 rfl rfl (fun w' h => ⟨congrArg (fun z => Ending.returned (.int .i64 z)) ?_, h.ag.below⟩)
      simp at c21
      rw [hords, ords_long hlt (by omega)]
    ·
      refine cw_skip ?_
      refine qw_seq ?_
      refine cw_seq ?_
      have hlt' : i < ls.length := by simp at c21; omega
      obtain ⟨bk2, f2, ck2, cs2, e1', e2', hc2, ht2⟩ := hb.get i hlt'
      cases e1'
      have ht2' := ht2
      obtain ⟨dv2, kv2, rfl, _, _, _, _⟩ := ht2'.opn
      refine cw_region ?_
      refine ow_val rfl rfl (ex_move rfl) ?_
      refine ow_val rfl rfl (ex_move rfl) ?_
      refine ow_val rfl rfl (ex_index_nat rfl rfl (by omega)) ?_
      refine ow_val rfl rfl (ex_loadR rfl (by first | exact ld_ownN 0 rfl rfl | exact ld_ownN 1 rfl rfl | exact ld_ownN 2 rfl rfl | exact ld_ownN 3 rfl rfl | exact ld_ownN 4 rfl rfl | exact ld_ownN 5 rfl rfl | exact ld_ownN 6 rfl rfl | exact ld_ownN 7 rfl rfl | exact ld_ownGN 0 rfl rfl | exact ld_ownGN 1 rfl rfl | exact ld_immT (by assumption) (by assumption))) ?_
      refine ow_blk rfl rfl exw_alloc ?_; intro b9
      refine ow_u rfl (exu_storeN 0 rfl rfl rfl rfl ht2.one rfl) ?_
      refine ow_nil ?_
      refine qw_seq ?_
      refine cw_seq ?_
      refine cw_region ?_
      refine ow_val rfl rfl (ex_move rfl) ?_
      refine ow_val rfl rfl (ex_loadR rfl (by first | exact ld_ownN 0 rfl rfl | exact ld_ownN 1 rfl rfl | exact ld_ownN 2 rfl rfl | exact ld_ownN 3 rfl rfl | exact ld_ownN 4 rfl rfl | exact ld_ownN 5 rfl rfl | exact ld_ownN 6 rfl rfl | exact ld_ownN 7 rfl rfl | exact ld_ownGN 0 rfl rfl | exact ld_ownGN 1 rfl rfl | exact ld_immT (by assumption) (by assumption))) ?_
      refine ow_val rfl rfl (ex_loadR rfl (by first | exact ld_ownN 0 rfl rfl | exact ld_ownN 1 rfl rfl | exact ld_ownN 2 rfl rfl | exact ld_ownN 3 rfl rfl | exact ld_ownN 4 rfl rfl | exact ld_ownN 5 rfl rfl | exact ld_ownN 6 rfl rfl | exact ld_ownN 7 rfl rfl | exact ld_ownGN 0 rfl rfl | exact ld_ownGN 1 rfl rfl | exact ld_immT (by assumption) (by assumption))) ?_
      refine ow_cv rfl rfl (ex_call (cs := []) rfl rfl (fun w h => callB ((ih _ (List.getElem_mem hlt) _ h.im ht1 ht2)))) ?_
      refine ow_val rfl rfl (ex_assign rfl) ?_
      refine ow_nil ?_
      refine qw_seq ?_
      refine cw_seq ?_
      refine cw_region ?_
      refine ow_val rfl rfl (ex_move rfl) ?_
      refine ow_val rfl rfl (ex_neq rfl rfl) ?_
      refine ow_nil ?_
      refine qw_seq ?_
      refine cw_cond rfl (fun c31 => ?_) (fun c31 => ?_)
      ·
        refine cw_seq ?_
        refine cw_region ?_
        refine ow_val rfl rfl (ex_move rfl) ?_
        refine ow_val rfl rfl (ex_assign rfl) ?_
        refine ow_nil ?_
        refine qw_seq ?_
        refine cw_ret ?_
        refine qw_block_ret ?_
        refine qw_then_ret ?_
        refine qw_then_ret ?_
        refine qw_block_ret ?_
        refine qw_then_ret ?_
        refine qw_ret1 rfl rfl (fun w' h => ⟨congrArg (fun z => Ending.returned (.int .i64 z)) ?_, h.ag.below⟩)
        simp at c31
        rw [hords, ords_step hlt hlt', lex_ne c31]
      ·
        refine cw_skip ?_
        refine qw_block_normal ?_
        refine qw_seq ?_
        refine cw_region ?_
        refine ow_val rfl rfl (ex_addi (z := ((i + 1 : Nat) : Int)) rfl rfl (by omega) (by omega) (by omega)) ?_
        refine ow_val rfl rfl (ex_move rfl) ?_
        refine ow_nil ?_
        exact qw_roundS (i + 1) (by omega) (subL_cons (lkv rfl (by first | rfl | simp)) (subL_cons (lkv rfl (by first | rfl | simp)) (subL_cons (lkv rfl (by first | rfl | simp)) (subL_cons (lkv rfl (by first | rfl | simp)) (subL_cons (lkv rfl (by first | rfl | simp)) (subL_cons (lkv rfl (by first | rfl | simp)) (subL_nil _))))))) ⟨by omega, by omega, by rw [hords, ords_step hlt hlt', lex_of0 (by simpa using c31)]⟩ (fun w h => h.drop ((List.sublist_cons_self _ _).trans (List.sublist_cons_self _ _)))
  ·
    refine cw_exit ?_
    refine qw_then_exit ?_
    refine qw_then_exit ?_
    refine qw_block_exit ?_
    refine qw_seq ?_
    refine cw_seq ?_
    refine cw_seq ?_
    refine cw_region ?_
    refine ow_val rfl rfl (ex_move rfl) ?_
    refine ow_val rfl rfl (ex_len (ty := 0) rfl) ?_
    refine ow_val rfl rfl (ex_move rfl) ?_
    refine ow_val rfl rfl (ex_len (ty := 0) rfl) ?_
    refine ow_val rfl rfl (ex_lss rfl rfl) ?_
    refine ow_nil ?_
    refine qw_seq ?_
    refine cw_cond rfl (fun c38 => ?_) (fun c38 => ?_)
    ·
      refine cw_seq ?_
      refine cw_region ?_
      refine ow_val rfl rfl (ex_assign rfl) ?_
      refine ow_nil ?_
      refine qw_seq ?_
      refine cw_ret ?_
      refine qw_then_ret ?_
      refine qw_ret1 rfl rfl (fun w' h => ⟨congrArg (fun z => Ending.returned (.int .i64 z)) ?_, h.ag.below⟩)
      simp at c14 c38
      rw [hords, ords_short (by omega) (by omega)]
    ·
      refine cw_skip ?_
      refine qw_seq ?_
      refine cw_seq ?_
      refine cw_region ?_
      refine ow_val rfl rfl (ex_assign rfl) ?_
      refine ow_nil ?_
      refine qw_seq ?_
      refine cw_ret ?_
      refine qw_ret1 rfl rfl (fun w' h => ⟨congrArg (fun z => Ending.returned (.int .i64 z)) ?_, h.ag.below⟩)
      simp at c14 c38
      rw [hords, ords_end (by omega) (by omega)]

set_option maxHeartbeats 400000 in
theorem pOrder : ∀ (t u : T) {σ : Hp} {ca cb : List Value} {w : World}, Imm σ w → TermC σ ca t → TermC σ cb u → Calls Tryd.prog 57 #[.agg ca.toArray, .agg cb.toArray] w fun e w' => e = .returned (.int .i64 (ord t u)) ∧ Below w.heap.size w w' := by
  intro t
  induction t using T.ind with
  | _ o n d ks ih =>
  intro u
  obtain ⟨o', n', d', ks'⟩ := u
  intro σ ca cb w hi ha hb
  obtain ⟨dv, kv, rfl, ho, hn, hd, hk⟩ := ha.opn
  obtain ⟨dv', kv', rfl, ho', hn', hd', hk'⟩ := hb.opn
  obtain ⟨p, c, rfl, hc, hm⟩ := hk.slice
  obtain ⟨p', c', rfl, hc', hm'⟩ := hk'.slice
  simp only [T.kids, T.op, T.num, T.data] at *
  rw [ord_mk]
  simp only [T.kids, T.op, T.num, T.data]
  refine enter (St w (fun _ => False) σ [] []) Tryd.func57 rfl Tryd.ntmps57 rfl (St.start hi) ?_
  refine cw_seq ?_
  refine cw_region ?_
  refine ow_blk rfl rfl (exw_box rfl) ?_; intro b2
  refine ow_blk rfl rfl (exw_box rfl) ?_; intro b3
  refine ow_val rfl rfl (ex_assign rfl) ?_
  refine ow_nil ?_
  refine qw_seq ?_
  refine cw_seq ?_
  refine cw_seq ?_
  refine flow_sound 18 (by kernel_rfl) ?_
  refine flow_val rfl (ex_field rfl) ?_
  refine flow_val rfl (ex_load1 rfl (by first | exact ld_own1 0 rfl rfl | exact ld_own1 1 rfl rfl | exact ld_own1 2 rfl rfl | exact ld_own1 3 rfl rfl | exact ld_own1 4 rfl rfl | exact ld_own1 5 rfl rfl | exact ld_own1 6 rfl rfl | exact ld_own1 7 rfl rfl | exact ld_ownG1 0 rfl rfl | exact ld_ownG1 1 rfl rfl | exact ld_imm1 (by assumption))) ?_
  refine flow_val rfl (ex_field rfl) ?_
  refine flow_val rfl (ex_load1 rfl (by first | exact ld_own1 0 rfl rfl | exact ld_own1 1 rfl rfl | exact ld_own1 2 rfl rfl | exact ld_own1 3 rfl rfl | exact ld_own1 4 rfl rfl | exact ld_own1 5 rfl rfl | exact ld_own1 6 rfl rfl | exact ld_own1 7 rfl rfl | exact ld_ownG1 0 rfl rfl | exact ld_ownG1 1 rfl rfl | exact ld_imm1 (by assumption))) ?_
  refine flow_cv rfl (ex_callf rfl (fun w h => callB ((pComp22)))) ?_
  refine flow_val rfl (ex_field rfl) ?_
  refine flow_val rfl (ex_load1 rfl (by first | exact ld_own1 0 rfl rfl | exact ld_own1 1 rfl rfl | exact ld_own1 2 rfl rfl | exact ld_own1 3 rfl rfl | exact ld_own1 4 rfl rfl | exact ld_own1 5 rfl rfl | exact ld_own1 6 rfl rfl | exact ld_own1 7 rfl rfl | exact ld_ownG1 0 rfl rfl | exact ld_ownG1 1 rfl rfl | exact ld_imm1 (by assumption))) ?_
  refine flow_val rfl (ex_field rfl) ?_
  refine flow_val rfl (ex_load1 rfl (by first | exact ld_own1 0 rfl rfl | exact ld_own1 1 rfl rfl | exact ld_own1 2 rfl rfl | exact ld_own1 3 rfl rfl | exact ld_own1 4 rfl rfl | exact ld_own1 5 rfl rfl | exact ld_own1 6 rfl rfl | exact ld_own1 7 rfl rfl | exact ld_ownG1 0 rfl rfl | exact ld_ownG1 1 rfl rfl | exact ld_imm1 (by assumption))) ?_
  refine flow_cv rfl (ex_callf rfl (fun w h => callB ((pComp2)))) ?_
  refine flow_val rfl (ex_field rfl) ?_
  refine flow_val rfl (ex_load1 rfl (by first | exact ld_own1 0 rfl rfl | exact ld_own1 1 rfl rfl | exact ld_own1 2 rfl rfl | exact ld_own1 3 rfl rfl | exact ld_own1 4 rfl rfl | exact ld_own1 5 rfl rfl | exact ld_own1 6 rfl rfl | exact ld_own1 7 rfl rfl | exact ld_ownG1 0 rfl rfl | exact ld_ownG1 1 rfl rfl | exact ld_imm1 (by assumption))) ?_
  refine flow_val rfl (ex_field rfl) ?_
  refine flow_val rfl (ex_load1 rfl (by first | exact ld_own1 0 rfl rfl | exact ld_own1 1 rfl rfl | exact ld_own1 2 rfl rfl | exact ld_own1 3 rfl rfl | exact ld_own1 4 rfl rfl | exact ld_own1 5 rfl rfl | exact ld_own1 6 rfl rfl | exact ld_own1 7 rfl rfl | exact ld_ownG1 0 rfl rfl | exact ld_ownG1 1 rfl rfl | exact ld_imm1 (by assumption))) ?_
  refine flow_cv rfl (ex_callf rfl (fun w h => callB ((pBytes h.im hd hd')))) ?_
  refine flow_sat (q := QR (RepCells 3 (intsV [cmpI o o', cmpI n n', cmpB d d'])) σ w ([(b3, .cells (Value.agg #[.int .i64 o', .int .i64 n', dv', .slice p' ks'.length c']).cells 30), (b2, .cells (Value.agg #[.int .i64 o, .int .i64 n, dv, .slice p ks.length c]).cells 30)] ++ [])) QR.pers (obk (ob_lit3 rfl rfl rfl rfl rfl rfl rfl)) ?_
  refine flow_is (v := .int .i64 (firstNZ [cmpI o o', cmpI n n', cmpB d d'])) (obk_sat 21 rfl (fun v21 => ob_open (fun τ' hl' hf' hr' => ?_))) ?_
  · obtain ⟨bo, rfl, hco⟩ := hr'
    exact ob_cv rfl (ex_callf rfl (fun w h => callB (pOr (zs := [cmpI o o', cmpI n n', cmpB d d']) h.im hco (by simp))))
  refine flow_val rfl (ex_assign rfl) ?_
  refine flow_nil ?_
  refine fin_is ?_
  refine fin_is ?_
  refine fin_drop ?_
  refine fin_is ?_
  refine fin_is ?_
  refine fin_is ?_
  refine fin_is ?_
  refine fin_is ?_
  refine fin_is ?_
  refine fin_is ?_
  refine fin_is ?_
  refine fin_is ?_
  refine fin_is ?_
  refine fin_is ?_
  refine fin_is ?_
  refine fin_is ?_
  refine fin_is ?_
  refine fin_is ?_
  refine fin_nil ?_
  refine ow_nil ?_
  refine qw_seq ?_
  refine cw_seq ?_
  refine cw_region ?_
  refine ow_val rfl rfl (ex_move rfl) ?_
  refine ow_val rfl rfl (ex_neq rfl rfl) ?_
  refine ow_nil ?_
  refine qw_seq ?_
  refine cw_cond rfl (fun c24 => ?_) (fun c24 => ?_)
  ·
    refine cw_seq ?_
    refine cw_region ?_
    refine ow_val rfl rfl (ex_move rfl) ?_
    refine ow_val rfl rfl (ex_assign rfl) ?_
    refine ow_nil ?_
    refine qw_seq ?_
    refine cw_ret ?_
    refine qw_then_ret ?_
    refine qw_ret1 rfl rfl (fun w' h => ⟨congrArg (fun z => Ending.returned (.int .i64 z)) ?_, h.ag.below⟩)
    simp at c24
    rw [firstNZ3, lex_ne c24]
  ·
    refine cw_skip ?_
    refine qw_seq ?_
    refine cw_seq ?_
    refine cw_region ?_
    refine ow_val rfl rfl (ex_field rfl) ?_
    refine ow_val rfl rfl (ex_load1 rfl (by first | exact ld_own1 0 rfl rfl | exact ld_own1 1 rfl rfl | exact ld_own1 2 rfl rfl | exact ld_own1 3 rfl rfl | exact ld_own1 4 rfl rfl | exact ld_own1 5 rfl rfl | exact ld_own1 6 rfl rfl | exact ld_own1 7 rfl rfl | exact ld_ownG1 0 rfl rfl | exact ld_ownG1 1 rfl rfl | exact ld_imm1 (by assumption))) ?_
    refine ow_val rfl rfl (ex_field rfl) ?_
    refine ow_val rfl rfl (ex_load1 rfl (by first | exact ld_own1 0 rfl rfl | exact ld_own1 1 rfl rfl | exact ld_own1 2 rfl rfl | exact ld_own1 3 rfl rfl | exact ld_own1 4 rfl rfl | exact ld_own1 5 rfl rfl | exact ld_own1 6 rfl rfl | exact ld_own1 7 rfl rfl | exact ld_ownG1 0 rfl rfl | exact ld_ownG1 1 rfl rfl | exact ld_imm1 (by assumption))) ?_
    refine ow_cv rfl rfl (ex_callf rfl (fun w h => callB ((pCompareFunc ih h.im hk hk')))) ?_
    refine ow_val rfl rfl (ex_assign rfl) ?_
    refine ow_nil ?_
    refine qw_seq ?_
    refine cw_ret ?_
    refine qw_ret1 rfl rfl (fun w' h => ⟨congrArg (fun z => Ending.returned (.int .i64 z)) ?_, h.ag.below⟩)
    simp at c24
    rw [firstNZ3, lex_of0 c24]
end Go.Proofs.YtnjomdjkbbhdoaaDoor
