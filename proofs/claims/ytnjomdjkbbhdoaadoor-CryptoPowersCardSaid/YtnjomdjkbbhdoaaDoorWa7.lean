/-
  Walks of the statements: a term on its own.
  No condition.
-/
import Derived.Test.YtnjomdjkbbhdoaaDoorWa6
namespace Go.Proofs.YtnjomdjkbbhdoaaDoor
open Go.RowKit
set_option linter.unusedVariables false
set_option linter.unusedSimpArgs false
set_option maxRecDepth 100000

set_option maxHeartbeats 400000 in
theorem rCopied : ∀ (t : T) {σ : Hp} {cs : List Value} {w : World}, Imm σ w → TermC σ cs t → Calls Tryd.prog 19 #[.agg cs.toArray] w (GiveR (RepT t) σ w) := by
  intro t
  induction t using T.ind with
  | _ o n d ks ih =>
  intro σ cs w hi ht
  obtain ⟨dv, kv, rfl, ho, hn, hd, hk⟩ := ht.opn
  simp only [T.kids, T.op, T.num, T.data] at *
  obtain ⟨p, c, rfl, hc, hm⟩ := hk.slice
  obtain ⟨pd, cd, rfl, hcd, hmd, hsrc⟩ := hd.row
  have hm2 := hm
  unfold maxKids at hm2
  have hmd2 := hmd
  unfold maxData at hmd2
  have hml : (140737488355328 : Nat) ≤ maxLen := by unfold maxLen; omega
  refine enter (St w (fun _ => False) σ [] []) Tryd.func19 rfl Tryd.ntmps19 rfl (St.start hi) ?_
  refine cw_seq ?_
  refine cw_region ?_
  refine ow_blk rfl rfl (exw_box rfl) ?_; intro b1
  refine ow_blk rfl rfl exw_alloc ?_; intro b2
  refine ow_nil ?_
  refine qw_seq ?_
  refine cw_seq ?_
  refine cw_region ?_
  refine ow_val rfl rfl (ex_field rfl) ?_
  refine ow_val rfl rfl (ex_load1 rfl (by first | exact ld_own1 0 rfl rfl | exact ld_own1 1 rfl rfl | exact ld_own1 2 rfl rfl | exact ld_own1 3 rfl rfl | exact ld_own1 4 rfl rfl | exact ld_own1 5 rfl rfl | exact ld_own1 6 rfl rfl | exact ld_own1 7 rfl rfl | exact ld_ownG1 0 rfl rfl | exact ld_ownG1 1 rfl rfl | exact ld_imm1 (by assumption))) ?_
  refine ow_val rfl rfl (ex_assign rfl) ?_
  refine ow_nil ?_
  refine qw_seq ?_
  refine cw_seq ?_
  refine cw_region ?_
  refine ow_slit rfl rfl exw_slit0 ?_; intro b7
  refine ow_mono (fun w h => h.toG) ?_
  refine ow_val rfl rfl (ex_field rfl) ?_
  refine ow_val rfl rfl (ex_load1 rfl (by first | exact ld_own1 0 rfl rfl | exact ld_own1 1 rfl rfl | exact ld_own1 2 rfl rfl | exact ld_own1 3 rfl rfl | exact ld_own1 4 rfl rfl | exact ld_own1 5 rfl rfl | exact ld_own1 6 rfl rfl | exact ld_own1 7 rfl rfl | exact ld_ownG1 0 rfl rfl | exact ld_ownG1 1 rfl rfl | exact ld_imm1 (by assumption))) ?_
  refine ow_app1 rfl rfl (exw_append1 (news := d.map byteV) rfl rfl (OwnSl.lit0 5 1 b7) (by simp) (hsrc.imp id fun ⟨b, f, hp, hca⟩ => ⟨b, f, hp, fun w h => hca.range h.im⟩) (bytes_one d) (by omega) (by omega)) (fun v10 G10 hO10 hz10 => ?_)
  refine ow_frzB (fun _ h => h) hO10 (by simp) hmd (fun σ1 hl1 hf1 hb10 => ?_)
  refine ow_val rfl rfl (ex_field rfl) ?_
  refine ow_u rfl (exu_store1 1 rfl rfl rfl hb10.cell.1 hb10.cell.2 rfl) ?_
  refine ow_nil ?_
  refine qw_seq ?_
  refine cw_seq ?_
  refine cw_region ?_
  refine ow_val rfl rfl (ex_field rfl) ?_
  refine ow_u rfl (exu_store1 1 rfl rfl rfl rfl rfl rfl) ?_
  refine ow_nil ?_
  refine qw_seq ?_
  refine cw_seq ?_
  refine cw_seq ?_
  refine cw_region ?_
  refine ow_val rfl rfl (ex_assign rfl) ?_
  refine ow_nil ?_
  refine qw_seq ?_
  refine cw_block ?_
  refine cw_loopH5 (fun (i : Nat) (τ : Hp) (v : Value) (xs : List Value) (G : List (Nat × Obj)) => [(1, .pointer (some ⟨b1, 0, none⟩)), (2, .pointer (some ⟨b2, 0, none⟩)), (3, .slice p ks.length c), (4, .int .i64 (i : Int))]) (fun i τ v xs G => i ≤ ks.length ∧ Le σ1 τ ∧ Fresh σ1 τ w ∧ RowC τ xs (ks.take i) ∧ OwnSl 30 4 v i xs G) (fun i τ v xs G => τ) (fun i τ v xs G => [(b2, .cells (Value.agg #[.int .i64 0, .int .i64 0, .slice none 0 0, .slice none 0 0]).cells 30), (b1, .cells #[.int .i64 o, .int .i64 n, v10, v] 30)]) (fun i τ v xs G => G) (fun i τ v xs G => ks.length - i) 0 σ1 (.slice none 0 0) [] [] (subL_cons (lkv rfl (by first | rfl | simp)) (subL_cons (lkv rfl (by first | rfl | simp)) (subL_cons (lkv rfl (by first | rfl | simp)) (subL_cons (lkv rfl (by first | rfl | simp)) (subL_nil _))))) ⟨Nat.zero_le _, Le.refl _, Fresh.refl _ _, rfl, OwnSl.nil _ _⟩ (fun w h => h) ?_
  intro i τ v xs G ⟨hle, hl, hf, hrow, hO⟩
  refine cw_seq ?_
  refine cw_seq ?_
  refine cw_region ?_
  refine ow_val rfl rfl (ex_move rfl) ?_
  refine ow_val rfl rfl (ex_move rfl) ?_
  refine ow_val rfl rfl (ex_len (ty := 0) rfl) ?_
  refine ow_val rfl rfl (ex_lss rfl rfl) ?_
  refine ow_nil ?_
  refine qw_seq ?_
  refine cw_cond rfl (fun c16 => ?_) (fun c16 => ?_)
  ·
    refine cw_skip ?_
    refine qw_seq ?_
    refine cw_seq ?_
    refine cw_block ?_
    have hlt : i < ks.length := by simpa using c16
    obtain ⟨bk, f, ck, cs, e1, e2, hc1, ht1⟩ := (hk.le (hl1.trans hl)).get i hlt
    cases e1
    refine flow_sound 8 (by kernel_rfl) ?_
    refine flow_val rfl (ex_field rfl) ?_
    refine flow_val rfl (ex_load1 rfl (by first | exact ld_own1 0 rfl rfl | exact ld_own1 1 rfl rfl | exact ld_own1 2 rfl rfl | exact ld_own1 3 rfl rfl | exact ld_own1 4 rfl rfl | exact ld_own1 5 rfl rfl | exact ld_own1 6 rfl rfl | exact ld_own1 7 rfl rfl | exact ld_ownG1 0 rfl rfl | exact ld_ownG1 1 rfl rfl | exact ld_imm1 (by assumption))) ?_
    refine flow_val rfl (ex_move rfl) ?_
    refine flow_val rfl (ex_move rfl) ?_
    refine flow_val rfl (ex_index_nat rfl rfl (by omega)) ?_
    refine flow_val rfl (ex_loadR rfl (by first | exact ld_ownN 0 rfl rfl | exact ld_ownN 1 rfl rfl | exact ld_ownN 2 rfl rfl | exact ld_ownN 3 rfl rfl | exact ld_ownN 4 rfl rfl | exact ld_ownN 5 rfl rfl | exact ld_ownN 6 rfl rfl | exact ld_ownN 7 rfl rfl | exact ld_ownGN 0 rfl rfl | exact ld_ownGN 1 rfl rfl | exact ld_immT (by assumption) (by assumption))) ?_
    refine flow_cr rfl (ex_callf rfl (fun w h => callR (ih _ (List.getElem_mem hlt) h.im ht1))) ?_
    refine flow_sat (q := QR (RepOne (ks[i]'hlt)) τ w ([(b2, .cells (Value.agg #[.int .i64 0, .int .i64 0, .slice none 0 0, .slice none 0 0]).cells 30), (b1, .cells #[.int .i64 o, .int .i64 n, v10, v] 30)] ++ G)) QR.pers (obk_sat 25 rfl (fun v25 => ob_open (fun τ' hl' hf' hr' => ?_))) ?_
    · obtain ⟨co, rfl, hco⟩ := hr'
      exact ob_up hl' hf' (ob_one rfl rfl hco)
    refine flow_nil ?_
    refine fin_satR (Le.refl _) (fun v26 τ2 hl2 hf2 hr26 => ?_)
    refine fin_drop ?_
    refine fin_is ?_
    refine fin_is ?_
    refine fin_is ?_
    refine fin_is ?_
    refine fin_is ?_
    refine fin_is ?_
    refine fin_nil ?_
    obtain ⟨bo, co, rfl, hco, htco⟩ := hr26
    refine ow_app1 rfl rfl (exw_append1 (news := co) rfl rfl hO (by rw [htco.len]) (.inr ⟨_, _, rfl, fun w h => hco.range h.im⟩) htco.one (by omega) (by omega)) (fun v27 G27 hO27 hz27 => ?_)
    refine ow_val rfl rfl (ex_field rfl) ?_
    refine ow_u rfl (exu_store1 1 rfl rfl rfl hO27.cell.1 hO27.cell.2 rfl) ?_
    refine ow_nil ?_
    refine qw_block_normal ?_
    refine qw_seq ?_
    refine cw_region ?_
    refine ow_val rfl rfl (ex_move rfl) ?_
    refine ow_val rfl rfl (ex_addi (z := ((i + 1 : Nat) : Int)) rfl rfl (by omega) (by omega) (by omega)) ?_
    refine ow_val rfl rfl (ex_assign rfl) ?_
    refine ow_nil ?_
    exact qw_roundH5 (i + 1) τ2 v27 _ G27 (by omega) (subL_cons (lkv rfl (by first | rfl | simp)) (subL_cons (lkv rfl (by first | rfl | simp)) (subL_cons (lkv rfl (by first | rfl | simp)) (subL_cons (lkv rfl (by first | rfl | simp)) (subL_nil _))))) ⟨by omega, hl.trans hl2, hf.trans hf2, by rw [List.take_succ_eq_append_getElem hlt]; exact (hrow.le hl2).append (RowC.one htco), hO27⟩ (fun w h => h)
  ·
    refine cw_exit ?_
    refine qw_then_exit ?_
    refine qw_then_exit ?_
    refine qw_block_exit ?_
    refine qw_seq ?_
    refine cw_seq ?_
    refine cw_region ?_
    refine ow_val rfl rfl (ex_loadR rfl (by first | exact ld_ownN 0 rfl rfl | exact ld_ownN 1 rfl rfl | exact ld_ownN 2 rfl rfl | exact ld_ownN 3 rfl rfl | exact ld_ownN 4 rfl rfl | exact ld_ownN 5 rfl rfl | exact ld_ownN 6 rfl rfl | exact ld_ownN 7 rfl rfl | exact ld_ownGN 0 rfl rfl | exact ld_ownGN 1 rfl rfl | exact ld_immT (by assumption) (by assumption))) ?_
    refine ow_u rfl (exu_storeN 0 rfl rfl rfl rfl (four_one hb10.cell.2 hO.cell.2) rfl) ?_
    refine ow_nil ?_
    refine qw_seq ?_
    refine cw_ret ?_
    refine qw_retC rfl rfl (ld_ownN 0 rfl rfl) (fun w' h => ?_)
    have he : i = ks.length := by simp at c16; omega
    rw [he, List.take_length] at hrow
    obtain ⟨σ', h1, h2, h3, h4⟩ := freezeG (Gr := []) (by simpa using h) (fun _ h => h) hO hrow hm
    refine h2.gives ((hl1.trans hl).trans h1) ((hf1.trans hf).trans h4) ⟨_, rfl, ?_⟩
    exact TermC.mk ho hn (hb10.le (hl.trans h1)) h3
end Go.Proofs.YtnjomdjkbbhdoaaDoor
