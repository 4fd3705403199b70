/-
  Walks of the library: sorting by insertion.
  No condition.
-/
import Derived.Test.YtnjomdjkbbhdoaaDoorWb3
import Derived.Test.YtnjomdjkbbhdoaaDoorMB
namespace Go.Proofs.YtnjomdjkbbhdoaaDoor
open Go.RowKit
set_option linter.unusedVariables false
set_option linter.unusedSimpArgs false
set_option maxRecDepth 100000

set_option maxHeartbeats 400000 in
theorem pInsertion {g c : Nat} {ts : List T} {xs tl : List Value} {a b : Nat} {σ : Hp} {w : World} (hi : Imm σ w) (hg : w.heap[g]? = some (rowO xs tl 30)) (hd : σ g = none) (hr : RowC σ xs ts) (hm : ts.length ≤ maxKids) (hab : a ≤ b) (hb : b ≤ ts.length) (hc : ts.length ≤ c) :
    Calls Tryd.prog 109 #[.slice (some ⟨g, 0, none⟩) ts.length c, .int .i64 (a : Int), .int .i64 (b : Int), .func (.func 57) #[] #[]] w (GiveM g tl 30 σ (fun us => InR a b us ts ∧ SortedR a b us) w) := by
  have hm2 := hm
  unfold maxKids at hm2
  refine enter (St w (· = g) σ [(g, rowO xs tl 30)] []) Tryd.func109 rfl Tryd.ntmps109 rfl (St.startM hi hg hd) ?_
  refine cw_seq ?_
  refine cw_region ?_
  refine ow_val rfl rfl (ex_move rfl) ?_
  refine ow_val rfl rfl (ex_addi (z := ((a + 1 : Nat) : Int)) rfl rfl (by omega) (by omega) (by omega)) ?_
  refine ow_val rfl rfl (ex_assign rfl) ?_
  refine ow_nil ?_
  refine qw_seq ?_
  refine cw_block ?_
  refine cw_loopH3 (fun (i : Nat) (us : List T) (ys : List Value) => [(0, .slice (some ⟨g, 0, none⟩) ts.length c), (1, .int .i64 (a : Int)), (2, .int .i64 (b : Int)), (3, .func (.func 57) #[] #[]), (8, .int .i64 (i : Int))]) (fun i us ys => a + 1 ≤ i ∧ (i ≤ b ∨ i = a + 1) ∧ InR a b us ts ∧ SortedR a i us ∧ RowC σ ys us) (fun i us ys => σ) (fun i us ys => [(g, rowO ys tl 30)]) (fun i us ys => []) (fun i us ys => b - i) (a + 1) ts xs (subL_cons (lkv rfl (by first | rfl | simp)) (subL_cons (lkv rfl (by first | rfl | simp)) (subL_cons (lkv rfl (by first | rfl | simp)) (subL_cons (lkv rfl (by first | rfl | simp)) (subL_cons (lkv rfl (by first | rfl | simp)) (subL_nil _)))))) ⟨Nat.le_refl _, .inr rfl, InR.refl _ _ _, fun j _ h1 h2 => absurd h2 (by omega), hr⟩ (fun w h => h) ?_
  intro i us ys ⟨hai, hib', hin, hso, hrow⟩
  refine cw_seq ?_
  refine cw_seq ?_
  refine cw_region ?_
  refine ow_val rfl rfl (ex_move rfl) ?_
  refine ow_val rfl rfl (ex_move rfl) ?_
  refine ow_val rfl rfl (ex_lss rfl rfl) ?_
  refine ow_nil ?_
  refine qw_seq ?_
  refine cw_cond rfl (fun c14 => ?_) (fun c14 => ?_)
  ·
    refine cw_skip ?_
    refine qw_seq ?_
    refine cw_seq ?_
    refine cw_block ?_
    refine cw_seq ?_
    have hib : i < b := by simpa using c14
    refine cw_region ?_
    refine ow_val rfl rfl (ex_move rfl) ?_
    refine ow_val rfl rfl (ex_assign rfl) ?_
    refine ow_nil ?_
    refine qw_seq ?_
    refine cw_block ?_
    refine cw_loopH3 (fun (j : Nat) (ui : List T) (yi : List Value) => [(0, .slice (some ⟨g, 0, none⟩) ts.length c), (1, .int .i64 (a : Int)), (2, .int .i64 (b : Int)), (3, .func (.func 57) #[] #[]), (8, .int .i64 (i : Int)), (9, .int .i64 (j : Int))]) (fun j ui yi => a ≤ j ∧ j ≤ i ∧ InR a b ui ts ∧ InsInv a i j ui ∧ RowC σ yi ui) (fun j ui yi => σ) (fun j ui yi => [(g, rowO yi tl 30)]) (fun j ui yi => []) (fun j ui yi => j) i us ys (subL_cons (lkv rfl (by first | rfl | simp)) (subL_cons (lkv rfl (by first | rfl | simp)) (subL_cons (lkv rfl (by first | rfl | simp)) (subL_cons (lkv rfl (by first | rfl | simp)) (subL_cons (lkv rfl (by first | rfl | simp)) (subL_cons (lkv rfl (by first | rfl | simp)) (subL_nil _))))))) ⟨by omega, Nat.le_refl _, hin, InsInv.start hso, hrow⟩ (fun w h => h) ?_
    intro j ui yi ⟨haj, hji, hini, hinv, hri⟩
    have hul := hini.1
    refine cw_seq ?_
    refine cw_cut1 34 (.bool (decide ((a : Int) < (j : Int)) && decide (ord (ui.getD j zeroT) (ui.getD (j - 1) zeroT) < 0))) ?_ ?_
    ·
      refine flow_sound 17 (by kernel_rfl) ?_
      refine flow_val rfl (ex_move rfl) ?_
      refine flow_val rfl (ex_move rfl) ?_
      refine flow_val rfl (ex_gtr rfl rfl) ?_
      refine flow_val rfl (ex_move rfl) ?_
      refine flow_split rfl (fun s21 => ?_) (fun s21 => ?_)
      ·
        have hpos : a < j := by simpa using s21
        obtain ⟨csj, htj, hxj⟩ := hri.at j (by omega)
        obtain ⟨csk, htk, hxk⟩ := hri.at (j - 1) (by omega)
        rw [show ui[j] = ui.getD j zeroT by simp [List.getD_eq_getElem?_getD, show j < ui.length by omega]] at htj
        rw [show ui[j - 1] = ui.getD (j - 1) zeroT by simp [List.getD_eq_getElem?_getD, show j - 1 < ui.length by omega]] at htk
        refine flow_val (gd_go rfl s21) (ex_move rfl) ?_
        refine flow_val (gd_go rfl s21) (ex_move rfl) ?_
        refine flow_val (gd_go rfl s21) (ex_move rfl) ?_
        refine flow_val (gd_go rfl s21) (ex_index_nat rfl rfl (by omega)) ?_
        refine flow_val (gd_go rfl s21) (ex_loadR rfl (ld_rowH 0 rfl htj.len hxj)) ?_
        refine flow_val (gd_go rfl s21) (ex_move rfl) ?_
        refine flow_val (gd_go rfl s21) (ex_move rfl) ?_
        refine flow_val (gd_go rfl s21) (ex_subi (z := ((j - 1 : Nat) : Int)) rfl rfl (by omega) (by omega) (by omega)) ?_
        refine flow_val (gd_go rfl s21) (ex_index_nat rfl rfl (by omega)) ?_
        refine flow_val (gd_go rfl s21) (ex_loadR rfl (ld_rowH 0 rfl htk.len hxk)) ?_
        refine flow_cv (gd_go rfl s21) (ex_call (cs := []) rfl rfl (fun w h => callB ((pOrder _ _ h.im htj htk)))) ?_
        refine flow_val (gd_go rfl s21) (ex_lss rfl rfl) ?_
        refine flow_val rfl (ex_pickt rfl s21 rfl) ?_
        refine flow_nil ?_
        refine fin_is ?_
        refine fin_is ?_
        refine fin_is ?_
        refine fin_is ?_
        refine fin_is ?_
        refine fin_is ?_
        refine fin_is ?_
        refine fin_is ?_
        refine fin_is ?_
        refine fin_is ?_
        refine fin_is ?_
        refine fin_is ?_
        refine fin_is ?_
        refine fin_is ?_
        refine fin_is ?_
        refine fin_is ?_
        refine fin_is ?_
        refine fin_nil ?_
        refine ow_nil ?_
        exact qw_meet (subL_meet 17 34 (lkv rfl (by first | rfl | (simp_all; done) | (simp_all <;> omega))) rfl rfl) (fun w h => h)
      ·
        refine flow_skip (gd_no rfl s21) ?_
        refine flow_skip (gd_no rfl s21) ?_
        refine flow_skip (gd_no rfl s21) ?_
        refine flow_skip (gd_no rfl s21) ?_
        refine flow_skip (gd_no rfl s21) ?_
        refine flow_skip (gd_no rfl s21) ?_
        refine flow_skip (gd_no rfl s21) ?_
        refine flow_skip (gd_no rfl s21) ?_
        refine flow_skip (gd_no rfl s21) ?_
        refine flow_skip (gd_no rfl s21) ?_
        refine flow_skip (gd_no rfl s21) ?_
        refine flow_skip (gd_no rfl s21) ?_
        refine flow_val rfl (ex_pickf rfl s21 rfl) ?_
        refine flow_nil ?_
        refine fin_is ?_
        refine fin_is ?_
        refine fin_is ?_
        refine fin_is ?_
        refine fin_is ?_
        refine fin_is ?_
        refine fin_is ?_
        refine fin_is ?_
        refine fin_is ?_
        refine fin_is ?_
        refine fin_is ?_
        refine fin_is ?_
        refine fin_is ?_
        refine fin_is ?_
        refine fin_is ?_
        refine fin_is ?_
        refine fin_is ?_
        refine fin_nil ?_
        refine ow_nil ?_
        exact qw_meet (subL_meet 17 34 (lkv rfl (by first | rfl | (simp_all; done) | (simp_all <;> omega))) rfl rfl) (fun w h => h)
    ·
      refine cw_cond rfl (fun c34 => ?_) (fun c34 => ?_)
      ·
        refine cw_skip ?_
        refine qw_seq ?_
        refine cw_seq ?_
        refine cw_block ?_
        have hpos : a < j := by simp at c34; omega
        have hlt : ord (ui.getD j zeroT) (ui.getD (j - 1) zeroT) < 0 := by simp only [Bool.and_eq_true, decide_eq_true_eq] at c34; exact c34.2
        obtain ⟨csj, htj, hxj⟩ := hri.at j (by omega)
        obtain ⟨csk, htk, hxk⟩ := hri.at (j - 1) (by omega)
        have hxl := hri.len
        refine flow_sound2 (S' := St w (· = g) σ [(g, rowO (setX yi j csk) tl 30)] []) 15 [2, 3, 4] (by kernel_rfl) ?_
        refine flow_val rfl (ex_move rfl) ?_
        refine flow_val rfl (ex_move rfl) ?_
        refine flow_val rfl (ex_move rfl) ?_
        refine flow_val rfl (ex_move rfl) ?_
        refine flow_val rfl (ex_subi (z := ((j - 1 : Nat) : Int)) rfl rfl (by omega) (by omega) (by omega)) ?_
        refine flow_val rfl (ex_move rfl) ?_
        refine flow_val rfl (ex_move rfl) ?_
        refine flow_val rfl (ex_subi (z := ((j - 1 : Nat) : Int)) rfl rfl (by omega) (by omega) (by omega)) ?_
        refine flow_val rfl (ex_index_nat rfl rfl (by omega)) ?_
        refine flow_val rfl (ex_loadR rfl (ld_rowH 0 rfl htk.len hxk)) ?_
        refine flow_val rfl (ex_move rfl) ?_
        refine flow_val rfl (ex_move rfl) ?_
        refine flow_val rfl (ex_index_nat rfl rfl (by omega)) ?_
        refine flow_val rfl (ex_loadR rfl (ld_rowH 0 rfl htj.len hxj)) ?_
        refine flow_val rfl (ex_index_nat rfl rfl (by omega)) ?_
        refine flow_nil2 (n := 15) rfl rfl (pures_cons rfl rfl (.tail _ (.tail _ (.tail _ (.tail _ (.tail _ (.tail _ (.tail _ (.tail _ (.tail _ (.tail _ (.tail _ (.tail _ (.head _))))))))))))) (obk (ob_val rfl (ex_move rfl))) (pures_cons rfl rfl (.tail _ (.tail _ (.tail _ (.tail _ (.tail _ (.tail _ (.tail _ (.tail _ (.tail _ (.tail _ (.tail _ (.head _)))))))))))) (obk (ob_val rfl (ex_move rfl))) (pures_cons rfl rfl (.tail _ (.tail _ (.tail _ (.tail _ (.tail _ (.tail _ (.tail _ (.tail _ (.tail _ (.tail _ (.head _))))))))))) (obk (ob_val rfl (ex_subi (z := ((j - 1 : Nat) : Int)) rfl rfl (by omega) (by omega) (by omega)))) pures_nil))) ?_ ?_
        ·
          refine finu_is rfl ?_
          refine finu_is rfl ?_
          refine finu_is rfl ?_
          refine finu_is rfl ?_
          refine finu_is rfl ?_
          refine finu_is rfl ?_
          refine finu_is rfl ?_
          refine finu_is rfl ?_
          refine finu_is rfl ?_
          refine finu_is rfl ?_
          refine finu_drop ?_
          refine finu_drop ?_
          refine finu_drop ?_
          refine finu_is rfl ?_
          refine finu_is rfl ?_
          exact finu_nil (exu_storeX 0 rfl rfl rfl htk.len htk.one (by omega))
        ·
          refine fin_is ?_
          refine fin_is ?_
          refine fin_is ?_
          refine fin_is ?_
          refine fin_is ?_
          refine fin_is ?_
          refine fin_is ?_
          refine fin_is ?_
          refine fin_is ?_
          refine fin_is ?_
          refine fin_is ?_
          refine fin_is ?_
          refine fin_is ?_
          refine fin_is ?_
          refine fin_is ?_
          refine fin_nil ?_
          refine ow_val rfl rfl (ex_index_nat rfl rfl (by omega)) ?_
          refine ow_u rfl (exu_storeX 0 rfl rfl rfl htj.len htj.one (by rw [setX_len htk.len (by omega)]; omega)) ?_
          refine ow_nil ?_
          refine qw_block_normal ?_
          refine qw_seq ?_
          refine cw_region ?_
          refine ow_val rfl rfl (ex_move rfl) ?_
          refine ow_val rfl rfl (ex_subi (z := ((j - 1 : Nat) : Int)) rfl rfl (by omega) (by omega) (by omega)) ?_
          refine ow_val rfl rfl (ex_assign rfl) ?_
          refine ow_nil ?_
          refine qw_roundH3 (j - 1) (swapL ui j (j - 1) (by omega) (by omega)) (setX (setX yi j csk) (j - 1) csj) (by omega) (subL_cons (lkv rfl (by first | rfl | simp)) (subL_cons (lkv rfl (by first | rfl | simp)) (subL_cons (lkv rfl (by first | rfl | simp)) (subL_cons (lkv rfl (by first | rfl | simp)) (subL_cons (lkv rfl (by first | rfl | simp)) (subL_cons (lkv rfl (by first | rfl | simp)) (subL_nil _))))))) ⟨by omega, by omega, (swapL_inR (by omega) (by omega) (by omega) (by omega) (by omega) (by omega)).trans hini, InsInv.step (by omega) hpos hji hinv ?_, ?_⟩ (fun w h => h)
          · simpa only [List.getD_eq_getElem?_getD, List.getElem?_eq_getElem (show j < ui.length by omega), List.getElem?_eq_getElem (show j - 1 < ui.length by omega), Option.getD_some] using hlt
          · exact (hri.set j htk (by omega)).set (j - 1) htj (by rw [List.length_set]; omega)
      ·
        refine cw_exit ?_
        refine qw_then_exit ?_
        refine qw_then_exit ?_
        refine qw_block_exit ?_
        refine qw_block_normal ?_
        refine qw_seq ?_
        refine cw_region ?_
        refine ow_val rfl rfl (ex_move rfl) ?_
        refine ow_val rfl rfl (ex_addi (z := ((i + 1 : Nat) : Int)) rfl rfl (by omega) (by omega) (by omega)) ?_
        refine ow_val rfl rfl (ex_assign rfl) ?_
        refine ow_nil ?_
        exact qw_roundH3 (i + 1) ui yi (by omega) (subL_cons (lkv rfl (by first | rfl | simp)) (subL_cons (lkv rfl (by first | rfl | simp)) (subL_cons (lkv rfl (by first | rfl | simp)) (subL_cons (lkv rfl (by first | rfl | simp)) (subL_cons (lkv rfl (by first | rfl | simp)) (subL_nil _)))))) ⟨by omega, by omega, hini, InsInv.fin (by omega) hinv (fun haj => by
          simp only [Bool.and_eq_false_iff, decide_eq_false_iff_not] at c34
          rcases c34 with c34 | c34
          · omega
          · simp only [List.getD_eq_getElem?_getD, List.getElem?_eq_getElem (show j < ui.length by omega), List.getElem?_eq_getElem (show j - 1 < ui.length by omega), Option.getD_some] at c34
            omega), hri⟩ (fun w h => h)
  ·
    refine cw_exit ?_
    refine qw_then_exit ?_
    refine qw_then_exit ?_
    refine qw_block_exit ?_
    refine qw_end0 rfl (fun w' h => h.givesM hrow ⟨hin, fun j h h1 h2 => hso j h h1 ?_⟩)
    simp at c14
    omega
end Go.Proofs.YtnjomdjkbbhdoaaDoor
