/-
  Walks of the library: two ordered stretches made one; the one or the other of one term.
  No condition.
-/
import Derived.Test.YtnjomdjkbbhdoaaWc1
namespace Go.Proofs.Ytnjomdjkbbhdoaa
open Go.RowKit
set_option linter.unusedVariables false
set_option linter.unusedSimpArgs false
set_option maxRecDepth 100000

set_option maxHeartbeats 400000 in
theorem pMerge1 {g c : Nat} {ts : List T} {xs tl : List Value} {a m b : Nat} {σ : Hp} {w : World} (hi : Imm σ w) (hg : w.heap[g]? = some (rowO xs tl 26)) (hd : σ g = none) (hr : RowC σ xs ts) (hm : ts.length ≤ maxKids) (hc : ts.length ≤ c) (ham : a < m) (hmb : m < b) (hb : b ≤ ts.length) (hs1 : SortedR a m ts) (hs2 : SortedR m b ts) (h1 : m = a + 1) :
    Calls Try.prog 50 #[.slice (some ⟨g, 0, none⟩) ts.length c, .int .i64 (a : Int), .int .i64 (m : Int), .int .i64 (b : Int), .func (.func 17) #[] #[]] w (GiveM g tl 26 σ (fun us => InR a b us ts ∧ SortedR a b us) w) := by
  have hm2 := hm
  unfold maxKids at hm2
  have hf1 := (sortedF_iff (by omega)).1 hs1
  have hf2 := (sortedF_iff hb).1 hs2
  have hxl := hr.len
  obtain ⟨csa, hta, hxa⟩ := hr.at a (by omega)
  refine enter (St w (· = g) σ [(g, rowO xs tl 26)] []) Try.func50 rfl Try.ntmps50 rfl (St.startM hi hg hd) ?_
  refine cw_seq ?_
  refine cw_seq ?_
  refine cw_region ?_
  refine ow_val rfl rfl (ex_move rfl) ?_
  refine ow_val rfl rfl (ex_move rfl) ?_
  refine ow_val rfl rfl (ex_subi (z := ((m - a : Nat) : Int)) rfl rfl (by omega) (by omega) (by omega)) ?_
  refine ow_val rfl rfl (ex_eql rfl rfl) ?_
  refine ow_nil ?_
  refine qw_seq ?_
  refine cw_cond rfl (fun c28 => ?_) (fun c28 => ?_)
  ·
    refine cw_seq ?_
    refine cw_region ?_
    refine ow_val rfl rfl (ex_move rfl) ?_
    refine ow_val rfl rfl (ex_assign rfl) ?_
    refine ow_nil ?_
    refine qw_seq ?_
    refine cw_seq ?_
    refine cw_region ?_
    refine ow_val rfl rfl (ex_move rfl) ?_
    refine ow_val rfl rfl (ex_assign rfl) ?_
    refine ow_nil ?_
    refine qw_seq ?_
    refine cw_seq ?_
    refine cw_block ?_
    refine cw_loopH2 (fun (i j : Nat) => [(0, .slice (some ⟨g, 0, none⟩) ts.length c), (1, .int .i64 (a : Int)), (2, .int .i64 (m : Int)), (3, .int .i64 (b : Int)), (4, .func (.func 17) #[] #[]), (10, .int .i64 (i : Int)), (11, .int .i64 (j : Int))]) (fun i j => m ≤ i ∧ i ≤ j ∧ j ≤ b ∧ (∀ k x, m ≤ k → k < i → ts[k]? = some x → ord x ts[a] < 0) ∧ (∀ k x, j ≤ k → k < b → ts[k]? = some x → 0 ≤ ord x ts[a])) (fun i j => σ) (fun i j => [(g, rowO xs tl 26)]) (fun i j => []) (fun i j => j - i) m b (subL_cons (lkv rfl (by first | rfl | simp)) (subL_cons (lkv rfl (by first | rfl | simp)) (subL_cons (lkv rfl (by first | rfl | simp)) (subL_cons (lkv rfl (by first | rfl | simp)) (subL_cons (lkv rfl (by first | rfl | simp)) (subL_cons (lkv rfl (by first | rfl | simp)) (subL_cons (lkv rfl (by first | rfl | simp)) (subL_nil _)))))))) ⟨Nat.le_refl _, by omega, Nat.le_refl _, fun k x h1 h2 => absurd h2 (by omega), fun k x h1 h2 => absurd h2 (by omega)⟩ (fun w h => h) ?_
    intro i j ⟨hmi, hij0, hjb, hlo, hhi⟩
    refine cw_seq ?_
    refine cw_seq ?_
    refine cw_region ?_
    refine ow_val rfl rfl (ex_move rfl) ?_
    refine ow_val rfl rfl (ex_move rfl) ?_
    refine ow_val rfl rfl (ex_lss rfl rfl) ?_
    refine ow_nil ?_
    refine qw_seq ?_
    refine cw_cond rfl (fun c33 => ?_) (fun c33 => ?_)
    ·
      refine cw_skip ?_
      refine qw_seq ?_
      refine cw_block ?_
      refine cw_seq ?_
      have hij : i < j := by simpa using c33
      obtain ⟨csh, hth, hxh⟩ := hr.at ((i + j) / 2) (by omega)
      refine cw_region ?_
      refine ow_val rfl rfl (ex_move rfl) ?_
      refine ow_val rfl rfl (ex_move rfl) ?_
      refine ow_val rfl rfl (ex_addi (z := ((i + j : Nat) : Int)) rfl rfl (by omega) (by omega) (by omega)) ?_
      refine ow_val rfl rfl (ex_i2u Try.underlying3 Try.underlying61 rfl (by omega) (by omega)) ?_
      refine ow_val rfl rfl (ex_halfN rfl rfl) ?_
      refine ow_val rfl rfl (ex_u2i Try.underlying61 Try.underlying3 rfl (by omega) (by omega)) ?_
      refine ow_val rfl rfl (ex_assign rfl) ?_
      refine ow_nil ?_
      refine qw_seq ?_
      refine cw_seq ?_
      refine flow_sound 11 (by kernel_rfl) ?_
      refine flow_val rfl (ex_move rfl) ?_
      refine flow_val rfl (ex_move rfl) ?_
      refine flow_val rfl (ex_move rfl) ?_
      refine flow_val rfl (ex_index_nat rfl rfl (by omega)) ?_
      refine flow_val rfl (ex_loadR rfl (ld_rowH 0 rfl hth.len hxh)) ?_
      refine flow_val rfl (ex_move rfl) ?_
      refine flow_val rfl (ex_move rfl) ?_
      refine flow_val rfl (ex_index_nat rfl rfl (by omega)) ?_
      refine flow_val rfl (ex_loadR rfl (ld_rowH 0 rfl hta.len hxa)) ?_
      refine flow_cv rfl (ex_call (cs := []) rfl rfl (fun w h => callB ((pOrder _ _ h.im hth hta)))) ?_
      refine flow_val rfl (ex_lss rfl rfl) ?_
      refine flow_nil ?_
      refine fin_is ?_
      refine fin_is ?_
      refine fin_is ?_
      refine fin_is ?_
      refine fin_is ?_
      refine fin_is ?_
      refine fin_is ?_
      refine fin_is ?_
      refine fin_is ?_
      refine fin_is ?_
      refine fin_is ?_
      refine fin_nil ?_
      refine ow_nil ?_
      refine qw_seq ?_
      refine cw_cond rfl (fun c50 => ?_) (fun c50 => ?_)
      ·
        refine cw_region ?_
        refine ow_val rfl rfl (ex_move rfl) ?_
        refine ow_val rfl rfl (ex_addi (z := (((i + j) / 2 + 1 : Nat) : Int)) rfl rfl (by omega) (by omega) (by omega)) ?_
        refine ow_val rfl rfl (ex_assign rfl) ?_
        refine ow_nil ?_
        refine qw_block_normal ?_
        exact qw_roundH2 ((i + j) / 2 + 1) j (by omega) (subL_cons (lkv rfl (by first | rfl | simp)) (subL_cons (lkv rfl (by first | rfl | simp)) (subL_cons (lkv rfl (by first | rfl | simp)) (subL_cons (lkv rfl (by first | rfl | simp)) (subL_cons (lkv rfl (by first | rfl | simp)) (subL_cons (lkv rfl (by first | rfl | simp)) (subL_cons (lkv rfl (by first | rfl | simp)) (subL_nil _)))))))) ⟨by omega, by omega, hjb, fun k x h1 h2 hx => by
          have hle := hf2.le' hb h1 (show k ≤ (i + j) / 2 by omega) (by omega) hx (List.getElem?_eq_getElem (by omega))
          have hlt : ord ts[(i + j) / 2] ts[a] < 0 := by simpa using c50
          rcases Int.lt_or_le (ord x ts[(i + j) / 2]) 0 with h | h
          · exact ord_lt_le_trans h (by omega)
          · have : x = ts[(i + j) / 2] := ord_zero.1 (by omega)
            rw [this]; exact hlt, hhi⟩ (fun w h => h)
      ·
        refine cw_region ?_
        refine ow_val rfl rfl (ex_move rfl) ?_
        refine ow_val rfl rfl (ex_assign rfl) ?_
        refine ow_nil ?_
        refine qw_block_normal ?_
        exact qw_roundH2 i ((i + j) / 2) (by omega) (subL_cons (lkv rfl (by first | rfl | simp)) (subL_cons (lkv rfl (by first | rfl | simp)) (subL_cons (lkv rfl (by first | rfl | simp)) (subL_cons (lkv rfl (by first | rfl | simp)) (subL_cons (lkv rfl (by first | rfl | simp)) (subL_cons (lkv rfl (by first | rfl | simp)) (subL_cons (lkv rfl (by first | rfl | simp)) (subL_nil _)))))))) ⟨hmi, by omega, by omega, hlo, fun k x h1 h2 hx => by
          have hle := hf2.le' hb (show m ≤ (i + j) / 2 by omega) h1 h2 (List.getElem?_eq_getElem (by omega)) hx
          have hge : 0 ≤ ord ts[(i + j) / 2] ts[a] := by simpa using c50
          rw [ord_neg] at hge ⊢
          have := ord_le_trans (show ord ts[a] ts[(i + j) / 2] ≤ 0 by omega) hle
          omega⟩ (fun w h => h)
    ·
      refine cw_exit ?_
      refine qw_then_exit ?_
      refine qw_then_exit ?_
      refine qw_block_exit ?_
      refine qw_seq ?_
      refine cw_seq ?_
      refine cw_seq ?_
      have hij : i = j := by simp at c33; omega
      subst hij
      refine cw_region ?_
      refine ow_val rfl rfl (ex_move rfl) ?_
      refine ow_val rfl rfl (ex_assign rfl) ?_
      refine ow_nil ?_
      refine qw_seq ?_
      refine cw_block ?_
      refine cw_loopH3 (fun (k : Nat) (us : List T) (ys : List Value) => [(0, .slice (some ⟨g, 0, none⟩) ts.length c), (1, .int .i64 (a : Int)), (2, .int .i64 (m : Int)), (3, .int .i64 (b : Int)), (4, .func (.func 17) #[] #[]), (10, .int .i64 (i : Int)), (13, .int .i64 (k : Int))]) (fun k us ys => a ≤ k ∧ k ≤ i - 1 ∧ InR a b us ts ∧ getF us = movF a k (getF ts) ∧ RowC σ ys us) (fun k us ys => σ) (fun k us ys => [(g, rowO ys tl 26)]) (fun k us ys => []) (fun k us ys => i - 1 - k) a ts xs (subL_cons (lkv rfl (by first | rfl | simp)) (subL_cons (lkv rfl (by first | rfl | simp)) (subL_cons (lkv rfl (by first | rfl | simp)) (subL_cons (lkv rfl (by first | rfl | simp)) (subL_cons (lkv rfl (by first | rfl | simp)) (subL_cons (lkv rfl (by first | rfl | simp)) (subL_cons (lkv rfl (by first | rfl | simp)) (subL_nil _)))))))) ⟨Nat.le_refl _, by omega, InR.refl _ _ _, (movF_self a _).symm, hr⟩ (fun w h => h) ?_
      intro k us ys ⟨hak, hki0, hin, hmv, hrow⟩
      refine cw_seq ?_
      refine cw_seq ?_
      refine cw_region ?_
      refine ow_val rfl rfl (ex_move rfl) ?_
      refine ow_val rfl rfl (ex_move rfl) ?_
      refine ow_val rfl rfl (ex_subi (z := ((i - 1 : Nat) : Int)) rfl rfl (by omega) (by omega) (by omega)) ?_
      refine ow_val rfl rfl (ex_lss rfl rfl) ?_
      refine ow_nil ?_
      refine qw_seq ?_
      refine cw_cond rfl (fun c58 => ?_) (fun c58 => ?_)
      ·
        refine cw_skip ?_
        refine qw_seq ?_
        refine cw_seq ?_
        refine cw_block ?_
        have hki : k < i - 1 := by simpa using c58
        have hul := hin.1
        obtain ⟨csk, htk, hxk⟩ := hrow.at k (by omega)
        obtain ⟨csb, htb, hxb⟩ := hrow.at (k + 1) (by omega)
        have hyl := hrow.len
        refine flow_sound2 (S' := St w (· = g) σ [(g, rowO (setX ys k csb) tl 26)] []) 15 [2, 3, 4] (by kernel_rfl) ?_
        refine flow_val rfl (ex_move rfl) ?_
        refine flow_val rfl (ex_move rfl) ?_
        refine flow_val rfl (ex_move rfl) ?_
        refine flow_val rfl (ex_move rfl) ?_
        refine flow_val rfl (ex_addi (z := ((k + 1 : Nat) : Int)) rfl rfl (by omega) (by omega) (by omega)) ?_
        refine flow_val rfl (ex_move rfl) ?_
        refine flow_val rfl (ex_move rfl) ?_
        refine flow_val rfl (ex_addi (z := ((k + 1 : Nat) : Int)) rfl rfl (by omega) (by omega) (by omega)) ?_
        refine flow_val rfl (ex_index_nat rfl rfl (by omega)) ?_
        refine flow_val rfl (ex_loadR rfl (ld_rowH 0 rfl htb.len hxb)) ?_
        refine flow_val rfl (ex_move rfl) ?_
        refine flow_val rfl (ex_move rfl) ?_
        refine flow_val rfl (ex_index_nat rfl rfl (by omega)) ?_
        refine flow_val rfl (ex_loadR rfl (ld_rowH 0 rfl htk.len hxk)) ?_
        refine flow_val rfl (ex_index_nat rfl rfl (by omega)) ?_
        refine flow_nil2 (n := 15) rfl rfl (pures_cons rfl rfl (.tail _ (.tail _ (.tail _ (.tail _ (.tail _ (.tail _ (.tail _ (.tail _ (.tail _ (.tail _ (.tail _ (.tail _ (.head _))))))))))))) (obk (ob_val rfl (ex_move rfl))) (pures_cons rfl rfl (.tail _ (.tail _ (.tail _ (.tail _ (.tail _ (.tail _ (.tail _ (.tail _ (.tail _ (.tail _ (.tail _ (.head _)))))))))))) (obk (ob_val rfl (ex_move rfl))) (pures_cons rfl rfl (.tail _ (.tail _ (.tail _ (.tail _ (.tail _ (.tail _ (.tail _ (.tail _ (.tail _ (.tail _ (.head _))))))))))) (obk (ob_val rfl (ex_addi (z := ((k + 1 : Nat) : Int)) rfl rfl (by omega) (by omega) (by omega)))) pures_nil))) ?_ ?_
        ·
          refine finu_is rfl ?_
          refine finu_is rfl ?_
          refine finu_is rfl ?_
          refine finu_is rfl ?_
          refine finu_is rfl ?_
          refine finu_is rfl ?_
          refine finu_is rfl ?_
          refine finu_is rfl ?_
          refine finu_is rfl ?_
          refine finu_is rfl ?_
          refine finu_drop ?_
          refine finu_drop ?_
          refine finu_drop ?_
          refine finu_is rfl ?_
          refine finu_is rfl ?_
          exact finu_nil (exu_storeX 0 rfl rfl rfl htb.len htb.one (by omega))
        ·
          refine fin_is ?_
          refine fin_is ?_
          refine fin_is ?_
          refine fin_is ?_
          refine fin_is ?_
          refine fin_is ?_
          refine fin_is ?_
          refine fin_is ?_
          refine fin_is ?_
          refine fin_is ?_
          refine fin_is ?_
          refine fin_is ?_
          refine fin_is ?_
          refine fin_is ?_
          refine fin_is ?_
          refine fin_nil ?_
          refine ow_val rfl rfl (ex_index_nat rfl rfl (by omega)) ?_
          refine ow_u rfl (exu_storeX 0 rfl rfl rfl htk.len htk.one (by rw [setX_len htb.len (by omega)]; omega)) ?_
          refine ow_nil ?_
          refine qw_block_normal ?_
          refine qw_seq ?_
          refine cw_region ?_
          refine ow_val rfl rfl (ex_move rfl) ?_
          refine ow_val rfl rfl (ex_addi (z := ((k + 1 : Nat) : Int)) rfl rfl (by omega) (by omega) (by omega)) ?_
          refine ow_val rfl rfl (ex_assign rfl) ?_
          refine ow_nil ?_
          exact qw_roundH3 (k + 1) (swapL us k (k + 1) (by omega) (by omega)) (setX (setX ys k csb) (k + 1) csk) (by omega) (subL_cons (lkv rfl (by first | rfl | simp)) (subL_cons (lkv rfl (by first | rfl | simp)) (subL_cons (lkv rfl (by first | rfl | simp)) (subL_cons (lkv rfl (by first | rfl | simp)) (subL_cons (lkv rfl (by first | rfl | simp)) (subL_cons (lkv rfl (by first | rfl | simp)) (subL_cons (lkv rfl (by first | rfl | simp)) (subL_nil _)))))))) ⟨by omega, by omega, (swapL_inR (by omega) (by omega) (by omega) (by omega) (by omega) (by omega)).trans hin, movF_step hmv (by omega) hul (by omega), (hrow.set k htb (by omega)).set (k + 1) htk (by rw [List.length_set]; omega)⟩ (fun w h => h)
      ·
        refine cw_exit ?_
        refine qw_then_exit ?_
        refine qw_then_exit ?_
        refine qw_block_exit ?_
        refine qw_seq ?_
        refine cw_ret ?_
        refine qw_then_ret ?_
        have he : k = i - 1 := by simp at c58; omega
        refine qw_ret0 rfl (fun w' h => h.givesM hrow ⟨hin, (sortedF_iff (by rw [hin.1]; exact hb)).2 ?_⟩)
        rw [hmv, he]
        exact movF_sorted (h1 ▸ hf2) hb (by omega) hjb (List.getElem?_eq_getElem (by omega)) (fun k x h1' h2 hx => hlo k x (by omega) h2 hx) hhi
  ·
    exact absurd (of_decide_eq_false c28) (by omega)

set_option maxHeartbeats 400000 in
theorem pMerge2 {g c : Nat} {ts : List T} {xs tl : List Value} {a m b : Nat} {σ : Hp} {w : World} (hi : Imm σ w) (hg : w.heap[g]? = some (rowO xs tl 26)) (hd : σ g = none) (hr : RowC σ xs ts) (hm : ts.length ≤ maxKids) (hc : ts.length ≤ c) (ham : a < m) (hmb : m < b) (hb : b ≤ ts.length) (hs1 : SortedR a m ts) (hs2 : SortedR m b ts) (h1 : a + 1 < m) (h2 : b = m + 1) :
    Calls Try.prog 50 #[.slice (some ⟨g, 0, none⟩) ts.length c, .int .i64 (a : Int), .int .i64 (m : Int), .int .i64 (b : Int), .func (.func 17) #[] #[]] w (GiveM g tl 26 σ (fun us => InR a b us ts ∧ SortedR a b us) w) := by
  have hm2 := hm
  unfold maxKids at hm2
  have hf1 := (sortedF_iff (by omega)).1 hs1
  have hf2 := (sortedF_iff hb).1 hs2
  have hxl := hr.len
  obtain ⟨csm, htm, hxm⟩ := hr.at m (by omega)
  refine enter (St w (· = g) σ [(g, rowO xs tl 26)] []) Try.func50 rfl Try.ntmps50 rfl (St.startM hi hg hd) ?_
  refine cw_seq ?_
  refine cw_seq ?_
  refine cw_region ?_
  refine ow_val rfl rfl (ex_move rfl) ?_
  refine ow_val rfl rfl (ex_move rfl) ?_
  refine ow_val rfl rfl (ex_subi (z := ((m - a : Nat) : Int)) rfl rfl (by omega) (by omega) (by omega)) ?_
  refine ow_val rfl rfl (ex_eql rfl rfl) ?_
  refine ow_nil ?_
  refine qw_seq ?_
  refine cw_cond rfl (fun c28 => ?_) (fun c28 => ?_)
  ·
    exact absurd (of_decide_eq_true c28) (by omega)
  ·
    refine cw_skip ?_
    refine qw_seq ?_
    refine cw_seq ?_
    refine cw_seq ?_
    refine cw_region ?_
    refine ow_val rfl rfl (ex_move rfl) ?_
    refine ow_val rfl rfl (ex_move rfl) ?_
    refine ow_val rfl rfl (ex_subi (z := ((b - m : Nat) : Int)) rfl rfl (by omega) (by omega) (by omega)) ?_
    refine ow_val rfl rfl (ex_eql rfl rfl) ?_
    refine ow_nil ?_
    refine qw_seq ?_
    refine cw_cond rfl (fun c80 => ?_) (fun c80 => ?_)
    ·
      refine cw_seq ?_
      refine cw_region ?_
      refine ow_val rfl rfl (ex_move rfl) ?_
      refine ow_val rfl rfl (ex_assign rfl) ?_
      refine ow_nil ?_
      refine qw_seq ?_
      refine cw_seq ?_
      refine cw_region ?_
      refine ow_val rfl rfl (ex_move rfl) ?_
      refine ow_val rfl rfl (ex_assign rfl) ?_
      refine ow_nil ?_
      refine qw_seq ?_
      refine cw_seq ?_
      refine cw_block ?_
      refine cw_loopH2 (fun (i j : Nat) => [(0, .slice (some ⟨g, 0, none⟩) ts.length c), (1, .int .i64 (a : Int)), (2, .int .i64 (m : Int)), (3, .int .i64 (b : Int)), (4, .func (.func 17) #[] #[]), (14, .int .i64 (i : Int)), (15, .int .i64 (j : Int))]) (fun i j => a ≤ i ∧ i ≤ j ∧ j ≤ m ∧ (∀ k x, a ≤ k → k < i → ts[k]? = some x → 0 ≤ ord ts[m] x) ∧ (∀ k x, j ≤ k → k < m → ts[k]? = some x → ord ts[m] x < 0)) (fun i j => σ) (fun i j => [(g, rowO xs tl 26)]) (fun i j => []) (fun i j => j - i) a m (subL_cons (lkv rfl (by first | rfl | simp)) (subL_cons (lkv rfl (by first | rfl | simp)) (subL_cons (lkv rfl (by first | rfl | simp)) (subL_cons (lkv rfl (by first | rfl | simp)) (subL_cons (lkv rfl (by first | rfl | simp)) (subL_cons (lkv rfl (by first | rfl | simp)) (subL_cons (lkv rfl (by first | rfl | simp)) (subL_nil _)))))))) ⟨Nat.le_refl _, by omega, Nat.le_refl _, fun k x h1 h2 => absurd h2 (by omega), fun k x h1 h2 => absurd h2 (by omega)⟩ (fun w h => h) ?_
      intro i j ⟨hai, hij0, hjm, hlo, hhi⟩
      refine cw_seq ?_
      refine cw_seq ?_
      refine cw_region ?_
      refine ow_val rfl rfl (ex_move rfl) ?_
      refine ow_val rfl rfl (ex_move rfl) ?_
      refine ow_val rfl rfl (ex_lss rfl rfl) ?_
      refine ow_nil ?_
      refine qw_seq ?_
      refine cw_cond rfl (fun c85 => ?_) (fun c85 => ?_)
      ·
        refine cw_skip ?_
        refine qw_seq ?_
        refine cw_block ?_
        refine cw_seq ?_
        have hij : i < j := by simpa using c85
        obtain ⟨csh, hth, hxh⟩ := hr.at ((i + j) / 2) (by omega)
        refine cw_region ?_
        refine ow_val rfl rfl (ex_move rfl) ?_
        refine ow_val rfl rfl (ex_move rfl) ?_
        refine ow_val rfl rfl (ex_addi (z := ((i + j : Nat) : Int)) rfl rfl (by omega) (by omega) (by omega)) ?_
        refine ow_val rfl rfl (ex_i2u Try.underlying3 Try.underlying61 rfl (by omega) (by omega)) ?_
        refine ow_val rfl rfl (ex_halfN rfl rfl) ?_
        refine ow_val rfl rfl (ex_u2i Try.underlying61 Try.underlying3 rfl (by omega) (by omega)) ?_
        refine ow_val rfl rfl (ex_assign rfl) ?_
        refine ow_nil ?_
        refine qw_seq ?_
        refine cw_seq ?_
        refine flow_sound 12 (by kernel_rfl) ?_
        refine flow_val rfl (ex_move rfl) ?_
        refine flow_val rfl (ex_move rfl) ?_
        refine flow_val rfl (ex_move rfl) ?_
        refine flow_val rfl (ex_index_nat rfl rfl (by omega)) ?_
        refine flow_val rfl (ex_loadR rfl (ld_rowH 0 rfl htm.len hxm)) ?_
        refine flow_val rfl (ex_move rfl) ?_
        refine flow_val rfl (ex_move rfl) ?_
        refine flow_val rfl (ex_index_nat rfl rfl (by omega)) ?_
        refine flow_val rfl (ex_loadR rfl (ld_rowH 0 rfl hth.len hxh)) ?_
        refine flow_cv rfl (ex_call (cs := []) rfl rfl (fun w h => callB ((pOrder _ _ h.im htm hth)))) ?_
        refine flow_val rfl (ex_lss rfl rfl) ?_
        refine flow_val rfl (ex_not rfl) ?_
        refine flow_nil ?_
        refine fin_is ?_
        refine fin_is ?_
        refine fin_is ?_
        refine fin_is ?_
        refine fin_is ?_
        refine fin_is ?_
        refine fin_is ?_
        refine fin_is ?_
        refine fin_is ?_
        refine fin_is ?_
        refine fin_is ?_
        refine fin_is ?_
        refine fin_nil ?_
        refine ow_nil ?_
        refine qw_seq ?_
        refine cw_cond rfl (fun c103 => ?_) (fun c103 => ?_)
        ·
          refine cw_region ?_
          refine ow_val rfl rfl (ex_move rfl) ?_
          refine ow_val rfl rfl (ex_addi (z := (((i + j) / 2 + 1 : Nat) : Int)) rfl rfl (by omega) (by omega) (by omega)) ?_
          refine ow_val rfl rfl (ex_assign rfl) ?_
          refine ow_nil ?_
          refine qw_block_normal ?_
          exact qw_roundH2 ((i + j) / 2 + 1) j (by omega) (subL_cons (lkv rfl (by first | rfl | simp)) (subL_cons (lkv rfl (by first | rfl | simp)) (subL_cons (lkv rfl (by first | rfl | simp)) (subL_cons (lkv rfl (by first | rfl | simp)) (subL_cons (lkv rfl (by first | rfl | simp)) (subL_cons (lkv rfl (by first | rfl | simp)) (subL_cons (lkv rfl (by first | rfl | simp)) (subL_nil _)))))))) ⟨by omega, by omega, hjm, fun k x h1 h2 hx => by
            have hle := hf1.le' (by omega) h1 (show k ≤ (i + j) / 2 by omega) (by omega) hx (List.getElem?_eq_getElem (by omega))
            have hge : 0 ≤ ord ts[m] ts[(i + j) / 2] := by simpa using c103
            rw [ord_neg] at hge ⊢
            have := ord_le_trans hle (show ord ts[(i + j) / 2] ts[m] ≤ 0 by omega)
            omega, hhi⟩ (fun w h => h)
        ·
          refine cw_region ?_
          refine ow_val rfl rfl (ex_move rfl) ?_
          refine ow_val rfl rfl (ex_assign rfl) ?_
          refine ow_nil ?_
          refine qw_block_normal ?_
          exact qw_roundH2 i ((i + j) / 2) (by omega) (subL_cons (lkv rfl (by first | rfl | simp)) (subL_cons (lkv rfl (by first | rfl | simp)) (subL_cons (lkv rfl (by first | rfl | simp)) (subL_cons (lkv rfl (by first | rfl | simp)) (subL_cons (lkv rfl (by first | rfl | simp)) (subL_cons (lkv rfl (by first | rfl | simp)) (subL_cons (lkv rfl (by first | rfl | simp)) (subL_nil _)))))))) ⟨hai, by omega, by omega, hlo, fun k x h1 h2 hx => by
            have hle := hf1.le' (by omega) (show a ≤ (i + j) / 2 by omega) h1 h2 (List.getElem?_eq_getElem (by omega)) hx
            have hlt : ord ts[m] ts[(i + j) / 2] < 0 := by simpa using c103
            exact ord_lt_le_trans hlt hle⟩ (fun w h => h)
      ·
        refine cw_exit ?_
        refine qw_then_exit ?_
        refine qw_then_exit ?_
        refine qw_block_exit ?_
        refine qw_seq ?_
        refine cw_seq ?_
        refine cw_seq ?_
        have hij : i = j := by simp at c85; omega
        subst hij
        refine cw_region ?_
        refine ow_val rfl rfl (ex_move rfl) ?_
        refine ow_val rfl rfl (ex_assign rfl) ?_
        refine ow_nil ?_
        refine qw_seq ?_
        refine cw_block ?_
        refine cw_loopH3 (fun (k : Nat) (us : List T) (ys : List Value) => [(0, .slice (some ⟨g, 0, none⟩) ts.length c), (1, .int .i64 (a : Int)), (2, .int .i64 (m : Int)), (3, .int .i64 (b : Int)), (4, .func (.func 17) #[] #[]), (14, .int .i64 (i : Int)), (17, .int .i64 (k : Int))]) (fun k us ys => i ≤ k ∧ k ≤ m ∧ InR a b us ts ∧ getF us = movD m k (getF ts) ∧ RowC σ ys us) (fun k us ys => σ) (fun k us ys => [(g, rowO ys tl 26)]) (fun k us ys => []) (fun k us ys => k) m ts xs (subL_cons (lkv rfl (by first | rfl | simp)) (subL_cons (lkv rfl (by first | rfl | simp)) (subL_cons (lkv rfl (by first | rfl | simp)) (subL_cons (lkv rfl (by first | rfl | simp)) (subL_cons (lkv rfl (by first | rfl | simp)) (subL_cons (lkv rfl (by first | rfl | simp)) (subL_cons (lkv rfl (by first | rfl | simp)) (subL_nil _)))))))) ⟨by omega, Nat.le_refl _, InR.refl _ _ _, (movD_self m _).symm, hr⟩ (fun w h => h) ?_
        intro k us ys ⟨hik, hkm, hin, hmv, hrow⟩
        refine cw_seq ?_
        refine cw_seq ?_
        refine cw_region ?_
        refine ow_val rfl rfl (ex_move rfl) ?_
        refine ow_val rfl rfl (ex_move rfl) ?_
        refine ow_val rfl rfl (ex_gtr rfl rfl) ?_
        refine ow_nil ?_
        refine qw_seq ?_
        refine cw_cond rfl (fun c110 => ?_) (fun c110 => ?_)
        ·
          refine cw_skip ?_
          refine qw_seq ?_
          refine cw_seq ?_
          refine cw_block ?_
          have hki : i < k := by simpa using c110
          have hul := hin.1
          obtain ⟨csk, htk, hxk⟩ := hrow.at k (by omega)
          obtain ⟨csb, htb, hxb⟩ := hrow.at (k - 1) (by omega)
          have hyl := hrow.len
          refine flow_sound2 (S' := St w (· = g) σ [(g, rowO (setX ys k csb) tl 26)] []) 15 [2, 3, 4] (by kernel_rfl) ?_
          refine flow_val rfl (ex_move rfl) ?_
          refine flow_val rfl (ex_move rfl) ?_
          refine flow_val rfl (ex_move rfl) ?_
          refine flow_val rfl (ex_move rfl) ?_
          refine flow_val rfl (ex_subi (z := ((k - 1 : Nat) : Int)) rfl rfl (by omega) (by omega) (by omega)) ?_
          refine flow_val rfl (ex_move rfl) ?_
          refine flow_val rfl (ex_move rfl) ?_
          refine flow_val rfl (ex_subi (z := ((k - 1 : Nat) : Int)) rfl rfl (by omega) (by omega) (by omega)) ?_
          refine flow_val rfl (ex_index_nat rfl rfl (by omega)) ?_
          refine flow_val rfl (ex_loadR rfl (ld_rowH 0 rfl htb.len hxb)) ?_
          refine flow_val rfl (ex_move rfl) ?_
          refine flow_val rfl (ex_move rfl) ?_
          refine flow_val rfl (ex_index_nat rfl rfl (by omega)) ?_
          refine flow_val rfl (ex_loadR rfl (ld_rowH 0 rfl htk.len hxk)) ?_
          refine flow_val rfl (ex_index_nat rfl rfl (by omega)) ?_
          refine flow_nil2 (n := 15) rfl rfl (pures_cons rfl rfl (.tail _ (.tail _ (.tail _ (.tail _ (.tail _ (.tail _ (.tail _ (.tail _ (.tail _ (.tail _ (.tail _ (.tail _ (.head _))))))))))))) (obk (ob_val rfl (ex_move rfl))) (pures_cons rfl rfl (.tail _ (.tail _ (.tail _ (.tail _ (.tail _ (.tail _ (.tail _ (.tail _ (.tail _ (.tail _ (.tail _ (.head _)))))))))))) (obk (ob_val rfl (ex_move rfl))) (pures_cons rfl rfl (.tail _ (.tail _ (.tail _ (.tail _ (.tail _ (.tail _ (.tail _ (.tail _ (.tail _ (.tail _ (.head _))))))))))) (obk (ob_val rfl (ex_subi (z := ((k - 1 : Nat) : Int)) rfl rfl (by omega) (by omega) (by omega)))) pures_nil))) ?_ ?_
          ·
            refine finu_is rfl ?_
            refine finu_is rfl ?_
            refine finu_is rfl ?_
            refine finu_is rfl ?_
            refine finu_is rfl ?_
            refine finu_is rfl ?_
            refine finu_is rfl ?_
            refine finu_is rfl ?_
            refine finu_is rfl ?_
            refine finu_is rfl ?_
            refine finu_drop ?_
            refine finu_drop ?_
            refine finu_drop ?_
            refine finu_is rfl ?_
            refine finu_is rfl ?_
            exact finu_nil (exu_storeX 0 rfl rfl rfl htb.len htb.one (by omega))
          ·
            refine fin_is ?_
            refine fin_is ?_
            refine fin_is ?_
            refine fin_is ?_
            refine fin_is ?_
            refine fin_is ?_
            refine fin_is ?_
            refine fin_is ?_
            refine fin_is ?_
            refine fin_is ?_
            refine fin_is ?_
            refine fin_is ?_
            refine fin_is ?_
            refine fin_is ?_
            refine fin_is ?_
            refine fin_nil ?_
            refine ow_val rfl rfl (ex_index_nat rfl rfl (by omega)) ?_
            refine ow_u rfl (exu_storeX 0 rfl rfl rfl htk.len htk.one (by rw [setX_len htb.len (by omega)]; omega)) ?_
            refine ow_nil ?_
            refine qw_block_normal ?_
            refine qw_seq ?_
            refine cw_region ?_
            refine ow_val rfl rfl (ex_move rfl) ?_
            refine ow_val rfl rfl (ex_subi (z := ((k - 1 : Nat) : Int)) rfl rfl (by omega) (by omega) (by omega)) ?_
            refine ow_val rfl rfl (ex_assign rfl) ?_
            refine ow_nil ?_
            exact qw_roundH3 (k - 1) (swapL us k (k - 1) (by omega) (by omega)) (setX (setX ys k csb) (k - 1) csk) (by omega) (subL_cons (lkv rfl (by first | rfl | simp)) (subL_cons (lkv rfl (by first | rfl | simp)) (subL_cons (lkv rfl (by first | rfl | simp)) (subL_cons (lkv rfl (by first | rfl | simp)) (subL_cons (lkv rfl (by first | rfl | simp)) (subL_cons (lkv rfl (by first | rfl | simp)) (subL_cons (lkv rfl (by first | rfl | simp)) (subL_nil _)))))))) ⟨by omega, by omega, (swapL_inR (by omega) (by omega) (by omega) (by omega) (by omega) (by omega)).trans hin, movD_step hmv (by omega) hul (by omega) (by omega), (hrow.set k htb (by omega)).set (k - 1) htk (by rw [List.length_set]; omega)⟩ (fun w h => h)
        ·
          refine cw_exit ?_
          refine qw_then_exit ?_
          refine qw_then_exit ?_
          refine qw_block_exit ?_
          refine qw_seq ?_
          refine cw_ret ?_
          refine qw_then_ret ?_
          have he : k = i := by simp at c110; omega
          refine qw_ret0 rfl (fun w' h => h.givesM hrow ⟨hin, (sortedF_iff (by rw [hin.1]; exact hb)).2 ?_⟩)
          rw [hmv, he, h2]
          exact movD_sorted hf1 (by omega) hai hjm (List.getElem?_eq_getElem (by omega)) hlo hhi
    ·
      exact absurd (of_decide_eq_false c80) (by omega)
end Go.Proofs.Ytnjomdjkbbhdoaa
