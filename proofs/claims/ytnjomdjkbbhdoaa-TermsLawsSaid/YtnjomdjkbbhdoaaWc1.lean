/-
  Walks of the library: stretches of a row exchanged.
  No condition.
-/
import Derived.Test.YtnjomdjkbbhdoaaWb4
import Derived.Test.YtnjomdjkbbhdoaaMerge
namespace Go.Proofs.Ytnjomdjkbbhdoaa
open Go.RowKit
set_option linter.unusedVariables false
set_option linter.unusedSimpArgs false
set_option maxRecDepth 100000

set_option maxHeartbeats 400000 in
theorem pSwapRange {g c : Nat} {ts : List T} {xs tl : List Value} {a b n : Nat} {σ : Hp} {w : World} (hi : Imm σ w) (hg : w.heap[g]? = some (rowO xs tl 26)) (hd : σ g = none) (hr : RowC σ xs ts) (hm : ts.length ≤ maxKids) (hc : ts.length ≤ c) (hab : a + n ≤ b) (hb : b + n ≤ ts.length) :
    Calls Try.prog 53 #[.slice (some ⟨g, 0, none⟩) ts.length c, .int .i64 (a : Int), .int .i64 (b : Int), .int .i64 (n : Int), .func (.func 17) #[] #[]] w (GiveM g tl 26 σ (fun us => InR a (b + n) us ts ∧ getF us = xchF a b n (getF ts)) w) := by
  have hm2 := hm
  unfold maxKids at hm2
  refine enter (St w (· = g) σ [(g, rowO xs tl 26)] []) Try.func53 rfl Try.ntmps53 rfl (St.startM hi hg hd) ?_
  refine cw_seq ?_
  refine cw_region ?_
  refine ow_val rfl rfl (ex_assign rfl) ?_
  refine ow_nil ?_
  refine qw_seq ?_
  refine cw_block ?_
  refine cw_loopH3 (fun (i : Nat) (us : List T) (ys : List Value) => [(0, .slice (some ⟨g, 0, none⟩) ts.length c), (1, .int .i64 (a : Int)), (2, .int .i64 (b : Int)), (3, .int .i64 (n : Int)), (4, .func (.func 17) #[] #[]), (10, .int .i64 (i : Int))]) (fun i us ys => i ≤ n ∧ InR a (b + n) us ts ∧ getF us = xchF a b i (getF ts) ∧ RowC σ ys us) (fun i us ys => σ) (fun i us ys => [(g, rowO ys tl 26)]) (fun i us ys => []) (fun i us ys => n - i) 0 ts xs (subL_cons (lkv rfl (by first | rfl | simp)) (subL_cons (lkv rfl (by first | rfl | simp)) (subL_cons (lkv rfl (by first | rfl | simp)) (subL_cons (lkv rfl (by first | rfl | simp)) (subL_cons (lkv rfl (by first | rfl | simp)) (subL_cons (lkv rfl (by first | rfl | simp)) (subL_nil _))))))) ⟨Nat.zero_le _, InR.refl _ _ _, (xchF_zero a b _).symm, hr⟩ (fun w h => h) ?_
  intro i us ys ⟨hle, hin, hx, hrow⟩
  refine cw_seq ?_
  refine cw_seq ?_
  refine cw_region ?_
  refine ow_val rfl rfl (ex_move rfl) ?_
  refine ow_val rfl rfl (ex_move rfl) ?_
  refine ow_val rfl rfl (ex_lss rfl rfl) ?_
  refine ow_nil ?_
  refine qw_seq ?_
  refine cw_cond rfl (fun c13 => ?_) (fun c13 => ?_)
  ·
    refine cw_skip ?_
    refine qw_seq ?_
    refine cw_seq ?_
    refine cw_block ?_
    have hlt : i < n := by simpa using c13
    have hul := hin.1
    obtain ⟨csa, hta, hxa⟩ := hrow.at (a + i) (by omega)
    obtain ⟨csb, htb, hxb⟩ := hrow.at (b + i) (by omega)
    have hxl := hrow.len
    refine flow_sound2 (S' := St w (· = g) σ [(g, rowO (setX ys (a + i) csb) tl 26)] []) 21 [4, 5, 6, 7] (by kernel_rfl) ?_
    refine flow_val rfl (ex_move rfl) ?_
    refine flow_val rfl (ex_move rfl) ?_
    refine flow_val rfl (ex_move rfl) ?_
    refine flow_val rfl (ex_addi (z := ((a + i : Nat) : Int)) rfl rfl (by omega) (by omega) (by omega)) ?_
    refine flow_val rfl (ex_move rfl) ?_
    refine flow_val rfl (ex_move rfl) ?_
    refine flow_val rfl (ex_move rfl) ?_
    refine flow_val rfl (ex_addi (z := ((b + i : Nat) : Int)) rfl rfl (by omega) (by omega) (by omega)) ?_
    refine flow_val rfl (ex_move rfl) ?_
    refine flow_val rfl (ex_move rfl) ?_
    refine flow_val rfl (ex_move rfl) ?_
    refine flow_val rfl (ex_addi (z := ((b + i : Nat) : Int)) rfl rfl (by omega) (by omega) (by omega)) ?_
    refine flow_val rfl (ex_index_nat rfl rfl (by omega)) ?_
    refine flow_val rfl (ex_loadR rfl (ld_rowH 0 rfl htb.len hxb)) ?_
    refine flow_val rfl (ex_move rfl) ?_
    refine flow_val rfl (ex_move rfl) ?_
    refine flow_val rfl (ex_move rfl) ?_
    refine flow_val rfl (ex_addi (z := ((a + i : Nat) : Int)) rfl rfl (by omega) (by omega) (by omega)) ?_
    refine flow_val rfl (ex_index_nat rfl rfl (by omega)) ?_
    refine flow_val rfl (ex_loadR rfl (ld_rowH 0 rfl hta.len hxa)) ?_
    refine flow_val rfl (ex_index_nat rfl rfl (by omega)) ?_
    refine flow_nil2 (n := 21) rfl rfl (pures_cons rfl rfl (.tail _ (.tail _ (.tail _ (.tail _ (.tail _ (.tail _ (.tail _ (.tail _ (.tail _ (.tail _ (.tail _ (.tail _ (.tail _ (.tail _ (.tail _ (.tail _ (.head _))))))))))))))))) (obk (ob_val rfl (ex_move rfl))) (pures_cons rfl rfl (.tail _ (.tail _ (.tail _ (.tail _ (.tail _ (.tail _ (.tail _ (.tail _ (.tail _ (.tail _ (.tail _ (.tail _ (.tail _ (.tail _ (.tail _ (.head _)))))))))))))))) (obk (ob_val rfl (ex_move rfl))) (pures_cons rfl rfl (.tail _ (.tail _ (.tail _ (.tail _ (.tail _ (.tail _ (.tail _ (.tail _ (.tail _ (.tail _ (.tail _ (.tail _ (.tail _ (.tail _ (.head _))))))))))))))) (obk (ob_val rfl (ex_move rfl))) (pures_cons rfl rfl (.tail _ (.tail _ (.tail _ (.tail _ (.tail _ (.tail _ (.tail _ (.tail _ (.tail _ (.tail _ (.tail _ (.tail _ (.tail _ (.head _)))))))))))))) (obk (ob_val rfl (ex_addi (z := ((b + i : Nat) : Int)) rfl rfl (by omega) (by omega) (by omega)))) pures_nil)))) ?_ ?_
    ·
      refine finu_is rfl ?_
      refine finu_is rfl ?_
      refine finu_is rfl ?_
      refine finu_is rfl ?_
      refine finu_is rfl ?_
      refine finu_is rfl ?_
      refine finu_is rfl ?_
      refine finu_is rfl ?_
      refine finu_is rfl ?_
      refine finu_is rfl ?_
      refine finu_is rfl ?_
      refine finu_is rfl ?_
      refine finu_is rfl ?_
      refine finu_drop ?_
      refine finu_drop ?_
      refine finu_drop ?_
      refine finu_drop ?_
      refine finu_is rfl ?_
      refine finu_is rfl ?_
      refine finu_is rfl ?_
      refine finu_is rfl ?_
      exact finu_nil (exu_storeX 0 rfl rfl rfl htb.len htb.one (by omega))
    ·
      refine fin_is ?_
      refine fin_is ?_
      refine fin_is ?_
      refine fin_is ?_
      refine fin_is ?_
      refine fin_is ?_
      refine fin_is ?_
      refine fin_is ?_
      refine fin_is ?_
      refine fin_is ?_
      refine fin_is ?_
      refine fin_is ?_
      refine fin_is ?_
      refine fin_is ?_
      refine fin_is ?_
      refine fin_is ?_
      refine fin_is ?_
      refine fin_is ?_
      refine fin_is ?_
      refine fin_is ?_
      refine fin_is ?_
      refine fin_nil ?_
      refine ow_val rfl rfl (ex_index_nat rfl rfl (by omega)) ?_
      refine ow_u rfl (exu_storeX 0 rfl rfl rfl hta.len hta.one (by rw [setX_len htb.len (by omega)]; omega)) ?_
      refine ow_nil ?_
      refine qw_block_normal ?_
      refine qw_seq ?_
      refine cw_region ?_
      refine ow_val rfl rfl (ex_move rfl) ?_
      refine ow_val rfl rfl (ex_addi (z := ((i + 1 : Nat) : Int)) rfl rfl (by omega) (by omega) (by omega)) ?_
      refine ow_val rfl rfl (ex_assign rfl) ?_
      refine ow_nil ?_
      exact qw_roundH3 (i + 1) (swapL us (a + i) (b + i) (by omega) (by omega)) (setX (setX ys (a + i) csb) (b + i) csa) (by omega) (subL_cons (lkv rfl (by first | rfl | simp)) (subL_cons (lkv rfl (by first | rfl | simp)) (subL_cons (lkv rfl (by first | rfl | simp)) (subL_cons (lkv rfl (by first | rfl | simp)) (subL_cons (lkv rfl (by first | rfl | simp)) (subL_cons (lkv rfl (by first | rfl | simp)) (subL_nil _))))))) ⟨by omega, (swapL_inR (by omega) (by omega) (by omega) (by omega) (by omega) (by omega)).trans hin, xchF_step hx (by omega) hul (by omega), (hrow.set (a + i) htb (by omega)).set (b + i) hta (by rw [List.length_set]; omega)⟩ (fun w h => h)
  ·
    refine cw_exit ?_
    refine qw_then_exit ?_
    refine qw_then_exit ?_
    refine qw_block_exit ?_
    have he : i = n := by simp at c13; omega
    refine qw_end0 rfl (fun w' h => h.givesM hrow ⟨hin, ?_⟩)
    rw [hx, he]

set_option maxHeartbeats 400000 in
theorem pRotate {g c : Nat} {ts : List T} {xs tl : List Value} {a m b : Nat} {σ : Hp} {w : World} (hi : Imm σ w) (hg : w.heap[g]? = some (rowO xs tl 26)) (hd : σ g = none) (hr : RowC σ xs ts) (hm : ts.length ≤ maxKids) (hc : ts.length ≤ c) (ham : a < m) (hmb : m < b) (hb : b ≤ ts.length) :
    Calls Try.prog 52 #[.slice (some ⟨g, 0, none⟩) ts.length c, .int .i64 (a : Int), .int .i64 (m : Int), .int .i64 (b : Int), .func (.func 17) #[] #[]] w (GiveM g tl 26 σ (fun us => InR a b us ts ∧ getF us = rotF a m b (getF ts)) w) := by
  have hm2 := hm
  unfold maxKids at hm2
  refine enter (St w (· = g) σ [(g, rowO xs tl 26)] []) Try.func52 rfl Try.ntmps52 rfl (St.startM hi hg hd) ?_
  refine cw_seq ?_
  refine cw_region ?_
  refine ow_val rfl rfl (ex_move rfl) ?_
  refine ow_val rfl rfl (ex_move rfl) ?_
  refine ow_val rfl rfl (ex_subi (z := ((m - a : Nat) : Int)) rfl rfl (by omega) (by omega) (by omega)) ?_
  refine ow_val rfl rfl (ex_assign rfl) ?_
  refine ow_nil ?_
  refine qw_seq ?_
  refine cw_seq ?_
  refine cw_region ?_
  refine ow_val rfl rfl (ex_move rfl) ?_
  refine ow_val rfl rfl (ex_move rfl) ?_
  refine ow_val rfl rfl (ex_subi (z := ((b - m : Nat) : Int)) rfl rfl (by omega) (by omega) (by omega)) ?_
  refine ow_val rfl rfl (ex_assign rfl) ?_
  refine ow_nil ?_
  refine qw_seq ?_
  refine cw_seq ?_
  refine cw_block ?_
  refine cw_loopH4 (fun (i j : Nat) (us : List T) (ys : List Value) => [(0, .slice (some ⟨g, 0, none⟩) ts.length c), (2, .int .i64 (m : Int)), (4, .func (.func 17) #[] #[]), (10, .int .i64 (i : Int)), (11, .int .i64 (j : Int))]) (fun i j us ys => 0 < i ∧ 0 < j ∧ a + i ≤ m ∧ m + j ≤ b ∧ InR a b us ts ∧ rotF (m - i) m (m + j) (getF us) = rotF a m b (getF ts) ∧ RowC σ ys us) (fun i j us ys => σ) (fun i j us ys => [(g, rowO ys tl 26)]) (fun i j us ys => []) (fun i j us ys => i + j) (m - a) (b - m) ts xs (subL_cons (lkv rfl (by first | rfl | simp)) (subL_cons (lkv rfl (by first | rfl | simp)) (subL_cons (lkv rfl (by first | rfl | simp)) (subL_cons (lkv rfl (by first | rfl | simp)) (subL_cons (lkv rfl (by first | rfl | simp)) (subL_nil _)))))) ⟨by omega, by omega, by omega, by omega, InR.refl _ _ _, by rw [show m - (m - a) = a by omega, show m + (b - m) = b by omega], hr⟩ (fun w h => h) ?_
  intro i j us ys ⟨hip, hjp, hai, hmj, hin, hrot, hrow⟩
  have hul := hin.1
  refine cw_seq ?_
  refine cw_seq ?_
  refine cw_region ?_
  refine ow_val rfl rfl (ex_move rfl) ?_
  refine ow_val rfl rfl (ex_move rfl) ?_
  refine ow_val rfl rfl (ex_neq rfl rfl) ?_
  refine ow_nil ?_
  refine qw_seq ?_
  refine cw_cond rfl (fun c20 => ?_) (fun c20 => ?_)
  ·
    refine cw_skip ?_
    refine qw_seq ?_
    refine cw_block ?_
    refine cw_seq ?_
    refine cw_region ?_
    refine ow_val rfl rfl (ex_move rfl) ?_
    refine ow_val rfl rfl (ex_move rfl) ?_
    refine ow_val rfl rfl (ex_gtr rfl rfl) ?_
    refine ow_nil ?_
    refine qw_seq ?_
    refine cw_cond rfl (fun c23 => ?_) (fun c23 => ?_)
    ·
      refine cw_seq ?_
      have hij : j < i := by simpa using c23
      refine cw_region ?_
      refine ow_val rfl rfl (ex_move rfl) ?_
      refine ow_val rfl rfl (ex_move rfl) ?_
      refine ow_val rfl rfl (ex_move rfl) ?_
      refine ow_val rfl rfl (ex_subi (z := ((m - i : Nat) : Int)) rfl rfl (by omega) (by omega) (by omega)) ?_
      refine ow_val rfl rfl (ex_move rfl) ?_
      refine ow_val rfl rfl (ex_move rfl) ?_
      refine ow_val rfl rfl (ex_move rfl) ?_
      refine ow_cmd rfl rfl (ex_callf rfl (fun w h => callM (hul ▸ pSwapRange (a := m - i) (b := m) (n := j) h.im (h.own (p := (g, rowO ys tl 26)) List.mem_cons_self) (h.fresh (p := (g, rowO ys tl 26)) List.mem_cons_self) hrow (by omega) (by omega) (by omega) (by omega)))) (fun v31 us2 ys2 hR hr2 => ?_)
      obtain ⟨hR1, hR2⟩ := hR
      refine ow_nil ?_
      refine qw_seq ?_
      refine cw_region ?_
      refine ow_val rfl rfl (ex_move rfl) ?_
      refine ow_val rfl rfl (ex_move rfl) ?_
      refine ow_val rfl rfl (ex_subi (z := ((i - j : Nat) : Int)) rfl rfl (by omega) (by omega) (by omega)) ?_
      refine ow_val rfl rfl (ex_assign rfl) ?_
      refine ow_nil ?_
      refine qw_block_normal ?_
      exact qw_roundH4 (i - j) j us2 ys2 (by omega) (subL_cons (lkv rfl (by first | rfl | simp)) (subL_cons (lkv rfl (by first | rfl | simp)) (subL_cons (lkv rfl (by first | rfl | simp)) (subL_cons (lkv rfl (by first | rfl | simp)) (subL_cons (lkv rfl (by first | rfl | simp)) (subL_nil _)))))) ⟨by omega, by omega, by omega, by omega, (hR1.wide (by omega) (by omega)).trans hin, by rw [hR2, rotF_left hij (by omega)]; exact hrot, hr2⟩ (fun w h => h)
    ·
      refine cw_seq ?_
      have hij : i < j := by simp at c20 c23; omega
      refine cw_region ?_
      refine ow_val rfl rfl (ex_move rfl) ?_
      refine ow_val rfl rfl (ex_move rfl) ?_
      refine ow_val rfl rfl (ex_move rfl) ?_
      refine ow_val rfl rfl (ex_subi (z := ((m - i : Nat) : Int)) rfl rfl (by omega) (by omega) (by omega)) ?_
      refine ow_val rfl rfl (ex_move rfl) ?_
      refine ow_val rfl rfl (ex_move rfl) ?_
      refine ow_val rfl rfl (ex_addi (z := ((m + j : Nat) : Int)) rfl rfl (by omega) (by omega) (by omega)) ?_
      refine ow_val rfl rfl (ex_move rfl) ?_
      refine ow_val rfl rfl (ex_subi (z := ((m + j - i : Nat) : Int)) rfl rfl (by omega) (by omega) (by omega)) ?_
      refine ow_val rfl rfl (ex_move rfl) ?_
      refine ow_val rfl rfl (ex_move rfl) ?_
      refine ow_cmd rfl rfl (ex_callf rfl (fun w h => callM (hul ▸ pSwapRange (a := m - i) (b := m + j - i) (n := i) h.im (h.own (p := (g, rowO ys tl 26)) List.mem_cons_self) (h.fresh (p := (g, rowO ys tl 26)) List.mem_cons_self) hrow (by omega) (by omega) (by omega) (by omega)))) (fun v46 us2 ys2 hR hr2 => ?_)
      obtain ⟨hR1, hR2⟩ := hR
      refine ow_nil ?_
      refine qw_seq ?_
      refine cw_region ?_
      refine ow_val rfl rfl (ex_move rfl) ?_
      refine ow_val rfl rfl (ex_move rfl) ?_
      refine ow_val rfl rfl (ex_subi (z := ((j - i : Nat) : Int)) rfl rfl (by omega) (by omega) (by omega)) ?_
      refine ow_val rfl rfl (ex_assign rfl) ?_
      refine ow_nil ?_
      refine qw_block_normal ?_
      exact qw_roundH4 i (j - i) us2 ys2 (by omega) (subL_cons (lkv rfl (by first | rfl | simp)) (subL_cons (lkv rfl (by first | rfl | simp)) (subL_cons (lkv rfl (by first | rfl | simp)) (subL_cons (lkv rfl (by first | rfl | simp)) (subL_cons (lkv rfl (by first | rfl | simp)) (subL_nil _)))))) ⟨by omega, by omega, by omega, by omega, (hR1.wide (by omega) (by omega)).trans hin, by rw [hR2, rotF_right hij (by omega)]; exact hrot, hr2⟩ (fun w h => h)
  ·
    refine cw_exit ?_
    refine qw_then_exit ?_
    refine qw_then_exit ?_
    refine qw_block_exit ?_
    refine qw_seq ?_
    have hij : i = j := by simp at c20; omega
    subst hij
    refine cw_region ?_
    refine ow_val rfl rfl (ex_move rfl) ?_
    refine ow_val rfl rfl (ex_move rfl) ?_
    refine ow_val rfl rfl (ex_move rfl) ?_
    refine ow_val rfl rfl (ex_subi (z := ((m - i : Nat) : Int)) rfl rfl (by omega) (by omega) (by omega)) ?_
    refine ow_val rfl rfl (ex_move rfl) ?_
    refine ow_val rfl rfl (ex_move rfl) ?_
    refine ow_val rfl rfl (ex_move rfl) ?_
    refine ow_cmd rfl rfl (ex_callf rfl (fun w h => callM (hul ▸ pSwapRange (a := m - i) (b := m) (n := i) h.im (h.own (p := (g, rowO ys tl 26)) List.mem_cons_self) (h.fresh (p := (g, rowO ys tl 26)) List.mem_cons_self) hrow (by omega) (by omega) (by omega) (by omega)))) (fun v57 us2 ys2 hR hr2 => ?_)
    obtain ⟨hR1, hR2⟩ := hR
    refine ow_nil ?_
    refine qw_end0 rfl (fun w' h => h.givesM hr2 ⟨(hR1.wide (by omega) (by omega)).trans hin, ?_⟩)
    rw [hR2, rotF_eq (by omega)]
    exact hrot
end Go.Proofs.Ytnjomdjkbbhdoaa
