/-
  Walks of the laws: powers of powers.
  No condition.
-/
import Derived.Test.YtnjomdjkbbhdoaaWb9
namespace Go.Proofs.Ytnjomdjkbbhdoaa
open Go.RowKit
set_option linter.unusedVariables false
set_option linter.unusedSimpArgs false
set_option maxRecDepth 100000

theorem sizes_perm {a b : List T} (h : a.Perm b) : sizes a = sizes b := by
  induction h with
  | nil => rfl
  | cons x _ ih => simp [sizes, ih]
  | swap x y l => simp [sizes]; omega
  | trans _ _ h1 h2 => exact h1.trans h2
theorem size_powT {t u : T} : size (powT t u) = size t + size u := by
  obtain ⟨o, n, d, ks⟩ := t
  unfold powT
  simp only [size, T.kids]
  rw [sizes_perm (putB_perm ks u)]
  simp [sizes]; omega
/-- Where the new one stands; what stands ahead and behind. -/
theorem putB_at (ks : List T) (x : T) : ∃ k, k ≤ ks.length ∧ (∀ i (h : i < (putB ks x).length), i < k → (putB ks x)[i] = ks.getD i zeroT) ∧ (∀ (h : k < (putB ks x).length), (putB ks x)[k] = x) ∧
    (∀ i (h : i < (putB ks x).length), k < i → (putB ks x)[i] = ks.getD (i - 1) zeroT) ∧ (k < ks.length → ord x (ks.getD k zeroT) < 0) := by
  have hk := backAt_le ks x ks.length
  have hhi := backAt_hi ks x ks.length
  unfold putB
  generalize backAt ks x ks.length = k at *
  have hl : (ks.take k).length = k := by rw [List.length_take]; omega
  refine ⟨k, hk, fun i h hi => ?_, fun h => ?_, fun i h hi => ?_, fun hk2 => ?_⟩
  · rw [List.getElem_append_left (by omega), List.getElem_take, List.getD_eq_getElem?_getD, List.getElem?_eq_getElem (by omega), Option.getD_some]
  · rw [List.getElem_append_right (by omega)]
    simp [hl]
  · rw [List.getElem_append_right (by omega)]
    obtain ⟨j, hj⟩ : ∃ j, i = k + j + 1 := ⟨i - k - 1, by omega⟩
    subst hj
    have hlt : k + j < ks.length := by simp at h; omega
    simp only [hl, show k + j + 1 - k = j + 1 by omega, List.getElem_cons_succ, List.getElem_drop]
    rw [List.getD_eq_getElem?_getD, show k + j + 1 - 1 = k + j by omega, List.getElem?_eq_getElem hlt, Option.getD_some]
  · have := hhi k (Nat.le_refl _) hk2
    rw [ord_neg]
    omega


def jf (k i : Nat) : Nat := if i ≤ k then i else i - 1
def xf (k i : Nat) : Int := if i ≤ k then 0 else 1
theorem pow_two (t u : T) : pow t u = (zeroT, false) ∨ (pow t u = (powT t u, true) ∧ right t = true ∧ right (powT t u) = true) := by
  unfold pow
  split
  · rename_i h; exact .inr ⟨rfl, h.1, h.2.2.2⟩
  · exact .inl rfl


set_option maxHeartbeats 400000 in
theorem lawPowers0 (t u : T) (hp : pow t u = (zeroT, false)) {σ : Hp} {ca cb : List Value} {w : World} (hi : Imm σ w) (ha : TermC σ ca t) (hb : TermC σ cb u) : Calls Try.prog 9 #[.agg ca.toArray, .agg cb.toArray] w fun e w' => e = .returned (.bool true) ∧ Below w.heap.size w w' := by
  have ha0 := ha
  have hb0 := hb
  obtain ⟨dv, kv, rfl, ho, hn, hd, hk⟩ := ha.opn
  obtain ⟨dv', kv', rfl, ho', hn', hd', hk'⟩ := hb.opn
  obtain ⟨p, c, rfl, hc, hm⟩ := hk.slice
  have hm2 := hm
  unfold maxKids at hm2
  refine enter (St w (fun _ => False) σ [] []) Try.func9 rfl Try.ntmps9 rfl (St.start hi) ?_
  refine cw_seq ?_
  refine cw_region ?_
  refine ow_blk rfl rfl (exw_box rfl) ?_; intro b2
  refine ow_blk rfl rfl (exw_box rfl) ?_; intro b3
  refine ow_val rfl rfl (ex_assign rfl) ?_
  refine ow_nil ?_
  refine qw_seq ?_
  refine cw_seq ?_
  refine cw_region ?_
  refine ow_cv rfl rfl (ex_callf rfl (fun w h => callB (pHead))) ?_
  refine ow_val rfl rfl (ex_assign rfl) ?_
  refine ow_nil ?_
  refine qw_seq ?_
  refine cw_seq ?_
  refine cw_seq ?_
  refine cw_region ?_
  refine ow_val rfl rfl (ex_loadR rfl (by first | exact ld_ownN 0 rfl rfl | exact ld_ownN 1 rfl rfl | exact ld_ownN 2 rfl rfl | exact ld_ownN 3 rfl rfl | exact ld_ownN 4 rfl rfl | exact ld_ownN 5 rfl rfl | exact ld_ownN 6 rfl rfl | exact ld_ownN 7 rfl rfl | exact ld_immT (by assumption) (by assumption))) ?_
  refine ow_cv rfl rfl (ex_callf rfl (fun w h => callB ((rGreat t h.im ha0)))) ?_
  refine ow_val rfl rfl (ex_move rfl) ?_
  refine ow_split (g := some (2, false)) rfl (fun s14 => ?_) (fun s14 => ?_)
  ·
    refine ow_skip rfl (gd_no rfl s14) ?_
    refine ow_skip rfl (gd_no rfl s14) ?_
    refine ow_val rfl rfl (ex_pickt rfl s14 rfl) ?_
    refine ow_nil ?_
    refine qw_seq ?_
    refine cw_cond_t rfl ?_
    refine cw_seq ?_
    refine cw_region ?_
    refine ow_val rfl rfl (ex_move rfl) ?_
    refine ow_val rfl rfl (ex_assign rfl) ?_
    refine ow_nil ?_
    refine qw_seq ?_
    refine cw_ret ?_
    refine qw_then_ret ?_
    refine qw_ret1 rfl rfl (fun w' h => ⟨congrArg (fun z => Ending.returned (.bool z)) ?_, h.ag.below⟩)
    rfl
  ·
    refine ow_val rfl (gd_go rfl s14) (ex_loadR rfl (by first | exact ld_ownN 0 rfl rfl | exact ld_ownN 1 rfl rfl | exact ld_ownN 2 rfl rfl | exact ld_ownN 3 rfl rfl | exact ld_ownN 4 rfl rfl | exact ld_ownN 5 rfl rfl | exact ld_ownN 6 rfl rfl | exact ld_ownN 7 rfl rfl | exact ld_immT (by assumption) (by assumption))) ?_
    refine ow_cv rfl (gd_go rfl s14) (ex_callf rfl (fun w h => callB ((rGreat u h.im hb0)))) ?_
    refine ow_val rfl rfl (ex_pickf rfl s14 rfl) ?_
    refine ow_nil ?_
    refine qw_seq ?_
    refine cw_cond rfl (fun c17 => ?_) (fun c17 => ?_)
    ·
      refine cw_seq ?_
      refine cw_region ?_
      refine ow_val rfl rfl (ex_move rfl) ?_
      refine ow_val rfl rfl (ex_assign rfl) ?_
      refine ow_nil ?_
      refine qw_seq ?_
      refine cw_ret ?_
      refine qw_then_ret ?_
      refine qw_ret1 rfl rfl (fun w' h => ⟨congrArg (fun z => Ending.returned (.bool z)) ?_, h.ag.below⟩)
      rfl
    ·
      refine cw_skip ?_
      refine qw_seq ?_
      refine cw_seq ?_
      refine cw_region ?_
      refine ow_val rfl rfl (ex_loadR rfl (by first | exact ld_ownN 0 rfl rfl | exact ld_ownN 1 rfl rfl | exact ld_ownN 2 rfl rfl | exact ld_ownN 3 rfl rfl | exact ld_ownN 4 rfl rfl | exact ld_ownN 5 rfl rfl | exact ld_ownN 6 rfl rfl | exact ld_ownN 7 rfl rfl | exact ld_immT (by assumption) (by assumption))) ?_
      refine ow_val rfl rfl (ex_loadR rfl (by first | exact ld_ownN 0 rfl rfl | exact ld_ownN 1 rfl rfl | exact ld_ownN 2 rfl rfl | exact ld_ownN 3 rfl rfl | exact ld_ownN 4 rfl rfl | exact ld_ownN 5 rfl rfl | exact ld_ownN 6 rfl rfl | exact ld_ownN 7 rfl rfl | exact ld_immT (by assumption) (by assumption))) ?_
      refine ow_cr rfl rfl (ex_callf rfl (fun w h => callR (pPow h.im ha0 hb0))) (fun v22 τ hl hf hr22 => ?_)
      rw [hp] at hr22
      change RepTB zeroT false _ _ at hr22
      obtain ⟨c1, rfl, ht1⟩ := hr22
      have ht1' := ht1
      obtain ⟨d1, k1, rfl, ho1, hn1, hd1, hk1⟩ := ht1'.opn
      obtain ⟨q, c2, rfl, hc2, hmk⟩ := hk1.slice
      refine ow_val rfl rfl (ex_move rfl) ?_
      refine ow_val rfl rfl (ex_extract rfl rfl) ?_
      refine ow_val rfl rfl (ex_extract rfl rfl) ?_
      refine ow_blk rfl rfl exw_alloc ?_; intro b6
      refine ow_u rfl (exu_storeN 0 rfl rfl rfl rfl ht1.one rfl) ?_
      refine ow_val rfl rfl (ex_assign rfl) ?_
      refine ow_nil ?_
      refine qw_seq ?_
      refine cw_seq ?_
      refine cw_seq ?_
      refine cw_region ?_
      refine ow_val rfl rfl (ex_move rfl) ?_
      refine ow_val rfl rfl (ex_not rfl) ?_
      refine ow_nil ?_
      refine qw_seq ?_
      refine cw_cond rfl (fun c26 => ?_) (fun c26 => ?_)
      ·
        refine cw_seq ?_
        refine cw_region ?_
        refine ow_val rfl rfl (ex_move rfl) ?_
        refine ow_val rfl rfl (ex_move rfl) ?_
        refine ow_split (g := some (1, true)) rfl (fun s28 => ?_) (fun s28 => ?_)
        ·
          refine ow_val rfl (gd_go rfl s28) (ex_field rfl) ?_
          refine ow_val rfl (gd_go rfl s28) (ex_load1 rfl (by first | exact ld_own1 0 rfl rfl | exact ld_own1 1 rfl rfl | exact ld_own1 2 rfl rfl | exact ld_own1 3 rfl rfl | exact ld_own1 4 rfl rfl | exact ld_own1 5 rfl rfl | exact ld_own1 6 rfl rfl | exact ld_own1 7 rfl rfl | exact ld_imm1 (by assumption))) ?_
          refine ow_val rfl (gd_go rfl s28) (ex_eql rfl rfl) ?_
          refine ow_val rfl rfl (ex_pickt rfl s28 rfl) ?_
          refine ow_val rfl rfl (ex_move rfl) ?_
          refine ow_split (g := some (6, true)) rfl (fun s33 => ?_) (fun s33 => ?_)
          ·
            refine ow_val rfl (gd_go rfl s33) (ex_field rfl) ?_
            refine ow_val rfl (gd_go rfl s33) (ex_load1 rfl (by first | exact ld_own1 0 rfl rfl | exact ld_own1 1 rfl rfl | exact ld_own1 2 rfl rfl | exact ld_own1 3 rfl rfl | exact ld_own1 4 rfl rfl | exact ld_own1 5 rfl rfl | exact ld_own1 6 rfl rfl | exact ld_own1 7 rfl rfl | exact ld_imm1 (by assumption))) ?_
            refine ow_val rfl (gd_go rfl s33) (ex_len (ty := 0) rfl) ?_
            refine ow_val rfl (gd_go rfl s33) (ex_eql rfl rfl) ?_
            refine ow_val rfl rfl (ex_pickt rfl s33 rfl) ?_
            refine ow_val rfl rfl (ex_assign rfl) ?_
            refine ow_nil ?_
            refine qw_seq ?_
            refine cw_ret ?_
            refine qw_then_ret ?_
            refine qw_ret1 rfl rfl (fun w' h => ⟨congrArg (fun z => Ending.returned (.bool z)) ?_, h.ag.below⟩)
            decide
          ·
            exact absurd s33 (by decide)
        ·
          exact absurd s28 (by decide)
      ·
        simp at c26

set_option maxHeartbeats 400000 in
theorem lawPowers1 (t u : T) (hp : pow t u = (powT t u, true)) (hr : right t = true) (hrp : right (powT t u) = true) {σ : Hp} {ca cb : List Value} {w : World} (hi : Imm σ w) (ha : TermC σ ca t) (hb : TermC σ cb u) : Calls Try.prog 9 #[.agg ca.toArray, .agg cb.toArray] w fun e w' => e = .returned (.bool true) ∧ Below w.heap.size w w' := by
  have ha0 := ha
  have hb0 := hb
  obtain ⟨dv, kv, rfl, ho, hn, hd, hk⟩ := ha.opn
  obtain ⟨dv', kv', rfl, ho', hn', hd', hk'⟩ := hb.opn
  obtain ⟨p, c, rfl, hc, hm⟩ := hk.slice
  have hm2 := hm
  unfold maxKids at hm2
  obtain ⟨k, hkle, hlo, hat, hhi, hgt⟩ := putB_at t.kids u
  have hpl := putB_len t.kids u
  refine enter (St w (fun _ => False) σ [] []) Try.func9 rfl Try.ntmps9 rfl (St.start hi) ?_
  refine cw_seq ?_
  refine cw_region ?_
  refine ow_blk rfl rfl (exw_box rfl) ?_; intro b2
  refine ow_blk rfl rfl (exw_box rfl) ?_; intro b3
  refine ow_val rfl rfl (ex_assign rfl) ?_
  refine ow_nil ?_
  refine qw_seq ?_
  refine cw_seq ?_
  refine cw_region ?_
  refine ow_cv rfl rfl (ex_callf rfl (fun w h => callB (pHead))) ?_
  refine ow_val rfl rfl (ex_assign rfl) ?_
  refine ow_nil ?_
  refine qw_seq ?_
  refine cw_seq ?_
  refine cw_seq ?_
  refine cw_region ?_
  refine ow_val rfl rfl (ex_loadR rfl (by first | exact ld_ownN 0 rfl rfl | exact ld_ownN 1 rfl rfl | exact ld_ownN 2 rfl rfl | exact ld_ownN 3 rfl rfl | exact ld_ownN 4 rfl rfl | exact ld_ownN 5 rfl rfl | exact ld_ownN 6 rfl rfl | exact ld_ownN 7 rfl rfl | exact ld_immT (by assumption) (by assumption))) ?_
  refine ow_cv rfl rfl (ex_callf rfl (fun w h => callB ((rGreat t h.im ha0)))) ?_
  refine ow_val rfl rfl (ex_move rfl) ?_
  refine ow_split (g := some (2, false)) rfl (fun s14 => ?_) (fun s14 => ?_)
  ·
    refine ow_skip rfl (gd_no rfl s14) ?_
    refine ow_skip rfl (gd_no rfl s14) ?_
    refine ow_val rfl rfl (ex_pickt rfl s14 rfl) ?_
    refine ow_nil ?_
    refine qw_seq ?_
    refine cw_cond_t rfl ?_
    refine cw_seq ?_
    refine cw_region ?_
    refine ow_val rfl rfl (ex_move rfl) ?_
    refine ow_val rfl rfl (ex_assign rfl) ?_
    refine ow_nil ?_
    refine qw_seq ?_
    refine cw_ret ?_
    refine qw_then_ret ?_
    refine qw_ret1 rfl rfl (fun w' h => ⟨congrArg (fun z => Ending.returned (.bool z)) ?_, h.ag.below⟩)
    rfl
  ·
    refine ow_val rfl (gd_go rfl s14) (ex_loadR rfl (by first | exact ld_ownN 0 rfl rfl | exact ld_ownN 1 rfl rfl | exact ld_ownN 2 rfl rfl | exact ld_ownN 3 rfl rfl | exact ld_ownN 4 rfl rfl | exact ld_ownN 5 rfl rfl | exact ld_ownN 6 rfl rfl | exact ld_ownN 7 rfl rfl | exact ld_immT (by assumption) (by assumption))) ?_
    refine ow_cv rfl (gd_go rfl s14) (ex_callf rfl (fun w h => callB ((rGreat u h.im hb0)))) ?_
    refine ow_val rfl rfl (ex_pickf rfl s14 rfl) ?_
    refine ow_nil ?_
    refine qw_seq ?_
    refine cw_cond rfl (fun c17 => ?_) (fun c17 => ?_)
    ·
      refine cw_seq ?_
      refine cw_region ?_
      refine ow_val rfl rfl (ex_move rfl) ?_
      refine ow_val rfl rfl (ex_assign rfl) ?_
      refine ow_nil ?_
      refine qw_seq ?_
      refine cw_ret ?_
      refine qw_then_ret ?_
      refine qw_ret1 rfl rfl (fun w' h => ⟨congrArg (fun z => Ending.returned (.bool z)) ?_, h.ag.below⟩)
      rfl
    ·
      have hst : size t ≤ 2000 ∧ size u ≤ 2000 := by have q1 := of_decide_eq_false c17; have q2 := of_decide_eq_false s14; omega
      refine cw_skip ?_
      refine qw_seq ?_
      refine cw_seq ?_
      refine cw_region ?_
      refine ow_val rfl rfl (ex_loadR rfl (by first | exact ld_ownN 0 rfl rfl | exact ld_ownN 1 rfl rfl | exact ld_ownN 2 rfl rfl | exact ld_ownN 3 rfl rfl | exact ld_ownN 4 rfl rfl | exact ld_ownN 5 rfl rfl | exact ld_ownN 6 rfl rfl | exact ld_ownN 7 rfl rfl | exact ld_immT (by assumption) (by assumption))) ?_
      refine ow_val rfl rfl (ex_loadR rfl (by first | exact ld_ownN 0 rfl rfl | exact ld_ownN 1 rfl rfl | exact ld_ownN 2 rfl rfl | exact ld_ownN 3 rfl rfl | exact ld_ownN 4 rfl rfl | exact ld_ownN 5 rfl rfl | exact ld_ownN 6 rfl rfl | exact ld_ownN 7 rfl rfl | exact ld_immT (by assumption) (by assumption))) ?_
      refine ow_cr rfl rfl (ex_callf rfl (fun w h => callR (pPow h.im ha0 hb0))) (fun v22 τ hl hf hr22 => ?_)
      rw [hp] at hr22
      change RepTB (powT t u) true _ _ at hr22
      obtain ⟨c1, rfl, ht1⟩ := hr22
      have ht1' := ht1
      obtain ⟨d1, k1, rfl, ho1, hn1, hd1, hk1⟩ := ht1'.opn
      obtain ⟨q, c2, rfl, hc2, hmk⟩ := hk1.slice
      refine ow_val rfl rfl (ex_move rfl) ?_
      refine ow_val rfl rfl (ex_extract rfl rfl) ?_
      refine ow_val rfl rfl (ex_extract rfl rfl) ?_
      refine ow_blk rfl rfl exw_alloc ?_; intro b6
      refine ow_u rfl (exu_storeN 0 rfl rfl rfl rfl ht1.one rfl) ?_
      refine ow_val rfl rfl (ex_assign rfl) ?_
      refine ow_nil ?_
      refine qw_seq ?_
      refine cw_seq ?_
      refine cw_seq ?_
      refine cw_region ?_
      refine ow_val rfl rfl (ex_move rfl) ?_
      refine ow_val rfl rfl (ex_not rfl) ?_
      refine ow_nil ?_
      refine qw_seq ?_
      refine cw_cond rfl (fun c26 => ?_) (fun c26 => ?_)
      ·
        simp at c26
      ·
        refine cw_skip ?_
        refine qw_seq ?_
        refine cw_seq ?_
        refine cw_seq ?_
        refine flow_sound 23 (by kernel_rfl) ?_
        refine flow_val rfl (ex_loadR rfl (by first | exact ld_ownN 0 rfl rfl | exact ld_ownN 1 rfl rfl | exact ld_ownN 2 rfl rfl | exact ld_ownN 3 rfl rfl | exact ld_ownN 4 rfl rfl | exact ld_ownN 5 rfl rfl | exact ld_ownN 6 rfl rfl | exact ld_ownN 7 rfl rfl | exact ld_immT (by assumption) (by assumption))) ?_
        refine flow_cv rfl (ex_callf rfl (fun w h => callB ((pRight _ h.im ht1)))) ?_
        refine flow_val rfl (ex_not rfl) ?_
        refine flow_val rfl (ex_move rfl) ?_
        refine flow_split rfl (fun s42 => ?_) (fun s42 => ?_)
        ·
          rw [hrp] at s42; cases s42
        ·
          refine flow_val (gd_go rfl s42) (ex_field rfl) ?_
          refine flow_val (gd_go rfl s42) (ex_load1 rfl (by first | exact ld_own1 0 rfl rfl | exact ld_own1 1 rfl rfl | exact ld_own1 2 rfl rfl | exact ld_own1 3 rfl rfl | exact ld_own1 4 rfl rfl | exact ld_own1 5 rfl rfl | exact ld_own1 6 rfl rfl | exact ld_own1 7 rfl rfl | exact ld_imm1 (by assumption))) ?_
          refine flow_val (gd_go rfl s42) (ex_len (ty := 0) rfl) ?_
          refine flow_val (gd_go rfl s42) (ex_field rfl) ?_
          refine flow_val (gd_go rfl s42) (ex_load1 rfl (by first | exact ld_own1 0 rfl rfl | exact ld_own1 1 rfl rfl | exact ld_own1 2 rfl rfl | exact ld_own1 3 rfl rfl | exact ld_own1 4 rfl rfl | exact ld_own1 5 rfl rfl | exact ld_own1 6 rfl rfl | exact ld_own1 7 rfl rfl | exact ld_imm1 (by assumption))) ?_
          refine flow_val (gd_go rfl s42) (ex_len (ty := 0) rfl) ?_
          refine flow_val (gd_go rfl s42) (ex_addi (z := ((t.kids.length + 1 : Nat) : Int)) rfl rfl (by omega) (by omega) (by omega)) ?_
          refine flow_val (gd_go rfl s42) (ex_neq rfl rfl) ?_
          refine flow_val rfl (ex_pickf rfl s42 rfl) ?_
          refine flow_val rfl (ex_move rfl) ?_
          refine flow_split rfl (fun s52 => ?_) (fun s52 => ?_)
          ·
            exact absurd (by rw [show (powT t u).kids.length = t.kids.length + 1 from hpl]) (of_decide_eq_true s52)
          ·
            refine flow_val (gd_go rfl s52) (ex_loadR rfl (by first | exact ld_ownN 0 rfl rfl | exact ld_ownN 1 rfl rfl | exact ld_ownN 2 rfl rfl | exact ld_ownN 3 rfl rfl | exact ld_ownN 4 rfl rfl | exact ld_ownN 5 rfl rfl | exact ld_ownN 6 rfl rfl | exact ld_ownN 7 rfl rfl | exact ld_immT (by assumption) (by assumption))) ?_
            refine flow_cv (gd_go rfl s52) (ex_callf rfl (fun w h => callB ((pSize _ h.im ht1 (by rw [size_powT]; unfold maxKids; omega))))) ?_
            refine flow_val (gd_go rfl s52) (ex_loadR rfl (by first | exact ld_ownN 0 rfl rfl | exact ld_ownN 1 rfl rfl | exact ld_ownN 2 rfl rfl | exact ld_ownN 3 rfl rfl | exact ld_ownN 4 rfl rfl | exact ld_ownN 5 rfl rfl | exact ld_ownN 6 rfl rfl | exact ld_ownN 7 rfl rfl | exact ld_immT (by assumption) (by assumption))) ?_
            refine flow_cv (gd_go rfl s52) (ex_callf rfl (fun w h => callB ((pSize _ h.im (ha0.le hl) (by unfold maxKids; omega))))) ?_
            refine flow_val (gd_go rfl s52) (ex_loadR rfl (by first | exact ld_ownN 0 rfl rfl | exact ld_ownN 1 rfl rfl | exact ld_ownN 2 rfl rfl | exact ld_ownN 3 rfl rfl | exact ld_ownN 4 rfl rfl | exact ld_ownN 5 rfl rfl | exact ld_ownN 6 rfl rfl | exact ld_ownN 7 rfl rfl | exact ld_immT (by assumption) (by assumption))) ?_
            refine flow_cv (gd_go rfl s52) (ex_callf rfl (fun w h => callB ((pSize _ h.im (hb0.le hl) (by unfold maxKids; omega))))) ?_
            refine flow_val (gd_go rfl s52) (ex_addi (z := ((size t + size u : Nat) : Int)) rfl rfl (by omega) (by omega) (by omega)) ?_
            refine flow_val (gd_go rfl s52) (ex_neq rfl rfl) ?_
            refine flow_val rfl (ex_pickf rfl s52 rfl) ?_
            refine flow_nil ?_
            refine fin_is ?_
            refine fin_is ?_
            refine fin_is ?_
            refine fin_is ?_
            refine fin_is ?_
            refine fin_is ?_
            refine fin_is ?_
            refine fin_is ?_
            refine fin_is ?_
            refine fin_is ?_
            refine fin_is ?_
            refine fin_is ?_
            refine fin_is ?_
            refine fin_is ?_
            refine fin_is ?_
            refine fin_is ?_
            refine fin_is ?_
            refine fin_is ?_
            refine fin_is ?_
            refine fin_is ?_
            refine fin_is ?_
            refine fin_is ?_
            refine fin_is ?_
            refine fin_nil ?_
            refine ow_nil ?_
            refine qw_seq ?_
            refine cw_cond rfl (fun c61 => ?_) (fun c61 => ?_)
            ·
              exact absurd (by rw [size_powT]) (of_decide_eq_true c61)
            ·
              refine cw_skip ?_
              refine qw_seq ?_
              refine cw_seq ?_
              refine cw_region ?_
              refine ow_val rfl rfl (ex_assign rfl) ?_
              refine ow_nil ?_
              refine qw_seq ?_
              refine cw_seq ?_
              refine cw_region ?_
              refine ow_val rfl rfl (ex_assign rfl) ?_
              refine ow_nil ?_
              refine qw_seq ?_
              refine cw_seq ?_
              refine cw_seq ?_
              refine cw_region ?_
              refine ow_val rfl rfl (ex_assign rfl) ?_
              refine ow_nil ?_
              refine qw_seq ?_
              refine cw_block ?_
              refine cw_loopS (α := Nat) (fun i => [(2, .pointer (some ⟨b2, 0, none⟩)), (3, .pointer (some ⟨b3, 0, none⟩)), (5, .bool true), (6, .pointer (some ⟨b6, 0, none⟩)), (8, .int .i64 (jf k i : Int)), (9, .int .i64 (xf k i)), (10, .int .i64 (i : Int))]) (fun i => i ≤ t.kids.length + 1) (fun i => t.kids.length + 1 - i) 0 (subL_cons (lkv rfl (by first | rfl | simp [jf, xf])) (subL_cons (lkv rfl (by first | rfl | simp [jf, xf])) (subL_cons (lkv rfl (by first | rfl | simp [jf, xf])) (subL_cons (lkv rfl (by first | rfl | simp [jf, xf])) (subL_cons (lkv rfl (by first | rfl | simp [jf, xf])) (subL_cons (lkv rfl (by first | rfl | simp [jf, xf])) (subL_cons (lkv rfl (by first | rfl | simp [jf, xf])) (subL_nil _)))))))) (Nat.zero_le _) ?_
              intro i hle
              refine cw_seq ?_
              refine cw_seq ?_
              refine cw_region ?_
              refine ow_val rfl rfl (ex_move rfl) ?_
              refine ow_val rfl rfl (ex_field rfl) ?_
              refine ow_val rfl rfl (ex_load1 rfl (by first | exact ld_own1 0 rfl rfl | exact ld_own1 1 rfl rfl | exact ld_own1 2 rfl rfl | exact ld_own1 3 rfl rfl | exact ld_own1 4 rfl rfl | exact ld_own1 5 rfl rfl | exact ld_own1 6 rfl rfl | exact ld_own1 7 rfl rfl | exact ld_imm1 (by assumption))) ?_
              refine ow_val rfl rfl (ex_len (ty := 0) rfl) ?_
              refine ow_val rfl rfl (ex_lss rfl rfl) ?_
              refine ow_nil ?_
              refine qw_seq ?_
              refine cw_cond rfl (fun c66 => ?_) (fun c66 => ?_)
              ·
                refine cw_skip ?_
                refine qw_seq ?_
                refine cw_seq ?_
                refine cw_block ?_
                refine cw_seq ?_
                have hlt : i < (powT t u).kids.length := by simpa using c66
                have hlt2 : i < (putB t.kids u).length := hlt
                obtain ⟨bk, f, ck, cse, e1, e2, hce, hte⟩ := hk1.get i hlt
                cases e1
                have hkl : t.kids.length ≤ 2000 := by
                  have h1 := length_le_sizes t.kids
                  have h2 : size t = sizes t.kids + 1 := by
                    cases t; rfl
                  omega
                refine flow_sound 19 (by kernel_rfl) ?_
                refine flow_val rfl (ex_move rfl) ?_
                refine flow_val rfl (ex_field rfl) ?_
                refine flow_val rfl (ex_load1 rfl (by first | exact ld_own1 0 rfl rfl | exact ld_own1 1 rfl rfl | exact ld_own1 2 rfl rfl | exact ld_own1 3 rfl rfl | exact ld_own1 4 rfl rfl | exact ld_own1 5 rfl rfl | exact ld_own1 6 rfl rfl | exact ld_own1 7 rfl rfl | exact ld_imm1 (by assumption))) ?_
                refine flow_val rfl (ex_len (ty := 0) rfl) ?_
                refine flow_val rfl (ex_lss rfl rfl) ?_
                refine flow_val rfl (ex_move rfl) ?_
                refine flow_split rfl (fun s74 => ?_) (fun s74 => ?_)
                ·
                  have hjlt : jf k i < t.kids.length := by simpa using s74
                  obtain ⟨bk2, f2, ck2, csf, e1', e2', hcf, htf⟩ := (hk.le hl).get (jf k i) hjlt
                  cases e1'
                  refine flow_val (gd_go rfl s74) (ex_field rfl) ?_
                  refine flow_val (gd_go rfl s74) (ex_load1 rfl (by first | exact ld_own1 0 rfl rfl | exact ld_own1 1 rfl rfl | exact ld_own1 2 rfl rfl | exact ld_own1 3 rfl rfl | exact ld_own1 4 rfl rfl | exact ld_own1 5 rfl rfl | exact ld_own1 6 rfl rfl | exact ld_own1 7 rfl rfl | exact ld_imm1 (by assumption))) ?_
                  refine flow_val (gd_go rfl s74) (ex_move rfl) ?_
                  refine flow_val (gd_go rfl s74) (ex_index_nat rfl rfl (by omega)) ?_
                  refine flow_val (gd_go rfl s74) (ex_loadR rfl (by first | exact ld_ownN 0 rfl rfl | exact ld_ownN 1 rfl rfl | exact ld_ownN 2 rfl rfl | exact ld_ownN 3 rfl rfl | exact ld_ownN 4 rfl rfl | exact ld_ownN 5 rfl rfl | exact ld_ownN 6 rfl rfl | exact ld_ownN 7 rfl rfl | exact ld_immT (by assumption) (by assumption))) ?_
                  refine flow_val (gd_go rfl s74) (ex_field rfl) ?_
                  refine flow_val (gd_go rfl s74) (ex_load1 rfl (by first | exact ld_own1 0 rfl rfl | exact ld_own1 1 rfl rfl | exact ld_own1 2 rfl rfl | exact ld_own1 3 rfl rfl | exact ld_own1 4 rfl rfl | exact ld_own1 5 rfl rfl | exact ld_own1 6 rfl rfl | exact ld_own1 7 rfl rfl | exact ld_imm1 (by assumption))) ?_
                  refine flow_val (gd_go rfl s74) (ex_move rfl) ?_
                  refine flow_val (gd_go rfl s74) (ex_index_nat rfl rfl (by omega)) ?_
                  refine flow_val (gd_go rfl s74) (ex_loadR rfl (by first | exact ld_ownN 0 rfl rfl | exact ld_ownN 1 rfl rfl | exact ld_ownN 2 rfl rfl | exact ld_ownN 3 rfl rfl | exact ld_ownN 4 rfl rfl | exact ld_ownN 5 rfl rfl | exact ld_ownN 6 rfl rfl | exact ld_ownN 7 rfl rfl | exact ld_immT (by assumption) (by assumption))) ?_
                  refine flow_cv (gd_go rfl s74) (ex_callf rfl (fun w h => callB ((pOrder _ _ h.im hte htf)))) ?_
                  refine flow_val (gd_go rfl s74) (ex_eql rfl rfl) ?_
                  refine flow_val rfl (ex_pickt rfl s74 rfl) ?_
                  refine flow_nil ?_
                  refine fin_is ?_
                  refine fin_is ?_
                  refine fin_is ?_
                  refine fin_is ?_
                  refine fin_is ?_
                  refine fin_is ?_
                  refine fin_is ?_
                  refine fin_is ?_
                  refine fin_is ?_
                  refine fin_is ?_
                  refine fin_is ?_
                  refine fin_is ?_
                  refine fin_is ?_
                  refine fin_is ?_
                  refine fin_is ?_
                  refine fin_is ?_
                  refine fin_is ?_
                  refine fin_is ?_
                  refine fin_is ?_
                  refine fin_nil ?_
                  refine ow_nil ?_
                  refine qw_seq ?_
                  refine cw_cond rfl (fun c87 => ?_) (fun c87 => ?_)
                  ·
                    have hz : ord (putB t.kids u)[i] t.kids[jf k i] = 0 := of_decide_eq_true c87
                    have hik : i ≠ k := by
                      rintro rfl
                      have e : jf i i = i := by simp [jf]
                      simp only [e] at hz hjlt
                      rw [hat hlt2] at hz
                      have := hgt hjlt
                      rw [List.getD_eq_getElem?_getD, List.getElem?_eq_getElem hjlt, Option.getD_some] at this
                      omega
                    have hj : jf k (i + 1) = jf k i + 1 := by unfold jf; split <;> split <;> omega
                    have hx : xf k (i + 1) = xf k i := by unfold xf; split <;> split <;> omega
                    refine cw_region ?_
                    refine ow_val rfl rfl (ex_move rfl) ?_
                    refine ow_val rfl rfl (ex_addi (z := ((jf k i + 1 : Nat) : Int)) rfl rfl (by omega) (by omega) (by omega)) ?_
                    refine ow_val rfl rfl (ex_assign rfl) ?_
                    refine ow_nil ?_
                    refine qw_block_normal ?_
                    refine qw_seq ?_
                    refine cw_region ?_
                    refine ow_val rfl rfl (ex_move rfl) ?_
                    refine ow_val rfl rfl (ex_addi (z := ((i + 1 : Nat) : Int)) rfl rfl (by omega) (by omega) (by omega)) ?_
                    refine ow_val rfl rfl (ex_assign rfl) ?_
                    refine ow_nil ?_
                    exact qw_roundS (i + 1) (by omega) (subL_cons (lkv rfl (by first | rfl | rw [hj] | rw [hx])) (subL_cons (lkv rfl (by first | rfl | rw [hj] | rw [hx])) (subL_cons (lkv rfl (by first | rfl | rw [hj] | rw [hx])) (subL_cons (lkv rfl (by first | rfl | rw [hj] | rw [hx])) (subL_cons (lkv rfl (by first | rfl | rw [hj] | rw [hx])) (subL_cons (lkv rfl (by first | rfl | rw [hj] | rw [hx])) (subL_cons (lkv rfl (by first | rfl | rw [hj] | rw [hx])) (subL_nil _)))))))) (by omega)
                  ·
                    have hz : ord (putB t.kids u)[i] t.kids[jf k i] ≠ 0 := of_decide_eq_false c87
                    have hik' : i = k := by
                      rcases Nat.lt_trichotomy i k with h1 | h1 | h1
                      · exfalso
                        have e : jf k i = i := by unfold jf; rw [if_pos (by omega)]
                        simp only [e] at hz hjlt
                        rw [hlo i hlt2 h1, List.getD_eq_getElem?_getD, List.getElem?_eq_getElem hjlt, Option.getD_some] at hz
                        exact hz (ord_self _)
                      · exact h1
                      · exfalso
                        have e : jf k i = i - 1 := by unfold jf; rw [if_neg (by omega)]
                        simp only [e] at hz hjlt
                        rw [hhi i hlt2 h1, List.getD_eq_getElem?_getD, List.getElem?_eq_getElem hjlt, Option.getD_some] at hz
                        exact hz (ord_self _)
                    refine cw_seq ?_
                    refine flow_sound 8 (by kernel_rfl) ?_
                    refine flow_val rfl (ex_field rfl) ?_
                    refine flow_val rfl (ex_load1 rfl (by first | exact ld_own1 0 rfl rfl | exact ld_own1 1 rfl rfl | exact ld_own1 2 rfl rfl | exact ld_own1 3 rfl rfl | exact ld_own1 4 rfl rfl | exact ld_own1 5 rfl rfl | exact ld_own1 6 rfl rfl | exact ld_own1 7 rfl rfl | exact ld_imm1 (by assumption))) ?_
                    refine flow_val rfl (ex_move rfl) ?_
                    refine flow_val rfl (ex_index_nat rfl rfl (by omega)) ?_
                    refine flow_val rfl (ex_loadR rfl (by first | exact ld_ownN 0 rfl rfl | exact ld_ownN 1 rfl rfl | exact ld_ownN 2 rfl rfl | exact ld_ownN 3 rfl rfl | exact ld_ownN 4 rfl rfl | exact ld_ownN 5 rfl rfl | exact ld_ownN 6 rfl rfl | exact ld_ownN 7 rfl rfl | exact ld_immT (by assumption) (by assumption))) ?_
                    refine flow_val rfl (ex_loadR rfl (by first | exact ld_ownN 0 rfl rfl | exact ld_ownN 1 rfl rfl | exact ld_ownN 2 rfl rfl | exact ld_ownN 3 rfl rfl | exact ld_ownN 4 rfl rfl | exact ld_ownN 5 rfl rfl | exact ld_ownN 6 rfl rfl | exact ld_ownN 7 rfl rfl | exact ld_immT (by assumption) (by assumption))) ?_
                    refine flow_cv rfl (ex_callf rfl (fun w h => callB ((pOrder _ _ h.im hte (hb0.le hl))))) ?_
                    refine flow_val rfl (ex_eql rfl rfl) ?_
                    refine flow_nil ?_
                    refine fin_is ?_
                    refine fin_is ?_
                    refine fin_is ?_
                    refine fin_is ?_
                    refine fin_is ?_
                    refine fin_is ?_
                    refine fin_is ?_
                    refine fin_is ?_
                    refine fin_nil ?_
                    refine ow_nil ?_
                    refine qw_seq ?_
                    refine cw_cond rfl (fun c97 => ?_) (fun c97 => ?_)
                    ·
                      have hik := hik'
                      have hj : jf k (i + 1) = jf k i := by unfold jf; split <;> split <;> omega
                      have hx : xf k (i + 1) = 1 := by unfold xf; rw [if_neg (by omega)]
                      have hx0 : xf k i = 0 := by unfold xf; rw [if_pos (by omega)]
                      refine cw_region ?_
                      refine ow_val rfl rfl (ex_move rfl) ?_
                      refine ow_val rfl rfl (ex_addi (z := (1 : Int)) rfl rfl (by omega) (by omega) (by omega)) ?_
                      refine ow_val rfl rfl (ex_assign rfl) ?_
                      refine ow_nil ?_
                      refine qw_block_normal ?_
                      refine qw_seq ?_
                      refine cw_region ?_
                      refine ow_val rfl rfl (ex_move rfl) ?_
                      refine ow_val rfl rfl (ex_addi (z := ((i + 1 : Nat) : Int)) rfl rfl (by omega) (by omega) (by omega)) ?_
                      refine ow_val rfl rfl (ex_assign rfl) ?_
                      refine ow_nil ?_
                      exact qw_roundS (i + 1) (by omega) (subL_cons (lkv rfl (by first | rfl | rw [hj] | rw [hx])) (subL_cons (lkv rfl (by first | rfl | rw [hj] | rw [hx])) (subL_cons (lkv rfl (by first | rfl | rw [hj] | rw [hx])) (subL_cons (lkv rfl (by first | rfl | rw [hj] | rw [hx])) (subL_cons (lkv rfl (by first | rfl | rw [hj] | rw [hx])) (subL_cons (lkv rfl (by first | rfl | rw [hj] | rw [hx])) (subL_cons (lkv rfl (by first | rfl | rw [hj] | rw [hx])) (subL_nil _)))))))) (by omega)
                    ·
                      subst hik'
                      rw [show (powT t u).kids[i] = u from hat hlt2, ord_self] at c97
                      simp at c97
                ·
                  have hik' : i = k := by
                    simp [jf] at s74
                    split at s74 <;> omega
                  refine flow_skip (gd_no rfl s74) ?_
                  refine flow_skip (gd_no rfl s74) ?_
                  refine flow_skip (gd_no rfl s74) ?_
                  refine flow_skip (gd_no rfl s74) ?_
                  refine flow_skip (gd_no rfl s74) ?_
                  refine flow_skip (gd_no rfl s74) ?_
                  refine flow_skip (gd_no rfl s74) ?_
                  refine flow_skip (gd_no rfl s74) ?_
                  refine flow_skip (gd_no rfl s74) ?_
                  refine flow_skip (gd_no rfl s74) ?_
                  refine flow_skip (gd_no rfl s74) ?_
                  refine flow_skip (gd_no rfl s74) ?_
                  refine flow_val rfl (ex_pickf rfl s74 rfl) ?_
                  refine flow_nil ?_
                  refine fin_is ?_
                  refine fin_is ?_
                  refine fin_is ?_
                  refine fin_is ?_
                  refine fin_is ?_
                  refine fin_is ?_
                  refine fin_is ?_
                  refine fin_is ?_
                  refine fin_is ?_
                  refine fin_is ?_
                  refine fin_is ?_
                  refine fin_is ?_
                  refine fin_is ?_
                  refine fin_is ?_
                  refine fin_is ?_
                  refine fin_is ?_
                  refine fin_is ?_
                  refine fin_is ?_
                  refine fin_is ?_
                  refine fin_nil ?_
                  refine ow_nil ?_
                  refine qw_seq ?_
                  refine cw_cond_f rfl ?_
                  refine cw_seq ?_
                  refine flow_sound 8 (by kernel_rfl) ?_
                  refine flow_val rfl (ex_field rfl) ?_
                  refine flow_val rfl (ex_load1 rfl (by first | exact ld_own1 0 rfl rfl | exact ld_own1 1 rfl rfl | exact ld_own1 2 rfl rfl | exact ld_own1 3 rfl rfl | exact ld_own1 4 rfl rfl | exact ld_own1 5 rfl rfl | exact ld_own1 6 rfl rfl | exact ld_own1 7 rfl rfl | exact ld_imm1 (by assumption))) ?_
                  refine flow_val rfl (ex_move rfl) ?_
                  refine flow_val rfl (ex_index_nat rfl rfl (by omega)) ?_
                  refine flow_val rfl (ex_loadR rfl (by first | exact ld_ownN 0 rfl rfl | exact ld_ownN 1 rfl rfl | exact ld_ownN 2 rfl rfl | exact ld_ownN 3 rfl rfl | exact ld_ownN 4 rfl rfl | exact ld_ownN 5 rfl rfl | exact ld_ownN 6 rfl rfl | exact ld_ownN 7 rfl rfl | exact ld_immT (by assumption) (by assumption))) ?_
                  refine flow_val rfl (ex_loadR rfl (by first | exact ld_ownN 0 rfl rfl | exact ld_ownN 1 rfl rfl | exact ld_ownN 2 rfl rfl | exact ld_ownN 3 rfl rfl | exact ld_ownN 4 rfl rfl | exact ld_ownN 5 rfl rfl | exact ld_ownN 6 rfl rfl | exact ld_ownN 7 rfl rfl | exact ld_immT (by assumption) (by assumption))) ?_
                  refine flow_cv rfl (ex_callf rfl (fun w h => callB ((pOrder _ _ h.im hte (hb0.le hl))))) ?_
                  refine flow_val rfl (ex_eql rfl rfl) ?_
                  refine flow_nil ?_
                  refine fin_is ?_
                  refine fin_is ?_
                  refine fin_is ?_
                  refine fin_is ?_
                  refine fin_is ?_
                  refine fin_is ?_
                  refine fin_is ?_
                  refine fin_is ?_
                  refine fin_nil ?_
                  refine ow_nil ?_
                  refine qw_seq ?_
                  refine cw_cond rfl (fun c97 => ?_) (fun c97 => ?_)
                  ·
                    have hik := hik'
                    have hj : jf k (i + 1) = jf k i := by unfold jf; split <;> split <;> omega
                    have hx : xf k (i + 1) = 1 := by unfold xf; rw [if_neg (by omega)]
                    have hx0 : xf k i = 0 := by unfold xf; rw [if_pos (by omega)]
                    refine cw_region ?_
                    refine ow_val rfl rfl (ex_move rfl) ?_
                    refine ow_val rfl rfl (ex_addi (z := (1 : Int)) rfl rfl (by omega) (by omega) (by omega)) ?_
                    refine ow_val rfl rfl (ex_assign rfl) ?_
                    refine ow_nil ?_
                    refine qw_block_normal ?_
                    refine qw_seq ?_
                    refine cw_region ?_
                    refine ow_val rfl rfl (ex_move rfl) ?_
                    refine ow_val rfl rfl (ex_addi (z := ((i + 1 : Nat) : Int)) rfl rfl (by omega) (by omega) (by omega)) ?_
                    refine ow_val rfl rfl (ex_assign rfl) ?_
                    refine ow_nil ?_
                    exact qw_roundS (i + 1) (by omega) (subL_cons (lkv rfl (by first | rfl | rw [hj] | rw [hx])) (subL_cons (lkv rfl (by first | rfl | rw [hj] | rw [hx])) (subL_cons (lkv rfl (by first | rfl | rw [hj] | rw [hx])) (subL_cons (lkv rfl (by first | rfl | rw [hj] | rw [hx])) (subL_cons (lkv rfl (by first | rfl | rw [hj] | rw [hx])) (subL_cons (lkv rfl (by first | rfl | rw [hj] | rw [hx])) (subL_cons (lkv rfl (by first | rfl | rw [hj] | rw [hx])) (subL_nil _)))))))) (by omega)
                  ·
                    subst hik'
                    rw [show (powT t u).kids[i] = u from hat hlt2, ord_self] at c97
                    simp at c97
              ·
                have hil : i = t.kids.length + 1 := by
                  have : (powT t u).kids.length = t.kids.length + 1 := hpl
                  simp [this] at c66
                  omega
                have hend : jf k i = t.kids.length := by unfold jf; rw [if_neg (by omega)]; omega
                have hendx : xf k i = 1 := by unfold xf; rw [if_neg (by omega)]
                refine cw_exit ?_
                refine qw_then_exit ?_
                refine qw_then_exit ?_
                refine qw_block_exit ?_
                refine qw_seq ?_
                refine cw_seq ?_
                refine cw_region ?_
                refine ow_val rfl rfl (ex_move rfl) ?_
                refine ow_val rfl rfl (ex_move rfl) ?_
                refine ow_split (g := some (1, true)) rfl (fun s101 => ?_) (fun s101 => ?_)
                ·
                  refine ow_val rfl (gd_go rfl s101) (ex_move rfl) ?_
                  refine ow_val rfl (gd_go rfl s101) (ex_field rfl) ?_
                  refine ow_val rfl (gd_go rfl s101) (ex_load1 rfl (by first | exact ld_own1 0 rfl rfl | exact ld_own1 1 rfl rfl | exact ld_own1 2 rfl rfl | exact ld_own1 3 rfl rfl | exact ld_own1 4 rfl rfl | exact ld_own1 5 rfl rfl | exact ld_own1 6 rfl rfl | exact ld_own1 7 rfl rfl | exact ld_imm1 (by assumption))) ?_
                  refine ow_val rfl (gd_go rfl s101) (ex_len (ty := 0) rfl) ?_
                  refine ow_val rfl (gd_go rfl s101) (ex_eql rfl rfl) ?_
                  refine ow_val rfl rfl (ex_pickt rfl s101 rfl) ?_
                  refine ow_val rfl rfl (ex_move rfl) ?_
                  refine ow_split (g := some (8, true)) rfl (fun s108 => ?_) (fun s108 => ?_)
                  ·
                    refine ow_val rfl (gd_go rfl s108) (ex_move rfl) ?_
                    refine ow_val rfl (gd_go rfl s108) (ex_eql rfl rfl) ?_
                    refine ow_val rfl rfl (ex_pickt rfl s108 rfl) ?_
                    refine ow_val rfl rfl (ex_assign rfl) ?_
                    refine ow_nil ?_
                    refine qw_seq ?_
                    refine cw_ret ?_
                    refine qw_ret1 rfl rfl (fun w' h => ⟨congrArg (fun z => Ending.returned (.bool z)) ?_, h.ag.below⟩)
                    rw [hendx]; decide
                  ·
                    rw [hend] at s108; simp at s108
                ·
                  exact absurd s101 (by decide)

theorem lawPowers (t u : T) {σ : Hp} {ca cb : List Value} {w : World} (hi : Imm σ w) (ha : TermC σ ca t) (hb : TermC σ cb u) : Calls Try.prog 9 #[.agg ca.toArray, .agg cb.toArray] w fun e w' => e = .returned (.bool true) ∧ Below w.heap.size w w' := by
  rcases pow_two t u with h | ⟨h, h1, h2⟩
  · exact lawPowers0 t u h hi ha hb
  · exact lawPowers1 t u h h1 h2 hi ha hb

end Go.Proofs.Ytnjomdjkbbhdoaa
