/-
  Walks of the laws: a term, its powers in order.
  No condition.
-/
import Derived.Test.YtnjomdjkbbhdoaaWb9
import Derived.Test.YtnjomdjkbbhdoaaWc4
namespace Go.Proofs.Ytnjomdjkbbhdoaa
open Go.RowKit
set_option linter.unusedVariables false
set_option linter.unusedSimpArgs false
set_option maxRecDepth 100000

theorem slim_size : ∀ (t : T) {B : Nat}, size t ≤ B → slim B t := by
  intro t
  induction t using T.ind with
  | _ o n d ks ih =>
    intro B h
    simp only [size] at h
    have h1 := length_le_sizes ks
    exact slim_mk.2 ⟨by omega, fun k hk => ih k hk (by have := size_kid hk; omega)⟩
theorem pNormAll (t : T) (h : size t ≤ 2000) {σ : Hp} {cs : List Value} {w : World} (hi : Imm σ w) (ht : TermC σ cs t) : Calls Try.prog 21 #[.agg cs.toArray] w (GiveR (RepT (norm t)) σ w) :=
  pNorm pSorts (Nat.le_refl _) t (slim_size t (by unfold maxKids; omega)) hi ht


set_option maxHeartbeats 400000 in
theorem lawNorm (t : T) {σ : Hp} {cs : List Value} {w : World} (hi : Imm σ w) (ht : TermC σ cs t) : Calls Try.prog 5 #[.agg cs.toArray] w fun e w' => e = .returned (.bool true) ∧ Below w.heap.size w w' := by
  have ht0 := ht
  obtain ⟨dv, kv, rfl, ho, hn, hd, hk⟩ := ht.opn
  refine enter (St w (fun _ => False) σ [] []) Try.func5 rfl Try.ntmps5 rfl (St.start hi) ?_
  refine cw_seq ?_
  refine cw_region ?_
  refine ow_blk rfl rfl (exw_box rfl) ?_; intro b1
  refine ow_val rfl rfl (ex_assign rfl) ?_
  refine ow_nil ?_
  refine qw_seq ?_
  refine cw_seq ?_
  refine cw_region ?_
  refine ow_cv rfl rfl (ex_callf rfl (fun w h => callB (pHead))) ?_
  refine ow_val rfl rfl (ex_assign rfl) ?_
  refine ow_nil ?_
  refine qw_seq ?_
  refine cw_seq ?_
  refine cw_seq ?_
  refine cw_region ?_
  refine ow_val rfl rfl (ex_loadR rfl (by first | exact ld_ownN 0 rfl rfl | exact ld_ownN 1 rfl rfl | exact ld_ownN 2 rfl rfl | exact ld_ownN 3 rfl rfl | exact ld_ownN 4 rfl rfl | exact ld_ownN 5 rfl rfl | exact ld_ownN 6 rfl rfl | exact ld_ownN 7 rfl rfl | exact ld_immT (by assumption) (by assumption))) ?_
  refine ow_cv rfl rfl (ex_callf rfl (fun w h => callB ((rGreat t h.im ht0)))) ?_
  refine ow_nil ?_
  refine qw_seq ?_
  refine cw_cond rfl (fun c8 => ?_) (fun c8 => ?_)
  ·
    refine cw_seq ?_
    refine cw_region ?_
    refine ow_val rfl rfl (ex_move rfl) ?_
    refine ow_val rfl rfl (ex_assign rfl) ?_
    refine ow_nil ?_
    refine qw_seq ?_
    refine cw_ret ?_
    refine qw_then_ret ?_
    refine qw_ret1 rfl rfl (fun w' h => ⟨congrArg (fun z => Ending.returned (.bool z)) ?_, h.ag.below⟩)
    rfl
  ·
    have hsz : size t ≤ 2000 := by have := of_decide_eq_false c8; omega
    refine cw_skip ?_
    refine qw_seq ?_
    refine cw_seq ?_
    refine cw_region ?_
    refine ow_val rfl rfl (ex_loadR rfl (by first | exact ld_ownN 0 rfl rfl | exact ld_ownN 1 rfl rfl | exact ld_ownN 2 rfl rfl | exact ld_ownN 3 rfl rfl | exact ld_ownN 4 rfl rfl | exact ld_ownN 5 rfl rfl | exact ld_ownN 6 rfl rfl | exact ld_ownN 7 rfl rfl | exact ld_immT (by assumption) (by assumption))) ?_
    refine ow_cr rfl rfl (ex_callf rfl (fun w h => callR (rCopied t h.im ht0))) (fun v11 τ1 hl1 hf1 hr11 => ?_)
    obtain ⟨c1, rfl, ht1⟩ := hr11
    have ht1' := ht1
    obtain ⟨d1, k1, rfl, _, _, _, _⟩ := ht1'.opn
    refine ow_blk rfl rfl exw_alloc ?_; intro b4
    refine ow_u rfl (exu_storeN 0 rfl rfl rfl rfl ht1.one rfl) ?_
    refine ow_nil ?_
    refine qw_seq ?_
    refine cw_seq ?_
    refine flow_sound 6 (by kernel_rfl) ?_
    refine flow_val rfl (ex_loadR rfl (by first | exact ld_ownN 0 rfl rfl | exact ld_ownN 1 rfl rfl | exact ld_ownN 2 rfl rfl | exact ld_ownN 3 rfl rfl | exact ld_ownN 4 rfl rfl | exact ld_ownN 5 rfl rfl | exact ld_ownN 6 rfl rfl | exact ld_ownN 7 rfl rfl | exact ld_immT (by assumption) (by assumption))) ?_
    refine flow_cr rfl (ex_callf rfl (fun w h => callR (pNormAll t hsz h.im ht1))) ?_
    refine flow_val rfl (ex_loadR rfl (by first | exact ld_ownN 0 rfl rfl | exact ld_ownN 1 rfl rfl | exact ld_ownN 2 rfl rfl | exact ld_ownN 3 rfl rfl | exact ld_ownN 4 rfl rfl | exact ld_ownN 5 rfl rfl | exact ld_ownN 6 rfl rfl | exact ld_ownN 7 rfl rfl | exact ld_immT (by assumption) (by assumption))) ?_
    refine flow_cr rfl (ex_callf rfl (fun w h => callR (rNorm t h.im (ht0.le hl1)))) ?_
    refine flow_is (v := .bool (decide (ord (norm t) (norm t) = 0))) (obk_sat2 13 15 rfl rfl (fun v13 v15 => ob_open2 (fun τ hl hf h13 h15 => ?_))) ?_
    · obtain ⟨ca, rfl, hta⟩ := h13
      obtain ⟨cb, rfl, htb⟩ := h15
      exact ob_cv rfl (ex_callf rfl (fun w h => callB (rSame _ _ h.im hta htb)))
    refine flow_val rfl (ex_assign rfl) ?_
    refine flow_nil ?_
    refine fin_is ?_
    refine fin_is ?_
    refine fin_drop ?_
    refine fin_is ?_
    refine fin_drop ?_
    refine fin_is ?_
    refine fin_nil ?_
    refine ow_nil ?_
    refine qw_seq ?_
    refine cw_seq ?_
    refine cw_region ?_
    refine ow_val rfl rfl (ex_move rfl) ?_
    refine ow_val rfl rfl (ex_move rfl) ?_
    refine ow_split (g := some (1, true)) rfl (fun s18 => ?_) (fun s18 => ?_)
    ·
      refine ow_val rfl (gd_go rfl s18) (ex_move rfl) ?_
      refine ow_val rfl rfl (ex_pickt rfl s18 rfl) ?_
      refine ow_val rfl rfl (ex_move rfl) ?_
      refine ow_split (g := some (4, true)) rfl (fun s21 => ?_) (fun s21 => ?_)
      ·
        refine ow_val rfl (gd_go rfl s21) (ex_loadR rfl (by first | exact ld_ownN 0 rfl rfl | exact ld_ownN 1 rfl rfl | exact ld_ownN 2 rfl rfl | exact ld_ownN 3 rfl rfl | exact ld_ownN 4 rfl rfl | exact ld_ownN 5 rfl rfl | exact ld_ownN 6 rfl rfl | exact ld_ownN 7 rfl rfl | exact ld_immT (by assumption) (by assumption))) ?_
        refine ow_val rfl (gd_go rfl s21) (ex_loadR rfl (by first | exact ld_ownN 0 rfl rfl | exact ld_ownN 1 rfl rfl | exact ld_ownN 2 rfl rfl | exact ld_ownN 3 rfl rfl | exact ld_ownN 4 rfl rfl | exact ld_ownN 5 rfl rfl | exact ld_ownN 6 rfl rfl | exact ld_ownN 7 rfl rfl | exact ld_immT (by assumption) (by assumption))) ?_
        refine ow_cv rfl (gd_go rfl s21) (ex_callf rfl (fun w h => callB ((rSame t t h.im ht1 (ht0.le hl1))))) ?_
        refine ow_val rfl rfl (ex_pickt rfl s21 rfl) ?_
        refine ow_val rfl rfl (ex_assign rfl) ?_
        refine ow_nil ?_
        refine qw_seq ?_
        refine cw_ret ?_
        refine qw_ret1 rfl rfl (fun w' h => ⟨congrArg (fun z => Ending.returned (.bool z)) ?_, h.ag.below⟩)
        simp [ord_self]
      ·
        simp [ord_self] at s21
    ·
      exact absurd s18 (by decide)
end Go.Proofs.Ytnjomdjkbbhdoaa
