/-
  Walks of the laws: order, powers, right forms.
  No condition.
-/
import Derived.Test.YtnjomdjkbbhdoaaWc5
import Derived.Test.YtnjomdjkbbhdoaaWb10
import Derived.Test.YtnjomdjkbbhdoaaLaws
namespace Go.Proofs.Ytnjomdjkbbhdoaa
open Go.RowKit
set_option linter.unusedVariables false
set_option linter.unusedSimpArgs false
set_option maxRecDepth 100000

theorem sizes_norms : ∀ (l : List T), (∀ k ∈ l, size (norm k) = size k) → sizes (norms l) = sizes l
  | [], _ => rfl
  | k :: r, h => by rw [norms, sizes, sizes, h k List.mem_cons_self, sizes_norms r fun y hy => h y (List.mem_cons_of_mem _ hy)]
theorem size_norm : ∀ (t : T), size (norm t) = size t := by
  intro t
  induction t using T.ind with
  | _ o n d ks ih =>
    rw [norm_mk]
    simp only [size]
    split
    · rw [sizes_perm (sortB_spec (norms ks) [] rfl).2, List.nil_append, sizes_norms ks ih]
    · rw [sizes_norms ks ih]


set_option maxHeartbeats 400000 in
theorem lawLaws (x y z : T) {σ : Hp} {ca cb cc : List Value} {w : World} (hi : Imm σ w) (ha : TermC σ ca x) (hb : TermC σ cb y) (hc : TermC σ cc z) : Calls Try.prog 7 #[.agg ca.toArray, .agg cb.toArray, .agg cc.toArray] w fun e w' => e = .returned (.bool true) ∧ Below w.heap.size w w' := by
  have ha0 := ha
  have hb0 := hb
  have hc0 := hc
  obtain ⟨dv, kv, rfl, _, _, _, _⟩ := ha.opn
  obtain ⟨dv', kv', rfl, _, _, _, _⟩ := hb.opn
  obtain ⟨dv2, kv2, rfl, _, _, _, _⟩ := hc.opn
  have hA : signI (ord x y) = IntKind.i64.wrap (0 - signI (ord y x)) := by
    have h1 := ord_tri x y
    have h2 := ord_neg x y
    rw [signI_tri h1, signI_tri (ord_tri y x)]
    unfold Tri at h1
    rw [i64_of (by omega) (by omega)]
    omega
  have hB : 0 < ord x y ∨ 0 < ord y z ∨ ord x z ≤ 0 := by
    rcases Int.lt_or_le 0 (ord x y) with h | h
    · exact .inl h
    · rcases Int.lt_or_le 0 (ord y z) with k | k
      · exact .inr (.inl k)
      · exact .inr (.inr (ord_le_trans h k))
  have hC : 0 ≤ ord x y ∨ 0 < ord y z ∨ ord x z < 0 := by
    rcases Int.lt_or_le (ord x y) 0 with h | h
    · rcases Int.lt_or_le 0 (ord y z) with k | k
      · exact .inr (.inl k)
      · exact .inr (.inr (ord_lt_le_trans h k))
    · exact .inl h
  refine enter (St w (fun _ => False) σ [] []) Try.func7 rfl Try.ntmps7 rfl (St.start hi) ?_
  refine cw_seq ?_
  refine cw_region ?_
  refine ow_blk rfl rfl (exw_box rfl) ?_; intro b3
  refine ow_blk rfl rfl (exw_box rfl) ?_; intro b4
  refine ow_blk rfl rfl (exw_box rfl) ?_; intro b5
  refine ow_val rfl rfl (ex_assign rfl) ?_
  refine ow_nil ?_
  refine qw_seq ?_
  refine cw_seq ?_
  refine cw_region ?_
  refine ow_cv rfl rfl (ex_callf rfl (fun w h => callB (pHead))) ?_
  refine ow_val rfl rfl (ex_assign rfl) ?_
  refine ow_nil ?_
  refine qw_seq ?_
  refine cw_seq ?_
  refine cw_seq ?_
  refine cw_region ?_
  refine ow_val rfl rfl (ex_loadR rfl (by first | exact ld_ownN 0 rfl rfl | exact ld_ownN 1 rfl rfl | exact ld_ownN 2 rfl rfl | exact ld_ownN 3 rfl rfl | exact ld_ownN 4 rfl rfl | exact ld_ownN 5 rfl rfl | exact ld_ownN 6 rfl rfl | exact ld_ownN 7 rfl rfl | exact ld_immT (by assumption) (by assumption))) ?_
  refine ow_cv rfl rfl (ex_callf rfl (fun w h => callB ((rGreat x h.im ha0)))) ?_
  refine ow_val rfl rfl (ex_move rfl) ?_
  refine ow_split (g := some (2, false)) rfl (fun s23 => ?_) (fun s23 => ?_)
  ·
    refine ow_skip rfl (gd_no rfl s23) ?_
    refine ow_skip rfl (gd_no rfl s23) ?_
    refine ow_val rfl rfl (ex_pickt rfl s23 rfl) ?_
    refine ow_val rfl rfl (ex_move rfl) ?_
    refine ow_skip rfl rfl ?_
    refine ow_skip rfl rfl ?_
    refine ow_val rfl rfl (ex_pick_t rfl rfl) ?_
    refine ow_nil ?_
    refine qw_seq ?_
    refine cw_cond_t rfl ?_
    refine cw_seq ?_
    refine cw_region ?_
    refine ow_val rfl rfl (ex_move rfl) ?_
    refine ow_val rfl rfl (ex_assign rfl) ?_
    refine ow_nil ?_
    refine qw_seq ?_
    refine cw_ret ?_
    refine qw_then_ret ?_
    refine qw_ret1 rfl rfl (fun w' h => ⟨congrArg (fun z => Ending.returned (.bool z)) ?_, h.ag.below⟩)
    first
      | rfl
      | (have hz := (right_norm (show right z = true by simpa using s124)).1; rw [hz, ord_self]; rfl)
  ·
    refine ow_val rfl (gd_go rfl s23) (ex_loadR rfl (by first | exact ld_ownN 0 rfl rfl | exact ld_ownN 1 rfl rfl | exact ld_ownN 2 rfl rfl | exact ld_ownN 3 rfl rfl | exact ld_ownN 4 rfl rfl | exact ld_ownN 5 rfl rfl | exact ld_ownN 6 rfl rfl | exact ld_ownN 7 rfl rfl | exact ld_immT (by assumption) (by assumption))) ?_
    refine ow_cv rfl (gd_go rfl s23) (ex_callf rfl (fun w h => callB ((rGreat y h.im hb0)))) ?_
    refine ow_val rfl rfl (ex_pickf rfl s23 rfl) ?_
    refine ow_val rfl rfl (ex_move rfl) ?_
    refine ow_split (g := some (6, false)) rfl (fun s27 => ?_) (fun s27 => ?_)
    ·
      refine ow_skip rfl (gd_no rfl s27) ?_
      refine ow_skip rfl (gd_no rfl s27) ?_
      refine ow_val rfl rfl (ex_pickt rfl s27 rfl) ?_
      refine ow_nil ?_
      refine qw_seq ?_
      refine cw_cond_t rfl ?_
      refine cw_seq ?_
      refine cw_region ?_
      refine ow_val rfl rfl (ex_move rfl) ?_
      refine ow_val rfl rfl (ex_assign rfl) ?_
      refine ow_nil ?_
      refine qw_seq ?_
      refine cw_ret ?_
      refine qw_then_ret ?_
      refine qw_ret1 rfl rfl (fun w' h => ⟨congrArg (fun z => Ending.returned (.bool z)) ?_, h.ag.below⟩)
      first
        | rfl
        | (have hz := (right_norm (show right z = true by simpa using s124)).1; rw [hz, ord_self]; rfl)
    ·
      refine ow_val rfl (gd_go rfl s27) (ex_loadR rfl (by first | exact ld_ownN 0 rfl rfl | exact ld_ownN 1 rfl rfl | exact ld_ownN 2 rfl rfl | exact ld_ownN 3 rfl rfl | exact ld_ownN 4 rfl rfl | exact ld_ownN 5 rfl rfl | exact ld_ownN 6 rfl rfl | exact ld_ownN 7 rfl rfl | exact ld_immT (by assumption) (by assumption))) ?_
      refine ow_cv rfl (gd_go rfl s27) (ex_callf rfl (fun w h => callB ((rGreat z h.im hc0)))) ?_
      refine ow_val rfl rfl (ex_pickf rfl s27 rfl) ?_
      refine ow_nil ?_
      refine qw_seq ?_
      refine cw_cond rfl (fun c30 => ?_) (fun c30 => ?_)
      ·
        refine cw_seq ?_
        refine cw_region ?_
        refine ow_val rfl rfl (ex_move rfl) ?_
        refine ow_val rfl rfl (ex_assign rfl) ?_
        refine ow_nil ?_
        refine qw_seq ?_
        refine cw_ret ?_
        refine qw_then_ret ?_
        refine qw_ret1 rfl rfl (fun w' h => ⟨congrArg (fun z => Ending.returned (.bool z)) ?_, h.ag.below⟩)
        first
          | rfl
          | (have hz := (right_norm (show right z = true by simpa using s124)).1; rw [hz, ord_self]; rfl)
      ·
        have hsx : size x ≤ 2000 ∧ size y ≤ 2000 ∧ size z ≤ 2000 := by simp at c30; simp_all
        refine cw_skip ?_
        refine qw_seq ?_
        refine cw_seq ?_
        refine cw_region ?_
        refine ow_val rfl rfl (ex_loadR rfl (by first | exact ld_ownN 0 rfl rfl | exact ld_ownN 1 rfl rfl | exact ld_ownN 2 rfl rfl | exact ld_ownN 3 rfl rfl | exact ld_ownN 4 rfl rfl | exact ld_ownN 5 rfl rfl | exact ld_ownN 6 rfl rfl | exact ld_ownN 7 rfl rfl | exact ld_immT (by assumption) (by assumption))) ?_
        refine ow_val rfl rfl (ex_loadR rfl (by first | exact ld_ownN 0 rfl rfl | exact ld_ownN 1 rfl rfl | exact ld_ownN 2 rfl rfl | exact ld_ownN 3 rfl rfl | exact ld_ownN 4 rfl rfl | exact ld_ownN 5 rfl rfl | exact ld_ownN 6 rfl rfl | exact ld_ownN 7 rfl rfl | exact ld_immT (by assumption) (by assumption))) ?_
        refine ow_cv rfl rfl (ex_callf rfl (fun w h => callB ((pOrder x y h.im ha0 hb0)))) ?_
        refine ow_val rfl rfl (ex_assign rfl) ?_
        refine ow_nil ?_
        refine qw_seq ?_
        refine cw_seq ?_
        refine cw_region ?_
        refine ow_val rfl rfl (ex_loadR rfl (by first | exact ld_ownN 0 rfl rfl | exact ld_ownN 1 rfl rfl | exact ld_ownN 2 rfl rfl | exact ld_ownN 3 rfl rfl | exact ld_ownN 4 rfl rfl | exact ld_ownN 5 rfl rfl | exact ld_ownN 6 rfl rfl | exact ld_ownN 7 rfl rfl | exact ld_immT (by assumption) (by assumption))) ?_
        refine ow_val rfl rfl (ex_loadR rfl (by first | exact ld_ownN 0 rfl rfl | exact ld_ownN 1 rfl rfl | exact ld_ownN 2 rfl rfl | exact ld_ownN 3 rfl rfl | exact ld_ownN 4 rfl rfl | exact ld_ownN 5 rfl rfl | exact ld_ownN 6 rfl rfl | exact ld_ownN 7 rfl rfl | exact ld_immT (by assumption) (by assumption))) ?_
        refine ow_cv rfl rfl (ex_callf rfl (fun w h => callB ((pOrder y z h.im hb0 hc0)))) ?_
        refine ow_val rfl rfl (ex_assign rfl) ?_
        refine ow_nil ?_
        refine qw_seq ?_
        refine cw_seq ?_
        refine cw_region ?_
        refine ow_val rfl rfl (ex_loadR rfl (by first | exact ld_ownN 0 rfl rfl | exact ld_ownN 1 rfl rfl | exact ld_ownN 2 rfl rfl | exact ld_ownN 3 rfl rfl | exact ld_ownN 4 rfl rfl | exact ld_ownN 5 rfl rfl | exact ld_ownN 6 rfl rfl | exact ld_ownN 7 rfl rfl | exact ld_immT (by assumption) (by assumption))) ?_
        refine ow_val rfl rfl (ex_loadR rfl (by first | exact ld_ownN 0 rfl rfl | exact ld_ownN 1 rfl rfl | exact ld_ownN 2 rfl rfl | exact ld_ownN 3 rfl rfl | exact ld_ownN 4 rfl rfl | exact ld_ownN 5 rfl rfl | exact ld_ownN 6 rfl rfl | exact ld_ownN 7 rfl rfl | exact ld_immT (by assumption) (by assumption))) ?_
        refine ow_cv rfl rfl (ex_callf rfl (fun w h => callB ((pOrder x z h.im ha0 hc0)))) ?_
        refine ow_val rfl rfl (ex_assign rfl) ?_
        refine ow_nil ?_
        refine qw_seq ?_
        refine cw_seq ?_
        refine cw_cut1 72 (.bool false) ?_ ?_
        ·
          refine flow_sound 32 (by kernel_rfl) ?_
          refine flow_val rfl (ex_move rfl) ?_
          refine flow_cv rfl (ex_callf rfl (fun w h => callB (rSign))) ?_
          refine flow_val rfl (ex_loadR rfl (by first | exact ld_ownN 0 rfl rfl | exact ld_ownN 1 rfl rfl | exact ld_ownN 2 rfl rfl | exact ld_ownN 3 rfl rfl | exact ld_ownN 4 rfl rfl | exact ld_ownN 5 rfl rfl | exact ld_ownN 6 rfl rfl | exact ld_ownN 7 rfl rfl | exact ld_immT (by assumption) (by assumption))) ?_
          refine flow_val rfl (ex_loadR rfl (by first | exact ld_ownN 0 rfl rfl | exact ld_ownN 1 rfl rfl | exact ld_ownN 2 rfl rfl | exact ld_ownN 3 rfl rfl | exact ld_ownN 4 rfl rfl | exact ld_ownN 5 rfl rfl | exact ld_ownN 6 rfl rfl | exact ld_ownN 7 rfl rfl | exact ld_immT (by assumption) (by assumption))) ?_
          refine flow_cv rfl (ex_callf rfl (fun w h => callB ((pOrder y x h.im hb0 ha0)))) ?_
          refine flow_cv rfl (ex_callf rfl (fun w h => callB (rSign))) ?_
          refine flow_val rfl (ex_neg rfl) ?_
          refine flow_val rfl (ex_neq rfl rfl) ?_
          refine flow_val rfl (ex_move rfl) ?_
          refine flow_split rfl (fun s49 => ?_) (fun s49 => ?_)
          ·
            refine flow_skip (gd_no rfl s49) ?_
            refine flow_skip (gd_no rfl s49) ?_
            refine flow_skip (gd_no rfl s49) ?_
            refine flow_skip rfl ?_
            refine flow_skip rfl ?_
            refine flow_skip (gd_no rfl s49) ?_
            refine flow_skip (gd_no rfl s49) ?_
            refine flow_skip rfl ?_
            refine flow_skip rfl ?_
            refine flow_skip (gd_no rfl s49) ?_
            refine flow_val rfl (ex_pickt rfl s49 rfl) ?_
            refine flow_val rfl (ex_move rfl) ?_
            refine flow_skip rfl ?_
            refine flow_skip rfl ?_
            refine flow_skip rfl ?_
            refine flow_skip rfl ?_
            refine flow_skip rfl ?_
            refine flow_skip rfl ?_
            refine flow_skip rfl ?_
            refine flow_skip rfl ?_
            refine flow_skip rfl ?_
            refine flow_skip rfl ?_
            refine flow_val rfl (ex_pick_t rfl rfl) ?_
            refine flow_nil ?_
            refine fin_is ?_
            refine fin_is ?_
            refine fin_is ?_
            refine fin_is ?_
            refine fin_is ?_
            refine fin_is ?_
            refine fin_is ?_
            refine fin_is ?_
            refine fin_is ?_
            refine fin_is ?_
            refine fin_is ?_
            refine fin_is ?_
            refine fin_is ?_
            refine fin_is ?_
            refine fin_is ?_
            refine fin_is ?_
            refine fin_is ?_
            refine fin_is ?_
            refine fin_is ?_
            refine fin_is ?_
            refine fin_is ?_
            refine fin_is ?_
            refine fin_is ?_
            refine fin_is ?_
            refine fin_is ?_
            refine fin_is ?_
            refine fin_is ?_
            refine fin_is ?_
            refine fin_is ?_
            refine fin_is ?_
            refine fin_is ?_
            refine fin_is ?_
            refine fin_nil ?_
            refine ow_nil ?_
            exact qw_meet (subL_meet 32 72 (lkv rfl (by first | rfl | (refine congrArg Value.bool (decide_eq_false ?_); simp only [decide_eq_true_eq, decide_eq_false_iff_not, ne_eq, Decidable.not_not] at *; omega) | (exfalso; simp only [decide_eq_true_eq, decide_eq_false_iff_not, ne_eq, Decidable.not_not] at *; omega) | (congr 1; simp only [decide_eq_true_eq, decide_eq_false_iff_not, ne_eq, Decidable.not_not] at *; omega))) rfl rfl) (fun w h => h)
          ·
            refine flow_val (gd_go rfl s49) (ex_move rfl) ?_
            refine flow_val (gd_go rfl s49) (ex_leq rfl rfl) ?_
            refine flow_val (gd_go rfl s49) (ex_move rfl) ?_
            refine flow_split rfl (fun s52 => ?_) (fun s52 => ?_)
            ·
              refine flow_val (gd_go rfl s52) (ex_move rfl) ?_
              refine flow_val (gd_go rfl s52) (ex_leq rfl rfl) ?_
              refine flow_val (gd_go rfl s49) (ex_pickt rfl s52 rfl) ?_
              refine flow_val (gd_go rfl s49) (ex_move rfl) ?_
              refine flow_split rfl (fun s56 => ?_) (fun s56 => ?_)
              ·
                refine flow_val (gd_go rfl s56) (ex_move rfl) ?_
                refine flow_val (gd_go rfl s56) (ex_gtr rfl rfl) ?_
                refine flow_val (gd_go rfl s49) (ex_pickt rfl s56 rfl) ?_
                refine flow_val rfl (ex_pickf rfl s49 rfl) ?_
                refine flow_val rfl (ex_move rfl) ?_
                refine flow_split rfl (fun s61 => ?_) (fun s61 => ?_)
                ·
                  refine flow_skip (gd_no rfl s61) ?_
                  refine flow_skip (gd_no rfl s61) ?_
                  refine flow_skip (gd_no rfl s61) ?_
                  refine flow_skip rfl ?_
                  refine flow_skip rfl ?_
                  refine flow_skip (gd_no rfl s61) ?_
                  refine flow_skip (gd_no rfl s61) ?_
                  refine flow_skip rfl ?_
                  refine flow_skip rfl ?_
                  refine flow_skip (gd_no rfl s61) ?_
                  refine flow_val rfl (ex_pickt rfl s61 rfl) ?_
                  refine flow_nil ?_
                  refine fin_is ?_
                  refine fin_is ?_
                  refine fin_is ?_
                  refine fin_is ?_
                  refine fin_is ?_
                  refine fin_is ?_
                  refine fin_is ?_
                  refine fin_is ?_
                  refine fin_is ?_
                  refine fin_is ?_
                  refine fin_is ?_
                  refine fin_is ?_
                  refine fin_is ?_
                  refine fin_is ?_
                  refine fin_is ?_
                  refine fin_is ?_
                  refine fin_is ?_
                  refine fin_is ?_
                  refine fin_is ?_
                  refine fin_is ?_
                  refine fin_is ?_
                  refine fin_is ?_
                  refine fin_is ?_
                  refine fin_is ?_
                  refine fin_is ?_
                  refine fin_is ?_
                  refine fin_is ?_
                  refine fin_is ?_
                  refine fin_is ?_
                  refine fin_is ?_
                  refine fin_is ?_
                  refine fin_is ?_
                  refine fin_nil ?_
                  refine ow_nil ?_
                  exact qw_meet (subL_meet 32 72 (lkv rfl (by first | rfl | (refine congrArg Value.bool (decide_eq_false ?_); simp only [decide_eq_true_eq, decide_eq_false_iff_not, ne_eq, Decidable.not_not] at *; omega) | (exfalso; simp only [decide_eq_true_eq, decide_eq_false_iff_not, ne_eq, Decidable.not_not] at *; omega) | (congr 1; simp only [decide_eq_true_eq, decide_eq_false_iff_not, ne_eq, Decidable.not_not] at *; omega))) rfl rfl) (fun w h => h)
                ·
                  refine flow_val (gd_go rfl s61) (ex_move rfl) ?_
                  refine flow_val (gd_go rfl s61) (ex_lss rfl rfl) ?_
                  refine flow_val (gd_go rfl s61) (ex_move rfl) ?_
                  refine flow_split rfl (fun s64 => ?_) (fun s64 => ?_)
                  ·
                    refine flow_val (gd_go rfl s64) (ex_move rfl) ?_
                    refine flow_val (gd_go rfl s64) (ex_leq rfl rfl) ?_
                    refine flow_val (gd_go rfl s61) (ex_pickt rfl s64 rfl) ?_
                    refine flow_val (gd_go rfl s61) (ex_move rfl) ?_
                    refine flow_split rfl (fun s68 => ?_) (fun s68 => ?_)
                    ·
                      refine flow_val (gd_go rfl s68) (ex_move rfl) ?_
                      refine flow_val (gd_go rfl s68) (ex_geq rfl rfl) ?_
                      refine flow_val (gd_go rfl s61) (ex_pickt rfl s68 rfl) ?_
                      refine flow_val rfl (ex_pickf rfl s61 rfl) ?_
                      refine flow_nil ?_
                      refine fin_is ?_
                      refine fin_is ?_
                      refine fin_is ?_
                      refine fin_is ?_
                      refine fin_is ?_
                      refine fin_is ?_
                      refine fin_is ?_
                      refine fin_is ?_
                      refine fin_is ?_
                      refine fin_is ?_
                      refine fin_is ?_
                      refine fin_is ?_
                      refine fin_is ?_
                      refine fin_is ?_
                      refine fin_is ?_
                      refine fin_is ?_
                      refine fin_is ?_
                      refine fin_is ?_
                      refine fin_is ?_
                      refine fin_is ?_
                      refine fin_is ?_
                      refine fin_is ?_
                      refine fin_is ?_
                      refine fin_is ?_
                      refine fin_is ?_
                      refine fin_is ?_
                      refine fin_is ?_
                      refine fin_is ?_
                      refine fin_is ?_
                      refine fin_is ?_
                      refine fin_is ?_
                      refine fin_is ?_
                      refine fin_nil ?_
                      refine ow_nil ?_
                      exact qw_meet (subL_meet 32 72 (lkv rfl (by first | rfl | (refine congrArg Value.bool (decide_eq_false ?_); simp only [decide_eq_true_eq, decide_eq_false_iff_not, ne_eq, Decidable.not_not] at *; omega) | (exfalso; simp only [decide_eq_true_eq, decide_eq_false_iff_not, ne_eq, Decidable.not_not] at *; omega) | (congr 1; simp only [decide_eq_true_eq, decide_eq_false_iff_not, ne_eq, Decidable.not_not] at *; omega))) rfl rfl) (fun w h => h)
                    ·
                      refine flow_skip (gd_no rfl s68) ?_
                      refine flow_skip (gd_no rfl s68) ?_
                      refine flow_val (gd_go rfl s61) (ex_pickf rfl s68 rfl) ?_
                      refine flow_val rfl (ex_pickf rfl s61 rfl) ?_
                      refine flow_nil ?_
                      refine fin_is ?_
                      refine fin_is ?_
                      refine fin_is ?_
                      refine fin_is ?_
                      refine fin_is ?_
                      refine fin_is ?_
                      refine fin_is ?_
                      refine fin_is ?_
                      refine fin_is ?_
                      refine fin_is ?_
                      refine fin_is ?_
                      refine fin_is ?_
                      refine fin_is ?_
                      refine fin_is ?_
                      refine fin_is ?_
                      refine fin_is ?_
                      refine fin_is ?_
                      refine fin_is ?_
                      refine fin_is ?_
                      refine fin_is ?_
                      refine fin_is ?_
                      refine fin_is ?_
                      refine fin_is ?_
                      refine fin_is ?_
                      refine fin_is ?_
                      refine fin_is ?_
                      refine fin_is ?_
                      refine fin_is ?_
                      refine fin_is ?_
                      refine fin_is ?_
                      refine fin_is ?_
                      refine fin_is ?_
                      refine fin_nil ?_
                      refine ow_nil ?_
                      exact qw_meet (subL_meet 32 72 (lkv rfl (by first | rfl | (refine congrArg Value.bool (decide_eq_false ?_); simp only [decide_eq_true_eq, decide_eq_false_iff_not, ne_eq, Decidable.not_not] at *; omega) | (exfalso; simp only [decide_eq_true_eq, decide_eq_false_iff_not, ne_eq, Decidable.not_not] at *; omega) | (congr 1; simp only [decide_eq_true_eq, decide_eq_false_iff_not, ne_eq, Decidable.not_not] at *; omega))) rfl rfl) (fun w h => h)
                  ·
                    refine flow_skip (gd_no rfl s64) ?_
                    refine flow_skip (gd_no rfl s64) ?_
                    refine flow_val (gd_go rfl s61) (ex_pickf rfl s64 rfl) ?_
                    refine flow_val (gd_go rfl s61) (ex_move rfl) ?_
                    refine flow_skip rfl ?_
                    refine flow_skip rfl ?_
                    refine flow_val (gd_go rfl s61) (ex_pick_f rfl rfl) ?_
                    refine flow_val rfl (ex_pickf rfl s61 rfl) ?_
                    refine flow_nil ?_
                    refine fin_is ?_
                    refine fin_is ?_
                    refine fin_is ?_
                    refine fin_is ?_
                    refine fin_is ?_
                    refine fin_is ?_
                    refine fin_is ?_
                    refine fin_is ?_
                    refine fin_is ?_
                    refine fin_is ?_
                    refine fin_is ?_
                    refine fin_is ?_
                    refine fin_is ?_
                    refine fin_is ?_
                    refine fin_is ?_
                    refine fin_is ?_
                    refine fin_is ?_
                    refine fin_is ?_
                    refine fin_is ?_
                    refine fin_is ?_
                    refine fin_is ?_
                    refine fin_is ?_
                    refine fin_is ?_
                    refine fin_is ?_
                    refine fin_is ?_
                    refine fin_is ?_
                    refine fin_is ?_
                    refine fin_is ?_
                    refine fin_is ?_
                    refine fin_is ?_
                    refine fin_is ?_
                    refine fin_is ?_
                    refine fin_nil ?_
                    refine ow_nil ?_
                    exact qw_meet (subL_meet 32 72 (lkv rfl (by first | rfl | (refine congrArg Value.bool (decide_eq_false ?_); simp only [decide_eq_true_eq, decide_eq_false_iff_not, ne_eq, Decidable.not_not] at *; omega) | (exfalso; simp only [decide_eq_true_eq, decide_eq_false_iff_not, ne_eq, Decidable.not_not] at *; omega) | (congr 1; simp only [decide_eq_true_eq, decide_eq_false_iff_not, ne_eq, Decidable.not_not] at *; omega))) rfl rfl) (fun w h => h)
              ·
                refine flow_skip (gd_no rfl s56) ?_
                refine flow_skip (gd_no rfl s56) ?_
                refine flow_val (gd_go rfl s49) (ex_pickf rfl s56 rfl) ?_
                refine flow_val rfl (ex_pickf rfl s49 rfl) ?_
                refine flow_val rfl (ex_move rfl) ?_
                refine flow_val rfl (ex_move rfl) ?_
                refine flow_val rfl (ex_lss rfl rfl) ?_
                refine flow_val rfl (ex_move rfl) ?_
                refine flow_split rfl (fun s64 => ?_) (fun s64 => ?_)
                ·
                  refine flow_val (gd_go rfl s64) (ex_move rfl) ?_
                  refine flow_val (gd_go rfl s64) (ex_leq rfl rfl) ?_
                  refine flow_val rfl (ex_pickt rfl s64 rfl) ?_
                  refine flow_val rfl (ex_move rfl) ?_
                  refine flow_split rfl (fun s68 => ?_) (fun s68 => ?_)
                  ·
                    refine flow_val (gd_go rfl s68) (ex_move rfl) ?_
                    refine flow_val (gd_go rfl s68) (ex_geq rfl rfl) ?_
                    refine flow_val rfl (ex_pickt rfl s68 rfl) ?_
                    refine flow_val rfl (ex_pick_f rfl rfl) ?_
                    refine flow_nil ?_
                    refine fin_is ?_
                    refine fin_is ?_
                    refine fin_is ?_
                    refine fin_is ?_
                    refine fin_is ?_
                    refine fin_is ?_
                    refine fin_is ?_
                    refine fin_is ?_
                    refine fin_is ?_
                    refine fin_is ?_
                    refine fin_is ?_
                    refine fin_is ?_
                    refine fin_is ?_
                    refine fin_is ?_
                    refine fin_is ?_
                    refine fin_is ?_
                    refine fin_is ?_
                    refine fin_is ?_
                    refine fin_is ?_
                    refine fin_is ?_
                    refine fin_is ?_
                    refine fin_is ?_
                    refine fin_is ?_
                    refine fin_is ?_
                    refine fin_is ?_
                    refine fin_is ?_
                    refine fin_is ?_
                    refine fin_is ?_
                    refine fin_is ?_
                    refine fin_is ?_
                    refine fin_is ?_
                    refine fin_is ?_
                    refine fin_nil ?_
                    refine ow_nil ?_
                    exact qw_meet (subL_meet 32 72 (lkv rfl (by first | rfl | (refine congrArg Value.bool (decide_eq_false ?_); simp only [decide_eq_true_eq, decide_eq_false_iff_not, ne_eq, Decidable.not_not] at *; omega) | (exfalso; simp only [decide_eq_true_eq, decide_eq_false_iff_not, ne_eq, Decidable.not_not] at *; omega) | (congr 1; simp only [decide_eq_true_eq, decide_eq_false_iff_not, ne_eq, Decidable.not_not] at *; omega))) rfl rfl) (fun w h => h)
                  ·
                    refine flow_skip (gd_no rfl s68) ?_
                    refine flow_skip (gd_no rfl s68) ?_
                    refine flow_val rfl (ex_pickf rfl s68 rfl) ?_
                    refine flow_val rfl (ex_pick_f rfl rfl) ?_
                    refine flow_nil ?_
                    refine fin_is ?_
                    refine fin_is ?_
                    refine fin_is ?_
                    refine fin_is ?_
                    refine fin_is ?_
                    refine fin_is ?_
                    refine fin_is ?_
                    refine fin_is ?_
                    refine fin_is ?_
                    refine fin_is ?_
                    refine fin_is ?_
                    refine fin_is ?_
                    refine fin_is ?_
                    refine fin_is ?_
                    refine fin_is ?_
                    refine fin_is ?_
                    refine fin_is ?_
                    refine fin_is ?_
                    refine fin_is ?_
                    refine fin_is ?_
                    refine fin_is ?_
                    refine fin_is ?_
                    refine fin_is ?_
                    refine fin_is ?_
                    refine fin_is ?_
                    refine fin_is ?_
                    refine fin_is ?_
                    refine fin_is ?_
                    refine fin_is ?_
                    refine fin_is ?_
                    refine fin_is ?_
                    refine fin_is ?_
                    refine fin_nil ?_
                    refine ow_nil ?_
                    exact qw_meet (subL_meet 32 72 (lkv rfl (by first | rfl | (refine congrArg Value.bool (decide_eq_false ?_); simp only [decide_eq_true_eq, decide_eq_false_iff_not, ne_eq, Decidable.not_not] at *; omega) | (exfalso; simp only [decide_eq_true_eq, decide_eq_false_iff_not, ne_eq, Decidable.not_not] at *; omega) | (congr 1; simp only [decide_eq_true_eq, decide_eq_false_iff_not, ne_eq, Decidable.not_not] at *; omega))) rfl rfl) (fun w h => h)
                ·
                  refine flow_skip (gd_no rfl s64) ?_
                  refine flow_skip (gd_no rfl s64) ?_
                  refine flow_val rfl (ex_pickf rfl s64 rfl) ?_
                  refine flow_val rfl (ex_move rfl) ?_
                  refine flow_skip rfl ?_
                  refine flow_skip rfl ?_
                  refine flow_val rfl (ex_pick_f rfl rfl) ?_
                  refine flow_val rfl (ex_pick_f rfl rfl) ?_
                  refine flow_nil ?_
                  refine fin_is ?_
                  refine fin_is ?_
                  refine fin_is ?_
                  refine fin_is ?_
                  refine fin_is ?_
                  refine fin_is ?_
                  refine fin_is ?_
                  refine fin_is ?_
                  refine fin_is ?_
                  refine fin_is ?_
                  refine fin_is ?_
                  refine fin_is ?_
                  refine fin_is ?_
                  refine fin_is ?_
                  refine fin_is ?_
                  refine fin_is ?_
                  refine fin_is ?_
                  refine fin_is ?_
                  refine fin_is ?_
                  refine fin_is ?_
                  refine fin_is ?_
                  refine fin_is ?_
                  refine fin_is ?_
                  refine fin_is ?_
                  refine fin_is ?_
                  refine fin_is ?_
                  refine fin_is ?_
                  refine fin_is ?_
                  refine fin_is ?_
                  refine fin_is ?_
                  refine fin_is ?_
                  refine fin_is ?_
                  refine fin_nil ?_
                  refine ow_nil ?_
                  exact qw_meet (subL_meet 32 72 (lkv rfl (by first | rfl | (refine congrArg Value.bool (decide_eq_false ?_); simp only [decide_eq_true_eq, decide_eq_false_iff_not, ne_eq, Decidable.not_not] at *; omega) | (exfalso; simp only [decide_eq_true_eq, decide_eq_false_iff_not, ne_eq, Decidable.not_not] at *; omega) | (congr 1; simp only [decide_eq_true_eq, decide_eq_false_iff_not, ne_eq, Decidable.not_not] at *; omega))) rfl rfl) (fun w h => h)
            ·
              refine flow_skip (gd_no rfl s52) ?_
              refine flow_skip (gd_no rfl s52) ?_
              refine flow_val (gd_go rfl s49) (ex_pickf rfl s52 rfl) ?_
              refine flow_val (gd_go rfl s49) (ex_move rfl) ?_
              refine flow_skip rfl ?_
              refine flow_skip rfl ?_
              refine flow_val (gd_go rfl s49) (ex_pick_f rfl rfl) ?_
              refine flow_val rfl (ex_pickf rfl s49 rfl) ?_
              refine flow_val rfl (ex_move rfl) ?_
              refine flow_val rfl (ex_move rfl) ?_
              refine flow_val rfl (ex_lss rfl rfl) ?_
              refine flow_val rfl (ex_move rfl) ?_
              refine flow_split rfl (fun s64 => ?_) (fun s64 => ?_)
              ·
                refine flow_val (gd_go rfl s64) (ex_move rfl) ?_
                refine flow_val (gd_go rfl s64) (ex_leq rfl rfl) ?_
                refine flow_val rfl (ex_pickt rfl s64 rfl) ?_
                refine flow_val rfl (ex_move rfl) ?_
                refine flow_split rfl (fun s68 => ?_) (fun s68 => ?_)
                ·
                  refine flow_val (gd_go rfl s68) (ex_move rfl) ?_
                  refine flow_val (gd_go rfl s68) (ex_geq rfl rfl) ?_
                  refine flow_val rfl (ex_pickt rfl s68 rfl) ?_
                  refine flow_val rfl (ex_pick_f rfl rfl) ?_
                  refine flow_nil ?_
                  refine fin_is ?_
                  refine fin_is ?_
                  refine fin_is ?_
                  refine fin_is ?_
                  refine fin_is ?_
                  refine fin_is ?_
                  refine fin_is ?_
                  refine fin_is ?_
                  refine fin_is ?_
                  refine fin_is ?_
                  refine fin_is ?_
                  refine fin_is ?_
                  refine fin_is ?_
                  refine fin_is ?_
                  refine fin_is ?_
                  refine fin_is ?_
                  refine fin_is ?_
                  refine fin_is ?_
                  refine fin_is ?_
                  refine fin_is ?_
                  refine fin_is ?_
                  refine fin_is ?_
                  refine fin_is ?_
                  refine fin_is ?_
                  refine fin_is ?_
                  refine fin_is ?_
                  refine fin_is ?_
                  refine fin_is ?_
                  refine fin_is ?_
                  refine fin_is ?_
                  refine fin_is ?_
                  refine fin_is ?_
                  refine fin_nil ?_
                  refine ow_nil ?_
                  exact qw_meet (subL_meet 32 72 (lkv rfl (by first | rfl | (refine congrArg Value.bool (decide_eq_false ?_); simp only [decide_eq_true_eq, decide_eq_false_iff_not, ne_eq, Decidable.not_not] at *; omega) | (exfalso; simp only [decide_eq_true_eq, decide_eq_false_iff_not, ne_eq, Decidable.not_not] at *; omega) | (congr 1; simp only [decide_eq_true_eq, decide_eq_false_iff_not, ne_eq, Decidable.not_not] at *; omega))) rfl rfl) (fun w h => h)
                ·
                  refine flow_skip (gd_no rfl s68) ?_
                  refine flow_skip (gd_no rfl s68) ?_
                  refine flow_val rfl (ex_pickf rfl s68 rfl) ?_
                  refine flow_val rfl (ex_pick_f rfl rfl) ?_
                  refine flow_nil ?_
                  refine fin_is ?_
                  refine fin_is ?_
                  refine fin_is ?_
                  refine fin_is ?_
                  refine fin_is ?_
                  refine fin_is ?_
                  refine fin_is ?_
                  refine fin_is ?_
                  refine fin_is ?_
                  refine fin_is ?_
                  refine fin_is ?_
                  refine fin_is ?_
                  refine fin_is ?_
                  refine fin_is ?_
                  refine fin_is ?_
                  refine fin_is ?_
                  refine fin_is ?_
                  refine fin_is ?_
                  refine fin_is ?_
                  refine fin_is ?_
                  refine fin_is ?_
                  refine fin_is ?_
                  refine fin_is ?_
                  refine fin_is ?_
                  refine fin_is ?_
                  refine fin_is ?_
                  refine fin_is ?_
                  refine fin_is ?_
                  refine fin_is ?_
                  refine fin_is ?_
                  refine fin_is ?_
                  refine fin_is ?_
                  refine fin_nil ?_
                  refine ow_nil ?_
                  exact qw_meet (subL_meet 32 72 (lkv rfl (by first | rfl | (refine congrArg Value.bool (decide_eq_false ?_); simp only [decide_eq_true_eq, decide_eq_false_iff_not, ne_eq, Decidable.not_not] at *; omega) | (exfalso; simp only [decide_eq_true_eq, decide_eq_false_iff_not, ne_eq, Decidable.not_not] at *; omega) | (congr 1; simp only [decide_eq_true_eq, decide_eq_false_iff_not, ne_eq, Decidable.not_not] at *; omega))) rfl rfl) (fun w h => h)
              ·
                refine flow_skip (gd_no rfl s64) ?_
                refine flow_skip (gd_no rfl s64) ?_
                refine flow_val rfl (ex_pickf rfl s64 rfl) ?_
                refine flow_val rfl (ex_move rfl) ?_
                refine flow_skip rfl ?_
                refine flow_skip rfl ?_
                refine flow_val rfl (ex_pick_f rfl rfl) ?_
                refine flow_val rfl (ex_pick_f rfl rfl) ?_
                refine flow_nil ?_
                refine fin_is ?_
                refine fin_is ?_
                refine fin_is ?_
                refine fin_is ?_
                refine fin_is ?_
                refine fin_is ?_
                refine fin_is ?_
                refine fin_is ?_
                refine fin_is ?_
                refine fin_is ?_
                refine fin_is ?_
                refine fin_is ?_
                refine fin_is ?_
                refine fin_is ?_
                refine fin_is ?_
                refine fin_is ?_
                refine fin_is ?_
                refine fin_is ?_
                refine fin_is ?_
                refine fin_is ?_
                refine fin_is ?_
                refine fin_is ?_
                refine fin_is ?_
                refine fin_is ?_
                refine fin_is ?_
                refine fin_is ?_
                refine fin_is ?_
                refine fin_is ?_
                refine fin_is ?_
                refine fin_is ?_
                refine fin_is ?_
                refine fin_is ?_
                refine fin_nil ?_
                refine ow_nil ?_
                exact qw_meet (subL_meet 32 72 (lkv rfl (by first | rfl | (refine congrArg Value.bool (decide_eq_false ?_); simp only [decide_eq_true_eq, decide_eq_false_iff_not, ne_eq, Decidable.not_not] at *; omega) | (exfalso; simp only [decide_eq_true_eq, decide_eq_false_iff_not, ne_eq, Decidable.not_not] at *; omega) | (congr 1; simp only [decide_eq_true_eq, decide_eq_false_iff_not, ne_eq, Decidable.not_not] at *; omega))) rfl rfl) (fun w h => h)
        ·
          refine cw_cond rfl (fun c72 => ?_) (fun c72 => ?_)
          ·
            cases c72
          ·
            refine cw_skip ?_
            refine qw_seq ?_
            refine cw_seq ?_
            refine cw_region ?_
            refine ow_val rfl rfl (ex_build (parts := [(0, _)]) (cells := #[.int .i64 7, .int .i64 0, .slice none 0 0, .slice none 0 0]) rfl (by kernel_rfl)) ?_
            refine ow_val rfl rfl (ex_loadR rfl (by first | exact ld_ownN 0 rfl rfl | exact ld_ownN 1 rfl rfl | exact ld_ownN 2 rfl rfl | exact ld_ownN 3 rfl rfl | exact ld_ownN 4 rfl rfl | exact ld_ownN 5 rfl rfl | exact ld_ownN 6 rfl rfl | exact ld_ownN 7 rfl rfl | exact ld_immT (by assumption) (by assumption))) ?_
            refine ow_cr rfl rfl (ex_callf rfl (fun w h => callR (pPow (t := sevT) (x := x) h.im (sevT_c _) ha0))) (fun v76 τ1 hl1 hf1 hr76 => ?_)
            obtain ⟨c1, rfl, ht1⟩ := hr76
            have ht1' := ht1
            obtain ⟨d1, k1, rfl, _, _, _, _⟩ := ht1'.opn
            refine ow_val rfl rfl (ex_move rfl) ?_
            refine ow_val rfl rfl (ex_extract rfl rfl) ?_
            refine ow_val rfl rfl (ex_extract rfl rfl) ?_
            refine ow_blk rfl rfl exw_alloc ?_; intro b11
            refine ow_u rfl (exu_storeN 0 rfl rfl rfl rfl ht1.one rfl) ?_
            refine ow_val rfl rfl (ex_assign rfl) ?_
            refine ow_nil ?_
            refine qw_seq ?_
            refine cw_seq ?_
            refine cw_region ?_
            refine ow_val rfl rfl (ex_build (parts := [(0, _)]) (cells := #[.int .i64 7, .int .i64 0, .slice none 0 0, .slice none 0 0]) rfl (by kernel_rfl)) ?_
            refine ow_val rfl rfl (ex_loadR rfl (by first | exact ld_ownN 0 rfl rfl | exact ld_ownN 1 rfl rfl | exact ld_ownN 2 rfl rfl | exact ld_ownN 3 rfl rfl | exact ld_ownN 4 rfl rfl | exact ld_ownN 5 rfl rfl | exact ld_ownN 6 rfl rfl | exact ld_ownN 7 rfl rfl | exact ld_immT (by assumption) (by assumption))) ?_
            refine ow_cr rfl rfl (ex_callf rfl (fun w h => callR (pPow (t := sevT) (x := y) h.im (sevT_c _) (hb0.le hl1)))) (fun v82 τ2 hl2 hf2 hr82 => ?_)
            obtain ⟨c2, rfl, ht2⟩ := hr82
            have ht2' := ht2
            obtain ⟨d2, k2, rfl, _, _, _, _⟩ := ht2'.opn
            refine ow_val rfl rfl (ex_move rfl) ?_
            refine ow_val rfl rfl (ex_extract rfl rfl) ?_
            refine ow_val rfl rfl (ex_extract rfl rfl) ?_
            refine ow_blk rfl rfl exw_alloc ?_; intro b13
            refine ow_u rfl (exu_storeN 0 rfl rfl rfl rfl ht2.one rfl) ?_
            refine ow_val rfl rfl (ex_assign rfl) ?_
            refine ow_nil ?_
            refine qw_seq ?_
            refine cw_cut [(5, .pointer (some ⟨b5, 0, none⟩)), (7, .bool true)] (fun w' => ∃ τ', Le σ τ' ∧ St w (fun _ => False) τ' [(b5, .cells (Value.agg #[.int .i64 z.op, .int .i64 z.num, dv2, kv2]).cells 26)] [] w') ?_ ?_
            ·
              refine cw_cut1 88 (.bool ((pow sevT x).2 && (pow sevT y).2)) ?_ ?_
              ·
                refine cw_region ?_
                refine ow_val rfl rfl (ex_move rfl) ?_
                refine ow_val rfl rfl (ex_move rfl) ?_
                refine ow_split (g := some (1, true)) rfl (fun s86 => ?_) (fun s86 => ?_)
                ·
                  refine ow_val rfl (gd_go rfl s86) (ex_move rfl) ?_
                  refine ow_val rfl rfl (ex_pickt rfl s86 rfl) ?_
                  refine ow_nil ?_
                  exact qw_meet (subL_meet 4 88 (lkv rfl (by rw [s86]; first | rfl | simp)) rfl rfl) (fun w h => h)
                ·
                  refine ow_skip rfl (gd_no rfl s86) ?_
                  refine ow_val rfl rfl (ex_pickf rfl s86 rfl) ?_
                  refine ow_nil ?_
                  exact qw_meet (subL_meet 4 88 (lkv rfl (by rw [s86]; first | rfl | simp)) rfl rfl) (fun w h => h)
              ·
                refine cw_cond rfl (fun c88 => ?_) (fun c88 => ?_)
                ·
                  have hp2 : (pow sevT x).2 = true ∧ (pow sevT y).2 = true := by simpa using c88
                  have hps : pow (pow sevT x).1 y = pow (pow sevT y).1 x := pow_swap (s := sevT) rfl (Prod.ext rfl hp2.1) (Prod.ext rfl hp2.2)
                  refine cw_seq ?_
                  refine cw_region ?_
                  refine ow_val rfl rfl (ex_loadR rfl (by first | exact ld_ownN 0 rfl rfl | exact ld_ownN 1 rfl rfl | exact ld_ownN 2 rfl rfl | exact ld_ownN 3 rfl rfl | exact ld_ownN 4 rfl rfl | exact ld_ownN 5 rfl rfl | exact ld_ownN 6 rfl rfl | exact ld_ownN 7 rfl rfl | exact ld_immT (by assumption) (by assumption))) ?_
                  refine ow_val rfl rfl (ex_loadR rfl (by first | exact ld_ownN 0 rfl rfl | exact ld_ownN 1 rfl rfl | exact ld_ownN 2 rfl rfl | exact ld_ownN 3 rfl rfl | exact ld_ownN 4 rfl rfl | exact ld_ownN 5 rfl rfl | exact ld_ownN 6 rfl rfl | exact ld_ownN 7 rfl rfl | exact ld_immT (by assumption) (by assumption))) ?_
                  refine ow_cr rfl rfl (ex_callf rfl (fun w h => callR (pPow (t := (pow sevT x).1) (x := y) h.im (ht1.le hl2) ((hb0.le hl1).le hl2)))) (fun v92 τ3 hl3 hf3 hr92 => ?_)
                  obtain ⟨c3, rfl, ht3⟩ := hr92
                  have ht3' := ht3
                  obtain ⟨d3, k3, rfl, _, _, _, _⟩ := ht3'.opn
                  refine ow_val rfl rfl (ex_move rfl) ?_
                  refine ow_val rfl rfl (ex_extract rfl rfl) ?_
                  refine ow_val rfl rfl (ex_extract rfl rfl) ?_
                  refine ow_blk rfl rfl exw_alloc ?_; intro b15
                  refine ow_u rfl (exu_storeN 0 rfl rfl rfl rfl ht3.one rfl) ?_
                  refine ow_val rfl rfl (ex_assign rfl) ?_
                  refine ow_nil ?_
                  refine qw_seq ?_
                  refine cw_seq ?_
                  refine cw_region ?_
                  refine ow_val rfl rfl (ex_loadR rfl (by first | exact ld_ownN 0 rfl rfl | exact ld_ownN 1 rfl rfl | exact ld_ownN 2 rfl rfl | exact ld_ownN 3 rfl rfl | exact ld_ownN 4 rfl rfl | exact ld_ownN 5 rfl rfl | exact ld_ownN 6 rfl rfl | exact ld_ownN 7 rfl rfl | exact ld_immT (by assumption) (by assumption))) ?_
                  refine ow_val rfl rfl (ex_loadR rfl (by first | exact ld_ownN 0 rfl rfl | exact ld_ownN 1 rfl rfl | exact ld_ownN 2 rfl rfl | exact ld_ownN 3 rfl rfl | exact ld_ownN 4 rfl rfl | exact ld_ownN 5 rfl rfl | exact ld_ownN 6 rfl rfl | exact ld_ownN 7 rfl rfl | exact ld_immT (by assumption) (by assumption))) ?_
                  refine ow_cr rfl rfl (ex_callf rfl (fun w h => callR (pPow (t := (pow sevT y).1) (x := x) h.im (ht2.le hl3) (((ha0.le hl1).le hl2).le hl3)))) (fun v98 τ4 hl4 hf4 hr98 => ?_)
                  obtain ⟨c4, rfl, ht4⟩ := hr98
                  have ht4' := ht4
                  obtain ⟨d4, k4, rfl, _, _, _, _⟩ := ht4'.opn
                  refine ow_val rfl rfl (ex_move rfl) ?_
                  refine ow_val rfl rfl (ex_extract rfl rfl) ?_
                  refine ow_val rfl rfl (ex_extract rfl rfl) ?_
                  refine ow_blk rfl rfl exw_alloc ?_; intro b17
                  refine ow_u rfl (exu_storeN 0 rfl rfl rfl rfl ht4.one rfl) ?_
                  refine ow_val rfl rfl (ex_assign rfl) ?_
                  refine ow_nil ?_
                  refine qw_seq ?_
                  refine cw_seq ?_
                  refine cw_region ?_
                  refine ow_val rfl rfl (ex_move rfl) ?_
                  refine ow_val rfl rfl (ex_move rfl) ?_
                  refine ow_val rfl rfl (ex_neqb rfl rfl) ?_
                  refine ow_val rfl rfl (ex_move rfl) ?_
                  refine ow_split (g := some (3, false)) rfl (fun s104 => ?_) (fun s104 => ?_)
                  ·
                    exfalso; rw [hps] at s104; simp at s104
                  ·
                    refine ow_val rfl (gd_go rfl s104) (ex_loadR rfl (by first | exact ld_ownN 0 rfl rfl | exact ld_ownN 1 rfl rfl | exact ld_ownN 2 rfl rfl | exact ld_ownN 3 rfl rfl | exact ld_ownN 4 rfl rfl | exact ld_ownN 5 rfl rfl | exact ld_ownN 6 rfl rfl | exact ld_ownN 7 rfl rfl | exact ld_immT (by assumption) (by assumption))) ?_
                    refine ow_val rfl (gd_go rfl s104) (ex_loadR rfl (by first | exact ld_ownN 0 rfl rfl | exact ld_ownN 1 rfl rfl | exact ld_ownN 2 rfl rfl | exact ld_ownN 3 rfl rfl | exact ld_ownN 4 rfl rfl | exact ld_ownN 5 rfl rfl | exact ld_ownN 6 rfl rfl | exact ld_ownN 7 rfl rfl | exact ld_immT (by assumption) (by assumption))) ?_
                    refine ow_cv rfl (gd_go rfl s104) (ex_callf rfl (fun w h => callB ((pOrder _ _ h.im (ht3.le hl4) ht4)))) ?_
                    refine ow_val rfl (gd_go rfl s104) (ex_neq rfl rfl) ?_
                    refine ow_val rfl rfl (ex_pickf rfl s104 rfl) ?_
                    refine ow_nil ?_
                    refine qw_seq ?_
                    refine cw_cond rfl (fun c109 => ?_) (fun c109 => ?_)
                    ·
                      exfalso; rw [hps] at c109; simp [ord_self] at c109
                    ·
                      refine cw_skip ?_
                      first
                        | exact qw_meet (subL_cons (lkv rfl (by first | rfl | simp)) (subL_cons (lkv rfl (by first | rfl | simp)) (subL_nil _))) (fun w' h => ⟨τ4, ((hl1.trans hl2).trans hl3).trans hl4, h.drop (by repeat (first | exact List.Sublist.cons_cons _ (List.nil_sublist _) | refine List.Sublist.cons _ ?_))⟩)
                        | exact qw_meet (subL_cons (lkv rfl (by first | rfl | simp)) (subL_cons (lkv rfl (by first | rfl | simp)) (subL_nil _))) (fun w' h => ⟨τ2, hl1.trans hl2, h.drop (by repeat (first | exact List.Sublist.cons_cons _ (List.nil_sublist _) | refine List.Sublist.cons _ ?_))⟩)
                ·
                  refine cw_skip ?_
                  first
                    | exact qw_meet (subL_cons (lkv rfl (by first | rfl | simp)) (subL_cons (lkv rfl (by first | rfl | simp)) (subL_nil _))) (fun w' h => ⟨τ4, ((hl1.trans hl2).trans hl3).trans hl4, h.drop (by repeat (first | exact List.Sublist.cons_cons _ (List.nil_sublist _) | refine List.Sublist.cons _ ?_))⟩)
                    | exact qw_meet (subL_cons (lkv rfl (by first | rfl | simp)) (subL_cons (lkv rfl (by first | rfl | simp)) (subL_nil _))) (fun w' h => ⟨τ2, hl1.trans hl2, h.drop (by repeat (first | exact List.Sublist.cons_cons _ (List.nil_sublist _) | refine List.Sublist.cons _ ?_))⟩)
            ·
              refine cw_ex fun τ => cw_and fun hlt => ?_
              refine cw_seq ?_
              have hsz : size z ≤ 2000 := hsx.2.2
              have hnz : size (norm z) ≤ 2000 := by rw [size_norm]; exact hsz
              refine cw_region ?_
              refine ow_val rfl rfl (ex_loadR rfl (by first | exact ld_ownN 0 rfl rfl | exact ld_ownN 1 rfl rfl | exact ld_ownN 2 rfl rfl | exact ld_ownN 3 rfl rfl | exact ld_ownN 4 rfl rfl | exact ld_ownN 5 rfl rfl | exact ld_ownN 6 rfl rfl | exact ld_ownN 7 rfl rfl | exact ld_immT (by assumption) (by assumption))) ?_
              refine ow_cr rfl rfl (ex_callf rfl (fun w h => callR (pNormAll z hsz h.im (hc0.le hlt)))) (fun v111 τ5 hl5 hf5 hr111 => ?_)
              obtain ⟨c5, rfl, ht5⟩ := hr111
              have ht5' := ht5
              obtain ⟨d5, k5, rfl, _, _, _, _⟩ := ht5'.opn
              refine ow_blk rfl rfl exw_alloc ?_; intro b19
              refine ow_u rfl (exu_storeN 0 rfl rfl rfl rfl ht5.one rfl) ?_
              refine ow_nil ?_
              refine qw_seq ?_
              refine cw_seq ?_
              refine flow_sound 20 (by kernel_rfl) ?_
              refine flow_val rfl (ex_move rfl) ?_
              refine flow_val rfl (ex_move rfl) ?_
              refine flow_split rfl (fun s113 => ?_) (fun s113 => ?_)
              ·
                refine flow_val (gd_go rfl s113) (ex_loadR rfl (by first | exact ld_ownN 0 rfl rfl | exact ld_ownN 1 rfl rfl | exact ld_ownN 2 rfl rfl | exact ld_ownN 3 rfl rfl | exact ld_ownN 4 rfl rfl | exact ld_ownN 5 rfl rfl | exact ld_ownN 6 rfl rfl | exact ld_ownN 7 rfl rfl | exact ld_immT (by assumption) (by assumption))) ?_
                refine flow_cr (gd_go rfl s113) (ex_callf rfl (fun w h => callR (pNormAll (norm z) hnz h.im ht5))) ?_
                refine flow_val (gd_go rfl s113) (ex_loadR rfl (by first | exact ld_ownN 0 rfl rfl | exact ld_ownN 1 rfl rfl | exact ld_ownN 2 rfl rfl | exact ld_ownN 3 rfl rfl | exact ld_ownN 4 rfl rfl | exact ld_ownN 5 rfl rfl | exact ld_ownN 6 rfl rfl | exact ld_ownN 7 rfl rfl | exact ld_immT (by assumption) (by assumption))) ?_
                refine flow_is (v := .int .i64 (ord (norm (norm z)) (norm z))) (obk_sat 115 rfl (fun v115 => ob_open (fun τ' hl' hf' hr' => ?_))) ?_
                · obtain ⟨cq, rfl, htq⟩ := hr'
                  exact ob_cv rfl (ex_callf rfl (fun w h => callB (pOrder _ _ h.im htq (ht5.le hl'))))
                refine flow_val (gd_go rfl s113) (ex_eql rfl rfl) ?_
                refine flow_val rfl (ex_pickt rfl s113 rfl) ?_
                refine flow_val rfl (ex_move rfl) ?_
                refine flow_split rfl (fun s120 => ?_) (fun s120 => ?_)
                ·
                  refine flow_val (gd_go rfl s120) (ex_loadR rfl (by first | exact ld_ownN 0 rfl rfl | exact ld_ownN 1 rfl rfl | exact ld_ownN 2 rfl rfl | exact ld_ownN 3 rfl rfl | exact ld_ownN 4 rfl rfl | exact ld_ownN 5 rfl rfl | exact ld_ownN 6 rfl rfl | exact ld_ownN 7 rfl rfl | exact ld_immT (by assumption) (by assumption))) ?_
                  refine flow_cv (gd_go rfl s120) (ex_callf rfl (fun w h => callB ((pRight z h.im (hc0.le (hlt.trans hl5)))))) ?_
                  refine flow_val (gd_go rfl s120) (ex_not rfl) ?_
                  refine flow_val (gd_go rfl s120) (ex_move rfl) ?_
                  refine flow_split rfl (fun s124 => ?_) (fun s124 => ?_)
                  ·
                    refine flow_skip (gd_no rfl s124) ?_
                    refine flow_skip (gd_no rfl s124) ?_
                    refine flow_skip (gd_no rfl s124) ?_
                    refine flow_skip (gd_no rfl s124) ?_
                    refine flow_val (gd_go rfl s120) (ex_pickt rfl s124 rfl) ?_
                    refine flow_val rfl (ex_pickt rfl s120 rfl) ?_
                    refine flow_val rfl (ex_assign rfl) ?_
                    refine flow_nil ?_
                    refine fin_is ?_
                    refine fin_is ?_
                    refine fin_is ?_
                    refine fin_is ?_
                    refine fin_is ?_
                    refine fin_is ?_
                    refine fin_is ?_
                    refine fin_is ?_
                    refine fin_is ?_
                    refine fin_is ?_
                    refine fin_is ?_
                    refine fin_is ?_
                    refine fin_is ?_
                    refine fin_is ?_
                    refine fin_is ?_
                    refine fin_is ?_
                    refine fin_drop ?_
                    refine fin_is ?_
                    refine fin_is ?_
                    refine fin_is ?_
                    refine fin_nil ?_
                    refine ow_nil ?_
                    refine qw_seq ?_
                    refine cw_ret ?_
                    refine qw_ret1 rfl rfl (fun w' h => ⟨congrArg (fun z => Ending.returned (.bool z)) ?_, h.ag.below⟩)
                    first
                      | rfl
                      | (have hz := (right_norm (show right z = true by simpa using s124)).1; rw [hz, ord_self]; rfl)
                  ·
                    refine flow_val (gd_go rfl s124) (ex_loadR rfl (by first | exact ld_ownN 0 rfl rfl | exact ld_ownN 1 rfl rfl | exact ld_ownN 2 rfl rfl | exact ld_ownN 3 rfl rfl | exact ld_ownN 4 rfl rfl | exact ld_ownN 5 rfl rfl | exact ld_ownN 6 rfl rfl | exact ld_ownN 7 rfl rfl | exact ld_immT (by assumption) (by assumption))) ?_
                    refine flow_val (gd_go rfl s124) (ex_loadR rfl (by first | exact ld_ownN 0 rfl rfl | exact ld_ownN 1 rfl rfl | exact ld_ownN 2 rfl rfl | exact ld_ownN 3 rfl rfl | exact ld_ownN 4 rfl rfl | exact ld_ownN 5 rfl rfl | exact ld_ownN 6 rfl rfl | exact ld_ownN 7 rfl rfl | exact ld_immT (by assumption) (by assumption))) ?_
                    refine flow_cv (gd_go rfl s124) (ex_callf rfl (fun w h => callB ((pOrder _ _ h.im ht5 (hc0.le (hlt.trans hl5)))))) ?_
                    refine flow_val (gd_go rfl s124) (ex_eql rfl rfl) ?_
                    refine flow_val (gd_go rfl s120) (ex_pickf rfl s124 rfl) ?_
                    refine flow_val rfl (ex_pickt rfl s120 rfl) ?_
                    refine flow_val rfl (ex_assign rfl) ?_
                    refine flow_nil ?_
                    refine fin_is ?_
                    refine fin_is ?_
                    refine fin_is ?_
                    refine fin_is ?_
                    refine fin_is ?_
                    refine fin_is ?_
                    refine fin_is ?_
                    refine fin_is ?_
                    refine fin_is ?_
                    refine fin_is ?_
                    refine fin_is ?_
                    refine fin_is ?_
                    refine fin_is ?_
                    refine fin_is ?_
                    refine fin_is ?_
                    refine fin_is ?_
                    refine fin_drop ?_
                    refine fin_is ?_
                    refine fin_is ?_
                    refine fin_is ?_
                    refine fin_nil ?_
                    refine ow_nil ?_
                    refine qw_seq ?_
                    refine cw_ret ?_
                    refine qw_ret1 rfl rfl (fun w' h => ⟨congrArg (fun z => Ending.returned (.bool z)) ?_, h.ag.below⟩)
                    first
                      | rfl
                      | (have hz := (right_norm (show right z = true by simpa using s124)).1; rw [hz, ord_self]; rfl)
                ·
                  rw [norm_norm, ord_self] at s120; simp at s120
              ·
                exact absurd s113 (by decide)
end Go.Proofs.Ytnjomdjkbbhdoaa
