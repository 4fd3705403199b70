/-
  What the law CryptoPlays needs, part 4.
  No condition.
-/
import Derived.Test.YtnjomdjkbbhdoaaGreatDoorP3
set_option linter.unusedVariables false
set_option linter.unusedSimpArgs false
set_option linter.unusedSectionVars false
namespace Go.Proofs.YtnjomdjkbbhdoaaGreatDoor
open Go.RowKit
set_option linter.unusedVariables false
set_option linter.unusedSimpArgs false
set_option maxRecDepth 100000
set_option maxHeartbeats 400000 in
theorem rPow {t x : T} {σ : Hp} {ca cb : List Value} {w : World} (hi : Imm σ w) (ha : TermC σ ca t) (hb : TermC σ cb x) :
    Calls Tryz.prog 63 #[.agg ca.toArray, .agg cb.toArray] w (GiveR (RepTB (pow t x).1 (pow t x).2) σ w) := by
  have ha0 := ha
  have hb0 := hb
  obtain ⟨dv, kv, rfl, ho, hn, hd, hk⟩ := ha.opn
  obtain ⟨dv', kv', rfl, ho', hn', hd', hk'⟩ := hb.opn
  refine enter (St w (fun _ => False) σ [] []) Tryz.func63 rfl Tryz.ntmps63 rfl (St.start hi) ?_
  refine cw_seq ?_
  refine cw_region ?_
  refine ow_blk rfl rfl (exw_box rfl) ?_; intro b2
  refine ow_blk rfl rfl (exw_box rfl) ?_; intro b3
  refine ow_blk rfl rfl exw_alloc ?_; intro b4
  refine ow_val rfl rfl (ex_assign rfl) ?_
  refine ow_nil ?_
  refine qw_seq ?_
  refine cw_seq ?_
  refine cw_region ?_
  refine ow_val rfl rfl (ex_loadR rfl (by first | exact ld_ownN 0 rfl rfl | exact ld_ownN 1 rfl rfl | exact ld_ownN 2 rfl rfl | exact ld_ownN 3 rfl rfl | exact ld_ownN 4 rfl rfl | exact ld_ownN 5 rfl rfl | exact ld_ownN 6 rfl rfl | exact ld_ownN 7 rfl rfl | exact ld_ownGN 0 rfl rfl | exact ld_ownGN 1 rfl rfl | exact ld_immT (by assumption) (by assumption))) ?_
  refine ow_cv rfl rfl (ex_callf rfl (fun w h => callB ((rRight t h.im ha0)))) ?_
  refine ow_val rfl rfl (ex_assign rfl) ?_
  refine ow_nil ?_
  refine qw_seq ?_
  refine cw_seq ?_
  refine cw_region ?_
  refine ow_val rfl rfl (ex_loadR rfl (by first | exact ld_ownN 0 rfl rfl | exact ld_ownN 1 rfl rfl | exact ld_ownN 2 rfl rfl | exact ld_ownN 3 rfl rfl | exact ld_ownN 4 rfl rfl | exact ld_ownN 5 rfl rfl | exact ld_ownN 6 rfl rfl | exact ld_ownN 7 rfl rfl | exact ld_ownGN 0 rfl rfl | exact ld_ownGN 1 rfl rfl | exact ld_immT (by assumption) (by assumption))) ?_
  refine ow_cv rfl rfl (ex_callf rfl (fun w h => callB ((rRight x h.im hb0)))) ?_
  refine ow_val rfl rfl (ex_assign rfl) ?_
  refine ow_nil ?_
  refine qw_seq ?_
  refine cw_seq ?_
  refine cw_cut1 24 (.bool (!right t || (!right x || decide (t.op ≠ 7)))) ?_ ?_
  ·
    refine cw_region ?_
    refine ow_val rfl rfl (ex_move rfl) ?_
    refine ow_val rfl rfl (ex_not rfl) ?_
    refine ow_val rfl rfl (ex_move rfl) ?_
    refine ow_split (g := some (2, false)) rfl (fun s16 => ?_) (fun s16 => ?_)
    ·
      refine ow_skip rfl (gd_no rfl s16) ?_
      refine ow_skip rfl (gd_no rfl s16) ?_
      refine ow_val rfl rfl (ex_pickt rfl s16 rfl) ?_
      refine ow_val rfl rfl (ex_move rfl) ?_
      refine ow_skip rfl rfl ?_
      refine ow_skip rfl rfl ?_
      refine ow_skip rfl rfl ?_
      refine ow_val rfl rfl (ex_pick_t rfl rfl) ?_
      refine ow_nil ?_
      exact qw_meet (subL_meet 11 24 (lkv rfl (by first | rfl | (simp_all; done) | (simp_all <;> omega))) rfl rfl) (fun w h => h)
    ·
      refine ow_val rfl (gd_go rfl s16) (ex_move rfl) ?_
      refine ow_val rfl (gd_go rfl s16) (ex_not rfl) ?_
      refine ow_val rfl rfl (ex_pickf rfl s16 rfl) ?_
      refine ow_val rfl rfl (ex_move rfl) ?_
      refine ow_split (g := some (6, false)) rfl (fun s20 => ?_) (fun s20 => ?_)
      ·
        refine ow_skip rfl (gd_no rfl s20) ?_
        refine ow_skip rfl (gd_no rfl s20) ?_
        refine ow_skip rfl (gd_no rfl s20) ?_
        refine ow_val rfl rfl (ex_pickt rfl s20 rfl) ?_
        refine ow_nil ?_
        exact qw_meet (subL_meet 11 24 (lkv rfl (by first | rfl | (simp_all; done) | (simp_all <;> omega))) rfl rfl) (fun w h => h)
      ·
        refine ow_val rfl (gd_go rfl s20) (ex_field rfl) ?_
        refine ow_val rfl (gd_go rfl s20) (ex_load1 rfl (by first | exact ld_own1 0 rfl rfl | exact ld_own1 1 rfl rfl | exact ld_own1 2 rfl rfl | exact ld_own1 3 rfl rfl | exact ld_own1 4 rfl rfl | exact ld_own1 5 rfl rfl | exact ld_own1 6 rfl rfl | exact ld_own1 7 rfl rfl | exact ld_ownG1 0 rfl rfl | exact ld_ownG1 1 rfl rfl | exact ld_imm1 (by assumption))) ?_
        refine ow_val rfl (gd_go rfl s20) (ex_neq rfl rfl) ?_
        refine ow_val rfl rfl (ex_pickf rfl s20 rfl) ?_
        refine ow_nil ?_
        exact qw_meet (subL_meet 11 24 (lkv rfl (by first | rfl | (simp_all; done) | (simp_all <;> omega))) rfl rfl) (fun w h => h)
  ·
    refine cw_cond rfl (fun c24 => ?_) (fun c24 => ?_)
    ·
      refine cw_seq ?_
      refine cw_region ?_
      refine ow_val rfl rfl (ex_build (parts := []) (cells := #[.int .i64 0, .int .i64 0, .slice none 0 0, .slice none 0 0]) rfl (by kernel_rfl)) ?_
      refine ow_u rfl (exu_storeN 0 (cs := [.int .i64 0, .int .i64 0, .slice none 0 0, .slice none 0 0]) rfl rfl rfl rfl (by intro u hu; simp at hu; rcases hu with rfl | rfl <;> rfl) rfl) ?_
      refine ow_val rfl rfl (ex_assign rfl) ?_
      refine ow_nil ?_
      refine qw_seq ?_
      refine cw_ret ?_
      refine qw_then_ret ?_
      refine qw_retC1 rfl rfl (ld_ownN 0 rfl rfl) rfl (fun w' h => ?_)
      have e : pow t x = (zeroT, false) := by
        unfold pow
        rw [if_neg]
        rintro ⟨h1, h2, h3, _⟩
        simp [h1, h2, h3] at c24
      rw [e]
      exact h.gives (Le.refl _) (Fresh.refl _ _) ⟨_, rfl, TermC.mk (by omega) (by omega) (BytesV.nil σ) (KidsV.nil σ)⟩
    ·
      simp at c24
      obtain ⟨hr1, hr2, hop⟩ := c24
      have hlen : t.kids.length < maxKids := by
        have := right_exps hr1 hop
        unfold maxKids; omega
      refine cw_skip ?_
      refine qw_seq ?_
      refine cw_seq ?_
      refine cw_region ?_
      refine ow_val rfl rfl (ex_field rfl) ?_
      refine ow_val rfl rfl (ex_load1 rfl (by first | exact ld_own1 0 rfl rfl | exact ld_own1 1 rfl rfl | exact ld_own1 2 rfl rfl | exact ld_own1 3 rfl rfl | exact ld_own1 4 rfl rfl | exact ld_own1 5 rfl rfl | exact ld_own1 6 rfl rfl | exact ld_own1 7 rfl rfl | exact ld_ownG1 0 rfl rfl | exact ld_ownG1 1 rfl rfl | exact ld_imm1 (by assumption))) ?_
      refine ow_val rfl rfl (ex_loadR rfl (by first | exact ld_ownN 0 rfl rfl | exact ld_ownN 1 rfl rfl | exact ld_ownN 2 rfl rfl | exact ld_ownN 3 rfl rfl | exact ld_ownN 4 rfl rfl | exact ld_ownN 5 rfl rfl | exact ld_ownN 6 rfl rfl | exact ld_ownN 7 rfl rfl | exact ld_ownGN 0 rfl rfl | exact ld_ownGN 1 rfl rfl | exact ld_immT (by assumption) (by assumption))) ?_
      refine ow_cr rfl rfl (ex_callf rfl (fun w h => callR (rPut h.im hk hb0 hlen))) (fun v29 τ hl hf hr29 => ?_)
      have hr29' := hr29
      obtain ⟨q, n29, rfl, _, _⟩ := KidsV.slice hr29'
      have htp : TermC τ [.int .i64 7, .int .i64 0, .slice none 0 0, .slice q (putB t.kids x).length n29] (powT t x) := TermC.mk (by omega) (by omega) (BytesV.nil τ) hr29
      refine ow_val rfl rfl (ex_build (parts := [(0, _), (3, _)]) (cells := #[.int .i64 7, .int .i64 0, .slice none 0 0, .slice q (putB t.kids x).length n29]) rfl (by kernel_rfl)) ?_
      refine ow_blk rfl rfl exw_alloc ?_; intro b8
      refine ow_u rfl (exu_storeN 0 (cs := [.int .i64 7, .int .i64 0, .slice none 0 0, .slice q (putB t.kids x).length n29]) rfl rfl rfl rfl (TermC.one htp) rfl) ?_
      refine ow_nil ?_
      refine qw_seq ?_
      refine cw_seq ?_
      refine cw_region ?_
      refine ow_val rfl rfl (ex_loadR rfl (by first | exact ld_ownN 0 rfl rfl | exact ld_ownN 1 rfl rfl | exact ld_ownN 2 rfl rfl | exact ld_ownN 3 rfl rfl | exact ld_ownN 4 rfl rfl | exact ld_ownN 5 rfl rfl | exact ld_ownN 6 rfl rfl | exact ld_ownN 7 rfl rfl | exact ld_ownGN 0 rfl rfl | exact ld_ownGN 1 rfl rfl | exact ld_immT (by assumption) (by assumption))) ?_
      refine ow_cv rfl rfl (ex_callf rfl (fun w h => callB ((rRight (powT t x) h.im htp)))) ?_
      refine ow_val rfl rfl (ex_assign rfl) ?_
      refine ow_nil ?_
      refine qw_seq ?_
      refine cw_seq ?_
      refine cw_seq ?_
      refine cw_region ?_
      refine ow_val rfl rfl (ex_move rfl) ?_
      refine ow_val rfl rfl (ex_not rfl) ?_
      refine ow_nil ?_
      refine qw_seq ?_
      refine cw_cond rfl (fun c34 => ?_) (fun c34 => ?_)
      ·
        refine cw_seq ?_
        refine cw_region ?_
        refine ow_val rfl rfl (ex_build (parts := []) (cells := #[.int .i64 0, .int .i64 0, .slice none 0 0, .slice none 0 0]) rfl (by kernel_rfl)) ?_
        refine ow_u rfl (exu_storeN 1 (cs := [.int .i64 0, .int .i64 0, .slice none 0 0, .slice none 0 0]) rfl rfl rfl rfl (by intro u hu; simp at hu; rcases hu with rfl | rfl <;> rfl) rfl) ?_
        refine ow_val rfl rfl (ex_assign rfl) ?_
        refine ow_nil ?_
        refine qw_seq ?_
        refine cw_ret ?_
        refine qw_then_ret ?_
        refine qw_retC1 rfl rfl (ld_ownN 1 rfl rfl) rfl (fun w' h => ?_)
        have e : pow t x = (zeroT, false) := by
          unfold pow
          rw [if_neg]
          rintro ⟨_, _, _, h4⟩
          rw [h4] at c34
          cases c34
        rw [e]
        exact h.gives hl hf ⟨_, rfl, TermC.mk (by omega) (by omega) (BytesV.nil τ) (KidsV.nil τ)⟩
      ·
        refine cw_skip ?_
        refine qw_seq ?_
        refine cw_seq ?_
        refine cw_region ?_
        refine ow_val rfl rfl (ex_loadR rfl (by first | exact ld_ownN 0 rfl rfl | exact ld_ownN 1 rfl rfl | exact ld_ownN 2 rfl rfl | exact ld_ownN 3 rfl rfl | exact ld_ownN 4 rfl rfl | exact ld_ownN 5 rfl rfl | exact ld_ownN 6 rfl rfl | exact ld_ownN 7 rfl rfl | exact ld_ownGN 0 rfl rfl | exact ld_ownGN 1 rfl rfl | exact ld_immT (by assumption) (by assumption))) ?_
        refine ow_u rfl (exu_storeN 1 (cs := [.int .i64 7, .int .i64 0, .slice none 0 0, .slice q (putB t.kids x).length n29]) rfl rfl rfl rfl (TermC.one htp) rfl) ?_
        refine ow_val rfl rfl (ex_assign rfl) ?_
        refine ow_nil ?_
        refine qw_seq ?_
        refine cw_ret ?_
        refine qw_retC1 rfl rfl (ld_ownN 1 rfl rfl) rfl (fun w' h => ?_)
        have e : pow t x = (powT t x, true) := by
          unfold pow
          rw [if_pos ⟨hr1, hr2, hop, by simpa using c34⟩]
        rw [e]
        exact h.gives hl hf ⟨_, rfl, htp⟩
end Go.Proofs.YtnjomdjkbbhdoaaGreatDoor
namespace Go.Proofs.YtnjomdjkbbhdoaaGreatDoor
open Go.RowKit
set_option linter.unusedVariables false
set_option linter.unusedSimpArgs false
set_option maxRecDepth 100000
set_option maxHeartbeats 400000 in
theorem rFind (t : T) {b : Nat} {sv : Value} {ts : List T} {ct : List Value} {σ : Hp} {w : World} (hi : Imm σ w) (hc0 : CellsAt σ b 0 [sv]) (hks : KidsV σ sv ts) (ht : TermC σ ct t) : Calls Tryz.prog 76 #[.pointer (some ⟨b, 0, none⟩), .agg ct.toArray] w fun e w' => e = .returned (.tuple #[.int .i64 (posT ts t), .bool (decide (0 ≤ posT ts t))]) ∧ Below w.heap.size w w' := by
  have ht0 := ht
  obtain ⟨dv, kv, rfl, ho, hn, hd, hk⟩ := ht.opn
  obtain ⟨p, c, rfl, hcl, hml⟩ := hks.slice
  have hm2 := hml
  unfold maxKids at hm2
  refine enter (St w (fun _ => False) σ [] []) Tryz.func76 rfl Tryz.ntmps76 rfl (St.start hi) ?_
  refine cw_seq ?_
  refine cw_region ?_
  refine ow_blk rfl rfl (exw_box rfl) ?_; intro b3
  refine ow_val rfl rfl (ex_assign rfl) ?_
  refine ow_val rfl rfl (ex_assign rfl) ?_
  refine ow_nil ?_
  refine qw_seq ?_
  refine cw_seq ?_
  refine cw_seq ?_
  refine cw_region ?_
  refine ow_val rfl rfl (ex_assign rfl) ?_
  refine ow_nil ?_
  refine qw_seq ?_
  refine cw_block ?_
  refine cw_loopS (α := Nat) (fun i => [(0, .pointer (some ⟨b, 0, none⟩)), (3, .pointer (some ⟨b3, 0, none⟩)), (6, .int .i64 (i : Int))]) (fun i => i ≤ ts.length ∧ ∀ j (h : j < ts.length), j < i → decide (ord ts[j] t = 0) = false) (fun i => ts.length - i) 0 (subL_cons (lkv rfl (by first | rfl | simp)) (subL_cons (lkv rfl (by first | rfl | simp)) (subL_cons (lkv rfl (by first | rfl | simp)) (subL_nil _)))) ⟨Nat.zero_le _, fun j _ h => absurd h (Nat.not_lt_zero _)⟩ ?_
  intro i ⟨hle, hno⟩
  refine cw_seq ?_
  refine cw_seq ?_
  refine cw_region ?_
  refine ow_val rfl rfl (ex_move rfl) ?_
  refine ow_val rfl rfl (ex_move rfl) ?_
  refine ow_val rfl rfl (ex_nilck rfl) ?_
  refine ow_val rfl rfl (ex_field rfl) ?_
  refine ow_val rfl rfl (ex_load1 rfl (by first | exact ld_own1 0 rfl rfl | exact ld_own1 1 rfl rfl | exact ld_own1 2 rfl rfl | exact ld_own1 3 rfl rfl | exact ld_own1 4 rfl rfl | exact ld_own1 5 rfl rfl | exact ld_own1 6 rfl rfl | exact ld_own1 7 rfl rfl | exact ld_ownG1 0 rfl rfl | exact ld_ownG1 1 rfl rfl | exact ld_imm1 (by assumption))) ?_
  refine ow_val rfl rfl (ex_len (ty := 0) rfl) ?_
  refine ow_val rfl rfl (ex_lss rfl rfl) ?_
  refine ow_nil ?_
  refine qw_seq ?_
  refine cw_cond rfl (fun c13 => ?_) (fun c13 => ?_)
  ·
    refine cw_skip ?_
    refine qw_seq ?_
    refine cw_seq ?_
    refine cw_block ?_
    refine cw_seq ?_
    have hlt : i < ts.length := by have := of_decide_eq_true c13; omega
    obtain ⟨bk, f, c', cs, e1, e2, hc1, ht1⟩ := hks.get i hlt
    cases e1
    refine flow_sound 9 (by kernel_rfl) ?_
    refine flow_val rfl (ex_move rfl) ?_
    refine flow_val rfl (ex_nilck rfl) ?_
    refine flow_val rfl (ex_field rfl) ?_
    refine flow_val rfl (ex_load1 rfl (by first | exact ld_own1 0 rfl rfl | exact ld_own1 1 rfl rfl | exact ld_own1 2 rfl rfl | exact ld_own1 3 rfl rfl | exact ld_own1 4 rfl rfl | exact ld_own1 5 rfl rfl | exact ld_own1 6 rfl rfl | exact ld_own1 7 rfl rfl | exact ld_ownG1 0 rfl rfl | exact ld_ownG1 1 rfl rfl | exact ld_imm1 (by assumption))) ?_
    refine flow_val rfl (ex_move rfl) ?_
    refine flow_val rfl (ex_index_nat rfl rfl (by omega)) ?_
    refine flow_val rfl (ex_loadR rfl (ld_immT hc1 ht1)) ?_
    refine flow_val rfl (ex_loadR rfl (by first | exact ld_ownN 0 rfl rfl | exact ld_ownN 1 rfl rfl | exact ld_ownN 2 rfl rfl | exact ld_ownN 3 rfl rfl | exact ld_ownN 4 rfl rfl | exact ld_ownN 5 rfl rfl | exact ld_ownN 6 rfl rfl | exact ld_ownN 7 rfl rfl | exact ld_ownGN 0 rfl rfl | exact ld_ownGN 1 rfl rfl | exact ld_immT (by assumption) (by assumption))) ?_
    refine flow_cv rfl (ex_callf rfl (fun w h => callB ((rSame _ _ h.im ht1 ht0)))) ?_
    refine flow_nil ?_
    refine fin_is ?_
    refine fin_is ?_
    refine fin_is ?_
    refine fin_is ?_
    refine fin_is ?_
    refine fin_is ?_
    refine fin_is ?_
    refine fin_is ?_
    refine fin_is ?_
    refine fin_nil ?_
    refine ow_nil ?_
    refine qw_seq ?_
    refine cw_cond rfl (fun c24 => ?_) (fun c24 => ?_)
    ·
      refine cw_seq ?_
      refine cw_region ?_
      refine ow_val rfl rfl (ex_move rfl) ?_
      refine ow_val rfl rfl (ex_assign rfl) ?_
      refine ow_val rfl rfl (ex_assign rfl) ?_
      refine ow_nil ?_
      refine qw_seq ?_
      refine cw_ret ?_
      refine qw_block_ret ?_
      refine qw_then_ret ?_
      refine qw_then_ret ?_
      refine qw_block_ret ?_
      refine qw_then_ret ?_
      refine qw_ret2 rfl rfl rfl (fun w' h => ⟨?_, h.ag.below⟩)
      have e : posT ts t = (i : Int) := findI_at hlt c24 hno
      rw [e, decide_eq_true (show (0 : Int) ≤ (i : Int) by omega)]
    ·
      refine cw_skip ?_
      refine qw_block_normal ?_
      refine qw_seq ?_
      refine cw_region ?_
      refine ow_val rfl rfl (ex_move rfl) ?_
      refine ow_val rfl rfl (ex_addi (z := ((i + 1 : Nat) : Int)) rfl rfl (by omega) (by omega) (by omega)) ?_
      refine ow_val rfl rfl (ex_assign rfl) ?_
      refine ow_nil ?_
      exact qw_roundS (i + 1) (by omega) (subL_cons (lkv rfl (by first | rfl | simp)) (subL_cons (lkv rfl (by first | rfl | simp)) (subL_cons (lkv rfl (by first | rfl | simp)) (subL_nil _)))) ⟨by omega, fun j hj hji => by
        rcases Nat.lt_or_eq_of_le (Nat.le_of_lt_succ hji) with h1 | h1
        · exact hno j hj h1
        · subst h1; exact c24⟩
  ·
    refine cw_exit ?_
    refine qw_then_exit ?_
    refine qw_then_exit ?_
    refine qw_block_exit ?_
    refine qw_seq ?_
    refine cw_seq ?_
    refine cw_region ?_
    refine ow_val rfl rfl (ex_assign rfl) ?_
    refine ow_val rfl rfl (ex_assign rfl) ?_
    refine ow_nil ?_
    refine qw_seq ?_
    refine cw_ret ?_
    refine qw_ret2 rfl rfl rfl (fun w' h => ⟨?_, h.ag.below⟩)
    have hge : ts.length ≤ i := by have := of_decide_eq_false c13; omega
    have e : posT ts t = -1 := findI_none (fun j hj => hno j hj (by omega))
    rw [e]
    rfl
set_option maxHeartbeats 400000 in
theorem rTerm {b : Nat} {n : Int} {ts : List T} {σ : Hp} {K : List (Nat × Obj)} {w : World} (hi : Has σ K w) (hv : RefK 63 32 b ts σ K) : Calls Tryz.prog 62 #[.pointer (some ⟨b, 0, none⟩), .int .i64 n] w (GiveR (RepTB (termV ts n).1 (termV ts n).2) σ w) := by
  obtain ⟨sv, xs, Gs, rfl, hO, hrow, hfew⟩ := hv
  obtain ⟨p, c, rfl, hcap, hsrc⟩ := hO.seen (σ := exts σ ((b, .cells #[sv] 63) :: Gs)) (fun q hq => exts_get hi.nd (by simp [hq]))
  have hc0 : CellsAt (exts σ ((b, .cells #[.slice p ts.length c] 63) :: Gs)) b 0 [.slice p ts.length c] := CellsAt.of1 (exts_get hi.nd List.mem_cons_self) rfl
  have hlt := hi.le
  have him := hi.exts
  generalize exts σ ((b, .cells #[.slice p ts.length c] 63) :: Gs) = σK at *
  refine enter (St w (fun _ => False) σK [] []) Tryz.func62 rfl Tryz.ntmps62 rfl (St.start him) ?_
  refine cw_seq ?_
  refine cw_region ?_
  refine ow_blk rfl rfl exw_alloc ?_; intro b4
  refine ow_val rfl rfl (ex_assign rfl) ?_
  refine ow_nil ?_
  refine qw_seq ?_
  refine cw_seq ?_
  refine cw_seq ?_
  refine cw_region ?_
  refine ow_val rfl rfl (ex_move rfl) ?_
  refine ow_val rfl rfl (ex_lss rfl rfl) ?_
  refine ow_val rfl rfl (ex_move rfl) ?_
  refine ow_split (g := some (2, false)) rfl (fun s8 => ?_) (fun s8 => ?_)
  ·
    refine ow_skip rfl (gd_no rfl s8) ?_
    refine ow_skip rfl (gd_no rfl s8) ?_
    refine ow_skip rfl (gd_no rfl s8) ?_
    refine ow_skip rfl (gd_no rfl s8) ?_
    refine ow_skip rfl (gd_no rfl s8) ?_
    refine ow_skip rfl (gd_no rfl s8) ?_
    refine ow_skip rfl (gd_no rfl s8) ?_
    refine ow_val rfl rfl (ex_pickt rfl s8 rfl) ?_
    refine ow_nil ?_
    refine qw_seq ?_
    refine cw_cond_t rfl ?_
    refine cw_seq ?_
    refine cw_region ?_
    refine ow_val rfl rfl (ex_build (parts := []) (cells := #[.int .i64 0, .int .i64 0, .slice none 0 0, .slice none 0 0]) rfl (by kernel_rfl)) ?_
    refine ow_u rfl (exu_storeN 0 (cs := [.int .i64 0, .int .i64 0, .slice none 0 0, .slice none 0 0]) rfl rfl rfl rfl (zeroT_c σ).one rfl) ?_
    refine ow_val rfl rfl (ex_assign rfl) ?_
    refine ow_nil ?_
    refine qw_seq ?_
    refine cw_ret ?_
    refine qw_then_ret ?_
    refine qw_retC1 rfl rfl (ld_ownN 0 rfl rfl) rfl (fun w' h => ?_)
    have e : termV ts n = (zeroT, false) := by
      have h8 := of_decide_eq_true s8
      unfold termV
      rw [if_neg (by omega)]
    rw [e]
    exact h.givesS hlt (Le.refl _) (Fresh.refl _ _) ⟨_, rfl, zeroT_c σ⟩
  ·
    refine ow_val rfl (gd_go rfl s8) (ex_move rfl) ?_
    refine ow_val rfl (gd_go rfl s8) (ex_move rfl) ?_
    refine ow_val rfl (gd_go rfl s8) (ex_nilck rfl) ?_
    refine ow_val rfl (gd_go rfl s8) (ex_field rfl) ?_
    refine ow_val rfl (gd_go rfl s8) (ex_load1 rfl (by first | exact ld_own1 0 rfl rfl | exact ld_own1 1 rfl rfl | exact ld_own1 2 rfl rfl | exact ld_own1 3 rfl rfl | exact ld_own1 4 rfl rfl | exact ld_own1 5 rfl rfl | exact ld_own1 6 rfl rfl | exact ld_own1 7 rfl rfl | exact ld_ownG1 0 rfl rfl | exact ld_ownG1 1 rfl rfl | exact ld_imm1 (by assumption))) ?_
    refine ow_val rfl (gd_go rfl s8) (ex_len (ty := 0) rfl) ?_
    refine ow_val rfl (gd_go rfl s8) (ex_geq rfl rfl) ?_
    refine ow_val rfl rfl (ex_pickf rfl s8 rfl) ?_
    refine ow_nil ?_
    refine qw_seq ?_
    refine cw_cond rfl (fun c16 => ?_) (fun c16 => ?_)
    ·
      refine cw_seq ?_
      refine cw_region ?_
      refine ow_val rfl rfl (ex_build (parts := []) (cells := #[.int .i64 0, .int .i64 0, .slice none 0 0, .slice none 0 0]) rfl (by kernel_rfl)) ?_
      refine ow_u rfl (exu_storeN 0 (cs := [.int .i64 0, .int .i64 0, .slice none 0 0, .slice none 0 0]) rfl rfl rfl rfl (zeroT_c σ).one rfl) ?_
      refine ow_val rfl rfl (ex_assign rfl) ?_
      refine ow_nil ?_
      refine qw_seq ?_
      refine cw_ret ?_
      refine qw_then_ret ?_
      refine qw_retC1 rfl rfl (ld_ownN 0 rfl rfl) rfl (fun w' h => ?_)
      have e : termV ts n = (zeroT, false) := by
        have h8 := of_decide_eq_true c16
        unfold termV
        rw [if_neg (by omega)]
      rw [e]
      exact h.givesS hlt (Le.refl _) (Fresh.refl _ _) ⟨_, rfl, zeroT_c σ⟩
    ·
      refine cw_skip ?_
      refine qw_seq ?_
      refine cw_seq ?_
      obtain ⟨hn0, hn1⟩ : 0 ≤ n ∧ n < ts.length := by
        first | (simp at *; omega) | (simp at *; constructor <;> omega)
      obtain ⟨i, rfl⟩ : ∃ i : Nat, n = (i : Int) := ⟨n.toNat, by omega⟩
      have hil : i < ts.length := by omega
      obtain ⟨cs, htc, hcs⟩ := hrow.at i hil
      obtain ⟨bb, ob, rfl, hcb⟩ := hsrc.resolve_left (by omega)
      have hca : CellsAt σK bb (ob + i * 4) cs := by rw [← hcs]; exact (hcb.drop (i * 4)).take 4
      have hcl := htc.len
      have htc' := htc
      obtain ⟨d9, k9, rfl, _, _, _, _⟩ := htc'.opn
      refine cw_region ?_
      refine ow_val rfl rfl (ex_move rfl) ?_
      refine ow_val rfl rfl (ex_nilck rfl) ?_
      refine ow_val rfl rfl (ex_field rfl) ?_
      refine ow_val rfl rfl (ex_load1 rfl (by first | exact ld_own1 0 rfl rfl | exact ld_own1 1 rfl rfl | exact ld_own1 2 rfl rfl | exact ld_own1 3 rfl rfl | exact ld_own1 4 rfl rfl | exact ld_own1 5 rfl rfl | exact ld_own1 6 rfl rfl | exact ld_own1 7 rfl rfl | exact ld_ownG1 0 rfl rfl | exact ld_ownG1 1 rfl rfl | exact ld_imm1 (by assumption))) ?_
      refine ow_val rfl rfl (ex_move rfl) ?_
      refine ow_val rfl rfl (ex_index_nat rfl rfl (by omega)) ?_
      refine ow_val rfl rfl (ex_loadR rfl ⟨hcl, fun w h => hca.range h.im⟩) ?_
      refine ow_u rfl (exu_storeN 0 rfl rfl rfl rfl htc.one rfl) ?_
      refine ow_val rfl rfl (ex_assign rfl) ?_
      refine ow_nil ?_
      refine qw_seq ?_
      refine cw_ret ?_
      refine qw_retC1 rfl rfl (ld_ownN 0 rfl rfl) rfl (fun w' h => ?_)
      have e : termV ts (i : Int) = (ts[i], true) := by
        unfold termV
        rw [if_pos ⟨hn0, hn1⟩]
        simp [List.getD_eq_getElem?_getD, hil]
      rw [e]
      exact h.givesS hlt (Le.refl _) (Fresh.refl _ _) ⟨_, rfl, htc⟩
theorem RefK.seenX {b : Nat} {ts : List T} {σ : Hp} {K : List (Nat × Obj)} {w : World} (h : RefK 63 32 b ts σ K) (hi : Has σ K w) : ∃ sv, CellsAt (exts σ K) b 0 [sv] ∧ KidsV (exts σ K) sv ts := by
  obtain ⟨sv, xs, Gs, rfl, hO, hr, hl⟩ := h
  obtain ⟨p, c, rfl, hc, hsrc⟩ := hO.seen (σ := exts σ ((b, .cells #[sv] 63) :: Gs)) (fun q hq => exts_get hi.nd (by simp [hq]))
  refine ⟨_, CellsAt.of1 (exts_get hi.nd List.mem_cons_self) rfl, p, c, rfl, hc, by unfold maxKids; omega, ?_⟩
  rcases hsrc with h0 | ⟨bb, o, e, hcb⟩
  · exact .inl (List.eq_nil_of_length_eq_zero h0)
  · exact .inr ⟨bb, o, e, (hr.le hi.le).elems hcb⟩
theorem rFindK (t : T) {b : Nat} {ts : List T} {ct : List Value} {σ : Hp} {K : List (Nat × Obj)} {w : World} (hi : Has σ K w) (hv : RefK 63 32 b ts σ K) (ht : TermC σ ct t) : Calls Tryz.prog 76 #[.pointer (some ⟨b, 0, none⟩), .agg ct.toArray] w fun e w' => e = .returned (.tuple #[.int .i64 (posT ts t), .bool (decide (0 ≤ posT ts t))]) ∧ Below w.heap.size w w' :=
  let ⟨_, h1, h2⟩ := hv.seenX hi
  rFind t hi.exts h1 h2 (ht.le hi.le)
set_option maxHeartbeats 400000 in
theorem rPutV : ∀ (t : T) {b : Nat} {ts : List T} {ct : List Value} {σ : Hp} {K : List (Nat × Obj)} {w : World}, Has σ K w → RefK 63 32 b ts σ K → TermC σ ct t → (0 ≤ posT ts t ∨ ts.length + size t ≤ 4096) → Calls Tryz.prog 78 #[.pointer (some ⟨b, 0, none⟩), .agg ct.toArray] w (GiveK (fun σ' u K' => u = .int .i64 (numV t ts) ∧ RefK 63 32 b (putV t ts) σ' K') σ K w) := by
  intro t
  induction t using T.ind with
  | _ o n d ks ih =>
  intro b ts ct σ K w hi hv ht hroom
  have ht0 := ht
  obtain ⟨dv, kv, rfl, ho, hn, hd, hk⟩ := ht.opn
  simp only [T.kids, T.op, T.num, T.data] at *
  obtain ⟨p, c, rfl, hc, hm⟩ := hk.slice
  have hm2 := hm
  unfold maxKids at hm2
  refine enter (St w (keysOf K) σ [] K) Tryz.func78 rfl Tryz.ntmps78 rfl (Has.start hi) ?_
  refine cw_seq ?_
  refine cw_region ?_
  refine ow_blk rfl rfl (exw_box rfl) ?_; intro b3
  refine ow_val rfl rfl (ex_assign rfl) ?_
  refine ow_nil ?_
  refine qw_seq ?_
  refine cw_seq ?_
  refine cw_region ?_
  refine ow_val rfl rfl (ex_move rfl) ?_
  refine ow_val rfl rfl (ex_loadR rfl (by first | exact ld_ownN 0 rfl rfl | exact ld_ownN 1 rfl rfl | exact ld_ownN 2 rfl rfl | exact ld_ownN 3 rfl rfl | exact ld_ownN 4 rfl rfl | exact ld_ownN 5 rfl rfl | exact ld_ownN 6 rfl rfl | exact ld_ownN 7 rfl rfl | exact ld_ownGN 0 rfl rfl | exact ld_ownGN 1 rfl rfl | exact ld_immT (by assumption) (by assumption))) ?_
  refine ow_cv rfl rfl (ex_callf rfl (fun w h => callB ((rFindK _ h.hasE hv ht0)))) ?_
  refine ow_val rfl rfl (ex_move rfl) ?_
  refine ow_val rfl rfl (ex_extract rfl rfl) ?_
  refine ow_val rfl rfl (ex_extract rfl rfl) ?_
  refine ow_val rfl rfl (ex_assign rfl) ?_
  refine ow_val rfl rfl (ex_assign rfl) ?_
  refine ow_nil ?_
  refine qw_seq ?_
  refine cw_seq ?_
  refine cw_seq ?_
  refine cw_region ?_
  refine ow_val rfl rfl (ex_move rfl) ?_
  refine ow_nil ?_
  refine qw_seq ?_
  refine cw_cond rfl (fun c14 => ?_) (fun c14 => ?_)
  ·
    refine cw_seq ?_
    refine cw_region ?_
    refine ow_val rfl rfl (ex_move rfl) ?_
    refine ow_val rfl rfl (ex_assign rfl) ?_
    refine ow_nil ?_
    refine qw_seq ?_
    refine cw_ret ?_
    refine qw_then_ret ?_
    refine qw_ret1 rfl rfl (fun w' h => ?_)
    have h0 := of_decide_eq_true c14
    refine (h.drop (List.nil_sublist _)).givesK (Le.refl _) (Fresh.refl _ _) ⟨?_, ?_⟩
    · unfold numV
      rw [if_pos h0]
    · rw [putV_mk, if_pos h0]
      exact hv
  ·
    have hnp : ¬ 0 ≤ posT ts (.mk o n d ks) := of_decide_eq_false c14
    have hsz := hroom.resolve_left hnp
    simp only [size] at hsz
    refine cw_skip ?_
    refine qw_seq ?_
    refine cw_seq ?_
    refine cw_seq ?_
    refine cw_region ?_
    refine ow_val rfl rfl (ex_assign rfl) ?_
    refine ow_nil ?_
    refine qw_seq ?_
    refine cw_block ?_
    refine cw_loop3 (fun (j : Nat) (τ : Hp) (K' : List (Nat × Obj)) => [(0, .pointer (some ⟨b, 0, none⟩)), (3, .pointer (some ⟨b3, 0, none⟩)), (7, .int .i64 (j : Int))]) (fun j τ K' => j ≤ ks.length ∧ Le σ τ ∧ Fresh σ τ w ∧ RefK 63 32 b (putVs (ks.take j) ts) τ K') (fun j τ K' => τ) (fun j τ K' => K') (fun j _ _ => ks.length - j) 0 σ K (subL_cons (lkv rfl (by first | rfl | simp)) (subL_cons (lkv rfl (by first | rfl | simp)) (subL_cons (lkv rfl (by first | rfl | simp)) (subL_nil _)))) ⟨Nat.zero_le _, Le.refl _, Fresh.refl _ _, by simpa [putVs] using hv⟩ (fun w h => h) ?_
    intro j τj Kj ⟨hlej, hlj, hfj, hvj⟩
    refine cw_seq ?_
    refine cw_seq ?_
    refine cw_region ?_
    refine ow_val rfl rfl (ex_move rfl) ?_
    refine ow_val rfl rfl (ex_field rfl) ?_
    refine ow_val rfl rfl (ex_load1 rfl (by first | exact ld_own1 0 rfl rfl | exact ld_own1 1 rfl rfl | exact ld_own1 2 rfl rfl | exact ld_own1 3 rfl rfl | exact ld_own1 4 rfl rfl | exact ld_own1 5 rfl rfl | exact ld_own1 6 rfl rfl | exact ld_own1 7 rfl rfl | exact ld_ownG1 0 rfl rfl | exact ld_ownG1 1 rfl rfl | exact ld_imm1 (by assumption))) ?_
    refine ow_val rfl rfl (ex_len (ty := 0) rfl) ?_
    refine ow_val rfl rfl (ex_lss rfl rfl) ?_
    refine ow_nil ?_
    refine qw_seq ?_
    refine cw_cond rfl (fun c20 => ?_) (fun c20 => ?_)
    ·
      refine cw_skip ?_
      refine qw_seq ?_
      refine cw_seq ?_
      refine cw_block ?_
      have hltj : j < ks.length := by have := of_decide_eq_true c20; omega
      obtain ⟨bk, f, c', cs, e1, e2, hc1, ht1⟩ := hk.get j hltj
      cases e1
      have hst := putVs_take ks ts j hltj
      have hpl := putVs_len ks ts j
      have hs1 := sizes_take ks j hltj
      have hs2 := sizes_take_le ks (j + 1)
      refine cw_region ?_
      refine ow_val rfl rfl (ex_move rfl) ?_
      refine ow_val rfl rfl (ex_field rfl) ?_
      refine ow_val rfl rfl (ex_load1 rfl (by first | exact ld_own1 0 rfl rfl | exact ld_own1 1 rfl rfl | exact ld_own1 2 rfl rfl | exact ld_own1 3 rfl rfl | exact ld_own1 4 rfl rfl | exact ld_own1 5 rfl rfl | exact ld_own1 6 rfl rfl | exact ld_own1 7 rfl rfl | exact ld_ownG1 0 rfl rfl | exact ld_ownG1 1 rfl rfl | exact ld_imm1 (by assumption))) ?_
      refine ow_val rfl rfl (ex_move rfl) ?_
      refine ow_val rfl rfl (ex_index_nat rfl rfl (by omega)) ?_
      refine ow_val rfl rfl (ex_loadR rfl (ld_immT (hc1.le hlj) (ht1.le hlj))) ?_
      refine ow_ckE rfl rfl (ex_callf rfl (fun w h => ih _ (List.getElem_mem hltj) h.hasE hvj (ht1.le hlj) (.inr (by omega)))) (fun v29 τ33 K33 hl33 hf33 hr33 => ?_)
      refine ow_nil ?_
      refine qw_block_normal ?_
      refine qw_seq ?_
      refine cw_region ?_
      refine ow_val rfl rfl (ex_move rfl) ?_
      refine ow_val rfl rfl (ex_addi (z := ((j + 1 : Nat) : Int)) rfl rfl (by omega) (by omega) (by omega)) ?_
      refine ow_val rfl rfl (ex_assign rfl) ?_
      refine ow_nil ?_
      refine qw_round3 (j + 1) τ33 K33 (by omega) (subL_cons (lkv rfl (by first | rfl | simp)) (subL_cons (lkv rfl (by first | rfl | simp)) (subL_cons (lkv rfl (by first | rfl | simp)) (subL_nil _)))) ⟨by omega, hlj.trans hl33, hfj.trans hf33, ?_⟩ (fun w h => h)
      rw [hst]
      exact hr33.2
    ·
      have he : j = ks.length := by have := of_decide_eq_false c20; omega
      subst he
      rw [List.take_length] at hvj
      have hpl := putVs_len ks ts ks.length
      rw [List.take_length] at hpl
      have hnew := putVs_new (t := .mk o n d ks) hnp
      simp only [T.kids] at hnew
      obtain ⟨sv, xs, Gs, rfl, hO, hrow, hfew⟩ := hvj
      obtain ⟨pq, cq, rfl, hcq⟩ := hO.slice
      refine cw_exit ?_
      refine qw_then_exit ?_
      refine qw_then_exit ?_
      refine qw_block_exit ?_
      refine qw_seq ?_
      refine cw_cut [(0, .pointer (some ⟨b, 0, none⟩))] (fun w' => ∃ (τ5 : Hp) (c45 : List Value) (g cg : Nat) (tl : List Value), (Le τj τ5 ∧ Fresh τj τ5 w ∧ TermC τ5 c45 (.mk o n d ks) ∧ (putVs ks ts).length + 1 ≤ cg ∧ cg ≤ maxLen ∧ (xs ++ c45 ++ tl).length = cg * 4) ∧ St w (keysOf K) τ5 [(g, rowO (xs ++ c45) tl 32), (b, .cells #[.slice (some ⟨g, 0, none⟩) ((putVs ks ts).length + 1) cg] 63)] [] w') ?_ ?_
      ·
        refine flow_soundT 7 (by kernel_rfl) ?_
        refine flow_val rfl (ex_move rfl) ?_
        refine flow_val rfl (ex_nilck rfl) ?_
        refine flow_val rfl (ex_field rfl) ?_
        refine flow_val rfl (ex_load1 rfl (by first | exact ld_own1 0 rfl rfl | exact ld_own1 1 rfl rfl | exact ld_own1 2 rfl rfl | exact ld_own1 3 rfl rfl | exact ld_own1 4 rfl rfl | exact ld_own1 5 rfl rfl | exact ld_own1 6 rfl rfl | exact ld_own1 7 rfl rfl | exact ld_ownG1 0 rfl rfl | exact ld_ownG1 1 rfl rfl | exact ld_imm1 (by assumption))) ?_
        refine flow_val rfl (ex_loadR rfl (by first | exact ld_ownN 0 rfl rfl | exact ld_ownN 1 rfl rfl | exact ld_ownN 2 rfl rfl | exact ld_ownN 3 rfl rfl | exact ld_ownN 4 rfl rfl | exact ld_ownN 5 rfl rfl | exact ld_ownN 6 rfl rfl | exact ld_ownN 7 rfl rfl | exact ld_ownGN 0 rfl rfl | exact ld_ownGN 1 rfl rfl | exact ld_immT (by assumption) (by assumption))) ?_
        refine flow_val rfl (ex_len (ty := 0) rfl) ?_
        refine flow_sat QR.pers (obk (ob_one rfl rfl (zeroT_c _))) ?_
        refine flow_nilT ?_
        refine fint_satR (Le.refl _) (fun v47 τ7 hl7 hf7 hr7 => ?_)
        obtain ⟨bo, co, rfl, hco, htco⟩ := hr7
        have ht45 := (ht0.le hlj).le hl7
        refine fint_is ?_
        refine fint_is ?_
        refine fint_is ?_
        refine fint_is ?_
        refine fint_is ?_
        refine fint_is ?_
        refine fint_nil ?_
        refine any_one (i := 7) (by kernel_rfl) ?_
        refine next_mono (fun w h => h.ofG) ?_
        refine next_app1 rfl rfl (exw_append1 (news := co) rfl rfl hO (by simp [htco.len]) (.inr ⟨_, _, rfl, fun w h => hco.range h.im⟩) htco.one (by unfold maxLen; omega) (by omega)) (fun v48 G48 hO48 hz48 => ?_)
        obtain ⟨g, cg, tl, rfl, rfl, hg1, hg2, hg3⟩ := hO48.open (by omega)
        refine any_mono (fun w h => h.ofG) ?_
        refine any_two (i := 8) (j := 10) (by kernel_rfl) ?_ ?_
        ·
          refine next_val rfl rfl (ex_index_nat rfl rfl (by omega)) ?_
          refine any_two (i := 9) (j := 10) (by kernel_rfl) ?_ ?_
          ·
            refine next_u rfl (exu_storeX 0 rfl rfl rfl ht45.len ht45.one (by simp [hrow.len, htco.len])) ?_
            refine any_one (i := 10) (by kernel_rfl) ?_
            refine next_val rfl rfl (ex_nilck rfl) ?_
            refine any_one (i := 11) (by kernel_rfl) ?_
            refine next_val rfl rfl (ex_field rfl) ?_
            refine any_one (i := 12) (by kernel_rfl) ?_
            refine next_u rfl (exu_store1 1 rfl rfl rfl rfl rfl rfl) ?_
            refine any_done (by kernel_rfl) ?_
            refine qw_meet (subL_cons (lkv rfl (by first | rfl | simp)) (subL_nil _)) (fun w' h => ⟨τ7, _, g, cg, tl, ⟨hl7, hf7, ht45, hg1, hg2, by have h1 := ht45.len; have h2 := htco.len; simp only [List.length_append] at hg3 ⊢; omega⟩, ?_⟩)
            have h1 := h.drop (.cons_cons _ (.cons_cons _ (List.nil_sublist _)))
            rwa [setX_snoc hrow.len htco.len] at h1
          ·
            refine next_val rfl rfl (ex_nilck rfl) ?_
            refine any_two (i := 9) (j := 11) (by kernel_rfl) ?_ ?_
            ·
              refine next_u rfl (exu_storeX 0 rfl rfl rfl ht45.len ht45.one (by simp [hrow.len, htco.len])) ?_
              refine any_one (i := 11) (by kernel_rfl) ?_
              refine next_val rfl rfl (ex_field rfl) ?_
              refine any_one (i := 12) (by kernel_rfl) ?_
              refine next_u rfl (exu_store1 1 rfl rfl rfl rfl rfl rfl) ?_
              refine any_done (by kernel_rfl) ?_
              refine qw_meet (subL_cons (lkv rfl (by first | rfl | simp)) (subL_nil _)) (fun w' h => ⟨τ7, _, g, cg, tl, ⟨hl7, hf7, ht45, hg1, hg2, by have h1 := ht45.len; have h2 := htco.len; simp only [List.length_append] at hg3 ⊢; omega⟩, ?_⟩)
              have h1 := h.drop (.cons_cons _ (.cons_cons _ (List.nil_sublist _)))
              rwa [setX_snoc hrow.len htco.len] at h1
            ·
              refine next_val rfl rfl (ex_field rfl) ?_
              refine any_two (i := 9) (j := 12) (by kernel_rfl) ?_ ?_
              ·
                refine next_u rfl (exu_storeX 0 rfl rfl rfl ht45.len ht45.one (by simp [hrow.len, htco.len])) ?_
                refine any_one (i := 12) (by kernel_rfl) ?_
                refine next_u rfl (exu_store1 1 rfl rfl rfl rfl rfl rfl) ?_
                refine any_done (by kernel_rfl) ?_
                refine qw_meet (subL_cons (lkv rfl (by first | rfl | simp)) (subL_nil _)) (fun w' h => ⟨τ7, _, g, cg, tl, ⟨hl7, hf7, ht45, hg1, hg2, by have h1 := ht45.len; have h2 := htco.len; simp only [List.length_append] at hg3 ⊢; omega⟩, ?_⟩)
                have h1 := h.drop (.cons_cons _ (.cons_cons _ (List.nil_sublist _)))
                rwa [setX_snoc hrow.len htco.len] at h1
              ·
                refine next_u rfl (exu_store1 1 rfl rfl rfl rfl rfl rfl) ?_
                refine any_one (i := 9) (by kernel_rfl) ?_
                refine next_u rfl (exu_storeX 0 rfl rfl rfl ht45.len ht45.one (by simp [hrow.len, htco.len])) ?_
                refine any_done (by kernel_rfl) ?_
                refine qw_meet (subL_cons (lkv rfl (by first | rfl | simp)) (subL_nil _)) (fun w' h => ⟨τ7, _, g, cg, tl, ⟨hl7, hf7, ht45, hg1, hg2, by have h1 := ht45.len; have h2 := htco.len; simp only [List.length_append] at hg3 ⊢; omega⟩, ?_⟩)
                have h1 := h.drop (.cons_cons _ (.cons_cons _ (List.nil_sublist _)))
                rwa [setX_snoc hrow.len htco.len] at h1
        ·
          refine next_val rfl rfl (ex_nilck rfl) ?_
          refine any_two (i := 8) (j := 11) (by kernel_rfl) ?_ ?_
          ·
            refine next_val rfl rfl (ex_index_nat rfl rfl (by omega)) ?_
            refine any_two (i := 9) (j := 11) (by kernel_rfl) ?_ ?_
            ·
              refine next_u rfl (exu_storeX 0 rfl rfl rfl ht45.len ht45.one (by simp [hrow.len, htco.len])) ?_
              refine any_one (i := 11) (by kernel_rfl) ?_
              refine next_val rfl rfl (ex_field rfl) ?_
              refine any_one (i := 12) (by kernel_rfl) ?_
              refine next_u rfl (exu_store1 1 rfl rfl rfl rfl rfl rfl) ?_
              refine any_done (by kernel_rfl) ?_
              refine qw_meet (subL_cons (lkv rfl (by first | rfl | simp)) (subL_nil _)) (fun w' h => ⟨τ7, _, g, cg, tl, ⟨hl7, hf7, ht45, hg1, hg2, by have h1 := ht45.len; have h2 := htco.len; simp only [List.length_append] at hg3 ⊢; omega⟩, ?_⟩)
              have h1 := h.drop (.cons_cons _ (.cons_cons _ (List.nil_sublist _)))
              rwa [setX_snoc hrow.len htco.len] at h1
            ·
              refine next_val rfl rfl (ex_field rfl) ?_
              refine any_two (i := 9) (j := 12) (by kernel_rfl) ?_ ?_
              ·
                refine next_u rfl (exu_storeX 0 rfl rfl rfl ht45.len ht45.one (by simp [hrow.len, htco.len])) ?_
                refine any_one (i := 12) (by kernel_rfl) ?_
                refine next_u rfl (exu_store1 1 rfl rfl rfl rfl rfl rfl) ?_
                refine any_done (by kernel_rfl) ?_
                refine qw_meet (subL_cons (lkv rfl (by first | rfl | simp)) (subL_nil _)) (fun w' h => ⟨τ7, _, g, cg, tl, ⟨hl7, hf7, ht45, hg1, hg2, by have h1 := ht45.len; have h2 := htco.len; simp only [List.length_append] at hg3 ⊢; omega⟩, ?_⟩)
                have h1 := h.drop (.cons_cons _ (.cons_cons _ (List.nil_sublist _)))
                rwa [setX_snoc hrow.len htco.len] at h1
              ·
                refine next_u rfl (exu_store1 1 rfl rfl rfl rfl rfl rfl) ?_
                refine any_one (i := 9) (by kernel_rfl) ?_
                refine next_u rfl (exu_storeX 0 rfl rfl rfl ht45.len ht45.one (by simp [hrow.len, htco.len])) ?_
                refine any_done (by kernel_rfl) ?_
                refine qw_meet (subL_cons (lkv rfl (by first | rfl | simp)) (subL_nil _)) (fun w' h => ⟨τ7, _, g, cg, tl, ⟨hl7, hf7, ht45, hg1, hg2, by have h1 := ht45.len; have h2 := htco.len; simp only [List.length_append] at hg3 ⊢; omega⟩, ?_⟩)
                have h1 := h.drop (.cons_cons _ (.cons_cons _ (List.nil_sublist _)))
                rwa [setX_snoc hrow.len htco.len] at h1
          ·
            refine next_val rfl rfl (ex_field rfl) ?_
            refine any_two (i := 8) (j := 12) (by kernel_rfl) ?_ ?_
            ·
              refine next_val rfl rfl (ex_index_nat rfl rfl (by omega)) ?_
              refine any_two (i := 9) (j := 12) (by kernel_rfl) ?_ ?_
              ·
                refine next_u rfl (exu_storeX 0 rfl rfl rfl ht45.len ht45.one (by simp [hrow.len, htco.len])) ?_
                refine any_one (i := 12) (by kernel_rfl) ?_
                refine next_u rfl (exu_store1 1 rfl rfl rfl rfl rfl rfl) ?_
                refine any_done (by kernel_rfl) ?_
                refine qw_meet (subL_cons (lkv rfl (by first | rfl | simp)) (subL_nil _)) (fun w' h => ⟨τ7, _, g, cg, tl, ⟨hl7, hf7, ht45, hg1, hg2, by have h1 := ht45.len; have h2 := htco.len; simp only [List.length_append] at hg3 ⊢; omega⟩, ?_⟩)
                have h1 := h.drop (.cons_cons _ (.cons_cons _ (List.nil_sublist _)))
                rwa [setX_snoc hrow.len htco.len] at h1
              ·
                refine next_u rfl (exu_store1 1 rfl rfl rfl rfl rfl rfl) ?_
                refine any_one (i := 9) (by kernel_rfl) ?_
                refine next_u rfl (exu_storeX 0 rfl rfl rfl ht45.len ht45.one (by simp [hrow.len, htco.len])) ?_
                refine any_done (by kernel_rfl) ?_
                refine qw_meet (subL_cons (lkv rfl (by first | rfl | simp)) (subL_nil _)) (fun w' h => ⟨τ7, _, g, cg, tl, ⟨hl7, hf7, ht45, hg1, hg2, by have h1 := ht45.len; have h2 := htco.len; simp only [List.length_append] at hg3 ⊢; omega⟩, ?_⟩)
                have h1 := h.drop (.cons_cons _ (.cons_cons _ (List.nil_sublist _)))
                rwa [setX_snoc hrow.len htco.len] at h1
            ·
              refine next_u rfl (exu_store1 1 rfl rfl rfl rfl rfl rfl) ?_
              refine any_one (i := 8) (by kernel_rfl) ?_
              refine next_val rfl rfl (ex_index_nat rfl rfl (by omega)) ?_
              refine any_one (i := 9) (by kernel_rfl) ?_
              refine next_u rfl (exu_storeX 0 rfl rfl rfl ht45.len ht45.one (by simp [hrow.len, htco.len])) ?_
              refine any_done (by kernel_rfl) ?_
              refine qw_meet (subL_cons (lkv rfl (by first | rfl | simp)) (subL_nil _)) (fun w' h => ⟨τ7, _, g, cg, tl, ⟨hl7, hf7, ht45, hg1, hg2, by have h1 := ht45.len; have h2 := htco.len; simp only [List.length_append] at hg3 ⊢; omega⟩, ?_⟩)
              have h1 := h.drop (.cons_cons _ (.cons_cons _ (List.nil_sublist _)))
              rwa [setX_snoc hrow.len htco.len] at h1
      ·
        refine cw_ex fun τ5 => cw_ex fun c45 => cw_ex fun g => cw_ex fun cg => cw_ex fun tl => cw_and fun ⟨hl5, hf5, ht45, hg1, hg2, hg3⟩ => ?_
        refine cw_seq ?_
        refine cw_region ?_
        refine ow_val rfl rfl (ex_move rfl) ?_
        refine ow_val rfl rfl (ex_nilck rfl) ?_
        refine ow_val rfl rfl (ex_field rfl) ?_
        refine ow_val rfl rfl (ex_load1 rfl (by first | exact ld_own1 0 rfl rfl | exact ld_own1 1 rfl rfl | exact ld_own1 2 rfl rfl | exact ld_own1 3 rfl rfl | exact ld_own1 4 rfl rfl | exact ld_own1 5 rfl rfl | exact ld_own1 6 rfl rfl | exact ld_own1 7 rfl rfl | exact ld_ownG1 0 rfl rfl | exact ld_ownG1 1 rfl rfl | exact ld_imm1 (by assumption))) ?_
        refine ow_val rfl rfl (ex_len (ty := 0) rfl) ?_
        refine ow_val rfl rfl (ex_subi (z := (((putVs ks ts).length : Nat) : Int)) rfl rfl (by omega) (by omega) (by omega)) ?_
        refine ow_val rfl rfl (ex_assign rfl) ?_
        refine ow_nil ?_
        refine qw_seq ?_
        refine cw_ret ?_
        refine qw_ret1 rfl rfl (fun w' h => ?_)
        have h2 := (St.flip h).permG (List.reverse_perm _)
        have hlen1 : (putVs ks ts ++ [T.mk o n d ks]).length = (putVs ks ts).length + 1 := by simp
        have hxl := hrow.len
        have hcl5 := ht45.len
        refine h2.givesK (hlj.trans hl5) (hfj.trans hf5) ⟨?_, ?_⟩
        · unfold numV
          rw [if_neg hnp]; rfl
        · rw [putV_mk, if_neg hnp]
          refine ⟨_, xs ++ c45, _, rfl, ?_, (hrow.le hl5).append (RowC.one ht45), ?_⟩
          · rw [show (putVs (T.mk o n d ks).kids ts ++ [T.mk o n d ks]).length = (putVs ks ts).length + 1 from hlen1]
            exact OwnSl.close (by simp; omega) hg1 hg2 hg3
          · rw [show (putVs (T.mk o n d ks).kids ts ++ [T.mk o n d ks]).length = (putVs ks ts).length + 1 from hlen1]; omega
set_option maxHeartbeats 400000 in
theorem rIntern (t : T) {b : Nat} {ts : List T} {ct : List Value} {σ : Hp} {K : List (Nat × Obj)} {w : World} (hi : Has σ K w) (hv : RefK 63 32 b ts σ K) (ht : TermC σ ct t) : Calls Tryz.prog 47 #[.pointer (some ⟨b, 0, none⟩), .agg ct.toArray] w (GiveK (fun σ' u K' => u = .tuple #[.int .i64 (intern ts t).1, .int .i64 (intern ts t).2.1] ∧ RefK 63 32 b (intern ts t).2.2 σ' K') σ K w) := by
  have ht0 := ht
  obtain ⟨dv, kv, rfl, ho, hn, hd, hk⟩ := ht.opn
  obtain ⟨sv, hc0, hks⟩ := hv.seenX hi
  obtain ⟨psv, csv, rfl, _, _⟩ := hks.slice
  have hfew : ts.length ≤ 4096 := by
    obtain ⟨_, _, _, _, _, _, h⟩ := hv
    exact h
  refine enter (St w (keysOf K) σ [] K) Tryz.func47 rfl Tryz.ntmps47 rfl (Has.start hi) ?_
  refine cw_seq ?_
  refine cw_region ?_
  refine ow_blk rfl rfl (exw_box rfl) ?_; intro b3
  refine ow_val rfl rfl (ex_assign rfl) ?_
  refine ow_val rfl rfl (ex_assign rfl) ?_
  refine ow_nil ?_
  refine qw_seq ?_
  refine cw_seq ?_
  refine cw_region ?_
  refine ow_val rfl rfl (ex_loadR rfl (by first | exact ld_ownN 0 rfl rfl | exact ld_ownN 1 rfl rfl | exact ld_ownN 2 rfl rfl | exact ld_ownN 3 rfl rfl | exact ld_ownN 4 rfl rfl | exact ld_ownN 5 rfl rfl | exact ld_ownN 6 rfl rfl | exact ld_ownN 7 rfl rfl | exact ld_ownGN 0 rfl rfl | exact ld_ownGN 1 rfl rfl | exact ld_immT (by assumption) (by assumption))) ?_
  refine ow_cv rfl rfl (ex_callf rfl (fun w h => callB ((rRight t h.im ht0)))) ?_
  refine ow_val rfl rfl (ex_assign rfl) ?_
  refine ow_nil ?_
  refine qw_seq ?_
  refine cw_seq ?_
  refine cw_seq ?_
  refine cw_region ?_
  refine ow_val rfl rfl (ex_move rfl) ?_
  refine ow_val rfl rfl (ex_not rfl) ?_
  refine ow_nil ?_
  refine qw_seq ?_
  refine cw_cond rfl (fun c12 => ?_) (fun c12 => ?_)
  ·
    refine cw_seq ?_
    refine cw_region ?_
    refine ow_val rfl rfl (ex_assign rfl) ?_
    refine ow_val rfl rfl (ex_assign rfl) ?_
    refine ow_nil ?_
    refine qw_seq ?_
    refine cw_ret ?_
    refine qw_then_ret ?_
    refine qw_ret2 rfl rfl rfl (fun w' h => ?_)
    have hr : ¬ right t = true := by simpa using c12
    have e : intern ts t = (-1, 51, ts) := by unfold intern; rw [if_neg hr]
    rw [e]
    exact (h.drop (List.nil_sublist _)).givesK (Le.refl _) (Fresh.refl _ _) ⟨rfl, hv⟩
  ·
    have hr : right t = true := by simpa using c12
    have hsz9 := right_size hr
    unfold maxKids at hsz9
    refine cw_skip ?_
    refine qw_seq ?_
    refine cw_seq ?_
    refine cw_region ?_
    refine ow_val rfl rfl (ex_move rfl) ?_
    refine ow_val rfl rfl (ex_loadR rfl (by first | exact ld_ownN 0 rfl rfl | exact ld_ownN 1 rfl rfl | exact ld_ownN 2 rfl rfl | exact ld_ownN 3 rfl rfl | exact ld_ownN 4 rfl rfl | exact ld_ownN 5 rfl rfl | exact ld_ownN 6 rfl rfl | exact ld_ownN 7 rfl rfl | exact ld_ownGN 0 rfl rfl | exact ld_ownGN 1 rfl rfl | exact ld_immT (by assumption) (by assumption))) ?_
    refine ow_cv rfl rfl (ex_callf rfl (fun w h => callB ((rFindK t h.hasE hv ht0)))) ?_
    refine ow_val rfl rfl (ex_move rfl) ?_
    refine ow_val rfl rfl (ex_extract rfl rfl) ?_
    refine ow_val rfl rfl (ex_extract rfl rfl) ?_
    refine ow_val rfl rfl (ex_assign rfl) ?_
    refine ow_val rfl rfl (ex_assign rfl) ?_
    refine ow_nil ?_
    refine qw_seq ?_
    refine cw_seq ?_
    refine cw_seq ?_
    refine cw_region ?_
    refine ow_val rfl rfl (ex_move rfl) ?_
    refine ow_nil ?_
    refine qw_seq ?_
    refine cw_cond rfl (fun c19 => ?_) (fun c19 => ?_)
    ·
      refine cw_seq ?_
      refine cw_region ?_
      refine ow_val rfl rfl (ex_move rfl) ?_
      refine ow_val rfl rfl (ex_assign rfl) ?_
      refine ow_val rfl rfl (ex_assign rfl) ?_
      refine ow_nil ?_
      refine qw_seq ?_
      refine cw_ret ?_
      refine qw_then_ret ?_
      refine qw_ret2 rfl rfl rfl (fun w' h => ?_)
      have h0 := of_decide_eq_true c19
      have e : intern ts t = (posT ts t, 0, ts) := by unfold intern; rw [if_pos hr, if_pos h0]
      rw [e]
      exact (h.drop (List.nil_sublist _)).givesK (Le.refl _) (Fresh.refl _ _) ⟨rfl, hv⟩
    ·
      refine cw_skip ?_
      refine qw_seq ?_
      refine cw_seq ?_
      refine cw_seq ?_
      refine flow_sound 9 (by kernel_rfl) ?_
      refine flow_val rfl (ex_move rfl) ?_
      refine flow_val rfl (ex_nilck rfl) ?_
      refine flow_val rfl (ex_field rfl) ?_
      refine flow_val rfl (ex_load1 rfl (fun w h => hc0.cell h.hasE.exts)) ?_
      refine flow_val rfl (ex_len (ty := 0) rfl) ?_
      refine flow_val rfl (ex_loadR rfl (by first | exact ld_ownN 0 rfl rfl | exact ld_ownN 1 rfl rfl | exact ld_ownN 2 rfl rfl | exact ld_ownN 3 rfl rfl | exact ld_ownN 4 rfl rfl | exact ld_ownN 5 rfl rfl | exact ld_ownN 6 rfl rfl | exact ld_ownN 7 rfl rfl | exact ld_ownGN 0 rfl rfl | exact ld_ownGN 1 rfl rfl | exact ld_immT (by assumption) (by assumption))) ?_
      refine flow_cv rfl (ex_callf rfl (fun w h => callB ((rSize t h.im ht0 (right_size hr))))) ?_
      refine flow_val rfl (ex_addi (z := ((ts.length : Int) + (size t : Int))) rfl rfl (by omega) (by omega) (by omega)) ?_
      refine flow_val rfl (ex_gtr rfl rfl) ?_
      refine flow_nil ?_
      refine fin_is ?_
      refine fin_is ?_
      refine fin_is ?_
      refine fin_is ?_
      refine fin_is ?_
      refine fin_is ?_
      refine fin_is ?_
      refine fin_is ?_
      refine fin_is ?_
      refine fin_nil ?_
      refine ow_nil ?_
      refine qw_seq ?_
      refine cw_cond rfl (fun c29 => ?_) (fun c29 => ?_)
      ·
        refine cw_seq ?_
        refine cw_region ?_
        refine ow_val rfl rfl (ex_assign rfl) ?_
        refine ow_val rfl rfl (ex_assign rfl) ?_
        refine ow_nil ?_
        refine qw_seq ?_
        refine cw_ret ?_
        refine qw_then_ret ?_
        refine qw_ret2 rfl rfl rfl (fun w' h => ?_)
        have h0 := of_decide_eq_false c19
        have h1 := of_decide_eq_true c29
        have e : intern ts t = (-1, 2, ts) := by unfold intern; rw [if_pos hr, if_neg h0, if_pos (by omega)]
        rw [e]
        exact (h.drop (List.nil_sublist _)).givesK (Le.refl _) (Fresh.refl _ _) ⟨rfl, hv⟩
      ·
        refine cw_skip ?_
        refine qw_seq ?_
        refine cw_seq ?_
        refine cw_region ?_
        refine ow_val rfl rfl (ex_move rfl) ?_
        refine ow_val rfl rfl (ex_loadR rfl (by first | exact ld_ownN 0 rfl rfl | exact ld_ownN 1 rfl rfl | exact ld_ownN 2 rfl rfl | exact ld_ownN 3 rfl rfl | exact ld_ownN 4 rfl rfl | exact ld_ownN 5 rfl rfl | exact ld_ownN 6 rfl rfl | exact ld_ownN 7 rfl rfl | exact ld_ownGN 0 rfl rfl | exact ld_ownGN 1 rfl rfl | exact ld_immT (by assumption) (by assumption))) ?_
        refine ow_ckE rfl rfl (ex_callf rfl (fun w h => rPutV t h.hasE hv ht0 (.inr (by have := of_decide_eq_false c29; omega)))) (fun v32 τ30 K30 hl30 hf30 hr30 => ?_)
        obtain ⟨rfl, hv30⟩ := hr30
        refine ow_val rfl rfl (ex_assign rfl) ?_
        refine ow_val rfl rfl (ex_assign rfl) ?_
        refine ow_nil ?_
        refine qw_seq ?_
        refine cw_ret ?_
        refine qw_ret2 rfl rfl rfl (fun w' h => ?_)
        have h0 := of_decide_eq_false c19
        have h1 := of_decide_eq_false c29
        have e : intern ts t = (numV t ts, 0, putV t ts) := by unfold intern; rw [if_pos hr, if_neg h0, if_neg (by omega)]
        rw [e]
        exact (h.drop (List.nil_sublist _)).givesK hl30 hf30 ⟨rfl, hv30⟩
end Go.Proofs.YtnjomdjkbbhdoaaGreatDoor
namespace Go.Proofs.YtnjomdjkbbhdoaaGreatDoor
open Go.RowKit
set_option linter.unusedVariables false
set_option linter.unusedSimpArgs false
set_option maxRecDepth 100000
set_option maxHeartbeats 400000 in
theorem pVerify {pub sig : Int} {msg : List UInt8} {mv : Value} {b : Nat} {ts : List T} {σ : Hp} {K : List (Nat × Obj)} {w : World} (hi : Has σ K w) (hvk : VaultK 80 32 b ts σ K) (hm : BytesV σ mv msg) : Calls Tryz.prog 33 #[.pointer (some ⟨b, 0, none⟩), .int .i64 pub, mv, .int .i64 sig] w fun e w' => e = .returned (.bool (verifyV ts pub msg sig)) ∧ Below w.heap.size w w' := by
  have hlt := hi.le
  have him := hi.exts
  have hti := hvk.nd.1
  refine enter (St w (fun _ => False) (exts σ K) [] []) Tryz.func33 rfl Tryz.ntmps33 rfl (St.start him) ?_
  refine cw_seq ?_
  refine cw_region ?_
  refine ow_val rfl rfl (ex_assign rfl) ?_
  refine ow_nil ?_
  refine qw_seq ?_
  refine cw_seq ?_
  refine cw_region ?_
  refine ow_val rfl rfl (ex_move rfl) ?_
  refine ow_val rfl rfl (ex_move rfl) ?_
  refine ow_val rfl rfl (ex_move rfl) ?_
  refine ow_crs rfl rfl hlt (ex_callf rfl (fun w h => callR (pBoth (hi.of_im h.im (Le.refl _)) hvk))) (fun v16 τ1 κ1 hl1 hf1 hr1 hlk1 hle1 => ?_)
  obtain ⟨cx, cy, rfl, htx, hty⟩ := hr1
  have htx' := htx
  obtain ⟨dx, kx, rfl, _, _, hdx, hkx⟩ := htx'.opn
  have hty' := hty
  obtain ⟨dy, ky, rfl, _, _, hdy, hky⟩ := hty'.opn
  obtain ⟨px, ccx, rfl, hcx, hmx⟩ := hkx.slice
  obtain ⟨py, ccy, rfl, hcy, hmy⟩ := hky.slice
  refine ow_val rfl rfl (ex_move rfl) ?_
  refine ow_val rfl rfl (ex_extract rfl rfl) ?_
  refine ow_val rfl rfl (ex_extract rfl rfl) ?_
  refine ow_val rfl rfl (ex_extract rfl rfl) ?_
  refine ow_blk rfl rfl exw_alloc ?_; intro b9
  refine ow_blk rfl rfl exw_alloc ?_; intro b10
  refine ow_u rfl (exu_storeN 1 rfl rfl rfl rfl htx.one rfl) ?_
  refine ow_u rfl (exu_storeN 0 rfl rfl rfl rfl hty.one rfl) ?_
  refine ow_val rfl rfl (ex_assign rfl) ?_
  refine ow_nil ?_
  refine qw_seq ?_
  refine cw_seq ?_
  refine flow_sound 25 (by kernel_rfl) ?_
  refine flow_val rfl (ex_move rfl) ?_
  refine flow_val rfl (ex_move rfl) ?_
  refine flow_split rfl (fun s21 => ?_) (fun s21 => ?_)
  ·
    have hbt0 : bothV ts 3 sig pub = true := s21
    have hbt := hbt0
    simp only [bothV, Bool.and_eq_true, decide_eq_true_eq] at hbt
    refine flow_val (gd_go rfl s21) (ex_field rfl) ?_
    refine flow_val (gd_go rfl s21) (ex_load1 rfl (by first | exact ld_own1 0 rfl rfl | exact ld_own1 1 rfl rfl | exact ld_own1 2 rfl rfl | exact ld_own1 3 rfl rfl | exact ld_own1 4 rfl rfl | exact ld_own1 5 rfl rfl | exact ld_own1 6 rfl rfl | exact ld_own1 7 rfl rfl | exact ld_ownG1 0 rfl rfl | exact ld_ownG1 1 rfl rfl | exact ld_imm1 (by assumption))) ?_
    refine flow_val (gd_go rfl s21) (ex_eql rfl rfl) ?_
    refine flow_val rfl (ex_pickt rfl s21 rfl) ?_
    refine flow_val rfl (ex_move rfl) ?_
    refine flow_split rfl (fun s26 => ?_) (fun s26 => ?_)
    ·
      have hp1 : decide ((termV ts pub).1.op = 2) = true := s26
      have hp2 := of_decide_eq_true hp1
      have hone := keyed_one (hti.rt _ (termV_mem hbt.1.1)) (by omega)
      have hone2 := keyed_one (hti.rt _ (termV_mem hbt.1.2)) (by omega)
      obtain ⟨bk, f, ck, c0, e1, _, hc0, ht0⟩ := hkx.get 0 (by omega)
      cases e1
      obtain ⟨bk2, f2, ck2, c2, e2, _, hc2, ht2⟩ := hky.get 0 (by omega)
      cases e2
      have hk0 : (termV ts sig).1.kids[0] = (termV ts sig).1.kids.getD 0 zeroT := by simp [List.getD_eq_getElem?_getD, show 0 < (termV ts sig).1.kids.length by omega]
      have hk2 : (termV ts pub).1.kids[0] = (termV ts pub).1.kids.getD 0 zeroT := by simp [List.getD_eq_getElem?_getD, show 0 < (termV ts pub).1.kids.length by omega]
      rw [hk0] at ht0
      rw [hk2] at ht2
      refine flow_val (gd_go rfl s26) (ex_field rfl) ?_
      refine flow_val (gd_go rfl s26) (ex_load1 rfl (by first | exact ld_own1 0 rfl rfl | exact ld_own1 1 rfl rfl | exact ld_own1 2 rfl rfl | exact ld_own1 3 rfl rfl | exact ld_own1 4 rfl rfl | exact ld_own1 5 rfl rfl | exact ld_own1 6 rfl rfl | exact ld_own1 7 rfl rfl | exact ld_ownG1 0 rfl rfl | exact ld_ownG1 1 rfl rfl | exact ld_imm1 (by assumption))) ?_
      refine flow_val (gd_go rfl s26) (ex_move rfl) ?_
      refine flow_cv (gd_go rfl s26) (ex_callf rfl (fun w h => callB ((pBytesEq h.im (hdx.le hle1) (hm.le (hlt.trans hlk1)))))) ?_
      refine flow_val rfl (ex_pickt rfl s26 rfl) ?_
      refine flow_val rfl (ex_move rfl) ?_
      refine flow_split rfl (fun s32 => ?_) (fun s32 => ?_)
      ·
        have hq1 : ((termV ts sig).1.data == msg) = true := s32
        refine flow_val (gd_go rfl s32) (ex_field rfl) ?_
        refine flow_val (gd_go rfl s32) (ex_load1 rfl (by first | exact ld_own1 0 rfl rfl | exact ld_own1 1 rfl rfl | exact ld_own1 2 rfl rfl | exact ld_own1 3 rfl rfl | exact ld_own1 4 rfl rfl | exact ld_own1 5 rfl rfl | exact ld_own1 6 rfl rfl | exact ld_own1 7 rfl rfl | exact ld_ownG1 0 rfl rfl | exact ld_ownG1 1 rfl rfl | exact ld_imm1 (by assumption))) ?_
        refine flow_val (gd_go rfl s32) (ex_index_nat (i := 0) rfl rfl (by omega)) ?_
        refine flow_val (gd_go rfl s32) (ex_loadR rfl (ld_immT (hc0.le hle1) (ht0.le hle1))) ?_
        refine flow_val (gd_go rfl s32) (ex_field rfl) ?_
        refine flow_val (gd_go rfl s32) (ex_load1 rfl (by first | exact ld_own1 0 rfl rfl | exact ld_own1 1 rfl rfl | exact ld_own1 2 rfl rfl | exact ld_own1 3 rfl rfl | exact ld_own1 4 rfl rfl | exact ld_own1 5 rfl rfl | exact ld_own1 6 rfl rfl | exact ld_own1 7 rfl rfl | exact ld_ownG1 0 rfl rfl | exact ld_ownG1 1 rfl rfl | exact ld_imm1 (by assumption))) ?_
        refine flow_val (gd_go rfl s32) (ex_index_nat (i := 0) rfl rfl (by omega)) ?_
        refine flow_val (gd_go rfl s32) (ex_loadR rfl (ld_immT (hc2.le hle1) (ht2.le hle1))) ?_
        refine flow_cv (gd_go rfl s32) (ex_callf rfl (fun w h => callB ((pOrder _ _ h.im (ht0.le hle1) (ht2.le hle1))))) ?_
        refine flow_val (gd_go rfl s32) (ex_eql rfl rfl) ?_
        refine flow_val rfl (ex_pickt rfl s32 rfl) ?_
        refine flow_val rfl (ex_assign rfl) ?_
        refine flow_nil ?_
        refine fin_is ?_
        refine fin_is ?_
        refine fin_is ?_
        refine fin_is ?_
        refine fin_is ?_
        refine fin_is ?_
        refine fin_is ?_
        refine fin_is ?_
        refine fin_is ?_
        refine fin_is ?_
        refine fin_is ?_
        refine fin_is ?_
        refine fin_is ?_
        refine fin_is ?_
        refine fin_is ?_
        refine fin_is ?_
        refine fin_is ?_
        refine fin_is ?_
        refine fin_is ?_
        refine fin_is ?_
        refine fin_is ?_
        refine fin_is ?_
        refine fin_is ?_
        refine fin_is ?_
        refine fin_is ?_
        refine fin_nil ?_
        refine ow_nil ?_
        refine qw_seq ?_
        refine cw_ret ?_
        refine qw_ret1 rfl rfl (fun w' h => ⟨congrArg (fun z => Ending.returned (.bool z)) ?_, h.ag.below⟩)
        simp [verifyV, hbt0, hp1, hq1]
      ·
        have hqf : ((termV ts sig).1.data == msg) = false := s32
        refine flow_skip (gd_no rfl s32) ?_
        refine flow_skip (gd_no rfl s32) ?_
        refine flow_skip (gd_no rfl s32) ?_
        refine flow_skip (gd_no rfl s32) ?_
        refine flow_skip (gd_no rfl s32) ?_
        refine flow_skip (gd_no rfl s32) ?_
        refine flow_skip (gd_no rfl s32) ?_
        refine flow_skip (gd_no rfl s32) ?_
        refine flow_skip (gd_no rfl s32) ?_
        refine flow_skip (gd_no rfl s32) ?_
        refine flow_val rfl (ex_pickf rfl s32 rfl) ?_
        refine flow_val rfl (ex_assign rfl) ?_
        refine flow_nil ?_
        refine fin_is ?_
        refine fin_is ?_
        refine fin_is ?_
        refine fin_is ?_
        refine fin_is ?_
        refine fin_is ?_
        refine fin_is ?_
        refine fin_is ?_
        refine fin_is ?_
        refine fin_is ?_
        refine fin_is ?_
        refine fin_is ?_
        refine fin_is ?_
        refine fin_is ?_
        refine fin_is ?_
        refine fin_is ?_
        refine fin_is ?_
        refine fin_is ?_
        refine fin_is ?_
        refine fin_is ?_
        refine fin_is ?_
        refine fin_is ?_
        refine fin_is ?_
        refine fin_is ?_
        refine fin_is ?_
        refine fin_nil ?_
        refine ow_nil ?_
        refine qw_seq ?_
        refine cw_ret ?_
        refine qw_ret1 rfl rfl (fun w' h => ⟨congrArg (fun z => Ending.returned (.bool z)) ?_, h.ag.below⟩)
        simp [verifyV, hqf]
    ·
      have hpf : decide ((termV ts pub).1.op = 2) = false := s26
      refine flow_skip (gd_no rfl s26) ?_
      refine flow_skip (gd_no rfl s26) ?_
      refine flow_skip (gd_no rfl s26) ?_
      refine flow_skip (gd_no rfl s26) ?_
      refine flow_val rfl (ex_pickf rfl s26 rfl) ?_
      refine flow_val rfl (ex_move rfl) ?_
      refine flow_skip rfl ?_
      refine flow_skip rfl ?_
      refine flow_skip rfl ?_
      refine flow_skip rfl ?_
      refine flow_skip rfl ?_
      refine flow_skip rfl ?_
      refine flow_skip rfl ?_
      refine flow_skip rfl ?_
      refine flow_skip rfl ?_
      refine flow_skip rfl ?_
      refine flow_val rfl (ex_pick_f rfl rfl) ?_
      refine flow_val rfl (ex_assign rfl) ?_
      refine flow_nil ?_
      refine fin_is ?_
      refine fin_is ?_
      refine fin_is ?_
      refine fin_is ?_
      refine fin_is ?_
      refine fin_is ?_
      refine fin_is ?_
      refine fin_is ?_
      refine fin_is ?_
      refine fin_is ?_
      refine fin_is ?_
      refine fin_is ?_
      refine fin_is ?_
      refine fin_is ?_
      refine fin_is ?_
      refine fin_is ?_
      refine fin_is ?_
      refine fin_is ?_
      refine fin_is ?_
      refine fin_is ?_
      refine fin_is ?_
      refine fin_is ?_
      refine fin_is ?_
      refine fin_is ?_
      refine fin_is ?_
      refine fin_nil ?_
      refine ow_nil ?_
      refine qw_seq ?_
      refine cw_ret ?_
      refine qw_ret1 rfl rfl (fun w' h => ⟨congrArg (fun z => Ending.returned (.bool z)) ?_, h.ag.below⟩)
      simp [verifyV, hpf]
  ·
    have hbf : bothV ts 3 sig pub = false := s21
    refine flow_skip (gd_no rfl s21) ?_
    refine flow_skip (gd_no rfl s21) ?_
    refine flow_skip (gd_no rfl s21) ?_
    refine flow_val rfl (ex_pickf rfl s21 rfl) ?_
    refine flow_val rfl (ex_move rfl) ?_
    refine flow_skip rfl ?_
    refine flow_skip rfl ?_
    refine flow_skip rfl ?_
    refine flow_skip rfl ?_
    refine flow_val rfl (ex_pick_f rfl rfl) ?_
    refine flow_val rfl (ex_move rfl) ?_
    refine flow_skip rfl ?_
    refine flow_skip rfl ?_
    refine flow_skip rfl ?_
    refine flow_skip rfl ?_
    refine flow_skip rfl ?_
    refine flow_skip rfl ?_
    refine flow_skip rfl ?_
    refine flow_skip rfl ?_
    refine flow_skip rfl ?_
    refine flow_skip rfl ?_
    refine flow_val rfl (ex_pick_f rfl rfl) ?_
    refine flow_val rfl (ex_assign rfl) ?_
    refine flow_nil ?_
    refine fin_is ?_
    refine fin_is ?_
    refine fin_is ?_
    refine fin_is ?_
    refine fin_is ?_
    refine fin_is ?_
    refine fin_is ?_
    refine fin_is ?_
    refine fin_is ?_
    refine fin_is ?_
    refine fin_is ?_
    refine fin_is ?_
    refine fin_is ?_
    refine fin_is ?_
    refine fin_is ?_
    refine fin_is ?_
    refine fin_is ?_
    refine fin_is ?_
    refine fin_is ?_
    refine fin_is ?_
    refine fin_is ?_
    refine fin_is ?_
    refine fin_is ?_
    refine fin_is ?_
    refine fin_is ?_
    refine fin_nil ?_
    refine ow_nil ?_
    refine qw_seq ?_
    refine cw_ret ?_
    refine qw_ret1 rfl rfl (fun w' h => ⟨congrArg (fun z => Ending.returned (.bool z)) ?_, h.ag.below⟩)
    simp [verifyV, hbf]
set_option maxHeartbeats 400000 in
theorem pHead7 {σ : Hp} {w : World} (hi : Imm σ w) (htab : TabC Tryz.prog σ) : Calls Tryz.prog 19 #[] w fun e w' => e = .returned (.bool true) ∧ Below w.heap.size w w' := by
  refine enter (St w (fun _ => False) σ [] []) Tryz.func19 rfl Tryz.ntmps19 rfl (St.start hi) ?_
  refine cw_seq ?_
  refine cw_region ?_
  refine ow_val rfl rfl (ex_assign rfl) ?_
  refine ow_nil ?_
  refine qw_seq ?_
  refine cw_seq ?_
  refine cw_region ?_
  refine ow_ck0E rfl rfl (ex_callf rfl (fun w h => pNew h.im)) (fun v10 σ4 K4 hl4 hf4 hr4 => ?_)
  obtain ⟨b, rfl, hv4⟩ := hr4
  refine ow_val rfl rfl (ex_assign rfl) ?_
  refine ow_nil ?_
  refine qw_seq ?_
  refine cw_seq ?_
  refine cw_seq ?_
  refine cw_region ?_
  refine ow_val rfl rfl (ex_move rfl) ?_
  refine ow_val rfl rfl (ex_ptrnil rfl) ?_
  refine ow_nil ?_
  refine qw_seq ?_
  refine cw_cond rfl (fun c12 => ?_) (fun c12 => ?_)
  ·
    simp at c12
  ·
    refine cw_skip ?_
    refine qw_seq ?_
    refine cw_seq ?_
    refine cw_region ?_
    refine ow_val rfl rfl (ex_move rfl) ?_
    refine ow_ckE rfl rfl (ex_callf rfl (fun w h => pAtom h.hasE (htab.le hl4) hv4 (by decide))) (fun v15 σ5 K5 hl5 hf5 hr5 => ?_)
    rw [made_atom] at hr5
    obtain ⟨rfl, hv5⟩ := hr5
    refine ow_val rfl rfl (ex_move rfl) ?_
    refine ow_val rfl rfl (ex_extract rfl rfl) ?_
    refine ow_val rfl rfl (ex_extract rfl rfl) ?_
    refine ow_val rfl rfl (ex_assign rfl) ?_
    refine ow_val rfl rfl (ex_assign rfl) ?_
    refine ow_nil ?_
    refine qw_seq ?_
    refine cw_seq ?_
    refine cw_region ?_
    refine ow_val rfl rfl (ex_move rfl) ?_
    refine ow_val rfl rfl (ex_move rfl) ?_
    refine ow_slit rfl rfl (exw_slitN (vs := ([97] : List UInt8).map byteV) (by kernel_rfl) (bytes_cells _) rfl (by decide) (by decide)) ?_; intro b21
    refine ow_conv rfl rfl rfl ?_
    refine ow_frzO (fun _ h => h) (fun σ6 hl6 hf6 hb6 => ?_)
    have hbv : BytesV σ6 (.slice (some ⟨b21, 0, none⟩) 1 1) [97] := BytesV.lit hb6 rfl (by decide)
    refine ow_ckE rfl rfl (ex_callf rfl (fun w h => pSeal h.hasE (((htab.le hl4).le hl5).le hl6) (hv5.le hl6) hbv)) (fun v23 σ7 K7 hl7 hf7 hr7 => ?_)
    rw [made_enc] at hr7
    obtain ⟨rfl, hv7⟩ := hr7
    refine ow_val rfl rfl (ex_move rfl) ?_
    refine ow_val rfl rfl (ex_extract rfl rfl) ?_
    refine ow_val rfl rfl (ex_extract rfl rfl) ?_
    refine ow_val rfl rfl (ex_assign rfl) ?_
    refine ow_val rfl rfl (ex_assign rfl) ?_
    refine ow_nil ?_
    refine qw_seq ?_
    refine cw_seq ?_
    refine cw_region ?_
    refine ow_val rfl rfl (ex_move rfl) ?_
    refine ow_val rfl rfl (ex_move rfl) ?_
    refine ow_val rfl rfl (ex_move rfl) ?_
    refine ow_cr rfl rfl (ex_callf rfl (fun w h => callR (pOpen h.hasE hv7))) (fun v30 σ8 hl8 hf8 hr8 => ?_)
    rw [open_enc] at hr8
    obtain ⟨q30, rfl, hb30⟩ := hr8
    obtain ⟨p30, c30, rfl, _, _⟩ := hb30.slice
    refine ow_val rfl rfl (ex_move rfl) ?_
    refine ow_val rfl rfl (ex_extract rfl rfl) ?_
    refine ow_val rfl rfl (ex_extract rfl rfl) ?_
    refine ow_val rfl rfl (ex_assign rfl) ?_
    refine ow_val rfl rfl (ex_assign rfl) ?_
    refine ow_nil ?_
    refine qw_seq ?_
    refine cw_seq ?_
    refine cw_region ?_
    refine ow_cv rfl rfl (ex_callf rfl (fun w h => callB ((pAtomNil h.im)))) ?_
    refine ow_val rfl rfl (ex_move rfl) ?_
    refine ow_val rfl rfl (ex_extract rfl rfl) ?_
    refine ow_val rfl rfl (ex_extract rfl rfl) ?_
    refine ow_val rfl rfl (ex_assign rfl) ?_
    refine ow_val rfl rfl (ex_assign rfl) ?_
    refine ow_nil ?_
    refine qw_seq ?_
    refine cw_seq ?_
    refine cw_region ?_
    refine ow_val rfl rfl (ex_move rfl) ?_
    refine ow_val rfl rfl (ex_eql rfl rfl) ?_
    refine ow_val rfl rfl (ex_move rfl) ?_
    refine ow_split (g := some (2, true)) rfl (fun s39 => ?_) (fun s39 => ?_)
    ·
      refine ow_val rfl (gd_go rfl s39) (ex_move rfl) ?_
      refine ow_val rfl (gd_go rfl s39) (ex_eql rfl rfl) ?_
      refine ow_val rfl rfl (ex_pickt rfl s39 rfl) ?_
      refine ow_val rfl rfl (ex_move rfl) ?_
      refine ow_split (g := some (6, true)) rfl (fun s43 => ?_) (fun s43 => ?_)
      ·
        refine ow_val rfl (gd_go rfl s43) (ex_move rfl) ?_
        refine ow_val rfl rfl (ex_pickt rfl s43 rfl) ?_
        refine ow_val rfl rfl (ex_move rfl) ?_
        refine ow_split (g := some (9, true)) rfl (fun s46 => ?_) (fun s46 => ?_)
        ·
          refine ow_val rfl (gd_go rfl s46) (ex_move rfl) ?_
          refine ow_val rfl (gd_go rfl s46) (ex_tostr rfl hb30 (fun w h => h.im)) ?_
          refine ow_val rfl (gd_go rfl s46) (ex_streql (b := [97]) rfl rfl) ?_
          refine ow_val rfl rfl (ex_pickt rfl s46 rfl) ?_
          refine ow_val rfl rfl (ex_move rfl) ?_
          refine ow_split (g := some (14, true)) rfl (fun s51 => ?_) (fun s51 => ?_)
          ·
            refine ow_val rfl (gd_go rfl s51) (ex_move rfl) ?_
            refine ow_val rfl (gd_go rfl s51) (ex_eql rfl rfl) ?_
            refine ow_val rfl rfl (ex_pickt rfl s51 rfl) ?_
            refine ow_val rfl rfl (ex_assign rfl) ?_
            refine ow_nil ?_
            refine qw_seq ?_
            refine cw_ret ?_
            refine qw_ret1 rfl rfl (fun w' h => ⟨congrArg (fun z => Ending.returned (.bool z)) ?_, h.ag.below⟩)
            rfl
          ·
            exact absurd s51 (by decide)
        ·
          exact absurd s46 (by decide)
      ·
        exact absurd s43 (by decide)
    ·
      exact absurd s39 (by decide)
set_option maxHeartbeats 400000 in
theorem pBothL (ls : List T) {v : Value} {σ : Hp} {w : World} (hi : Imm σ w) (htab : TabC Tryz.prog σ) (hl : KidsV σ v ls) : Calls Tryz.prog 10 #[v] w (GiveK (fun σ' u K' => (u = .tuple #[.pointer none, .pointer none, .bool false] ∧ K' = []) ∨ ∃ (bv bd : Nat) (Kv Kd : List (Nat × Obj)) (ts : List T), u = .tuple #[.pointer (some ⟨bv, 0, none⟩), .pointer (some ⟨bd, 0, none⟩), .bool true] ∧ K' = Kv ++ Kd ∧ VaultK 80 32 bv ts σ' Kv ∧ RefK 63 32 bd ts σ' Kd) σ [] w) := by
  obtain ⟨p, c, rfl, hc, hm⟩ := hl.slice
  have hm2 := hm
  unfold maxKids at hm2
  refine enter (St w (keysOf []) σ [] []) Tryz.func10 rfl Tryz.ntmps10 rfl (Has.start (Has.nil hi)) ?_
  refine cw_seq ?_
  refine cw_region ?_
  refine ow_val rfl rfl (ex_assign rfl) ?_
  refine ow_val rfl rfl (ex_assign rfl) ?_
  refine ow_val rfl rfl (ex_assign rfl) ?_
  refine ow_nil ?_
  refine qw_seq ?_
  refine cw_seq ?_
  refine cw_region ?_
  refine ow_ck0E rfl rfl (ex_callf rfl (fun w h => pNew h.im)) (fun v12 σ4 K4 hl4 hf4 hr4 => ?_)
  obtain ⟨bv, rfl, hv4⟩ := hr4
  refine ow_val rfl rfl (ex_assign rfl) ?_
  refine ow_nil ?_
  refine qw_seq ?_
  refine cw_seq ?_
  refine cw_region ?_
  refine ow_val rfl rfl (ex_build (parts := []) (cells := #[.slice none 0 0]) rfl (by kernel_rfl)) ?_
  refine ow_blk rfl rfl (exw_box rfl) ?_; intro bd
  refine ow_mono (fun w h => h.toG.permG (List.perm_append_comm (l₁ := K4) (l₂ := [_]))) ?_
  have hd4 : RefK 63 32 bd [] σ4 [(bd, .cells #[.slice none 0 0] 63)] := ⟨_, [], [], rfl, OwnSl.nil _ _, rfl, by simp⟩
  refine ow_val rfl rfl (ex_assign rfl) ?_
  refine ow_nil ?_
  refine qw_seq ?_
  refine cw_seq ?_
  refine cw_seq ?_
  refine cw_region ?_
  refine ow_val rfl rfl (ex_move rfl) ?_
  refine ow_val rfl rfl (ex_ptrnil rfl) ?_
  refine ow_val rfl rfl (ex_move rfl) ?_
  refine ow_split (g := some (2, false)) rfl (fun s17 => ?_) (fun s17 => ?_)
  ·
    simp at s17
  ·
    refine ow_val rfl (gd_go rfl s17) (ex_move rfl) ?_
    refine ow_val rfl (gd_go rfl s17) (ex_len (ty := 0) rfl) ?_
    refine ow_val rfl (gd_go rfl s17) (ex_gtr rfl rfl) ?_
    refine ow_val rfl rfl (ex_pickf rfl s17 rfl) ?_
    refine ow_nil ?_
    refine qw_seq ?_
    refine cw_cond rfl (fun c21 => ?_) (fun c21 => ?_)
    ·
      refine cw_seq ?_
      refine cw_region ?_
      refine ow_val rfl rfl (ex_assign rfl) ?_
      refine ow_val rfl rfl (ex_assign rfl) ?_
      refine ow_val rfl rfl (ex_assign rfl) ?_
      refine ow_nil ?_
      refine qw_seq ?_
      refine cw_ret ?_
      refine qw_then_ret ?_
      refine qw_ret3 rfl rfl rfl rfl (fun w' h => (h.dropG (List.nil_sublist _)).givesK hl4 hf4 (.inl ⟨rfl, rfl⟩))
    ·
      refine cw_skip ?_
      refine qw_seq ?_
      refine cw_seq ?_
      refine cw_seq ?_
      refine cw_region ?_
      refine ow_val rfl rfl (ex_assign rfl) ?_
      refine ow_nil ?_
      refine qw_seq ?_
      refine cw_block ?_
      refine cw_loop5 (fun (i : Nat) (ts : List T) (τ : Hp) (Kv Kd : List (Nat × Obj)) => [(0, .slice p ls.length c), (5, .pointer (some ⟨bv, 0, none⟩)), (6, .pointer (some ⟨bd, 0, none⟩)), (7, .int .i64 (i : Int))]) (fun i ts τ Kv Kd => i ≤ ls.length ∧ Le σ τ ∧ Fresh σ τ w ∧ VaultK 80 32 bv ts τ Kv ∧ RefK 63 32 bd ts τ Kd) (fun i ts τ Kv Kd => τ) (fun i ts τ Kv Kd => Kv ++ Kd) (fun i _ _ _ _ => ls.length - i) 0 [] σ4 K4 [(bd, .cells #[.slice none 0 0] 63)] (subL_cons (lkv rfl (by first | rfl | simp)) (subL_cons (lkv rfl (by first | rfl | simp)) (subL_cons (lkv rfl (by first | rfl | simp)) (subL_cons (lkv rfl (by first | rfl | simp)) (subL_nil _))))) ⟨Nat.zero_le _, hl4, hf4, hv4, hd4⟩ (fun w h => h) ?_
      intro i ts τj Kv Kd ⟨hlej, hlj, hfj, hvj, hdj⟩
      refine cw_seq ?_
      refine cw_seq ?_
      refine cw_region ?_
      refine ow_val rfl rfl (ex_move rfl) ?_
      refine ow_val rfl rfl (ex_move rfl) ?_
      refine ow_val rfl rfl (ex_len (ty := 0) rfl) ?_
      refine ow_val rfl rfl (ex_lss rfl rfl) ?_
      refine ow_nil ?_
      refine qw_seq ?_
      refine cw_cond rfl (fun c25 => ?_) (fun c25 => ?_)
      ·
        refine cw_skip ?_
        refine qw_seq ?_
        refine cw_seq ?_
        refine cw_block ?_
        refine cw_seq ?_
        refine cw_seq ?_
        have hlt : i < ls.length := by have := of_decide_eq_true c25; omega
        obtain ⟨bk, f, c', cs, e1, e2, hc1, ht1⟩ := hl.get i hlt
        cases e1
        refine cw_region ?_
        refine ow_val rfl rfl (ex_move rfl) ?_
        refine ow_val rfl rfl (ex_move rfl) ?_
        refine ow_val rfl rfl (ex_index_nat rfl rfl (by omega)) ?_
        refine ow_val rfl rfl (ex_loadR rfl (ld_immT (hc1.le hlj) (ht1.le hlj))) ?_
        refine ow_cv rfl rfl (ex_callf rfl (fun w h => callB ((rParts _ h.im (ht1.le hlj) (by omega) (by omega))))) ?_
        refine ow_val rfl rfl (ex_gtr rfl rfl) ?_
        refine ow_nil ?_
        refine qw_seq ?_
        refine cw_cond rfl (fun c33 => ?_) (fun c33 => ?_)
        ·
          refine cw_seq ?_
          refine cw_region ?_
          refine ow_val rfl rfl (ex_assign rfl) ?_
          refine ow_val rfl rfl (ex_assign rfl) ?_
          refine ow_val rfl rfl (ex_assign rfl) ?_
          refine ow_nil ?_
          refine qw_seq ?_
          refine cw_ret ?_
          refine qw_then_ret ?_
          refine qw_block_ret ?_
          refine qw_then_ret ?_
          refine qw_then_ret ?_
          refine qw_block_ret ?_
          refine qw_then_ret ?_
          refine qw_ret3 rfl rfl rfl rfl (fun w' h => (h.dropG (List.nil_sublist _)).givesK hlj hfj (.inl ⟨rfl, rfl⟩))
        ·
          refine cw_skip ?_
          refine qw_seq ?_
          refine cw_seq ?_
          refine cw_region ?_
          refine ow_val rfl rfl (ex_move rfl) ?_
          refine ow_val rfl rfl (ex_move rfl) ?_
          refine ow_val rfl rfl (ex_move rfl) ?_
          refine ow_val rfl rfl (ex_index_nat rfl rfl (by omega)) ?_
          refine ow_val rfl rfl (ex_loadR rfl (ld_immT (hc1.le hlj) (ht1.le hlj))) ?_
          refine ow_ck rfl rfl (ex_callf rfl (fun w h => pIntern _ h.has (htab.le hlj) hvj (ht1.le hlj))) (fun v40 τ2 K2 hl2 hf2 hr2 => ?_)
          obtain ⟨rfl, hv2⟩ := hr2
          refine ow_val rfl rfl (ex_move rfl) ?_
          refine ow_val rfl rfl (ex_extract rfl rfl) ?_
          refine ow_val rfl rfl (ex_extract rfl rfl) ?_
          refine ow_val rfl rfl (ex_assign rfl) ?_
          refine ow_val rfl rfl (ex_assign rfl) ?_
          refine ow_nil ?_
          refine qw_seq ?_
          refine cw_seq ?_
          refine cw_region ?_
          refine ow_val rfl rfl (ex_move rfl) ?_
          refine ow_val rfl rfl (ex_move rfl) ?_
          refine ow_val rfl rfl (ex_move rfl) ?_
          refine ow_val rfl rfl (ex_index_nat rfl rfl (by omega)) ?_
          refine ow_val rfl rfl (ex_loadR rfl (ld_immT (hc1.le (hlj.trans hl2)) (ht1.le (hlj.trans hl2)))) ?_
          refine ow_mono (fun w h => h.permG List.perm_append_comm) ?_
          refine ow_ck rfl rfl (ex_callf rfl (fun w h => rIntern _ h.has (hdj.le hl2) (ht1.le (hlj.trans hl2)))) (fun v49 τ3 K3 hl3 hf3 hr3 => ?_)
          obtain ⟨rfl, hd3⟩ := hr3
          refine ow_mono (fun w h => h.permG List.perm_append_comm) ?_
          refine ow_val rfl rfl (ex_move rfl) ?_
          refine ow_val rfl rfl (ex_extract rfl rfl) ?_
          refine ow_val rfl rfl (ex_extract rfl rfl) ?_
          refine ow_val rfl rfl (ex_assign rfl) ?_
          refine ow_val rfl rfl (ex_assign rfl) ?_
          refine ow_nil ?_
          refine qw_seq ?_
          refine cw_seq ?_
          refine cw_region ?_
          refine ow_val rfl rfl (ex_move rfl) ?_
          refine ow_val rfl rfl (ex_move rfl) ?_
          refine ow_val rfl rfl (ex_neq rfl rfl) ?_
          refine ow_val rfl rfl (ex_move rfl) ?_
          refine ow_split (g := some (3, false)) rfl (fun s55 => ?_) (fun s55 => ?_)
          ·
            simp at s55
          ·
            refine ow_val rfl (gd_go rfl s55) (ex_move rfl) ?_
            refine ow_val rfl (gd_go rfl s55) (ex_move rfl) ?_
            refine ow_val rfl (gd_go rfl s55) (ex_neq rfl rfl) ?_
            refine ow_val rfl rfl (ex_pickf rfl s55 rfl) ?_
            refine ow_nil ?_
            refine qw_seq ?_
            refine cw_cond rfl (fun c59 => ?_) (fun c59 => ?_)
            ·
              simp at c59
            ·
              refine cw_skip ?_
              refine qw_block_normal ?_
              refine qw_seq ?_
              refine cw_region ?_
              refine ow_val rfl rfl (ex_move rfl) ?_
              refine ow_val rfl rfl (ex_addi (z := ((i + 1 : Nat) : Int)) rfl rfl (by omega) (by omega) (by omega)) ?_
              refine ow_val rfl rfl (ex_assign rfl) ?_
              refine ow_nil ?_
              exact qw_round5 (i + 1) (intern ts ls[i]).2.2 τ3 K2 K3 (by omega) (subL_cons (lkv rfl (by first | rfl | simp)) (subL_cons (lkv rfl (by first | rfl | simp)) (subL_cons (lkv rfl (by first | rfl | simp)) (subL_cons (lkv rfl (by first | rfl | simp)) (subL_nil _))))) ⟨by omega, (hlj.trans hl2).trans hl3, (hfj.trans hf2).trans hf3, hv2.le hl3, hd3⟩ (fun w h => h)
      ·
        refine cw_exit ?_
        refine qw_then_exit ?_
        refine qw_then_exit ?_
        refine qw_block_exit ?_
        refine qw_seq ?_
        refine cw_seq ?_
        refine cw_region ?_
        refine ow_val rfl rfl (ex_move rfl) ?_
        refine ow_val rfl rfl (ex_move rfl) ?_
        refine ow_val rfl rfl (ex_assign rfl) ?_
        refine ow_val rfl rfl (ex_assign rfl) ?_
        refine ow_val rfl rfl (ex_assign rfl) ?_
        refine ow_nil ?_
        refine qw_seq ?_
        refine cw_ret ?_
        refine qw_ret3 rfl rfl rfl rfl (fun w' h => h.givesK hlj hfj (.inr ⟨bv, bd, Kv, Kd, ts, rfl, rfl, hvj, hdj⟩))
end Go.Proofs.YtnjomdjkbbhdoaaGreatDoor
namespace Go.Proofs.YtnjomdjkbbhdoaaGreatDoor
open Go.RowKit
set_option linter.unusedVariables false
set_option linter.unusedSimpArgs false
theorem flow_nilF {P : Program} {l : List Oper} {Q : Exit → Act → World → Prop} {N n j i : Nat} {L0 : TL} {S : World → Prop} {K : List KE} (h : FinT P l Q (l.length - n) (firsts n l.length) N L0 S K) (h2 : FinT P l Q (l.length - n + 1) ((firsts n l.length).setIfInBounds j false) N L0 S (K.filter fun e => !Nat.beq e.j j)) :
    Flow P l L0 S N (fun K => (∀ a w, Fr N L0 a → S w → (∀ e ∈ K, ∃ v, a.tmps[e.d]? = some v ∧ e.p.holds w v) → wpAny P .any l.toArray Q (l.length - n) (firsts n l.length) a w) ∧
      (∀ a w, Fr N L0 a → S w → (∀ e ∈ K, Nat.beq e.j j = false → ∃ v, a.tmps[e.d]? = some v ∧ e.p.holds w v) → wpAny P .any l.toArray Q (l.length - n + 1) ((firsts n l.length).setIfInBounds j false) a w)) [] i K :=
  ⟨h, fun a w hf hs hk => h2 a w hf hs fun e he => by
    obtain ⟨h3, h4⟩ := List.mem_filter.1 he
    exact hk e h3 (by simpa using h4)⟩
end Go.Proofs.YtnjomdjkbbhdoaaGreatDoor
namespace Go.Proofs.YtnjomdjkbbhdoaaGreatDoor
open Go.RowKit
set_option linter.unusedVariables false
set_option linter.unusedSimpArgs false
set_option linter.unusedSectionVars false
def NewS0 (w0 : World) (σ : Hp) (X : List (Nat × Obj)) (e : Nat) (w : World) (v : Value) : Prop := ∃ b, v = .slice (some ⟨b, 0, none⟩) 0 0 ∧ w.heap[b]? = some (.cells #[] e (0, 0)) ∧ w0.heap.size ≤ b ∧ σ b = none ∧ ∀ p ∈ X, p.1 ≠ b
def NewRk (w0 : World) (σ : Hp) (X : List (Nat × Obj)) (e size n : Nat) (xs : List Value) (w : World) (v : Value) : Prop := ∃ Gs, OwnSl e size v n xs Gs ∧ Own Gs w ∧ ∀ p ∈ Gs, w0.heap.size ≤ p.1 ∧ σ p.1 = none ∧ ∀ q ∈ X, q.1 ≠ p.1
theorem NewS0.pers {w0 : World} {σ : Hp} {X : List (Nat × Obj)} {e : Nat} : ∀ w w' v, NewS0 w0 σ X e w v → Below w.heap.size w w' → NewS0 w0 σ X e w' v := fun w w' v ⟨b, h1, h2, h3⟩ hb =>
  ⟨b, h1, by rw [hb.block b (Array.getElem?_eq_some_iff.1 h2).1]; exact h2, h3⟩
theorem NewRk.pers {w0 : World} {σ : Hp} {X : List (Nat × Obj)} {e size n : Nat} {xs : List Value} : ∀ w w' v, NewRk w0 σ X e size n xs w v → Below w.heap.size w w' → NewRk w0 σ X e size n xs w' v := fun w w' v ⟨Gs, h1, h2, h3⟩ hb =>
  ⟨Gs, h1, fun p hp => by rw [hb.block p.1 (Array.getElem?_eq_some_iff.1 (h2 p hp)).1]; exact h2 p hp, h3⟩
section
variable {P : Program} {l0 : List Oper} {Q : Exit → Act → World → Prop} {r l : List Oper} {fin : List KE → Prop} {N i : Nat} {L0 L : TL} {K : List KE} {d : Nat} {ty : TypeId} {pos : String} {af : Array Edge} {g : Option (Nat × Bool)} {op : Op} {w0 : World} {M : Nat → Prop} {σ : Hp} {H G : List (Nat × Obj)}
theorem flow_slit0 {t e size bytes : Nat} [h : AppT P t e size bytes] (hg : gd l0 (tlK af.toList L0 K) g = some true)
    (k : Flow P l0 L0 (St w0 M σ H G) N fin r (i + 1) (⟨i, d, .sat (NewS0 w0 σ (H ++ G) e)⟩ :: K)) : Flow P l0 L0 (St w0 M σ H G) N fin (⟨some d, .buildSlice t 0 #[], ty, pos, af, g⟩ :: r) i K :=
  flow_sat NewS0.pers (obk (ob_w hg fun a w hf hs dd tt pp aa gg => by
    obtain ⟨h1, ⟨i, z, h2, h3, _⟩, _⟩ := h.ok
    refine ⟨.slice (some ⟨w.heap.size, 0, none⟩) 0 0, w.alloc (.cells #[] e), ?_, below_alloc1 _ _, w.heap.size, rfl, heap_push_new _ _, hs.ag.size, ?_, fun p hp => Nat.ne_of_lt (hs.lt hp)⟩
    · simp [execOp, Instr.buildSlice, run_underlying h1, sizeOf, typeInfo, h2, Instr.fill, newRow]
      rw [show (Array.range 0) = #[] from by simp]
      simp
    · cases e9 : σ w.heap.size with
      | none => rfl
      | some o => exact absurd (hs.im.lt e9) (Nat.lt_irrefl _))) k
theorem run_app0 {t e size bytes : Nat} [hA : AppT P t e size bytes] {b0 m c : Nat} {p : Option Addr} {news : List Value} {ty : TypeId} {w : World} (hl : news.length = m * size) (hsrc : m = 0 ∨ ∃ b o, p = some ⟨b, o, none⟩ ∧ w.rangeAt b o news) (h63 : m ≤ maxLen) (hb : m * bytes ≤ 140737488355328) :
    ∃ v' w', (Builtin.append_ #[t, t] ty #[.slice (some ⟨b0, 0, none⟩) 0 0, .slice p m c]).run P w = .ok v' w' ∧ Below w.heap.size w w' ∧
      ((m = 0 ∧ v' = .slice (some ⟨b0, 0, none⟩) 0 0 ∧ w' = w) ∨ (∃ cap cur, v' = .slice (some ⟨w.heap.size, 0, none⟩) m cap ∧ w'.heap[w.heap.size]? = some (.cells cur e (0, 0)) ∧ m ≤ cap ∧ cap ≤ maxLen ∧ cur.size = cap * size ∧ cur.toList.take (m * size) = news)) := by
  obtain ⟨ht, ⟨i, z, hi, hz, rfl, rfl, hzs⟩, hpos⟩ := hA.ok
  by_cases hm : m = 0
  · subst hm
    refine ⟨_, w, ?_, Below.refl _ _, .inl ⟨rfl, rfl, rfl⟩⟩
    cases p <;> simp [Builtin.append_, run_underlying ht, sizeOf, typeInfo, hi, Builtin.lenOf, Builtin.firstCells, loadCells, loadCellsFrom, storeCells]
  · obtain ⟨b, o, rfl, hr⟩ := hsrc.resolve_left hm
    have hnews : ∀ j u, news[j]? = some u → w.cell? ((⟨b, o, none⟩ : Addr).add j) = some u := fun j u hj => by rw [addr_add]; exact hr j u hj
    have h63' : m ≤ 9223372036854775807 := by unfold maxLen at h63; omega
    have hrun := run_append_grow (P := P) w t ty e i z ht hi hz ⟨b0, 0, none⟩ 0 0 [] (by simp) (fun j v hj => by simp at hj) ⟨b, o, none⟩ m c news hl hnews (by omega) (by omega) (growslice_fits (by omega) (by simpa using hb))
    simp only [Nat.zero_add, List.nil_append, Array.empty_append] at hrun
    have hge := grownCap_ge w m 0 e
    have hcm : grownCap w m 0 e ≤ maxLen := grownCap_le_maxLen w m 0 e h63
    refine ⟨_, _, hrun, (Below.drewB w).alloc (show w.heap.size ≤ w.drew.heap.size from Nat.le_refl _) _, .inr ⟨grownCap w m 0 e, news.toArray ++ Builtin.zeroCells z.cells (grownCap w m 0 e - m), rfl, heap_push_new w.drew _, hge, hcm, ?_, ?_⟩⟩
    · simp only [Array.size_append, List.size_toArray, size_zeroCells, hzs, hl, ← Nat.add_mul, Nat.zero_add, List.length_nil]
      congr 1
      omega
    · simp only [Array.toList_append]
      rw [show m * i.size = news.length from hl.symm]
      simp
end
end Go.Proofs.YtnjomdjkbbhdoaaGreatDoor
namespace Go.Proofs.YtnjomdjkbbhdoaaGreatDoor
open Go.RowKit
set_option linter.unusedVariables false
set_option linter.unusedSimpArgs false
theorem CellsAt.off {σ : Hp} {b o : Nat} {xs : List Value} (h : CellsAt σ b o xs) (i : Nat) : CellsAt σ b (o + i * 1) (xs.drop i) := by
  obtain ⟨arr, ty, fz, h1, h2⟩ := h
  refine ⟨arr, ty, fz, h1, fun j v hj => ?_⟩
  rw [List.getElem?_drop] at hj
  have := h2 _ v hj
  rw [← this]; congr 1; omega
theorem BytesV.hi {σ : Hp} {p : Option Addr} {n c : Nat} {d : List UInt8} (h : BytesV σ (.slice p n c) d) {j : Nat} (hj : j ≤ d.length) : BytesV σ (.slice p j c) (d.take j) := by
  obtain ⟨p', c', e, h1, h2, h3⟩ := h
  cases e
  refine ⟨p, c, by rw [List.length_take]; congr 1; omega, by rw [List.length_take]; omega, by rw [List.length_take]; omega, ?_⟩
  rcases h3 with rfl | ⟨b, o, rfl, hc⟩
  · exact .inl (by simp)
  · exact .inr ⟨b, o, rfl, by rw [List.map_take]; exact hc.take j⟩
theorem BytesV.lo {σ : Hp} {p : Option Addr} {n c : Nat} {d : List UInt8} (h : BytesV σ (.slice p n c) d) {i : Nat} (hi : i ≤ d.length) : BytesV σ (.slice (if c = i then p else p.map (·.add (i * 1))) (n - i) (c - i)) (d.drop i) := by
  obtain ⟨p', c', e, h1, h2, h3⟩ := h
  cases e
  refine ⟨_, _, by rw [List.length_drop], by rw [List.length_drop]; omega, by rw [List.length_drop]; omega, ?_⟩
  by_cases hl : i = d.length
  · exact .inl (by simp [hl])
  · rcases h3 with rfl | ⟨b, o, rfl, hc⟩
    · exact .inl (by simp)
    · rw [if_neg (by omega)]
      exact .inr ⟨b, o + i * 1, by simp [Addr.add], by rw [List.map_drop]; exact hc.off i⟩
theorem BytesV.mid {σ : Hp} {b o n c : Nat} {d : List UInt8} (h : BytesV σ (.slice (some ⟨b, o, none⟩) n c) d) {i j : Nat} (hi : i ≤ j) (hj : j ≤ d.length) : BytesV σ (.slice (some (if c = i then ⟨b, o, none⟩ else ⟨b, o + i * 1, none⟩)) (j - i) (c - i)) ((d.drop i).take (j - i)) := by
  have h1 := h.lo (i := i) (by omega)
  have e : (if c = i then some ⟨b, o, none⟩ else (some ⟨b, o, none⟩ : Option Addr).map (·.add (i * 1))) = some (if c = i then ⟨b, o, none⟩ else ⟨b, o + i * 1, none⟩) := by
    split
    · rfl
    · simp [Addr.add]
  rw [e] at h1
  exact h1.hi (by rw [List.length_drop]; omega)
theorem BytesV.ptr {σ : Hp} {p : Option Addr} {n c : Nat} {d : List UInt8} (h : BytesV σ (.slice p n c) d) (h0 : 0 < d.length) : ∃ b o, p = some ⟨b, o, none⟩ ∧ CellsAt σ b o (d.map byteV) := by
  obtain ⟨p', c', e, h1, h2, h3⟩ := h
  cases e
  rcases h3 with rfl | h3
  · simp at h0
  · exact h3
def RepBy (d : List UInt8) (σ : Hp) (v : Value) : Prop := BytesV σ v d
instance (d : List UInt8) : MonoR (RepBy d) := ⟨fun hl h => BytesV.le hl h⟩
def beN (l : List UInt8) : Nat := l.foldl (fun a c => 256 * a + c.toNat) 0
def hpB (q d : List UInt8) : Bool := decide (q.length ≤ d.length) && (d.take q.length == q)
def numB (d : List UInt8) : Int × Bool := if hpB [193, 94] d = true ∧ (d.drop 2).length = 6 then (((beN (d.drop 2) : Nat) : Int), true) else (-1, false)
end Go.Proofs.YtnjomdjkbbhdoaaGreatDoor
namespace Go.Proofs.YtnjomdjkbbhdoaaGreatDoor
set_option linter.unusedVariables false
theorem gather1 {ts : List T} {a : Int} (h : (termV ts a).2 = true) : gatherT ts [a] = some [(termV ts a).1] := by simp [gatherT, h]
theorem gather0 {ts : List T} {a : Int} (h : ¬ (termV ts a).2 = true) : gatherT ts [a] = none := by simp [gatherT, h]
theorem made1 {ts : List T} {op : Int} {d : List UInt8} {a : Int} (h : (termV ts a).2 = true) : madeV ts (ofT op d) [a] = intern ts (.mk op 0 d [(termV ts a).1]) := by
  rw [madeV_some (gather1 h)]; rfl
theorem made0 {ts : List T} {op : Int} {d : List UInt8} {a : Int} (h : ¬ (termV ts a).2 = true) : madeV ts (ofT op d) [a] = (-1, 71, ts) := madeV_none (gather0 h)
theorem madeH {ts : List T} {op : Int} {d : List UInt8} : madeV ts (ofT op d) [] = intern ts (.mk op 0 d []) := by
  rw [madeV_some (l := []) rfl]; rfl
structure Seals (key other : Int) (d : List UInt8) (ts t1 t2 t3 t4 : List T) (s e g f p h q i : Int) : Prop where
  h1 : madeV ts (ofT 4 d) [key] = (s, e, t1)
  h2 : madeV t1 (ofT 3 d) [key] = (g, f, t2)
  h3 : madeV t2 (ofT 2 []) [key] = (p, h, t3)
  h4 : madeV t3 (ofT 2 []) [other] = (q, i, t4)
  hI : TabI ts
structure Pows (x y : Int) (a b : List UInt8) (ts t1 t2 t3 t4 : List T) (p e q f h i k j : Int) : Prop where
  h1 : madeV ts (ofT 7 []) [x] = (p, e, t1)
  h2 : madeV t1 (ofT 7 []) [y] = (q, f, t2)
  h3 : madeV t2 (ofT 5 a) [] = (h, i, t3)
  h4 : madeV t3 (ofT 5 b) [] = (k, j, t4)
  hI : TabI ts
end Go.Proofs.YtnjomdjkbbhdoaaGreatDoor
namespace Go.Proofs.YtnjomdjkbbhdoaaGreatDoor
open Go.RowKit
set_option linter.unusedVariables false
set_option linter.unusedSimpArgs false
set_option linter.unusedSectionVars false
def drawG (N : Nat) (l : List Oper) (n j : Nat) : Bool :=
  Nat.blt n l.length && Nat.blt j n && ownDst N (l.take n) && aheadB 0 l && (match l[n]? with
    | some o => waitsB l o [j] n
    | none => false) && (List.range l.length).all fun t => decide (t ≤ n) || (match l[t]? with
      | some o => (depsL o.after.toList).any fun x => Nat.ble n x && Nat.blt x l.length
      | none => false)
theorem flow_soundG {P : Program} {l : List Oper} {L : TL} {S : World → Prop} [hSta : Sta S] {N : Nat} {Q : Exit → Act → World → Prop} {id : Nat} [hm : MixT P] (n j : Nat) (hB : drawG N l n j = true)
    (h : Flow P l (Go.Proofs.YtnjomdjkbbhdoaaGreatDoor.cut (l.take n) L) S N (fun K => (∀ a w, Fr N (Go.Proofs.YtnjomdjkbbhdoaaGreatDoor.cut (l.take n) L) a → S w → (∀ e ∈ K, ∃ v, a.tmps[e.d]? = some v ∧ e.p.holds w v) → wpAny P .any l.toArray Q (l.length - n) (firsts n l.length) a w) ∧
      (∀ a w, Fr N (Go.Proofs.YtnjomdjkbbhdoaaGreatDoor.cut (l.take n) L) a → S w → (∀ e ∈ K, Nat.beq e.j j = false → ∃ v, a.tmps[e.d]? = some v ∧ e.p.holds w v) → wpAny P .any l.toArray Q (l.length - n + 1) ((firsts n l.length).setIfInBounds j false) a w)) (l.take n) 0 []) :
    CW P (.region id l.toArray true) Q N L S := by
  simp only [drawG, Bool.and_eq_true] at hB
  obtain ⟨⟨⟨⟨⟨hn, hj⟩, hown⟩, hahead⟩, hwt⟩, hstar⟩ := hB
  have hjn : j < n := by have := hj; simp [Nat.blt] at this; omega
  have hn2 : n < l.length := by have := hn; simp [Nat.blt] at this; omega
  have hn' : n ≤ l.length := by omega
  obtain ⟨on, hon, hwn⟩ : ∃ o, l[n]? = some o ∧ waitsB l o [j] n = true := by
    cases hl : l[n]? with
    | none => rw [hl] at hwt; cases hwt
    | some o => rw [hl] at hwt; exact ⟨o, rfl, hwt⟩
  obtain ⟨Kf, ⟨hfin, hfin2⟩, -, hK, hcov, huni⟩ := flow_all (l.take n) 0 [] (fun j hj => by
    rw [List.length_take] at hj
    rw [List.getElem?_take_of_lt (by omega)]; simp) (fun _ he => absurd he List.not_mem_nil) h
  have hK' : ∀ e ∈ Kf, e.j < n ∧ ∃ o, l[e.j]? = some o ∧ o.dst = some e.d ∧ e.p.pers ∧ ∀ a w, Fr N (Go.Proofs.YtnjomdjkbbhdoaaGreatDoor.cut (l.take n) L) a → S w →
      (∀ e' ∈ Kf, edge o.after.toList e'.j = true → ∃ v, a.tmps[e'.d]? = some v ∧ e'.p.holds w v) → stepOK P l o a w e.p := fun e he => by
    rcases hK e he with h0 | ⟨_, h1, h2⟩
    · cases h0
    · exact ⟨by rw [List.length_take] at h1; omega, h2⟩
  have hsz : l.toArray.size = l.length := by simp
  have key : ∀ (g : Nat) (listed : Array Bool) (a : Act) (w : World), HeadInv .any l.toArray n listed → cnt listed n = g → Fr N (Go.Proofs.YtnjomdjkbbhdoaaGreatDoor.cut (l.take n) L) a → S w →
      (∀ e ∈ Kf, listed.getD e.j true = true → ∃ v, a.tmps[e.d]? = some v ∧ e.p.holds w v) → wpAny P .any l.toArray Q (g + (l.length - n)) listed a w := by
    intro g
    induction g with
    | zero =>
      intro listed a w inv hc hf hs hk
      have hall := cnt_zero hc
      have hlist : listed = firsts n l.length := by
        apply Array.ext_getElem?
        intro i
        have hs1 : listed.size = l.length := by rw [inv.size, hsz]
        unfold firsts
        rcases Nat.lt_or_ge i n with h1 | h1
        · have := hall i h1
          have hi : i < listed.size := by omega
          simp [hi] at this
          simp [hi, this, List.getElem?_append, h1]
        · rcases Nat.lt_or_ge i l.length with h2 | h2
          · have := inv.tail i h1 (by rw [hsz]; exact h2)
            have hi : i < listed.size := by omega
            simp [hi] at this
            simp [hi, this, List.getElem?_append, show ¬ i < n by omega, show i - n < l.length - n by omega]
          · rw [Array.getElem?_eq_none (by omega)]
            simp [List.getElem?_append, show ¬ i < n by omega, show ¬ i - n < l.length - n by omega]
      have hw := hfin a w hf hs (fun e he => hk e he (hall e.j (hK' e he).1))
      rw [hlist, Nat.zero_add]
      exact hw
    | succ g ih =>
      intro listed a w inv hc hf hs hk
      have hs0 : listed.size = l.length := by rw [inv.size, hsz]
      by_cases hlast : ∀ i, i < n → i ≠ j → listed.getD i true = true
      · have hjf : listed.getD j true = false := by
          obtain ⟨i0, hi0, hun0, _⟩ := cnt_pos (show 0 < cnt listed n by omega)
          by_cases e : i0 = j
          · subst e; exact hun0
          · rw [hlast i0 hi0 e] at hun0; cases hun0
        have hg0 : g = 0 := by
          have h1 := cnt_set (listed := listed) (i := j) hjf n hjn
          rcases Nat.eq_zero_or_pos g with h2 | h2
          · exact h2
          · obtain ⟨i1, hi1, hun1, _⟩ := cnt_pos (show 0 < cnt (listed.setIfInBounds j true) n by omega)
            by_cases e : i1 = j
            · subst e
              have : i1 < listed.size := by omega
              simp [this] at hun1
            · rw [getD_set_ne true (fun h => e h.symm), hlast i1 hi1 e] at hun1; cases hun1
        subst hg0
        have hlist : listed = (firsts n l.length).setIfInBounds j false := by
          apply Array.ext_getElem?
          intro i
          rw [Array.getElem?_setIfInBounds]
          unfold firsts
          by_cases e : j = i
          · subst e
            have hi : j < listed.size := by omega
            simp [hi] at hjf
            simp [hi, hjf]; omega
          · rw [if_neg e]
            rcases Nat.lt_or_ge i n with h1 | h1
            · have := hlast i h1 (fun h => e h.symm)
              have hi : i < listed.size := by omega
              simp [hi] at this
              simp [hi, this, List.getElem?_append, h1]
            · rcases Nat.lt_or_ge i l.length with h2 | h2
              · have := inv.tail i h1 (by rw [hsz]; exact h2)
                have hi : i < listed.size := by omega
                simp [hi] at this
                simp [hi, this, List.getElem?_append, show ¬ i < n by omega, show i - n < l.length - n by omega]
              · rw [Array.getElem?_eq_none (by omega)]
                simp [List.getElem?_append, show ¬ i < n by omega, show ¬ i - n < l.length - n by omega]
        have hw := hfin2 a w hf hs (fun e he hne => hk e he (hlast e.j (hK' e he).1 (Nat.ne_of_beq_eq_false hne)))
        rw [hlist, show 0 + 1 + (l.length - n) = l.length - n + 1 by omega]
        exact hw
      obtain ⟨i1, hi1n, hi1j, hi1u⟩ : ∃ i, i < n ∧ i ≠ j ∧ listed.getD i true = false := by
        apply Classical.byContradiction
        intro hno
        refine hlast fun i h1 h2 => ?_
        cases h3 : listed.getD i true with
        | true => rfl
        | false => exact (hno ⟨i, h1, h2, h3⟩).elim
      rw [show g + 1 + (l.length - n) = (g + (l.length - n)) + 1 by omega]
      obtain ⟨i0, hi0, hun0, hbelow⟩ := cnt_pos (show 0 < cnt listed n by omega)
      have hs1 : listed.size = l.length := by rw [inv.size, hsz]
      have hready : i0 ∈ Region.ready .any l.toArray listed := by
        have hlt : i0 < l.length := by omega
        refine mem_ready.2 ⟨hun0, l[i0], by simp [hlt], fun e he hb => ?_⟩
        have h1 := ahead_get hahead i0 l[i0] (by simp [hlt]) e he hb
        have h2 := hbelow e.on (by omega)
        have hlt2 : e.on < listed.size := by omega
        simp [hlt2] at h2 ⊢
        exact h2
      refine ⟨fun hnil => (by rw [hnil] at hready; cases hready), fun i hi => ?_⟩
      have hin : i < n := by
        rcases Nat.lt_or_ge i n with h1 | h1
        · exact h1
        · obtain ⟨_, oi, hoi, hdeps⟩ := mem_ready.1 hi
          have hlt : i < l.length := by have := (Array.getElem?_eq_some_iff.1 hoi).1; simpa using this
          have hoi' : l[i]? = some oi := by simpa using hoi
          rcases Nat.eq_or_lt_of_le h1 with h2 | h2
          · subst h2
            have : oi = on := Option.some.inj (hoi'.symm.trans hon)
            subst this
            have h3 := (List.all_eq_true.1 hwn) i1 (List.mem_range.2 hi1n)
            have hb1 : (i1 == j) = false := by simpa using hi1j
            rw [Bool.or_eq_true] at h3
            replace h3 := h3.resolve_left (fun h => hi1j (by have h5 := memN_mem h; simpa using h5))
            have h4 := clos_listed inv n _ (fun x hx => by
              obtain ⟨e, he, hej, heb⟩ := depsL_mem hx
              rw [← hej]; exact hdeps e (by simpa using he) heb) i1 (memN_mem h3)
            have hlt2 : i1 < listed.size := by omega
            simp [hlt2] at h4 hi1u
            rw [h4] at hi1u; cases hi1u
          · have h3 := (List.all_eq_true.1 hstar) i (List.mem_range.2 hlt)
            simp only [Bool.or_eq_true, decide_eq_true_eq] at h3
            have h4 := h3.resolve_left (by omega)
            rw [hoi'] at h4
            obtain ⟨x, hx, hxb⟩ := List.any_eq_true.1 h4
            simp only [Bool.and_eq_true] at hxb
            have hx1 : n ≤ x := Nat.le_of_ble_eq_true hxb.1
            have hx2 : x < l.length := by have := hxb.2; simp [Nat.blt] at this; omega
            obtain ⟨e, he, hej, heb⟩ := depsL_mem hx
            have h5 := hdeps e (by simpa using he) heb
            rw [hej] at h5
            have h6 := inv.tail x hx1 (by rw [hsz]; exact hx2)
            have hlt2 : x < listed.size := by omega
            simp [hlt2] at h5 h6
            rw [h5] at h6; cases h6
      obtain ⟨huni1, oi, hoi, hdeps⟩ := mem_ready.1 hi
      have hoi' : l[i]? = some oi := by simpa using hoi
      obtain ⟨e, heK, hej⟩ := hcov i (by rw [List.length_take]; omega)
      have hej' : e.j = i := by omega
      obtain ⟨_, o, ho, hod, hpers, hstep⟩ := hK' e heK
      rw [hej'] at ho
      have : o = oi := Option.some.inj (ho.symm.trans hoi')
      subst this
      have hdn : e.d < N := by
        obtain ⟨d, hd1, hd2⟩ := ownDst_get hown i o (by rw [List.getElem?_take_of_lt hin]; exact ho)
        rw [hod] at hd1; cases hd1; exact hd2
      have hcutd : ∀ v, lk (Go.Proofs.YtnjomdjkbbhdoaaGreatDoor.cut (l.take n) L) e.d = some v → False := fun v hv => by
        have h1 := (lk_cut hv).1
        rw [anyDst_of (List.mem_of_getElem? (l := l.take n) (i := i) (by rw [List.getElem?_take_of_lt hin]; exact ho)) hod] at h1
        cases h1
      have hso := hstep a w hf hs (fun e' he' hed => by
        obtain ⟨x, hx, hxj, hxb⟩ := edge_mem hed
        have h1 := hdeps x (by simpa using hx) hxb
        rw [hxj] at h1
        have h2 : e'.j < n := (hK' e' he').1
        refine hk e' he' ?_
        have hlt2 : e'.j < listed.size := by omega
        simp [hlt2] at h1 ⊢
        exact h1)
      have next : ∀ v w', Below w.heap.size w w' → e.p.holds w' v → wpAny P .any l.toArray Q (g + (l.length - n)) (listed.setIfInBounds i true) (a.put o.dst v) w' := by
        intro v w' hb hv
        rw [hod]
        refine ih _ _ _ (inv.set hi hin) (by have := cnt_set huni1 n hin; omega) ?_ (hSta.keep w w' hs hb) ?_
        · have hp := hf.put v (d := e.d) (by simp [Nat.blt]; omega)
          exact ⟨hp.df, hp.sz, fun k u hu => hp.get k u (by
            rw [lk_cons]
            split
            · rename_i hk2; subst hk2; exact (hcutd u hu).elim
            · exact hu)⟩
        · intro x hx hxl
          by_cases hxi : x.j = i
          · have : x = e := huni x hx e heK (Nat.zero_le _) (by omega)
            subst this
            exact ⟨v, by simp [Act.put, hf.sz, hdn], hv⟩
          · rw [getD_set_ne true (fun h => hxi h.symm)] at hxl
            obtain ⟨u, hu, hxu⟩ := hk x hx hxl
            obtain ⟨hxn, ox, hox, hxd, hxp, _⟩ := hK' x hx
            have hne : e.d ≠ x.d := fun hee => by
              have := ownDst_ne hown i x.j o ox e.d (by rw [List.getElem?_take_of_lt hin]; exact ho) (by rw [List.getElem?_take_of_lt hxn]; exact hox) hod (by rw [hee]; exact hxd)
              omega
            refine ⟨u, ?_, VP.pers_keep hxp hxu hb⟩
            simp only [Act.put]
            rw [Array.getElem?_setIfInBounds_ne hne]
            exact hu
      unfold wpOp
      simp only [hoi]
      unfold stepOK at hso
      split
      · rename_i hw
        rw [if_pos hw] at hso
        exact .inl (wp_false hso (fun a' w' ⟨v, ha, hb, hv⟩ => by rw [ha]; exact next v w' hb hv))
      · rename_i hw
        rw [if_neg hw] at hso
        exact next undef w (Below.refl _ _) hso
  intro a w hf hs
  refine wp_region_any hm.ok ?_
  have hrep : ∀ j, (Array.replicate l.toArray.size false).getD j false = false := fun j => getD_replicate_false _ _
  have := key n (Array.replicate l.toArray.size false) a w.drew
    ⟨by simp, fun j oj hj hl => (by rw [hrep] at hl; cases hl), fun t ht ht' => by simp at ht'; simp [ht']⟩
    (by rw [hsz]; exact cnt_fresh _ _ hn') (fr_cut hf (lk_cut_sub L)) (hSta.keep _ _ hs (Below.drewB w)) (fun e he hl => by
      have h1 := (hK' e he).1
      simp [show e.j < l.length by omega] at hl)
  rw [show n + (l.length - n) = l.toArray.size by rw [hsz]; omega] at this
  exact this
theorem NewRk.qr {w0 w : World} {M : Nat → Prop} {σ : Hp} {H G : List (Nat × Obj)} {e : Nat} {d : List UInt8} {v : Value} (hs : St w0 M σ H G w) (h : NewRk w0 σ (H ++ G) e 1 d.length (d.map byteV) w v) (hlen : d.length ≤ maxData) :
    QR (RepBy d) σ w0 (H ++ G) w v := by
  obtain ⟨Gs, hO, ho, hx⟩ := h
  rcases hO.2 with ⟨rfl, hn, rfl⟩ | ⟨g, c, cur, rfl, rfl, h2, h3, h4, h5⟩
  · have hd : d = [] := List.eq_nil_of_length_eq_zero hn
    subst hd
    exact ⟨σ, Le.refl _, Fresh.refl _ _, hs.im, BytesV.nil _, fun p hp => hs.fresh hp⟩
  · obtain ⟨k1, k2, k3⟩ := hx (g, .cells cur e (0, 0)) (by simp)
    have k0 := ho (g, .cells cur e (0, 0)) (by simp)
    refine ⟨ext σ g (.cells cur e (0, 0)), le_ext k2, fun b o hb => ?_, fun b o hb => ?_, ⟨_, c, rfl, h2, hlen, .inr ⟨g, 0, rfl, cur, e, (0, 0), ext_self _ _ _, fun j u hj => ?_⟩⟩, fun p hp => ?_⟩
    · unfold ext at hb
      split at hb
      · rename_i hbg; subst hbg; exact .inr k1
      · exact .inl hb
    · unfold ext at hb
      split at hb
      · rename_i hbg; subst hbg; cases hb; exact k0
      · exact hs.im b o hb
    · rw [← h5, List.getElem?_take] at hj
      split at hj
      · simpa using hj
      · cases hj
    · unfold ext
      rw [if_neg (k3 p hp)]
      exact hs.fresh hp
section
variable {P : Program} {l0 : List Oper} {Q : Exit → Act → World → Prop} {r l : List Oper} {fin : List KE → Prop} {N i : Nat} {L0 L : TL} {K : List KE} {d : Nat} {ty : TypeId} {pos : String} {af : Array Edge} {g : Option (Nat × Bool)} {op : Op} {w0 : World} {M : Nat → Prop} {σ : Hp} {H G : List (Nat × Obj)}
theorem flow_app0B (u : Nat) {t e bytes c : Nat} [AppT P t e 1 bytes] {x y : Operand} {X : List (Nat × Obj)} {p : Option Addr} {dt : List UInt8} (hX : X = H ++ G) (hq : satK af.toList K u = some (NewS0 w0 σ X e)) (hx : ∀ v, ev ((u, v) :: tlK af.toList L0 K) x = some v) (hy : ∀ v, ev ((u, v) :: tlK af.toList L0 K) y = some (.slice p dt.length c))
    (hg : ∀ v, gd l0 ((u, v) :: tlK af.toList L0 K) g = some true) (hsrc : dt = [] ∨ ∃ b o, p = some ⟨b, o, none⟩ ∧ ∀ w, St w0 M σ H G w → w.rangeAt b o (dt.map byteV)) (hlen : dt.length ≤ maxData) (hb : dt.length * bytes ≤ 140737488355328)
    (k : Flow P l0 L0 (St w0 M σ H G) N fin r (i + 1) (⟨i, d, .sat (QR (RepBy dt) σ w0 (H ++ G))⟩ :: K)) :
    Flow P l0 L0 (St w0 M σ H G) N fin (⟨some d, .call { callee := .builtin .append, args := #[x, y], argTypes := #[t, t] }, ty, pos, af, g⟩ :: r) i K :=
  flow_sat QR.pers (obk_sat u hq fun v => ob_w (hg v) fun a w hf hs dd tt pp aa gg => by
    obtain ⟨hs, b0, rfl, h2, h3, h4, h5⟩ := hs
    have hl : (dt.map byteV).length = dt.length * 1 := by simp
    obtain ⟨v', w', h6, h7, h8⟩ := run_app0 (P := P) (t := t) (b0 := b0) (p := p) (ty := tt) (c := c) hl (hsrc.imp (fun h => by subst h; rfl) fun ⟨b, o, e1, h⟩ => ⟨b, o, e1, h w hs⟩) (by unfold maxData at hlen; unfold maxLen; omega) hb
    refine ⟨v', w', by simp [execOp, resolve, invoke, builtin, hf.eval (hx _), hf.eval (hy _), h6], h7, ?_⟩
    have hs' : St w0 M σ H G w' := St.keep hs h7
    refine NewRk.qr (e := e) hs' ?_ hlen
    rcases h8 with ⟨hn, rfl, rfl⟩ | ⟨cap, cur, rfl, k1, k2, k3, k4, k5⟩
    · have hn : dt = [] := List.eq_nil_of_length_eq_zero hn
      subst hn
      refine ⟨[(b0, .cells #[] e (0, 0))], ⟨by simp, .inr ⟨b0, 0, #[], rfl, rfl, Nat.le_refl _, Nat.zero_le _, by simp, by simp⟩⟩, fun q hq => ?_, fun q hq => ?_⟩
      · simp only [List.mem_singleton] at hq; subst hq; exact h2
      · simp only [List.mem_singleton] at hq; subst hq; exact ⟨h3, h4, by rw [← hX]; exact h5⟩
    · refine ⟨[(w.heap.size, .cells cur e (0, 0))], ⟨hl, .inr ⟨w.heap.size, cap, cur, rfl, rfl, k2, k3, k4, k5⟩⟩, fun q hq => ?_, fun q hq => ?_⟩
      · simp only [List.mem_singleton] at hq; subst hq; exact k1
      · simp only [List.mem_singleton] at hq; subst hq
        refine ⟨hs.ag.size, ?_, fun z hz => Nat.ne_of_lt (hs.lt hz)⟩
        cases e9 : σ w.heap.size with
        | none => rfl
        | some o => exact absurd (hs.im.lt e9) (Nat.lt_irrefl _)) k
end
section
variable {P : Program} {l : List Oper} {Q : Exit → Act → World → Prop} {k : Nat} {listed : Array Bool} {N : Nat} {L : TL} {i d : Nat} {ty : TypeId} {pos : String} {af : Array Edge} {op : Op} {w0 : World} {M : Nat → Prop} {σ : Hp} {H K : List (Nat × Obj)} {R : Hp → Value → List (Nat × Obj) → Prop}
theorem next_ckE (ho : l[i]? = some ⟨some d, op, ty, pos, af, none⟩) (hN : Nat.blt d N = true) (h : ExC P op N L (St w0 M σ H K) (TK R σ K))
    (c : ∀ u σ' K', Le σ σ' → Fresh σ σ' w0 → R σ' u K' → AnyW P l Q k (listed.setIfInBounds i true) N ((d, u) :: L) (St w0 M σ' H K')) : NextW P l Q k listed N L (St w0 M σ H K) i :=
  next_c ho hN h fun u a w' hf ⟨w, hs, σ', K', h1, h2, h3, h4⟩ => c u σ' K' h1 (h2.mono hs.ag.size) h3 a w' hf (by
    have h5 := St.mutK (G := []) (by simpa using hs) h2 h1 h4
    simpa using h5)
end
theorem ext_le2 {σ τ : Hp} (h : Le σ τ) (b : Nat) (o : Obj) : Le (ext σ b o) (ext τ b o) := fun k u e => by
  unfold ext at e ⊢
  split at e
  · rename_i hk; rw [if_pos hk]; exact e
  · rename_i hk; rw [if_neg hk]; exact h _ _ e
section
variable {P : Program} {l0 : List Oper} {Q : Exit → Act → World → Prop} {l : List Oper} {N : Nat} {L : TL} {w0 : World} {M : Nat → Prop} {σ : Hp} {H Gs K : List (Nat × Obj)} {e n : Nat} {v : Value} {xs : List Value} {d : List UInt8}
theorem ow_frzBK (hO : OwnSl e 1 v n xs Gs) (hx : xs = d.map byteV) (hlen : d.length ≤ maxData)
    (k : ∀ σ', Le σ σ' → Fresh σ σ' w0 → BytesV σ' v d → OW P l0 Q l N L (St w0 (keysOf K) σ' H K)) : OW P l0 Q l N L (St w0 (keysOf K) σ H (Gs ++ K)) := fun a w hf hs => by
  subst hx
  have hn : n = d.length := by have h1 := hO.1; simp at h1; omega
  subst hn
  rcases hO.2 with ⟨rfl, h0, rfl⟩ | ⟨g, cc, cur, rfl, rfl, h2, h3, h4, h5⟩
  · have : d = [] := List.eq_nil_of_length_eq_zero h0
    subst this
    exact k σ (Le.refl _) (Fresh.refl _ _) (BytesV.nil σ) a w hf hs
  · have hs1 : St w0 (keysOf K) σ ((g, .cells cur e (0, 0)) :: H) K w := hs.ofG
    obtain ⟨σ', q1, q2, q3, q4⟩ := hs1.frz1 hs1.apart
    refine k σ' q1 q2 ⟨_, cc, rfl, h2, hlen, .inr ⟨g, 0, rfl, ⟨cur, e, (0, 0), q3, fun j u hj => ?_⟩⟩⟩ a w hf q4
    rw [← h5, List.getElem?_take] at hj
    split at hj
    · simpa using hj
    · cases hj
theorem ow_frzBS {τ : Hp} (hle : Le τ σ) (hM : ∀ b, M b → False) (hO : OwnSl e 1 v n xs Gs) (hx : xs = d.map byteV) (hlen : d.length ≤ maxData)
    (k : ∀ τ' σ', Le τ τ' → Fresh τ τ' w0 → Le τ' σ' → BytesV τ' v d → OW P l0 Q l N L (St w0 M σ' H [])) : OW P l0 Q l N L (St w0 M σ H Gs) := fun a w hf hs => by
  subst hx
  have hn : n = d.length := by have h1 := hO.1; simp at h1; omega
  subst hn
  rcases hO.2 with ⟨rfl, h0, rfl⟩ | ⟨g, c, cur, rfl, rfl, h2, h3, h4, h5⟩
  · have : d = [] := List.eq_nil_of_length_eq_zero h0
    subst this
    exact k τ σ (Le.refl _) (Fresh.refl _ _) hle (BytesV.nil _) a w hf hs
  · have hs1 : St w0 M σ ((g, .cells cur e (0, 0)) :: H) [] w := hs.ofG
    have hg : σ g = none := hs.fresh (p := (g, .cells cur e (0, 0))) (by simp)
    have hgt : τ g = none := by
      cases h : τ g with
      | none => rfl
      | some o => rw [hle _ _ h] at hg; cases hg
    refine k (ext τ g (.cells cur e (0, 0))) (ext σ g (.cells cur e (0, 0))) (le_ext hgt) (fun b o hb => ?_) (ext_le2 hle _ _) ⟨_, c, rfl, h2, hlen, .inr ⟨g, 0, rfl, ⟨cur, e, (0, 0), ext_self _ _ _, fun j u hj => ?_⟩⟩⟩ a w hf hs1.freeze
    · unfold ext at hb
      split at hb
      · rename_i hbg; subst hbg; exact .inr ((St0.mo hs (b, .cells cur e (0, 0)) (by simp)).resolve_left (hM _))
      · exact .inl hb
    · rw [← h5, List.getElem?_take] at hj
      split at hj
      · simpa using hj
      · cases hj
end
end Go.Proofs.YtnjomdjkbbhdoaaGreatDoor
namespace Go.Proofs.YtnjomdjkbbhdoaaGreatDoor
open Go.RowKit
set_option linter.unusedVariables false
set_option linter.unusedSimpArgs false
set_option maxRecDepth 100000
set_option maxHeartbeats 400000 in
theorem rOf {op key : Int} {d : List UInt8} {dv : Value} {b : Nat} {ts : List T} {σ : Hp} {K : List (Nat × Obj)} {w : World} (hi : Has σ K w) (hvk : RefK 63 32 b ts σ K) (hd : BytesV σ dv d) (hop : -9223372036854775808 ≤ op ∧ op ≤ 9223372036854775807) : Calls Tryz.prog 61 #[.pointer (some ⟨b, 0, none⟩), .int .i64 op, .int .i64 key, dv] w (GiveK (fun σ' u K' => u = .tuple #[.int .i64 (madeV ts (ofT op d) [key]).1, .int .i64 (madeV ts (ofT op d) [key]).2.1] ∧ RefK 63 32 b (madeV ts (ofT op d) [key]).2.2 σ' K') σ K w) := by
  obtain ⟨pd, cd, rfl, hcd, hmd, hsd⟩ := hd.row
  have hmd2 := hmd
  unfold maxData at hmd2
  refine enter (St w (keysOf K) σ [] K) Tryz.func61 rfl Tryz.ntmps61 rfl (Has.start hi) ?_
  refine cw_seq ?_
  refine cw_region ?_
  refine ow_val rfl rfl (ex_assign rfl) ?_
  refine ow_val rfl rfl (ex_assign rfl) ?_
  refine ow_nil ?_
  refine qw_seq ?_
  refine cw_seq ?_
  refine cw_region ?_
  refine ow_val rfl rfl (ex_move rfl) ?_
  refine ow_val rfl rfl (ex_move rfl) ?_
  refine ow_cr rfl rfl (ex_callf rfl (fun w h => callR (rTerm h.hasE (hvk.le (Le.refl _))))) (fun v15 τ15 hl15 hf15 hr15 => ?_)
  obtain ⟨c15, rfl, ht15⟩ := hr15
  have ht15' := ht15
  obtain ⟨d15, k15, rfl, _, _, _, _⟩ := ht15'.opn
  refine ow_val rfl rfl (ex_move rfl) ?_
  refine ow_val rfl rfl (ex_extract rfl rfl) ?_
  refine ow_val rfl rfl (ex_extract rfl rfl) ?_
  refine ow_blk rfl rfl exw_alloc ?_; intro b10
  refine ow_u rfl (exu_storeN 0 rfl rfl rfl rfl ht15.one rfl) ?_
  refine ow_val rfl rfl (ex_assign rfl) ?_
  refine ow_nil ?_
  refine qw_seq ?_
  refine cw_seq ?_
  refine cw_seq ?_
  refine cw_region ?_
  refine ow_val rfl rfl (ex_move rfl) ?_
  refine ow_val rfl rfl (ex_not rfl) ?_
  refine ow_nil ?_
  refine qw_seq ?_
  refine cw_cond rfl (fun c19 => ?_) (fun c19 => ?_)
  ·
    have hbad : ¬ (termV ts key).2 = true := by simpa using c19
    refine cw_seq ?_
    refine cw_region ?_
    refine ow_val rfl rfl (ex_assign rfl) ?_
    refine ow_val rfl rfl (ex_assign rfl) ?_
    refine ow_nil ?_
    refine qw_seq ?_
    refine cw_ret ?_
    refine qw_then_ret ?_
    refine qw_ret2 rfl rfl rfl (fun w' h => ?_)
    rw [made0 hbad]
    exact (h.drop (List.nil_sublist _)).givesK hl15 hf15 ⟨rfl, hvk.le hl15⟩
  ·
    have hgood : (termV ts key).2 = true := by simpa using c19
    refine cw_skip ?_
    refine qw_seq ?_
    refine cw_seq ?_
    refine flow_soundG 7 0 (by kernel_rfl) ?_
    refine flow_val rfl (ex_move rfl) ?_
    refine flow_val rfl (ex_move rfl) ?_
    refine flow_slit0 rfl ?_
    refine flow_val rfl (ex_move rfl) ?_
    refine flow_app0B 22 rfl rfl (fun v => rfl) (fun v => rfl) (fun v => rfl) (hsd.imp (fun h => List.eq_nil_of_length_eq_zero h) fun ⟨bb, oo, e1, hcb⟩ => ⟨bb, oo, e1, fun w h => (hcb.le hl15).range h.im⟩) hmd (by omega) ?_
    refine flow_val rfl (ex_loadR (cs := [.int .i64 (termV ts key).1.op, .int .i64 (termV ts key).1.num, d15, k15]) rfl (ld_ownN (k := 4) 0 rfl rfl)) ?_
    refine flow_sat QR.pers (obk (ob_one rfl rfl ht15)) ?_
    refine flow_nilF (j := 0) ?_ ?_
    ·
      refine fint_satR (Le.refl _) (fun v26 τ6 hl6 hf6 hr6 => ?_)
      obtain ⟨b26, co, rfl, hco, hto⟩ := hr6
      refine fint_is ?_
      refine fint_satR hl6 (fun v24 τ4 hl4 hf4 hr4 => ?_)
      have hr4 : BytesV τ4 v24 d := hr4
      have hr4' := hr4
      obtain ⟨p24, c24, rfl, _, _⟩ := hr4'.slice
      have hlz := (hl15.trans hl6).trans hl4
      have htm : TermC τ4 [.int .i64 op, .int .i64 0, .slice p24 d.length c24, .slice (some ⟨b26, 0, none⟩) 1 1] (.mk op 0 d [(termV ts key).1]) := TermC.mk hop (by omega) hr4 (KidsV.one (hco.le hl4) (hto.le hl4))
      refine fint_is ?_
      refine fint_drop ?_
      refine fint_is ?_
      refine fint_is ?_
      refine fint_nil ?_
      refine any_one (i := 7) (by kernel_rfl) ?_
      refine next_val rfl rfl (ex_build (parts := [(0, _), (2, _), (3, _)]) (cells := [.int .i64 op, .int .i64 0, .slice p24 d.length c24, .slice (some ⟨b26, 0, none⟩) 1 1].toArray) rfl (by kernel_rfl)) ?_
      refine any_one (i := 8) (by kernel_rfl) ?_
      refine next_ckE rfl rfl (ex_callf rfl (fun w h => rIntern _ (h.drop (List.nil_sublist _)).hasE (hvk.le hlz) htm)) (fun v28 τ28 K28 hl28 hf28 hr28 => ?_)
      obtain ⟨rfl, hv28⟩ := hr28
      refine any_two (i := 9) (j := 10) (by kernel_rfl) ?_ ?_
      ·
        refine next_val rfl rfl (ex_extract rfl rfl) ?_
        refine any_one (i := 10) (by kernel_rfl) ?_
        refine next_val rfl rfl (ex_extract rfl rfl) ?_
        refine any_one (i := 11) (by kernel_rfl) ?_
        refine next_val rfl rfl (ex_assign rfl) ?_
        refine any_one (i := 12) (by kernel_rfl) ?_
        refine next_val rfl rfl (ex_assign rfl) ?_
        refine any_done (by kernel_rfl) ?_
        refine qw_seq ?_
        refine cw_ret ?_
        refine qw_ret2 rfl rfl rfl (fun w' h => ?_)
        rw [made1 hgood]
        exact (h.drop (List.nil_sublist _)).givesK (hlz.trans hl28) (((hf15.trans hf6).trans hf4).trans hf28) ⟨rfl, hv28⟩
      ·
        refine next_val rfl rfl (ex_extract rfl rfl) ?_
        refine any_one (i := 9) (by kernel_rfl) ?_
        refine next_val rfl rfl (ex_extract rfl rfl) ?_
        refine any_one (i := 11) (by kernel_rfl) ?_
        refine next_val rfl rfl (ex_assign rfl) ?_
        refine any_one (i := 12) (by kernel_rfl) ?_
        refine next_val rfl rfl (ex_assign rfl) ?_
        refine any_done (by kernel_rfl) ?_
        refine qw_seq ?_
        refine cw_ret ?_
        refine qw_ret2 rfl rfl rfl (fun w' h => ?_)
        rw [made1 hgood]
        exact (h.drop (List.nil_sublist _)).givesK (hlz.trans hl28) (((hf15.trans hf6).trans hf4).trans hf28) ⟨rfl, hv28⟩
    ·
      refine fint_satR (Le.refl _) (fun v26 τ6 hl6 hf6 hr6 => ?_)
      obtain ⟨b26, co, rfl, hco, hto⟩ := hr6
      refine fint_is ?_
      refine fint_satR hl6 (fun v24 τ4 hl4 hf4 hr4 => ?_)
      have hr4 : BytesV τ4 v24 d := hr4
      have hr4' := hr4
      obtain ⟨p24, c24, rfl, _, _⟩ := hr4'.slice
      have hlz := (hl15.trans hl6).trans hl4
      have htm : TermC τ4 [.int .i64 op, .int .i64 0, .slice p24 d.length c24, .slice (some ⟨b26, 0, none⟩) 1 1] (.mk op 0 d [(termV ts key).1]) := TermC.mk hop (by omega) hr4 (KidsV.one (hco.le hl4) (hto.le hl4))
      refine fint_is ?_
      refine fint_drop ?_
      refine fint_is ?_
      refine fint_nil ?_
      refine any_two (i := 0) (j := 7) (by kernel_rfl) ?_ ?_
      ·
        refine next_val rfl rfl (ex_move rfl) ?_
        refine any_one (i := 7) (by kernel_rfl) ?_
        refine next_val rfl rfl (ex_build (parts := [(0, _), (2, _), (3, _)]) (cells := [.int .i64 op, .int .i64 0, .slice p24 d.length c24, .slice (some ⟨b26, 0, none⟩) 1 1].toArray) rfl (by kernel_rfl)) ?_
        refine any_one (i := 8) (by kernel_rfl) ?_
        refine next_ckE rfl rfl (ex_callf rfl (fun w h => rIntern _ (h.drop (List.nil_sublist _)).hasE (hvk.le hlz) htm)) (fun v28 τ28 K28 hl28 hf28 hr28 => ?_)
        obtain ⟨rfl, hv28⟩ := hr28
        refine any_two (i := 9) (j := 10) (by kernel_rfl) ?_ ?_
        ·
          refine next_val rfl rfl (ex_extract rfl rfl) ?_
          refine any_one (i := 10) (by kernel_rfl) ?_
          refine next_val rfl rfl (ex_extract rfl rfl) ?_
          refine any_one (i := 11) (by kernel_rfl) ?_
          refine next_val rfl rfl (ex_assign rfl) ?_
          refine any_one (i := 12) (by kernel_rfl) ?_
          refine next_val rfl rfl (ex_assign rfl) ?_
          refine any_done (by kernel_rfl) ?_
          refine qw_seq ?_
          refine cw_ret ?_
          refine qw_ret2 rfl rfl rfl (fun w' h => ?_)
          rw [made1 hgood]
          exact (h.drop (List.nil_sublist _)).givesK (hlz.trans hl28) (((hf15.trans hf6).trans hf4).trans hf28) ⟨rfl, hv28⟩
        ·
          refine next_val rfl rfl (ex_extract rfl rfl) ?_
          refine any_one (i := 9) (by kernel_rfl) ?_
          refine next_val rfl rfl (ex_extract rfl rfl) ?_
          refine any_one (i := 11) (by kernel_rfl) ?_
          refine next_val rfl rfl (ex_assign rfl) ?_
          refine any_one (i := 12) (by kernel_rfl) ?_
          refine next_val rfl rfl (ex_assign rfl) ?_
          refine any_done (by kernel_rfl) ?_
          refine qw_seq ?_
          refine cw_ret ?_
          refine qw_ret2 rfl rfl rfl (fun w' h => ?_)
          rw [made1 hgood]
          exact (h.drop (List.nil_sublist _)).givesK (hlz.trans hl28) (((hf15.trans hf6).trans hf4).trans hf28) ⟨rfl, hv28⟩
      ·
        refine next_val rfl rfl (ex_build (parts := [(0, _), (2, _), (3, _)]) (cells := [.int .i64 op, .int .i64 0, .slice p24 d.length c24, .slice (some ⟨b26, 0, none⟩) 1 1].toArray) rfl (by kernel_rfl)) ?_
        refine any_one (i := 0) (by kernel_rfl) ?_
        refine next_val rfl rfl (ex_move rfl) ?_
        refine any_one (i := 8) (by kernel_rfl) ?_
        refine next_ckE rfl rfl (ex_callf rfl (fun w h => rIntern _ (h.drop (List.nil_sublist _)).hasE (hvk.le hlz) htm)) (fun v28 τ28 K28 hl28 hf28 hr28 => ?_)
        obtain ⟨rfl, hv28⟩ := hr28
        refine any_two (i := 9) (j := 10) (by kernel_rfl) ?_ ?_
        ·
          refine next_val rfl rfl (ex_extract rfl rfl) ?_
          refine any_one (i := 10) (by kernel_rfl) ?_
          refine next_val rfl rfl (ex_extract rfl rfl) ?_
          refine any_one (i := 11) (by kernel_rfl) ?_
          refine next_val rfl rfl (ex_assign rfl) ?_
          refine any_one (i := 12) (by kernel_rfl) ?_
          refine next_val rfl rfl (ex_assign rfl) ?_
          refine any_done (by kernel_rfl) ?_
          refine qw_seq ?_
          refine cw_ret ?_
          refine qw_ret2 rfl rfl rfl (fun w' h => ?_)
          rw [made1 hgood]
          exact (h.drop (List.nil_sublist _)).givesK (hlz.trans hl28) (((hf15.trans hf6).trans hf4).trans hf28) ⟨rfl, hv28⟩
        ·
          refine next_val rfl rfl (ex_extract rfl rfl) ?_
          refine any_one (i := 9) (by kernel_rfl) ?_
          refine next_val rfl rfl (ex_extract rfl rfl) ?_
          refine any_one (i := 11) (by kernel_rfl) ?_
          refine next_val rfl rfl (ex_assign rfl) ?_
          refine any_one (i := 12) (by kernel_rfl) ?_
          refine next_val rfl rfl (ex_assign rfl) ?_
          refine any_done (by kernel_rfl) ?_
          refine qw_seq ?_
          refine cw_ret ?_
          refine qw_ret2 rfl rfl rfl (fun w' h => ?_)
          rw [made1 hgood]
          exact (h.drop (List.nil_sublist _)).givesK (hlz.trans hl28) (((hf15.trans hf6).trans hf4).trans hf28) ⟨rfl, hv28⟩
set_option maxHeartbeats 400000 in
theorem rSign {key : Int} {d : List UInt8} {dv : Value} {b : Nat} {ts : List T} {σ : Hp} {K : List (Nat × Obj)} {w : World} (hi : Has σ K w) (hvk : RefK 63 32 b ts σ K) (hd : BytesV σ dv d) : Calls Tryz.prog 27 #[.pointer (some ⟨b, 0, none⟩), .int .i64 key, dv] w (GiveK (fun σ' u K' => u = .tuple #[.int .i64 (madeV ts (ofT 3 d) [key]).1, .int .i64 (madeV ts (ofT 3 d) [key]).2.1] ∧ RefK 63 32 b (madeV ts (ofT 3 d) [key]).2.2 σ' K') σ K w) := by
  refine enter (St w (keysOf K) σ [] K) Tryz.func27 rfl Tryz.ntmps27 rfl (Has.start hi) ?_
  refine cw_seq ?_
  refine cw_region ?_
  refine ow_val rfl rfl (ex_assign rfl) ?_
  refine ow_val rfl rfl (ex_assign rfl) ?_
  refine ow_nil ?_
  refine qw_seq ?_
  refine cw_seq ?_
  refine cw_region ?_
  refine ow_val rfl rfl (ex_move rfl) ?_
  refine ow_val rfl rfl (ex_move rfl) ?_
  refine ow_val rfl rfl (ex_move rfl) ?_
  refine ow_ckE rfl rfl (ex_callf rfl (fun w h => rOf (op := 3) h.hasE hvk hd (by decide))) (fun vm τ3 K3 hl3 hf3 hr3 => ?_)
  obtain ⟨rfl, hvr⟩ := hr3
  refine ow_val rfl rfl (ex_extract rfl rfl) ?_
  refine ow_val rfl rfl (ex_extract rfl rfl) ?_
  refine ow_val rfl rfl (ex_assign rfl) ?_
  refine ow_val rfl rfl (ex_assign rfl) ?_
  refine ow_nil ?_
  refine qw_seq ?_
  refine cw_ret ?_
  refine qw_ret2 rfl rfl rfl (fun w' h => (h.drop (List.nil_sublist _)).givesK hl3 hf3 ⟨rfl, hvr⟩)
set_option maxHeartbeats 400000 in
theorem rSeal {key : Int} {d : List UInt8} {dv : Value} {b : Nat} {ts : List T} {σ : Hp} {K : List (Nat × Obj)} {w : World} (hi : Has σ K w) (hvk : RefK 63 32 b ts σ K) (hd : BytesV σ dv d) : Calls Tryz.prog 28 #[.pointer (some ⟨b, 0, none⟩), .int .i64 key, dv] w (GiveK (fun σ' u K' => u = .tuple #[.int .i64 (madeV ts (ofT 4 d) [key]).1, .int .i64 (madeV ts (ofT 4 d) [key]).2.1] ∧ RefK 63 32 b (madeV ts (ofT 4 d) [key]).2.2 σ' K') σ K w) := by
  refine enter (St w (keysOf K) σ [] K) Tryz.func28 rfl Tryz.ntmps28 rfl (Has.start hi) ?_
  refine cw_seq ?_
  refine cw_region ?_
  refine ow_val rfl rfl (ex_assign rfl) ?_
  refine ow_val rfl rfl (ex_assign rfl) ?_
  refine ow_nil ?_
  refine qw_seq ?_
  refine cw_seq ?_
  refine cw_region ?_
  refine ow_val rfl rfl (ex_move rfl) ?_
  refine ow_val rfl rfl (ex_move rfl) ?_
  refine ow_val rfl rfl (ex_move rfl) ?_
  refine ow_ckE rfl rfl (ex_callf rfl (fun w h => rOf (op := 4) h.hasE hvk hd (by decide))) (fun vm τ3 K3 hl3 hf3 hr3 => ?_)
  obtain ⟨rfl, hvr⟩ := hr3
  refine ow_val rfl rfl (ex_extract rfl rfl) ?_
  refine ow_val rfl rfl (ex_extract rfl rfl) ?_
  refine ow_val rfl rfl (ex_assign rfl) ?_
  refine ow_val rfl rfl (ex_assign rfl) ?_
  refine ow_nil ?_
  refine qw_seq ?_
  refine cw_ret ?_
  refine qw_ret2 rfl rfl rfl (fun w' h => (h.drop (List.nil_sublist _)).givesK hl3 hf3 ⟨rfl, hvr⟩)
set_option maxHeartbeats 400000 in
theorem rKdf {key : Int} {d : List UInt8} {dv : Value} {b : Nat} {ts : List T} {σ : Hp} {K : List (Nat × Obj)} {w : World} (hi : Has σ K w) (hvk : RefK 63 32 b ts σ K) (hd : BytesV σ dv d) : Calls Tryz.prog 30 #[.pointer (some ⟨b, 0, none⟩), .int .i64 key, dv] w (GiveK (fun σ' u K' => u = .tuple #[.int .i64 (madeV ts (ofT 6 d) [key]).1, .int .i64 (madeV ts (ofT 6 d) [key]).2.1] ∧ RefK 63 32 b (madeV ts (ofT 6 d) [key]).2.2 σ' K') σ K w) := by
  refine enter (St w (keysOf K) σ [] K) Tryz.func30 rfl Tryz.ntmps30 rfl (Has.start hi) ?_
  refine cw_seq ?_
  refine cw_region ?_
  refine ow_val rfl rfl (ex_assign rfl) ?_
  refine ow_val rfl rfl (ex_assign rfl) ?_
  refine ow_nil ?_
  refine qw_seq ?_
  refine cw_seq ?_
  refine cw_region ?_
  refine ow_val rfl rfl (ex_move rfl) ?_
  refine ow_val rfl rfl (ex_move rfl) ?_
  refine ow_val rfl rfl (ex_move rfl) ?_
  refine ow_ckE rfl rfl (ex_callf rfl (fun w h => rOf (op := 6) h.hasE hvk hd (by decide))) (fun vm τ3 K3 hl3 hf3 hr3 => ?_)
  obtain ⟨rfl, hvr⟩ := hr3
  refine ow_val rfl rfl (ex_extract rfl rfl) ?_
  refine ow_val rfl rfl (ex_extract rfl rfl) ?_
  refine ow_val rfl rfl (ex_assign rfl) ?_
  refine ow_val rfl rfl (ex_assign rfl) ?_
  refine ow_nil ?_
  refine qw_seq ?_
  refine cw_ret ?_
  refine qw_ret2 rfl rfl rfl (fun w' h => (h.drop (List.nil_sublist _)).givesK hl3 hf3 ⟨rfl, hvr⟩)
set_option maxHeartbeats 400000 in
theorem rExp {key : Int}  {b : Nat} {ts : List T} {σ : Hp} {K : List (Nat × Obj)} {w : World} (hi : Has σ K w) (hvk : RefK 63 32 b ts σ K) : Calls Tryz.prog 22 #[.pointer (some ⟨b, 0, none⟩), .int .i64 key] w (GiveK (fun σ' u K' => u = .tuple #[.int .i64 (madeV ts (ofT 7 []) [key]).1, .int .i64 (madeV ts (ofT 7 []) [key]).2.1] ∧ RefK 63 32 b (madeV ts (ofT 7 []) [key]).2.2 σ' K') σ K w) := by
  refine enter (St w (keysOf K) σ [] K) Tryz.func22 rfl Tryz.ntmps22 rfl (Has.start hi) ?_
  refine cw_seq ?_
  refine cw_region ?_
  refine ow_val rfl rfl (ex_assign rfl) ?_
  refine ow_val rfl rfl (ex_assign rfl) ?_
  refine ow_nil ?_
  refine qw_seq ?_
  refine cw_seq ?_
  refine cw_region ?_
  refine ow_val rfl rfl (ex_move rfl) ?_
  refine ow_val rfl rfl (ex_move rfl) ?_
  refine ow_ckE rfl rfl (ex_callf rfl (fun w h => rOf (op := 7) h.hasE hvk (BytesV.nil _) (by decide))) (fun vm τ3 K3 hl3 hf3 hr3 => ?_)
  obtain ⟨rfl, hvr⟩ := hr3
  refine ow_val rfl rfl (ex_extract rfl rfl) ?_
  refine ow_val rfl rfl (ex_extract rfl rfl) ?_
  refine ow_val rfl rfl (ex_assign rfl) ?_
  refine ow_val rfl rfl (ex_assign rfl) ?_
  refine ow_nil ?_
  refine qw_seq ?_
  refine cw_ret ?_
  refine qw_ret2 rfl rfl rfl (fun w' h => (h.drop (List.nil_sublist _)).givesK hl3 hf3 ⟨rfl, hvr⟩)
set_option maxHeartbeats 400000 in
theorem rPub {key : Int}  {b : Nat} {ts : List T} {σ : Hp} {K : List (Nat × Obj)} {w : World} (hi : Has σ K w) (hvk : RefK 63 32 b ts σ K) : Calls Tryz.prog 25 #[.pointer (some ⟨b, 0, none⟩), .int .i64 key] w (GiveK (fun σ' u K' => u = .tuple #[.int .i64 (madeV ts (ofT 2 []) [key]).1, .int .i64 (madeV ts (ofT 2 []) [key]).2.1] ∧ RefK 63 32 b (madeV ts (ofT 2 []) [key]).2.2 σ' K') σ K w) := by
  refine enter (St w (keysOf K) σ [] K) Tryz.func25 rfl Tryz.ntmps25 rfl (Has.start hi) ?_
  refine cw_seq ?_
  refine cw_region ?_
  refine ow_val rfl rfl (ex_assign rfl) ?_
  refine ow_val rfl rfl (ex_assign rfl) ?_
  refine ow_nil ?_
  refine qw_seq ?_
  refine cw_seq ?_
  refine cw_region ?_
  refine ow_val rfl rfl (ex_move rfl) ?_
  refine ow_val rfl rfl (ex_move rfl) ?_
  refine ow_ckE rfl rfl (ex_callf rfl (fun w h => rOf (op := 2) h.hasE hvk (BytesV.nil _) (by decide))) (fun vm τ3 K3 hl3 hf3 hr3 => ?_)
  obtain ⟨rfl, hvr⟩ := hr3
  refine ow_val rfl rfl (ex_extract rfl rfl) ?_
  refine ow_val rfl rfl (ex_extract rfl rfl) ?_
  refine ow_val rfl rfl (ex_assign rfl) ?_
  refine ow_val rfl rfl (ex_assign rfl) ?_
  refine ow_nil ?_
  refine qw_seq ?_
  refine cw_ret ?_
  refine qw_ret2 rfl rfl rfl (fun w' h => (h.drop (List.nil_sublist _)).givesK hl3 hf3 ⟨rfl, hvr⟩)
set_option maxHeartbeats 400000 in
theorem rAtom {n : Int} {b : Nat} {ts : List T} {σ : Hp} {K : List (Nat × Obj)} {w : World} (hi : Has σ K w) (hvk : RefK 63 32 b ts σ K) (hn : -9223372036854775808 ≤ n ∧ n ≤ 9223372036854775807) : Calls Tryz.prog 21 #[.pointer (some ⟨b, 0, none⟩), .int .i64 n] w (GiveK (fun σ' u K' => u = .tuple #[.int .i64 (madeV ts (fun _ => (T.mk 1 n [] [], true)) []).1, .int .i64 (madeV ts (fun _ => (T.mk 1 n [] [], true)) []).2.1] ∧ RefK 63 32 b (madeV ts (fun _ => (T.mk 1 n [] [], true)) []).2.2 σ' K') σ K w) := by
  have htm : TermC σ [.int .i64 1, .int .i64 n, .slice none 0 0, .slice none 0 0] (.mk 1 n [] []) := TermC.mk (by omega) hn (BytesV.nil _) (KidsV.nil _)
  refine enter (St w (keysOf K) σ [] K) Tryz.func21 rfl Tryz.ntmps21 rfl (Has.start hi) ?_
  refine cw_seq ?_
  refine cw_region ?_
  refine ow_val rfl rfl (ex_assign rfl) ?_
  refine ow_val rfl rfl (ex_assign rfl) ?_
  refine ow_nil ?_
  refine qw_seq ?_
  refine cw_seq ?_
  refine cw_region ?_
  refine ow_val rfl rfl (ex_move rfl) ?_
  refine ow_val rfl rfl (ex_move rfl) ?_
  refine ow_val rfl rfl (ex_build (parts := [(0, _), (1, _)]) (cells := ([.int .i64 1, .int .i64 n, .slice none 0 0, .slice none 0 0] : List Value).toArray) rfl (by kernel_rfl)) ?_
  refine ow_ckE rfl rfl (ex_callf rfl (fun w h => rIntern _ h.hasE hvk htm)) (fun vm τ3 K3 hl3 hf3 hr3 => ?_)
  obtain ⟨rfl, hvr⟩ := hr3
  refine ow_val rfl rfl (ex_extract rfl rfl) ?_
  refine ow_val rfl rfl (ex_extract rfl rfl) ?_
  refine ow_val rfl rfl (ex_assign rfl) ?_
  refine ow_val rfl rfl (ex_assign rfl) ?_
  refine ow_nil ?_
  refine qw_seq ?_
  refine cw_ret ?_
  refine qw_ret2 rfl rfl rfl (fun w' h => ?_)
  rw [madeV_some (l := []) rfl, if_pos rfl]
  exact (h.drop (List.nil_sublist _)).givesK hl3 hf3 ⟨rfl, hvr⟩
set_option maxHeartbeats 400000 in
theorem rHash {d : List UInt8} {dv : Value} {b : Nat} {ts : List T} {σ : Hp} {K : List (Nat × Obj)} {w : World} (hi : Has σ K w) (hvk : RefK 63 32 b ts σ K) (hd : BytesV σ dv d) : Calls Tryz.prog 32 #[.pointer (some ⟨b, 0, none⟩), dv] w (GiveK (fun σ' u K' => u = .tuple #[.int .i64 (madeV ts (ofT 5 d) []).1, .int .i64 (madeV ts (ofT 5 d) []).2.1] ∧ RefK 63 32 b (madeV ts (ofT 5 d) []).2.2 σ' K') σ K w) := by
  obtain ⟨pd, cd, rfl, hcd, hmd, hsd⟩ := hd.row
  have hmd2 := hmd
  unfold maxData at hmd2
  refine enter (St w (keysOf K) σ [] K) Tryz.func32 rfl Tryz.ntmps32 rfl (Has.start hi) ?_
  refine cw_seq ?_
  refine cw_region ?_
  refine ow_val rfl rfl (ex_assign rfl) ?_
  refine ow_val rfl rfl (ex_assign rfl) ?_
  refine ow_nil ?_
  refine qw_seq ?_
  refine cw_seq ?_
  refine cw_region ?_
  refine ow_val rfl rfl (ex_move rfl) ?_
  refine ow_slit rfl rfl exw_slit0 ?_; intro b7
  refine ow_mono (fun w h => h.toG) ?_
  refine ow_val rfl rfl (ex_move rfl) ?_
  refine ow_app rfl rfl (exw_append (news := d.map byteV) rfl rfl (OwnSl.lit0 5 1 b7) (by simp) (hsd.imp id fun ⟨bb, oo, e1, hcb⟩ => ⟨bb, oo, e1, fun w h => hcb.range h.im⟩) (bytes_one d) (by unfold maxLen; omega) (by omega)) (fun v9 G9 hO9 hz9 => ?_)
  refine ow_frzBK hO9 (by simp) hmd (fun τ9 hl9 hf9 hb9 => ?_)
  have hb9' := hb9
  obtain ⟨p9, c9, rfl, _, _⟩ := hb9'.slice
  have htm : TermC τ9 [.int .i64 5, .int .i64 0, .slice p9 d.length c9, .slice none 0 0] (.mk 5 0 d []) := TermC.mk (by omega) (by omega) hb9 (KidsV.nil _)
  refine ow_val rfl rfl (ex_build (parts := [(0, _), (2, _)]) (cells := ([.int .i64 5, .int .i64 0, .slice p9 d.length c9, .slice none 0 0] : List Value).toArray) rfl (by kernel_rfl)) ?_
  refine ow_ckE rfl rfl (ex_callf rfl (fun w h => rIntern _ h.hasE (hvk.le hl9) htm)) (fun vm τ3 K3 hl3 hf3 hr3 => ?_)
  obtain ⟨rfl, hvr⟩ := hr3
  refine ow_val rfl rfl (ex_extract rfl rfl) ?_
  refine ow_val rfl rfl (ex_extract rfl rfl) ?_
  refine ow_val rfl rfl (ex_assign rfl) ?_
  refine ow_val rfl rfl (ex_assign rfl) ?_
  refine ow_nil ?_
  refine qw_seq ?_
  refine cw_ret ?_
  refine qw_ret2 rfl rfl rfl (fun w' h => ?_)
  rw [madeH]
  exact (h.drop (List.nil_sublist _)).givesK (hl9.trans hl3) (hf9.trans hf3) ⟨rfl, hvr⟩
set_option maxHeartbeats 400000 in
theorem rPowK {x y : Int} {b : Nat} {ts : List T} {σ : Hp} {K : List (Nat × Obj)} {w : World} (hi : Has σ K w) (hvk : RefK 63 32 b ts σ K) : Calls Tryz.prog 23 #[.pointer (some ⟨b, 0, none⟩), .int .i64 x, .int .i64 y] w (GiveK (fun σ' u K' => u = .tuple #[.int .i64 (madeV ts (powG) [x, y]).1, .int .i64 (madeV ts (powG) [x, y]).2.1] ∧ RefK 63 32 b (madeV ts (powG) [x, y]).2.2 σ' K') σ K w) := by
  refine enter (St w (keysOf K) σ [] K) Tryz.func23 rfl Tryz.ntmps23 rfl (Has.start hi) ?_
  refine cw_seq ?_
  refine cw_region ?_
  refine ow_val rfl rfl (ex_assign rfl) ?_
  refine ow_val rfl rfl (ex_assign rfl) ?_
  refine ow_nil ?_
  refine qw_seq ?_
  refine cw_seq ?_
  refine cw_region ?_
  refine ow_val rfl rfl (ex_move rfl) ?_
  refine ow_val rfl rfl (ex_move rfl) ?_
  refine ow_cr rfl rfl (ex_callf rfl (fun w h => callR (rTerm h.hasE (hvk.le (Le.refl _))))) (fun v17 τ17 hl17 hf17 hr17 => ?_)
  obtain ⟨c17, rfl, ht17⟩ := hr17
  have ht17' := ht17
  obtain ⟨d17, k17, rfl, _, _, _, _⟩ := ht17'.opn
  refine ow_val rfl rfl (ex_move rfl) ?_
  refine ow_val rfl rfl (ex_extract rfl rfl) ?_
  refine ow_val rfl rfl (ex_extract rfl rfl) ?_
  refine ow_blk rfl rfl exw_alloc ?_; intro b8
  refine ow_u rfl (exu_storeN 0 rfl rfl rfl rfl ht17.one rfl) ?_
  refine ow_val rfl rfl (ex_assign rfl) ?_
  refine ow_nil ?_
  refine qw_seq ?_
  refine cw_seq ?_
  refine cw_region ?_
  refine ow_val rfl rfl (ex_move rfl) ?_
  refine ow_val rfl rfl (ex_move rfl) ?_
  refine ow_cr rfl rfl (ex_callf rfl (fun w h => callR (rTerm h.hasE (hvk.le hl17)))) (fun v23 τ23 hl23 hf23 hr23 => ?_)
  obtain ⟨c23, rfl, ht23⟩ := hr23
  have ht23' := ht23
  obtain ⟨d23, k23, rfl, _, _, _, _⟩ := ht23'.opn
  refine ow_val rfl rfl (ex_move rfl) ?_
  refine ow_val rfl rfl (ex_extract rfl rfl) ?_
  refine ow_val rfl rfl (ex_extract rfl rfl) ?_
  refine ow_blk rfl rfl exw_alloc ?_; intro b10
  refine ow_u rfl (exu_storeN 0 rfl rfl rfl rfl ht23.one rfl) ?_
  refine ow_val rfl rfl (ex_assign rfl) ?_
  refine ow_nil ?_
  refine qw_seq ?_
  refine cw_seq ?_
  refine cw_seq ?_
  refine cw_region ?_
  refine ow_val rfl rfl (ex_move rfl) ?_
  refine ow_val rfl rfl (ex_not rfl) ?_
  refine ow_val rfl rfl (ex_move rfl) ?_
  refine ow_split (g := some (2, false)) rfl (fun s28 => ?_) (fun s28 => ?_)
  ·
    have hbx : ¬ (termV ts x).2 = true := by simpa using s28
    refine ow_skip rfl (gd_no rfl s28) ?_
    refine ow_skip rfl (gd_no rfl s28) ?_
    refine ow_val rfl rfl (ex_pickt rfl s28 rfl) ?_
    refine ow_nil ?_
    refine qw_seq ?_
    refine cw_cond_t rfl ?_
    refine cw_seq ?_
    refine cw_region ?_
    refine ow_val rfl rfl (ex_assign rfl) ?_
    refine ow_val rfl rfl (ex_assign rfl) ?_
    refine ow_nil ?_
    refine qw_seq ?_
    refine cw_ret ?_
    refine qw_then_ret ?_
    refine qw_ret2 rfl rfl rfl (fun w' h => ?_)
    rw [madeV_none (show gatherT ts [x, y] = none by simp [gatherT, hbx])]
    exact (h.drop (List.nil_sublist _)).givesK (hl17.trans hl23) (hf17.trans hf23) ⟨rfl, hvk.le (hl17.trans hl23)⟩
  ·
    have hgx : (termV ts x).2 = true := by simpa using s28
    refine ow_val rfl (gd_go rfl s28) (ex_move rfl) ?_
    refine ow_val rfl (gd_go rfl s28) (ex_not rfl) ?_
    refine ow_val rfl rfl (ex_pickf rfl s28 rfl) ?_
    refine ow_nil ?_
    refine qw_seq ?_
    refine cw_cond rfl (fun c31 => ?_) (fun c31 => ?_)
    ·
      have hby : ¬ (termV ts y).2 = true := by simpa using c31
      refine cw_seq ?_
      refine cw_region ?_
      refine ow_val rfl rfl (ex_assign rfl) ?_
      refine ow_val rfl rfl (ex_assign rfl) ?_
      refine ow_nil ?_
      refine qw_seq ?_
      refine cw_ret ?_
      refine qw_then_ret ?_
      refine qw_ret2 rfl rfl rfl (fun w' h => ?_)
      rw [madeV_none (show gatherT ts [x, y] = none by simp [gatherT, hgx, hby])]
      exact (h.drop (List.nil_sublist _)).givesK (hl17.trans hl23) (hf17.trans hf23) ⟨rfl, hvk.le (hl17.trans hl23)⟩
    ·
      have hgy : (termV ts y).2 = true := by simpa using c31
      have hgl : gatherT ts [x, y] = some [(termV ts x).1, (termV ts y).1] := by simp [gatherT, hgx, hgy]
      refine cw_skip ?_
      refine qw_seq ?_
      refine cw_seq ?_
      refine cw_region ?_
      refine ow_val rfl rfl (ex_loadR rfl (by first | exact ld_ownN 0 rfl rfl | exact ld_ownN 1 rfl rfl | exact ld_ownN 2 rfl rfl | exact ld_ownN 3 rfl rfl | exact ld_ownN 4 rfl rfl | exact ld_ownN 5 rfl rfl | exact ld_ownN 6 rfl rfl | exact ld_ownN 7 rfl rfl | exact ld_ownGN 0 rfl rfl | exact ld_ownGN 1 rfl rfl | exact ld_immT (by assumption) (by assumption))) ?_
      refine ow_val rfl rfl (ex_loadR rfl (by first | exact ld_ownN 0 rfl rfl | exact ld_ownN 1 rfl rfl | exact ld_ownN 2 rfl rfl | exact ld_ownN 3 rfl rfl | exact ld_ownN 4 rfl rfl | exact ld_ownN 5 rfl rfl | exact ld_ownN 6 rfl rfl | exact ld_ownN 7 rfl rfl | exact ld_ownGN 0 rfl rfl | exact ld_ownGN 1 rfl rfl | exact ld_immT (by assumption) (by assumption))) ?_
      refine ow_cr rfl rfl (ex_callf rfl (fun w h => callR (rPow h.im (ht17.le hl23) ht23))) (fun v35 τ35 hl35 hf35 hr35 => ?_)
      obtain ⟨c35, rfl, ht35⟩ := hr35
      have ht35' := ht35
      obtain ⟨d35, k35, rfl, _, _, _, _⟩ := ht35'.opn
      refine ow_val rfl rfl (ex_move rfl) ?_
      refine ow_val rfl rfl (ex_extract rfl rfl) ?_
      refine ow_val rfl rfl (ex_extract rfl rfl) ?_
      refine ow_blk rfl rfl exw_alloc ?_; intro b12
      refine ow_u rfl (exu_storeN 0 rfl rfl rfl rfl ht35.one rfl) ?_
      refine ow_val rfl rfl (ex_assign rfl) ?_
      refine ow_nil ?_
      refine qw_seq ?_
      refine cw_seq ?_
      refine cw_seq ?_
      refine cw_region ?_
      refine ow_val rfl rfl (ex_move rfl) ?_
      refine ow_val rfl rfl (ex_not rfl) ?_
      refine ow_nil ?_
      refine qw_seq ?_
      refine cw_cond rfl (fun c39 => ?_) (fun c39 => ?_)
      ·
        refine cw_seq ?_
        refine cw_region ?_
        refine ow_val rfl rfl (ex_assign rfl) ?_
        refine ow_val rfl rfl (ex_assign rfl) ?_
        refine ow_nil ?_
        refine qw_seq ?_
        refine cw_ret ?_
        refine qw_then_ret ?_
        refine qw_ret2 rfl rfl rfl (fun w' h => ?_)
        have hng : ¬ (powG [(termV ts x).1, (termV ts y).1]).2 = true := by simpa [powG] using c39
        rw [madeV_some hgl, if_neg hng]
        exact (h.drop (List.nil_sublist _)).givesK ((hl17.trans hl23).trans hl35) ((hf17.trans hf23).trans hf35) ⟨rfl, hvk.le ((hl17.trans hl23).trans hl35)⟩
      ·
        refine cw_skip ?_
        refine qw_seq ?_
        refine cw_seq ?_
        refine cw_region ?_
        refine ow_val rfl rfl (ex_move rfl) ?_
        refine ow_val rfl rfl (ex_loadR rfl (by first | exact ld_ownN 0 rfl rfl | exact ld_ownN 1 rfl rfl | exact ld_ownN 2 rfl rfl | exact ld_ownN 3 rfl rfl | exact ld_ownN 4 rfl rfl | exact ld_ownN 5 rfl rfl | exact ld_ownN 6 rfl rfl | exact ld_ownN 7 rfl rfl | exact ld_ownGN 0 rfl rfl | exact ld_ownGN 1 rfl rfl | exact ld_immT (by assumption) (by assumption))) ?_
        refine ow_ckE rfl rfl (ex_callf rfl (fun w h => rIntern _ (h.drop (List.nil_sublist _)).hasE (hvk.le ((hl17.trans hl23).trans hl35)) ht35)) (fun v42 τ42 K42 hl42 hf42 hr42 => ?_)
        obtain ⟨rfl, hv42⟩ := hr42
        refine ow_val rfl rfl (ex_extract rfl rfl) ?_
        refine ow_val rfl rfl (ex_extract rfl rfl) ?_
        refine ow_val rfl rfl (ex_assign rfl) ?_
        refine ow_val rfl rfl (ex_assign rfl) ?_
        refine ow_nil ?_
        refine qw_seq ?_
        refine cw_ret ?_
        refine qw_ret2 rfl rfl rfl (fun w' h => ?_)
        have hyg : (powG [(termV ts x).1, (termV ts y).1]).2 = true := by simpa [powG] using c39
        rw [madeV_some hgl, if_pos hyg]
        exact (h.drop (List.nil_sublist _)).givesK (((hl17.trans hl23).trans hl35).trans hl42) (((hf17.trans hf23).trans hf35).trans hf42) ⟨rfl, hv42⟩
set_option maxHeartbeats 400000 in
theorem rVerify {pub sig : Int} {msg : List UInt8} {mv : Value} {b : Nat} {ts : List T} {σ : Hp} {K : List (Nat × Obj)} {w : World} (hi : Has σ K w) (hvk : RefK 63 32 b ts σ K) (hti : TabI ts) (hm : BytesV σ mv msg) : Calls Tryz.prog 34 #[.pointer (some ⟨b, 0, none⟩), .int .i64 pub, mv, .int .i64 sig] w fun e w' => e = .returned (.bool (verifyV ts pub msg sig)) ∧ Below w.heap.size w w' := by
  have hlt := hi.le
  have him := hi.exts
  refine enter (St w (fun _ => False) (exts σ K) [] []) Tryz.func34 rfl Tryz.ntmps34 rfl (St.start him) ?_
  refine cw_seq ?_
  refine cw_region ?_
  refine ow_val rfl rfl (ex_assign rfl) ?_
  refine ow_nil ?_
  refine qw_seq ?_
  refine cw_seq ?_
  refine cw_region ?_
  refine ow_val rfl rfl (ex_move rfl) ?_
  refine ow_val rfl rfl (ex_move rfl) ?_
  refine ow_crs rfl rfl hlt (ex_callf rfl (fun w h => callR (rTerm (hi.of_im h.im (Le.refl _)) hvk))) (fun v16 τ16 κ16 hl16 hf16 hr16 hlk16 hle16 => ?_)
  obtain ⟨c16, rfl, ht16⟩ := hr16
  have ht16' := ht16
  obtain ⟨d16, k16, rfl, _, _, hd16, hk16⟩ := ht16'.opn
  obtain ⟨p16, cc16, rfl, _, _⟩ := hk16.slice
  refine ow_val rfl rfl (ex_move rfl) ?_
  refine ow_val rfl rfl (ex_extract rfl rfl) ?_
  refine ow_val rfl rfl (ex_extract rfl rfl) ?_
  refine ow_blk rfl rfl exw_alloc ?_; intro b9
  refine ow_u rfl (exu_storeN 0 rfl rfl rfl rfl ht16.one rfl) ?_
  refine ow_val rfl rfl (ex_assign rfl) ?_
  refine ow_nil ?_
  refine qw_seq ?_
  refine cw_seq ?_
  refine cw_region ?_
  refine ow_val rfl rfl (ex_move rfl) ?_
  refine ow_val rfl rfl (ex_move rfl) ?_
  refine ow_crs rfl rfl hle16 (ex_callf rfl (fun w h => callR (rTerm (hi.next hf16 h.im hlk16 hle16) (hvk.le hl16)))) (fun v22 τ22 κ22 hl22 hf22 hr22 hlk22 hle22 => ?_)
  obtain ⟨c22, rfl, ht22⟩ := hr22
  have ht22' := ht22
  obtain ⟨d22, k22, rfl, _, _, hd22, hk22⟩ := ht22'.opn
  obtain ⟨p22, cc22, rfl, _, _⟩ := hk22.slice
  refine ow_val rfl rfl (ex_move rfl) ?_
  refine ow_val rfl rfl (ex_extract rfl rfl) ?_
  refine ow_val rfl rfl (ex_extract rfl rfl) ?_
  refine ow_blk rfl rfl exw_alloc ?_; intro b11
  refine ow_u rfl (exu_storeN 0 rfl rfl rfl rfl ht22.one rfl) ?_
  refine ow_val rfl rfl (ex_assign rfl) ?_
  refine ow_nil ?_
  refine qw_seq ?_
  refine cw_seq ?_
  refine cw_seq ?_
  refine cw_region ?_
  refine ow_val rfl rfl (ex_move rfl) ?_
  refine ow_val rfl rfl (ex_not rfl) ?_
  refine ow_val rfl rfl (ex_move rfl) ?_
  refine ow_split (g := some (2, false)) rfl (fun s27 => ?_) (fun s27 => ?_)
  ·
    have hbp : ¬ (termV ts pub).2 = true := by simpa using s27
    refine ow_skip rfl (gd_no rfl s27) ?_
    refine ow_skip rfl (gd_no rfl s27) ?_
    refine ow_val rfl rfl (ex_pickt rfl s27 rfl) ?_
    refine ow_val rfl rfl (ex_move rfl) ?_
    refine ow_skip rfl rfl ?_
    refine ow_skip rfl rfl ?_
    refine ow_skip rfl rfl ?_
    refine ow_val rfl rfl (ex_pick_t rfl rfl) ?_
    refine ow_val rfl rfl (ex_move rfl) ?_
    refine ow_skip rfl rfl ?_
    refine ow_skip rfl rfl ?_
    refine ow_skip rfl rfl ?_
    refine ow_val rfl rfl (ex_pick_t rfl rfl) ?_
    refine ow_nil ?_
    refine qw_seq ?_
    refine cw_cond_t rfl ?_
    refine cw_seq ?_
    refine cw_region ?_
    refine ow_val rfl rfl (ex_assign rfl) ?_
    refine ow_nil ?_
    refine qw_seq ?_
    refine cw_ret ?_
    refine qw_then_ret ?_
    refine qw_ret1 rfl rfl (fun w' h => ⟨congrArg (fun z => Ending.returned (.bool z)) ?_, h.ag.below⟩)
    simp [verifyV, bothV, hbp]
  ·
    have hgp : (termV ts pub).2 = true := by simpa using s27
    refine ow_val rfl (gd_go rfl s27) (ex_move rfl) ?_
    refine ow_val rfl (gd_go rfl s27) (ex_not rfl) ?_
    refine ow_val rfl rfl (ex_pickf rfl s27 rfl) ?_
    refine ow_val rfl rfl (ex_move rfl) ?_
    refine ow_split (g := some (6, false)) rfl (fun s31 => ?_) (fun s31 => ?_)
    ·
      have hbs : ¬ (termV ts sig).2 = true := by simpa using s31
      refine ow_skip rfl (gd_no rfl s31) ?_
      refine ow_skip rfl (gd_no rfl s31) ?_
      refine ow_skip rfl (gd_no rfl s31) ?_
      refine ow_val rfl rfl (ex_pickt rfl s31 rfl) ?_
      refine ow_val rfl rfl (ex_move rfl) ?_
      refine ow_skip rfl rfl ?_
      refine ow_skip rfl rfl ?_
      refine ow_skip rfl rfl ?_
      refine ow_val rfl rfl (ex_pick_t rfl rfl) ?_
      refine ow_nil ?_
      refine qw_seq ?_
      refine cw_cond_t rfl ?_
      refine cw_seq ?_
      refine cw_region ?_
      refine ow_val rfl rfl (ex_assign rfl) ?_
      refine ow_nil ?_
      refine qw_seq ?_
      refine cw_ret ?_
      refine qw_then_ret ?_
      refine qw_ret1 rfl rfl (fun w' h => ⟨congrArg (fun z => Ending.returned (.bool z)) ?_, h.ag.below⟩)
      simp [verifyV, bothV, hbs]
    ·
      have hgs : (termV ts sig).2 = true := by simpa using s31
      refine ow_val rfl (gd_go rfl s31) (ex_field rfl) ?_
      refine ow_val rfl (gd_go rfl s31) (ex_load1 rfl (by first | exact ld_own1 0 rfl rfl | exact ld_own1 1 rfl rfl | exact ld_own1 2 rfl rfl | exact ld_own1 3 rfl rfl | exact ld_own1 4 rfl rfl | exact ld_own1 5 rfl rfl | exact ld_own1 6 rfl rfl | exact ld_own1 7 rfl rfl | exact ld_ownG1 0 rfl rfl | exact ld_ownG1 1 rfl rfl | exact ld_imm1 (by assumption))) ?_
      refine ow_val rfl (gd_go rfl s31) (ex_neq rfl rfl) ?_
      refine ow_val rfl rfl (ex_pickf rfl s31 rfl) ?_
      refine ow_val rfl rfl (ex_move rfl) ?_
      refine ow_split (g := some (11, false)) rfl (fun s36 => ?_) (fun s36 => ?_)
      ·
        have hp2 : ¬ (termV ts pub).1.op = 2 := by simpa using s36
        refine ow_skip rfl (gd_no rfl s36) ?_
        refine ow_skip rfl (gd_no rfl s36) ?_
        refine ow_skip rfl (gd_no rfl s36) ?_
        refine ow_val rfl rfl (ex_pickt rfl s36 rfl) ?_
        refine ow_nil ?_
        refine qw_seq ?_
        refine cw_cond_t rfl ?_
        refine cw_seq ?_
        refine cw_region ?_
        refine ow_val rfl rfl (ex_assign rfl) ?_
        refine ow_nil ?_
        refine qw_seq ?_
        refine cw_ret ?_
        refine qw_then_ret ?_
        refine qw_ret1 rfl rfl (fun w' h => ⟨congrArg (fun z => Ending.returned (.bool z)) ?_, h.ag.below⟩)
        simp [verifyV, bothV, hp2]
      ·
        have hp2 : (termV ts pub).1.op = 2 := by simpa using s36
        refine ow_val rfl (gd_go rfl s36) (ex_field rfl) ?_
        refine ow_val rfl (gd_go rfl s36) (ex_load1 rfl (by first | exact ld_own1 0 rfl rfl | exact ld_own1 1 rfl rfl | exact ld_own1 2 rfl rfl | exact ld_own1 3 rfl rfl | exact ld_own1 4 rfl rfl | exact ld_own1 5 rfl rfl | exact ld_own1 6 rfl rfl | exact ld_own1 7 rfl rfl | exact ld_ownG1 0 rfl rfl | exact ld_ownG1 1 rfl rfl | exact ld_imm1 (by assumption))) ?_
        refine ow_val rfl (gd_go rfl s36) (ex_neq rfl rfl) ?_
        refine ow_val rfl rfl (ex_pickf rfl s36 rfl) ?_
        refine ow_nil ?_
        refine qw_seq ?_
        refine cw_cond rfl (fun c40 => ?_) (fun c40 => ?_)
        ·
          have hs3 : ¬ (termV ts sig).1.op = 3 := by simpa using c40
          refine cw_seq ?_
          refine cw_region ?_
          refine ow_val rfl rfl (ex_assign rfl) ?_
          refine ow_nil ?_
          refine qw_seq ?_
          refine cw_ret ?_
          refine qw_then_ret ?_
          refine qw_ret1 rfl rfl (fun w' h => ⟨congrArg (fun z => Ending.returned (.bool z)) ?_, h.ag.below⟩)
          simp [verifyV, bothV, hs3]
        ·
          have hs3 : (termV ts sig).1.op = 3 := by simpa using c40
          have hlz : Le τ16 τ22 := hl22
          have honep := keyed_one (hti.rt _ (termV_mem hgp)) (by omega)
          obtain ⟨bkp, fp, ckp, ep, e1, _, hcp, hup⟩ := hk16.get 0 (by omega)
          cases e1
          have hkkp : (termV ts pub).1.kids[0] = (termV ts pub).1.kids.getD 0 zeroT := by simp [List.getD_eq_getElem?_getD, show 0 < (termV ts pub).1.kids.length by omega]
          rw [hkkp] at hup
          have hones := keyed_one (hti.rt _ (termV_mem hgs)) (by omega)
          obtain ⟨bks, fs, cks, es, e1, _, hcs, hus⟩ := hk22.get 0 (by omega)
          cases e1
          have hkks : (termV ts sig).1.kids[0] = (termV ts sig).1.kids.getD 0 zeroT := by simp [List.getD_eq_getElem?_getD, show 0 < (termV ts sig).1.kids.length by omega]
          rw [hkks] at hus
          refine cw_skip ?_
          refine qw_seq ?_
          refine cw_seq ?_
          refine flow_sound 18 (by kernel_rfl) ?_
          refine flow_val rfl (ex_field rfl) ?_
          refine flow_val rfl (ex_load1 rfl (by first | exact ld_own1 0 rfl rfl | exact ld_own1 1 rfl rfl | exact ld_own1 2 rfl rfl | exact ld_own1 3 rfl rfl | exact ld_own1 4 rfl rfl | exact ld_own1 5 rfl rfl | exact ld_own1 6 rfl rfl | exact ld_own1 7 rfl rfl | exact ld_ownG1 0 rfl rfl | exact ld_ownG1 1 rfl rfl | exact ld_imm1 (by assumption))) ?_
          refine flow_val rfl (ex_tostr rfl (hd22.le hle22) (fun w h => h.im)) ?_
          refine flow_val rfl (ex_move rfl) ?_
          refine flow_val rfl (ex_tostr rfl (hm.le (hlt.trans (hlk16.trans hlk22))) (fun w h => h.im)) ?_
          refine flow_val rfl (ex_streql (a := (termV ts sig).1.data) (b := msg) rfl rfl) ?_
          refine flow_val rfl (ex_move rfl) ?_
          refine flow_split rfl (fun s47 => ?_) (fun s47 => ?_)
          ·
            have hq : ((termV ts sig).1.data == msg) = true := s47
            refine flow_val (gd_go rfl s47) (ex_field rfl) ?_
            refine flow_val (gd_go rfl s47) (ex_load1 rfl (by first | exact ld_own1 0 rfl rfl | exact ld_own1 1 rfl rfl | exact ld_own1 2 rfl rfl | exact ld_own1 3 rfl rfl | exact ld_own1 4 rfl rfl | exact ld_own1 5 rfl rfl | exact ld_own1 6 rfl rfl | exact ld_own1 7 rfl rfl | exact ld_ownG1 0 rfl rfl | exact ld_ownG1 1 rfl rfl | exact ld_imm1 (by assumption))) ?_
            refine flow_val (gd_go rfl s47) (ex_index_nat (i := 0) rfl rfl (by omega)) ?_
            refine flow_val (gd_go rfl s47) (ex_loadR rfl (ld_immT (hcp.le (hlz.trans hle22)) (hup.le (hlz.trans hle22)))) ?_
            refine flow_val (gd_go rfl s47) (ex_field rfl) ?_
            refine flow_val (gd_go rfl s47) (ex_load1 rfl (by first | exact ld_own1 0 rfl rfl | exact ld_own1 1 rfl rfl | exact ld_own1 2 rfl rfl | exact ld_own1 3 rfl rfl | exact ld_own1 4 rfl rfl | exact ld_own1 5 rfl rfl | exact ld_own1 6 rfl rfl | exact ld_own1 7 rfl rfl | exact ld_ownG1 0 rfl rfl | exact ld_ownG1 1 rfl rfl | exact ld_imm1 (by assumption))) ?_
            refine flow_val (gd_go rfl s47) (ex_index_nat (i := 0) rfl rfl (by omega)) ?_
            refine flow_val (gd_go rfl s47) (ex_loadR rfl (ld_immT (hcs.le hle22) (hus.le hle22))) ?_
            refine flow_cv (gd_go rfl s47) (ex_callf rfl (fun w h => callB ((rSame _ _ h.im (hup.le (hlz.trans hle22)) (hus.le hle22))))) ?_
            refine flow_val rfl (ex_pickt rfl s47 rfl) ?_
            refine flow_val rfl (ex_assign rfl) ?_
            refine flow_nil ?_
            refine fin_is ?_
            refine fin_is ?_
            refine fin_is ?_
            refine fin_is ?_
            refine fin_is ?_
            refine fin_is ?_
            refine fin_is ?_
            refine fin_is ?_
            refine fin_is ?_
            refine fin_is ?_
            refine fin_is ?_
            refine fin_is ?_
            refine fin_is ?_
            refine fin_is ?_
            refine fin_is ?_
            refine fin_is ?_
            refine fin_is ?_
            refine fin_is ?_
            refine fin_nil ?_
            refine ow_nil ?_
            refine qw_seq ?_
            refine cw_ret ?_
            refine qw_ret1 rfl rfl (fun w' h => ⟨congrArg (fun z => Ending.returned (.bool z)) ?_, h.ag.below⟩)
            have he : decide (ord ((termV ts pub).1.kids.getD 0 zeroT) ((termV ts sig).1.kids.getD 0 zeroT) = 0) = decide (ord ((termV ts sig).1.kids.getD 0 zeroT) ((termV ts pub).1.kids.getD 0 zeroT) = 0) := decide_eq_decide.2 (by rw [ord_zero, ord_zero]; exact eq_comm)
            rw [he]
            unfold verifyV bothV
            rw [hgs, hgp, hq, decide_eq_true hs3, decide_eq_true hp2]
            simp
          ·
            have hq : ((termV ts sig).1.data == msg) = false := s47
            refine flow_skip (gd_no rfl s47) ?_
            refine flow_skip (gd_no rfl s47) ?_
            refine flow_skip (gd_no rfl s47) ?_
            refine flow_skip (gd_no rfl s47) ?_
            refine flow_skip (gd_no rfl s47) ?_
            refine flow_skip (gd_no rfl s47) ?_
            refine flow_skip (gd_no rfl s47) ?_
            refine flow_skip (gd_no rfl s47) ?_
            refine flow_skip (gd_no rfl s47) ?_
            refine flow_val rfl (ex_pickf rfl s47 rfl) ?_
            refine flow_val rfl (ex_assign rfl) ?_
            refine flow_nil ?_
            refine fin_is ?_
            refine fin_is ?_
            refine fin_is ?_
            refine fin_is ?_
            refine fin_is ?_
            refine fin_is ?_
            refine fin_is ?_
            refine fin_is ?_
            refine fin_is ?_
            refine fin_is ?_
            refine fin_is ?_
            refine fin_is ?_
            refine fin_is ?_
            refine fin_is ?_
            refine fin_is ?_
            refine fin_is ?_
            refine fin_is ?_
            refine fin_is ?_
            refine fin_nil ?_
            refine ow_nil ?_
            refine qw_seq ?_
            refine cw_ret ?_
            refine qw_ret1 rfl rfl (fun w' h => ⟨congrArg (fun z => Ending.returned (.bool z)) ?_, h.ag.below⟩)
            simp [verifyV, hq]
set_option maxHeartbeats 400000 in
theorem rOpen {key x : Int} {b : Nat} {ts : List T} {σ : Hp} {K : List (Nat × Obj)} {w : World} (hi : Has σ K w) (hvk : RefK 63 32 b ts σ K) (hti : TabI ts) : Calls Tryz.prog 36 #[.pointer (some ⟨b, 0, none⟩), .int .i64 key, .int .i64 x] w (GiveR (RepBB (openV ts key x).1 (openV ts key x).2) σ w) := by
  have hlt := hi.le
  have him := hi.exts
  refine enter (St w (fun _ => False) (exts σ K) [] []) Tryz.func36 rfl Tryz.ntmps36 rfl (St.start him) ?_
  refine cw_seq ?_
  refine cw_region ?_
  refine ow_val rfl rfl (ex_assign rfl) ?_
  refine ow_val rfl rfl (ex_assign rfl) ?_
  refine ow_nil ?_
  refine qw_seq ?_
  refine cw_seq ?_
  refine cw_region ?_
  refine ow_val rfl rfl (ex_move rfl) ?_
  refine ow_val rfl rfl (ex_move rfl) ?_
  refine ow_crs rfl rfl hlt (ex_callf rfl (fun w h => callR (rTerm (hi.of_im h.im (Le.refl _)) hvk))) (fun v16 τ16 κ16 hl16 hf16 hr16 hlk16 hle16 => ?_)
  obtain ⟨c16, rfl, ht16⟩ := hr16
  have ht16' := ht16
  obtain ⟨d16, k16, rfl, _, _, hd16, hk16⟩ := ht16'.opn
  obtain ⟨p16, cc16, rfl, _, _⟩ := hk16.slice
  refine ow_val rfl rfl (ex_move rfl) ?_
  refine ow_val rfl rfl (ex_extract rfl rfl) ?_
  refine ow_val rfl rfl (ex_extract rfl rfl) ?_
  refine ow_blk rfl rfl exw_alloc ?_; intro b8
  refine ow_u rfl (exu_storeN 0 rfl rfl rfl rfl ht16.one rfl) ?_
  refine ow_val rfl rfl (ex_assign rfl) ?_
  refine ow_nil ?_
  refine qw_seq ?_
  refine cw_seq ?_
  refine cw_region ?_
  refine ow_val rfl rfl (ex_move rfl) ?_
  refine ow_val rfl rfl (ex_move rfl) ?_
  refine ow_crs rfl rfl hle16 (ex_callf rfl (fun w h => callR (rTerm (hi.next hf16 h.im hlk16 hle16) (hvk.le hl16)))) (fun v22 τ22 κ22 hl22 hf22 hr22 hlk22 hle22 => ?_)
  obtain ⟨c22, rfl, ht22⟩ := hr22
  have ht22' := ht22
  obtain ⟨d22, k22, rfl, _, _, hd22, hk22⟩ := ht22'.opn
  obtain ⟨p22, cc22, rfl, _, _⟩ := hk22.slice
  refine ow_val rfl rfl (ex_move rfl) ?_
  refine ow_val rfl rfl (ex_extract rfl rfl) ?_
  refine ow_val rfl rfl (ex_extract rfl rfl) ?_
  refine ow_blk rfl rfl exw_alloc ?_; intro b10
  refine ow_u rfl (exu_storeN 0 rfl rfl rfl rfl ht22.one rfl) ?_
  refine ow_val rfl rfl (ex_assign rfl) ?_
  refine ow_nil ?_
  refine qw_seq ?_
  refine cw_seq ?_
  refine cw_seq ?_
  refine cw_region ?_
  refine ow_val rfl rfl (ex_move rfl) ?_
  refine ow_val rfl rfl (ex_not rfl) ?_
  refine ow_val rfl rfl (ex_move rfl) ?_
  refine ow_split (g := some (2, false)) rfl (fun s26 => ?_) (fun s26 => ?_)
  ·
    have hbp : ¬ (termV ts key).2 = true := by simpa using s26
    refine ow_skip rfl (gd_no rfl s26) ?_
    refine ow_skip rfl (gd_no rfl s26) ?_
    refine ow_val rfl rfl (ex_pickt rfl s26 rfl) ?_
    refine ow_val rfl rfl (ex_move rfl) ?_
    refine ow_skip rfl rfl ?_
    refine ow_skip rfl rfl ?_
    refine ow_skip rfl rfl ?_
    refine ow_val rfl rfl (ex_pick_t rfl rfl) ?_
    refine ow_nil ?_
    refine qw_seq ?_
    refine cw_cond_t rfl ?_
    refine cw_seq ?_
    refine cw_region ?_
    refine ow_val rfl rfl (ex_assign rfl) ?_
    refine ow_val rfl rfl (ex_assign rfl) ?_
    refine ow_nil ?_
    refine qw_seq ?_
    refine cw_ret ?_
    refine qw_then_ret ?_
    refine qw_ret2 rfl rfl rfl (fun w' h => ?_)
    have e : openV ts key x = ([], false) := by
      unfold openV bothV
      rw [if_neg]
      rintro ⟨h1, h2⟩
      simp_all
    rw [e]
    exact h.givesS hle22 (hl16.trans hl22) (hf16.trans hf22) ⟨_, rfl, BytesV.nil _⟩
  ·
    have hgk : (termV ts key).2 = true := by simpa using s26
    refine ow_val rfl (gd_go rfl s26) (ex_move rfl) ?_
    refine ow_val rfl (gd_go rfl s26) (ex_not rfl) ?_
    refine ow_val rfl rfl (ex_pickf rfl s26 rfl) ?_
    refine ow_val rfl rfl (ex_move rfl) ?_
    refine ow_split (g := some (6, false)) rfl (fun s30 => ?_) (fun s30 => ?_)
    ·
      have hbs : ¬ (termV ts x).2 = true := by simpa using s30
      refine ow_skip rfl (gd_no rfl s30) ?_
      refine ow_skip rfl (gd_no rfl s30) ?_
      refine ow_skip rfl (gd_no rfl s30) ?_
      refine ow_val rfl rfl (ex_pickt rfl s30 rfl) ?_
      refine ow_nil ?_
      refine qw_seq ?_
      refine cw_cond_t rfl ?_
      refine cw_seq ?_
      refine cw_region ?_
      refine ow_val rfl rfl (ex_assign rfl) ?_
      refine ow_val rfl rfl (ex_assign rfl) ?_
      refine ow_nil ?_
      refine qw_seq ?_
      refine cw_ret ?_
      refine qw_then_ret ?_
      refine qw_ret2 rfl rfl rfl (fun w' h => ?_)
      have e : openV ts key x = ([], false) := by
        unfold openV bothV
        rw [if_neg]
        rintro ⟨h1, h2⟩
        simp_all
      rw [e]
      exact h.givesS hle22 (hl16.trans hl22) (hf16.trans hf22) ⟨_, rfl, BytesV.nil _⟩
    ·
      have hgx : (termV ts x).2 = true := by simpa using s30
      refine ow_val rfl (gd_go rfl s30) (ex_field rfl) ?_
      refine ow_val rfl (gd_go rfl s30) (ex_load1 rfl (by first | exact ld_own1 0 rfl rfl | exact ld_own1 1 rfl rfl | exact ld_own1 2 rfl rfl | exact ld_own1 3 rfl rfl | exact ld_own1 4 rfl rfl | exact ld_own1 5 rfl rfl | exact ld_own1 6 rfl rfl | exact ld_own1 7 rfl rfl | exact ld_ownG1 0 rfl rfl | exact ld_ownG1 1 rfl rfl | exact ld_imm1 (by assumption))) ?_
      refine ow_val rfl (gd_go rfl s30) (ex_neq rfl rfl) ?_
      refine ow_val rfl rfl (ex_pickf rfl s30 rfl) ?_
      refine ow_nil ?_
      refine qw_seq ?_
      refine cw_cond rfl (fun c34 => ?_) (fun c34 => ?_)
      ·
        have hs3 : ¬ (termV ts x).1.op = 4 := by simpa using c34
        refine cw_seq ?_
        refine cw_region ?_
        refine ow_val rfl rfl (ex_assign rfl) ?_
        refine ow_val rfl rfl (ex_assign rfl) ?_
        refine ow_nil ?_
        refine qw_seq ?_
        refine cw_ret ?_
        refine qw_then_ret ?_
        refine qw_ret2 rfl rfl rfl (fun w' h => ?_)
        have e : openV ts key x = ([], false) := by
          unfold openV bothV
          rw [if_neg]
          rintro ⟨h1, h2⟩
          simp_all
        rw [e]
        exact h.givesS hle22 (hl16.trans hl22) (hf16.trans hf22) ⟨_, rfl, BytesV.nil _⟩
      ·
        have hs4 : (termV ts x).1.op = 4 := by simpa using c34
        have honex := keyed_one (hti.rt _ (termV_mem hgx)) (by omega)
        obtain ⟨bkx, fx, ckx, ex, e1, _, hcx, hux⟩ := hk22.get 0 (by omega)
        cases e1
        have hkkx : (termV ts x).1.kids[0] = (termV ts x).1.kids.getD 0 zeroT := by simp [List.getD_eq_getElem?_getD, show 0 < (termV ts x).1.kids.length by omega]
        rw [hkkx] at hux
        refine cw_skip ?_
        refine qw_seq ?_
        refine cw_seq ?_
        refine cw_seq ?_
        refine flow_sound 7 (by kernel_rfl) ?_
        refine flow_val rfl (ex_field rfl) ?_
        refine flow_val rfl (ex_load1 rfl (by first | exact ld_own1 0 rfl rfl | exact ld_own1 1 rfl rfl | exact ld_own1 2 rfl rfl | exact ld_own1 3 rfl rfl | exact ld_own1 4 rfl rfl | exact ld_own1 5 rfl rfl | exact ld_own1 6 rfl rfl | exact ld_own1 7 rfl rfl | exact ld_ownG1 0 rfl rfl | exact ld_ownG1 1 rfl rfl | exact ld_imm1 (by assumption))) ?_
        refine flow_val rfl (ex_index_nat (i := 0) rfl rfl (by omega)) ?_
        refine flow_val rfl (ex_loadR rfl (ld_immT (hcx.le hle22) (hux.le hle22))) ?_
        refine flow_val rfl (ex_loadR (cs := [.int .i64 (termV ts key).1.op, .int .i64 (termV ts key).1.num, d16, .slice p16 (termV ts key).1.kids.length cc16]) rfl (ld_ownN (k := 4) 1 rfl rfl)) ?_
        refine flow_cv rfl (ex_callf rfl (fun w h => callB ((rSame _ _ h.im (hux.le hle22) ((ht16.le hl22).le hle22))))) ?_
        refine flow_val rfl (ex_not rfl) ?_
        refine flow_nil ?_
        refine fin_is ?_
        refine fin_is ?_
        refine fin_is ?_
        refine fin_is ?_
        refine fin_is ?_
        refine fin_is ?_
        refine fin_is ?_
        refine fin_nil ?_
        refine ow_nil ?_
        refine qw_seq ?_
        refine cw_cond rfl (fun c41 => ?_) (fun c41 => ?_)
        ·
          refine cw_seq ?_
          refine cw_region ?_
          refine ow_val rfl rfl (ex_assign rfl) ?_
          refine ow_val rfl rfl (ex_assign rfl) ?_
          refine ow_nil ?_
          refine qw_seq ?_
          refine cw_ret ?_
          refine qw_then_ret ?_
          refine qw_ret2 rfl rfl rfl (fun w' h => ?_)
          have e : openV ts key x = ([], false) := by
            unfold openV bothV
            rw [if_neg]
            rintro ⟨h1, h2⟩
            have c41' : ¬ ord ((termV ts x).1.kids.getD 0 zeroT) (termV ts key).1 = 0 := by simpa using c41
            exact c41' h2
          rw [e]
          exact h.givesS hle22 (hl16.trans hl22) (hf16.trans hf22) ⟨_, rfl, BytesV.nil _⟩
        ·
          refine cw_skip ?_
          refine qw_seq ?_
          refine cw_seq ?_
          refine cw_region ?_
          refine ow_slit rfl rfl exw_slit0 ?_; intro b42
          refine ow_mono (fun w h => h.toG) ?_
          refine ow_val rfl rfl (ex_field rfl) ?_
          refine ow_val rfl rfl (ex_load1 rfl (by first | exact ld_own1 0 rfl rfl | exact ld_own1 1 rfl rfl | exact ld_own1 2 rfl rfl | exact ld_own1 3 rfl rfl | exact ld_own1 4 rfl rfl | exact ld_own1 5 rfl rfl | exact ld_own1 6 rfl rfl | exact ld_own1 7 rfl rfl | exact ld_ownG1 0 rfl rfl | exact ld_ownG1 1 rfl rfl | exact ld_imm1 (by assumption))) ?_
          obtain ⟨pd, cd, rfl, hcd, hmd, hsd⟩ := (hd22.le hle22).row
          have hmd2 := hmd
          unfold maxData at hmd2
          refine ow_app1 rfl rfl (exw_append1 (news := (termV ts x).1.data.map byteV) rfl rfl (OwnSl.lit0 5 1 b42) (by simp) (hsd.imp id fun ⟨b, f, hp, hca⟩ => ⟨b, f, hp, fun w h => hca.range h.im⟩) (bytes_one _) (by unfold maxLen; omega) (by omega)) (fun v45 G45 hO45 hz45 => ?_)
          refine ow_frzBS hle22 (fun _ h => h) hO45 (by simp) hmd (fun τ9 κ9 hl9 hf9 hle9 hb9 => ?_)
          refine ow_val rfl rfl (ex_assign rfl) ?_
          refine ow_val rfl rfl (ex_assign rfl) ?_
          refine ow_nil ?_
          refine qw_seq ?_
          refine cw_ret ?_
          refine qw_ret2 rfl rfl rfl (fun w' h => ?_)
          have e : openV ts key x = ((termV ts x).1.data, true) := by
            unfold openV bothV
            rw [if_pos]
            exact ⟨by simp [hgx, hgk, hs4], by simpa using c41⟩
          rw [e]
          exact h.givesS hle9 ((hl16.trans hl22).trans hl9) ((hf16.trans hf22).trans hf9) ⟨_, rfl, hb9⟩
end Go.Proofs.YtnjomdjkbbhdoaaGreatDoor
namespace Go.Proofs.YtnjomdjkbbhdoaaGreatDoor
open Go.RowKit Go.Sort
set_option linter.unusedVariables false
set_option linter.unusedSimpArgs false
section
variable {w0 w : World} {M : Nat → Prop} {σ : Hp} {H Gs Gr : List (Nat × Obj)} {e n : Nat} {v : Value} {zs : List Int}
def sortI (zs : List Int) : List Int := zs.mergeSort fun x y => decide (x ≤ y)
end
def RepI (zs : List Int) (σ : Hp) (v : Value) : Prop := IntsV σ v zs
instance (zs : List Int) : MonoR (RepI zs) := ⟨fun hl h => IntsV.le hl h⟩
def hitB (d : List UInt8) (below : Int) : Bool := (numB ((d.drop 2).take 8)).2 && decide ((numB ((d.drop 2).take 8)).1 < below) && (d.take 2 == [4, 8])
def mentL : List UInt8 → Int → List Int
  | [], _ => []
  | c :: r, below => if 10 ≤ (c :: r).length ∧ hitB (c :: r) below = true then (numB (((c :: r).drop 2).take 8)).1 :: mentL r below else mentL r below
def mentS (d : List UInt8) (below : Int) : List Int := Lib.compact (sortI (mentL d below))
end Go.Proofs.YtnjomdjkbbhdoaaGreatDoor
namespace Go.Proofs.YtnjomdjkbbhdoaaGreatDoor
open Go.RowKit
set_option linter.unusedVariables false
set_option linter.unusedSimpArgs false
theorem nodup_len : ∀ {a b : List Int}, a.Nodup → (∀ x ∈ a, x ∈ b) → a.length ≤ b.length
  | [], b, _, _ => Nat.zero_le _
  | x :: a, b, hn, h => by
    rw [List.nodup_cons] at hn
    have hx : x ∈ b := h x (by simp)
    have h1 := nodup_len (b := b.erase x) hn.2 (fun y hy => (List.mem_erase_of_ne (fun e => hn.1 (by rw [← e]; exact hy))).2 (h y (List.mem_cons_of_mem _ hy)))
    have h2 := List.length_erase_of_mem hx
    have h3 : 0 < b.length := List.length_pos_of_mem hx
    simp only [List.length_cons]; omega
theorem strict_len {a b : List Int} (ha : a.Pairwise (· < ·)) (h : ∀ x ∈ a, x ∈ b) : a.length ≤ b.length :=
  nodup_len (ha.imp (fun h => by omega)) h
end Go.Proofs.YtnjomdjkbbhdoaaGreatDoor
namespace Go.Proofs.YtnjomdjkbbhdoaaGreatDoor
set_option linter.unusedVariables false
set_option linter.unusedSimpArgs false
structure Item where
  op : Int
  kids : List Int
  ments : List Int
def hadAt (had : List Bool) (z : Int) : Bool := had.getD z.toNat false
def allB (had : List Bool) (zs : List Int) : Bool := zs.all (hadAt had)
def lessV (l : List Int) : List Int → Option (List Int)
  | [] => some l
  | n :: r => if n ∈ l then lessV (l.erase n) r else none
def lessB (had : List Bool) (x y : List Int) : Bool := match lessV x y with | some r => allB had r | none => false
def powB (had : List Bool) (x : Item) : Nat → List Item → Bool
  | _, [] => false
  | n, y :: r => (decide (y.op = 7) && had.getD n false && lessB had x.kids y.kids) || powB had x (n + 1) r
def powerB (its : List Item) (had : List Bool) (x : Item) : Bool := powB had x 0 its || allB had x.kids
def madeB (its : List Item) (had : List Bool) (x : Item) : Bool := if x.op = 1 then false else if x.op = 7 then powerB its had x else allB had x.kids && allB had x.ments
def HadLe (a b : List Bool) : Prop := ∀ n, a.getD n false = true → b.getD n false = true
theorem HadLe.refl (a : List Bool) : HadLe a a := fun _ h => h
theorem HadLe.trans {a b c : List Bool} (h : HadLe a b) (k : HadLe b c) : HadLe a c := fun n hn => k n (h n hn)
theorem allB_mono {a b : List Bool} (h : HadLe a b) {zs : List Int} (ha : allB a zs = true) : allB b zs = true := by
  unfold allB hadAt at *
  rw [List.all_eq_true] at *
  exact fun z hz => h _ (ha z hz)
theorem lessB_mono {a b : List Bool} (h : HadLe a b) {x y : List Int} (ha : lessB a x y = true) : lessB b x y = true := by
  unfold lessB at *
  split at ha
  · rename_i r e; exact allB_mono h ha
  · cases ha
theorem powB_mono {a b : List Bool} (h : HadLe a b) {x : Item} : ∀ {l : List Item} {n : Nat}, powB a x n l = true → powB b x n l = true
  | [], n, ha => ha
  | y :: r, n, ha => by
    simp only [powB, Bool.or_eq_true, Bool.and_eq_true] at *
    rcases ha with ⟨⟨h1, h2⟩, h3⟩ | h4
    · exact .inl ⟨⟨h1, h n h2⟩, lessB_mono h h3⟩
    · exact .inr (powB_mono h h4)
theorem madeB_mono {its : List Item} {a b : List Bool} (h : HadLe a b) {x : Item} (ha : madeB its a x = true) : madeB its b x = true := by
  unfold madeB powerB at *
  split at ha
  · cases ha
  · rename_i h1
    rw [if_neg h1]
    split at ha
    · rename_i h2
      rw [if_pos h2]
      simp only [Bool.or_eq_true] at *
      exact ha.imp (powB_mono h) (allB_mono h)
    · rename_i h2
      rw [if_neg h2]
      simp only [Bool.and_eq_true] at *
      exact ⟨allB_mono h ha.1, allB_mono h ha.2⟩
def Closed (its : List Item) (had : List Bool) : Prop := ∀ n (h : n < its.length), (madeB its had its[n] = true → had.getD n false = true) ∧
  (its[n].op = 4 → had.getD n false = true → allB had its[n].kids = true → ∀ m ∈ its[n].ments, hadAt had m = true)
def KnownIn (known : List Int) (had : List Bool) : Prop := ∀ k ∈ known, 0 ≤ k → k < had.length → hadAt had k = true
def Had (its : List Item) (known : List Int) (n : Nat) : Prop := ∀ had : List Bool, had.length = its.length → Closed its had → KnownIn known had → had.getD n false = true
def Sound (its : List Item) (known : List Int) (had : List Bool) : Prop := had.length = its.length ∧ ∀ n, had.getD n false = true → Had its known n
theorem Sound.le {its : List Item} {known : List Int} {had b : List Bool} (h : Sound its known had) (h1 : b.length = its.length) (h2 : Closed its b) (h3 : KnownIn known b) : HadLe had b := fun n hn => h.2 n hn b h1 h2 h3
theorem Sound.made {its : List Item} {known : List Int} {had : List Bool} (h : Sound its known had) {n : Nat} (hn : n < its.length) (hm : madeB its had its[n] = true) : Had its known n := fun b h1 h2 h3 =>
  (h2 n hn).1 (madeB_mono (h.le h1 h2 h3) hm)
theorem getD_set {had : List Bool} {n k : Nat} (hn : n < had.length) : (had.set n true).getD k false = (decide (k = n) || had.getD k false) := by
  simp only [List.getD_eq_getElem?_getD, List.getElem?_set]
  by_cases h : n = k
  · subst h; simp [hn]
  · simp [h, Ne.symm h]
theorem Sound.set {its : List Item} {known : List Int} {had : List Bool} (h : Sound its known had) {n : Nat} (hn : Had its known n) : Sound its known (had.set n true) := by
  refine ⟨by simp [h.1], fun k hk => ?_⟩
  by_cases hl : n < had.length
  · rw [getD_set hl] at hk
    simp only [Bool.or_eq_true, decide_eq_true_eq] at hk
    rcases hk with rfl | hk
    · exact hn
    · exact h.2 k hk
  · rw [List.set_eq_of_length_le (by omega)] at hk
    exact h.2 k hk
theorem HadLe.set (had : List Bool) (n : Nat) : HadLe had (had.set n true) := fun k hk => by
  by_cases hl : n < had.length
  · rw [getD_set hl, hk]; simp
  · rw [List.set_eq_of_length_le (by omega)]; exact hk
def Clos (its : List Item) (known zs : List Int) : Prop := zs.Pairwise (· < ·) ∧ ∀ x, x ∈ zs ↔ ∃ k : Nat, k < its.length ∧ x = (k : Int) ∧ Had its known k
theorem hadAt_nat {had : List Bool} {k : Nat} : hadAt had (k : Int) = had.getD k false := by simp [hadAt]
theorem had_known {its : List Item} {known : List Int} {n : Nat} (h : (n : Int) ∈ known) (hn : n < its.length) : Had its known n := fun b h1 h2 h3 => by
  have := h3 n h (by omega) (by omega)
  rwa [hadAt_nat] at this
def left (had : List Bool) : Nat := had.countP (· == false)
end Go.Proofs.YtnjomdjkbbhdoaaGreatDoor
namespace Go.Proofs.YtnjomdjkbbhdoaaGreatDoor
open Go.RowKit Go.Sort
set_option linter.unusedVariables false
set_option linter.unusedSimpArgs false
def RepL (o : Option (List Int)) (σ : Hp) (u : Value) : Prop := ∃ v, u = .tuple #[v, .bool o.isSome] ∧ IntsV σ v (o.getD [])
instance (o : Option (List Int)) : MonoR (RepL o) := ⟨fun hl ⟨v, e, h⟩ => ⟨v, e, h.le hl⟩⟩
def ItemC (σ : Hp) (cs : List Value) (x : Item) : Prop := ∃ kv mv, cs = [.int .i64 x.op, kv, mv] ∧ IntsV σ kv x.kids ∧ IntsV σ mv x.ments
theorem ItemC.le {σ τ : Hp} (hl : Le σ τ) {cs : List Value} {x : Item} (h : ItemC σ cs x) : ItemC τ cs x := by
  obtain ⟨kv, mv, e, h1, h2⟩ := h
  exact ⟨kv, mv, e, h1.le hl, h2.le hl⟩
def ItemsV (σ : Hp) (v : Value) (its : List Item) : Prop := ∃ p c, v = .slice p its.length c ∧ its.length ≤ c ∧ (its = [] ∨ ∃ b o, p = some ⟨b, o, none⟩ ∧ ∀ i (h : i < its.length), ∃ cs, CellsAt σ b (o + i * 3) cs ∧ ItemC σ cs its[i])
theorem ItemsV.le {σ τ : Hp} (hl : Le σ τ) {v : Value} {its : List Item} (h : ItemsV σ v its) : ItemsV τ v its := by
  obtain ⟨p, c, e, h1, h2⟩ := h
  exact ⟨p, c, e, h1, h2.imp id fun ⟨b, o, e1, k⟩ => ⟨b, o, e1, fun i hi => let ⟨cs, k1, k2⟩ := k i hi; ⟨cs, k1.le hl, k2.le hl⟩⟩⟩
def boolsV (had : List Bool) : List Value := had.map Value.bool
def EngC (σ : Hp) (be hb : Nat) (its : List Item) (had : List Bool) : Prop := ∃ iv c, CellsAt σ be 0 [iv, .slice (some ⟨hb, 0, none⟩) had.length c] ∧ ItemsV σ iv its ∧ CellsAt σ hb 0 (boolsV had)
theorem EngC.le {σ τ : Hp} (hl : Le σ τ) {be hb : Nat} {its : List Item} {had : List Bool} (h : EngC σ be hb its had) : EngC τ be hb its had := by
  obtain ⟨iv, c, h1, h2, h3⟩ := h
  exact ⟨iv, c, h1.le hl, h2.le hl, h3.le hl⟩
theorem CellsAt.bool {σ : Hp} {b o : Nat} {had : List Bool} (h : CellsAt σ b o (boolsV had)) {i : Nat} (hi : i < had.length) : CellsAt σ b (o + i * 1) [.bool (had.getD i false)] := by
  obtain ⟨arr, ty, fz, h1, h2⟩ := h
  refine ⟨arr, ty, fz, h1, fun j v hj => ?_⟩
  cases j with
  | zero =>
    simp at hj; subst hj
    simpa using h2 i _ (by simp [boolsV, List.getElem?_eq_getElem hi])
  | succ j => simp at hj
structure ItsOK (its : List Item) : Prop where
  len : its.length ≤ 4096
  kl : ∀ x ∈ its, x.kids.length ≤ 4
  ml : ∀ x ∈ its, x.ments.length ≤ 8192
  kv : ∀ x ∈ its, ∀ z ∈ x.kids, 0 ≤ z ∧ z < (its.length : Int)
  mv : ∀ x ∈ its, ∀ z ∈ x.ments, 0 ≤ z ∧ z < (its.length : Int)
theorem IntsV.one {σ : Hp} {v : Value} {zs : List Int} (h : IntsV σ v zs) : v.oneCell' = true := by
  obtain ⟨p, c, rfl, _⟩ := h; rfl
theorem ItemC.one {σ : Hp} {cs : List Value} {x : Item} (h : ItemC σ cs x) : ∀ u ∈ cs, u.oneCell' = true := by
  obtain ⟨kv, mv, rfl, h1, h2⟩ := h
  intro u hu
  simp only [List.mem_cons, List.not_mem_nil, or_false] at hu
  rcases hu with rfl | rfl | rfl
  · rfl
  · exact h1.one
  · exact h2.one
end Go.Proofs.YtnjomdjkbbhdoaaGreatDoor
namespace Go.Proofs.YtnjomdjkbbhdoaaGreatDoor
open Go.RowKit
set_option linter.unusedVariables false
set_option linter.unusedSimpArgs false
set_option linter.unusedSectionVars false
def hadO (e : Nat) (had : List Bool) : Obj := .cells (boolsV had).toArray e (0, 0)
structure KpE (n₀ hb bm e : Nat) (its : List Item) (known : List Int) (W W' : World) : Prop where
  sz : W.heap.size ≤ W'.heap.size
  bl : ∀ k o, k ≠ hb → k ≠ bm → W.heap[k]? = some o → (k < n₀ ∨ o.isCells = true) → W'.heap[k]? = some o
  hd : ∀ had, W.heap[hb]? = some (hadO e had) → Sound its known had → ∃ had', W'.heap[hb]? = some (hadO e had') ∧ HadLe had had' ∧ Sound its known had'
theorem KpE.trans {n₀ hb bm e : Nat} {its : List Item} {known : List Int} {A B C : World} (h : KpE n₀ hb bm e its known A B) (k : KpE n₀ hb bm e its known B C) : KpE n₀ hb bm e its known A C :=
  ⟨Nat.le_trans h.sz k.sz, fun b o h1 h2 h3 h4 => k.bl b o h1 h2 (h.bl b o h1 h2 h3 h4) h4, fun had h1 h2 => by
    obtain ⟨had1, a1, a2, a3⟩ := h.hd had h1 h2
    obtain ⟨had2, b1, b2, b3⟩ := k.hd had1 a1 a3
    exact ⟨had2, b1, a2.trans b2, b3⟩⟩
structure GoodH (n₀ hb bm : Nat) (τ : Hp) : Prop where
  h1 : τ hb = none
  h2 : τ bm = none
  h3 : ∀ b o, τ b = some o → b < n₀ ∨ o.isCells = true
abbrev Hx (its : List Item) (known : List Int) : Type := { x : Nat // x < its.length ∧ Had its known x }
theorem CellsAt.had {σ : Hp} {hb e : Nat} {had : List Bool} : CellsAt (ext σ hb (hadO e had)) hb 0 (boolsV had) := ⟨_, _, _, Go.Proofs.YtnjomdjkbbhdoaaGreatDoor.ext_self _ _ _, fun j v hj => by simpa using hj⟩
theorem GoodH.le {n₀ hb bm : Nat} {τ : Hp} (h : GoodH n₀ hb bm τ) (o : Obj) : Le τ (ext τ hb o) := le_ext h.h1
def bnd : Nat → Nat
  | 0 => 0
  | i + 1 => bnd i + 8193
theorem bnd_succ (i : Nat) : bnd (i + 1) = bnd i + 8193 := rfl
structure ClosedAt (its : List Item) (had : List Bool) (x : Item) (n : Nat) : Prop where
  md : madeB its had x = true → had.getD n false = true
  op : x.op = 4 → had.getD n false = true → allB had x.kids = true → ∀ m ∈ x.ments, hadAt had m = true
structure ItI (its : List Item) (known : List Int) (had0 : List Bool) (i : Nat) (pre : List (Hx its known)) (had : List Bool) : Prop where
  le : HadLe had0 had
  so : Sound its known had
  ni : pre = [] → had = had0
  fs : ∀ x r, pre = x :: r → had0.getD x.1 false = false
  cl : pre = [] → ∀ n (h : n < its.length), n < i → ClosedAt its had0 its[n] n
  ln : pre.length ≤ bnd i
structure ItM (its : List Item) (known : List Int) (had0 : List Bool) (i : Nat) (pre : List (Hx its known)) (had : List Bool) : Prop where
  le : HadLe had0 had
  so : Sound its known had
  ni : pre = [] → had = had0
  fs : ∀ x r, pre = x :: r → had0.getD x.1 false = false
  cl : pre = [] → ∀ n (h : n < its.length), n < i → ClosedAt its had0 its[n] n
  md : pre = [] → ∀ (h : i < its.length), madeB its had0 its[i] = true → had0.getD i false = true
  ln : pre.length ≤ bnd i + 1
structure ItN (its : List Item) (known : List Int) (had0 : List Bool) (i j : Nat) (pre : List (Hx its known)) (had : List Bool) : Prop where
  le : HadLe had0 had
  so : Sound its known had
  ni : pre = [] → had = had0
  fs : ∀ x r, pre = x :: r → had0.getD x.1 false = false
  cl : pre = [] → ∀ n (h : n < its.length), n < i → ClosedAt its had0 its[n] n
  md : pre = [] → ∀ (h : i < its.length), madeB its had0 its[i] = true → had0.getD i false = true
  mn : pre = [] → ∀ (h : i < its.length), ∀ k (hk : k < its[i].ments.length), k < j → hadAt had0 its[i].ments[k] = true
  o4 : ∀ (h : i < its.length), its[i].op = 4 ∧ had.getD i false = true ∧ allB had its[i].kids = true
  ln : pre.length ≤ bnd i + 1 + j
variable {its : List Item} {known : List Int} {had0 had had' : List Bool} {i j : Nat} {pre : List (Hx its known)}
theorem ItI.start (h : Sound its known had0) : ItI its known had0 0 [] had0 := ⟨HadLe.refl _, h, fun _ => rfl, fun x r e => (by cases e), fun _ n _ hn => absurd hn (Nat.not_lt_zero _), Nat.zero_le _⟩
theorem ItM.next (h : ItM its known had0 i pre had) (hn : ∀ (hi : i < its.length), its[i].op = 4 → had.getD i false = true → allB had its[i].kids = true → False) : ItI its known had0 (i + 1) pre had :=
  ⟨h.le, h.so, h.ni, h.fs, fun e n hn' hlt => by
    by_cases he : n = i
    · subst he
      exact ⟨h.md e hn', fun h1 h2 h3 => (hn hn' h1 (by rw [h.ni e]; exact h2) (by rw [h.ni e]; exact h3)).elim⟩
    · exact h.cl e n hn' (by omega), by have := h.ln; rw [bnd_succ]; omega⟩
theorem ItN.next (h : ItN its known had0 i j pre had) (hi : i < its.length) (hj : its[i].ments.length ≤ j) (hjl : j ≤ 8192) : ItI its known had0 (i + 1) pre had :=
  ⟨h.le, h.so, h.ni, h.fs, fun e n hn' hlt => by
    by_cases he : n = i
    · subst he
      refine ⟨h.md e hn', fun h1 h2 h3 m hm => ?_⟩
      obtain ⟨k, hk, rfl⟩ := List.mem_iff_getElem.1 hm
      exact h.mn e hn' k hk (by omega)
    · exact h.cl e n hn' (by omega), by have := h.ln; rw [bnd_succ]; omega⟩
def SAll (its : List Item) (known : List Int) (had0 : List Bool) (xs : List (Hx its known)) : Prop := (xs = [] → Closed its had0) ∧ ∀ x r, xs = x :: r → had0.getD x.1 false = false
theorem ItI.over (h : ItI its known had0 i pre had) (hi : its.length ≤ i) : SAll its known had0 pre := ⟨fun e n hn => ⟨(h.cl e n hn (by omega)).md, (h.cl e n hn (by omega)).op⟩, h.fs⟩
end Go.Proofs.YtnjomdjkbbhdoaaGreatDoor
namespace Go.Proofs.YtnjomdjkbbhdoaaGreatDoor
set_option linter.unusedVariables false
set_option linter.unusedSimpArgs false
def itemT (ts : List T) (n : Nat) (t : T) : Item := ⟨t.op, t.kids.map (posT ts), mentS t.data (n : Int)⟩
def itemsT (ts : List T) : List Item := ts.mapIdx (itemT ts)
theorem Clos.mem {its : List Item} {known zs : List Int} (h : Clos its known zs) {n : Int} : n ∈ zs ↔ 0 ≤ n ∧ n < (its.length : Int) ∧ Had its known n.toNat := by
  rw [h.2]
  constructor
  · rintro ⟨k, h1, rfl, h2⟩
    exact ⟨by omega, by omega, by simpa using h2⟩
  · rintro ⟨h1, h2, h3⟩
    exact ⟨n.toNat, by omega, by omega, h3⟩
theorem had_inK {its : List Item} {known : List Int} {z : Int} (h : z ∈ known) (h0 : 0 ≤ z) (hn : z < (its.length : Int)) : Had its known z.toNat :=
  had_known (by rwa [Int.toNat_of_nonneg h0]) (by omega)
theorem Clos.len {its : List Item} {known zs : List Int} (h : Clos its known zs) : zs.length ≤ its.length := by
  have := strict_len (b := (List.range its.length).map fun (k : Nat) => (k : Int)) h.1 fun x hx => by
    obtain ⟨k, h1, rfl, _⟩ := (h.2 x).1 hx
    exact List.mem_map.2 ⟨k, List.mem_range.2 h1, rfl⟩
  simpa using this
theorem Clos.has {its : List Item} {known a : List Int} (ha : Clos its known a) {x : Int} (hx : x ∈ known) (h0 : 0 ≤ x) (h1 : x < (its.length : Int)) : x ∈ a := ha.mem.2 ⟨h0, h1, had_inK hx h0 h1⟩
end Go.Proofs.YtnjomdjkbbhdoaaGreatDoor
namespace Go.Proofs.YtnjomdjkbbhdoaaGreatDoor
open Go.RowKit
set_option linter.unusedVariables false
set_option linter.unusedSimpArgs false
set_option linter.unusedSectionVars false
def RowI (σ : Hp) (xs : List Value) (its : List Item) : Prop := xs.length = its.length * 3 ∧ ∀ i (h : i < its.length), ItemC σ ((xs.drop (i * 3)).take 3) its[i]
theorem RowI.nil (σ : Hp) : RowI σ [] [] := ⟨rfl, fun i h => by simp at h⟩
theorem RowI.le {σ τ : Hp} (hl : Le σ τ) {xs : List Value} {its : List Item} (h : RowI σ xs its) : RowI τ xs its := ⟨h.1, fun i hi => (h.2 i hi).le hl⟩
theorem ItemC.len {σ : Hp} {cs : List Value} {x : Item} (h : ItemC σ cs x) : cs.length = 3 := by
  obtain ⟨_, _, rfl, _⟩ := h; rfl
theorem RowI.snoc {σ : Hp} {xs cs : List Value} {its : List Item} {x : Item} (h : RowI σ xs its) (hc : ItemC σ cs x) : RowI σ (xs ++ cs) (its ++ [x]) := by
  have hl := h.1
  have hcl := hc.len
  refine ⟨by simp [hl, hcl, Nat.add_mul], fun i hi => ?_⟩
  rw [List.length_append, List.length_singleton] at hi
  by_cases e : i < its.length
  · rw [List.getElem_append_left e, List.drop_append_of_le_length (by omega), List.take_append_of_le_length (by rw [List.length_drop]; omega)]
    exact h.2 i e
  · obtain rfl : i = its.length := by omega
    rw [List.getElem_concat_length rfl, ← hl, List.drop_left, List.take_of_length_le (by omega)]
    exact hc
theorem RowI.one {σ : Hp} {xs : List Value} {its : List Item} (h : RowI σ xs its) : ∀ v ∈ xs, v.oneCell' = true := fun v hv => by
  obtain ⟨j, hj, rfl⟩ := List.mem_iff_getElem.1 hv
  have hl := h.1
  have hi : j / 3 < its.length := by omega
  refine (h.2 _ hi).one _ (List.mem_iff_getElem?.2 ⟨j % 3, ?_⟩)
  rw [List.getElem?_take, if_pos (Nat.mod_lt _ (by decide)), List.getElem?_drop, show j / 3 * 3 + j % 3 = j by omega]
  exact List.getElem?_eq_getElem hj
section
variable {P : Program} {l0 : List Oper} {Q : Exit → Act → World → Prop} {r : List Oper} {fin : List KE → Prop} {N i : Nat} {L0 L : TL} {K : List KE} {d : Nat} {ty : TypeId} {pos : String} {af : Array Edge} {g : Option (Nat × Bool)} {op : Op} {w0 : World} {M : Nat → Prop} {σ : Hp} {H G : List (Nat × Obj)}
def NewB (w0 : World) (σ : Hp) (X : List (Nat × Obj)) (o : Obj) (w : World) (v : Value) : Prop := ∃ b, v = .pointer (some ⟨b, 0, none⟩) ∧ w.heap[b]? = some o ∧ w0.heap.size ≤ b ∧ σ b = none ∧ ∀ p ∈ X, p.1 ≠ b
def NewR (w0 : World) (σ : Hp) (X : List (Nat × Obj)) (e n : Nat) (xs : List Value) (w : World) (v : Value) : Prop := ∃ Gs, OwnSl e 1 v n xs Gs ∧ Own Gs w ∧ ∀ p ∈ Gs, w0.heap.size ≤ p.1 ∧ σ p.1 = none ∧ ∀ q ∈ X, q.1 ≠ p.1
theorem NewB.pers {X : List (Nat × Obj)} {o : Obj} : ∀ w w' v, NewB w0 σ X o w v → Below w.heap.size w w' → NewB w0 σ X o w' v := fun w w' v ⟨b, h1, h2, h3⟩ hb =>
  ⟨b, h1, by rw [hb.block b (Array.getElem?_eq_some_iff.1 h2).1]; exact h2, h3⟩
theorem NewR.pers {X : List (Nat × Obj)} {e n : Nat} {xs : List Value} : ∀ w w' v, NewR w0 σ X e n xs w v → Below w.heap.size w w' → NewR w0 σ X e n xs w' v := fun w w' v ⟨Gs, h1, h2, h3⟩ hb =>
  ⟨Gs, h1, fun p hp => by rw [hb.block p.1 (Array.getElem?_eq_some_iff.1 (h2 p hp)).1]; exact h2 p hp, h3⟩
def RepRowC (cs : List Value) (σ : Hp) (v : Value) : Prop := ∃ b, v = .slice (some ⟨b, 0, none⟩) 1 1 ∧ CellsAt σ b 0 cs
instance (cs : List Value) : MonoR (RepRowC cs) := ⟨fun hl ⟨b, e, h⟩ => ⟨b, e, h.le hl⟩⟩
end
theorem SeenV.le {σ τ : Hp} {b c m : Nat} {ts : List T} {p : Option Addr} (hl : Le σ τ) (h : SeenV σ b ts p c m) : SeenV τ b ts p c m := ⟨h.c0.le hl, h.c1.le hl, hl _ _ h.mp, h.cap, h.few, h.tab⟩
theorem St.grown {w0 W W' : World} {M : Nat → Prop} {τ : Hp} {H G : List (Nat × Obj)} {B : Nat} {row : Option Nat} (h : St w0 M τ H G W) (hg : W.grownBy W' row) (hr : ∀ r, row = some r → B ≤ r) (hτ : ∀ b o, τ b = some o → b < B) (hH : ∀ p ∈ H ++ G, p.1 < B) (h0 : w0.heap.size ≤ B) : St w0 M τ H G W' := by
  have key : ∀ k, k < W.heap.size → k < B → W'.heap[k]? = W.heap[k]? := fun k h1 h2 => hg.block k h1 (fun e => by have := hr k e.symm; omega)
  refine ⟨⟨hg.os.trans h.ag.os, hg.tape.trans h.ag.tape, hg.output.trans h.ag.output, Nat.le_trans h.ag.size hg.size, fun k hk hM => ?_⟩, fun b o e => ?_, fun p hp => ?_, St0.dj h, St0.mo h, St0.nd h⟩
  · rw [key k (Nat.lt_of_lt_of_le hk h.ag.size) (by omega)]; exact h.ag.block k hk hM
  · rw [key b (h.im.lt e) (hτ b o e)]; exact h.im b o e
  · rw [key p.1 (h.lt hp) (hH p hp)]; exact St0.ow h p hp
end Go.Proofs.YtnjomdjkbbhdoaaGreatDoor
namespace Go.Proofs.YtnjomdjkbbhdoaaGreatDoor
open Go.RowKit
set_option linter.unusedVariables false
set_option linter.unusedSimpArgs false
set_option linter.unusedSectionVars false
theorem St.less {w0 w : World} {M : Nat → Prop} {σ τ : Hp} {H G : List (Nat × Obj)} (h : St w0 M τ H G w) (hl : Le σ τ) : St w0 M σ H G w := h.le (fun b o e => h.im b o (hl b o e)) fun p hp => by
  cases e : σ p.1 with
  | none => rfl
  | some o =>
    have := hl p.1 o e
    rw [h.fresh hp] at this; cases this
end Go.Proofs.YtnjomdjkbbhdoaaGreatDoor
namespace Go.Proofs.YtnjomdjkbbhdoaaGreatDoor
set_option linter.unusedVariables false
set_option linter.unusedSimpArgs false
set_option linter.unusedSectionVars false
open Go.RowKit
section
variable [DS] {P : Program} {Q : Exit → Act → World → Prop} {N : Nat} {L : TL} {S : World → Prop} {α : Type}
def MeetE (N : Nat) (I : α → TL) (T : α → World → Prop) (a : Act) (w : World) : Prop := ∃ x, Fr N (I x) a ∧ T x w
theorem cw_cutE {x y : Code} (I : α → TL) (T : α → World → Prop) (h1 : CW P x (Exit.then (MeetE N I T) Q) N L S) (h2 : ∀ z, CW P y Q N (I z) (T z)) : CW P (.seq x y) Q N L S := fun a w hf hs =>
  wp_seq (wp_mono (h1 a w hf hs) (fun e a' w' h => by
    cases e with
    | normal => obtain ⟨z, h3, h4⟩ := h; exact h2 z a' w' h3 h4
    | _ => exact h))
theorem qw_meetE {I : α → TL} {T : α → World → Prop} (z : α) (hl : subL L (I z)) (hS : ∀ w, S w → T z w) : QW (Exit.then (MeetE N I T) Q) .normal N L S := fun a w hf hs => ⟨z, hf.sub hl, hS w hs⟩
end
variable {ts : List T} {known : List Int} {had0 had : List Bool} {i j : Nat} {pre : List (Hx (itemsT ts) known)}
end Go.Proofs.YtnjomdjkbbhdoaaGreatDoor
namespace Go.Proofs.YtnjomdjkbbhdoaaGreatDoor
open Go.RowKit
set_option linter.unusedVariables false
set_option linter.unusedSimpArgs false
structure OpC where
  what : Int
  a : Int
  b : Int
  num : Int
  msg : List UInt8
def OpIn (σ : Hp) (b o : Nat) (x : OpC) : Prop := ∃ mv, CellsAt σ b o [.int .i64 x.what, .int .i64 x.a, .int .i64 x.b, .int .i64 x.num, mv] ∧ (-9223372036854775808 ≤ x.num ∧ x.num ≤ 9223372036854775807) ∧ BytesV σ mv x.msg
def OpsV (σ : Hp) (v : Value) (l : List OpC) : Prop := ∃ p c, v = .slice p l.length c ∧ l.length ≤ c ∧ (l = [] ∨ ∃ b o, p = some ⟨b, o, none⟩ ∧ ∀ i (h : i < l.length), OpIn σ b (o + i * 5) l[i])
theorem OpsV.slice {σ : Hp} {v : Value} {l : List OpC} (h : OpsV σ v l) : ∃ p c, v = .slice p l.length c := by
  obtain ⟨p, c, h1, _⟩ := h; exact ⟨p, c, h1⟩
theorem OpsV.get {σ : Hp} {v : Value} {l : List OpC} (h : OpsV σ v l) (i : Nat) (hi : i < l.length) : ∃ b o c mv, v = .slice (some ⟨b, o, none⟩) l.length c ∧ CellsAt σ b (o + i * 5) [.int .i64 l[i].what, .int .i64 l[i].a, .int .i64 l[i].b, .int .i64 l[i].num, mv] ∧ (-9223372036854775808 ≤ l[i].num ∧ l[i].num ≤ 9223372036854775807) ∧ BytesV σ mv l[i].msg := by
  obtain ⟨p, c, h1, _, h2⟩ := h
  rcases h2 with h2 | ⟨b, o, rfl, h3⟩
  · subst h2; simp at hi
  · obtain ⟨mv, h4, h5, h6⟩ := h3 i hi
    exact ⟨b, o, c, mv, h1, h4, h5, h6⟩
section
variable {P : Program} {N : Nat} {L : TL} {S : World → Prop} {t u : TypeId} {x y : Operand} {m n : Int} {k : IntKind}
theorem ex_rem (hx : ev L x = some (.int k m)) (hy : ev L y = some (.int k n)) (hn : n ≠ 0) : Ex P (.binOp .rem t x y u) N L S (.int k (m.tmod n)) := ex_bin .rem hx hy fun w => by simp [binOp, Op.intDiv, hn]
end
end Go.Proofs.YtnjomdjkbbhdoaaGreatDoor
namespace Go.Proofs.YtnjomdjkbbhdoaaGreatDoor
open Go.RowKit
set_option linter.unusedVariables false
set_option linter.unusedSimpArgs false
set_option maxRecDepth 100000
theorem bothR {u : Value} {σ' : Hp} {K' : List (Nat × Obj)} (h : (u = .tuple #[.pointer none, .pointer none, .bool false] ∧ K' = []) ∨ ∃ (bv bd : Nat) (Kv Kd : List (Nat × Obj)) (ts : List T), u = .tuple #[.pointer (some ⟨bv, 0, none⟩), .pointer (some ⟨bd, 0, none⟩), .bool true] ∧ K' = Kv ++ Kd ∧ VaultK 80 32 bv ts σ' Kv ∧ RefK 63 32 bd ts σ' Kd) : ∃ pv pd ok, u = .tuple #[.pointer pv, .pointer pd, .bool ok] ∧ (ok = true → ∃ (bv bd : Nat) (Kv Kd : List (Nat × Obj)) (ts : List T), pv = some ⟨bv, 0, none⟩ ∧ pd = some ⟨bd, 0, none⟩ ∧ K' = Kv ++ Kd ∧ VaultK 80 32 bv ts σ' Kv ∧ RefK 63 32 bd ts σ' Kd) := by
  rcases h with ⟨h, _⟩ | ⟨bv, bd, Kv, Kd, ts, h, h1, h2, h3⟩
  · exact ⟨none, none, false, h, fun h => by cases h⟩
  · exact ⟨_, _, true, h, fun _ => ⟨bv, bd, Kv, Kd, ts, rfl, rfl, h1, h2, h3⟩⟩
end Go.Proofs.YtnjomdjkbbhdoaaGreatDoor
namespace Go.Proofs.YtnjomdjkbbhdoaaGreatDoor
open Go.RowKit
set_option linter.unusedVariables false
set_option linter.unusedSimpArgs false
set_option maxRecDepth 100000
set_option maxHeartbeats 400000 in
theorem pBothNil {op x y : Int} {σ : Hp} {w : World} (hi : Imm σ w) : Calls Tryz.prog 64 #[.pointer none, .int .i64 op, .int .i64 x, .int .i64 y] w fun e w' => e = .returned (.tuple #[.agg #[.int .i64 0, .int .i64 0, .slice none 0 0, .slice none 0 0], .agg #[.int .i64 0, .int .i64 0, .slice none 0 0, .slice none 0 0], .bool false]) ∧ Below w.heap.size w w' := by
  refine enter (St w (fun _ => False) σ [] []) Tryz.func64 rfl Tryz.ntmps64 rfl (St.start hi) ?_
  refine cw_seq ?_
  refine cw_region ?_
  refine ow_blk rfl rfl exw_alloc ?_; intro b8
  refine ow_blk rfl rfl exw_alloc ?_; intro b9
  refine ow_val rfl rfl (ex_assign rfl) ?_
  refine ow_nil ?_
  refine qw_seq ?_
  refine cw_seq ?_
  refine cw_seq ?_
  refine cw_region ?_
  refine ow_val rfl rfl (ex_move rfl) ?_
  refine ow_val rfl rfl (ex_ptrnil rfl) ?_
  refine ow_nil ?_
  refine qw_seq ?_
  refine cw_cond rfl (fun c16 => ?_) (fun c16 => ?_)
  ·
    refine cw_seq ?_
    refine cw_region ?_
    refine ow_val rfl rfl (ex_build (parts := []) (cells := #[.int .i64 0, .int .i64 0, .slice none 0 0, .slice none 0 0]) rfl (by kernel_rfl)) ?_
    refine ow_val rfl rfl (ex_build (parts := []) (cells := #[.int .i64 0, .int .i64 0, .slice none 0 0, .slice none 0 0]) rfl (by kernel_rfl)) ?_
    refine ow_u rfl (exu_storeN 1 rfl rfl rfl rfl (zeroT_c σ).one rfl) ?_
    refine ow_u rfl (exu_storeN 0 rfl rfl rfl rfl (zeroT_c σ).one rfl) ?_
    refine ow_val rfl rfl (ex_assign rfl) ?_
    refine ow_nil ?_
    refine qw_seq ?_
    refine cw_ret ?_
    refine qw_then_ret ?_
    refine qw_retCC1 rfl rfl (ld_ownN 1 rfl rfl) rfl (ld_ownN 0 rfl rfl) rfl (fun w' h => ⟨rfl, h.ag.below⟩)
  ·
    simp at c16
set_option maxHeartbeats 400000 in
theorem pVerifyNil {pub sig : Int} {mv : Value} {σ : Hp} {w : World} (hi : Imm σ w) : Calls Tryz.prog 33 #[.pointer none, .int .i64 pub, mv, .int .i64 sig] w fun e w' => e = .returned (.bool false) ∧ Below w.heap.size w w' := by
  refine enter (St w (fun _ => False) σ [] []) Tryz.func33 rfl Tryz.ntmps33 rfl (St.start hi) ?_
  refine cw_seq ?_
  refine cw_region ?_
  refine ow_val rfl rfl (ex_assign rfl) ?_
  refine ow_nil ?_
  refine qw_seq ?_
  refine cw_seq ?_
  refine cw_region ?_
  refine ow_val rfl rfl (ex_move rfl) ?_
  refine ow_val rfl rfl (ex_move rfl) ?_
  refine ow_val rfl rfl (ex_move rfl) ?_
  refine ow_cv rfl rfl (ex_callf rfl (fun w h => callB ((pBothNil h.im)))) ?_
  refine ow_val rfl rfl (ex_move rfl) ?_
  refine ow_val rfl rfl (ex_extract rfl rfl) ?_
  refine ow_val rfl rfl (ex_extract rfl rfl) ?_
  refine ow_val rfl rfl (ex_extract rfl rfl) ?_
  refine ow_blk rfl rfl exw_alloc ?_; intro b9
  refine ow_blk rfl rfl exw_alloc ?_; intro b10
  refine ow_u rfl (exu_storeN 1 rfl rfl rfl rfl (zeroT_c σ).one rfl) ?_
  refine ow_u rfl (exu_storeN 0 rfl rfl rfl rfl (zeroT_c σ).one rfl) ?_
  refine ow_val rfl rfl (ex_assign rfl) ?_
  refine ow_nil ?_
  refine qw_seq ?_
  refine cw_seq ?_
  refine flow_sound 25 (by kernel_rfl) ?_
  refine flow_val rfl (ex_move rfl) ?_
  refine flow_val rfl (ex_move rfl) ?_
  refine flow_split rfl (fun s21 => ?_) (fun s21 => ?_)
  ·
    cases s21
  ·
    refine flow_skip (gd_no rfl s21) ?_
    refine flow_skip (gd_no rfl s21) ?_
    refine flow_skip (gd_no rfl s21) ?_
    refine flow_val rfl (ex_pickf rfl s21 rfl) ?_
    refine flow_val rfl (ex_move rfl) ?_
    refine flow_skip rfl ?_
    refine flow_skip rfl ?_
    refine flow_skip rfl ?_
    refine flow_skip rfl ?_
    refine flow_val rfl (ex_pick_f rfl rfl) ?_
    refine flow_val rfl (ex_move rfl) ?_
    refine flow_skip rfl ?_
    refine flow_skip rfl ?_
    refine flow_skip rfl ?_
    refine flow_skip rfl ?_
    refine flow_skip rfl ?_
    refine flow_skip rfl ?_
    refine flow_skip rfl ?_
    refine flow_skip rfl ?_
    refine flow_skip rfl ?_
    refine flow_skip rfl ?_
    refine flow_val rfl (ex_pick_f rfl rfl) ?_
    refine flow_val rfl (ex_assign rfl) ?_
    refine flow_nil ?_
    refine fin_is ?_
    refine fin_is ?_
    refine fin_is ?_
    refine fin_is ?_
    refine fin_is ?_
    refine fin_is ?_
    refine fin_is ?_
    refine fin_is ?_
    refine fin_is ?_
    refine fin_is ?_
    refine fin_is ?_
    refine fin_is ?_
    refine fin_is ?_
    refine fin_is ?_
    refine fin_is ?_
    refine fin_is ?_
    refine fin_is ?_
    refine fin_is ?_
    refine fin_is ?_
    refine fin_is ?_
    refine fin_is ?_
    refine fin_is ?_
    refine fin_is ?_
    refine fin_is ?_
    refine fin_is ?_
    refine fin_nil ?_
    refine ow_nil ?_
    refine qw_seq ?_
    refine cw_ret ?_
    refine qw_ret1 rfl rfl (fun w' h => ⟨rfl, h.ag.below⟩)
set_option maxHeartbeats 4000000 in
theorem lawPlays (ks : List T) (l : List OpC) {v lv : Value} {σ : Hp} {w : World} (hi : Imm σ w) (htab : TabC Tryz.prog σ) (hl : KidsV σ v ks) (hops : OpsV σ lv l) : Calls Tryz.prog 5 #[v, lv] w fun e w' => e = .returned (.bool true) ∧ Below w.heap.size w w' := by
  obtain ⟨p, c, rfl⟩ := hops.slice
  refine enter (St w (fun _ => False) σ [] []) Tryz.func5 rfl Tryz.ntmps5 rfl (St.start hi) ?_
  refine cw_seq ?_
  refine cw_region ?_
  refine ow_val rfl rfl (ex_assign rfl) ?_
  refine ow_nil ?_
  refine qw_seq ?_
  refine cw_seq ?_
  refine cw_region ?_
  refine ow_cv rfl rfl (ex_callf rfl (fun w h => callB ((pHead7 h.im htab)))) ?_
  refine ow_val rfl rfl (ex_assign rfl) ?_
  refine ow_nil ?_
  refine qw_seq ?_
  refine cw_seq ?_
  refine cw_region ?_
  refine ow_val rfl rfl (ex_move rfl) ?_
  refine ow_ck0E rfl rfl (ex_callf rfl (fun w h => pBothL ks h.im htab hl)) (fun v23 σ4 K4 hl4 hf4 hr4 => ?_)
  obtain ⟨pv, pd, ok, rfl, hok⟩ := bothR hr4
  refine ow_val rfl rfl (ex_move rfl) ?_
  refine ow_val rfl rfl (ex_extract rfl rfl) ?_
  refine ow_val rfl rfl (ex_extract rfl rfl) ?_
  refine ow_val rfl rfl (ex_extract rfl rfl) ?_
  refine ow_val rfl rfl (ex_assign rfl) ?_
  refine ow_val rfl rfl (ex_assign rfl) ?_
  refine ow_val rfl rfl (ex_assign rfl) ?_
  refine ow_nil ?_
  refine qw_seq ?_
  refine cw_seq ?_
  refine cw_seq ?_
  refine cw_region ?_
  refine ow_val rfl rfl (ex_move rfl) ?_
  refine ow_val rfl rfl (ex_not rfl) ?_
  refine ow_val rfl rfl (ex_move rfl) ?_
  refine ow_split (g := some (2, false)) rfl (fun s29 => ?_) (fun s29 => ?_)
  ·
    refine ow_skip rfl (gd_no rfl s29) ?_
    refine ow_skip rfl (gd_no rfl s29) ?_
    refine ow_skip rfl (gd_no rfl s29) ?_
    refine ow_val rfl rfl (ex_pickt rfl s29 rfl) ?_
    refine ow_nil ?_
    refine qw_seq ?_
    refine cw_cond_t rfl ?_
    refine cw_seq ?_
    refine cw_region ?_
    refine ow_val rfl rfl (ex_move rfl) ?_
    refine ow_val rfl rfl (ex_assign rfl) ?_
    refine ow_nil ?_
    refine qw_seq ?_
    refine cw_ret ?_
    refine qw_then_ret ?_
    refine qw_ret1 rfl rfl (fun w' h => ⟨congrArg (fun z => Ending.returned (.bool z)) ?_, h.ag.below⟩)
    rfl
  ·
    have hok1 : ok = true := by simpa using s29
    obtain ⟨bv, bd, Kv, Kd, ts, rfl, rfl, rfl, hv4, hd4⟩ := hok hok1
    subst hok1
    refine ow_val rfl (gd_go rfl s29) (ex_move rfl) ?_
    refine ow_val rfl (gd_go rfl s29) (ex_len (ty := 0) rfl) ?_
    refine ow_val rfl (gd_go rfl s29) (ex_gtr rfl rfl) ?_
    refine ow_val rfl rfl (ex_pickf rfl s29 rfl) ?_
    refine ow_nil ?_
    refine qw_seq ?_
    refine cw_cond rfl (fun c33 => ?_) (fun c33 => ?_)
    ·
      refine cw_seq ?_
      refine cw_region ?_
      refine ow_val rfl rfl (ex_move rfl) ?_
      refine ow_val rfl rfl (ex_assign rfl) ?_
      refine ow_nil ?_
      refine qw_seq ?_
      refine cw_ret ?_
      refine qw_then_ret ?_
      refine qw_ret1 rfl rfl (fun w' h => ⟨congrArg (fun z => Ending.returned (.bool z)) ?_, h.ag.below⟩)
      rfl
    ·
      have hfew0 : l.length ≤ 300 := by have := of_decide_eq_false c33; omega
      refine cw_skip ?_
      refine qw_seq ?_
      refine cw_seq ?_
      refine cw_seq ?_
      refine cw_region ?_
      refine ow_val rfl rfl (ex_assign rfl) ?_
      refine ow_nil ?_
      refine qw_seq ?_
      refine cw_block ?_
      refine cw_loop5 (fun (i : Nat) (ts : List T) (τ : Hp) (Kv Kd : List (Nat × Obj)) => [(1, .slice p l.length c), (5, .bool true), (6, .pointer (some ⟨bv, 0, none⟩)), (7, .pointer (some ⟨bd, 0, none⟩)), (9, .int .i64 (i : Int))]) (fun i ts τ Kv Kd => i ≤ l.length ∧ Le σ τ ∧ Fresh σ τ w ∧ VaultK 80 32 bv ts τ Kv ∧ RefK 63 32 bd ts τ Kd) (fun i ts τ Kv Kd => τ) (fun i ts τ Kv Kd => Kv ++ Kd) (fun i _ _ _ _ => l.length - i) 0 ts σ4 Kv Kd (subL_cons (lkv rfl (by first | rfl | simp)) (subL_cons (lkv rfl (by first | rfl | simp)) (subL_cons (lkv rfl (by first | rfl | simp)) (subL_cons (lkv rfl (by first | rfl | simp)) (subL_cons (lkv rfl (by first | rfl | simp)) (subL_nil _)))))) ⟨Nat.zero_le _, hl4, hf4, hv4, hd4⟩ (fun w h => h) ?_
      clear hl4 hf4 hv4 hd4
      intro i ts τj Kv Kd ⟨hlej, hlj, hfj, hvj, hdj⟩
      refine cw_seq ?_
      refine cw_seq ?_
      refine cw_region ?_
      refine ow_val rfl rfl (ex_move rfl) ?_
      refine ow_val rfl rfl (ex_move rfl) ?_
      refine ow_val rfl rfl (ex_len (ty := 0) rfl) ?_
      refine ow_val rfl rfl (ex_lss rfl rfl) ?_
      refine ow_nil ?_
      refine qw_seq ?_
      refine cw_cond rfl (fun c38 => ?_) (fun c38 => ?_)
      ·
        refine cw_skip ?_
        refine qw_seq ?_
        refine cw_seq ?_
        refine cw_block ?_
        refine cw_seq ?_
        have hlt : i < l.length := by have := of_decide_eq_true c38; omega
        obtain ⟨bo, fo, c', mv, e9, hco, hnum, hmo⟩ := hops.get i hlt
        cases e9
        obtain ⟨pm, cm, rfl, _, _⟩ := hmo.slice
        have hmj := hmo.le hlj
        refine cw_region ?_
        refine ow_val rfl rfl (ex_move rfl) ?_
        refine ow_val rfl rfl (ex_move rfl) ?_
        refine ow_val rfl rfl (ex_index_nat rfl rfl (by omega)) ?_
        refine ow_val rfl rfl (ex_loadR rfl ⟨rfl, fun w h => (hco.le hlj).range h.im⟩) ?_
        refine ow_blk rfl rfl exw_alloc ?_; intro b10
        refine ow_u rfl (exu_storeN 0 (cs := [.int .i64 l[i].what, .int .i64 l[i].a, .int .i64 l[i].b, .int .i64 l[i].num, .slice pm l[i].msg.length cm]) rfl rfl rfl rfl (fun u hu => by simp only [List.mem_cons, List.not_mem_nil, or_false] at hu; rcases hu with rfl | rfl | rfl | rfl | rfl <;> rfl) rfl) ?_
        refine ow_nil ?_
        refine qw_seq ?_
        refine cw_seq ?_
        refine cw_region ?_
        refine ow_val rfl rfl (ex_assign rfl) ?_
        refine ow_val rfl rfl (ex_assign rfl) ?_
        refine ow_nil ?_
        refine qw_seq ?_
        refine cw_seq ?_
        refine cw_region ?_
        refine ow_val rfl rfl (ex_assign rfl) ?_
        refine ow_val rfl rfl (ex_assign rfl) ?_
        refine ow_nil ?_
        refine qw_seq ?_
        refine cw_seq ?_
        refine cw_region ?_
        refine ow_val rfl rfl (ex_assign rfl) ?_
        refine ow_nil ?_
        refine qw_seq ?_
        refine cw_cutE (fun z : Int × Int × List T × Hp × List (Nat × Obj) × List (Nat × Obj) => [(1, .slice (some ⟨bo, fo, none⟩) l.length c), (5, .bool true), (6, .pointer (some ⟨bv, 0, none⟩)), (7, .pointer (some ⟨bd, 0, none⟩)), (9, .int .i64 (i : Int)), (11, .int .i64 z.1), (12, .int .i64 z.1), (13, .int .i64 z.2.1), (14, .int .i64 z.2.1), (15, .bool true)]) (fun z w' => (Le τj z.2.2.2.1 ∧ Fresh τj z.2.2.2.1 w ∧ VaultK 80 32 bv z.2.2.1 z.2.2.2.1 z.2.2.2.2.1 ∧ RefK 63 32 bd z.2.2.1 z.2.2.2.1 z.2.2.2.2.2) ∧ St w (fun _ => False) z.2.2.2.1 [] (z.2.2.2.2.1 ++ z.2.2.2.2.2) w') ?_ ?_
        ·
          refine cw_seq ?_
          refine cw_region ?_
          refine ow_val rfl rfl (ex_field rfl) ?_
          refine ow_val rfl rfl (ex_load1 rfl (by first | exact ld_own1 0 rfl rfl | exact ld_own1 1 rfl rfl | exact ld_own1 2 rfl rfl | exact ld_own1 3 rfl rfl | exact ld_own1 4 rfl rfl | exact ld_own1 5 rfl rfl | exact ld_own1 6 rfl rfl | exact ld_own1 7 rfl rfl | exact ld_ownG1 0 rfl rfl | exact ld_ownG1 1 rfl rfl | exact ld_imm1 (by assumption))) ?_
          refine ow_val rfl rfl (ex_rem rfl rfl (by decide)) ?_
          refine ow_nil ?_
          refine qw_seq ?_
          refine cw_block ?_
          refine cw_seq ?_
          refine cw_region ?_
          refine ow_val rfl rfl (ex_eql rfl rfl) ?_
          refine ow_val rfl rfl (ex_assign rfl) ?_
          refine ow_nil ?_
          refine qw_seq ?_
          refine cw_cond rfl (fun c48 => ?_) (fun c48 => ?_)
          ·
            refine cw_seq ?_
            refine cw_region ?_
            refine ow_val rfl rfl (ex_move rfl) ?_
            refine ow_val rfl rfl (ex_field rfl) ?_
            refine ow_val rfl rfl (ex_load1 rfl (by first | exact ld_own1 0 rfl rfl | exact ld_own1 1 rfl rfl | exact ld_own1 2 rfl rfl | exact ld_own1 3 rfl rfl | exact ld_own1 4 rfl rfl | exact ld_own1 5 rfl rfl | exact ld_own1 6 rfl rfl | exact ld_own1 7 rfl rfl | exact ld_ownG1 0 rfl rfl | exact ld_ownG1 1 rfl rfl | exact ld_imm1 (by assumption))) ?_
            refine ow_ck rfl rfl (ex_callf rfl (fun w h => pAtom h.has (htab.le hlj) hvj hnum)) (fun v14 τ2 K2 hl2 hf2 hr2 => ?_)
            obtain ⟨rfl, hv2⟩ := hr2
            refine ow_val rfl rfl (ex_move rfl) ?_
            refine ow_val rfl rfl (ex_extract rfl rfl) ?_
            refine ow_val rfl rfl (ex_extract rfl rfl) ?_
            refine ow_val rfl rfl (ex_assign rfl) ?_
            refine ow_val rfl rfl (ex_assign rfl) ?_
            refine ow_nil ?_
            refine qw_seq ?_
            refine cw_region ?_
            refine ow_val rfl rfl (ex_move rfl) ?_
            refine ow_val rfl rfl (ex_field rfl) ?_
            refine ow_val rfl rfl (ex_load1 rfl (by first | exact ld_own1 0 rfl rfl | exact ld_own1 1 rfl rfl | exact ld_own1 2 rfl rfl | exact ld_own1 3 rfl rfl | exact ld_own1 4 rfl rfl | exact ld_own1 5 rfl rfl | exact ld_own1 6 rfl rfl | exact ld_own1 7 rfl rfl | exact ld_ownG1 0 rfl rfl | exact ld_ownG1 1 rfl rfl | exact ld_imm1 (by assumption))) ?_
            refine ow_mono (fun w h => h.permG List.perm_append_comm) ?_
            refine ow_ck rfl rfl (ex_callf rfl (fun w h => rAtom h.has (hdj.le hl2) hnum)) (fun v15 τ3 K3 hl3 hf3 hr3 => ?_)
            obtain ⟨rfl, hd3⟩ := hr3
            refine ow_mono (fun w h => h.permG List.perm_append_comm) ?_
            refine ow_val rfl rfl (ex_move rfl) ?_
            refine ow_val rfl rfl (ex_extract rfl rfl) ?_
            refine ow_val rfl rfl (ex_extract rfl rfl) ?_
            refine ow_val rfl rfl (ex_assign rfl) ?_
            refine ow_val rfl rfl (ex_assign rfl) ?_
            refine ow_nil ?_
            refine qw_block_normal ?_
            exact qw_meetE ((madeV ts (fun _ => (T.mk 1 l[i].num [] [], true)) []).1, (madeV ts (fun _ => (T.mk 1 l[i].num [] [], true)) []).2.1, (madeV ts (fun _ => (T.mk 1 l[i].num [] [], true)) []).2.2, τ3, K2, K3) (subL_cons (lkv rfl (by first | rfl | simp)) (subL_cons (lkv rfl (by first | rfl | simp)) (subL_cons (lkv rfl (by first | rfl | simp)) (subL_cons (lkv rfl (by first | rfl | simp)) (subL_cons (lkv rfl (by first | rfl | simp)) (subL_cons (lkv rfl (by first | rfl | simp)) (subL_cons (lkv rfl (by first | rfl | simp)) (subL_cons (lkv rfl (by first | rfl | simp)) (subL_cons (lkv rfl (by first | rfl | simp)) (subL_cons (lkv rfl (by first | rfl | simp)) (subL_nil _))))))))))) (fun w' h => ⟨⟨hl2.trans hl3, hf2.trans hf3, hv2.le hl3, hd3⟩, h.drop (List.nil_sublist _)⟩)
          ·
            refine cw_seq ?_
            refine cw_region ?_
            refine ow_val rfl rfl (ex_eql rfl rfl) ?_
            refine ow_val rfl rfl (ex_assign rfl) ?_
            refine ow_nil ?_
            refine qw_seq ?_
            refine cw_cond rfl (fun c64 => ?_) (fun c64 => ?_)
            ·
              refine cw_seq ?_
              refine cw_region ?_
              refine ow_val rfl rfl (ex_move rfl) ?_
              refine ow_val rfl rfl (ex_field rfl) ?_
              refine ow_val rfl rfl (ex_load1 rfl (by first | exact ld_own1 0 rfl rfl | exact ld_own1 1 rfl rfl | exact ld_own1 2 rfl rfl | exact ld_own1 3 rfl rfl | exact ld_own1 4 rfl rfl | exact ld_own1 5 rfl rfl | exact ld_own1 6 rfl rfl | exact ld_own1 7 rfl rfl | exact ld_ownG1 0 rfl rfl | exact ld_ownG1 1 rfl rfl | exact ld_imm1 (by assumption))) ?_
              refine ow_ck rfl rfl (ex_callf rfl (fun w h => pExp h.has (htab.le hlj) hvj )) (fun v17 τ2 K2 hl2 hf2 hr2 => ?_)
              obtain ⟨rfl, hv2⟩ := hr2
              refine ow_val rfl rfl (ex_move rfl) ?_
              refine ow_val rfl rfl (ex_extract rfl rfl) ?_
              refine ow_val rfl rfl (ex_extract rfl rfl) ?_
              refine ow_val rfl rfl (ex_assign rfl) ?_
              refine ow_val rfl rfl (ex_assign rfl) ?_
              refine ow_nil ?_
              refine qw_seq ?_
              refine cw_region ?_
              refine ow_val rfl rfl (ex_move rfl) ?_
              refine ow_val rfl rfl (ex_field rfl) ?_
              refine ow_val rfl rfl (ex_load1 rfl (by first | exact ld_own1 0 rfl rfl | exact ld_own1 1 rfl rfl | exact ld_own1 2 rfl rfl | exact ld_own1 3 rfl rfl | exact ld_own1 4 rfl rfl | exact ld_own1 5 rfl rfl | exact ld_own1 6 rfl rfl | exact ld_own1 7 rfl rfl | exact ld_ownG1 0 rfl rfl | exact ld_ownG1 1 rfl rfl | exact ld_imm1 (by assumption))) ?_
              refine ow_mono (fun w h => h.permG List.perm_append_comm) ?_
              refine ow_ck rfl rfl (ex_callf rfl (fun w h => rExp h.has (hdj.le hl2) )) (fun v18 τ3 K3 hl3 hf3 hr3 => ?_)
              obtain ⟨rfl, hd3⟩ := hr3
              refine ow_mono (fun w h => h.permG List.perm_append_comm) ?_
              refine ow_val rfl rfl (ex_move rfl) ?_
              refine ow_val rfl rfl (ex_extract rfl rfl) ?_
              refine ow_val rfl rfl (ex_extract rfl rfl) ?_
              refine ow_val rfl rfl (ex_assign rfl) ?_
              refine ow_val rfl rfl (ex_assign rfl) ?_
              refine ow_nil ?_
              refine qw_block_normal ?_
              exact qw_meetE ((madeV ts (ofT 7 []) [l[i].a]).1, (madeV ts (ofT 7 []) [l[i].a]).2.1, (madeV ts (ofT 7 []) [l[i].a]).2.2, τ3, K2, K3) (subL_cons (lkv rfl (by first | rfl | simp)) (subL_cons (lkv rfl (by first | rfl | simp)) (subL_cons (lkv rfl (by first | rfl | simp)) (subL_cons (lkv rfl (by first | rfl | simp)) (subL_cons (lkv rfl (by first | rfl | simp)) (subL_cons (lkv rfl (by first | rfl | simp)) (subL_cons (lkv rfl (by first | rfl | simp)) (subL_cons (lkv rfl (by first | rfl | simp)) (subL_cons (lkv rfl (by first | rfl | simp)) (subL_cons (lkv rfl (by first | rfl | simp)) (subL_nil _))))))))))) (fun w' h => ⟨⟨hl2.trans hl3, hf2.trans hf3, hv2.le hl3, hd3⟩, h.drop (List.nil_sublist _)⟩)
            ·
              refine cw_seq ?_
              refine cw_region ?_
              refine ow_val rfl rfl (ex_eql rfl rfl) ?_
              refine ow_val rfl rfl (ex_assign rfl) ?_
              refine ow_nil ?_
              refine qw_seq ?_
              refine cw_cond rfl (fun c80 => ?_) (fun c80 => ?_)
              ·
                refine cw_seq ?_
                refine cw_region ?_
                refine ow_val rfl rfl (ex_move rfl) ?_
                refine ow_val rfl rfl (ex_field rfl) ?_
                refine ow_val rfl rfl (ex_load1 rfl (by first | exact ld_own1 0 rfl rfl | exact ld_own1 1 rfl rfl | exact ld_own1 2 rfl rfl | exact ld_own1 3 rfl rfl | exact ld_own1 4 rfl rfl | exact ld_own1 5 rfl rfl | exact ld_own1 6 rfl rfl | exact ld_own1 7 rfl rfl | exact ld_ownG1 0 rfl rfl | exact ld_ownG1 1 rfl rfl | exact ld_imm1 (by assumption))) ?_
                refine ow_val rfl rfl (ex_field rfl) ?_
                refine ow_val rfl rfl (ex_load1 rfl (by first | exact ld_own1 0 rfl rfl | exact ld_own1 1 rfl rfl | exact ld_own1 2 rfl rfl | exact ld_own1 3 rfl rfl | exact ld_own1 4 rfl rfl | exact ld_own1 5 rfl rfl | exact ld_own1 6 rfl rfl | exact ld_own1 7 rfl rfl | exact ld_ownG1 0 rfl rfl | exact ld_ownG1 1 rfl rfl | exact ld_imm1 (by assumption))) ?_
                refine ow_ck rfl rfl (ex_callf rfl (fun w h => pPowK h.has (htab.le hlj) hvj )) (fun v20 τ2 K2 hl2 hf2 hr2 => ?_)
                obtain ⟨rfl, hv2⟩ := hr2
                refine ow_val rfl rfl (ex_move rfl) ?_
                refine ow_val rfl rfl (ex_extract rfl rfl) ?_
                refine ow_val rfl rfl (ex_extract rfl rfl) ?_
                refine ow_val rfl rfl (ex_assign rfl) ?_
                refine ow_val rfl rfl (ex_assign rfl) ?_
                refine ow_nil ?_
                refine qw_seq ?_
                refine cw_region ?_
                refine ow_val rfl rfl (ex_move rfl) ?_
                refine ow_val rfl rfl (ex_field rfl) ?_
                refine ow_val rfl rfl (ex_load1 rfl (by first | exact ld_own1 0 rfl rfl | exact ld_own1 1 rfl rfl | exact ld_own1 2 rfl rfl | exact ld_own1 3 rfl rfl | exact ld_own1 4 rfl rfl | exact ld_own1 5 rfl rfl | exact ld_own1 6 rfl rfl | exact ld_own1 7 rfl rfl | exact ld_ownG1 0 rfl rfl | exact ld_ownG1 1 rfl rfl | exact ld_imm1 (by assumption))) ?_
                refine ow_val rfl rfl (ex_field rfl) ?_
                refine ow_val rfl rfl (ex_load1 rfl (by first | exact ld_own1 0 rfl rfl | exact ld_own1 1 rfl rfl | exact ld_own1 2 rfl rfl | exact ld_own1 3 rfl rfl | exact ld_own1 4 rfl rfl | exact ld_own1 5 rfl rfl | exact ld_own1 6 rfl rfl | exact ld_own1 7 rfl rfl | exact ld_ownG1 0 rfl rfl | exact ld_ownG1 1 rfl rfl | exact ld_imm1 (by assumption))) ?_
                refine ow_mono (fun w h => h.permG List.perm_append_comm) ?_
                refine ow_ck rfl rfl (ex_callf rfl (fun w h => rPowK h.has (hdj.le hl2) )) (fun v21 τ3 K3 hl3 hf3 hr3 => ?_)
                obtain ⟨rfl, hd3⟩ := hr3
                refine ow_mono (fun w h => h.permG List.perm_append_comm) ?_
                refine ow_val rfl rfl (ex_move rfl) ?_
                refine ow_val rfl rfl (ex_extract rfl rfl) ?_
                refine ow_val rfl rfl (ex_extract rfl rfl) ?_
                refine ow_val rfl rfl (ex_assign rfl) ?_
                refine ow_val rfl rfl (ex_assign rfl) ?_
                refine ow_nil ?_
                refine qw_block_normal ?_
                exact qw_meetE ((madeV ts (powG) [l[i].a, l[i].b]).1, (madeV ts (powG) [l[i].a, l[i].b]).2.1, (madeV ts (powG) [l[i].a, l[i].b]).2.2, τ3, K2, K3) (subL_cons (lkv rfl (by first | rfl | simp)) (subL_cons (lkv rfl (by first | rfl | simp)) (subL_cons (lkv rfl (by first | rfl | simp)) (subL_cons (lkv rfl (by first | rfl | simp)) (subL_cons (lkv rfl (by first | rfl | simp)) (subL_cons (lkv rfl (by first | rfl | simp)) (subL_cons (lkv rfl (by first | rfl | simp)) (subL_cons (lkv rfl (by first | rfl | simp)) (subL_cons (lkv rfl (by first | rfl | simp)) (subL_cons (lkv rfl (by first | rfl | simp)) (subL_nil _))))))))))) (fun w' h => ⟨⟨hl2.trans hl3, hf2.trans hf3, hv2.le hl3, hd3⟩, h.drop (List.nil_sublist _)⟩)
              ·
                refine cw_seq ?_
                refine cw_region ?_
                refine ow_val rfl rfl (ex_eql rfl rfl) ?_
                refine ow_val rfl rfl (ex_assign rfl) ?_
                refine ow_nil ?_
                refine qw_seq ?_
                refine cw_cond rfl (fun c100 => ?_) (fun c100 => ?_)
                ·
                  refine cw_seq ?_
                  refine cw_region ?_
                  refine ow_val rfl rfl (ex_move rfl) ?_
                  refine ow_val rfl rfl (ex_field rfl) ?_
                  refine ow_val rfl rfl (ex_load1 rfl (by first | exact ld_own1 0 rfl rfl | exact ld_own1 1 rfl rfl | exact ld_own1 2 rfl rfl | exact ld_own1 3 rfl rfl | exact ld_own1 4 rfl rfl | exact ld_own1 5 rfl rfl | exact ld_own1 6 rfl rfl | exact ld_own1 7 rfl rfl | exact ld_ownG1 0 rfl rfl | exact ld_ownG1 1 rfl rfl | exact ld_imm1 (by assumption))) ?_
                  refine ow_ck rfl rfl (ex_callf rfl (fun w h => pPub h.has (htab.le hlj) hvj )) (fun v23 τ2 K2 hl2 hf2 hr2 => ?_)
                  obtain ⟨rfl, hv2⟩ := hr2
                  refine ow_val rfl rfl (ex_move rfl) ?_
                  refine ow_val rfl rfl (ex_extract rfl rfl) ?_
                  refine ow_val rfl rfl (ex_extract rfl rfl) ?_
                  refine ow_val rfl rfl (ex_assign rfl) ?_
                  refine ow_val rfl rfl (ex_assign rfl) ?_
                  refine ow_nil ?_
                  refine qw_seq ?_
                  refine cw_region ?_
                  refine ow_val rfl rfl (ex_move rfl) ?_
                  refine ow_val rfl rfl (ex_field rfl) ?_
                  refine ow_val rfl rfl (ex_load1 rfl (by first | exact ld_own1 0 rfl rfl | exact ld_own1 1 rfl rfl | exact ld_own1 2 rfl rfl | exact ld_own1 3 rfl rfl | exact ld_own1 4 rfl rfl | exact ld_own1 5 rfl rfl | exact ld_own1 6 rfl rfl | exact ld_own1 7 rfl rfl | exact ld_ownG1 0 rfl rfl | exact ld_ownG1 1 rfl rfl | exact ld_imm1 (by assumption))) ?_
                  refine ow_mono (fun w h => h.permG List.perm_append_comm) ?_
                  refine ow_ck rfl rfl (ex_callf rfl (fun w h => rPub h.has (hdj.le hl2) )) (fun v24 τ3 K3 hl3 hf3 hr3 => ?_)
                  obtain ⟨rfl, hd3⟩ := hr3
                  refine ow_mono (fun w h => h.permG List.perm_append_comm) ?_
                  refine ow_val rfl rfl (ex_move rfl) ?_
                  refine ow_val rfl rfl (ex_extract rfl rfl) ?_
                  refine ow_val rfl rfl (ex_extract rfl rfl) ?_
                  refine ow_val rfl rfl (ex_assign rfl) ?_
                  refine ow_val rfl rfl (ex_assign rfl) ?_
                  refine ow_nil ?_
                  refine qw_block_normal ?_
                  exact qw_meetE ((madeV ts (ofT 2 []) [l[i].a]).1, (madeV ts (ofT 2 []) [l[i].a]).2.1, (madeV ts (ofT 2 []) [l[i].a]).2.2, τ3, K2, K3) (subL_cons (lkv rfl (by first | rfl | simp)) (subL_cons (lkv rfl (by first | rfl | simp)) (subL_cons (lkv rfl (by first | rfl | simp)) (subL_cons (lkv rfl (by first | rfl | simp)) (subL_cons (lkv rfl (by first | rfl | simp)) (subL_cons (lkv rfl (by first | rfl | simp)) (subL_cons (lkv rfl (by first | rfl | simp)) (subL_cons (lkv rfl (by first | rfl | simp)) (subL_cons (lkv rfl (by first | rfl | simp)) (subL_cons (lkv rfl (by first | rfl | simp)) (subL_nil _))))))))))) (fun w' h => ⟨⟨hl2.trans hl3, hf2.trans hf3, hv2.le hl3, hd3⟩, h.drop (List.nil_sublist _)⟩)
                ·
                  refine cw_seq ?_
                  refine cw_region ?_
                  refine ow_val rfl rfl (ex_eql rfl rfl) ?_
                  refine ow_val rfl rfl (ex_assign rfl) ?_
                  refine ow_nil ?_
                  refine qw_seq ?_
                  refine cw_cond rfl (fun c116 => ?_) (fun c116 => ?_)
                  ·
                    refine cw_seq ?_
                    refine cw_region ?_
                    refine ow_val rfl rfl (ex_move rfl) ?_
                    refine ow_val rfl rfl (ex_field rfl) ?_
                    refine ow_val rfl rfl (ex_load1 rfl (by first | exact ld_own1 0 rfl rfl | exact ld_own1 1 rfl rfl | exact ld_own1 2 rfl rfl | exact ld_own1 3 rfl rfl | exact ld_own1 4 rfl rfl | exact ld_own1 5 rfl rfl | exact ld_own1 6 rfl rfl | exact ld_own1 7 rfl rfl | exact ld_ownG1 0 rfl rfl | exact ld_ownG1 1 rfl rfl | exact ld_imm1 (by assumption))) ?_
                    refine ow_val rfl rfl (ex_field rfl) ?_
                    refine ow_val rfl rfl (ex_load1 rfl (by first | exact ld_own1 0 rfl rfl | exact ld_own1 1 rfl rfl | exact ld_own1 2 rfl rfl | exact ld_own1 3 rfl rfl | exact ld_own1 4 rfl rfl | exact ld_own1 5 rfl rfl | exact ld_own1 6 rfl rfl | exact ld_own1 7 rfl rfl | exact ld_ownG1 0 rfl rfl | exact ld_ownG1 1 rfl rfl | exact ld_imm1 (by assumption))) ?_
                    refine ow_ck rfl rfl (ex_callf rfl (fun w h => pSign h.has (htab.le hlj) hvj hmj)) (fun v26 τ2 K2 hl2 hf2 hr2 => ?_)
                    obtain ⟨rfl, hv2⟩ := hr2
                    refine ow_val rfl rfl (ex_move rfl) ?_
                    refine ow_val rfl rfl (ex_extract rfl rfl) ?_
                    refine ow_val rfl rfl (ex_extract rfl rfl) ?_
                    refine ow_val rfl rfl (ex_assign rfl) ?_
                    refine ow_val rfl rfl (ex_assign rfl) ?_
                    refine ow_nil ?_
                    refine qw_seq ?_
                    refine cw_region ?_
                    refine ow_val rfl rfl (ex_move rfl) ?_
                    refine ow_val rfl rfl (ex_field rfl) ?_
                    refine ow_val rfl rfl (ex_load1 rfl (by first | exact ld_own1 0 rfl rfl | exact ld_own1 1 rfl rfl | exact ld_own1 2 rfl rfl | exact ld_own1 3 rfl rfl | exact ld_own1 4 rfl rfl | exact ld_own1 5 rfl rfl | exact ld_own1 6 rfl rfl | exact ld_own1 7 rfl rfl | exact ld_ownG1 0 rfl rfl | exact ld_ownG1 1 rfl rfl | exact ld_imm1 (by assumption))) ?_
                    refine ow_val rfl rfl (ex_field rfl) ?_
                    refine ow_val rfl rfl (ex_load1 rfl (by first | exact ld_own1 0 rfl rfl | exact ld_own1 1 rfl rfl | exact ld_own1 2 rfl rfl | exact ld_own1 3 rfl rfl | exact ld_own1 4 rfl rfl | exact ld_own1 5 rfl rfl | exact ld_own1 6 rfl rfl | exact ld_own1 7 rfl rfl | exact ld_ownG1 0 rfl rfl | exact ld_ownG1 1 rfl rfl | exact ld_imm1 (by assumption))) ?_
                    refine ow_mono (fun w h => h.permG List.perm_append_comm) ?_
                    refine ow_ck rfl rfl (ex_callf rfl (fun w h => rSign h.has (hdj.le hl2) (hmj.le hl2))) (fun v27 τ3 K3 hl3 hf3 hr3 => ?_)
                    obtain ⟨rfl, hd3⟩ := hr3
                    refine ow_mono (fun w h => h.permG List.perm_append_comm) ?_
                    refine ow_val rfl rfl (ex_move rfl) ?_
                    refine ow_val rfl rfl (ex_extract rfl rfl) ?_
                    refine ow_val rfl rfl (ex_extract rfl rfl) ?_
                    refine ow_val rfl rfl (ex_assign rfl) ?_
                    refine ow_val rfl rfl (ex_assign rfl) ?_
                    refine ow_nil ?_
                    refine qw_block_normal ?_
                    exact qw_meetE ((madeV ts (ofT 3 l[i].msg) [l[i].a]).1, (madeV ts (ofT 3 l[i].msg) [l[i].a]).2.1, (madeV ts (ofT 3 l[i].msg) [l[i].a]).2.2, τ3, K2, K3) (subL_cons (lkv rfl (by first | rfl | simp)) (subL_cons (lkv rfl (by first | rfl | simp)) (subL_cons (lkv rfl (by first | rfl | simp)) (subL_cons (lkv rfl (by first | rfl | simp)) (subL_cons (lkv rfl (by first | rfl | simp)) (subL_cons (lkv rfl (by first | rfl | simp)) (subL_cons (lkv rfl (by first | rfl | simp)) (subL_cons (lkv rfl (by first | rfl | simp)) (subL_cons (lkv rfl (by first | rfl | simp)) (subL_cons (lkv rfl (by first | rfl | simp)) (subL_nil _))))))))))) (fun w' h => ⟨⟨hl2.trans hl3, hf2.trans hf3, hv2.le hl3, hd3⟩, h.drop (List.nil_sublist _)⟩)
                  ·
                    refine cw_seq ?_
                    refine cw_region ?_
                    refine ow_val rfl rfl (ex_eql rfl rfl) ?_
                    refine ow_val rfl rfl (ex_assign rfl) ?_
                    refine ow_nil ?_
                    refine qw_seq ?_
                    refine cw_cond rfl (fun c136 => ?_) (fun c136 => ?_)
                    ·
                      refine cw_seq ?_
                      refine cw_region ?_
                      refine ow_val rfl rfl (ex_move rfl) ?_
                      refine ow_val rfl rfl (ex_field rfl) ?_
                      refine ow_val rfl rfl (ex_load1 rfl (by first | exact ld_own1 0 rfl rfl | exact ld_own1 1 rfl rfl | exact ld_own1 2 rfl rfl | exact ld_own1 3 rfl rfl | exact ld_own1 4 rfl rfl | exact ld_own1 5 rfl rfl | exact ld_own1 6 rfl rfl | exact ld_own1 7 rfl rfl | exact ld_ownG1 0 rfl rfl | exact ld_ownG1 1 rfl rfl | exact ld_imm1 (by assumption))) ?_
                      refine ow_val rfl rfl (ex_field rfl) ?_
                      refine ow_val rfl rfl (ex_load1 rfl (by first | exact ld_own1 0 rfl rfl | exact ld_own1 1 rfl rfl | exact ld_own1 2 rfl rfl | exact ld_own1 3 rfl rfl | exact ld_own1 4 rfl rfl | exact ld_own1 5 rfl rfl | exact ld_own1 6 rfl rfl | exact ld_own1 7 rfl rfl | exact ld_ownG1 0 rfl rfl | exact ld_ownG1 1 rfl rfl | exact ld_imm1 (by assumption))) ?_
                      refine ow_ck rfl rfl (ex_callf rfl (fun w h => pSeal h.has (htab.le hlj) hvj hmj)) (fun v29 τ2 K2 hl2 hf2 hr2 => ?_)
                      obtain ⟨rfl, hv2⟩ := hr2
                      refine ow_val rfl rfl (ex_move rfl) ?_
                      refine ow_val rfl rfl (ex_extract rfl rfl) ?_
                      refine ow_val rfl rfl (ex_extract rfl rfl) ?_
                      refine ow_val rfl rfl (ex_assign rfl) ?_
                      refine ow_val rfl rfl (ex_assign rfl) ?_
                      refine ow_nil ?_
                      refine qw_seq ?_
                      refine cw_region ?_
                      refine ow_val rfl rfl (ex_move rfl) ?_
                      refine ow_val rfl rfl (ex_field rfl) ?_
                      refine ow_val rfl rfl (ex_load1 rfl (by first | exact ld_own1 0 rfl rfl | exact ld_own1 1 rfl rfl | exact ld_own1 2 rfl rfl | exact ld_own1 3 rfl rfl | exact ld_own1 4 rfl rfl | exact ld_own1 5 rfl rfl | exact ld_own1 6 rfl rfl | exact ld_own1 7 rfl rfl | exact ld_ownG1 0 rfl rfl | exact ld_ownG1 1 rfl rfl | exact ld_imm1 (by assumption))) ?_
                      refine ow_val rfl rfl (ex_field rfl) ?_
                      refine ow_val rfl rfl (ex_load1 rfl (by first | exact ld_own1 0 rfl rfl | exact ld_own1 1 rfl rfl | exact ld_own1 2 rfl rfl | exact ld_own1 3 rfl rfl | exact ld_own1 4 rfl rfl | exact ld_own1 5 rfl rfl | exact ld_own1 6 rfl rfl | exact ld_own1 7 rfl rfl | exact ld_ownG1 0 rfl rfl | exact ld_ownG1 1 rfl rfl | exact ld_imm1 (by assumption))) ?_
                      refine ow_mono (fun w h => h.permG List.perm_append_comm) ?_
                      refine ow_ck rfl rfl (ex_callf rfl (fun w h => rSeal h.has (hdj.le hl2) (hmj.le hl2))) (fun v30 τ3 K3 hl3 hf3 hr3 => ?_)
                      obtain ⟨rfl, hd3⟩ := hr3
                      refine ow_mono (fun w h => h.permG List.perm_append_comm) ?_
                      refine ow_val rfl rfl (ex_move rfl) ?_
                      refine ow_val rfl rfl (ex_extract rfl rfl) ?_
                      refine ow_val rfl rfl (ex_extract rfl rfl) ?_
                      refine ow_val rfl rfl (ex_assign rfl) ?_
                      refine ow_val rfl rfl (ex_assign rfl) ?_
                      refine ow_nil ?_
                      refine qw_block_normal ?_
                      exact qw_meetE ((madeV ts (ofT 4 l[i].msg) [l[i].a]).1, (madeV ts (ofT 4 l[i].msg) [l[i].a]).2.1, (madeV ts (ofT 4 l[i].msg) [l[i].a]).2.2, τ3, K2, K3) (subL_cons (lkv rfl (by first | rfl | simp)) (subL_cons (lkv rfl (by first | rfl | simp)) (subL_cons (lkv rfl (by first | rfl | simp)) (subL_cons (lkv rfl (by first | rfl | simp)) (subL_cons (lkv rfl (by first | rfl | simp)) (subL_cons (lkv rfl (by first | rfl | simp)) (subL_cons (lkv rfl (by first | rfl | simp)) (subL_cons (lkv rfl (by first | rfl | simp)) (subL_cons (lkv rfl (by first | rfl | simp)) (subL_cons (lkv rfl (by first | rfl | simp)) (subL_nil _))))))))))) (fun w' h => ⟨⟨hl2.trans hl3, hf2.trans hf3, hv2.le hl3, hd3⟩, h.drop (List.nil_sublist _)⟩)
                    ·
                      refine cw_seq ?_
                      refine cw_region ?_
                      refine ow_val rfl rfl (ex_eql rfl rfl) ?_
                      refine ow_val rfl rfl (ex_assign rfl) ?_
                      refine ow_nil ?_
                      refine qw_seq ?_
                      refine cw_cond rfl (fun c156 => ?_) (fun c156 => ?_)
                      ·
                        refine cw_seq ?_
                        refine cw_region ?_
                        refine ow_val rfl rfl (ex_move rfl) ?_
                        refine ow_val rfl rfl (ex_field rfl) ?_
                        refine ow_val rfl rfl (ex_load1 rfl (by first | exact ld_own1 0 rfl rfl | exact ld_own1 1 rfl rfl | exact ld_own1 2 rfl rfl | exact ld_own1 3 rfl rfl | exact ld_own1 4 rfl rfl | exact ld_own1 5 rfl rfl | exact ld_own1 6 rfl rfl | exact ld_own1 7 rfl rfl | exact ld_ownG1 0 rfl rfl | exact ld_ownG1 1 rfl rfl | exact ld_imm1 (by assumption))) ?_
                        refine ow_val rfl rfl (ex_field rfl) ?_
                        refine ow_val rfl rfl (ex_load1 rfl (by first | exact ld_own1 0 rfl rfl | exact ld_own1 1 rfl rfl | exact ld_own1 2 rfl rfl | exact ld_own1 3 rfl rfl | exact ld_own1 4 rfl rfl | exact ld_own1 5 rfl rfl | exact ld_own1 6 rfl rfl | exact ld_own1 7 rfl rfl | exact ld_ownG1 0 rfl rfl | exact ld_ownG1 1 rfl rfl | exact ld_imm1 (by assumption))) ?_
                        refine ow_ck rfl rfl (ex_callf rfl (fun w h => pKdf h.has (htab.le hlj) hvj hmj)) (fun v32 τ2 K2 hl2 hf2 hr2 => ?_)
                        obtain ⟨rfl, hv2⟩ := hr2
                        refine ow_val rfl rfl (ex_move rfl) ?_
                        refine ow_val rfl rfl (ex_extract rfl rfl) ?_
                        refine ow_val rfl rfl (ex_extract rfl rfl) ?_
                        refine ow_val rfl rfl (ex_assign rfl) ?_
                        refine ow_val rfl rfl (ex_assign rfl) ?_
                        refine ow_nil ?_
                        refine qw_seq ?_
                        refine cw_region ?_
                        refine ow_val rfl rfl (ex_move rfl) ?_
                        refine ow_val rfl rfl (ex_field rfl) ?_
                        refine ow_val rfl rfl (ex_load1 rfl (by first | exact ld_own1 0 rfl rfl | exact ld_own1 1 rfl rfl | exact ld_own1 2 rfl rfl | exact ld_own1 3 rfl rfl | exact ld_own1 4 rfl rfl | exact ld_own1 5 rfl rfl | exact ld_own1 6 rfl rfl | exact ld_own1 7 rfl rfl | exact ld_ownG1 0 rfl rfl | exact ld_ownG1 1 rfl rfl | exact ld_imm1 (by assumption))) ?_
                        refine ow_val rfl rfl (ex_field rfl) ?_
                        refine ow_val rfl rfl (ex_load1 rfl (by first | exact ld_own1 0 rfl rfl | exact ld_own1 1 rfl rfl | exact ld_own1 2 rfl rfl | exact ld_own1 3 rfl rfl | exact ld_own1 4 rfl rfl | exact ld_own1 5 rfl rfl | exact ld_own1 6 rfl rfl | exact ld_own1 7 rfl rfl | exact ld_ownG1 0 rfl rfl | exact ld_ownG1 1 rfl rfl | exact ld_imm1 (by assumption))) ?_
                        refine ow_mono (fun w h => h.permG List.perm_append_comm) ?_
                        refine ow_ck rfl rfl (ex_callf rfl (fun w h => rKdf h.has (hdj.le hl2) (hmj.le hl2))) (fun v33 τ3 K3 hl3 hf3 hr3 => ?_)
                        obtain ⟨rfl, hd3⟩ := hr3
                        refine ow_mono (fun w h => h.permG List.perm_append_comm) ?_
                        refine ow_val rfl rfl (ex_move rfl) ?_
                        refine ow_val rfl rfl (ex_extract rfl rfl) ?_
                        refine ow_val rfl rfl (ex_extract rfl rfl) ?_
                        refine ow_val rfl rfl (ex_assign rfl) ?_
                        refine ow_val rfl rfl (ex_assign rfl) ?_
                        refine ow_nil ?_
                        refine qw_block_normal ?_
                        exact qw_meetE ((madeV ts (ofT 6 l[i].msg) [l[i].a]).1, (madeV ts (ofT 6 l[i].msg) [l[i].a]).2.1, (madeV ts (ofT 6 l[i].msg) [l[i].a]).2.2, τ3, K2, K3) (subL_cons (lkv rfl (by first | rfl | simp)) (subL_cons (lkv rfl (by first | rfl | simp)) (subL_cons (lkv rfl (by first | rfl | simp)) (subL_cons (lkv rfl (by first | rfl | simp)) (subL_cons (lkv rfl (by first | rfl | simp)) (subL_cons (lkv rfl (by first | rfl | simp)) (subL_cons (lkv rfl (by first | rfl | simp)) (subL_cons (lkv rfl (by first | rfl | simp)) (subL_cons (lkv rfl (by first | rfl | simp)) (subL_cons (lkv rfl (by first | rfl | simp)) (subL_nil _))))))))))) (fun w' h => ⟨⟨hl2.trans hl3, hf2.trans hf3, hv2.le hl3, hd3⟩, h.drop (List.nil_sublist _)⟩)
                      ·
                        refine cw_seq ?_
                        refine cw_region ?_
                        refine ow_val rfl rfl (ex_eql rfl rfl) ?_
                        refine ow_val rfl rfl (ex_assign rfl) ?_
                        refine ow_nil ?_
                        refine qw_seq ?_
                        refine cw_cond rfl (fun c176 => ?_) (fun c176 => ?_)
                        ·
                          refine cw_seq ?_
                          refine cw_region ?_
                          refine ow_val rfl rfl (ex_move rfl) ?_
                          refine ow_val rfl rfl (ex_field rfl) ?_
                          refine ow_val rfl rfl (ex_load1 rfl (by first | exact ld_own1 0 rfl rfl | exact ld_own1 1 rfl rfl | exact ld_own1 2 rfl rfl | exact ld_own1 3 rfl rfl | exact ld_own1 4 rfl rfl | exact ld_own1 5 rfl rfl | exact ld_own1 6 rfl rfl | exact ld_own1 7 rfl rfl | exact ld_ownG1 0 rfl rfl | exact ld_ownG1 1 rfl rfl | exact ld_imm1 (by assumption))) ?_
                          refine ow_ck rfl rfl (ex_callf rfl (fun w h => pHash h.has (htab.le hlj) hvj hmj)) (fun v35 τ2 K2 hl2 hf2 hr2 => ?_)
                          obtain ⟨rfl, hv2⟩ := hr2
                          refine ow_val rfl rfl (ex_move rfl) ?_
                          refine ow_val rfl rfl (ex_extract rfl rfl) ?_
                          refine ow_val rfl rfl (ex_extract rfl rfl) ?_
                          refine ow_val rfl rfl (ex_assign rfl) ?_
                          refine ow_val rfl rfl (ex_assign rfl) ?_
                          refine ow_nil ?_
                          refine qw_seq ?_
                          refine cw_region ?_
                          refine ow_val rfl rfl (ex_move rfl) ?_
                          refine ow_val rfl rfl (ex_field rfl) ?_
                          refine ow_val rfl rfl (ex_load1 rfl (by first | exact ld_own1 0 rfl rfl | exact ld_own1 1 rfl rfl | exact ld_own1 2 rfl rfl | exact ld_own1 3 rfl rfl | exact ld_own1 4 rfl rfl | exact ld_own1 5 rfl rfl | exact ld_own1 6 rfl rfl | exact ld_own1 7 rfl rfl | exact ld_ownG1 0 rfl rfl | exact ld_ownG1 1 rfl rfl | exact ld_imm1 (by assumption))) ?_
                          refine ow_mono (fun w h => h.permG List.perm_append_comm) ?_
                          refine ow_ck rfl rfl (ex_callf rfl (fun w h => rHash h.has (hdj.le hl2) (hmj.le hl2))) (fun v36 τ3 K3 hl3 hf3 hr3 => ?_)
                          obtain ⟨rfl, hd3⟩ := hr3
                          refine ow_mono (fun w h => h.permG List.perm_append_comm) ?_
                          refine ow_val rfl rfl (ex_move rfl) ?_
                          refine ow_val rfl rfl (ex_extract rfl rfl) ?_
                          refine ow_val rfl rfl (ex_extract rfl rfl) ?_
                          refine ow_val rfl rfl (ex_assign rfl) ?_
                          refine ow_val rfl rfl (ex_assign rfl) ?_
                          refine ow_nil ?_
                          refine qw_block_normal ?_
                          exact qw_meetE ((madeV ts (ofT 5 l[i].msg) []).1, (madeV ts (ofT 5 l[i].msg) []).2.1, (madeV ts (ofT 5 l[i].msg) []).2.2, τ3, K2, K3) (subL_cons (lkv rfl (by first | rfl | simp)) (subL_cons (lkv rfl (by first | rfl | simp)) (subL_cons (lkv rfl (by first | rfl | simp)) (subL_cons (lkv rfl (by first | rfl | simp)) (subL_cons (lkv rfl (by first | rfl | simp)) (subL_cons (lkv rfl (by first | rfl | simp)) (subL_cons (lkv rfl (by first | rfl | simp)) (subL_cons (lkv rfl (by first | rfl | simp)) (subL_cons (lkv rfl (by first | rfl | simp)) (subL_cons (lkv rfl (by first | rfl | simp)) (subL_nil _))))))))))) (fun w' h => ⟨⟨hl2.trans hl3, hf2.trans hf3, hv2.le hl3, hd3⟩, h.drop (List.nil_sublist _)⟩)
                        ·
                          refine cw_seq ?_
                          refine cw_region ?_
                          refine ow_val rfl rfl (ex_eql rfl rfl) ?_
                          refine ow_val rfl rfl (ex_assign rfl) ?_
                          refine ow_nil ?_
                          refine qw_seq ?_
                          refine cw_cond rfl (fun c192 => ?_) (fun c192 => ?_)
                          ·
                            refine flow_sound 28 (by kernel_rfl) ?_
                            refine flow_val rfl (ex_move rfl) ?_
                            refine flow_val rfl (ex_field rfl) ?_
                            refine flow_val rfl (ex_load1 rfl (by first | exact ld_own1 0 rfl rfl | exact ld_own1 1 rfl rfl | exact ld_own1 2 rfl rfl | exact ld_own1 3 rfl rfl | exact ld_own1 4 rfl rfl | exact ld_own1 5 rfl rfl | exact ld_own1 6 rfl rfl | exact ld_own1 7 rfl rfl | exact ld_ownG1 0 rfl rfl | exact ld_ownG1 1 rfl rfl | exact ld_imm1 (by assumption))) ?_
                            refine flow_val rfl (ex_field rfl) ?_
                            refine flow_val rfl (ex_load1 rfl (by first | exact ld_own1 0 rfl rfl | exact ld_own1 1 rfl rfl | exact ld_own1 2 rfl rfl | exact ld_own1 3 rfl rfl | exact ld_own1 4 rfl rfl | exact ld_own1 5 rfl rfl | exact ld_own1 6 rfl rfl | exact ld_own1 7 rfl rfl | exact ld_ownG1 0 rfl rfl | exact ld_ownG1 1 rfl rfl | exact ld_imm1 (by assumption))) ?_
                            refine flow_val rfl (ex_field rfl) ?_
                            refine flow_val rfl (ex_load1 rfl (by first | exact ld_own1 0 rfl rfl | exact ld_own1 1 rfl rfl | exact ld_own1 2 rfl rfl | exact ld_own1 3 rfl rfl | exact ld_own1 4 rfl rfl | exact ld_own1 5 rfl rfl | exact ld_own1 6 rfl rfl | exact ld_own1 7 rfl rfl | exact ld_ownG1 0 rfl rfl | exact ld_ownG1 1 rfl rfl | exact ld_imm1 (by assumption))) ?_
                            refine flow_cv rfl (ex_callf rfl (fun w h => callB ((pVerify h.has hvj hmj)))) ?_
                            refine flow_val rfl (ex_move rfl) ?_
                            refine flow_val rfl (ex_field rfl) ?_
                            refine flow_val rfl (ex_load1 rfl (by first | exact ld_own1 0 rfl rfl | exact ld_own1 1 rfl rfl | exact ld_own1 2 rfl rfl | exact ld_own1 3 rfl rfl | exact ld_own1 4 rfl rfl | exact ld_own1 5 rfl rfl | exact ld_own1 6 rfl rfl | exact ld_own1 7 rfl rfl | exact ld_ownG1 0 rfl rfl | exact ld_ownG1 1 rfl rfl | exact ld_imm1 (by assumption))) ?_
                            refine flow_val rfl (ex_field rfl) ?_
                            refine flow_val rfl (ex_load1 rfl (by first | exact ld_own1 0 rfl rfl | exact ld_own1 1 rfl rfl | exact ld_own1 2 rfl rfl | exact ld_own1 3 rfl rfl | exact ld_own1 4 rfl rfl | exact ld_own1 5 rfl rfl | exact ld_own1 6 rfl rfl | exact ld_own1 7 rfl rfl | exact ld_ownG1 0 rfl rfl | exact ld_ownG1 1 rfl rfl | exact ld_imm1 (by assumption))) ?_
                            refine flow_val rfl (ex_field rfl) ?_
                            refine flow_val rfl (ex_load1 rfl (by first | exact ld_own1 0 rfl rfl | exact ld_own1 1 rfl rfl | exact ld_own1 2 rfl rfl | exact ld_own1 3 rfl rfl | exact ld_own1 4 rfl rfl | exact ld_own1 5 rfl rfl | exact ld_own1 6 rfl rfl | exact ld_own1 7 rfl rfl | exact ld_ownG1 0 rfl rfl | exact ld_ownG1 1 rfl rfl | exact ld_imm1 (by assumption))) ?_
                            refine flow_cv rfl (ex_callf rfl (fun w h => callB ((rVerify (h.permG List.perm_append_comm).has hdj hvj.nd.1 hmj)))) ?_
                            refine flow_val rfl (ex_eqlb rfl rfl) ?_
                            refine flow_val rfl (ex_move rfl) ?_
                            refine flow_split rfl (fun s211 => ?_) (fun s211 => ?_)
                            ·
                              refine flow_val (gd_go rfl s211) (ex_field rfl) ?_
                              refine flow_val (gd_go rfl s211) (ex_load1 rfl (by first | exact ld_own1 0 rfl rfl | exact ld_own1 1 rfl rfl | exact ld_own1 2 rfl rfl | exact ld_own1 3 rfl rfl | exact ld_own1 4 rfl rfl | exact ld_own1 5 rfl rfl | exact ld_own1 6 rfl rfl | exact ld_own1 7 rfl rfl | exact ld_ownG1 0 rfl rfl | exact ld_ownG1 1 rfl rfl | exact ld_imm1 (by assumption))) ?_
                              refine flow_val (gd_go rfl s211) (ex_field rfl) ?_
                              refine flow_val (gd_go rfl s211) (ex_load1 rfl (by first | exact ld_own1 0 rfl rfl | exact ld_own1 1 rfl rfl | exact ld_own1 2 rfl rfl | exact ld_own1 3 rfl rfl | exact ld_own1 4 rfl rfl | exact ld_own1 5 rfl rfl | exact ld_own1 6 rfl rfl | exact ld_own1 7 rfl rfl | exact ld_ownG1 0 rfl rfl | exact ld_ownG1 1 rfl rfl | exact ld_imm1 (by assumption))) ?_
                              refine flow_val (gd_go rfl s211) (ex_field rfl) ?_
                              refine flow_val (gd_go rfl s211) (ex_load1 rfl (by first | exact ld_own1 0 rfl rfl | exact ld_own1 1 rfl rfl | exact ld_own1 2 rfl rfl | exact ld_own1 3 rfl rfl | exact ld_own1 4 rfl rfl | exact ld_own1 5 rfl rfl | exact ld_own1 6 rfl rfl | exact ld_own1 7 rfl rfl | exact ld_ownG1 0 rfl rfl | exact ld_ownG1 1 rfl rfl | exact ld_imm1 (by assumption))) ?_
                              refine flow_cv (gd_go rfl s211) (ex_callf rfl (fun w h => callB ((pVerifyNil h.im)))) ?_
                              refine flow_val (gd_go rfl s211) (ex_not rfl) ?_
                              refine flow_val rfl (ex_pickt rfl s211 rfl) ?_
                              refine flow_val rfl (ex_assign rfl) ?_
                              refine flow_nil ?_
                              refine fin_is ?_
                              refine fin_is ?_
                              refine fin_is ?_
                              refine fin_is ?_
                              refine fin_is ?_
                              refine fin_is ?_
                              refine fin_is ?_
                              refine fin_is ?_
                              refine fin_is ?_
                              refine fin_is ?_
                              refine fin_is ?_
                              refine fin_is ?_
                              refine fin_is ?_
                              refine fin_is ?_
                              refine fin_is ?_
                              refine fin_is ?_
                              refine fin_is ?_
                              refine fin_is ?_
                              refine fin_is ?_
                              refine fin_is ?_
                              refine fin_is ?_
                              refine fin_is ?_
                              refine fin_is ?_
                              refine fin_is ?_
                              refine fin_is ?_
                              refine fin_is ?_
                              refine fin_is ?_
                              refine fin_is ?_
                              refine fin_nil ?_
                              refine ow_nil ?_
                              refine qw_block_normal ?_
                              exact qw_meetE (0, 0, ts, τj, Kv, Kd) (subL_cons (lkv rfl (by first | rfl | simp)) (subL_cons (lkv rfl (by first | rfl | simp)) (subL_cons (lkv rfl (by first | rfl | simp)) (subL_cons (lkv rfl (by first | rfl | simp)) (subL_cons (lkv rfl (by first | rfl | simp)) (subL_cons (lkv rfl (by first | rfl | simp)) (subL_cons (lkv rfl (by first | rfl | simp)) (subL_cons (lkv rfl (by first | rfl | simp)) (subL_cons (lkv rfl (by first | rfl | simp)) (subL_cons (lkv rfl (by first | rfl | simp)) (subL_nil _))))))))))) (fun w' h => ⟨⟨Le.refl _, Fresh.refl _ _, hvj, hdj⟩, h.drop (List.nil_sublist _)⟩)
                            ·
                              first | (cases s211; done) | (simp at s211; done)
                          ·
                            refine cw_seq ?_
                            refine cw_region ?_
                            refine ow_val rfl rfl (ex_eql rfl rfl) ?_
                            refine ow_val rfl rfl (ex_assign rfl) ?_
                            refine ow_nil ?_
                            refine qw_seq ?_
                            refine cw_cond rfl (fun c221 => ?_) (fun c221 => ?_)
                            ·
                              refine cw_seq ?_
                              refine cw_region ?_
                              refine ow_val rfl rfl (ex_move rfl) ?_
                              refine ow_val rfl rfl (ex_field rfl) ?_
                              refine ow_val rfl rfl (ex_load1 rfl (by first | exact ld_own1 0 rfl rfl | exact ld_own1 1 rfl rfl | exact ld_own1 2 rfl rfl | exact ld_own1 3 rfl rfl | exact ld_own1 4 rfl rfl | exact ld_own1 5 rfl rfl | exact ld_own1 6 rfl rfl | exact ld_own1 7 rfl rfl | exact ld_ownG1 0 rfl rfl | exact ld_ownG1 1 rfl rfl | exact ld_imm1 (by assumption))) ?_
                              refine ow_val rfl rfl (ex_field rfl) ?_
                              refine ow_val rfl rfl (ex_load1 rfl (by first | exact ld_own1 0 rfl rfl | exact ld_own1 1 rfl rfl | exact ld_own1 2 rfl rfl | exact ld_own1 3 rfl rfl | exact ld_own1 4 rfl rfl | exact ld_own1 5 rfl rfl | exact ld_own1 6 rfl rfl | exact ld_own1 7 rfl rfl | exact ld_ownG1 0 rfl rfl | exact ld_ownG1 1 rfl rfl | exact ld_imm1 (by assumption))) ?_
                              refine ow_cr rfl rfl (ex_callf rfl (fun w h => callR (pOpen h.has hvj))) (fun v229 τ2 hl2 hf2 hr2 => ?_)
                              obtain ⟨q2, rfl, hb2⟩ := hr2
                              obtain ⟨p2, c2, rfl, hcc2, hmm2⟩ := hb2.slice
                              refine ow_val rfl rfl (ex_move rfl) ?_
                              refine ow_val rfl rfl (ex_extract rfl rfl) ?_
                              refine ow_val rfl rfl (ex_extract rfl rfl) ?_
                              refine ow_val rfl rfl (ex_assign rfl) ?_
                              refine ow_val rfl rfl (ex_assign rfl) ?_
                              refine ow_nil ?_
                              refine qw_seq ?_
                              refine cw_seq ?_
                              refine cw_region ?_
                              refine ow_val rfl rfl (ex_move rfl) ?_
                              refine ow_val rfl rfl (ex_field rfl) ?_
                              refine ow_val rfl rfl (ex_load1 rfl (by first | exact ld_own1 0 rfl rfl | exact ld_own1 1 rfl rfl | exact ld_own1 2 rfl rfl | exact ld_own1 3 rfl rfl | exact ld_own1 4 rfl rfl | exact ld_own1 5 rfl rfl | exact ld_own1 6 rfl rfl | exact ld_own1 7 rfl rfl | exact ld_ownG1 0 rfl rfl | exact ld_ownG1 1 rfl rfl | exact ld_imm1 (by assumption))) ?_
                              refine ow_val rfl rfl (ex_field rfl) ?_
                              refine ow_val rfl rfl (ex_load1 rfl (by first | exact ld_own1 0 rfl rfl | exact ld_own1 1 rfl rfl | exact ld_own1 2 rfl rfl | exact ld_own1 3 rfl rfl | exact ld_own1 4 rfl rfl | exact ld_own1 5 rfl rfl | exact ld_own1 6 rfl rfl | exact ld_own1 7 rfl rfl | exact ld_ownG1 0 rfl rfl | exact ld_ownG1 1 rfl rfl | exact ld_imm1 (by assumption))) ?_
                              refine ow_cr rfl rfl (ex_callf rfl (fun w h => callR (rOpen (h.permG List.perm_append_comm).has (hdj.le hl2) hvj.nd.1))) (fun v238 τ3 hl3 hf3 hr3 => ?_)
                              obtain ⟨q3, rfl, hb3⟩ := hr3
                              have hb2' := hb2.le hl3
                              refine ow_val rfl rfl (ex_move rfl) ?_
                              refine ow_val rfl rfl (ex_extract rfl rfl) ?_
                              refine ow_val rfl rfl (ex_extract rfl rfl) ?_
                              refine ow_val rfl rfl (ex_assign rfl) ?_
                              refine ow_val rfl rfl (ex_assign rfl) ?_
                              refine ow_nil ?_
                              refine qw_seq ?_
                              refine cw_region ?_
                              refine ow_val rfl rfl (ex_move rfl) ?_
                              refine ow_val rfl rfl (ex_move rfl) ?_
                              refine ow_val rfl rfl (ex_eqlb rfl rfl) ?_
                              refine ow_val rfl rfl (ex_move rfl) ?_
                              refine ow_split (g := some (3, true)) rfl (fun s244 => ?_) (fun s244 => ?_)
                              ·
                                refine ow_val rfl (gd_go rfl s244) (ex_move rfl) ?_
                                refine ow_val rfl (gd_go rfl s244) (ex_tostr rfl hb2' (fun w h => h.im)) ?_
                                refine ow_val rfl (gd_go rfl s244) (ex_move rfl) ?_
                                refine ow_val rfl (gd_go rfl s244) (ex_tostr rfl hb3 (fun w h => h.im)) ?_
                                refine ow_val rfl (gd_go rfl s244) (ex_streql rfl rfl) ?_
                                refine ow_val rfl rfl (ex_pickt rfl s244 rfl) ?_
                                refine ow_val rfl rfl (ex_assign rfl) ?_
                                refine ow_nil ?_
                                refine qw_block_normal ?_
                                exact qw_meetE (0, 0, ts, τ3, Kv, Kd) (subL_cons (lkv rfl (by first | rfl | simp)) (subL_cons (lkv rfl (by first | rfl | simp)) (subL_cons (lkv rfl (by first | rfl | simp)) (subL_cons (lkv rfl (by first | rfl | simp)) (subL_cons (lkv rfl (by first | rfl | simp)) (subL_cons (lkv rfl (by first | rfl | simp)) (subL_cons (lkv rfl (by first | rfl | simp)) (subL_cons (lkv rfl (by first | rfl | simp)) (subL_cons (lkv rfl (by first | rfl | simp)) (subL_cons (lkv rfl (by first | rfl | simp)) (subL_nil _))))))))))) (fun w' h => ⟨⟨hl2.trans hl3, hf2.trans hf3, hvj.le (hl2.trans hl3), hdj.le (hl2.trans hl3)⟩, h.drop (List.nil_sublist _)⟩)
                              ·
                                first | (cases s244; done) | (simp at s244; done)
                            ·
                              refine cw_skip ?_
                              refine qw_block_normal ?_
                              exact qw_meetE (0, 0, ts, τj, Kv, Kd) (subL_cons (lkv rfl (by first | rfl | simp)) (subL_cons (lkv rfl (by first | rfl | simp)) (subL_cons (lkv rfl (by first | rfl | simp)) (subL_cons (lkv rfl (by first | rfl | simp)) (subL_cons (lkv rfl (by first | rfl | simp)) (subL_cons (lkv rfl (by first | rfl | simp)) (subL_cons (lkv rfl (by first | rfl | simp)) (subL_cons (lkv rfl (by first | rfl | simp)) (subL_cons (lkv rfl (by first | rfl | simp)) (subL_cons (lkv rfl (by first | rfl | simp)) (subL_nil _))))))))))) (fun w' h => ⟨⟨Le.refl _, Fresh.refl _ _, hvj, hdj⟩, h.drop (List.nil_sublist _)⟩)
        ·
          rintro ⟨a1, e1, ts', τ', Kv', Kd'⟩
          refine cw_and fun ⟨hlz, hfz, hvz, hdz⟩ => ?_
          simp only at hlz hfz hvz hdz ⊢
          have hdz' := hdz
          obtain ⟨sv, xs, Gs, rfl, hO, hrow, hfew⟩ := hdz'
          obtain ⟨pq, cq, rfl, hcq⟩ := hO.slice
          refine cw_seq ?_
          refine flow_sound 22 (by kernel_rfl) ?_
          refine flow_val rfl (ex_move rfl) ?_
          refine flow_val rfl (ex_not rfl) ?_
          refine flow_val rfl (ex_move rfl) ?_
          refine flow_split rfl (fun s253 => ?_) (fun s253 => ?_)
          ·
            first | (cases s253; done) | (simp at s253; done)
          ·
            refine flow_val (gd_go rfl s253) (ex_move rfl) ?_
            refine flow_val (gd_go rfl s253) (ex_move rfl) ?_
            refine flow_val (gd_go rfl s253) (ex_neq rfl rfl) ?_
            refine flow_val rfl (ex_pickf rfl s253 rfl) ?_
            refine flow_val rfl (ex_move rfl) ?_
            refine flow_split rfl (fun s258 => ?_) (fun s258 => ?_)
            ·
              first | (cases s258; done) | (simp at s258; done)
            ·
              refine flow_val (gd_go rfl s258) (ex_move rfl) ?_
              refine flow_val (gd_go rfl s258) (ex_move rfl) ?_
              refine flow_val (gd_go rfl s258) (ex_neq rfl rfl) ?_
              refine flow_val rfl (ex_pickf rfl s258 rfl) ?_
              refine flow_val rfl (ex_move rfl) ?_
              refine flow_split rfl (fun s263 => ?_) (fun s263 => ?_)
              ·
                first | (cases s263; done) | (simp at s263; done)
              ·
                refine flow_val (gd_go rfl s263) (ex_move rfl) ?_
                refine flow_cv (gd_go rfl s263) (ex_callf rfl (fun w h => callB ((pLenK h.has hvz)))) ?_
                refine flow_val (gd_go rfl s263) (ex_move rfl) ?_
                refine flow_val (gd_go rfl s263) (ex_nilck rfl) ?_
                refine flow_val (gd_go rfl s263) (ex_field rfl) ?_
                refine flow_val (gd_go rfl s263) (ex_load1 rfl (fun w h => (CellsAt.of1 (exts_get (h.permG List.perm_append_comm).has.nd List.mem_cons_self) rfl).cell (h.permG List.perm_append_comm).has.exts)) ?_
                refine flow_val (gd_go rfl s263) (ex_len (ty := 0) rfl) ?_
                refine flow_val (gd_go rfl s263) (ex_neq rfl rfl) ?_
                refine flow_val rfl (ex_pickf rfl s263 rfl) ?_
                refine flow_nil ?_
                refine fin_is ?_
                refine fin_is ?_
                refine fin_is ?_
                refine fin_is ?_
                refine fin_is ?_
                refine fin_is ?_
                refine fin_is ?_
                refine fin_is ?_
                refine fin_is ?_
                refine fin_is ?_
                refine fin_is ?_
                refine fin_is ?_
                refine fin_is ?_
                refine fin_is ?_
                refine fin_is ?_
                refine fin_is ?_
                refine fin_is ?_
                refine fin_is ?_
                refine fin_is ?_
                refine fin_is ?_
                refine fin_is ?_
                refine fin_is ?_
                refine fin_nil ?_
                refine ow_nil ?_
                refine qw_seq ?_
                refine cw_cond rfl (fun c272 => ?_) (fun c272 => ?_)
                ·
                  first | (cases c272; done) | (simp at c272; done)
                ·
                  refine cw_skip ?_
                  refine qw_block_normal ?_
                  refine qw_seq ?_
                  refine cw_region ?_
                  refine ow_val rfl rfl (ex_move rfl) ?_
                  refine ow_val rfl rfl (ex_addi (z := ((i + 1 : Nat) : Int)) rfl rfl (by omega) (by omega) (by omega)) ?_
                  refine ow_val rfl rfl (ex_assign rfl) ?_
                  refine ow_nil ?_
                  exact qw_round5 (i + 1) ts' τ' Kv' _ (by omega) (subL_cons (lkv rfl (by first | rfl | simp)) (subL_cons (lkv rfl (by first | rfl | simp)) (subL_cons (lkv rfl (by first | rfl | simp)) (subL_cons (lkv rfl (by first | rfl | simp)) (subL_cons (lkv rfl (by first | rfl | simp)) (subL_nil _)))))) ⟨by omega, hlj.trans hlz, hfj.trans hfz, hvz, hdz⟩ (fun w h => h)
      ·
        refine cw_exit ?_
        refine qw_then_exit ?_
        refine qw_then_exit ?_
        refine qw_block_exit ?_
        refine qw_seq ?_
        refine cw_seq ?_
        refine cw_region ?_
        refine ow_val rfl rfl (ex_move rfl) ?_
        refine ow_val rfl rfl (ex_assign rfl) ?_
        refine ow_nil ?_
        refine qw_seq ?_
        refine cw_ret ?_
        refine qw_ret1 rfl rfl (fun w' h => ⟨congrArg (fun z => Ending.returned (.bool z)) ?_, h.ag.below⟩)
        rfl
end Go.Proofs.YtnjomdjkbbhdoaaGreatDoor
namespace Go.Proofs.YtnjomdjkbbhdoaaGreatDoor
open Go.ChangeShapes Go.WideShapes Go.ChangeAt Go.RowKit
set_option linter.unusedVariables false
set_option linter.unusedSimpArgs false
class OpTy (P : Program) (t : TypeId) : Prop where
  ok : ∃ f0 f1 f2 f3 f4 e, P.underlying t = some (.struct #[f0, f1, f2, f3, f4]) ∧ P.cellsOf t = 5 ∧ (P.underlying f0.type = some (.int .i64) ∧ f0.offset = 0 ∧ P.cellsOf f0.type = 1) ∧ (P.underlying f1.type = some (.int .i64) ∧ f1.offset = 1 ∧ P.cellsOf f1.type = 1) ∧
    (P.underlying f2.type = some (.int .i64) ∧ f2.offset = 2 ∧ P.cellsOf f2.type = 1) ∧ (P.underlying f3.type = some (.int .i64) ∧ f3.offset = 3 ∧ P.cellsOf f3.type = 1) ∧
    (P.underlying f4.type = some (.slice e) ∧ f4.offset = 4 ∧ P.cellsOf f4.type = 1 ∧ P.underlying e = some (.int .u8) ∧ P.cellsOf e = 1 ∧ P.bytesOf e = 1)
section
variable {H : Type} {enc : TypeId × Value → H} {P : Program} {w : World}
theorem read_op {t : TypeId} [hT : OpTy P t] {fuel : Nat} {cs : List Value} {x : DataW H × List MemPlace} (h : DataW.trod enc P w 0 (fun _ => true) true fuel t cs = some x) (hw : ∀ n ∈ x.1.weights P t, n ≤ reachBytes) :
    ∃ (o : OpC) (mv : Value), cs = [.int .i64 o.what, .int .i64 o.a, .int .i64 o.b, .int .i64 o.num, mv] ∧ (-9223372036854775808 ≤ o.num ∧ o.num ≤ 9223372036854775807) ∧ BytesV (nowH w) mv o.msg := by
  obtain ⟨f0, f1, f2, f3, f4, e, hu, hct, ⟨a1, a2, a3⟩, ⟨b1, b2, b3⟩, ⟨g1, g2, g3⟩, ⟨k1, k2, k3⟩, ⟨c1, c2, c3, c4, c5, c6⟩⟩ := hT.ok
  obtain ⟨xs, n, hfu, rfl, hl, hlen, hf⟩ := DataW.trod_struct hu h
  rw [hct] at hl
  match xs, hlen with
  | [y0, y1, y2, y3, y4], _ =>
    have q0 := hf 0 f0 rfl
    have q1 := hf 1 f1 rfl
    have q2 := hf 2 f2 rfl
    have q3 := hf 3 f3 rfl
    have q4 := hf 4 f4 rfl
    rw [a2, a3] at q0
    rw [b2, b3] at q1
    rw [g2, g3] at q2
    rw [k2, k3] at q3
    rw [c2, c3] at q4
    obtain ⟨v0, v1, v2, v3, v4, rfl⟩ : ∃ v0 v1 v2 v3 v4, cs = [v0, v1, v2, v3, v4] := by
      match cs, hl with
      | [v0, v1, v2, v3, v4], _ => exact ⟨v0, v1, v2, v3, v4, rfl⟩
    simp at q0 q1 q2 q3 q4
    obtain ⟨i0, e0, x0, w0⟩ := DataW.trod_int a1 q0
    obtain ⟨i1, e1, x1, w1⟩ := DataW.trod_int b1 q1
    obtain ⟨i2, e2, x2, w2⟩ := DataW.trod_int g1 q2
    obtain ⟨i3, e3, x3, w3⟩ := DataW.trod_int k1 q3
    simp at e0 e1 e2 e3
    subst e0 e1 e2 e3
    have r3 : -9223372036854775808 ≤ i3 ∧ i3 ≤ 9223372036854775807 := by simpa [Lit.wf, IntKind.min, IntKind.max, IntKind.signed, IntKind.bits] using w3
    obtain ⟨d, hd, _⟩ := read_bytesU (bulkOne H) c1 c4 c5 c6 q4 (fun n hn => hw n (by
      simp only [DataW.weights, hu, List.map_cons, List.map_nil, DataW.weightsEach, List.mem_append, List.append_nil]
      exact .inr (.inr (.inr (.inr hn)))))
    exact ⟨⟨i0, i1, i2, i3, d⟩, v4, rfl, r3, hd⟩
theorem read_ops {t ts : TypeId} [hT : OpTy P t] {fuel : Nat} {v3 : Value} {x : DataW H × List MemPlace} (d1 : P.underlying ts = some (.slice t)) (h : DataW.trod enc P w 0 (fun _ => true) true fuel ts [v3] = some x)
    (hw : ∀ n ∈ x.1.weights P ts, n ≤ reachBytes) : ∃ os, OpsV (nowH w) v3 os := by
  have hct : P.cellsOf t = 5 := by obtain ⟨_, _, _, _, _, _, _, h, _⟩ := hT.ok; exact h
  rcases DataW.trod_slice d1 h with ⟨hcs, hx⟩ | ⟨a, len, cap, elems, rest, m, hfm, hcs, hx, _, hlc, hcm, hel, helem, hrest, _⟩
  · simp at hcs; subst hcs; exact ⟨[], none, 0, rfl, Nat.le_refl _, .inl rfl⟩
  · simp at hcs
    subst hcs
    have hwk : ∀ n ∈ (DataW.slice (elems.map (·.1)) (rest.map (·.1))).weights P ts, n ≤ reachBytes := fun n hn => hw n (by rw [hx]; exact hn)
    simp only [DataW.weights, d1] at hwk
    have hwe : ∀ (l : List (DataW H)), (∀ n ∈ DataW.weightsAll P t l, n ≤ reachBytes) → ∀ y ∈ l, ∀ n ∈ y.weights P t, n ≤ reachBytes := by
      intro l
      induction l with
      | nil => intro _ y hy; cases hy
      | cons z r ihl =>
        intro hz y hy n hn
        simp only [DataW.weightsAll] at hz
        rcases List.mem_cons.1 hy with rfl | hy
        · exact hz n (List.mem_append_left _ hn)
        · exact ihl (fun n hn => hz n (List.mem_append_right _ hn)) y hy n hn
    have hwel := hwe (elems.map (·.1)) (fun n hn => hwk n (List.mem_cons_of_mem _ (List.mem_append_left _ hn)))
    have hspot : 0 < len → a.spot = none := fun h0 => by
      have h1 := helem 0 h0
      rw [List.getElem?_eq_getElem (show 0 < elems.length by omega), hct] at h1
      cases hc : w.cells? 0 (a.add (0 * 5)) 5 with
      | none => rw [hc] at h1; simp at h1
      | some cs' =>
        obtain ⟨_, hl4, hcell⟩ := World.cells?_some hc
        have h2 := hcell 0 (by omega)
        rw [List.getElem?_eq_getElem (by omega)] at h2
        have := (cell_open h2).1
        simpa [Addr.add] using this
    obtain ⟨os, ht1, ht2⟩ := list_of (q := fun i u => OpIn (nowH w) a.block (a.off + i * 5) u) len (fun i hi => by
      have h1 := helem i hi
      rw [List.getElem?_eq_getElem (show i < elems.length by omega), hct] at h1
      cases hc : w.cells? 0 (a.add (i * 5)) 5 with
      | none => rw [hc] at h1; simp at h1
      | some cs' =>
        rw [hc] at h1
        simp only [Option.bind_some] at h1
        obtain ⟨_, hl4, hcell⟩ := World.cells?_some hc
        obtain ⟨u, mv, hu', hub, hmv⟩ := read_op h1 (fun n hn => hwel _ (List.mem_map.2 ⟨elems[i], List.getElem_mem _, rfl⟩) n hn)
        have hsp := hspot (by omega)
        refine ⟨u, mv, ?_, hub, hmv⟩
        rw [← hu']
        obtain ⟨b, o, sp⟩ := a
        have hsp' : sp = none := hsp
        subst hsp'
        refine cellsAt_now (fun e => by rw [e] at hl4; simp at hl4) (fun j v hj => ?_)
        have := hcell j (by have := (List.getElem?_eq_some_iff.1 hj).1; omega)
        rw [addr_add, addr_add] at this
        rw [this]; exact hj)
    refine ⟨os, some a, cap, by rw [ht1], by rw [ht1]; exact hlc, ?_⟩
    by_cases h0 : os = []
    · exact Or.inl h0
    · right
      have hpos : 0 < os.length := List.length_pos_iff.2 h0
      have hsp := hspot (by omega)
      obtain ⟨b, o, sp⟩ := a
      have hsp' : sp = none := hsp
      subst hsp'
      exact ⟨b, o, rfl, fun i hi => ht2 i hi⟩
end
end Go.Proofs.YtnjomdjkbbhdoaaGreatDoor
