/-
  What the law DeriveSecrets needs, part 4.
  No condition.
-/
import Derived.Test.YtnjomdjkbbhdoaaGreatDoorP3
set_option linter.unusedVariables false
set_option linter.unusedSimpArgs false
set_option linter.unusedSectionVars false
namespace Go.Proofs.YtnjomdjkbbhdoaaGreatDoor
open Go.RowKit
set_option linter.unusedVariables false
set_option linter.unusedSimpArgs false
set_option maxRecDepth 100000
set_option maxHeartbeats 400000 in
theorem pPowerE {x : Item} {cx : List Value} {be hb : Nat} {its : List Item} {had : List Bool} {σ : Hp} {w : World} (hi : Imm σ w) (hE : EngC σ be hb its had) (hok : ItsOK its) (hlen : had.length = its.length) (hx : ItemC σ cx x) (hxl : x.kids.length ≤ 4) (hxv : ∀ z ∈ x.kids, 0 ≤ z ∧ z < (its.length : Int)) : Calls Tryz.prog 107 #[.pointer (some ⟨be, 0, none⟩), .agg cx.toArray] w fun e w' => e = .returned (.bool (powerB its had x)) ∧ Below w.heap.size w w' := by
  have hE0 := hE
  have hx0 := hx
  obtain ⟨iv, ch, hc1, hc2, hc3⟩ := hE
  obtain ⟨kx, mx, rfl, hxk, hxm⟩ := hx
  obtain ⟨p, ci, rfl, hci, hsi⟩ := hc2
  have hl9 := hok.len
  refine enter (St w (fun _ => False) σ [] []) Tryz.func107 rfl Tryz.ntmps107 rfl (St.start hi) ?_
  refine cw_seq ?_
  refine cw_region ?_
  refine ow_blk rfl rfl (exw_box rfl) ?_; intro b3
  refine ow_val rfl rfl (ex_assign rfl) ?_
  refine ow_nil ?_
  refine qw_seq ?_
  refine cw_seq ?_
  refine cw_seq ?_
  refine cw_region ?_
  refine ow_val rfl rfl (ex_move rfl) ?_
  refine ow_val rfl rfl (ex_nilck rfl) ?_
  refine ow_val rfl rfl (ex_field rfl) ?_
  refine ow_val rfl rfl (ex_load1 rfl (ld_imm1 (hc1.fld (i := 0) rfl))) ?_
  refine ow_val rfl rfl (ex_len (ty := 0) rfl) ?_
  refine ow_val rfl rfl (ex_move rfl) ?_
  refine ow_nil ?_
  refine qw_seq ?_
  refine cw_block ?_
  refine cw_loop2 (fun (i : Nat) (τ : Hp) => [(0, .pointer (some ⟨be, 0, none⟩)), (3, .pointer (some ⟨b3, 0, none⟩)), (12, .slice p its.length ci), (13, .int .i64 (its.length : Int)), (14, .int .i64 (i : Int))]) (fun i τ => i ≤ its.length ∧ Le σ τ ∧ Fresh σ τ w ∧ powB had x i (its.drop i) = powB had x 0 its) (fun _ τ => τ) (fun _ _ => []) (fun i _ => its.length - i) 0 σ (subL_cons (lkv rfl (by first | rfl | simp)) (subL_cons (lkv rfl (by first | rfl | simp)) (subL_cons (lkv rfl (by first | rfl | simp)) (subL_cons (lkv rfl (by first | rfl | simp)) (subL_cons (lkv rfl (by first | rfl | simp)) (subL_nil _)))))) ⟨Nat.zero_le _, Le.refl _, Fresh.refl _ _, rfl⟩ (fun w h => h) ?_
  intro i τ ⟨hlei, hlj, hfj, hpb⟩
  refine cw_seq ?_
  refine cw_region ?_
  refine ow_val rfl rfl (ex_lss rfl rfl) ?_
  refine ow_nil ?_
  refine qw_seq ?_
  refine cw_seq ?_
  refine cw_cond rfl (fun c15 => ?_) (fun c15 => ?_)
  ·
    have hlt : i < its.length := by have := of_decide_eq_true c15; omega
    obtain ⟨bi, oi, rfl, hits⟩ := hsi.resolve_left (fun hn => by subst hn; simp at hlt)
    obtain ⟨cy, hcy, hIy⟩ := hits i hlt
    have hIy0 := hIy
    obtain ⟨ky, my, rfl, hyk, hym⟩ := hIy
    have hyl := hok.kl _ (List.getElem_mem hlt)
    have hpd := powB_drop (had := had) (x := x) hlt
    refine cw_skip ?_
    refine qw_seq ?_
    refine cw_seq ?_
    refine cw_block ?_
    refine cw_seq ?_
    refine cw_region ?_
    refine ow_val rfl rfl (ex_move rfl) ?_
    refine ow_val rfl rfl (ex_index_nat (i := i) rfl rfl hlt) ?_
    refine ow_val rfl rfl (ex_loadR rfl (ld_immN (hcy.le hlj) rfl)) ?_
    refine ow_blk rfl rfl exw_alloc ?_; intro b6
    refine ow_val rfl rfl (ex_assign rfl) ?_
    refine ow_u rfl (exu_storeN 0 rfl rfl rfl rfl hIy0.one rfl) ?_
    refine ow_nil ?_
    refine qw_seq ?_
    refine cw_seq ?_
    refine cw_region ?_
    refine ow_val rfl rfl (ex_field rfl) ?_
    refine ow_val rfl rfl (ex_load1 rfl (by first | exact ld_own1 0 rfl rfl | exact ld_own1 1 rfl rfl | exact ld_own1 2 rfl rfl | exact ld_own1 3 rfl rfl | exact ld_own1 4 rfl rfl | exact ld_own1 5 rfl rfl | exact ld_own1 6 rfl rfl | exact ld_own1 7 rfl rfl | exact ld_ownG1 0 rfl rfl | exact ld_ownG1 1 rfl rfl | exact ld_imm1 (by assumption))) ?_
    refine ow_val rfl rfl (ex_eql rfl rfl) ?_
    refine ow_val rfl rfl (ex_move rfl) ?_
    refine ow_split (g := some (3, true)) rfl (fun s22 => ?_) (fun s22 => ?_)
    ·
      have q7 : decide (its[i].op = 7) = true := s22
      refine ow_val rfl (gd_go rfl s22) (ex_move rfl) ?_
      refine ow_val rfl (gd_go rfl s22) (ex_nilck rfl) ?_
      refine ow_val rfl (gd_go rfl s22) (ex_field rfl) ?_
      refine ow_val rfl (gd_go rfl s22) (ex_load1 rfl (ld_imm1 ((hc1.le hlj).fld (i := 1) rfl))) ?_
      refine ow_val rfl (gd_go rfl s22) (ex_move rfl) ?_
      refine ow_val rfl (gd_go rfl s22) (ex_index_nat (i := i) rfl rfl (by omega)) ?_
      refine ow_val rfl (gd_go rfl s22) (ex_load1 rfl (ld_imm1 ((hc3.le hlj).bool (i := i) (by omega)))) ?_
      refine ow_val rfl rfl (ex_pickt rfl s22 rfl) ?_
      refine ow_nil ?_
      refine qw_seq ?_
      refine cw_cond rfl (fun c30 => ?_) (fun c30 => ?_)
      ·
        have q8 : had.getD i false = true := c30
        refine cw_seq ?_
        refine cw_region ?_
        refine ow_val rfl rfl (ex_field rfl) ?_
        refine ow_val rfl rfl (ex_load1 rfl (by first | exact ld_own1 0 rfl rfl | exact ld_own1 1 rfl rfl | exact ld_own1 2 rfl rfl | exact ld_own1 3 rfl rfl | exact ld_own1 4 rfl rfl | exact ld_own1 5 rfl rfl | exact ld_own1 6 rfl rfl | exact ld_own1 7 rfl rfl | exact ld_ownG1 0 rfl rfl | exact ld_ownG1 1 rfl rfl | exact ld_imm1 (by assumption))) ?_
        refine ow_val rfl rfl (ex_field rfl) ?_
        refine ow_val rfl rfl (ex_load1 rfl (by first | exact ld_own1 0 rfl rfl | exact ld_own1 1 rfl rfl | exact ld_own1 2 rfl rfl | exact ld_own1 3 rfl rfl | exact ld_own1 4 rfl rfl | exact ld_own1 5 rfl rfl | exact ld_own1 6 rfl rfl | exact ld_own1 7 rfl rfl | exact ld_ownG1 0 rfl rfl | exact ld_ownG1 1 rfl rfl | exact ld_imm1 (by assumption))) ?_
        refine ow_cr rfl rfl (ex_callf rfl (fun w h => callR (pLess h.im (hxk.le hlj) (hyk.le hlj) (by omega) (by omega)))) (fun v36 τ2 hl2 hf2 hr2 => ?_)
        obtain ⟨u36, rfl, hu36⟩ := hr2
        refine ow_val rfl rfl (ex_move rfl) ?_
        refine ow_val rfl rfl (ex_extract rfl rfl) ?_
        refine ow_val rfl rfl (ex_extract rfl rfl) ?_
        refine ow_val rfl rfl (ex_assign rfl) ?_
        refine ow_val rfl rfl (ex_assign rfl) ?_
        refine ow_nil ?_
        refine qw_seq ?_
        refine cw_seq ?_
        refine cw_region ?_
        refine ow_val rfl rfl (ex_move rfl) ?_
        refine ow_val rfl rfl (ex_move rfl) ?_
        refine ow_split (g := some (1, true)) rfl (fun s40 => ?_) (fun s40 => ?_)
        ·
          obtain ⟨rs, hrs⟩ := Option.isSome_iff_exists.1 (show (lessV x.kids its[i].kids).isSome = true from s40)
          have hsub := lessV_sub hrs
          have hrs9 : IntsV τ2 u36 rs := by rw [hrs] at hu36; exact hu36
          have q5 := lessB_some (had := had) hrs
          refine ow_val rfl (gd_go rfl s40) (ex_move rfl) ?_
          refine ow_val rfl (gd_go rfl s40) (ex_move rfl) ?_
          refine ow_cv rfl (gd_go rfl s40) (ex_callf rfl (fun w h => callB ((pAllE h.im (hE0.le (hlj.trans hl2)) hrs9 (by omega) (fun z hz => by rw [hlen]; exact hxv z (hsub.1 z hz)))))) ?_
          refine ow_val rfl rfl (ex_pickt rfl s40 rfl) ?_
          refine ow_nil ?_
          refine qw_seq ?_
          refine cw_cond rfl (fun c44 => ?_) (fun c44 => ?_)
          ·
            have q4 : powerB its had x = true := by unfold powerB; rw [← hpb, hpd, q7, q8, q5, show allB had rs = true from c44]; rfl
            refine cw_seq ?_
            refine cw_region ?_
            refine ow_val rfl rfl (ex_assign rfl) ?_
            refine ow_nil ?_
            refine qw_seq ?_
            refine cw_ret ?_
            refine qw_block_ret ?_
            refine qw_then_ret ?_
            refine qw_then_ret ?_
            refine qw_block_ret ?_
            refine qw_then_ret ?_
            refine qw_ret1 rfl rfl (fun w' h => ⟨congrArg (fun z => Ending.returned (.bool z)) ?_, h.ag.below⟩)
            rw [q4]
          ·
            have q6 : (lessB had x.kids its[i].kids) = false := by rw [q5]; exact c44
            refine cw_skip ?_
            refine qw_block_normal ?_
            refine qw_seq ?_
            refine cw_region ?_
            refine ow_val rfl rfl (ex_addi (z := ((i + 1 : Nat) : Int)) rfl rfl (by omega) (by omega) (by omega)) ?_
            refine ow_val rfl rfl (ex_move rfl) ?_
            refine ow_nil ?_
            exact qw_round2 (i + 1) τ2 (by omega) (subL_cons (lkv rfl (by first | rfl | simp)) (subL_cons (lkv rfl (by first | rfl | simp)) (subL_cons (lkv rfl (by first | rfl | simp)) (subL_cons (lkv rfl (by first | rfl | simp)) (subL_cons (lkv rfl (by first | rfl | simp)) (subL_nil _)))))) ⟨by omega, hlj.trans hl2, hfj.trans hf2, by rw [← hpb, hpd, q6]; simp⟩ (fun w h => h.drop (List.sublist_cons_self _ _))
        ·
          have q6 : (lessB had x.kids its[i].kids) = false := lessB_none s40
          refine ow_skip rfl (gd_no rfl s40) ?_
          refine ow_skip rfl (gd_no rfl s40) ?_
          refine ow_skip rfl (gd_no rfl s40) ?_
          refine ow_val rfl rfl (ex_pickf rfl s40 rfl) ?_
          refine ow_nil ?_
          refine qw_seq ?_
          refine cw_cond_f rfl ?_
          refine cw_skip ?_
          refine qw_block_normal ?_
          refine qw_seq ?_
          refine cw_region ?_
          refine ow_val rfl rfl (ex_addi (z := ((i + 1 : Nat) : Int)) rfl rfl (by omega) (by omega) (by omega)) ?_
          refine ow_val rfl rfl (ex_move rfl) ?_
          refine ow_nil ?_
          exact qw_round2 (i + 1) τ2 (by omega) (subL_cons (lkv rfl (by first | rfl | simp)) (subL_cons (lkv rfl (by first | rfl | simp)) (subL_cons (lkv rfl (by first | rfl | simp)) (subL_cons (lkv rfl (by first | rfl | simp)) (subL_cons (lkv rfl (by first | rfl | simp)) (subL_nil _)))))) ⟨by omega, hlj.trans hl2, hfj.trans hf2, by rw [← hpb, hpd, q6]; simp⟩ (fun w h => h.drop (List.sublist_cons_self _ _))
      ·
        have q8 : had.getD i false = false := c30
        refine cw_skip ?_
        refine qw_block_normal ?_
        refine qw_seq ?_
        refine cw_region ?_
        refine ow_val rfl rfl (ex_addi (z := ((i + 1 : Nat) : Int)) rfl rfl (by omega) (by omega) (by omega)) ?_
        refine ow_val rfl rfl (ex_move rfl) ?_
        refine ow_nil ?_
        exact qw_round2 (i + 1) τ (by omega) (subL_cons (lkv rfl (by first | rfl | simp)) (subL_cons (lkv rfl (by first | rfl | simp)) (subL_cons (lkv rfl (by first | rfl | simp)) (subL_cons (lkv rfl (by first | rfl | simp)) (subL_cons (lkv rfl (by first | rfl | simp)) (subL_nil _)))))) ⟨by omega, hlj, hfj, by rw [← hpb, hpd, q8]; simp⟩ (fun w h => h.drop (List.sublist_cons_self _ _))
    ·
      have q9 : decide (its[i].op = 7) = false := s22
      refine ow_skip rfl (gd_no rfl s22) ?_
      refine ow_skip rfl (gd_no rfl s22) ?_
      refine ow_skip rfl (gd_no rfl s22) ?_
      refine ow_skip rfl (gd_no rfl s22) ?_
      refine ow_skip rfl (gd_no rfl s22) ?_
      refine ow_skip rfl (gd_no rfl s22) ?_
      refine ow_skip rfl (gd_no rfl s22) ?_
      refine ow_val rfl rfl (ex_pickf rfl s22 rfl) ?_
      refine ow_nil ?_
      refine qw_seq ?_
      refine cw_cond_f rfl ?_
      refine cw_skip ?_
      refine qw_block_normal ?_
      refine qw_seq ?_
      refine cw_region ?_
      refine ow_val rfl rfl (ex_addi (z := ((i + 1 : Nat) : Int)) rfl rfl (by omega) (by omega) (by omega)) ?_
      refine ow_val rfl rfl (ex_move rfl) ?_
      refine ow_nil ?_
      exact qw_round2 (i + 1) τ (by omega) (subL_cons (lkv rfl (by first | rfl | simp)) (subL_cons (lkv rfl (by first | rfl | simp)) (subL_cons (lkv rfl (by first | rfl | simp)) (subL_cons (lkv rfl (by first | rfl | simp)) (subL_cons (lkv rfl (by first | rfl | simp)) (subL_nil _)))))) ⟨by omega, hlj, hfj, by rw [← hpb, hpd, q9]; simp⟩ (fun w h => h.drop (List.sublist_cons_self _ _))
  ·
    have he : i = its.length := by have := of_decide_eq_false c15; omega
    rw [he, List.drop_length] at hpb
    refine cw_exit ?_
    refine qw_then_exit ?_
    refine qw_then_exit ?_
    refine qw_block_exit ?_
    refine qw_seq ?_
    refine cw_seq ?_
    refine cw_region ?_
    refine ow_val rfl rfl (ex_move rfl) ?_
    refine ow_val rfl rfl (ex_field rfl) ?_
    refine ow_val rfl rfl (ex_load1 rfl (by first | exact ld_own1 0 rfl rfl | exact ld_own1 1 rfl rfl | exact ld_own1 2 rfl rfl | exact ld_own1 3 rfl rfl | exact ld_own1 4 rfl rfl | exact ld_own1 5 rfl rfl | exact ld_own1 6 rfl rfl | exact ld_own1 7 rfl rfl | exact ld_ownG1 0 rfl rfl | exact ld_ownG1 1 rfl rfl | exact ld_imm1 (by assumption))) ?_
    refine ow_cv rfl rfl (ex_callf rfl (fun w h => callB ((pAllE h.im (hE0.le hlj) (hxk.le hlj) (by omega) (fun z hz => by rw [hlen]; exact hxv z hz))))) ?_
    refine ow_val rfl rfl (ex_assign rfl) ?_
    refine ow_nil ?_
    refine qw_seq ?_
    refine cw_ret ?_
    refine qw_ret1 rfl rfl (fun w' h => ⟨congrArg (fun z => Ending.returned (.bool z)) ?_, h.ag.below⟩)
    unfold powerB
    rw [← hpb]; rfl
set_option maxHeartbeats 400000 in
theorem pMadeE {x : Item} {cx : List Value} {be hb : Nat} {its : List Item} {had : List Bool} {σ : Hp} {w : World} (hi : Imm σ w) (hE : EngC σ be hb its had) (hok : ItsOK its) (hlen : had.length = its.length) (hx : ItemC σ cx x) (hxl : x.kids.length ≤ 4) (hxv : ∀ z ∈ x.kids, 0 ≤ z ∧ z < (its.length : Int)) (hml : x.ments.length ≤ 8192) (hmv : ∀ z ∈ x.ments, 0 ≤ z ∧ z < (its.length : Int)) : Calls Tryz.prog 87 #[.pointer (some ⟨be, 0, none⟩), .agg cx.toArray] w fun e w' => e = .returned (.bool (madeB its had x)) ∧ Below w.heap.size w w' := by
  have hE0 := hE
  have hx0 := hx
  obtain ⟨kx, mx, rfl, hxk, hxm⟩ := hx
  refine enter (St w (fun _ => False) σ [] []) Tryz.func87 rfl Tryz.ntmps87 rfl (St.start hi) ?_
  refine cw_seq ?_
  refine cw_region ?_
  refine ow_blk rfl rfl (exw_box rfl) ?_; intro b3
  refine ow_val rfl rfl (ex_assign rfl) ?_
  refine ow_nil ?_
  refine qw_seq ?_
  refine cw_seq ?_
  refine cw_seq ?_
  refine cw_region ?_
  refine ow_val rfl rfl (ex_field rfl) ?_
  refine ow_val rfl rfl (ex_load1 rfl (by first | exact ld_own1 0 rfl rfl | exact ld_own1 1 rfl rfl | exact ld_own1 2 rfl rfl | exact ld_own1 3 rfl rfl | exact ld_own1 4 rfl rfl | exact ld_own1 5 rfl rfl | exact ld_own1 6 rfl rfl | exact ld_own1 7 rfl rfl | exact ld_ownG1 0 rfl rfl | exact ld_ownG1 1 rfl rfl | exact ld_imm1 (by assumption))) ?_
  refine ow_nil ?_
  refine qw_seq ?_
  refine cw_block ?_
  refine cw_seq ?_
  refine cw_region ?_
  refine ow_val rfl rfl (ex_eql rfl rfl) ?_
  refine ow_val rfl rfl (ex_assign rfl) ?_
  refine ow_nil ?_
  refine qw_seq ?_
  refine cw_cond rfl (fun c7 => ?_) (fun c7 => ?_)
  ·
    have q1 : x.op = 1 := of_decide_eq_true c7
    refine cw_seq ?_
    refine cw_region ?_
    refine ow_val rfl rfl (ex_assign rfl) ?_
    refine ow_nil ?_
    refine qw_seq ?_
    refine cw_ret ?_
    refine qw_block_ret ?_
    refine qw_then_ret ?_
    refine qw_ret1 rfl rfl (fun w' h => ⟨congrArg (fun z => Ending.returned (.bool z)) ?_, h.ag.below⟩)
    unfold madeB
    first
    | (rw [if_pos q1]; done)
    | (rw [if_neg q1, if_pos q2]; done)
    | (rw [if_neg q1, if_neg q2, show allB had x.kids = true from s18]; rfl)
    | (rw [if_neg q1, if_neg q2, show allB had x.kids = false from s18]; rfl)
  ·
    have q1 : ¬ x.op = 1 := of_decide_eq_false c7
    refine cw_seq ?_
    refine cw_region ?_
    refine ow_val rfl rfl (ex_eql rfl rfl) ?_
    refine ow_val rfl rfl (ex_assign rfl) ?_
    refine ow_nil ?_
    refine qw_seq ?_
    refine cw_cond rfl (fun c9 => ?_) (fun c9 => ?_)
    ·
      have q2 : x.op = 7 := of_decide_eq_true c9
      refine cw_seq ?_
      refine cw_region ?_
      refine ow_val rfl rfl (ex_move rfl) ?_
      refine ow_val rfl rfl (ex_loadR rfl (by first | exact ld_ownN 0 rfl rfl | exact ld_ownN 1 rfl rfl | exact ld_ownN 2 rfl rfl | exact ld_ownN 3 rfl rfl | exact ld_ownN 4 rfl rfl | exact ld_ownN 5 rfl rfl | exact ld_ownN 6 rfl rfl | exact ld_ownN 7 rfl rfl | exact ld_ownGN 0 rfl rfl | exact ld_ownGN 1 rfl rfl | exact ld_immT (by assumption) (by assumption))) ?_
      refine ow_cv rfl rfl (ex_callf rfl (fun w h => callB ((pPowerE h.im hE0 hok hlen hx0 hxl hxv)))) ?_
      refine ow_val rfl rfl (ex_assign rfl) ?_
      refine ow_nil ?_
      refine qw_seq ?_
      refine cw_ret ?_
      refine qw_block_ret ?_
      refine qw_then_ret ?_
      refine qw_ret1 rfl rfl (fun w' h => ⟨congrArg (fun z => Ending.returned (.bool z)) ?_, h.ag.below⟩)
      unfold madeB
      first
      | (rw [if_pos q1]; done)
      | (rw [if_neg q1, if_pos q2]; done)
      | (rw [if_neg q1, if_neg q2, show allB had x.kids = true from s18]; rfl)
      | (rw [if_neg q1, if_neg q2, show allB had x.kids = false from s18]; rfl)
    ·
      have q2 : ¬ x.op = 7 := of_decide_eq_false c9
      refine cw_skip ?_
      refine qw_block_normal ?_
      refine qw_seq ?_
      refine cw_seq ?_
      refine cw_region ?_
      refine ow_val rfl rfl (ex_move rfl) ?_
      refine ow_val rfl rfl (ex_field rfl) ?_
      refine ow_val rfl rfl (ex_load1 rfl (by first | exact ld_own1 0 rfl rfl | exact ld_own1 1 rfl rfl | exact ld_own1 2 rfl rfl | exact ld_own1 3 rfl rfl | exact ld_own1 4 rfl rfl | exact ld_own1 5 rfl rfl | exact ld_own1 6 rfl rfl | exact ld_own1 7 rfl rfl | exact ld_ownG1 0 rfl rfl | exact ld_ownG1 1 rfl rfl | exact ld_imm1 (by assumption))) ?_
      refine ow_cv rfl rfl (ex_callf rfl (fun w h => callB ((pAllE h.im hE0 hxk (by omega) (fun z hz => by rw [hlen]; exact hxv z hz))))) ?_
      refine ow_val rfl rfl (ex_move rfl) ?_
      refine ow_split (g := some (4, true)) rfl (fun s18 => ?_) (fun s18 => ?_)
      ·
        refine ow_val rfl (gd_go rfl s18) (ex_move rfl) ?_
        refine ow_val rfl (gd_go rfl s18) (ex_field rfl) ?_
        refine ow_val rfl (gd_go rfl s18) (ex_load1 rfl (by first | exact ld_own1 0 rfl rfl | exact ld_own1 1 rfl rfl | exact ld_own1 2 rfl rfl | exact ld_own1 3 rfl rfl | exact ld_own1 4 rfl rfl | exact ld_own1 5 rfl rfl | exact ld_own1 6 rfl rfl | exact ld_own1 7 rfl rfl | exact ld_ownG1 0 rfl rfl | exact ld_ownG1 1 rfl rfl | exact ld_imm1 (by assumption))) ?_
        refine ow_cv rfl (gd_go rfl s18) (ex_callf rfl (fun w h => callB ((pAllE h.im hE0 hxm (by omega) (fun z hz => by rw [hlen]; exact hmv z hz))))) ?_
        refine ow_val rfl rfl (ex_pickt rfl s18 rfl) ?_
        refine ow_val rfl rfl (ex_assign rfl) ?_
        refine ow_nil ?_
        refine qw_seq ?_
        refine cw_ret ?_
        refine qw_ret1 rfl rfl (fun w' h => ⟨congrArg (fun z => Ending.returned (.bool z)) ?_, h.ag.below⟩)
        unfold madeB
        first
        | (rw [if_pos q1]; done)
        | (rw [if_neg q1, if_pos q2]; done)
        | (rw [if_neg q1, if_neg q2, show allB had x.kids = true from s18]; rfl)
        | (rw [if_neg q1, if_neg q2, show allB had x.kids = false from s18]; rfl)
      ·
        refine ow_skip rfl (gd_no rfl s18) ?_
        refine ow_skip rfl (gd_no rfl s18) ?_
        refine ow_skip rfl (gd_no rfl s18) ?_
        refine ow_skip rfl (gd_no rfl s18) ?_
        refine ow_val rfl rfl (ex_pickf rfl s18 rfl) ?_
        refine ow_val rfl rfl (ex_assign rfl) ?_
        refine ow_nil ?_
        refine qw_seq ?_
        refine cw_ret ?_
        refine qw_ret1 rfl rfl (fun w' h => ⟨congrArg (fun z => Ending.returned (.bool z)) ?_, h.ag.below⟩)
        unfold madeB
        first
        | (rw [if_pos q1]; done)
        | (rw [if_neg q1, if_pos q2]; done)
        | (rw [if_neg q1, if_neg q2, show allB had x.kids = true from s18]; rfl)
        | (rw [if_neg q1, if_neg q2, show allB had x.kids = false from s18]; rfl)
end Go.Proofs.YtnjomdjkbbhdoaaGreatDoor
namespace Go.Proofs.YtnjomdjkbbhdoaaGreatDoor
open Go.RowKit
set_option linter.unusedVariables false
set_option linter.unusedSimpArgs false
set_option linter.unusedSectionVars false
section
variable [DS] {F : Fence} {nn : Nat} {P : Program} {l0 rest : List Oper} {Q : Exit → Act → World → Prop} {N : Nat} {L : TL} {S : World → Prop} {d : Nat} {ty : TypeId} {pos : String} {af : Array Edge} {g : Option (Nat × Bool)} {op : Op}
def OI (F : Fence) (nn : Nat) (P : Program) (l0 : List Oper) (Q : Exit → Act → World → Prop) (l : List Oper) (N : Nat) (L : TL) (S : World → Prop) : Prop :=
  ∀ a w, Fr N L a → S w → wpListIn F nn P l0.toArray Q l a w
theorem cw_regionI {id : Nat} {l : List Oper} (nn : Nat) (h : OI Fence.wide nn P l Q l N L S) : CW P (.region id l.toArray false) Q N L S := fun a w hf hs => wpIn_wide.1 (wpIn_region_lit (h a w hf hs))
theorem oi_nil (h : QW Q .normal N L S) : OI F nn P l0 Q [] N L S := fun a w hf hs => h a w hf hs
theorem oi_split {g : Option (Nat × Bool)} {b : Bool} {l : List Oper} (hb : gb l0 L g = some b) (ht : b = true → OI F nn P l0 Q l N L S) (hf : b = false → OI F nn P l0 Q l N L S) : OI F nn P l0 Q l N L S := by
  cases b
  · exact hf rfl
  · exact ht rfl
theorem oi_step {o : Oper} (hF : ∀ f, F.fn f) (hg : gd l0 L o.guard = some true) (h : ∀ a w, Fr N L a → S w → o.uponIn F nn P a (wpListIn F nn P l0.toArray Q rest) Q ((o.semAt F.round a.eval).run P w)) : OI F nn P l0 Q (o :: rest) N L S :=
  fun a w hf hs => by
    unfold wpListIn
    rw [if_pos (wanted_of hf hg)]
    exact ⟨fun f _ => hF f, h a w hf hs⟩
theorem oi_skip (hF : ∀ f, F.fn f) (hN : Nat.blt d N = true) (hg : gd l0 L g = some false) (k : OI F nn P l0 Q rest N ((d, undef) :: L) S) : OI F nn P l0 Q (⟨some d, op, ty, pos, af, g⟩ :: rest) N L S :=
  fun a w hf hs => by
    unfold wpListIn
    rw [if_neg (by rw [wanted_of hf hg]; simp)]
    exact ⟨fun f _ => hF f, k _ _ (hf.put _ hN) hs⟩
theorem oi_val {v : Value} (hF : ∀ f, F.fn f) (hd : ∀ c, op ≠ .defer c) (hN : Nat.blt d N = true) (hg : gd l0 L g = some true) (h : Ex P op N L S v) (k : OI F nn P l0 Q rest N ((d, v) :: L) S) :
    OI F nn P l0 Q (⟨some d, op, ty, pos, af, g⟩ :: rest) N L S :=
  oi_step hF hg fun a w hf hs => by
    rw [Oper.semAt_plain F _ _ hd, h a w hf hs]
    exact k _ _ (hf.put _ hN) hs
theorem oi_u {T : World → Prop} (hF : ∀ f, F.fn f) (hd : ∀ c, op ≠ .defer c) (hg : gd l0 L g = some true) (h : ExU P op N L S T) (k : OI F nn P l0 Q rest N L T) :
    OI F nn P l0 Q (⟨none, op, ty, pos, af, g⟩ :: rest) N L S :=
  oi_step hF hg fun a w hf hs => by
    obtain ⟨w', h1, h2⟩ := h a w hf hs none ty pos af g
    rw [Oper.semAt_plain F _ _ hd, h1]
    exact k _ _ hf h2
theorem wide_fn (f : FuncId) : Fence.wide.fn f := trivial
theorem oi_cv {v : Value} [hS : Sta S] (hd : ∀ c, op ≠ .defer c) (hN : Nat.blt d N = true) (hg : gd l0 L g = some true) (h : ExC P op N L S (fun w u w' => u = v ∧ Below w.heap.size w w'))
    (k : OI Fence.wide nn P l0 Q rest N ((d, v) :: L) S) : OI Fence.wide nn P l0 Q (⟨some d, op, ty, pos, af, g⟩ :: rest) N L S :=
  oi_step wide_fn hg fun a w hf hs => by
    obtain ⟨f, args, h1, h2⟩ := h a w hf hs (some d) ty pos af g
    rw [Oper.semAt_plain Fence.wide _ _ hd, h1, Oper.uponIn_enter]
    refine ⟨fun hd' => (by cases hd'), callsIn_wide.2 (Calls.mono h2 ?_)⟩
    rintro e w' ⟨u, rfl, rfl, hb⟩
    exact k _ _ (hf.put _ hN) (hS.keep w w' hs hb)
theorem oi_yield {l : Nat} {x fo : Operand} {ats : Array TypeId} {z : Value} {R : World → Ending → World → Prop} (hN : Nat.blt d N = true) (hg : gd l0 L g = some true) (hfo : ev L fo = some (.func (.yield l) #[] #[])) (hx : ev L x = some z)
    (hY : ∀ w, S w → YieldAt Fence.wide (nn - 1) P l #[z] w (R w)) (hR : ∀ w e w', R w e w' → ∃ b, e = .returned (.bool b))
    (k : ∀ b, OI Fence.wide nn P l0 Q rest N ((d, .bool b) :: L) (fun w' => ∃ w, S w ∧ R w (.returned (.bool b)) w')) :
    OI Fence.wide nn P l0 Q (⟨some d, .call { callee := .value fo, args := #[x], argTypes := ats }, ty, pos, af, g⟩ :: rest) N L S :=
  oi_step wide_fn hg fun a w hf hs => by
    obtain ⟨fn, tmps, assign, body, hy, hr⟩ := hY w hs
    have h1 : (execOp a.eval ⟨some d, .call { callee := .value fo, args := #[x], argTypes := ats }, ty, pos, af, g⟩).run P w = .ok (.round l fn tmps assign body) w := by
      simp [execOp, resolve, invoke, Deferred.ofValue, hf.eval hfo, hf.eval hx, hy]
    rw [Oper.semAt_plain Fence.wide _ _ (fun c h => by cases h), h1, Oper.uponIn_round]
    refine ⟨fun hd' => (by cases hd'), hr.mono ?_⟩
    intro e w' he
    obtain ⟨b, rfl⟩ := hR w e w' he
    exact k b _ _ (hf.put _ hN) ⟨w, hs, he⟩
end
theorem CellsAt.took {σ : Hp} {b o k : Nat} {arr : Array Value} {ty : TypeId} {fz : Nat × Nat} {cs : List Value} (h : σ b = some (.cells arr ty fz)) (hv : takeV (dropV arr.toList o) k = some cs) : CellsAt σ b o cs := by
  obtain ⟨_, h2⟩ := takeV_get hv
  refine ⟨arr, ty, fz, h, fun j v hj => ?_⟩
  have := h2 j v hj
  rw [dropV_eq, List.getElem?_drop] at this
  simpa using this
def hadO (e : Nat) (had : List Bool) : Obj := .cells (boolsV had).toArray e (0, 0)
structure KpE (n₀ hb bm e : Nat) (its : List Item) (known : List Int) (W W' : World) : Prop where
  sz : W.heap.size ≤ W'.heap.size
  bl : ∀ k o, k ≠ hb → k ≠ bm → W.heap[k]? = some o → (k < n₀ ∨ o.isCells = true) → W'.heap[k]? = some o
  hd : ∀ had, W.heap[hb]? = some (hadO e had) → Sound its known had → ∃ had', W'.heap[hb]? = some (hadO e had') ∧ HadLe had had' ∧ Sound its known had'
theorem KpE.trans {n₀ hb bm e : Nat} {its : List Item} {known : List Int} {A B C : World} (h : KpE n₀ hb bm e its known A B) (k : KpE n₀ hb bm e its known B C) : KpE n₀ hb bm e its known A C :=
  ⟨Nat.le_trans h.sz k.sz, fun b o h1 h2 h3 h4 => k.bl b o h1 h2 (h.bl b o h1 h2 h3 h4) h4, fun had h1 h2 => by
    obtain ⟨had1, a1, a2, a3⟩ := h.hd had h1 h2
    obtain ⟨had2, b1, b2, b3⟩ := k.hd had1 a1 a3
    exact ⟨had2, b1, a2.trans b2, b3⟩⟩
theorem KpE.turn {n₀ hb bm e : Nat} {its : List Item} {known : List Int} (W : World) (l : Nat) (o o' : Obj) (hl : n₀ ≤ l) (hb0 : hb < n₀) (h : W.heap[l]? = some o) (hc : o.isCells = false) : KpE n₀ hb bm e its known W (W.putObj l o') := by
  refine ⟨by simp, fun k u h1 h2 h3 h4 => ?_, fun had h1 h2 => ⟨had, ?_, HadLe.refl _, h2⟩⟩
  · have hne : k ≠ l := by
      rintro rfl
      rw [h] at h3; cases h3
      rcases h4 with h4 | h4
      · omega
      · rw [hc] at h4; cases h4
    rw [World.putObj_heap_other hne]; exact h3
  · rw [World.putObj_heap_other (by omega)]; exact h1
structure GoodH (n₀ hb bm : Nat) (τ : Hp) : Prop where
  h1 : τ hb = none
  h2 : τ bm = none
  h3 : ∀ b o, τ b = some o → b < n₀ ∨ o.isCells = true
abbrev Hx (its : List Item) (known : List Int) : Type := { x : Nat // x < its.length ∧ Had its known x }
theorem grown_of_below {w0 w : World} (h : Below w0.heap.size w0 w) : w0.grownBy w none := ⟨h.os, h.tape, h.output, h.size, fun k hk _ => h.block k hk⟩
theorem CellsAt.had {σ : Hp} {hb e : Nat} {had : List Bool} : CellsAt (ext σ hb (hadO e had)) hb 0 (boolsV had) := ⟨_, _, _, Go.Proofs.YtnjomdjkbbhdoaaGreatDoor.ext_self _ _ _, fun j v hj => by simpa using hj⟩
theorem St.down {w0 w : World} {M : Nat → Prop} {σ τ : Hp} (h : St w0 M τ [] [] w) (hl : Le σ τ) : St w0 M σ [] [] w := ⟨St0.ag h, fun b o e => St0.im h b o (hl b o e), fun p hp => by simp at hp, fun p hp => by simp at hp, fun p hp => by simp at hp, by simp⟩
theorem ext_le {σ τ : Hp} (h : Le σ τ) (b : Nat) (o : Obj) : Le (ext σ b o) (ext τ b o) := fun k u e => by
  unfold ext at *
  split at e
  · rename_i hk; rw [if_pos hk]; exact e
  · rename_i hk; rw [if_neg hk]; exact h k u e
theorem GoodH.le {n₀ hb bm : Nat} {τ : Hp} (h : GoodH n₀ hb bm τ) (o : Obj) : Le τ (ext τ hb o) := le_ext h.h1
theorem KpE.st {n₀ hb bm e : Nat} {its : List Item} {known : List Int} {w0 w w' : World} {τ : Hp} {had : List Bool} (hk : KpE n₀ hb bm e its known w w') (hg : GoodH n₀ hb bm τ) (hs : St w0 (fun _ => False) (ext τ hb (hadO e had)) [] [] w) (hso : Sound its known had) :
    ∃ had', HadLe had had' ∧ Sound its known had' ∧ St w' (fun _ => False) (ext τ hb (hadO e had')) [] [] w' := by
  obtain ⟨had', a1, a2, a3⟩ := hk.hd had (hs.im hb _ (ext_self _ _ _)) hso
  refine ⟨had', a2, a3, St.start fun b o hb' => ?_⟩
  unfold ext at hb'
  split at hb'
  · rename_i h; subst h; cases hb'; exact a1
  · rename_i h
    have hw := hs.im b o (by unfold ext; rw [if_neg h]; exact hb')
    exact hk.bl b o h (fun e9 => by subst e9; rw [hg.h2] at hb'; cases hb') hw (hg.h3 b o hb')
section
variable {P : Program} {l0 : List Oper} {Q : Exit → Act → World → Prop} {l : List Oper} {N : Nat} {L : TL} {w0 : World} {n₀ hb bm : Nat} {o : Obj} {τ : Hp}
theorem ow_frzIt {arr : Array Value} {e b : Nat} (hg : GoodH n₀ hb bm τ) (hbm : bm < n₀) (hn : n₀ ≤ w0.heap.size)
    (k : ∀ τ', Le τ τ' → GoodH n₀ hb bm τ' → τ' b = some (.cells arr e) → OW P l0 Q l N L (St w0 (fun _ => False) (ext τ' hb o) [] [])) : OW P l0 Q l N L (St w0 (fun _ => False) (ext τ hb o) ((b, .cells arr e) :: []) []) := fun a w hf hs => by
  have hfr := hs.fresh (p := (b, .cells arr e)) (by simp)
  have hne : b ≠ hb := fun e9 => by subst e9; rw [ext_self] at hfr; cases hfr
  have hge : w0.heap.size ≤ b := (St0.mo hs (b, .cells arr e) (by simp)).resolve_left id
  have hτ : τ b = none := by unfold ext at hfr; rwa [if_neg hne] at hfr
  have hc : ext (ext τ hb o) b (.cells arr e) = ext (ext τ b (.cells arr e)) hb o := by
    funext k
    unfold ext
    by_cases h1 : k = b
    · subst h1; simp [hne]
    · simp [h1]
  refine k (ext τ b (.cells arr e)) (le_ext hτ) ⟨?_, ?_, fun x u hx => ?_⟩ (ext_self _ _ _) a w hf (by rw [← hc]; exact hs.freeze)
  · unfold ext; rw [if_neg (Ne.symm hne)]; exact hg.h1
  · unfold ext; rw [if_neg (by omega)]; exact hg.h2
  · unfold ext at hx
    split at hx
    · cases hx; exact .inr rfl
    · exact hg.h3 x u hx
end
def bnd : Nat → Nat
  | 0 => 0
  | i + 1 => bnd i + 8193
theorem bnd_succ (i : Nat) : bnd (i + 1) = bnd i + 8193 := rfl
theorem bnd_le {a b : Nat} (h : a ≤ b) : bnd a ≤ bnd b := by
  induction b with
  | zero => obtain rfl : a = 0 := by omega
            exact Nat.le_refl _
  | succ b ih =>
    by_cases e : a = b + 1
    · subst e; exact Nat.le_refl _
    · have := ih (by omega)
      rw [bnd_succ]; omega
structure ClosedAt (its : List Item) (had : List Bool) (x : Item) (n : Nat) : Prop where
  md : madeB its had x = true → had.getD n false = true
  op : x.op = 4 → had.getD n false = true → allB had x.kids = true → ∀ m ∈ x.ments, hadAt had m = true
structure ItI (its : List Item) (known : List Int) (had0 : List Bool) (i : Nat) (pre : List (Hx its known)) (had : List Bool) : Prop where
  le : HadLe had0 had
  so : Sound its known had
  ni : pre = [] → had = had0
  fs : ∀ x r, pre = x :: r → had0.getD x.1 false = false
  cl : pre = [] → ∀ n (h : n < its.length), n < i → ClosedAt its had0 its[n] n
  ln : pre.length ≤ bnd i
structure ItM (its : List Item) (known : List Int) (had0 : List Bool) (i : Nat) (pre : List (Hx its known)) (had : List Bool) : Prop where
  le : HadLe had0 had
  so : Sound its known had
  ni : pre = [] → had = had0
  fs : ∀ x r, pre = x :: r → had0.getD x.1 false = false
  cl : pre = [] → ∀ n (h : n < its.length), n < i → ClosedAt its had0 its[n] n
  md : pre = [] → ∀ (h : i < its.length), madeB its had0 its[i] = true → had0.getD i false = true
  ln : pre.length ≤ bnd i + 1
structure ItN (its : List Item) (known : List Int) (had0 : List Bool) (i j : Nat) (pre : List (Hx its known)) (had : List Bool) : Prop where
  le : HadLe had0 had
  so : Sound its known had
  ni : pre = [] → had = had0
  fs : ∀ x r, pre = x :: r → had0.getD x.1 false = false
  cl : pre = [] → ∀ n (h : n < its.length), n < i → ClosedAt its had0 its[n] n
  md : pre = [] → ∀ (h : i < its.length), madeB its had0 its[i] = true → had0.getD i false = true
  mn : pre = [] → ∀ (h : i < its.length), ∀ k (hk : k < its[i].ments.length), k < j → hadAt had0 its[i].ments[k] = true
  o4 : ∀ (h : i < its.length), its[i].op = 4 ∧ had.getD i false = true ∧ allB had its[i].kids = true
  ln : pre.length ≤ bnd i + 1 + j
variable {its : List Item} {known : List Int} {had0 had had' : List Bool} {i j : Nat} {pre : List (Hx its known)}
theorem ItI.start (h : Sound its known had0) : ItI its known had0 0 [] had0 := ⟨HadLe.refl _, h, fun _ => rfl, fun x r e => (by cases e), fun _ n _ hn => absurd hn (Nat.not_lt_zero _), Nat.zero_le _⟩
theorem pre_fs {x : Hx its known} (h : ∀ x r, pre = x :: r → had0.getD x.1 false = false) (hni : pre = [] → had = had0) (hx : had.getD x.1 false = false) : ∀ y r, pre ++ [x] = y :: r → had0.getD y.1 false = false := fun y r e => by
  cases pre with
  | nil =>
    simp only [List.nil_append, List.cons.injEq] at e
    rw [← e.1, ← hni rfl]; exact hx
  | cons z r' =>
    simp only [List.cons_append, List.cons.injEq] at e
    exact h y r' (by rw [e.1])
theorem ItI.idle (h : ItI its known had0 i pre had) (hm : ∀ (hi : i < its.length), madeB its had its[i] = true → had.getD i false = true) : ItM its known had0 i pre had :=
  ⟨h.le, h.so, h.ni, h.fs, h.cl, fun e hi => by rw [← h.ni e]; exact hm hi, by have := h.ln; omega⟩
theorem ItI.yields {x : Hx its known} (h : ItI its known had0 i pre had) (hx : had.getD x.1 false = false) (hl : HadLe had had') (hs : Sound its known had') : ItM its known had0 i (pre ++ [x]) had' :=
  ⟨h.le.trans hl, hs, fun e => absurd e (by simp), pre_fs h.fs h.ni hx, fun e => absurd e (by simp), fun e => absurd e (by simp), by have := h.ln; simp; omega⟩
theorem ItM.next (h : ItM its known had0 i pre had) (hn : ∀ (hi : i < its.length), its[i].op = 4 → had.getD i false = true → allB had its[i].kids = true → False) : ItI its known had0 (i + 1) pre had :=
  ⟨h.le, h.so, h.ni, h.fs, fun e n hn' hlt => by
    by_cases he : n = i
    · subst he
      exact ⟨h.md e hn', fun h1 h2 h3 => (hn hn' h1 (by rw [h.ni e]; exact h2) (by rw [h.ni e]; exact h3)).elim⟩
    · exact h.cl e n hn' (by omega), by have := h.ln; rw [bnd_succ]; omega⟩
theorem ItM.opens (h : ItM its known had0 i pre had) (ho : ∀ (hi : i < its.length), its[i].op = 4 ∧ had.getD i false = true ∧ allB had its[i].kids = true) : ItN its known had0 i 0 pre had :=
  ⟨h.le, h.so, h.ni, h.fs, h.cl, h.md, fun _ _ k _ hk => absurd hk (Nat.not_lt_zero _), ho, by have := h.ln; omega⟩
theorem ItN.idle (h : ItN its known had0 i j pre had) (hi : i < its.length) (hj : j < its[i].ments.length) (hm : hadAt had its[i].ments[j] = true) : ItN its known had0 i (j + 1) pre had :=
  ⟨h.le, h.so, h.ni, h.fs, h.cl, h.md, fun e hi' k hk hlt => by
    by_cases he : k = j
    · subst he; rw [← h.ni e]; exact hm
    · exact h.mn e hi' k hk (by omega), h.o4, by have := h.ln; omega⟩
theorem ItN.yields {x : Hx its known} (h : ItN its known had0 i j pre had) (hx : had.getD x.1 false = false) (hl : HadLe had had') (hs : Sound its known had') : ItN its known had0 i (j + 1) (pre ++ [x]) had' :=
  ⟨h.le.trans hl, hs, fun e => absurd e (by simp), pre_fs h.fs h.ni hx, fun e => absurd e (by simp), fun e => absurd e (by simp), fun e => absurd e (by simp), fun hi => ⟨(h.o4 hi).1, hl _ (h.o4 hi).2.1, allB_mono hl (h.o4 hi).2.2⟩, by have := h.ln; simp; omega⟩
theorem ItN.next (h : ItN its known had0 i j pre had) (hi : i < its.length) (hj : its[i].ments.length ≤ j) (hjl : j ≤ 8192) : ItI its known had0 (i + 1) pre had :=
  ⟨h.le, h.so, h.ni, h.fs, fun e n hn' hlt => by
    by_cases he : n = i
    · subst he
      refine ⟨h.md e hn', fun h1 h2 h3 m hm => ?_⟩
      obtain ⟨k, hk, rfl⟩ := List.mem_iff_getElem.1 hm
      exact h.mn e hn' k hk (by omega)
    · exact h.cl e n hn' (by omega), by have := h.ln; rw [bnd_succ]; omega⟩
def SAll (its : List Item) (known : List Int) (had0 : List Bool) (xs : List (Hx its known)) : Prop := (xs = [] → Closed its had0) ∧ ∀ x r, xs = x :: r → had0.getD x.1 false = false
theorem ItI.over (h : ItI its known had0 i pre had) (hi : its.length ≤ i) : SAll its known had0 pre := ⟨fun e n hn => ⟨(h.cl e n hn (by omega)).md, (h.cl e n hn (by omega)).op⟩, h.fs⟩
end Go.Proofs.YtnjomdjkbbhdoaaGreatDoor
namespace Go.Proofs.YtnjomdjkbbhdoaaGreatDoor
open Go.RowKit
set_option linter.unusedVariables false
set_option linter.unusedSimpArgs false
set_option maxRecDepth 100000
set_option maxHeartbeats 4000000 in
theorem pFoundIt {l n₀ hb bm be b1 : Nat} {its : List Item} {known : List Int} {had0 : List Bool} {J Jx : List (Hx its known) → World → Prop} {σ : Hp} {iv : Value} {ch : Nat} {w : World} (hok : ItsOK its) (hso0 : Sound its known had0) (hG : GoodH n₀ hb bm σ) (hbm : bm < n₀) (hn : n₀ ≤ w.heap.size)
    (hcE : CellsAt σ be 0 [iv, .slice (some ⟨hb, 0, none⟩) its.length ch]) (hIt : ItemsV σ iv its) (hb1 : CellsAt σ b1 0 [.pointer (some ⟨be, 0, none⟩)]) (hi : Imm (ext σ hb (hadO 4 had0)) w) (hJ : AbidesFrom w.heap.size J)
    (hY : ∀ pre (x : Hx its known) W1, J pre W1 → pre.length < bnd (its.length + 1) → YieldAt Fence.wide 8 Tryz.prog l #[.int .i64 ((x.1 : Nat) : Int)] W1 fun e W' => (e = .returned (.bool true) ∧ J (pre ++ [x]) W' ∧ KpE n₀ hb bm 4 its known W1 W') ∨ (e = .returned (.bool false) ∧ Jx (pre ++ [x]) W')) (h0 : J [] w) :
    Calls Tryz.prog 86 #[.func (.yield l) #[] #[], .pointer (some ⟨b1, 0, none⟩)] w fun e w' => (∃ v, e = .returned v) ∧ ((∃ xs, SAll its known had0 xs ∧ J xs w') ∨ (∃ pre, True ∧ Jx pre w')) := by
  have hIt0 := hIt
  obtain ⟨p, ci, rfl, hci, hsi⟩ := hIt
  have hsi0 := hsi
  have hl9 := hok.len
  have hleA := hG.le (hadO 4 had0)
  refine enter (St w (fun _ => False) (ext σ hb (hadO 4 had0)) [] []) Tryz.func86 rfl Tryz.ntmps86 rfl (St.start hi) ?_
  refine cw_seq ?_
  refine cw_region ?_
  refine ow_val rfl rfl (ex_load1 rfl (ld_imm1 (hb1.le hleA))) ?_
  refine ow_val rfl rfl (ex_nilck rfl) ?_
  refine ow_val rfl rfl (ex_field rfl) ?_
  refine ow_val rfl rfl (ex_load1 rfl (ld_imm1 ((hcE.le hleA).fld (i := 0) rfl))) ?_
  refine ow_val rfl rfl (ex_len (ty := 0) rfl) ?_
  refine ow_val rfl rfl (ex_move rfl) ?_
  refine ow_nil ?_
  refine qw_seq ?_
  refine cw_block ?_
  refine cw_loop (fun x : Nat × List (Hx its known) × List Bool => [(0, .func (.yield l) #[] #[]), (1, .pointer (some ⟨b1, 0, none⟩)), (10, .slice p its.length ci), (11, .int .i64 (its.length : Int)), (12, .int .i64 (x.1 : Int))]) (fun x w' => ItI its known had0 x.1 x.2.1 x.2.2 ∧ x.1 ≤ its.length ∧ ∃ w0, J x.2.1 w0 ∧ n₀ ≤ w0.heap.size ∧ St w0 (fun _ => False) (ext σ hb (hadO 4 x.2.2)) [] [] w') (fun x => its.length - x.1) (0, [], had0) (subL_cons (lkv rfl (by first | rfl | simp)) (subL_cons (lkv rfl (by first | rfl | simp)) (subL_cons (lkv rfl (by first | rfl | simp)) (subL_cons (lkv rfl (by first | rfl | simp)) (subL_cons (lkv rfl (by first | rfl | simp)) (subL_nil _)))))) (fun w' h => ⟨ItI.start hso0, Nat.zero_le _, w, h0, hn, h⟩) ?_
  rintro ⟨i, pre, had⟩
  refine cw_and (fun hI => ?_)
  refine cw_and (fun hlei => ?_)
  refine cw_ex (fun w0 => ?_)
  refine cw_and (fun hJ0 => ?_)
  refine cw_and (fun hn0 => ?_)
  simp only at hI hlei hJ0
  have hsl0 := hI.so
  have hle0 := hG.le (hadO 4 had)
  have hle0t := hle0
  have hhb0 := CellsAt.had (σ := σ) (hb := hb) (e := 4) (had := had)
  have hE0 : EngC (ext σ hb (hadO 4 had)) be hb its had := ⟨_, ch, by rw [show had.length = its.length from hsl0.1]; exact hcE.le hle0t, ItemsV.le hle0t ⟨_, ci, rfl, hci, hsi0⟩, hhb0⟩
  refine cw_seq ?_
  refine cw_region ?_
  refine ow_val rfl rfl (ex_lss rfl rfl) ?_
  refine ow_nil ?_
  refine qw_seq ?_
  refine cw_seq ?_
  refine cw_cond rfl (fun c13 => ?_) (fun c13 => ?_)
  ·
    have hlt : i < its.length := by have := of_decide_eq_true c13; omega
    have hmem := List.getElem_mem hlt
    have hml9 := hok.ml _ hmem
    obtain ⟨bi, oi, rfl, hits⟩ := hsi.resolve_left (fun hn => by subst hn; simp at hlt)
    obtain ⟨cy, hcy, hIy⟩ := hits i hlt
    obtain ⟨ky, my, rfl, hyk, hym⟩ := hIy
    have hym0 := hym
    obtain ⟨pm, cm, rfl, hcm, hsm⟩ := hym
    have hIy : ItemC σ [.int .i64 its[i].op, ky, .slice pm its[i].ments.length cm] its[i] := ⟨_, _, rfl, hyk, hym0⟩
    refine cw_skip ?_
    refine qw_seq ?_
    refine cw_seq ?_
    refine cw_block ?_
    refine cw_seq ?_
    refine cw_region ?_
    refine ow_val rfl rfl (ex_move rfl) ?_
    refine ow_val rfl rfl (ex_index_nat (i := i) rfl rfl hlt) ?_
    refine ow_val rfl rfl (ex_loadR rfl (ld_immN (hcy.le hle0t) rfl)) ?_
    refine ow_blk rfl rfl exw_alloc ?_; intro b4
    refine ow_val rfl rfl (ex_assign rfl) ?_
    refine ow_u rfl (exu_storeN 0 rfl rfl rfl rfl hIy.one rfl) ?_
    refine ow_frzIt hG hbm hn0 (fun τ hl1 hG1 hb4 => ?_)
    have hc4 : CellsAt τ b4 0 [.int .i64 its[i].op, ky, .slice pm its[i].ments.length cm] := CellsAt.took (k := 3) hb4 rfl
    have hleB := hG1.le (hadO 4 had)
    have hleBt := hl1.trans hleB
    have hhbB := CellsAt.had (σ := τ) (hb := hb) (e := 4) (had := had)
    have hEB : EngC (ext τ hb (hadO 4 had)) be hb its had := ⟨_, ch, by rw [show had.length = its.length from hsl0.1]; exact hcE.le hleBt, ItemsV.le hleBt ⟨_, ci, rfl, hci, hsi0⟩, hhbB⟩
    refine ow_nil ?_
    refine qw_seq ?_
    refine cw_seq ?_
    refine cw_seq ?_
    refine cw_regionI 9 ?_
    refine oi_val wide_fn (fun c h => (by cases h)) rfl rfl (ex_load1 rfl (ld_imm1 (hb1.le hleBt))) ?_
    refine oi_val wide_fn (fun c h => (by cases h)) rfl rfl (ex_nilck rfl) ?_
    refine oi_val wide_fn (fun c h => (by cases h)) rfl rfl (ex_field rfl) ?_
    refine oi_val wide_fn (fun c h => (by cases h)) rfl rfl (ex_load1 rfl (ld_imm1 ((hcE.le hleBt).fld (i := 1) rfl))) ?_
    refine oi_val wide_fn (fun c h => (by cases h)) rfl rfl (ex_move rfl) ?_
    refine oi_val wide_fn (fun c h => (by cases h)) rfl rfl (ex_index_nat (i := i) rfl rfl hlt) ?_
    refine oi_val wide_fn (fun c h => (by cases h)) rfl rfl (ex_load1 rfl (ld_imm1 (hhbB.bool (i := i) (by have := hsl0.1; omega)))) ?_
    refine oi_val wide_fn (fun c h => (by cases h)) rfl rfl (ex_not rfl) ?_
    refine oi_val wide_fn (fun c h => (by cases h)) rfl rfl (ex_move rfl) ?_
    refine oi_split (g := some (8, true)) rfl (fun s25 => ?_) (fun s25 => ?_)
    ·
      refine oi_val wide_fn (fun c h => (by cases h)) rfl (gd_go rfl s25) (ex_load1 rfl (ld_imm1 (hb1.le hleBt))) ?_
      refine oi_val wide_fn (fun c h => (by cases h)) rfl (gd_go rfl s25) (ex_loadR rfl (ld_immN (hc4.le hleB) rfl)) ?_
      refine oi_cv (fun c h => (by cases h)) rfl (gd_go rfl s25) (ex_callf rfl (fun w h => callB ((pMadeE h.im hEB hok hsl0.1 (hIy.le hleBt) (hok.kl _ hmem) (hok.kv _ hmem) (hok.ml _ hmem) (hok.mv _ hmem))))) ?_
      refine oi_val wide_fn (fun c h => (by cases h)) rfl rfl (ex_pickt rfl s25 rfl) ?_
      refine oi_val wide_fn (fun c h => (by cases h)) rfl rfl (ex_move rfl) ?_
      refine oi_split (g := some (13, true)) rfl (fun s30 => ?_) (fun s30 => ?_)
      ·
        refine oi_val wide_fn (fun c h => (by cases h)) rfl (gd_go rfl s30) (ex_move rfl) ?_
        refine oi_val wide_fn (fun c h => (by cases h)) rfl (gd_go rfl s30) (ex_move rfl) ?_
        refine oi_yield rfl (gd_go rfl s30) rfl rfl (fun w h => hY pre ⟨i, hlt, hI.so.made hlt s30⟩ w (hJ pre w0 w none hJ0 (grown_of_below h.ag.below) (fun r e => by cases e)) (by have := hI.ln; have := bnd_le hlei; rw [bnd_succ]; omega)) (fun w e w' h => by rcases h with ⟨h, _⟩ | ⟨h, _⟩ <;> exact ⟨_, h⟩) (fun yv => ?_)
        refine oi_val wide_fn (fun c h => (by cases h)) rfl (gd_go rfl s30) (ex_not rfl) ?_
        refine oi_val wide_fn (fun c h => (by cases h)) rfl rfl (ex_pickt rfl s30 rfl) ?_
        refine oi_nil ?_
        refine qw_seq ?_
        refine cw_cond rfl (fun c35 => ?_) (fun c35 => ?_)
        ·
          have hyv : yv = false := by simpa using c35
          subst hyv
          refine cw_ret ?_
          refine qw_then_ret ?_
          refine qw_block_ret ?_
          refine qw_then_ret ?_
          refine qw_then_ret ?_
          refine qw_block_ret ?_
          refine qw_ret0 rfl (fun w' h => ?_)
          first
          | exact ⟨⟨_, rfl⟩, .inl ⟨pre, hI.over (by have := of_decide_eq_false c13; omega), hJ pre w0 w' none hJ0 (grown_of_below h.ag.below) (fun r e => by cases e)⟩⟩
          | (obtain ⟨w9, _, h9⟩ := h
             rcases h9 with ⟨e9, _⟩ | ⟨_, h9⟩
             · cases e9
             · exact ⟨⟨_, rfl⟩, .inr ⟨_, trivial, h9⟩⟩)
        ·
          have hyv : yv = true := by simpa using c35
          subst hyv
          refine cw_skip ?_
          refine qw_seq ?_
          refine cw_seq ?_
          refine cw_seq ?_
          refine cw_mono (S' := fun w' => ∃ pre1 had1 w1, ItM its known had0 i pre1 had1 ∧ J pre1 w1 ∧ n₀ ≤ w1.heap.size ∧ St w1 (fun _ => False) (ext τ hb (hadO 4 had1)) [] [] w') (fun w' h9 => ?_) ?_
          · first
            | exact ⟨pre, had, w0, hI.idle (fun _ hm9 => by first | (simpa using s25) | (rw [show (madeB its had its[i]) = false from s30] at hm9; cases hm9)), hJ0, hn0, h9⟩
            | (obtain ⟨w9, hs9, h9⟩ := h9
               rcases h9 with ⟨_, hJ9, hk9⟩ | ⟨e9, _⟩
               · obtain ⟨had9, a1, a2, a3⟩ := hk9.st hG1 hs9 hI.so
                 exact ⟨_, had9, w', hI.yields (by simpa using s25) a1 a2, hJ9, Nat.le_trans (Nat.le_trans hn0 hs9.ag.size) hk9.sz, a3⟩
               · cases e9)
          refine cw_ex (fun pre1 => ?_)
          refine cw_ex (fun had1 => ?_)
          refine cw_ex (fun w1 => ?_)
          refine cw_and (fun hM1 => ?_)
          refine cw_and (fun hJ1 => ?_)
          refine cw_and (fun hn1 => ?_)
          have hsl1 := hM1.so
          have hle1 := hG1.le (hadO 4 had1)
          have hle1t := hl1.trans hle1
          have hhb1 := CellsAt.had (σ := τ) (hb := hb) (e := 4) (had := had1)
          have hE1 : EngC (ext τ hb (hadO 4 had1)) be hb its had1 := ⟨_, ch, by rw [show had1.length = its.length from hsl1.1]; exact hcE.le hle1t, ItemsV.le hle1t ⟨_, ci, rfl, hci, hsi0⟩, hhb1⟩
          refine cw_region ?_
          refine ow_val rfl rfl (ex_field rfl) ?_
          refine ow_val rfl rfl (ex_load1 rfl (ld_imm1 ((hc4.le hle1).fld (i := 0) rfl))) ?_
          refine ow_val rfl rfl (ex_neq rfl rfl) ?_
          refine ow_val rfl rfl (ex_move rfl) ?_
          refine ow_split (g := some (3, false)) rfl (fun s39 => ?_) (fun s39 => ?_)
          ·
            refine ow_skip rfl (gd_no rfl s39) ?_
            refine ow_skip rfl (gd_no rfl s39) ?_
            refine ow_skip rfl (gd_no rfl s39) ?_
            refine ow_skip rfl (gd_no rfl s39) ?_
            refine ow_skip rfl (gd_no rfl s39) ?_
            refine ow_skip rfl (gd_no rfl s39) ?_
            refine ow_skip rfl (gd_no rfl s39) ?_
            refine ow_skip rfl (gd_no rfl s39) ?_
            refine ow_val rfl rfl (ex_pickt rfl s39 rfl) ?_
            refine ow_val rfl rfl (ex_move rfl) ?_
            refine ow_skip rfl rfl ?_
            refine ow_skip rfl rfl ?_
            refine ow_skip rfl rfl ?_
            refine ow_skip rfl rfl ?_
            refine ow_skip rfl rfl ?_
            refine ow_val rfl rfl (ex_pick_t rfl rfl) ?_
            refine ow_nil ?_
            refine qw_seq ?_
            refine cw_cond_t rfl ?_
            refine cw_exit ?_
            refine qw_then_exit ?_
            refine qw_block_exit ?_
            refine qw_seq ?_
            refine cw_region ?_
            refine ow_val rfl rfl (ex_addi (z := ((i + 1 : Nat) : Int)) rfl rfl (by omega) (by omega) (by omega)) ?_
            refine ow_val rfl rfl (ex_move rfl) ?_
            refine ow_nil ?_
            exact qw_round (i + 1, pre1, had1) (by show its.length - (i + 1) < its.length - i; omega) (subL_cons (lkv rfl (by first | rfl | simp)) (subL_cons (lkv rfl (by first | rfl | simp)) (subL_cons (lkv rfl (by first | rfl | simp)) (subL_cons (lkv rfl (by first | rfl | simp)) (subL_cons (lkv rfl (by first | rfl | simp)) (subL_nil _)))))) (fun w' h => ⟨hM1.next (fun _ q1 q2 q3 => by first | exact (of_decide_eq_true s39) q1 | (rw [q2] at s49; exact absurd s49 (by decide)) | (rw [q3] at c55; exact absurd c55 (by decide))), by show i + 1 ≤ its.length; omega, w1, hJ1, hn1, h.down (ext_le hl1 _ _)⟩)
          ·
            refine ow_val rfl (gd_go rfl s39) (ex_load1 rfl (ld_imm1 (hb1.le hle1t))) ?_
            refine ow_val rfl (gd_go rfl s39) (ex_nilck rfl) ?_
            refine ow_val rfl (gd_go rfl s39) (ex_field rfl) ?_
            refine ow_val rfl (gd_go rfl s39) (ex_load1 rfl (ld_imm1 ((hcE.le hle1t).fld (i := 1) rfl))) ?_
            refine ow_val rfl (gd_go rfl s39) (ex_move rfl) ?_
            refine ow_val rfl (gd_go rfl s39) (ex_index_nat (i := i) rfl rfl hlt) ?_
            refine ow_val rfl (gd_go rfl s39) (ex_load1 rfl (ld_imm1 (hhb1.bool (i := i) (by have := hsl1.1; omega)))) ?_
            refine ow_val rfl (gd_go rfl s39) (ex_not rfl) ?_
            refine ow_val rfl rfl (ex_pickf rfl s39 rfl) ?_
            refine ow_val rfl rfl (ex_move rfl) ?_
            refine ow_split (g := some (13, false)) rfl (fun s49 => ?_) (fun s49 => ?_)
            ·
              refine ow_skip rfl (gd_no rfl s49) ?_
              refine ow_skip rfl (gd_no rfl s49) ?_
              refine ow_skip rfl (gd_no rfl s49) ?_
              refine ow_skip rfl (gd_no rfl s49) ?_
              refine ow_skip rfl (gd_no rfl s49) ?_
              refine ow_val rfl rfl (ex_pickt rfl s49 rfl) ?_
              refine ow_nil ?_
              refine qw_seq ?_
              refine cw_cond_t rfl ?_
              refine cw_exit ?_
              refine qw_then_exit ?_
              refine qw_block_exit ?_
              refine qw_seq ?_
              refine cw_region ?_
              refine ow_val rfl rfl (ex_addi (z := ((i + 1 : Nat) : Int)) rfl rfl (by omega) (by omega) (by omega)) ?_
              refine ow_val rfl rfl (ex_move rfl) ?_
              refine ow_nil ?_
              exact qw_round (i + 1, pre1, had1) (by show its.length - (i + 1) < its.length - i; omega) (subL_cons (lkv rfl (by first | rfl | simp)) (subL_cons (lkv rfl (by first | rfl | simp)) (subL_cons (lkv rfl (by first | rfl | simp)) (subL_cons (lkv rfl (by first | rfl | simp)) (subL_cons (lkv rfl (by first | rfl | simp)) (subL_nil _)))))) (fun w' h => ⟨hM1.next (fun _ q1 q2 q3 => by first | exact (of_decide_eq_true s39) q1 | (rw [q2] at s49; exact absurd s49 (by decide)) | (rw [q3] at c55; exact absurd c55 (by decide))), by show i + 1 ≤ its.length; omega, w1, hJ1, hn1, h.down (ext_le hl1 _ _)⟩)
            ·
              refine ow_val rfl (gd_go rfl s49) (ex_load1 rfl (ld_imm1 (hb1.le hle1t))) ?_
              refine ow_val rfl (gd_go rfl s49) (ex_field rfl) ?_
              refine ow_val rfl (gd_go rfl s49) (ex_load1 rfl (ld_imm1 ((hc4.le hle1).fld (i := 1) rfl))) ?_
              refine ow_cv rfl (gd_go rfl s49) (ex_callf rfl (fun w h => callB ((pAllE h.im hE1 (hyk.le hle1t) (by have := hok.kl _ hmem; omega) (fun z hz => by rw [hsl1.1]; exact hok.kv _ hmem z hz))))) ?_
              refine ow_val rfl (gd_go rfl s49) (ex_not rfl) ?_
              refine ow_val rfl rfl (ex_pickf rfl s49 rfl) ?_
              refine ow_nil ?_
              refine qw_seq ?_
              refine cw_cond rfl (fun c55 => ?_) (fun c55 => ?_)
              ·
                refine cw_exit ?_
                refine qw_then_exit ?_
                refine qw_block_exit ?_
                refine qw_seq ?_
                refine cw_region ?_
                refine ow_val rfl rfl (ex_addi (z := ((i + 1 : Nat) : Int)) rfl rfl (by omega) (by omega) (by omega)) ?_
                refine ow_val rfl rfl (ex_move rfl) ?_
                refine ow_nil ?_
                exact qw_round (i + 1, pre1, had1) (by show its.length - (i + 1) < its.length - i; omega) (subL_cons (lkv rfl (by first | rfl | simp)) (subL_cons (lkv rfl (by first | rfl | simp)) (subL_cons (lkv rfl (by first | rfl | simp)) (subL_cons (lkv rfl (by first | rfl | simp)) (subL_cons (lkv rfl (by first | rfl | simp)) (subL_nil _)))))) (fun w' h => ⟨hM1.next (fun _ q1 q2 q3 => by first | exact (of_decide_eq_true s39) q1 | (rw [q2] at s49; exact absurd s49 (by decide)) | (rw [q3] at c55; exact absurd c55 (by decide))), by show i + 1 ≤ its.length; omega, w1, hJ1, hn1, h.down (ext_le hl1 _ _)⟩)
              ·
                have hN0 := hM1.opens (fun _ => ⟨by simpa using s39, by simpa using s49, by simpa using c55⟩)
                refine cw_skip ?_
                refine qw_seq ?_
                refine cw_seq ?_
                refine cw_region ?_
                refine ow_val rfl rfl (ex_field rfl) ?_
                refine ow_val rfl rfl (ex_load1 rfl (ld_imm1 ((hc4.le hle1).fld (i := 2) rfl))) ?_
                refine ow_val rfl rfl (ex_len (ty := 0) rfl) ?_
                refine ow_val rfl rfl (ex_move rfl) ?_
                refine ow_nil ?_
                refine qw_seq ?_
                refine cw_block ?_
                refine cw_loop (fun x : Nat × List (Hx its known) × List Bool => [(0, .func (.yield l) #[] #[]), (1, .pointer (some ⟨b1, 0, none⟩)), (10, .slice (some ⟨bi, oi, none⟩) its.length ci), (11, .int .i64 (its.length : Int)), (12, .int .i64 (i : Int)), (57, .slice pm its[i].ments.length cm), (58, .int .i64 (its[i].ments.length : Int)), (59, .int .i64 (x.1 : Int))]) (fun x w' => ItN its known had0 i x.1 x.2.1 x.2.2 ∧ x.1 ≤ its[i].ments.length ∧ ∃ w0, J x.2.1 w0 ∧ n₀ ≤ w0.heap.size ∧ St w0 (fun _ => False) (ext τ hb (hadO 4 x.2.2)) [] [] w') (fun x => its[i].ments.length - x.1) (0, pre1, had1) (subL_cons (lkv rfl (by first | rfl | simp)) (subL_cons (lkv rfl (by first | rfl | simp)) (subL_cons (lkv rfl (by first | rfl | simp)) (subL_cons (lkv rfl (by first | rfl | simp)) (subL_cons (lkv rfl (by first | rfl | simp)) (subL_cons (lkv rfl (by first | rfl | simp)) (subL_cons (lkv rfl (by first | rfl | simp)) (subL_cons (lkv rfl (by first | rfl | simp)) (subL_nil _))))))))) (fun w' h => ⟨hN0, Nat.zero_le _, w1, hJ1, hn1, h⟩) ?_
                rintro ⟨j, pre2, had2⟩
                refine cw_and (fun hN2 => ?_)
                refine cw_and (fun hlej => ?_)
                refine cw_ex (fun w2 => ?_)
                refine cw_and (fun hJ2 => ?_)
                refine cw_and (fun hn2 => ?_)
                simp only at hN2 hlej hJ2
                have hsl2 := hN2.so
                have hle2 := hG1.le (hadO 4 had2)
                have hle2t := hl1.trans hle2
                have hhb2 := CellsAt.had (σ := τ) (hb := hb) (e := 4) (had := had2)
                have hE2 : EngC (ext τ hb (hadO 4 had2)) be hb its had2 := ⟨_, ch, by rw [show had2.length = its.length from hsl2.1]; exact hcE.le hle2t, ItemsV.le hle2t ⟨_, ci, rfl, hci, hsi0⟩, hhb2⟩
                refine cw_seq ?_
                refine cw_region ?_
                refine ow_val rfl rfl (ex_lss rfl rfl) ?_
                refine ow_nil ?_
                refine qw_seq ?_
                refine cw_seq ?_
                refine cw_cond rfl (fun c60 => ?_) (fun c60 => ?_)
                ·
                  have hltj : j < its[i].ments.length := by have := of_decide_eq_true c60; omega
                  obtain ⟨bm2, om2, rfl, hca⟩ := hsm.resolve_left (fun hn => by rw [hn] at hltj; simp at hltj)
                  have hmv := hok.mv _ hmem _ (List.getElem_mem hltj)
                  obtain ⟨km, hkm⟩ : ∃ km : Nat, its[i].ments[j] = (km : Int) := ⟨its[i].ments[j].toNat, by omega⟩
                  have hcm9 := hca.int hltj
                  rw [hkm] at hcm9
                  refine cw_skip ?_
                  refine qw_seq ?_
                  refine cw_seq ?_
                  refine cw_block ?_
                  refine cw_seq ?_
                  refine cw_region ?_
                  refine ow_val rfl rfl (ex_index_nat (i := j) rfl rfl hltj) ?_
                  refine ow_val rfl rfl (ex_load1 rfl (ld_imm1 (hcm9.le hle2t))) ?_
                  refine ow_val rfl rfl (ex_assign rfl) ?_
                  refine ow_nil ?_
                  refine qw_seq ?_
                  refine cw_seq ?_
                  refine cw_regionI 9 ?_
                  refine oi_val wide_fn (fun c h => (by cases h)) rfl rfl (ex_load1 rfl (ld_imm1 (hb1.le hle2t))) ?_
                  refine oi_val wide_fn (fun c h => (by cases h)) rfl rfl (ex_nilck rfl) ?_
                  refine oi_val wide_fn (fun c h => (by cases h)) rfl rfl (ex_field rfl) ?_
                  refine oi_val wide_fn (fun c h => (by cases h)) rfl rfl (ex_load1 rfl (ld_imm1 ((hcE.le hle2t).fld (i := 1) rfl))) ?_
                  refine oi_val wide_fn (fun c h => (by cases h)) rfl rfl (ex_move rfl) ?_
                  refine oi_val wide_fn (fun c h => (by cases h)) rfl rfl (ex_index_nat (i := km) rfl rfl (by omega)) ?_
                  refine oi_val wide_fn (fun c h => (by cases h)) rfl rfl (ex_load1 rfl (ld_imm1 (hhb2.bool (i := km) (by have := hsl2.1; omega)))) ?_
                  refine oi_val wide_fn (fun c h => (by cases h)) rfl rfl (ex_not rfl) ?_
                  refine oi_val wide_fn (fun c h => (by cases h)) rfl rfl (ex_move rfl) ?_
                  refine oi_split (g := some (8, true)) rfl (fun s71 => ?_) (fun s71 => ?_)
                  ·
                    refine oi_val wide_fn (fun c h => (by cases h)) rfl (gd_go rfl s71) (ex_move rfl) ?_
                    refine oi_val wide_fn (fun c h => (by cases h)) rfl (gd_go rfl s71) (ex_move rfl) ?_
                    refine oi_yield rfl (gd_go rfl s71) rfl rfl (fun w h => hY pre2 ⟨km, by omega, by have h8 := hN2.so.opened hlt (hN2.o4 hlt).1 (hN2.o4 hlt).2.1 (hN2.o4 hlt).2.2 (List.getElem_mem hltj); rwa [hkm, Int.toNat_natCast] at h8⟩ w (hJ pre2 w2 w none hJ2 (grown_of_below h.ag.below) (fun r e => by cases e)) (by have := hN2.ln; have := bnd_le hlei; rw [bnd_succ]; omega)) (fun w e w' h => by rcases h with ⟨h, _⟩ | ⟨h, _⟩ <;> exact ⟨_, h⟩) (fun yv => ?_)
                    refine oi_val wide_fn (fun c h => (by cases h)) rfl (gd_go rfl s71) (ex_not rfl) ?_
                    refine oi_val wide_fn (fun c h => (by cases h)) rfl rfl (ex_pickt rfl s71 rfl) ?_
                    refine oi_nil ?_
                    refine qw_seq ?_
                    refine cw_cond rfl (fun c76 => ?_) (fun c76 => ?_)
                    ·
                      have hyv : yv = false := by simpa using c76
                      subst hyv
                      refine cw_ret ?_
                      refine qw_block_ret ?_
                      refine qw_then_ret ?_
                      refine qw_then_ret ?_
                      refine qw_block_ret ?_
                      refine qw_block_ret ?_
                      refine qw_then_ret ?_
                      refine qw_then_ret ?_
                      refine qw_block_ret ?_
                      refine qw_ret0 rfl (fun w' h => ?_)
                      first
                      | exact ⟨⟨_, rfl⟩, .inl ⟨pre, hI.over (by have := of_decide_eq_false c13; omega), hJ pre w0 w' none hJ0 (grown_of_below h.ag.below) (fun r e => by cases e)⟩⟩
                      | (obtain ⟨w9, _, h9⟩ := h
                         rcases h9 with ⟨e9, _⟩ | ⟨_, h9⟩
                         · cases e9
                         · exact ⟨⟨_, rfl⟩, .inr ⟨_, trivial, h9⟩⟩)
                    ·
                      have hyv : yv = true := by simpa using c76
                      subst hyv
                      refine cw_skip ?_
                      refine qw_block_normal ?_
                      refine qw_seq ?_
                      refine cw_mono (S' := fun w' => ∃ pre3 had3 w3, ItN its known had0 i (j + 1) pre3 had3 ∧ J pre3 w3 ∧ n₀ ≤ w3.heap.size ∧ St w3 (fun _ => False) (ext τ hb (hadO 4 had3)) [] [] w') (fun w' h9 => ?_) ?_
                      · first
                        | exact ⟨pre2, had2, w2, hN2.idle hlt hltj (by rw [hkm, hadAt_nat]; simpa using s71), hJ2, hn2, h9⟩
                        | (obtain ⟨w9, hs9, h9⟩ := h9
                           rcases h9 with ⟨_, hJ9, hk9⟩ | ⟨e9, _⟩
                           · obtain ⟨had9, a1, a2, a3⟩ := hk9.st hG1 hs9 hN2.so
                             exact ⟨_, had9, w', hN2.yields (by simpa using s71) a1 a2, hJ9, Nat.le_trans (Nat.le_trans hn2 hs9.ag.size) hk9.sz, a3⟩
                           · cases e9)
                      refine cw_ex (fun pre3 => ?_)
                      refine cw_ex (fun had3 => ?_)
                      refine cw_ex (fun w3 => ?_)
                      refine cw_and (fun hM3 => ?_)
                      refine cw_and (fun hJ3 => ?_)
                      refine cw_and (fun hn3 => ?_)
                      have hsl3 := hM3.so
                      refine cw_region ?_
                      refine ow_val rfl rfl (ex_addi (z := ((j + 1 : Nat) : Int)) rfl rfl (by omega) (by omega) (by omega)) ?_
                      refine ow_val rfl rfl (ex_move rfl) ?_
                      refine ow_nil ?_
                      exact qw_round (j + 1, pre3, had3) (by show its[i].ments.length - (j + 1) < its[i].ments.length - j; omega) (subL_cons (lkv rfl (by first | rfl | simp)) (subL_cons (lkv rfl (by first | rfl | simp)) (subL_cons (lkv rfl (by first | rfl | simp)) (subL_cons (lkv rfl (by first | rfl | simp)) (subL_cons (lkv rfl (by first | rfl | simp)) (subL_cons (lkv rfl (by first | rfl | simp)) (subL_cons (lkv rfl (by first | rfl | simp)) (subL_cons (lkv rfl (by first | rfl | simp)) (subL_nil _))))))))) (fun w' h => ⟨hM3, by show j + 1 ≤ its[i].ments.length; omega, w3, hJ3, hn3, h⟩)
                  ·
                    refine oi_skip wide_fn rfl (gd_no rfl s71) ?_
                    refine oi_skip wide_fn rfl (gd_no rfl s71) ?_
                    refine oi_skip wide_fn rfl (gd_no rfl s71) ?_
                    refine oi_skip wide_fn rfl (gd_no rfl s71) ?_
                    refine oi_val wide_fn (fun c h => (by cases h)) rfl rfl (ex_pickf rfl s71 rfl) ?_
                    refine oi_nil ?_
                    refine qw_seq ?_
                    refine cw_cond_f rfl ?_
                    refine cw_skip ?_
                    refine qw_block_normal ?_
                    refine qw_seq ?_
                    refine cw_mono (S' := fun w' => ∃ pre3 had3 w3, ItN its known had0 i (j + 1) pre3 had3 ∧ J pre3 w3 ∧ n₀ ≤ w3.heap.size ∧ St w3 (fun _ => False) (ext τ hb (hadO 4 had3)) [] [] w') (fun w' h9 => ?_) ?_
                    · first
                      | exact ⟨pre2, had2, w2, hN2.idle hlt hltj (by rw [hkm, hadAt_nat]; simpa using s71), hJ2, hn2, h9⟩
                      | (obtain ⟨w9, hs9, h9⟩ := h9
                         rcases h9 with ⟨_, hJ9, hk9⟩ | ⟨e9, _⟩
                         · obtain ⟨had9, a1, a2, a3⟩ := hk9.st hG1 hs9 hN2.so
                           exact ⟨_, had9, w', hN2.yields (by simpa using s71) a1 a2, hJ9, Nat.le_trans (Nat.le_trans hn2 hs9.ag.size) hk9.sz, a3⟩
                         · cases e9)
                    refine cw_ex (fun pre3 => ?_)
                    refine cw_ex (fun had3 => ?_)
                    refine cw_ex (fun w3 => ?_)
                    refine cw_and (fun hM3 => ?_)
                    refine cw_and (fun hJ3 => ?_)
                    refine cw_and (fun hn3 => ?_)
                    have hsl3 := hM3.so
                    refine cw_region ?_
                    refine ow_val rfl rfl (ex_addi (z := ((j + 1 : Nat) : Int)) rfl rfl (by omega) (by omega) (by omega)) ?_
                    refine ow_val rfl rfl (ex_move rfl) ?_
                    refine ow_nil ?_
                    exact qw_round (j + 1, pre3, had3) (by show its[i].ments.length - (j + 1) < its[i].ments.length - j; omega) (subL_cons (lkv rfl (by first | rfl | simp)) (subL_cons (lkv rfl (by first | rfl | simp)) (subL_cons (lkv rfl (by first | rfl | simp)) (subL_cons (lkv rfl (by first | rfl | simp)) (subL_cons (lkv rfl (by first | rfl | simp)) (subL_cons (lkv rfl (by first | rfl | simp)) (subL_cons (lkv rfl (by first | rfl | simp)) (subL_cons (lkv rfl (by first | rfl | simp)) (subL_nil _))))))))) (fun w' h => ⟨hM3, by show j + 1 ≤ its[i].ments.length; omega, w3, hJ3, hn3, h⟩)
                ·
                  have hej : its[i].ments.length ≤ j := by have := of_decide_eq_false c60; omega
                  refine cw_exit ?_
                  refine qw_then_exit ?_
                  refine qw_then_exit ?_
                  refine qw_block_exit ?_
                  refine qw_block_normal ?_
                  refine qw_seq ?_
                  refine cw_region ?_
                  refine ow_val rfl rfl (ex_addi (z := ((i + 1 : Nat) : Int)) rfl rfl (by omega) (by omega) (by omega)) ?_
                  refine ow_val rfl rfl (ex_move rfl) ?_
                  refine ow_nil ?_
                  exact qw_round (i + 1, pre2, had2) (by show its.length - (i + 1) < its.length - i; omega) (subL_cons (lkv rfl (by first | rfl | simp)) (subL_cons (lkv rfl (by first | rfl | simp)) (subL_cons (lkv rfl (by first | rfl | simp)) (subL_cons (lkv rfl (by first | rfl | simp)) (subL_cons (lkv rfl (by first | rfl | simp)) (subL_nil _)))))) (fun w' h => ⟨hN2.next hlt (by omega) (by omega), by show i + 1 ≤ its.length; omega, w2, hJ2, hn2, h.down (ext_le hl1 _ _)⟩)
      ·
        refine oi_skip wide_fn rfl (gd_no rfl s30) ?_
        refine oi_skip wide_fn rfl (gd_no rfl s30) ?_
        refine oi_skip wide_fn rfl (gd_no rfl s30) ?_
        refine oi_skip wide_fn rfl (gd_no rfl s30) ?_
        refine oi_val wide_fn (fun c h => (by cases h)) rfl rfl (ex_pickf rfl s30 rfl) ?_
        refine oi_nil ?_
        refine qw_seq ?_
        refine cw_cond_f rfl ?_
        refine cw_skip ?_
        refine qw_seq ?_
        refine cw_seq ?_
        refine cw_seq ?_
        refine cw_mono (S' := fun w' => ∃ pre1 had1 w1, ItM its known had0 i pre1 had1 ∧ J pre1 w1 ∧ n₀ ≤ w1.heap.size ∧ St w1 (fun _ => False) (ext τ hb (hadO 4 had1)) [] [] w') (fun w' h9 => ?_) ?_
        · first
          | exact ⟨pre, had, w0, hI.idle (fun _ hm9 => by first | (simpa using s25) | (rw [show (madeB its had its[i]) = false from s30] at hm9; cases hm9)), hJ0, hn0, h9⟩
          | (obtain ⟨w9, hs9, h9⟩ := h9
             rcases h9 with ⟨_, hJ9, hk9⟩ | ⟨e9, _⟩
             · obtain ⟨had9, a1, a2, a3⟩ := hk9.st hG1 hs9 hI.so
               exact ⟨_, had9, w', hI.yields (by simpa using s25) a1 a2, hJ9, Nat.le_trans (Nat.le_trans hn0 hs9.ag.size) hk9.sz, a3⟩
             · cases e9)
        refine cw_ex (fun pre1 => ?_)
        refine cw_ex (fun had1 => ?_)
        refine cw_ex (fun w1 => ?_)
        refine cw_and (fun hM1 => ?_)
        refine cw_and (fun hJ1 => ?_)
        refine cw_and (fun hn1 => ?_)
        have hsl1 := hM1.so
        have hle1 := hG1.le (hadO 4 had1)
        have hle1t := hl1.trans hle1
        have hhb1 := CellsAt.had (σ := τ) (hb := hb) (e := 4) (had := had1)
        have hE1 : EngC (ext τ hb (hadO 4 had1)) be hb its had1 := ⟨_, ch, by rw [show had1.length = its.length from hsl1.1]; exact hcE.le hle1t, ItemsV.le hle1t ⟨_, ci, rfl, hci, hsi0⟩, hhb1⟩
        refine cw_region ?_
        refine ow_val rfl rfl (ex_field rfl) ?_
        refine ow_val rfl rfl (ex_load1 rfl (ld_imm1 ((hc4.le hle1).fld (i := 0) rfl))) ?_
        refine ow_val rfl rfl (ex_neq rfl rfl) ?_
        refine ow_val rfl rfl (ex_move rfl) ?_
        refine ow_split (g := some (3, false)) rfl (fun s39 => ?_) (fun s39 => ?_)
        ·
          refine ow_skip rfl (gd_no rfl s39) ?_
          refine ow_skip rfl (gd_no rfl s39) ?_
          refine ow_skip rfl (gd_no rfl s39) ?_
          refine ow_skip rfl (gd_no rfl s39) ?_
          refine ow_skip rfl (gd_no rfl s39) ?_
          refine ow_skip rfl (gd_no rfl s39) ?_
          refine ow_skip rfl (gd_no rfl s39) ?_
          refine ow_skip rfl (gd_no rfl s39) ?_
          refine ow_val rfl rfl (ex_pickt rfl s39 rfl) ?_
          refine ow_val rfl rfl (ex_move rfl) ?_
          refine ow_skip rfl rfl ?_
          refine ow_skip rfl rfl ?_
          refine ow_skip rfl rfl ?_
          refine ow_skip rfl rfl ?_
          refine ow_skip rfl rfl ?_
          refine ow_val rfl rfl (ex_pick_t rfl rfl) ?_
          refine ow_nil ?_
          refine qw_seq ?_
          refine cw_cond_t rfl ?_
          refine cw_exit ?_
          refine qw_then_exit ?_
          refine qw_block_exit ?_
          refine qw_seq ?_
          refine cw_region ?_
          refine ow_val rfl rfl (ex_addi (z := ((i + 1 : Nat) : Int)) rfl rfl (by omega) (by omega) (by omega)) ?_
          refine ow_val rfl rfl (ex_move rfl) ?_
          refine ow_nil ?_
          exact qw_round (i + 1, pre1, had1) (by show its.length - (i + 1) < its.length - i; omega) (subL_cons (lkv rfl (by first | rfl | simp)) (subL_cons (lkv rfl (by first | rfl | simp)) (subL_cons (lkv rfl (by first | rfl | simp)) (subL_cons (lkv rfl (by first | rfl | simp)) (subL_cons (lkv rfl (by first | rfl | simp)) (subL_nil _)))))) (fun w' h => ⟨hM1.next (fun _ q1 q2 q3 => by first | exact (of_decide_eq_true s39) q1 | (rw [q2] at s49; exact absurd s49 (by decide)) | (rw [q3] at c55; exact absurd c55 (by decide))), by show i + 1 ≤ its.length; omega, w1, hJ1, hn1, h.down (ext_le hl1 _ _)⟩)
        ·
          refine ow_val rfl (gd_go rfl s39) (ex_load1 rfl (ld_imm1 (hb1.le hle1t))) ?_
          refine ow_val rfl (gd_go rfl s39) (ex_nilck rfl) ?_
          refine ow_val rfl (gd_go rfl s39) (ex_field rfl) ?_
          refine ow_val rfl (gd_go rfl s39) (ex_load1 rfl (ld_imm1 ((hcE.le hle1t).fld (i := 1) rfl))) ?_
          refine ow_val rfl (gd_go rfl s39) (ex_move rfl) ?_
          refine ow_val rfl (gd_go rfl s39) (ex_index_nat (i := i) rfl rfl hlt) ?_
          refine ow_val rfl (gd_go rfl s39) (ex_load1 rfl (ld_imm1 (hhb1.bool (i := i) (by have := hsl1.1; omega)))) ?_
          refine ow_val rfl (gd_go rfl s39) (ex_not rfl) ?_
          refine ow_val rfl rfl (ex_pickf rfl s39 rfl) ?_
          refine ow_val rfl rfl (ex_move rfl) ?_
          refine ow_split (g := some (13, false)) rfl (fun s49 => ?_) (fun s49 => ?_)
          ·
            refine ow_skip rfl (gd_no rfl s49) ?_
            refine ow_skip rfl (gd_no rfl s49) ?_
            refine ow_skip rfl (gd_no rfl s49) ?_
            refine ow_skip rfl (gd_no rfl s49) ?_
            refine ow_skip rfl (gd_no rfl s49) ?_
            refine ow_val rfl rfl (ex_pickt rfl s49 rfl) ?_
            refine ow_nil ?_
            refine qw_seq ?_
            refine cw_cond_t rfl ?_
            refine cw_exit ?_
            refine qw_then_exit ?_
            refine qw_block_exit ?_
            refine qw_seq ?_
            refine cw_region ?_
            refine ow_val rfl rfl (ex_addi (z := ((i + 1 : Nat) : Int)) rfl rfl (by omega) (by omega) (by omega)) ?_
            refine ow_val rfl rfl (ex_move rfl) ?_
            refine ow_nil ?_
            exact qw_round (i + 1, pre1, had1) (by show its.length - (i + 1) < its.length - i; omega) (subL_cons (lkv rfl (by first | rfl | simp)) (subL_cons (lkv rfl (by first | rfl | simp)) (subL_cons (lkv rfl (by first | rfl | simp)) (subL_cons (lkv rfl (by first | rfl | simp)) (subL_cons (lkv rfl (by first | rfl | simp)) (subL_nil _)))))) (fun w' h => ⟨hM1.next (fun _ q1 q2 q3 => by first | exact (of_decide_eq_true s39) q1 | (rw [q2] at s49; exact absurd s49 (by decide)) | (rw [q3] at c55; exact absurd c55 (by decide))), by show i + 1 ≤ its.length; omega, w1, hJ1, hn1, h.down (ext_le hl1 _ _)⟩)
          ·
            refine ow_val rfl (gd_go rfl s49) (ex_load1 rfl (ld_imm1 (hb1.le hle1t))) ?_
            refine ow_val rfl (gd_go rfl s49) (ex_field rfl) ?_
            refine ow_val rfl (gd_go rfl s49) (ex_load1 rfl (ld_imm1 ((hc4.le hle1).fld (i := 1) rfl))) ?_
            refine ow_cv rfl (gd_go rfl s49) (ex_callf rfl (fun w h => callB ((pAllE h.im hE1 (hyk.le hle1t) (by have := hok.kl _ hmem; omega) (fun z hz => by rw [hsl1.1]; exact hok.kv _ hmem z hz))))) ?_
            refine ow_val rfl (gd_go rfl s49) (ex_not rfl) ?_
            refine ow_val rfl rfl (ex_pickf rfl s49 rfl) ?_
            refine ow_nil ?_
            refine qw_seq ?_
            refine cw_cond rfl (fun c55 => ?_) (fun c55 => ?_)
            ·
              refine cw_exit ?_
              refine qw_then_exit ?_
              refine qw_block_exit ?_
              refine qw_seq ?_
              refine cw_region ?_
              refine ow_val rfl rfl (ex_addi (z := ((i + 1 : Nat) : Int)) rfl rfl (by omega) (by omega) (by omega)) ?_
              refine ow_val rfl rfl (ex_move rfl) ?_
              refine ow_nil ?_
              exact qw_round (i + 1, pre1, had1) (by show its.length - (i + 1) < its.length - i; omega) (subL_cons (lkv rfl (by first | rfl | simp)) (subL_cons (lkv rfl (by first | rfl | simp)) (subL_cons (lkv rfl (by first | rfl | simp)) (subL_cons (lkv rfl (by first | rfl | simp)) (subL_cons (lkv rfl (by first | rfl | simp)) (subL_nil _)))))) (fun w' h => ⟨hM1.next (fun _ q1 q2 q3 => by first | exact (of_decide_eq_true s39) q1 | (rw [q2] at s49; exact absurd s49 (by decide)) | (rw [q3] at c55; exact absurd c55 (by decide))), by show i + 1 ≤ its.length; omega, w1, hJ1, hn1, h.down (ext_le hl1 _ _)⟩)
            ·
              have hN0 := hM1.opens (fun _ => ⟨by simpa using s39, by simpa using s49, by simpa using c55⟩)
              refine cw_skip ?_
              refine qw_seq ?_
              refine cw_seq ?_
              refine cw_region ?_
              refine ow_val rfl rfl (ex_field rfl) ?_
              refine ow_val rfl rfl (ex_load1 rfl (ld_imm1 ((hc4.le hle1).fld (i := 2) rfl))) ?_
              refine ow_val rfl rfl (ex_len (ty := 0) rfl) ?_
              refine ow_val rfl rfl (ex_move rfl) ?_
              refine ow_nil ?_
              refine qw_seq ?_
              refine cw_block ?_
              refine cw_loop (fun x : Nat × List (Hx its known) × List Bool => [(0, .func (.yield l) #[] #[]), (1, .pointer (some ⟨b1, 0, none⟩)), (10, .slice (some ⟨bi, oi, none⟩) its.length ci), (11, .int .i64 (its.length : Int)), (12, .int .i64 (i : Int)), (57, .slice pm its[i].ments.length cm), (58, .int .i64 (its[i].ments.length : Int)), (59, .int .i64 (x.1 : Int))]) (fun x w' => ItN its known had0 i x.1 x.2.1 x.2.2 ∧ x.1 ≤ its[i].ments.length ∧ ∃ w0, J x.2.1 w0 ∧ n₀ ≤ w0.heap.size ∧ St w0 (fun _ => False) (ext τ hb (hadO 4 x.2.2)) [] [] w') (fun x => its[i].ments.length - x.1) (0, pre1, had1) (subL_cons (lkv rfl (by first | rfl | simp)) (subL_cons (lkv rfl (by first | rfl | simp)) (subL_cons (lkv rfl (by first | rfl | simp)) (subL_cons (lkv rfl (by first | rfl | simp)) (subL_cons (lkv rfl (by first | rfl | simp)) (subL_cons (lkv rfl (by first | rfl | simp)) (subL_cons (lkv rfl (by first | rfl | simp)) (subL_cons (lkv rfl (by first | rfl | simp)) (subL_nil _))))))))) (fun w' h => ⟨hN0, Nat.zero_le _, w1, hJ1, hn1, h⟩) ?_
              rintro ⟨j, pre2, had2⟩
              refine cw_and (fun hN2 => ?_)
              refine cw_and (fun hlej => ?_)
              refine cw_ex (fun w2 => ?_)
              refine cw_and (fun hJ2 => ?_)
              refine cw_and (fun hn2 => ?_)
              simp only at hN2 hlej hJ2
              have hsl2 := hN2.so
              have hle2 := hG1.le (hadO 4 had2)
              have hle2t := hl1.trans hle2
              have hhb2 := CellsAt.had (σ := τ) (hb := hb) (e := 4) (had := had2)
              have hE2 : EngC (ext τ hb (hadO 4 had2)) be hb its had2 := ⟨_, ch, by rw [show had2.length = its.length from hsl2.1]; exact hcE.le hle2t, ItemsV.le hle2t ⟨_, ci, rfl, hci, hsi0⟩, hhb2⟩
              refine cw_seq ?_
              refine cw_region ?_
              refine ow_val rfl rfl (ex_lss rfl rfl) ?_
              refine ow_nil ?_
              refine qw_seq ?_
              refine cw_seq ?_
              refine cw_cond rfl (fun c60 => ?_) (fun c60 => ?_)
              ·
                have hltj : j < its[i].ments.length := by have := of_decide_eq_true c60; omega
                obtain ⟨bm2, om2, rfl, hca⟩ := hsm.resolve_left (fun hn => by rw [hn] at hltj; simp at hltj)
                have hmv := hok.mv _ hmem _ (List.getElem_mem hltj)
                obtain ⟨km, hkm⟩ : ∃ km : Nat, its[i].ments[j] = (km : Int) := ⟨its[i].ments[j].toNat, by omega⟩
                have hcm9 := hca.int hltj
                rw [hkm] at hcm9
                refine cw_skip ?_
                refine qw_seq ?_
                refine cw_seq ?_
                refine cw_block ?_
                refine cw_seq ?_
                refine cw_region ?_
                refine ow_val rfl rfl (ex_index_nat (i := j) rfl rfl hltj) ?_
                refine ow_val rfl rfl (ex_load1 rfl (ld_imm1 (hcm9.le hle2t))) ?_
                refine ow_val rfl rfl (ex_assign rfl) ?_
                refine ow_nil ?_
                refine qw_seq ?_
                refine cw_seq ?_
                refine cw_regionI 9 ?_
                refine oi_val wide_fn (fun c h => (by cases h)) rfl rfl (ex_load1 rfl (ld_imm1 (hb1.le hle2t))) ?_
                refine oi_val wide_fn (fun c h => (by cases h)) rfl rfl (ex_nilck rfl) ?_
                refine oi_val wide_fn (fun c h => (by cases h)) rfl rfl (ex_field rfl) ?_
                refine oi_val wide_fn (fun c h => (by cases h)) rfl rfl (ex_load1 rfl (ld_imm1 ((hcE.le hle2t).fld (i := 1) rfl))) ?_
                refine oi_val wide_fn (fun c h => (by cases h)) rfl rfl (ex_move rfl) ?_
                refine oi_val wide_fn (fun c h => (by cases h)) rfl rfl (ex_index_nat (i := km) rfl rfl (by omega)) ?_
                refine oi_val wide_fn (fun c h => (by cases h)) rfl rfl (ex_load1 rfl (ld_imm1 (hhb2.bool (i := km) (by have := hsl2.1; omega)))) ?_
                refine oi_val wide_fn (fun c h => (by cases h)) rfl rfl (ex_not rfl) ?_
                refine oi_val wide_fn (fun c h => (by cases h)) rfl rfl (ex_move rfl) ?_
                refine oi_split (g := some (8, true)) rfl (fun s71 => ?_) (fun s71 => ?_)
                ·
                  refine oi_val wide_fn (fun c h => (by cases h)) rfl (gd_go rfl s71) (ex_move rfl) ?_
                  refine oi_val wide_fn (fun c h => (by cases h)) rfl (gd_go rfl s71) (ex_move rfl) ?_
                  refine oi_yield rfl (gd_go rfl s71) rfl rfl (fun w h => hY pre2 ⟨km, by omega, by have h8 := hN2.so.opened hlt (hN2.o4 hlt).1 (hN2.o4 hlt).2.1 (hN2.o4 hlt).2.2 (List.getElem_mem hltj); rwa [hkm, Int.toNat_natCast] at h8⟩ w (hJ pre2 w2 w none hJ2 (grown_of_below h.ag.below) (fun r e => by cases e)) (by have := hN2.ln; have := bnd_le hlei; rw [bnd_succ]; omega)) (fun w e w' h => by rcases h with ⟨h, _⟩ | ⟨h, _⟩ <;> exact ⟨_, h⟩) (fun yv => ?_)
                  refine oi_val wide_fn (fun c h => (by cases h)) rfl (gd_go rfl s71) (ex_not rfl) ?_
                  refine oi_val wide_fn (fun c h => (by cases h)) rfl rfl (ex_pickt rfl s71 rfl) ?_
                  refine oi_nil ?_
                  refine qw_seq ?_
                  refine cw_cond rfl (fun c76 => ?_) (fun c76 => ?_)
                  ·
                    have hyv : yv = false := by simpa using c76
                    subst hyv
                    refine cw_ret ?_
                    refine qw_block_ret ?_
                    refine qw_then_ret ?_
                    refine qw_then_ret ?_
                    refine qw_block_ret ?_
                    refine qw_block_ret ?_
                    refine qw_then_ret ?_
                    refine qw_then_ret ?_
                    refine qw_block_ret ?_
                    refine qw_ret0 rfl (fun w' h => ?_)
                    first
                    | exact ⟨⟨_, rfl⟩, .inl ⟨pre, hI.over (by have := of_decide_eq_false c13; omega), hJ pre w0 w' none hJ0 (grown_of_below h.ag.below) (fun r e => by cases e)⟩⟩
                    | (obtain ⟨w9, _, h9⟩ := h
                       rcases h9 with ⟨e9, _⟩ | ⟨_, h9⟩
                       · cases e9
                       · exact ⟨⟨_, rfl⟩, .inr ⟨_, trivial, h9⟩⟩)
                  ·
                    have hyv : yv = true := by simpa using c76
                    subst hyv
                    refine cw_skip ?_
                    refine qw_block_normal ?_
                    refine qw_seq ?_
                    refine cw_mono (S' := fun w' => ∃ pre3 had3 w3, ItN its known had0 i (j + 1) pre3 had3 ∧ J pre3 w3 ∧ n₀ ≤ w3.heap.size ∧ St w3 (fun _ => False) (ext τ hb (hadO 4 had3)) [] [] w') (fun w' h9 => ?_) ?_
                    · first
                      | exact ⟨pre2, had2, w2, hN2.idle hlt hltj (by rw [hkm, hadAt_nat]; simpa using s71), hJ2, hn2, h9⟩
                      | (obtain ⟨w9, hs9, h9⟩ := h9
                         rcases h9 with ⟨_, hJ9, hk9⟩ | ⟨e9, _⟩
                         · obtain ⟨had9, a1, a2, a3⟩ := hk9.st hG1 hs9 hN2.so
                           exact ⟨_, had9, w', hN2.yields (by simpa using s71) a1 a2, hJ9, Nat.le_trans (Nat.le_trans hn2 hs9.ag.size) hk9.sz, a3⟩
                         · cases e9)
                    refine cw_ex (fun pre3 => ?_)
                    refine cw_ex (fun had3 => ?_)
                    refine cw_ex (fun w3 => ?_)
                    refine cw_and (fun hM3 => ?_)
                    refine cw_and (fun hJ3 => ?_)
                    refine cw_and (fun hn3 => ?_)
                    have hsl3 := hM3.so
                    refine cw_region ?_
                    refine ow_val rfl rfl (ex_addi (z := ((j + 1 : Nat) : Int)) rfl rfl (by omega) (by omega) (by omega)) ?_
                    refine ow_val rfl rfl (ex_move rfl) ?_
                    refine ow_nil ?_
                    exact qw_round (j + 1, pre3, had3) (by show its[i].ments.length - (j + 1) < its[i].ments.length - j; omega) (subL_cons (lkv rfl (by first | rfl | simp)) (subL_cons (lkv rfl (by first | rfl | simp)) (subL_cons (lkv rfl (by first | rfl | simp)) (subL_cons (lkv rfl (by first | rfl | simp)) (subL_cons (lkv rfl (by first | rfl | simp)) (subL_cons (lkv rfl (by first | rfl | simp)) (subL_cons (lkv rfl (by first | rfl | simp)) (subL_cons (lkv rfl (by first | rfl | simp)) (subL_nil _))))))))) (fun w' h => ⟨hM3, by show j + 1 ≤ its[i].ments.length; omega, w3, hJ3, hn3, h⟩)
                ·
                  refine oi_skip wide_fn rfl (gd_no rfl s71) ?_
                  refine oi_skip wide_fn rfl (gd_no rfl s71) ?_
                  refine oi_skip wide_fn rfl (gd_no rfl s71) ?_
                  refine oi_skip wide_fn rfl (gd_no rfl s71) ?_
                  refine oi_val wide_fn (fun c h => (by cases h)) rfl rfl (ex_pickf rfl s71 rfl) ?_
                  refine oi_nil ?_
                  refine qw_seq ?_
                  refine cw_cond_f rfl ?_
                  refine cw_skip ?_
                  refine qw_block_normal ?_
                  refine qw_seq ?_
                  refine cw_mono (S' := fun w' => ∃ pre3 had3 w3, ItN its known had0 i (j + 1) pre3 had3 ∧ J pre3 w3 ∧ n₀ ≤ w3.heap.size ∧ St w3 (fun _ => False) (ext τ hb (hadO 4 had3)) [] [] w') (fun w' h9 => ?_) ?_
                  · first
                    | exact ⟨pre2, had2, w2, hN2.idle hlt hltj (by rw [hkm, hadAt_nat]; simpa using s71), hJ2, hn2, h9⟩
                    | (obtain ⟨w9, hs9, h9⟩ := h9
                       rcases h9 with ⟨_, hJ9, hk9⟩ | ⟨e9, _⟩
                       · obtain ⟨had9, a1, a2, a3⟩ := hk9.st hG1 hs9 hN2.so
                         exact ⟨_, had9, w', hN2.yields (by simpa using s71) a1 a2, hJ9, Nat.le_trans (Nat.le_trans hn2 hs9.ag.size) hk9.sz, a3⟩
                       · cases e9)
                  refine cw_ex (fun pre3 => ?_)
                  refine cw_ex (fun had3 => ?_)
                  refine cw_ex (fun w3 => ?_)
                  refine cw_and (fun hM3 => ?_)
                  refine cw_and (fun hJ3 => ?_)
                  refine cw_and (fun hn3 => ?_)
                  have hsl3 := hM3.so
                  refine cw_region ?_
                  refine ow_val rfl rfl (ex_addi (z := ((j + 1 : Nat) : Int)) rfl rfl (by omega) (by omega) (by omega)) ?_
                  refine ow_val rfl rfl (ex_move rfl) ?_
                  refine ow_nil ?_
                  exact qw_round (j + 1, pre3, had3) (by show its[i].ments.length - (j + 1) < its[i].ments.length - j; omega) (subL_cons (lkv rfl (by first | rfl | simp)) (subL_cons (lkv rfl (by first | rfl | simp)) (subL_cons (lkv rfl (by first | rfl | simp)) (subL_cons (lkv rfl (by first | rfl | simp)) (subL_cons (lkv rfl (by first | rfl | simp)) (subL_cons (lkv rfl (by first | rfl | simp)) (subL_cons (lkv rfl (by first | rfl | simp)) (subL_cons (lkv rfl (by first | rfl | simp)) (subL_nil _))))))))) (fun w' h => ⟨hM3, by show j + 1 ≤ its[i].ments.length; omega, w3, hJ3, hn3, h⟩)
              ·
                have hej : its[i].ments.length ≤ j := by have := of_decide_eq_false c60; omega
                refine cw_exit ?_
                refine qw_then_exit ?_
                refine qw_then_exit ?_
                refine qw_block_exit ?_
                refine qw_block_normal ?_
                refine qw_seq ?_
                refine cw_region ?_
                refine ow_val rfl rfl (ex_addi (z := ((i + 1 : Nat) : Int)) rfl rfl (by omega) (by omega) (by omega)) ?_
                refine ow_val rfl rfl (ex_move rfl) ?_
                refine ow_nil ?_
                exact qw_round (i + 1, pre2, had2) (by show its.length - (i + 1) < its.length - i; omega) (subL_cons (lkv rfl (by first | rfl | simp)) (subL_cons (lkv rfl (by first | rfl | simp)) (subL_cons (lkv rfl (by first | rfl | simp)) (subL_cons (lkv rfl (by first | rfl | simp)) (subL_cons (lkv rfl (by first | rfl | simp)) (subL_nil _)))))) (fun w' h => ⟨hN2.next hlt (by omega) (by omega), by show i + 1 ≤ its.length; omega, w2, hJ2, hn2, h.down (ext_le hl1 _ _)⟩)
    ·
      refine oi_skip wide_fn rfl (gd_no rfl s25) ?_
      refine oi_skip wide_fn rfl (gd_no rfl s25) ?_
      refine oi_skip wide_fn rfl (gd_no rfl s25) ?_
      refine oi_val wide_fn (fun c h => (by cases h)) rfl rfl (ex_pickf rfl s25 rfl) ?_
      refine oi_val wide_fn (fun c h => (by cases h)) rfl rfl (ex_move rfl) ?_
      refine oi_skip wide_fn rfl rfl ?_
      refine oi_skip wide_fn rfl rfl ?_
      refine oi_skip wide_fn rfl rfl ?_
      refine oi_skip wide_fn rfl rfl ?_
      refine oi_val wide_fn (fun c h => (by cases h)) rfl rfl (ex_pick_f rfl rfl) ?_
      refine oi_nil ?_
      refine qw_seq ?_
      refine cw_cond_f rfl ?_
      refine cw_skip ?_
      refine qw_seq ?_
      refine cw_seq ?_
      refine cw_seq ?_
      refine cw_mono (S' := fun w' => ∃ pre1 had1 w1, ItM its known had0 i pre1 had1 ∧ J pre1 w1 ∧ n₀ ≤ w1.heap.size ∧ St w1 (fun _ => False) (ext τ hb (hadO 4 had1)) [] [] w') (fun w' h9 => ?_) ?_
      · first
        | exact ⟨pre, had, w0, hI.idle (fun _ hm9 => by first | (simpa using s25) | (rw [show (madeB its had its[i]) = false from s30] at hm9; cases hm9)), hJ0, hn0, h9⟩
        | (obtain ⟨w9, hs9, h9⟩ := h9
           rcases h9 with ⟨_, hJ9, hk9⟩ | ⟨e9, _⟩
           · obtain ⟨had9, a1, a2, a3⟩ := hk9.st hG1 hs9 hI.so
             exact ⟨_, had9, w', hI.yields (by simpa using s25) a1 a2, hJ9, Nat.le_trans (Nat.le_trans hn0 hs9.ag.size) hk9.sz, a3⟩
           · cases e9)
      refine cw_ex (fun pre1 => ?_)
      refine cw_ex (fun had1 => ?_)
      refine cw_ex (fun w1 => ?_)
      refine cw_and (fun hM1 => ?_)
      refine cw_and (fun hJ1 => ?_)
      refine cw_and (fun hn1 => ?_)
      have hsl1 := hM1.so
      have hle1 := hG1.le (hadO 4 had1)
      have hle1t := hl1.trans hle1
      have hhb1 := CellsAt.had (σ := τ) (hb := hb) (e := 4) (had := had1)
      have hE1 : EngC (ext τ hb (hadO 4 had1)) be hb its had1 := ⟨_, ch, by rw [show had1.length = its.length from hsl1.1]; exact hcE.le hle1t, ItemsV.le hle1t ⟨_, ci, rfl, hci, hsi0⟩, hhb1⟩
      refine cw_region ?_
      refine ow_val rfl rfl (ex_field rfl) ?_
      refine ow_val rfl rfl (ex_load1 rfl (ld_imm1 ((hc4.le hle1).fld (i := 0) rfl))) ?_
      refine ow_val rfl rfl (ex_neq rfl rfl) ?_
      refine ow_val rfl rfl (ex_move rfl) ?_
      refine ow_split (g := some (3, false)) rfl (fun s39 => ?_) (fun s39 => ?_)
      ·
        refine ow_skip rfl (gd_no rfl s39) ?_
        refine ow_skip rfl (gd_no rfl s39) ?_
        refine ow_skip rfl (gd_no rfl s39) ?_
        refine ow_skip rfl (gd_no rfl s39) ?_
        refine ow_skip rfl (gd_no rfl s39) ?_
        refine ow_skip rfl (gd_no rfl s39) ?_
        refine ow_skip rfl (gd_no rfl s39) ?_
        refine ow_skip rfl (gd_no rfl s39) ?_
        refine ow_val rfl rfl (ex_pickt rfl s39 rfl) ?_
        refine ow_val rfl rfl (ex_move rfl) ?_
        refine ow_skip rfl rfl ?_
        refine ow_skip rfl rfl ?_
        refine ow_skip rfl rfl ?_
        refine ow_skip rfl rfl ?_
        refine ow_skip rfl rfl ?_
        refine ow_val rfl rfl (ex_pick_t rfl rfl) ?_
        refine ow_nil ?_
        refine qw_seq ?_
        refine cw_cond_t rfl ?_
        refine cw_exit ?_
        refine qw_then_exit ?_
        refine qw_block_exit ?_
        refine qw_seq ?_
        refine cw_region ?_
        refine ow_val rfl rfl (ex_addi (z := ((i + 1 : Nat) : Int)) rfl rfl (by omega) (by omega) (by omega)) ?_
        refine ow_val rfl rfl (ex_move rfl) ?_
        refine ow_nil ?_
        exact qw_round (i + 1, pre1, had1) (by show its.length - (i + 1) < its.length - i; omega) (subL_cons (lkv rfl (by first | rfl | simp)) (subL_cons (lkv rfl (by first | rfl | simp)) (subL_cons (lkv rfl (by first | rfl | simp)) (subL_cons (lkv rfl (by first | rfl | simp)) (subL_cons (lkv rfl (by first | rfl | simp)) (subL_nil _)))))) (fun w' h => ⟨hM1.next (fun _ q1 q2 q3 => by first | exact (of_decide_eq_true s39) q1 | (rw [q2] at s49; exact absurd s49 (by decide)) | (rw [q3] at c55; exact absurd c55 (by decide))), by show i + 1 ≤ its.length; omega, w1, hJ1, hn1, h.down (ext_le hl1 _ _)⟩)
      ·
        refine ow_val rfl (gd_go rfl s39) (ex_load1 rfl (ld_imm1 (hb1.le hle1t))) ?_
        refine ow_val rfl (gd_go rfl s39) (ex_nilck rfl) ?_
        refine ow_val rfl (gd_go rfl s39) (ex_field rfl) ?_
        refine ow_val rfl (gd_go rfl s39) (ex_load1 rfl (ld_imm1 ((hcE.le hle1t).fld (i := 1) rfl))) ?_
        refine ow_val rfl (gd_go rfl s39) (ex_move rfl) ?_
        refine ow_val rfl (gd_go rfl s39) (ex_index_nat (i := i) rfl rfl hlt) ?_
        refine ow_val rfl (gd_go rfl s39) (ex_load1 rfl (ld_imm1 (hhb1.bool (i := i) (by have := hsl1.1; omega)))) ?_
        refine ow_val rfl (gd_go rfl s39) (ex_not rfl) ?_
        refine ow_val rfl rfl (ex_pickf rfl s39 rfl) ?_
        refine ow_val rfl rfl (ex_move rfl) ?_
        refine ow_split (g := some (13, false)) rfl (fun s49 => ?_) (fun s49 => ?_)
        ·
          refine ow_skip rfl (gd_no rfl s49) ?_
          refine ow_skip rfl (gd_no rfl s49) ?_
          refine ow_skip rfl (gd_no rfl s49) ?_
          refine ow_skip rfl (gd_no rfl s49) ?_
          refine ow_skip rfl (gd_no rfl s49) ?_
          refine ow_val rfl rfl (ex_pickt rfl s49 rfl) ?_
          refine ow_nil ?_
          refine qw_seq ?_
          refine cw_cond_t rfl ?_
          refine cw_exit ?_
          refine qw_then_exit ?_
          refine qw_block_exit ?_
          refine qw_seq ?_
          refine cw_region ?_
          refine ow_val rfl rfl (ex_addi (z := ((i + 1 : Nat) : Int)) rfl rfl (by omega) (by omega) (by omega)) ?_
          refine ow_val rfl rfl (ex_move rfl) ?_
          refine ow_nil ?_
          exact qw_round (i + 1, pre1, had1) (by show its.length - (i + 1) < its.length - i; omega) (subL_cons (lkv rfl (by first | rfl | simp)) (subL_cons (lkv rfl (by first | rfl | simp)) (subL_cons (lkv rfl (by first | rfl | simp)) (subL_cons (lkv rfl (by first | rfl | simp)) (subL_cons (lkv rfl (by first | rfl | simp)) (subL_nil _)))))) (fun w' h => ⟨hM1.next (fun _ q1 q2 q3 => by first | exact (of_decide_eq_true s39) q1 | (rw [q2] at s49; exact absurd s49 (by decide)) | (rw [q3] at c55; exact absurd c55 (by decide))), by show i + 1 ≤ its.length; omega, w1, hJ1, hn1, h.down (ext_le hl1 _ _)⟩)
        ·
          refine ow_val rfl (gd_go rfl s49) (ex_load1 rfl (ld_imm1 (hb1.le hle1t))) ?_
          refine ow_val rfl (gd_go rfl s49) (ex_field rfl) ?_
          refine ow_val rfl (gd_go rfl s49) (ex_load1 rfl (ld_imm1 ((hc4.le hle1).fld (i := 1) rfl))) ?_
          refine ow_cv rfl (gd_go rfl s49) (ex_callf rfl (fun w h => callB ((pAllE h.im hE1 (hyk.le hle1t) (by have := hok.kl _ hmem; omega) (fun z hz => by rw [hsl1.1]; exact hok.kv _ hmem z hz))))) ?_
          refine ow_val rfl (gd_go rfl s49) (ex_not rfl) ?_
          refine ow_val rfl rfl (ex_pickf rfl s49 rfl) ?_
          refine ow_nil ?_
          refine qw_seq ?_
          refine cw_cond rfl (fun c55 => ?_) (fun c55 => ?_)
          ·
            refine cw_exit ?_
            refine qw_then_exit ?_
            refine qw_block_exit ?_
            refine qw_seq ?_
            refine cw_region ?_
            refine ow_val rfl rfl (ex_addi (z := ((i + 1 : Nat) : Int)) rfl rfl (by omega) (by omega) (by omega)) ?_
            refine ow_val rfl rfl (ex_move rfl) ?_
            refine ow_nil ?_
            exact qw_round (i + 1, pre1, had1) (by show its.length - (i + 1) < its.length - i; omega) (subL_cons (lkv rfl (by first | rfl | simp)) (subL_cons (lkv rfl (by first | rfl | simp)) (subL_cons (lkv rfl (by first | rfl | simp)) (subL_cons (lkv rfl (by first | rfl | simp)) (subL_cons (lkv rfl (by first | rfl | simp)) (subL_nil _)))))) (fun w' h => ⟨hM1.next (fun _ q1 q2 q3 => by first | exact (of_decide_eq_true s39) q1 | (rw [q2] at s49; exact absurd s49 (by decide)) | (rw [q3] at c55; exact absurd c55 (by decide))), by show i + 1 ≤ its.length; omega, w1, hJ1, hn1, h.down (ext_le hl1 _ _)⟩)
          ·
            have hN0 := hM1.opens (fun _ => ⟨by simpa using s39, by simpa using s49, by simpa using c55⟩)
            refine cw_skip ?_
            refine qw_seq ?_
            refine cw_seq ?_
            refine cw_region ?_
            refine ow_val rfl rfl (ex_field rfl) ?_
            refine ow_val rfl rfl (ex_load1 rfl (ld_imm1 ((hc4.le hle1).fld (i := 2) rfl))) ?_
            refine ow_val rfl rfl (ex_len (ty := 0) rfl) ?_
            refine ow_val rfl rfl (ex_move rfl) ?_
            refine ow_nil ?_
            refine qw_seq ?_
            refine cw_block ?_
            refine cw_loop (fun x : Nat × List (Hx its known) × List Bool => [(0, .func (.yield l) #[] #[]), (1, .pointer (some ⟨b1, 0, none⟩)), (10, .slice (some ⟨bi, oi, none⟩) its.length ci), (11, .int .i64 (its.length : Int)), (12, .int .i64 (i : Int)), (57, .slice pm its[i].ments.length cm), (58, .int .i64 (its[i].ments.length : Int)), (59, .int .i64 (x.1 : Int))]) (fun x w' => ItN its known had0 i x.1 x.2.1 x.2.2 ∧ x.1 ≤ its[i].ments.length ∧ ∃ w0, J x.2.1 w0 ∧ n₀ ≤ w0.heap.size ∧ St w0 (fun _ => False) (ext τ hb (hadO 4 x.2.2)) [] [] w') (fun x => its[i].ments.length - x.1) (0, pre1, had1) (subL_cons (lkv rfl (by first | rfl | simp)) (subL_cons (lkv rfl (by first | rfl | simp)) (subL_cons (lkv rfl (by first | rfl | simp)) (subL_cons (lkv rfl (by first | rfl | simp)) (subL_cons (lkv rfl (by first | rfl | simp)) (subL_cons (lkv rfl (by first | rfl | simp)) (subL_cons (lkv rfl (by first | rfl | simp)) (subL_cons (lkv rfl (by first | rfl | simp)) (subL_nil _))))))))) (fun w' h => ⟨hN0, Nat.zero_le _, w1, hJ1, hn1, h⟩) ?_
            rintro ⟨j, pre2, had2⟩
            refine cw_and (fun hN2 => ?_)
            refine cw_and (fun hlej => ?_)
            refine cw_ex (fun w2 => ?_)
            refine cw_and (fun hJ2 => ?_)
            refine cw_and (fun hn2 => ?_)
            simp only at hN2 hlej hJ2
            have hsl2 := hN2.so
            have hle2 := hG1.le (hadO 4 had2)
            have hle2t := hl1.trans hle2
            have hhb2 := CellsAt.had (σ := τ) (hb := hb) (e := 4) (had := had2)
            have hE2 : EngC (ext τ hb (hadO 4 had2)) be hb its had2 := ⟨_, ch, by rw [show had2.length = its.length from hsl2.1]; exact hcE.le hle2t, ItemsV.le hle2t ⟨_, ci, rfl, hci, hsi0⟩, hhb2⟩
            refine cw_seq ?_
            refine cw_region ?_
            refine ow_val rfl rfl (ex_lss rfl rfl) ?_
            refine ow_nil ?_
            refine qw_seq ?_
            refine cw_seq ?_
            refine cw_cond rfl (fun c60 => ?_) (fun c60 => ?_)
            ·
              have hltj : j < its[i].ments.length := by have := of_decide_eq_true c60; omega
              obtain ⟨bm2, om2, rfl, hca⟩ := hsm.resolve_left (fun hn => by rw [hn] at hltj; simp at hltj)
              have hmv := hok.mv _ hmem _ (List.getElem_mem hltj)
              obtain ⟨km, hkm⟩ : ∃ km : Nat, its[i].ments[j] = (km : Int) := ⟨its[i].ments[j].toNat, by omega⟩
              have hcm9 := hca.int hltj
              rw [hkm] at hcm9
              refine cw_skip ?_
              refine qw_seq ?_
              refine cw_seq ?_
              refine cw_block ?_
              refine cw_seq ?_
              refine cw_region ?_
              refine ow_val rfl rfl (ex_index_nat (i := j) rfl rfl hltj) ?_
              refine ow_val rfl rfl (ex_load1 rfl (ld_imm1 (hcm9.le hle2t))) ?_
              refine ow_val rfl rfl (ex_assign rfl) ?_
              refine ow_nil ?_
              refine qw_seq ?_
              refine cw_seq ?_
              refine cw_regionI 9 ?_
              refine oi_val wide_fn (fun c h => (by cases h)) rfl rfl (ex_load1 rfl (ld_imm1 (hb1.le hle2t))) ?_
              refine oi_val wide_fn (fun c h => (by cases h)) rfl rfl (ex_nilck rfl) ?_
              refine oi_val wide_fn (fun c h => (by cases h)) rfl rfl (ex_field rfl) ?_
              refine oi_val wide_fn (fun c h => (by cases h)) rfl rfl (ex_load1 rfl (ld_imm1 ((hcE.le hle2t).fld (i := 1) rfl))) ?_
              refine oi_val wide_fn (fun c h => (by cases h)) rfl rfl (ex_move rfl) ?_
              refine oi_val wide_fn (fun c h => (by cases h)) rfl rfl (ex_index_nat (i := km) rfl rfl (by omega)) ?_
              refine oi_val wide_fn (fun c h => (by cases h)) rfl rfl (ex_load1 rfl (ld_imm1 (hhb2.bool (i := km) (by have := hsl2.1; omega)))) ?_
              refine oi_val wide_fn (fun c h => (by cases h)) rfl rfl (ex_not rfl) ?_
              refine oi_val wide_fn (fun c h => (by cases h)) rfl rfl (ex_move rfl) ?_
              refine oi_split (g := some (8, true)) rfl (fun s71 => ?_) (fun s71 => ?_)
              ·
                refine oi_val wide_fn (fun c h => (by cases h)) rfl (gd_go rfl s71) (ex_move rfl) ?_
                refine oi_val wide_fn (fun c h => (by cases h)) rfl (gd_go rfl s71) (ex_move rfl) ?_
                refine oi_yield rfl (gd_go rfl s71) rfl rfl (fun w h => hY pre2 ⟨km, by omega, by have h8 := hN2.so.opened hlt (hN2.o4 hlt).1 (hN2.o4 hlt).2.1 (hN2.o4 hlt).2.2 (List.getElem_mem hltj); rwa [hkm, Int.toNat_natCast] at h8⟩ w (hJ pre2 w2 w none hJ2 (grown_of_below h.ag.below) (fun r e => by cases e)) (by have := hN2.ln; have := bnd_le hlei; rw [bnd_succ]; omega)) (fun w e w' h => by rcases h with ⟨h, _⟩ | ⟨h, _⟩ <;> exact ⟨_, h⟩) (fun yv => ?_)
                refine oi_val wide_fn (fun c h => (by cases h)) rfl (gd_go rfl s71) (ex_not rfl) ?_
                refine oi_val wide_fn (fun c h => (by cases h)) rfl rfl (ex_pickt rfl s71 rfl) ?_
                refine oi_nil ?_
                refine qw_seq ?_
                refine cw_cond rfl (fun c76 => ?_) (fun c76 => ?_)
                ·
                  have hyv : yv = false := by simpa using c76
                  subst hyv
                  refine cw_ret ?_
                  refine qw_block_ret ?_
                  refine qw_then_ret ?_
                  refine qw_then_ret ?_
                  refine qw_block_ret ?_
                  refine qw_block_ret ?_
                  refine qw_then_ret ?_
                  refine qw_then_ret ?_
                  refine qw_block_ret ?_
                  refine qw_ret0 rfl (fun w' h => ?_)
                  first
                  | exact ⟨⟨_, rfl⟩, .inl ⟨pre, hI.over (by have := of_decide_eq_false c13; omega), hJ pre w0 w' none hJ0 (grown_of_below h.ag.below) (fun r e => by cases e)⟩⟩
                  | (obtain ⟨w9, _, h9⟩ := h
                     rcases h9 with ⟨e9, _⟩ | ⟨_, h9⟩
                     · cases e9
                     · exact ⟨⟨_, rfl⟩, .inr ⟨_, trivial, h9⟩⟩)
                ·
                  have hyv : yv = true := by simpa using c76
                  subst hyv
                  refine cw_skip ?_
                  refine qw_block_normal ?_
                  refine qw_seq ?_
                  refine cw_mono (S' := fun w' => ∃ pre3 had3 w3, ItN its known had0 i (j + 1) pre3 had3 ∧ J pre3 w3 ∧ n₀ ≤ w3.heap.size ∧ St w3 (fun _ => False) (ext τ hb (hadO 4 had3)) [] [] w') (fun w' h9 => ?_) ?_
                  · first
                    | exact ⟨pre2, had2, w2, hN2.idle hlt hltj (by rw [hkm, hadAt_nat]; simpa using s71), hJ2, hn2, h9⟩
                    | (obtain ⟨w9, hs9, h9⟩ := h9
                       rcases h9 with ⟨_, hJ9, hk9⟩ | ⟨e9, _⟩
                       · obtain ⟨had9, a1, a2, a3⟩ := hk9.st hG1 hs9 hN2.so
                         exact ⟨_, had9, w', hN2.yields (by simpa using s71) a1 a2, hJ9, Nat.le_trans (Nat.le_trans hn2 hs9.ag.size) hk9.sz, a3⟩
                       · cases e9)
                  refine cw_ex (fun pre3 => ?_)
                  refine cw_ex (fun had3 => ?_)
                  refine cw_ex (fun w3 => ?_)
                  refine cw_and (fun hM3 => ?_)
                  refine cw_and (fun hJ3 => ?_)
                  refine cw_and (fun hn3 => ?_)
                  have hsl3 := hM3.so
                  refine cw_region ?_
                  refine ow_val rfl rfl (ex_addi (z := ((j + 1 : Nat) : Int)) rfl rfl (by omega) (by omega) (by omega)) ?_
                  refine ow_val rfl rfl (ex_move rfl) ?_
                  refine ow_nil ?_
                  exact qw_round (j + 1, pre3, had3) (by show its[i].ments.length - (j + 1) < its[i].ments.length - j; omega) (subL_cons (lkv rfl (by first | rfl | simp)) (subL_cons (lkv rfl (by first | rfl | simp)) (subL_cons (lkv rfl (by first | rfl | simp)) (subL_cons (lkv rfl (by first | rfl | simp)) (subL_cons (lkv rfl (by first | rfl | simp)) (subL_cons (lkv rfl (by first | rfl | simp)) (subL_cons (lkv rfl (by first | rfl | simp)) (subL_cons (lkv rfl (by first | rfl | simp)) (subL_nil _))))))))) (fun w' h => ⟨hM3, by show j + 1 ≤ its[i].ments.length; omega, w3, hJ3, hn3, h⟩)
              ·
                refine oi_skip wide_fn rfl (gd_no rfl s71) ?_
                refine oi_skip wide_fn rfl (gd_no rfl s71) ?_
                refine oi_skip wide_fn rfl (gd_no rfl s71) ?_
                refine oi_skip wide_fn rfl (gd_no rfl s71) ?_
                refine oi_val wide_fn (fun c h => (by cases h)) rfl rfl (ex_pickf rfl s71 rfl) ?_
                refine oi_nil ?_
                refine qw_seq ?_
                refine cw_cond_f rfl ?_
                refine cw_skip ?_
                refine qw_block_normal ?_
                refine qw_seq ?_
                refine cw_mono (S' := fun w' => ∃ pre3 had3 w3, ItN its known had0 i (j + 1) pre3 had3 ∧ J pre3 w3 ∧ n₀ ≤ w3.heap.size ∧ St w3 (fun _ => False) (ext τ hb (hadO 4 had3)) [] [] w') (fun w' h9 => ?_) ?_
                · first
                  | exact ⟨pre2, had2, w2, hN2.idle hlt hltj (by rw [hkm, hadAt_nat]; simpa using s71), hJ2, hn2, h9⟩
                  | (obtain ⟨w9, hs9, h9⟩ := h9
                     rcases h9 with ⟨_, hJ9, hk9⟩ | ⟨e9, _⟩
                     · obtain ⟨had9, a1, a2, a3⟩ := hk9.st hG1 hs9 hN2.so
                       exact ⟨_, had9, w', hN2.yields (by simpa using s71) a1 a2, hJ9, Nat.le_trans (Nat.le_trans hn2 hs9.ag.size) hk9.sz, a3⟩
                     · cases e9)
                refine cw_ex (fun pre3 => ?_)
                refine cw_ex (fun had3 => ?_)
                refine cw_ex (fun w3 => ?_)
                refine cw_and (fun hM3 => ?_)
                refine cw_and (fun hJ3 => ?_)
                refine cw_and (fun hn3 => ?_)
                have hsl3 := hM3.so
                refine cw_region ?_
                refine ow_val rfl rfl (ex_addi (z := ((j + 1 : Nat) : Int)) rfl rfl (by omega) (by omega) (by omega)) ?_
                refine ow_val rfl rfl (ex_move rfl) ?_
                refine ow_nil ?_
                exact qw_round (j + 1, pre3, had3) (by show its[i].ments.length - (j + 1) < its[i].ments.length - j; omega) (subL_cons (lkv rfl (by first | rfl | simp)) (subL_cons (lkv rfl (by first | rfl | simp)) (subL_cons (lkv rfl (by first | rfl | simp)) (subL_cons (lkv rfl (by first | rfl | simp)) (subL_cons (lkv rfl (by first | rfl | simp)) (subL_cons (lkv rfl (by first | rfl | simp)) (subL_cons (lkv rfl (by first | rfl | simp)) (subL_cons (lkv rfl (by first | rfl | simp)) (subL_nil _))))))))) (fun w' h => ⟨hM3, by show j + 1 ≤ its[i].ments.length; omega, w3, hJ3, hn3, h⟩)
            ·
              have hej : its[i].ments.length ≤ j := by have := of_decide_eq_false c60; omega
              refine cw_exit ?_
              refine qw_then_exit ?_
              refine qw_then_exit ?_
              refine qw_block_exit ?_
              refine qw_block_normal ?_
              refine qw_seq ?_
              refine cw_region ?_
              refine ow_val rfl rfl (ex_addi (z := ((i + 1 : Nat) : Int)) rfl rfl (by omega) (by omega) (by omega)) ?_
              refine ow_val rfl rfl (ex_move rfl) ?_
              refine ow_nil ?_
              exact qw_round (i + 1, pre2, had2) (by show its.length - (i + 1) < its.length - i; omega) (subL_cons (lkv rfl (by first | rfl | simp)) (subL_cons (lkv rfl (by first | rfl | simp)) (subL_cons (lkv rfl (by first | rfl | simp)) (subL_cons (lkv rfl (by first | rfl | simp)) (subL_cons (lkv rfl (by first | rfl | simp)) (subL_nil _)))))) (fun w' h => ⟨hN2.next hlt (by omega) (by omega), by show i + 1 ≤ its.length; omega, w2, hJ2, hn2, h.down (ext_le hl1 _ _)⟩)
  ·
    refine cw_exit ?_
    refine qw_then_exit ?_
    refine qw_then_exit ?_
    refine qw_block_exit ?_
    refine qw_end0 rfl (fun w' h => ?_)
    first
    | exact ⟨⟨_, rfl⟩, .inl ⟨pre, hI.over (by have := of_decide_eq_false c13; omega), hJ pre w0 w' none hJ0 (grown_of_below h.ag.below) (fun r e => by cases e)⟩⟩
    | (obtain ⟨w9, _, h9⟩ := h
       rcases h9 with ⟨e9, _⟩ | ⟨_, h9⟩
       · cases e9
       · exact ⟨⟨_, rfl⟩, .inr ⟨_, trivial, h9⟩⟩)
end Go.Proofs.YtnjomdjkbbhdoaaGreatDoor
namespace Go.Proofs.YtnjomdjkbbhdoaaGreatDoor
set_option linter.unusedVariables false
theorem termV_old {ts es : List T} {n : Int} (h : (termV ts n).2 = true) : termV (ts ++ es) n = termV ts n := by
  unfold termV at h ⊢
  split at h
  · rename_i hn
    have hl : n.toNat < ts.length := by omega
    rw [if_pos (by simp; omega), if_pos hn]
    simp [List.getD_eq_getElem?_getD, List.getElem?_append_left hl]
  · cases h
theorem termV_at {ts : List T} (hn : ts.Nodup) {n : Int} (h : (termV ts n).2 = true) : posT ts (termV ts n).1 = n := by
  unfold termV at h ⊢
  split at h
  · rename_i hc
    have hl : n.toNat < ts.length := by omega
    rw [if_pos hc]
    have := posT_nodup hn (List.getElem?_eq_getElem hl)
    simp only [List.getD_eq_getElem?_getD, List.getElem?_eq_getElem hl, Option.getD_some]
    omega
  · cases h
theorem gather1 {ts : List T} {a : Int} (h : (termV ts a).2 = true) : gatherT ts [a] = some [(termV ts a).1] := by simp [gatherT, h]
theorem gather0 {ts : List T} {a : Int} (h : ¬ (termV ts a).2 = true) : gatherT ts [a] = none := by simp [gatherT, h]
theorem made1 {ts : List T} {op : Int} {d : List UInt8} {a : Int} (h : (termV ts a).2 = true) : madeV ts (ofT op d) [a] = intern ts (.mk op 0 d [(termV ts a).1]) := by
  rw [madeV_some (gather1 h)]; rfl
theorem made0 {ts : List T} {op : Int} {d : List UInt8} {a : Int} (h : ¬ (termV ts a).2 = true) : madeV ts (ofT op d) [a] = (-1, 71, ts) := madeV_none (gather0 h)
theorem made_ext (ts : List T) (op : Int) (d : List UInt8) (a : Int) : ∃ es, (madeV ts (ofT op d) [a]).2.2 = ts ++ es := by
  by_cases h : (termV ts a).2 = true
  · rw [made1 h]; exact intern_ext _ _
  · rw [made0 h]; exact ⟨[], by simp⟩
structure Seals (key other : Int) (d : List UInt8) (ts t1 t2 t3 t4 : List T) (s e g f p h q i : Int) : Prop where
  h1 : madeV ts (ofT 4 d) [key] = (s, e, t1)
  h2 : madeV t1 (ofT 3 d) [key] = (g, f, t2)
  h3 : madeV t2 (ofT 2 []) [key] = (p, h, t3)
  h4 : madeV t3 (ofT 2 []) [other] = (q, i, t4)
  hI : TabI ts
theorem made_ok {ts tt : List T} {op n : Int} {d : List UInt8} {a : Int} (h : madeV ts (ofT op d) [a] = (n, 0, tt)) : (termV ts a).2 = true ∧ n = posT tt (.mk op 0 d [(termV ts a).1]) ∧ 0 ≤ posT tt (.mk op 0 d [(termV ts a).1]) := by
  by_cases hk : (termV ts a).2 = true
  · rw [made1 hk] at h
    have := intern_pos (ts := ts) (t := .mk op 0 d [(termV ts a).1]) (by rw [h])
    rw [h] at this
    exact ⟨hk, this.1, this.2.1⟩
  · rw [made0 hk] at h; simp at h
structure Pows (x y : Int) (a b : List UInt8) (ts t1 t2 t3 t4 : List T) (p e q f h i k j : Int) : Prop where
  h1 : madeV ts (ofT 7 []) [x] = (p, e, t1)
  h2 : madeV t1 (ofT 7 []) [y] = (q, f, t2)
  h3 : madeV t2 (ofT 5 a) [] = (h, i, t3)
  h4 : madeV t3 (ofT 5 b) [] = (k, j, t4)
  hI : TabI ts
end Go.Proofs.YtnjomdjkbbhdoaaGreatDoor
namespace Go.Proofs.YtnjomdjkbbhdoaaGreatDoor
set_option linter.unusedVariables false
set_option linter.unusedSimpArgs false
def itemT (ts : List T) (n : Nat) (t : T) : Item := ⟨t.op, t.kids.map (posT ts), mentS t.data (n : Int)⟩
def itemsT (ts : List T) : List Item := ts.mapIdx (itemT ts)
theorem itemsT_len (ts : List T) : (itemsT ts).length = ts.length := by simp [itemsT]
theorem itemsT_get {ts : List T} {i : Nat} (h : i < (itemsT ts).length) (h' : i < ts.length) : (itemsT ts)[i] = itemT ts i ts[i] := by simp [itemsT]
theorem itemsT_mem {ts : List T} {x : Item} (h : x ∈ itemsT ts) : ∃ i, ∃ h : i < ts.length, x = itemT ts i ts[i] := by
  obtain ⟨i, hi, rfl⟩ := List.mem_iff_getElem.1 h
  have hi' : i < ts.length := by rwa [itemsT_len] at hi
  exact ⟨i, hi', itemsT_get hi hi'⟩
def itemsTo (ts : List T) (i : Nat) : List Item := (ts.take i).mapIdx (itemT ts)
theorem itemsTo_len {ts : List T} {i : Nat} (h : i ≤ ts.length) : (itemsTo ts i).length = i := by simp [itemsTo]; omega
theorem itemsTo_snoc {ts : List T} {i : Nat} (h : i < ts.length) : itemsTo ts (i + 1) = itemsTo ts i ++ [itemT ts i ts[i]] := by
  unfold itemsTo
  rw [List.take_succ_eq_append_getElem h, List.mapIdx_concat]
  congr 3
  simp; omega
theorem itemsTo_all (ts : List T) : itemsTo ts ts.length = itemsT ts := by unfold itemsTo itemsT; rw [List.take_length]
theorem TabI.kidAt {ts : List T} (h : TabI ts) {i : Nat} (hi : i < ts.length) {k : T} (hk : k ∈ ts[i].kids) : 0 ≤ posT ts k ∧ posT ts k < (i : Int) := by
  obtain ⟨j, h1, h2⟩ := h.lo i hi k hk
  rw [posT_nodup h.nd h2]; omega
theorem TabI.shapeAt {ts : List T} (h : TabI ts) {i : Nat} (hi : i < ts.length) : ts[i].kids.length ≤ 4 ∧ ts[i].data.length ≤ 8192 := by
  have hs := (right_shape (h.rt _ (List.getElem_mem hi))).1
  exact ⟨shape_kids hs, (shape_data hs).1⟩
theorem TabI.itemsOK {ts : List T} (h : TabI ts) (hl : ts.length ≤ 4096) : ItsOK (itemsT ts) := by
  refine ⟨by rw [itemsT_len]; exact hl, fun x hx => ?_, fun x hx => ?_, fun x hx z hz => ?_, fun x hx z hz => ?_⟩ <;> obtain ⟨i, hi, rfl⟩ := itemsT_mem hx
  · simp only [itemT, List.length_map]; exact (h.shapeAt hi).1
  · simp only [itemT]
    have h1 := mentS_len ts[i].data (i : Int)
    have h2 := (h.shapeAt hi).2
    omega
  · simp only [itemT, List.mem_map] at hz
    obtain ⟨k, hk, rfl⟩ := hz
    have h1 := h.kidAt hi hk
    rw [itemsT_len]; omega
  · simp only [itemT] at hz
    have h1 := mentS_in hz
    rw [itemsT_len]; omega
theorem had_open {its : List Item} {known : List Int} {s : Nat} (hs : s < its.length) (ho : its[s].op = 4) (h1 : Had its known s) (h2 : ∀ z ∈ its[s].kids, Had its known z.toNat) {m : Int} (hm : m ∈ its[s].ments) : Had its known m.toNat := fun b hl hc hk =>
  (hc s hs).2 ho (h1 b hl hc hk) (by unfold allB hadAt; rw [List.all_eq_true]; exact fun z hz => h2 z hz b hl hc hk) m hm
theorem Clos.mem {its : List Item} {known zs : List Int} (h : Clos its known zs) {n : Int} : n ∈ zs ↔ 0 ≤ n ∧ n < (its.length : Int) ∧ Had its known n.toNat := by
  rw [h.2]
  constructor
  · rintro ⟨k, h1, rfl, h2⟩
    exact ⟨by omega, by omega, by simpa using h2⟩
  · rintro ⟨h1, h2, h3⟩
    exact ⟨n.toNat, by omega, by omega, h3⟩
theorem had_inK {its : List Item} {known : List Int} {z : Int} (h : z ∈ known) (h0 : 0 ≤ z) (hn : z < (its.length : Int)) : Had its known z.toNat :=
  had_known (by rwa [Int.toNat_of_nonneg h0]) (by omega)
theorem Clos.len {its : List Item} {known zs : List Int} (h : Clos its known zs) : zs.length ≤ its.length := by
  have := strict_len (b := (List.range its.length).map fun (k : Nat) => (k : Int)) h.1 fun x hx => by
    obtain ⟨k, h1, rfl, _⟩ := (h.2 x).1 hx
    exact List.mem_map.2 ⟨k, List.mem_range.2 h1, rfl⟩
  simpa using this
theorem Clos.has {its : List Item} {known a : List Int} (ha : Clos its known a) {x : Int} (hx : x ∈ known) (h0 : 0 ≤ x) (h1 : x < (its.length : Int)) : x ∈ a := ha.mem.2 ⟨h0, h1, had_inK hx h0 h1⟩
def butB (len x n : Nat) : List Bool := (List.range len).map fun k => !(decide (k = x) || decide (k = n))
theorem butB_get {len x n k : Nat} (hk : k < len) : (butB len x n).getD k false = !(decide (k = x) || decide (k = n)) := by
  unfold butB
  simp [List.getD_eq_getElem?_getD, hk]
theorem but_closed {ts : List T} (hI : TabI ts) {x n : Nat} (hx : x < ts.length) (hop : ts[x].op = 1) (hn : n < ts.length) (hk : n = x ∨ (ts[n].op ≠ 7 ∧ (x : Int) ∈ ts[n].kids.map (posT ts)))
    (hm : ∀ i (h : i < ts.length), ts[i].op = 4 → (x : Int) ∉ mentS ts[i].data i ∧ (n : Int) ∉ mentS ts[i].data i) : Closed (itemsT ts) (butB ts.length x n) := fun k hk' => by
  have hk2 : k < ts.length := by rwa [itemsT_len] at hk'
  rw [itemsT_get hk' hk2]
  constructor
  · intro h
    rw [butB_get hk2]
    by_cases e1 : k = x
    · subst e1
      unfold madeB at h
      rw [if_pos (show (itemT ts k ts[k]).op = 1 from hop)] at h
      cases h
    · by_cases e2 : k = n
      · subst e2
        obtain ⟨h7, hmem⟩ := hk.resolve_left e1
        unfold madeB at h
        split at h
        · cases h
        · rw [if_neg (show ¬ (itemT ts k ts[k]).op = 7 from h7), Bool.and_eq_true] at h
          have h3 := h.1
          unfold allB at h3
          have := List.all_eq_true.1 h3 (x : Int) hmem
          rw [hadAt_nat, butB_get hx] at this
          simp at this
      · simp [e1, e2]
  · intro ho _ _ m hmm
    have hmi := mentS_in hmm
    obtain ⟨q, rfl⟩ : ∃ q : Nat, m = (q : Int) := ⟨m.toNat, by omega⟩
    obtain ⟨g1, g2⟩ := hm k hk2 ho
    rw [hadAt_nat, butB_get (by omega)]
    have e1 : ¬ q = x := fun e => by subst e; exact g1 hmm
    have e2 : ¬ q = n := fun e => by subst e; exact g2 hmm
    simp [e1, e2]
theorem secret {ts : List T} (hI : TabI ts) {known : List Int} {x n : Nat} (hx : x < ts.length) (hop : ts[x].op = 1) (hn : n < ts.length) (hk : n = x ∨ (ts[n].op ≠ 7 ∧ (x : Int) ∈ ts[n].kids.map (posT ts)))
    (hm : ∀ i (h : i < ts.length), ts[i].op = 4 → (x : Int) ∉ mentS ts[i].data i ∧ (n : Int) ∉ mentS ts[i].data i) (hx' : (x : Int) ∉ known) (hn' : (n : Int) ∉ known) : ¬ Had (itemsT ts) known n := by
  refine not_had (butB ts.length x n) (by rw [itemsT_len]; simp [butB]) (but_closed hI hx hop hn hk hm) (fun k hkk h0 h1 => ?_) (by rw [butB_get hn]; simp)
  obtain ⟨q, rfl⟩ : ∃ q : Nat, k = (q : Int) := ⟨k.toNat, by omega⟩
  have hq : q < ts.length := by simp [butB] at h1; omega
  rw [hadAt_nat, butB_get hq]
  have e1 : ¬ q = x := fun e => by subst e; exact hx' hkk
  have e2 : ¬ q = n := fun e => by subst e; exact hn' hkk
  simp [e1, e2]
theorem mentS_self {n below : Int} (h : 0 ≤ n ∧ n < 281474976710656) (hb : n < below) : mentS (mentN n) below = [n] := by
  refine (mentS_is (by simp) fun x => ?_).symm
  have hl : (mentN n).length = 10 := by unfold mentN; rw [if_pos h]; simp [bytesN_len h]
  have hin := (mentS_iff (a := []) (z := []) (below := below) h).2 hb
  simp only [List.nil_append, List.append_nil] at hin
  have hm := ((mentS_facts (mentN n) below).2 n).1 hin
  rw [mentL_mem] at hm
  obtain ⟨i, h1, h2, h3⟩ := hm
  obtain rfl : i = 0 := by omega
  rw [mentL_mem, List.mem_singleton]
  constructor
  · rintro rfl; exact ⟨0, h1, h2, h3⟩
  · rintro ⟨j, k1, k2, k3⟩
    obtain rfl : j = 0 := by omega
    rw [k3, ← h3]
theorem mentS_short {d : List UInt8} {below : Int} (h : d.length < 10) : mentS d below = [] := by
  refine (mentS_is (by simp) fun x => ?_).symm
  rw [mentL_short h]
theorem getElem?_pos {ts : List T} {t : T} {n : Int} (h : n = posT ts t) (h0 : 0 ≤ n) : ∃ i : Nat, n = (i : Int) ∧ ∃ hi : i < ts.length, ts[i] = t := by
  obtain ⟨i, hi⟩ : ∃ i : Nat, n = (i : Int) := ⟨n.toNat, by omega⟩
  have := posT_is (h.symm.trans hi)
  obtain ⟨h1, h2⟩ := List.getElem?_eq_some_iff.1 this
  exact ⟨i, hi, h1, h2⟩
theorem opens {ts t1 : List T} {key s n : Int} {zs : List Int} (hI : TabI ts) (h : madeV ts (ofT 4 (mentN n)) [key] = (s, 0, t1)) (hn : 0 ≤ n ∧ n < 281474976710656) (hs : n < s) (hc : Clos (itemsT t1) [key, s] zs) : n ∈ zs := by
  obtain ⟨h1, h2, h3⟩ := made_ok h
  obtain ⟨es, hes⟩ := made_ext ts 4 (mentN n) key
  rw [h] at hes
  simp only at hes
  subst hes
  have hI1 : TabI (ts ++ es) := by have := madeV_tab (g := ofT 4 (mentN n)) (hs := [key]) hI; rwa [h] at this
  obtain ⟨i, rfl, hi, hti⟩ := getElem?_pos h2 (by omega)
  have hk1 : (termV (ts ++ es) key).2 = true := by rw [termV_old h1]; exact h1
  have hkp : posT (ts ++ es) (termV ts key).1 = key := by rw [← termV_old (es := es) h1]; exact termV_at hI1.nd hk1
  have hkr : 0 ≤ key ∧ key < ((ts ++ es).length : Int) := by
    unfold termV at hk1
    split at hk1
    · rename_i hh; exact hh
    · cases hk1
  have hlt : i < (itemsT (ts ++ es)).length := by rw [itemsT_len]; exact hi
  have hit : (itemsT (ts ++ es))[i] = ⟨4, [key], mentS (mentN n) (i : Int)⟩ := by
    rw [itemsT_get hlt hi, hti]
    simp [itemT, T.op, T.kids, T.data, hkp]
  refine hc.mem.2 ⟨hn.1, by rw [itemsT_len]; omega, ?_⟩
  refine had_open hlt (by rw [hit]) ?_ (fun z hz => ?_) (by rw [hit, mentS_self hn hs]; simp)
  · have := had_inK (its := itemsT (ts ++ es)) (known := [key, (i : Int)]) (z := (i : Int)) (by simp) (by omega) (by omega)
    simpa using this
  · rw [hit] at hz
    simp only [List.mem_singleton] at hz
    subst hz
    exact had_inK (by simp) hkr.1 (by rw [itemsT_len]; exact hkr.2)
end Go.Proofs.YtnjomdjkbbhdoaaGreatDoor
namespace Go.Proofs.YtnjomdjkbbhdoaaGreatDoor
open Go.RowKit
set_option linter.unusedVariables false
set_option linter.unusedSimpArgs false
def drawF (N : Nat) (l : List Oper) (n j : Nat) : Bool :=
  Nat.blt n l.length && Nat.blt j n && ownDst N (l.take n) && aheadB 0 l && (match l[n]? with
    | some o => waitsB l o [j] n
    | none => false) && (List.range l.length).all fun t => decide (t ≤ n) || (match l[t]? with
      | some o => memN n (depsL o.after.toList)
      | none => false)
theorem flow_soundF {P : Program} {l : List Oper} {L : TL} {S : World → Prop} [hSta : Sta S] {N : Nat} {Q : Exit → Act → World → Prop} {id : Nat} [hm : MixT P] (n j : Nat) (hB : drawF N l n j = true)
    (h : Flow P l (Go.Proofs.YtnjomdjkbbhdoaaGreatDoor.cut (l.take n) L) S N (fun K => (∀ a w, Fr N (Go.Proofs.YtnjomdjkbbhdoaaGreatDoor.cut (l.take n) L) a → S w → (∀ e ∈ K, ∃ v, a.tmps[e.d]? = some v ∧ e.p.holds w v) → wpAny P .any l.toArray Q (l.length - n) (firsts n l.length) a w) ∧
      (∀ a w, Fr N (Go.Proofs.YtnjomdjkbbhdoaaGreatDoor.cut (l.take n) L) a → S w → (∀ e ∈ K, Nat.beq e.j j = false → ∃ v, a.tmps[e.d]? = some v ∧ e.p.holds w v) → wpAny P .any l.toArray Q (l.length - n + 1) ((firsts n l.length).setIfInBounds j false) a w)) (l.take n) 0 []) :
    CW P (.region id l.toArray true) Q N L S := by
  simp only [drawF, Bool.and_eq_true] at hB
  obtain ⟨⟨⟨⟨⟨hn, hj⟩, hown⟩, hahead⟩, hwt⟩, hstar⟩ := hB
  have hjn : j < n := by have := hj; simp [Nat.blt] at this; omega
  have hn2 : n < l.length := by have := hn; simp [Nat.blt] at this; omega
  have hn' : n ≤ l.length := by omega
  obtain ⟨on, hon, hwn⟩ : ∃ o, l[n]? = some o ∧ waitsB l o [j] n = true := by
    cases hl : l[n]? with
    | none => rw [hl] at hwt; cases hwt
    | some o => rw [hl] at hwt; exact ⟨o, rfl, hwt⟩
  obtain ⟨Kf, ⟨hfin, hfin2⟩, -, hK, hcov, huni⟩ := flow_all (l.take n) 0 [] (fun j hj => by
    rw [List.length_take] at hj
    rw [List.getElem?_take_of_lt (by omega)]; simp) (fun _ he => absurd he List.not_mem_nil) h
  have hK' : ∀ e ∈ Kf, e.j < n ∧ ∃ o, l[e.j]? = some o ∧ o.dst = some e.d ∧ e.p.pers ∧ ∀ a w, Fr N (Go.Proofs.YtnjomdjkbbhdoaaGreatDoor.cut (l.take n) L) a → S w →
      (∀ e' ∈ Kf, edge o.after.toList e'.j = true → ∃ v, a.tmps[e'.d]? = some v ∧ e'.p.holds w v) → stepOK P l o a w e.p := fun e he => by
    rcases hK e he with h0 | ⟨_, h1, h2⟩
    · cases h0
    · exact ⟨by rw [List.length_take] at h1; omega, h2⟩
  have hsz : l.toArray.size = l.length := by simp
  have key : ∀ (g : Nat) (listed : Array Bool) (a : Act) (w : World), HeadInv .any l.toArray n listed → cnt listed n = g → Fr N (Go.Proofs.YtnjomdjkbbhdoaaGreatDoor.cut (l.take n) L) a → S w →
      (∀ e ∈ Kf, listed.getD e.j true = true → ∃ v, a.tmps[e.d]? = some v ∧ e.p.holds w v) → wpAny P .any l.toArray Q (g + (l.length - n)) listed a w := by
    intro g
    induction g with
    | zero =>
      intro listed a w inv hc hf hs hk
      have hall := cnt_zero hc
      have hlist : listed = firsts n l.length := by
        apply Array.ext_getElem?
        intro i
        have hs1 : listed.size = l.length := by rw [inv.size, hsz]
        unfold firsts
        rcases Nat.lt_or_ge i n with h1 | h1
        · have := hall i h1
          have hi : i < listed.size := by omega
          simp [hi] at this
          simp [hi, this, List.getElem?_append, h1]
        · rcases Nat.lt_or_ge i l.length with h2 | h2
          · have := inv.tail i h1 (by rw [hsz]; exact h2)
            have hi : i < listed.size := by omega
            simp [hi] at this
            simp [hi, this, List.getElem?_append, show ¬ i < n by omega, show i - n < l.length - n by omega]
          · rw [Array.getElem?_eq_none (by omega)]
            simp [List.getElem?_append, show ¬ i < n by omega, show ¬ i - n < l.length - n by omega]
      have hw := hfin a w hf hs (fun e he => hk e he (hall e.j (hK' e he).1))
      rw [hlist, Nat.zero_add]
      exact hw
    | succ g ih =>
      intro listed a w inv hc hf hs hk
      have hs0 : listed.size = l.length := by rw [inv.size, hsz]
      by_cases hlast : ∀ i, i < n → i ≠ j → listed.getD i true = true
      · have hjf : listed.getD j true = false := by
          obtain ⟨i0, hi0, hun0, _⟩ := cnt_pos (show 0 < cnt listed n by omega)
          by_cases e : i0 = j
          · subst e; exact hun0
          · rw [hlast i0 hi0 e] at hun0; cases hun0
        have hg0 : g = 0 := by
          have h1 := cnt_set (listed := listed) (i := j) hjf n hjn
          rcases Nat.eq_zero_or_pos g with h2 | h2
          · exact h2
          · obtain ⟨i1, hi1, hun1, _⟩ := cnt_pos (show 0 < cnt (listed.setIfInBounds j true) n by omega)
            by_cases e : i1 = j
            · subst e
              have : i1 < listed.size := by omega
              simp [this] at hun1
            · rw [getD_set_ne true (fun h => e h.symm), hlast i1 hi1 e] at hun1; cases hun1
        subst hg0
        have hlist : listed = (firsts n l.length).setIfInBounds j false := by
          apply Array.ext_getElem?
          intro i
          rw [Array.getElem?_setIfInBounds]
          unfold firsts
          by_cases e : j = i
          · subst e
            have hi : j < listed.size := by omega
            simp [hi] at hjf
            simp [hi, hjf]; omega
          · rw [if_neg e]
            rcases Nat.lt_or_ge i n with h1 | h1
            · have := hlast i h1 (fun h => e h.symm)
              have hi : i < listed.size := by omega
              simp [hi] at this
              simp [hi, this, List.getElem?_append, h1]
            · rcases Nat.lt_or_ge i l.length with h2 | h2
              · have := inv.tail i h1 (by rw [hsz]; exact h2)
                have hi : i < listed.size := by omega
                simp [hi] at this
                simp [hi, this, List.getElem?_append, show ¬ i < n by omega, show i - n < l.length - n by omega]
              · rw [Array.getElem?_eq_none (by omega)]
                simp [List.getElem?_append, show ¬ i < n by omega, show ¬ i - n < l.length - n by omega]
        have hw := hfin2 a w hf hs (fun e he hne => hk e he (hlast e.j (hK' e he).1 (Nat.ne_of_beq_eq_false hne)))
        rw [hlist, show 0 + 1 + (l.length - n) = l.length - n + 1 by omega]
        exact hw
      obtain ⟨i1, hi1n, hi1j, hi1u⟩ : ∃ i, i < n ∧ i ≠ j ∧ listed.getD i true = false := by
        apply Classical.byContradiction
        intro hno
        refine hlast fun i h1 h2 => ?_
        cases h3 : listed.getD i true with
        | true => rfl
        | false => exact (hno ⟨i, h1, h2, h3⟩).elim
      rw [show g + 1 + (l.length - n) = (g + (l.length - n)) + 1 by omega]
      obtain ⟨i0, hi0, hun0, hbelow⟩ := cnt_pos (show 0 < cnt listed n by omega)
      have hs1 : listed.size = l.length := by rw [inv.size, hsz]
      have hready : i0 ∈ Region.ready .any l.toArray listed := by
        have hlt : i0 < l.length := by omega
        refine mem_ready.2 ⟨hun0, l[i0], by simp [hlt], fun e he hb => ?_⟩
        have h1 := ahead_get hahead i0 l[i0] (by simp [hlt]) e he hb
        have h2 := hbelow e.on (by omega)
        have hlt2 : e.on < listed.size := by omega
        simp [hlt2] at h2 ⊢
        exact h2
      refine ⟨fun hnil => (by rw [hnil] at hready; cases hready), fun i hi => ?_⟩
      have hin : i < n := by
        rcases Nat.lt_or_ge i n with h1 | h1
        · exact h1
        · obtain ⟨_, oi, hoi, hdeps⟩ := mem_ready.1 hi
          have hlt : i < l.length := by have := (Array.getElem?_eq_some_iff.1 hoi).1; simpa using this
          have hoi' : l[i]? = some oi := by simpa using hoi
          rcases Nat.eq_or_lt_of_le h1 with h2 | h2
          · subst h2
            have : oi = on := Option.some.inj (hoi'.symm.trans hon)
            subst this
            have h3 := (List.all_eq_true.1 hwn) i1 (List.mem_range.2 hi1n)
            have hb1 : (i1 == j) = false := by simpa using hi1j
            rw [Bool.or_eq_true] at h3
            replace h3 := h3.resolve_left (fun h => hi1j (by have h5 := memN_mem h; simpa using h5))
            have h4 := clos_listed inv n _ (fun x hx => by
              obtain ⟨e, he, hej, heb⟩ := depsL_mem hx
              rw [← hej]; exact hdeps e (by simpa using he) heb) i1 (memN_mem h3)
            have hlt2 : i1 < listed.size := by omega
            simp [hlt2] at h4 hi1u
            rw [h4] at hi1u; cases hi1u
          · have h3 := (List.all_eq_true.1 hstar) i (List.mem_range.2 hlt)
            simp only [Bool.or_eq_true, decide_eq_true_eq] at h3
            have h4 := h3.resolve_left (by omega)
            rw [hoi'] at h4
            obtain ⟨e, he, hej, heb⟩ := depsL_mem (memN_mem h4)
            have h5 := hdeps e (by simpa using he) heb
            rw [hej] at h5
            have h6 := inv.tail n (Nat.le_refl _) (by rw [hsz]; exact hn2)
            have hlt2 : n < listed.size := by omega
            simp [hlt2] at h5 h6
            rw [h5] at h6; cases h6
      obtain ⟨huni1, oi, hoi, hdeps⟩ := mem_ready.1 hi
      have hoi' : l[i]? = some oi := by simpa using hoi
      obtain ⟨e, heK, hej⟩ := hcov i (by rw [List.length_take]; omega)
      have hej' : e.j = i := by omega
      obtain ⟨_, o, ho, hod, hpers, hstep⟩ := hK' e heK
      rw [hej'] at ho
      have : o = oi := Option.some.inj (ho.symm.trans hoi')
      subst this
      have hdn : e.d < N := by
        obtain ⟨d, hd1, hd2⟩ := ownDst_get hown i o (by rw [List.getElem?_take_of_lt hin]; exact ho)
        rw [hod] at hd1; cases hd1; exact hd2
      have hcutd : ∀ v, lk (Go.Proofs.YtnjomdjkbbhdoaaGreatDoor.cut (l.take n) L) e.d = some v → False := fun v hv => by
        have h1 := (lk_cut hv).1
        rw [anyDst_of (List.mem_of_getElem? (l := l.take n) (i := i) (by rw [List.getElem?_take_of_lt hin]; exact ho)) hod] at h1
        cases h1
      have hso := hstep a w hf hs (fun e' he' hed => by
        obtain ⟨x, hx, hxj, hxb⟩ := edge_mem hed
        have h1 := hdeps x (by simpa using hx) hxb
        rw [hxj] at h1
        have h2 : e'.j < n := (hK' e' he').1
        refine hk e' he' ?_
        have hlt2 : e'.j < listed.size := by omega
        simp [hlt2] at h1 ⊢
        exact h1)
      have next : ∀ v w', Below w.heap.size w w' → e.p.holds w' v → wpAny P .any l.toArray Q (g + (l.length - n)) (listed.setIfInBounds i true) (a.put o.dst v) w' := by
        intro v w' hb hv
        rw [hod]
        refine ih _ _ _ (inv.set hi hin) (by have := cnt_set huni1 n hin; omega) ?_ (hSta.keep w w' hs hb) ?_
        · have hp := hf.put v (d := e.d) (by simp [Nat.blt]; omega)
          exact ⟨hp.df, hp.sz, fun k u hu => hp.get k u (by
            rw [lk_cons]
            split
            · rename_i hk2; subst hk2; exact (hcutd u hu).elim
            · exact hu)⟩
        · intro x hx hxl
          by_cases hxi : x.j = i
          · have : x = e := huni x hx e heK (Nat.zero_le _) (by omega)
            subst this
            exact ⟨v, by simp [Act.put, hf.sz, hdn], hv⟩
          · rw [getD_set_ne true (fun h => hxi h.symm)] at hxl
            obtain ⟨u, hu, hxu⟩ := hk x hx hxl
            obtain ⟨hxn, ox, hox, hxd, hxp, _⟩ := hK' x hx
            have hne : e.d ≠ x.d := fun hee => by
              have := ownDst_ne hown i x.j o ox e.d (by rw [List.getElem?_take_of_lt hin]; exact ho) (by rw [List.getElem?_take_of_lt hxn]; exact hox) hod (by rw [hee]; exact hxd)
              omega
            refine ⟨u, ?_, VP.pers_keep hxp hxu hb⟩
            simp only [Act.put]
            rw [Array.getElem?_setIfInBounds_ne hne]
            exact hu
      unfold wpOp
      simp only [hoi]
      unfold stepOK at hso
      split
      · rename_i hw
        rw [if_pos hw] at hso
        exact .inl (wp_false hso (fun a' w' ⟨v, ha, hb, hv⟩ => by rw [ha]; exact next v w' hb hv))
      · rename_i hw
        rw [if_neg hw] at hso
        exact next undef w (Below.refl _ _) hso
  intro a w hf hs
  refine wp_region_any hm.ok ?_
  have hrep : ∀ j, (Array.replicate l.toArray.size false).getD j false = false := fun j => getD_replicate_false _ _
  have := key n (Array.replicate l.toArray.size false) a w.drew
    ⟨by simp, fun j oj hj hl => (by rw [hrep] at hl; cases hl), fun t ht ht' => by simp at ht'; simp [ht']⟩
    (by rw [hsz]; exact cnt_fresh _ _ hn') (fr_cut hf (lk_cut_sub L)) (hSta.keep _ _ hs (Below.drewB w)) (fun e he hl => by
      have h1 := (hK' e he).1
      simp [show e.j < l.length by omega] at hl)
  rw [show n + (l.length - n) = l.toArray.size by rw [hsz]; omega] at this
  exact this
theorem flow_nilF {P : Program} {l : List Oper} {Q : Exit → Act → World → Prop} {N n j i : Nat} {L0 : TL} {S : World → Prop} {K : List KE} (h : FinT P l Q (l.length - n) (firsts n l.length) N L0 S K) (h2 : FinT P l Q (l.length - n + 1) ((firsts n l.length).setIfInBounds j false) N L0 S (K.filter fun e => !Nat.beq e.j j)) :
    Flow P l L0 S N (fun K => (∀ a w, Fr N L0 a → S w → (∀ e ∈ K, ∃ v, a.tmps[e.d]? = some v ∧ e.p.holds w v) → wpAny P .any l.toArray Q (l.length - n) (firsts n l.length) a w) ∧
      (∀ a w, Fr N L0 a → S w → (∀ e ∈ K, Nat.beq e.j j = false → ∃ v, a.tmps[e.d]? = some v ∧ e.p.holds w v) → wpAny P .any l.toArray Q (l.length - n + 1) ((firsts n l.length).setIfInBounds j false) a w)) [] i K :=
  ⟨h, fun a w hf hs hk => h2 a w hf hs fun e he => by
    obtain ⟨h3, h4⟩ := List.mem_filter.1 he
    exact hk e h3 (by simpa using h4)⟩
end Go.Proofs.YtnjomdjkbbhdoaaGreatDoor
namespace Go.Proofs.YtnjomdjkbbhdoaaGreatDoor
open Go.RowKit
set_option linter.unusedVariables false
set_option linter.unusedSimpArgs false
set_option linter.unusedSectionVars false
def RowI (σ : Hp) (xs : List Value) (its : List Item) : Prop := xs.length = its.length * 3 ∧ ∀ i (h : i < its.length), ItemC σ ((xs.drop (i * 3)).take 3) its[i]
theorem RowI.nil (σ : Hp) : RowI σ [] [] := ⟨rfl, fun i h => by simp at h⟩
theorem RowI.le {σ τ : Hp} (hl : Le σ τ) {xs : List Value} {its : List Item} (h : RowI σ xs its) : RowI τ xs its := ⟨h.1, fun i hi => (h.2 i hi).le hl⟩
theorem ItemC.len {σ : Hp} {cs : List Value} {x : Item} (h : ItemC σ cs x) : cs.length = 3 := by
  obtain ⟨_, _, rfl, _⟩ := h; rfl
theorem RowI.snoc {σ : Hp} {xs cs : List Value} {its : List Item} {x : Item} (h : RowI σ xs its) (hc : ItemC σ cs x) : RowI σ (xs ++ cs) (its ++ [x]) := by
  have hl := h.1
  have hcl := hc.len
  refine ⟨by simp [hl, hcl, Nat.add_mul], fun i hi => ?_⟩
  rw [List.length_append, List.length_singleton] at hi
  by_cases e : i < its.length
  · rw [List.getElem_append_left e, List.drop_append_of_le_length (by omega), List.take_append_of_le_length (by rw [List.length_drop]; omega)]
    exact h.2 i e
  · obtain rfl : i = its.length := by omega
    rw [List.getElem_concat_length rfl, ← hl, List.drop_left, List.take_of_length_le (by omega)]
    exact hc
theorem RowI.one {σ : Hp} {xs : List Value} {its : List Item} (h : RowI σ xs its) : ∀ v ∈ xs, v.oneCell' = true := fun v hv => by
  obtain ⟨j, hj, rfl⟩ := List.mem_iff_getElem.1 hv
  have hl := h.1
  have hi : j / 3 < its.length := by omega
  refine (h.2 _ hi).one _ (List.mem_iff_getElem?.2 ⟨j % 3, ?_⟩)
  rw [List.getElem?_take, if_pos (Nat.mod_lt _ (by decide)), List.getElem?_drop, show j / 3 * 3 + j % 3 = j by omega]
  exact List.getElem?_eq_getElem hj
theorem freezeIt {w0 w : World} {M : Nat → Prop} {σ : Hp} {H Gs Gr : List (Nat × Obj)} {e : Nat} {v : Value} {xs : List Value} {its : List Item} (hs : St w0 M σ H (Gs ++ Gr) w) (hM : ∀ b, M b → False) (hO : OwnSl e 3 v its.length xs Gs) (hr : RowI σ xs its) :
    ∃ σ', Le σ σ' ∧ Fresh σ σ' w0 ∧ St w0 M σ' H Gr w ∧ ItemsV σ' v its := by
  obtain ⟨σ', h1, h2, h3, p, c, e4, h5, h6⟩ := freezeR hs hM hO
  refine ⟨σ', h1, h2, h3, p, c, e4, h5, h6.imp (fun h => List.eq_nil_of_length_eq_zero h) fun ⟨b, e5, h7⟩ => ⟨b, 0, e5, fun i hi => ⟨_, ?_, (hr.2 i hi).le h1⟩⟩⟩
  exact (h7.drop (i * 3)).take 3
section
variable [DS] {P : Program} {l0 : List Oper} {Q : Exit → Act → World → Prop} {rest : List Oper} {N : Nat} {L : TL} {d : Nat} {ty : TypeId} {pos : String} {af : Array Edge} {g : Option (Nat × Bool)} {op : Op} {w0 : World} {M : Nat → Prop} {σ : Hp} {H G : List (Nat × Obj)}
theorem exw_mkbools {t e : Nat} [hA : AppT P t e 1 1] [hZ : ZeroT P e (.bool false)] {x y : Operand} {n : Nat} (hx : ev L x = some (.int .i64 (n : Int))) (hy : ev L y = some (.int .i64 (n : Int))) (hn : n ≤ 1000000) :
    ExW P (.makeSlice t x y) N L (St w0 M σ H G) (fun u w => ∃ b, u = .slice (some ⟨b, 0, none⟩) n n ∧ St w0 M σ ((b, hadO e (List.replicate n false)) :: H) G w) := fun a w hf hs dd tt pp aa gg => by
  obtain ⟨h1, ⟨i, z, h2, h3, h4, h5, h6⟩, h7⟩ := hA.ok
  have hz := hZ.ok
  rw [h2] at hz
  have hz' : i.zero = some (.bool false) := by simpa using hz
  have hr := run_make (P := P) w t e i (.bool false) h1 h2 hz' .i64 .i64 (n : Int) (n : Int) (by omega) (Int.le_refl _) (by rw [h5]; omega) (by omega)
  have hc : madeCells (Value.bool false).cells ((n : Int).toNat * i.size) = (boolsV (List.replicate n false)).toArray := by
    rw [h4]
    unfold madeCells boolsV
    apply Array.ext_getElem?
    intro k
    by_cases hk : k < n
    · simp [hk, Value.cells, Nat.mod_one]
    · simp [hk]
  rw [hc] at hr
  refine ⟨.slice (some ⟨w.heap.size, 0, none⟩) n n, w.alloc (hadO e (List.replicate n false)), ?_, _, rfl, hs.alloc _⟩
  simp only [Int.toNat_natCast] at hr
  simp [execOp, hf.eval hx, hf.eval hy, hr, hadO]
theorem ow_mkbools {n : Nat} {e : Nat} (hN : Nat.blt d N = true) (hg : gd l0 L g = some true)
    (h : ExW P op N L (St w0 M σ H G) (fun u w => ∃ b, u = .slice (some ⟨b, 0, none⟩) n n ∧ St w0 M σ ((b, hadO e (List.replicate n false)) :: H) G w))
    (k : ∀ b, OW P l0 Q rest N ((d, .slice (some ⟨b, 0, none⟩) n n) :: L) (St w0 M σ ((b, hadO e (List.replicate n false)) :: H) G)) : OW P l0 Q (⟨some d, op, ty, pos, af, g⟩ :: rest) N L (St w0 M σ H G) :=
  ow_w hN hg h fun u a w hf ⟨b, hu, hs⟩ => by subst hu; exact k b a w hf hs
end
theorem set_bools {had : List Bool} {i : Nat} (hi : i < had.length) (v : Bool) : over (boolsV had).toArray i [.bool v] = (boolsV (had.set i v)).toArray := by
  unfold over boolsV
  congr 1
  apply List.ext_getElem?
  intro k
  simp only [List.length_singleton]
  rw [List.map_set, List.getElem?_set]
  by_cases h1 : k < i
  · rw [List.getElem?_append_left (by simp; omega), List.getElem?_append_left (by simp; omega), List.getElem?_take, if_pos h1, if_neg (by omega)]
  · by_cases h2 : i = k
    · subst h2
      rw [List.getElem?_append_left (by simp; omega), List.getElem?_append_right (by simp; omega)]
      have e9 : min i had.length = i := by omega
      simp [hi, e9]
    · rw [if_neg h2, List.getElem?_append_right (by simp; omega)]
      simp only [List.length_append, List.length_take, List.length_map, List.length_singleton]
      rw [Nat.min_eq_left (by omega), List.getElem?_drop, show i + 1 + (k - (i + 1)) = k by omega]
theorem exu_bool [DS] {P : Program} {N : Nat} {L : TL} {w0 : World} {M : Nat → Prop} {σ : Hp} {H G : List (Nat × Obj)} (j : Nat) {ty b e i : Nat} {x y : Operand} {v : Bool} {had : List Bool} [h : OneT P ty] (hx0 : ev L x = some (.pointer (some ⟨b, 0 + i * 1, none⟩))) (hy : ev L y = some (.bool v))
    (hH : H[j]? = some (b, hadO e had)) (hi : i < had.length) :
    ExU P (.store ty x y) N L (St w0 M σ H G) (St w0 M σ (setH H j (hadO e (had.set i v))) G) := by
  have hx : ev L x = some (.pointer (some ⟨b, i, none⟩)) := by rw [hx0, Nat.mul_one, Nat.zero_add]
  have hble : Nat.ble (i + 1) (boolsV had).toArray.size = true := Nat.ble_eq_true_of_le (show i + 1 ≤ (boolsV had).toArray.size from Nat.le_of_lt_succ (by have h9 : (boolsV had).toArray.size = had.length := (by simp [boolsV]); omega))
  have := exu_store1 (P := P) (N := N) (w0 := w0) (M := M) (σ := σ) (G := G) (ty := ty) j hx hy hH rfl rfl hble
  rw [set_bools hi] at this
  exact this
section
variable {P : Program} {l0 : List Oper} {Q : Exit → Act → World → Prop} {r : List Oper} {fin : List KE → Prop} {N i : Nat} {L0 L : TL} {K : List KE} {d : Nat} {ty : TypeId} {pos : String} {af : Array Edge} {g : Option (Nat × Bool)} {op : Op} {w0 : World} {M : Nat → Prop} {σ : Hp} {H G : List (Nat × Obj)}
def NewB (w0 : World) (σ : Hp) (X : List (Nat × Obj)) (o : Obj) (w : World) (v : Value) : Prop := ∃ b, v = .pointer (some ⟨b, 0, none⟩) ∧ w.heap[b]? = some o ∧ w0.heap.size ≤ b ∧ σ b = none ∧ ∀ p ∈ X, p.1 ≠ b
def NewR (w0 : World) (σ : Hp) (X : List (Nat × Obj)) (e n : Nat) (xs : List Value) (w : World) (v : Value) : Prop := ∃ Gs, OwnSl e 1 v n xs Gs ∧ Own Gs w ∧ ∀ p ∈ Gs, w0.heap.size ≤ p.1 ∧ σ p.1 = none ∧ ∀ q ∈ X, q.1 ≠ p.1
theorem NewB.pers {X : List (Nat × Obj)} {o : Obj} : ∀ w w' v, NewB w0 σ X o w v → Below w.heap.size w w' → NewB w0 σ X o w' v := fun w w' v ⟨b, h1, h2, h3⟩ hb =>
  ⟨b, h1, by rw [hb.block b (Array.getElem?_eq_some_iff.1 h2).1]; exact h2, h3⟩
theorem NewR.pers {X : List (Nat × Obj)} {e n : Nat} {xs : List Value} : ∀ w w' v, NewR w0 σ X e n xs w v → Below w.heap.size w w' → NewR w0 σ X e n xs w' v := fun w w' v ⟨Gs, h1, h2, h3⟩ hb =>
  ⟨Gs, h1, fun p hp => by rw [hb.block p.1 (Array.getElem?_eq_some_iff.1 (h2 p hp)).1]; exact h2 p hp, h3⟩
theorem flow_alloc {t : TypeId} {z : Value} [hz : ZeroT P t z] (hg : gd l0 (tlK af.toList L0 K) g = some true)
    (k : Flow P l0 L0 (St w0 M σ H G) N fin r (i + 1) (⟨i, d, .sat (NewB w0 σ (H ++ G) (.cells z.cells t))⟩ :: K)) : Flow P l0 L0 (St w0 M σ H G) N fin (⟨some d, .alloc t, ty, pos, af, g⟩ :: r) i K :=
  flow_sat NewB.pers (obk (ob_w hg fun a w hf hs d ty pos af g => by
    have hz' := hz.ok
    cases hi : P.info? t with
    | none => simp [hi] at hz'
    | some i =>
      have hz2 : i.zero = some z := by simpa [hi] using hz'
      refine ⟨.pointer (some ⟨w.heap.size, 0, none⟩), w.alloc (.cells z.cells t), by simp [execOp, Instr.alloc, zeroValue, typeInfo, hi, hz2, newVar, newRow], below_alloc1 _ _, w.heap.size, rfl, heap_push_new _ _, hs.ag.size, ?_, fun p hp => Nat.ne_of_lt (hs.lt hp)⟩
      cases e : σ w.heap.size with
      | none => rfl
      | some o => exact absurd (hs.im.lt e) (Nat.lt_irrefl _))) k
theorem flow_co {e n : Nat} {xs : List Value} (hg : gd l0 (tlK af.toList L0 K) g = some true) (h : ExC P op N (tlK af.toList L0 K) (St w0 M σ H G) (TO e 1 n xs))
    (k : Flow P l0 L0 (St w0 M σ H G) N fin r (i + 1) (⟨i, d, .sat (NewR w0 σ (H ++ G) e n xs)⟩ :: K)) : Flow P l0 L0 (St w0 M σ H G) N fin (⟨some d, op, ty, pos, af, g⟩ :: r) i K :=
  flow_sat NewR.pers (obk (ob_c hg h fun w v w' hs ⟨Gs, h1, h2, h3, h4⟩ => ⟨h4, Gs, h1, h2, fun p hp => ⟨Nat.le_trans hs.ag.size (h3 p hp), by
    cases e : σ p.1 with
    | none => rfl
    | some o => exact absurd (hs.im.lt e) (Nat.not_lt.2 (h3 p hp)), fun q hq => Nat.ne_of_lt (Nat.lt_of_lt_of_le (hs.lt hq) (h3 p hp))⟩⟩)) k
theorem flow_wrap (t : Nat) (F : Value → Value) {X : List (Nat × Obj)} {e n : Nat} {xs : List Value} (hq : satK af.toList K t = some (NewR w0 σ X e n xs)) (hg : ∀ u, gd l0 ((t, u) :: tlK af.toList L0 K) g = some true)
    (h : ∀ u p c, u = .slice p n c → Ex P op N ((t, u) :: tlK af.toList L0 K) (St w0 M σ H G) (F u))
    (k : Flow P l0 L0 (St w0 M σ H G) N fin r (i + 1) (⟨i, d, .sat (fun w v => ∃ u, v = F u ∧ NewR w0 σ X e n xs w u)⟩ :: K)) : Flow P l0 L0 (St w0 M σ H G) N fin (⟨some d, op, ty, pos, af, g⟩ :: r) i K :=
  flow_sat (fun w w' v ⟨u, h1, h2⟩ hb => ⟨u, h1, NewR.pers w w' u h2 hb⟩) (obk_sat t hq fun u a w hf hs => by
    have hs' := hs
    obtain ⟨_, Gs, hO, _, _⟩ := hs
    obtain ⟨p, c, hu, _⟩ := hO.slice
    exact ob_valS (S := fun w => St w0 M σ H G w ∧ NewR w0 σ X e n xs w u) (hg u) (fun a w hf hs => h u p c hu a w hf hs.1) (fun w hw => ⟨u, rfl, hw.2⟩) a w hf hs') k
theorem ow_openI {l : List Oper} {e n et : Nat} {xs : List Value} {zc : Array Value} {F : Value → Value} {v7 v34 : Value} (hne : Nat.beq e et = false)
    (k : ∀ Gs b u, OwnSl e 1 u n xs Gs → v34 = F u → v7 = .pointer (some ⟨b, 0, none⟩) → OW P l0 Q l N L (St w0 M σ ((b, .cells zc et) :: H) (Gs ++ G))) :
    OW P l0 Q l N L (fun w => (St w0 M σ H G w ∧ NewB w0 σ (H ++ G) (.cells zc et) w v7) ∧ ∃ u, v34 = F u ∧ NewR w0 σ (H ++ G) e n xs w u) := fun a w hf hs => by
  obtain ⟨⟨hs, b, h1, h2, h3, h4, h5⟩, u, h6, Gs, hO, ho, hx⟩ := hs
  refine k Gs b u hO h6 h1 a w hf ⟨hs.ag, hs.im, fun p hp => ?_, fun p hp => ?_, fun p hp => ?_, ?_⟩
  · rcases List.mem_append.1 hp with hp | hp
    · rcases List.mem_cons.1 hp with rfl | hp
      · exact h2
      · exact hs.own hp
    · rcases List.mem_append.1 hp with hp | hp
      · exact ho p hp
      · exact hs.ownG hp
  · rcases List.mem_append.1 hp with hp | hp
    · rcases List.mem_cons.1 hp with rfl | hp
      · exact h4
      · exact hs.fresh (by simp [hp])
    · rcases List.mem_append.1 hp with hp | hp
      · exact (hx p hp).2.1
      · exact hs.fresh (by simp [hp])
  · rcases List.mem_append.1 hp with hp | hp
    · rcases List.mem_cons.1 hp with rfl | hp
      · exact .inr h3
      · exact St0.mo hs p (by simp [hp])
    · rcases List.mem_append.1 hp with hp | hp
      · exact .inr (hx p hp).1
      · exact St0.mo hs p (by simp [hp])
  · have hnd := St0.nd hs
    rw [List.map_append, List.nodup_append] at hnd
    obtain ⟨n1, n2, n3⟩ := hnd
    have hbG : ∀ p ∈ Gs, p.1 ≠ b := fun p hp hpb => by
      have h8 := ho p hp
      rw [hpb, h2] at h8
      rcases hO.2 with ⟨_, _, rfl⟩ | ⟨g, c, cur, _, rfl, _⟩
      · cases hp
      · simp only [List.mem_singleton] at hp
        subst hp
        simp at h8
        rw [h8.2] at hne
        simp at hne
    rw [List.cons_append, List.map_cons, List.nodup_cons, List.map_append, List.map_append, List.nodup_append]
    refine ⟨fun hm => ?_, n1, ?_, fun x hx1 y hy => ?_⟩
    · rw [← List.map_append, ← List.map_append] at hm
      obtain ⟨p, hp, hpb⟩ := List.mem_map.1 hm
      rcases List.mem_append.1 hp with hp | hp
      · exact h5 p (by simp [hp]) hpb
      · rcases List.mem_append.1 hp with hp | hp
        · exact hbG p hp hpb
        · exact h5 p (by simp [hp]) hpb
    · rw [List.nodup_append]
      refine ⟨hO.nd, n2, fun x hx1 y hy => ?_⟩
      obtain ⟨p, hp, rfl⟩ := List.mem_map.1 hx1
      obtain ⟨q, hq, rfl⟩ := List.mem_map.1 hy
      exact fun e9 => (hx p hp).2.2 q (by simp [hq]) e9.symm
    · rcases List.mem_append.1 hy with hy | hy
      · obtain ⟨p, hp, rfl⟩ := List.mem_map.1 hy
        obtain ⟨q, hq, rfl⟩ := List.mem_map.1 hx1
        exact (hx p hp).2.2 q (by simp [hq])
      · exact n3 x hx1 y hy
def RepRowC (cs : List Value) (σ : Hp) (v : Value) : Prop := ∃ b, v = .slice (some ⟨b, 0, none⟩) 1 1 ∧ CellsAt σ b 0 cs
instance (cs : List Value) : MonoR (RepRowC cs) := ⟨fun hl ⟨b, e, h⟩ => ⟨b, e, h.le hl⟩⟩
theorem ob_cells {t e k bytes : Nat} [h : AppT P t e k bytes] {x : Operand} {cs : List Value} (hg : gd l0 L g = some true) (hx : ev L x = some (.agg cs.toArray)) (hc : cs.length = k) :
    Ob P l0 ⟨some d, .buildSlice t 1 #[(0, x)], ty, pos, af, g⟩ N L (St w0 M σ H G) (.sat (QR (RepRowC cs) σ w0 (H ++ G))) := ob_w hg fun a w hf hs d ty pos af g => by
  have hrun := run_slit1 (P := P) (t := t) (w := w) hf hx (v := .agg cs.toArray) (by simp [Value.cells, hc]) d ty pos af g
  have hs' : St w0 M σ ((w.heap.size, .cells cs.toArray e (0, 0)) :: H) G (w.alloc (.cells cs.toArray e)) := hs.alloc _
  have hle : Le σ (ext σ w.heap.size (.cells cs.toArray e (0, 0))) := le_ext (hs'.fresh (p := (w.heap.size, .cells cs.toArray e (0, 0))) (by simp))
  refine ⟨_, _, hrun, below_alloc1 _ _, ext σ w.heap.size (.cells cs.toArray e), hle, fun k o hk => ?_, hs'.freeze.im, ⟨w.heap.size, rfl, ⟨cs.toArray, e, (0, 0), ext_self _ _ _, fun j v hj => by simpa using hj⟩⟩, fun p hp => hs'.freeze.fresh hp⟩
  unfold ext at hk
  split at hk
  · rename_i hkb; subst hkb; exact .inr hs.ag.size
  · exact .inl hk
end
theorem SeenV.le {σ τ : Hp} {b c m : Nat} {ts : List T} {p : Option Addr} (hl : Le σ τ) (h : SeenV σ b ts p c m) : SeenV τ b ts p c m := ⟨h.c0.le hl, h.c1.le hl, hl _ _ h.mp, h.cap, h.few, h.tab⟩
theorem noK : ∀ b, keysOf [] b → False := fun b ⟨p, hp, _⟩ => by cases hp
section
variable [DS] {P : Program} {l0 : List Oper} {Q : Exit → Act → World → Prop} {l rest : List Oper} {N : Nat} {L : TL} {d : Nat} {ty : TypeId} {pos : String}
  {af : Array Edge} {g : Option (Nat × Bool)} {op : Op} {w0 : World} {M : Nat → Prop} {σ σK : Hp} {H G Gs Gr : List (Nat × Obj)} {Rep : Hp → Value → Prop}
theorem ow_crsF (hN : Nat.blt d N = true) (hg : gd l0 L g = some true) (hle : Le σ σK) (h : ExC P op N L (St w0 M σK H G) (TR Rep σ))
    (k : ∀ u σ' σK', Le σ σ' → Fresh σ σ' w0 → Rep σ' u → Le σK σK' → Fresh σK σK' w0 → Le σ' σK' → OW P l0 Q rest N ((d, u) :: L) (St w0 M σK' H G)) : OW P l0 Q (⟨some d, op, ty, pos, af, g⟩ :: rest) N L (St w0 M σK H G) :=
  ow_c hN hg h fun u a w' hf ⟨w, hs, σ', h1, h2, h3, h4, h5⟩ => by
    have hk := hs.keep h5
    refine k u σ' (join σK σ') h1 (h2.mono hs.ag.size) h4 (le_join _ _) (fun b o e => ?_) (le_join' hk.im h3) a w' hf (hk.le (hk.im.join h3) fun p hp => ?_)
    · unfold join at e
      cases he : σK b with
      | some o' => rw [he] at e; simp at e; subst e; exact .inl rfl
      | none =>
        rw [he] at e
        rcases h2 b o (by simpa using e) with h6 | h6
        · rw [hle b o h6] at he; cases he
        · exact .inr (Nat.le_trans hs.ag.size h6)
    · unfold join
      rw [hk.fresh hp]
      cases e : σ' p.1 with
      | none => rfl
      | some o =>
        rcases h2 p.1 o e with h6 | h6
        · have := hle p.1 o h6
          rw [hs.fresh hp] at this; cases this
        · exact absurd (hs.lt hp) (Nat.not_lt.2 h6)
theorem ow_frzIg {e n : Nat} {v : Value} {zs : List Int} (hM : ∀ b, M b → False) (hO : OwnSl e 1 v n (intsV zs) Gs) (k : ∀ σ', Le σ σ' → Fresh σ σ' w0 → IntsV σ' v zs → OW P l0 Q l N L (St w0 M σ' H Gr)) : OW P l0 Q l N L (St w0 M σ H (Gs ++ Gr)) := fun a w hf hs => by
  obtain ⟨σ', h1, h2, h3, h4⟩ := freezeI hs hM hO
  exact k σ' h1 h2 h4 a w hf h3
theorem cw_frzIg {c : Code} {e n : Nat} {v : Value} {zs : List Int} (hM : ∀ b, M b → False) (hO : OwnSl e 1 v n (intsV zs) Gs) (k : ∀ σ', Le σ σ' → Fresh σ σ' w0 → IntsV σ' v zs → CW P c Q N L (St w0 M σ' H Gr)) : CW P c Q N L (St w0 M σ H (Gs ++ Gr)) := fun a w hf hs => by
  obtain ⟨σ', h1, h2, h3, h4⟩ := freezeI hs hM hO
  exact k σ' h1 h2 h4 a w hf h3
end
def markD (D : Nat) : Deferred := { target := .collected D, args := #[] }
def marks (Ds : List Nat) : List (Nat × Obj) := Ds.map fun D => (D, .deferred (some []))
theorem enterM {P : Program} {f : FuncId} {fn : Func} {c : Code} {vs : List Value} {w : World} {R : Ending → World → Prop} {N : Nat} (S : World → Prop) (hf : P.funcs[f]? = some fn) (hb : fn.body = some c)
    (hn : fn.ntmps = N) (hle : Nat.ble vs.length N = true) (hS : S w) (h : CW P c (bodyPostM Fence.wide 10 P fn R) N (argL 0 vs) S) : Calls P f vs.toArray w R := by
  refine callsIn_wide.1 (callsIn_of_wp_marks (n := 10) hf hb trivial (wpIn_wide.2 (h _ w ⟨rfl, ?_, fun i v hv => ?_⟩ hS)))
  · have : vs.length ≤ N := Nat.le_of_ble_eq_true hle
    simp [hn]; omega
  · obtain ⟨_, h2⟩ := lk_argL vs 0 i v hv
    have hi : i < vs.length := by have := (List.getElem?_eq_some_iff.1 h2).1; omega
    simp at h2
    have h3 := (List.getElem?_eq_some_iff.1 h2).2
    simp [Array.getElem?_append, hi, h3]
theorem leaves {P : Program} {fn : Func} {tmps : Array Value} {R : Ending → World → Prop} {n : Nat} {w0 : World} {M : Nat → Prop} {σ : Hp} {H : List (Nat × Obj)} (he : ∀ w, St w0 M σ H [] w → LeavesInM Fence.wide n P fn tmps R [] .returning w) :
    ∀ (Ds : List Nat) {w : World}, St w0 M σ H (marks Ds) w → LeavesInM Fence.wide n P fn tmps R (Ds.map markD) .returning w
  | [], w, h => he w h
  | D :: Ds, w, h => by
    have hD : w.heap[D]? = some (.deferred (some [])) := h.ownG (p := (D, .deferred (some []))) (by simp [marks])
    have h2 := (h.putG (i := 0) (b := D) (o' := .deferred (some [])) rfl (.deferred none)).dropG (G' := marks Ds) (List.sublist_cons_self _ _)
    exact ⟨by simp, .inl ⟨D, _, rfl, run_takeDeferred hD, leaves he Ds h2⟩⟩
theorem qw_retM1 [hd : DS] {P : Program} {fn : Func} {R : Ending → World → Prop} {N n : Nat} {L : TL} {w0 : World} {M : Nat → Prop} {σ : Hp} {H : List (Nat × Obj)} {Ds : List Nat} {t : Nat} {v : Value} (hds : hd.ds = Ds.map markD) (hr : fn.results = #[.tmp t]) (hl : lk L t = some v)
    (h : ∀ w, St w0 M σ H [] w → R (.returned v) w) : QW (bodyPostM Fence.wide n P fn R) .ret N L (St w0 M σ H (marks Ds)) := fun a w hf hs => by
  show LeavesInM Fence.wide n P fn a.tmps R a.defers .returning w
  rw [hf.df, hds]
  refine leaves (fun w' hs' => ?_) Ds hs
  refine ⟨v, ?_, h w' hs'⟩
  have hg : a.tmps[t]?.getD undef = v := by rw [hf.get t v hl]; rfl
  simp [results, hr, hg]
theorem St.grown {w0 W W' : World} {M : Nat → Prop} {τ : Hp} {H G : List (Nat × Obj)} {B : Nat} {row : Option Nat} (h : St w0 M τ H G W) (hg : W.grownBy W' row) (hr : ∀ r, row = some r → B ≤ r) (hτ : ∀ b o, τ b = some o → b < B) (hH : ∀ p ∈ H ++ G, p.1 < B) (h0 : w0.heap.size ≤ B) : St w0 M τ H G W' := by
  have key : ∀ k, k < W.heap.size → k < B → W'.heap[k]? = W.heap[k]? := fun k h1 h2 => hg.block k h1 (fun e => by have := hr k e.symm; omega)
  refine ⟨⟨hg.os.trans h.ag.os, hg.tape.trans h.ag.tape, hg.output.trans h.ag.output, Nat.le_trans h.ag.size hg.size, fun k hk hM => ?_⟩, fun b o e => ?_, fun p hp => ?_, St0.dj h, St0.mo h, St0.nd h⟩
  · rw [key k (Nat.lt_of_lt_of_le hk h.ag.size) (by omega)]; exact h.ag.block k hk hM
  · rw [key b (h.im.lt e) (hτ b o e)]; exact h.im b o e
  · rw [key p.1 (h.lt hp) (hH p hp)]; exact St0.ow h p hp
theorem FnT.enters {P : Program} {f : FuncId} [h : FnT P f] (args : Array Value) (w : World) : (callFunc f args).run P w = .ok (.enter f args) w := by
  obtain ⟨fn, h1, h2, h3⟩ := h.ok
  have h2' : ¬ fn.name = "runtime.NumGoroutine" := by simpa using h2
  have h3' : ¬ fn.body = none := fun e0 => by rw [e0] at h3; cases h3
  simp [callFunc, h1, h2', h3']
end Go.Proofs.YtnjomdjkbbhdoaaGreatDoor
namespace Go.Proofs.YtnjomdjkbbhdoaaGreatDoor
open Go.RowKit
set_option linter.unusedVariables false
set_option linter.unusedSimpArgs false
set_option maxRecDepth 100000
set_option maxHeartbeats 400000 in
theorem pMentionsO {d : List UInt8} {below : Int} {v : Value} {σ : Hp} {w : World} (hi : Imm σ w) (hd : BytesV σ v d) (hmx : d.length ≤ 17592186044415) : Calls Tryz.prog 50 #[v, .int .i64 below] w (GiveO 3 1 (mentS d below).length (intsV (mentS d below)) w) := by
  obtain ⟨p0, c0, rfl, hc0, _⟩ := hd.slice
  refine enter (St w (fun _ => False) σ [] []) Tryz.func50 rfl Tryz.ntmps50 rfl (St.start hi) ?_
  refine cw_seq ?_
  refine cw_region ?_
  refine ow_val rfl rfl (ex_assign rfl) ?_
  refine ow_nil ?_
  refine qw_seq ?_
  refine cw_seq ?_
  refine cw_region ?_
  refine ow_val rfl rfl (ex_assign rfl) ?_
  refine ow_nil ?_
  refine qw_seq ?_
  refine cw_seq ?_
  refine cw_block ?_
  refine cw_loop6 (fun (d' : List UInt8) (p : Option Addr) (c : Nat) (zs : List Int) (v5 : Value) (Gs : List (Nat × Obj)) => [(0, .slice p d'.length c), (1, .int .i64 below), (5, v5)]) (fun d' p c zs v5 Gs => BytesV σ (.slice p d'.length c) d' ∧ d'.length ≤ c ∧ OwnSl 3 1 v5 zs.length (intsV zs) Gs ∧ zs ++ mentL d' below = mentL d below) (fun d' p c zs v5 Gs => σ) (fun d' p c zs v5 Gs => Gs) (fun d' _ _ _ _ _ => d'.length) d p0 c0 [] (.slice none 0 0) [] (subL_cons (lkv rfl (by first | rfl | simp)) (subL_cons (lkv rfl (by first | rfl | simp)) (subL_cons (lkv rfl (by first | rfl | simp)) (subL_nil _)))) ⟨hd, hc0, OwnSl.nil _ _, rfl⟩ (fun w h => by simpa using h) ?_
  intro d' p c zs v5 Gs ⟨hdb, hcc, hO, heq⟩
  refine cw_seq ?_
  refine cw_seq ?_
  refine cw_region ?_
  refine ow_val rfl rfl (ex_move rfl) ?_
  refine ow_val rfl rfl (ex_len (ty := 0) rfl) ?_
  refine ow_val rfl rfl (ex_geq rfl rfl) ?_
  refine ow_nil ?_
  refine qw_seq ?_
  refine cw_cond rfl (fun c10 => ?_) (fun c10 => ?_)
  ·
    have h10 : 10 ≤ d'.length := by have := of_decide_eq_true c10; omega
    obtain ⟨bq, oq, rfl, hcq⟩ := hdb.ptr (by omega)
    have hlz : zs.length + (mentL d' below).length ≤ d.length := by rw [← List.length_append, heq]; exact mentL_len _ _
    refine cw_skip ?_
    refine qw_seq ?_
    refine cw_block ?_
    refine cw_seq ?_
    refine cw_seq ?_
    refine cw_region ?_
    refine ow_val rfl rfl (ex_move rfl) ?_
    refine ow_val rfl rfl (ex_slice (i := 2) (j := 10) rfl rfl rfl (by decide) (by omega)) ?_
    refine ow_cv rfl rfl (ex_callf rfl (fun w h => callB ((pNumber h.im (hdb.mid (i := 2) (j := 10) (by decide) (by omega)))))) ?_
    refine ow_val rfl rfl (ex_move rfl) ?_
    refine ow_val rfl rfl (ex_extract rfl rfl) ?_
    refine ow_val rfl rfl (ex_extract rfl rfl) ?_
    refine ow_val rfl rfl (ex_assign rfl) ?_
    refine ow_val rfl rfl (ex_assign rfl) ?_
    refine ow_nil ?_
    refine qw_seq ?_
    refine cw_seq ?_
    refine cw_region ?_
    refine ow_val rfl rfl (ex_move rfl) ?_
    refine ow_val rfl rfl (ex_move rfl) ?_
    refine ow_split (g := some (1, true)) rfl (fun s18 => ?_) (fun s18 => ?_)
    ·
      refine ow_val rfl (gd_go rfl s18) (ex_move rfl) ?_
      refine ow_val rfl (gd_go rfl s18) (ex_move rfl) ?_
      refine ow_val rfl (gd_go rfl s18) (ex_lss rfl rfl) ?_
      refine ow_val rfl rfl (ex_pickt rfl s18 rfl) ?_
      refine ow_val rfl rfl (ex_move rfl) ?_
      refine ow_split (g := some (6, true)) rfl (fun s23 => ?_) (fun s23 => ?_)
      ·
        refine ow_val rfl (gd_go rfl s23) (ex_move rfl) ?_
        refine ow_val rfl (gd_go rfl s23) (ex_slice_hi (j := 2) rfl rfl (by omega)) ?_
        refine ow_val rfl (gd_go rfl s23) (ex_tostr rfl (hdb.hi (j := 2) (by omega)) (fun w h => h.im)) ?_
        refine ow_val rfl (gd_go rfl s23) (ex_streql (b := [4, 8]) rfl rfl) ?_
        refine ow_val rfl rfl (ex_pickt rfl s23 rfl) ?_
        refine ow_nil ?_
        refine qw_seq ?_
        refine cw_cond rfl (fun c28 => ?_) (fun c28 => ?_)
        ·
          have hh : hitB d' below = true := by unfold hitB; rw [show (numB ((d'.drop 2).take 8)).2 = true from s18, show decide ((numB ((d'.drop 2).take 8)).1 < below) = true from s23, show (d'.take 2 == [4, 8]) = true from c28]; rfl
          have hmh := mentL_hit h10 hh
          rw [hmh] at hlz
          simp only [List.length_cons] at hlz
          refine cw_region ?_
          refine ow_val rfl rfl (ex_move rfl) ?_
          refine ow_val rfl rfl (ex_move rfl) ?_
          refine ow_slit rfl rfl (exw_slit1 rfl rfl) ?_; intro b31
          refine ow_app1 rfl rfl (exw_append1 (news := [.int .i64 (numB ((d'.drop 2).take 8)).1]) rfl rfl hO rfl (.inr ⟨_, _, rfl, (ld_ownN (k := 1) 0 rfl rfl).2⟩) (fun u hu => by simp at hu; subst hu; rfl) (by unfold maxLen; omega) (by omega)) (fun v32 G32 hO32 hz32 => ?_)
          refine ow_val rfl rfl (ex_assign rfl) ?_
          refine ow_nil ?_
          refine qw_seq ?_
          refine cw_region ?_
          refine ow_val rfl rfl (ex_move rfl) ?_
          refine ow_val rfl rfl (ex_slice_lo (i := 1) rfl rfl (by omega) (by omega)) ?_
          refine ow_val rfl rfl (ex_assign rfl) ?_
          refine ow_nil ?_
          refine qw_block_normal ?_
          exact qw_round6 (d'.drop 1) (if c = 1 then some ⟨bq, oq, none⟩ else (some ⟨bq, oq, none⟩ : Option Addr).map (·.add (1 * 1))) (c - 1) (zs ++ [(numB ((d'.drop 2).take 8)).1]) v32 G32 (by rw [List.length_drop]; omega) (subL_cons (lkv rfl (by first | rfl | simp)) (subL_cons (lkv rfl (by first | rfl | simp)) (subL_cons (lkv rfl (by first | rfl | simp)) (subL_nil _)))) ⟨by rw [List.length_drop]; exact hdb.lo (by omega), by rw [List.length_drop]; omega, by rw [intsV_app, List.length_append]; exact hO32, by rw [List.append_assoc, ← heq, hmh]; rfl⟩ (fun w h => h.drop (List.sublist_cons_self _ _))
        ·
          have hm : hitB d' below = false := by unfold hitB; rw [show (d'.take 2 == [4, 8]) = false from c28]; simp
          refine cw_skip ?_
          refine qw_seq ?_
          refine cw_region ?_
          refine ow_val rfl rfl (ex_move rfl) ?_
          refine ow_val rfl rfl (ex_slice_lo (i := 1) rfl rfl (by omega) (by omega)) ?_
          refine ow_val rfl rfl (ex_assign rfl) ?_
          refine ow_nil ?_
          refine qw_block_normal ?_
          exact qw_round6 (d'.drop 1) (if c = 1 then some ⟨bq, oq, none⟩ else (some ⟨bq, oq, none⟩ : Option Addr).map (·.add (1 * 1))) (c - 1) zs v5 Gs (by rw [List.length_drop]; omega) (subL_cons (lkv rfl (by first | rfl | simp)) (subL_cons (lkv rfl (by first | rfl | simp)) (subL_cons (lkv rfl (by first | rfl | simp)) (subL_nil _)))) ⟨by rw [List.length_drop]; exact hdb.lo (by omega), by rw [List.length_drop]; omega, hO, by rw [← heq, mentL_miss hm]⟩ (fun w h => h)
      ·
        have hm : hitB d' below = false := by unfold hitB; rw [show decide ((numB ((d'.drop 2).take 8)).1 < below) = false from s23]; simp
        refine ow_skip rfl (gd_no rfl s23) ?_
        refine ow_skip rfl (gd_no rfl s23) ?_
        refine ow_skip rfl (gd_no rfl s23) ?_
        refine ow_skip rfl (gd_no rfl s23) ?_
        refine ow_val rfl rfl (ex_pickf rfl s23 rfl) ?_
        refine ow_nil ?_
        refine qw_seq ?_
        refine cw_cond_f rfl ?_
        refine cw_skip ?_
        refine qw_seq ?_
        refine cw_region ?_
        refine ow_val rfl rfl (ex_move rfl) ?_
        refine ow_val rfl rfl (ex_slice_lo (i := 1) rfl rfl (by omega) (by omega)) ?_
        refine ow_val rfl rfl (ex_assign rfl) ?_
        refine ow_nil ?_
        refine qw_block_normal ?_
        exact qw_round6 (d'.drop 1) (if c = 1 then some ⟨bq, oq, none⟩ else (some ⟨bq, oq, none⟩ : Option Addr).map (·.add (1 * 1))) (c - 1) zs v5 Gs (by rw [List.length_drop]; omega) (subL_cons (lkv rfl (by first | rfl | simp)) (subL_cons (lkv rfl (by first | rfl | simp)) (subL_cons (lkv rfl (by first | rfl | simp)) (subL_nil _)))) ⟨by rw [List.length_drop]; exact hdb.lo (by omega), by rw [List.length_drop]; omega, hO, by rw [← heq, mentL_miss hm]⟩ (fun w h => h)
    ·
      have hm : hitB d' below = false := by unfold hitB; rw [show (numB ((d'.drop 2).take 8)).2 = false from s18]; rfl
      refine ow_skip rfl (gd_no rfl s18) ?_
      refine ow_skip rfl (gd_no rfl s18) ?_
      refine ow_skip rfl (gd_no rfl s18) ?_
      refine ow_val rfl rfl (ex_pickf rfl s18 rfl) ?_
      refine ow_val rfl rfl (ex_move rfl) ?_
      refine ow_skip rfl rfl ?_
      refine ow_skip rfl rfl ?_
      refine ow_skip rfl rfl ?_
      refine ow_skip rfl rfl ?_
      refine ow_val rfl rfl (ex_pick_f rfl rfl) ?_
      refine ow_nil ?_
      refine qw_seq ?_
      refine cw_cond_f rfl ?_
      refine cw_skip ?_
      refine qw_seq ?_
      refine cw_region ?_
      refine ow_val rfl rfl (ex_move rfl) ?_
      refine ow_val rfl rfl (ex_slice_lo (i := 1) rfl rfl (by omega) (by omega)) ?_
      refine ow_val rfl rfl (ex_assign rfl) ?_
      refine ow_nil ?_
      refine qw_block_normal ?_
      exact qw_round6 (d'.drop 1) (if c = 1 then some ⟨bq, oq, none⟩ else (some ⟨bq, oq, none⟩ : Option Addr).map (·.add (1 * 1))) (c - 1) zs v5 Gs (by rw [List.length_drop]; omega) (subL_cons (lkv rfl (by first | rfl | simp)) (subL_cons (lkv rfl (by first | rfl | simp)) (subL_cons (lkv rfl (by first | rfl | simp)) (subL_nil _)))) ⟨by rw [List.length_drop]; exact hdb.lo (by omega), by rw [List.length_drop]; omega, hO, by rw [← heq, mentL_miss hm]⟩ (fun w h => h)
  ·
    have h10 : d'.length < 10 := by have := of_decide_eq_false c10; omega
    rw [mentL_short h10, List.append_nil] at heq
    subst heq
    have hlz := mentL_len d below
    refine cw_exit ?_
    refine qw_then_exit ?_
    refine qw_then_exit ?_
    refine qw_block_exit ?_
    refine qw_seq ?_
    refine cw_seq ?_
    refine cw_region ?_
    refine ow_val rfl rfl (ex_move rfl) ?_
    refine ow_cg1 rfl rfl (ex_callf rfl (fun w h => pSortI1 (by omega) hO h)) (fun v36 G36 hr36 => ?_)
    obtain ⟨rfl, hO36⟩ := hr36
    refine ow_nil ?_
    refine qw_seq ?_
    refine cw_seq ?_
    refine cw_region ?_
    refine ow_val rfl rfl (ex_move rfl) ?_
    refine ow_cg1 rfl rfl (ex_callf rfl (fun w h => pCompI1 hO36 h)) (fun v38 G38 hO38 => ?_)
    refine ow_val rfl rfl (ex_assign rfl) ?_
    refine ow_nil ?_
    refine qw_seq ?_
    refine cw_ret ?_
    refine qw_ret1 rfl rfl (fun w' h => ?_)
    exact h.givesO hO38
end Go.Proofs.YtnjomdjkbbhdoaaGreatDoor
namespace Go.Proofs.YtnjomdjkbbhdoaaGreatDoor
set_option linter.unusedVariables false
set_option linter.unusedSimpArgs false
theorem TabI.kidsIn {ts : List T} (hI : TabI ts) : ∀ y ∈ ts, ∀ k ∈ y.kids, k ∈ ts := fun y hy k hk => by
  obtain ⟨i, hi, rfl⟩ := List.mem_iff_getElem.1 hy
  obtain ⟨j, _, h2⟩ := hI.lo i hi k hk
  exact List.mem_of_getElem? h2
theorem shape_op {o n : Int} {d : List UInt8} {ks : List T} (h : shape o n d ks = true) : 1 ≤ o ∧ o ≤ 7 ∧ (o = 1 ∨ o = 5 → ks.length = 0) ∧ (o ≠ 1 → o ≠ 5 → o ≠ 7 → ks.length = 1) := by
  unfold shape at h
  simp only [Bool.and_eq_true, decide_eq_true_eq] at h
  obtain ⟨⟨h1, h2⟩, h3⟩ := h
  refine ⟨h2.1, h2.2, fun h => ?_, fun a b c => ?_⟩
  · rw [if_pos h] at h3; simpa using h3
  · rw [if_neg (by omega), if_neg c] at h3; simpa using h3
end Go.Proofs.YtnjomdjkbbhdoaaGreatDoor
namespace Go.Proofs.YtnjomdjkbbhdoaaGreatDoor
open Go.RowKit
set_option linter.unusedVariables false
set_option linter.unusedSimpArgs false
set_option maxRecDepth 100000
instance : ZeroT Tryz.prog 4 (.bool false) := ⟨by kernel_rfl⟩
set_option maxHeartbeats 2000000 in
theorem pLoad {b : Nat} {ts : List T} {σ : Hp} {K : List (Nat × Obj)} {w : World} (hi : Has σ K w) (htab : TabC Tryz.prog σ) (hv : VaultK 80 32 b ts σ K) : Calls Tryz.prog 54 #[.pointer (some ⟨b, 0, none⟩)] w (GiveK (fun σ' u K' => ∃ (be hb : Nat) (iv : Value) (ch : Nat), u = .pointer (some ⟨be, 0, none⟩) ∧ K' = [(hb, hadO 4 (List.replicate ts.length false))] ∧ CellsAt σ' be 0 [iv, .slice (some ⟨hb, 0, none⟩) ts.length ch] ∧ ItemsV σ' iv (itemsT ts)) (exts σ K) [] w) := by
  obtain ⟨pv, cv, mvv, hs⟩ := hv.seenX hi
  have hfew := hs.few
  have hI := hs.tab
  have hle0 := hi.le
  have him := hi.exts
  have hof := @Has.of_im σ
  obtain ⟨σK, hσK⟩ : ∃ σK, exts σ K = σK := ⟨_, rfl⟩
  rw [hσK] at hs hle0 him ⊢
  refine enter (St w (keysOf []) σK [] []) Tryz.func54 rfl Tryz.ntmps54 rfl (Has.start (Has.nil him)) ?_
  refine cw_seq ?_
  refine cw_region ?_
  refine ow_val rfl rfl (ex_assign rfl) ?_
  refine ow_nil ?_
  refine qw_seq ?_
  refine cw_seq ?_
  refine cw_region ?_
  refine ow_val rfl rfl (ex_move rfl) ?_
  refine ow_cv rfl rfl (ex_callf rfl (fun w h => callB ((pLenK (hi.of_im h.im (by rw [hσK]; exact Le.refl _)) hv)))) ?_
  refine ow_mkbools rfl rfl (exw_mkbools rfl rfl (by omega)) ?_; intro hb
  refine ow_val rfl rfl (ex_build (parts := [(1, _)]) (cells := #[.slice none 0 0, .slice (some ⟨hb, 0, none⟩) ts.length ts.length]) rfl (by kernel_rfl)) ?_
  refine ow_blk rfl rfl (exw_box rfl) ?_; intro b16
  refine ow_val rfl rfl (ex_assign rfl) ?_
  refine ow_nil ?_
  refine qw_seq ?_
  refine cw_seq ?_
  refine cw_seq ?_
  refine cw_region ?_
  refine ow_val rfl rfl (ex_move rfl) ?_
  refine ow_cv rfl rfl (ex_callf rfl (fun w h => callB ((pLenK (hi.of_im h.im (by rw [hσK]; exact Le.refl _)) hv)))) ?_
  refine ow_val rfl rfl (ex_move rfl) ?_
  refine ow_nil ?_
  refine qw_seq ?_
  refine cw_block ?_
  refine cw_loopH5 (fun (i : Nat) (v : Value) (xs : List Value) (Gs : List (Nat × Obj)) (τ : Hp) => [(0, .pointer (some ⟨b, 0, none⟩)), (3, .pointer (some ⟨b16, 0, none⟩)), (18, .int .i64 (ts.length : Int)), (19, .int .i64 (i : Int))]) (fun i v xs Gs τ => i ≤ ts.length ∧ Le σK τ ∧ Fresh σK τ w ∧ OwnSl 117 3 v i xs Gs ∧ RowI τ xs (itemsTo ts i)) (fun i v xs Gs τ => τ) (fun i v xs Gs τ => [(b16, .cells #[v, .slice (some ⟨hb, 0, none⟩) ts.length ts.length] 89), (hb, hadO 4 (List.replicate ts.length false))]) (fun i v xs Gs τ => Gs) (fun i _ _ _ _ => ts.length - i) 0 (.slice none 0 0) [] [] σK (subL_cons (lkv rfl (by first | rfl | simp)) (subL_cons (lkv rfl (by first | rfl | simp)) (subL_cons (lkv rfl (by first | rfl | simp)) (subL_cons (lkv rfl (by first | rfl | simp)) (subL_nil _))))) ⟨Nat.zero_le _, Le.refl _, Fresh.refl _ _, OwnSl.nil _ _, RowI.nil _⟩ (fun w h => h) ?_
  intro i v xs Gs τ ⟨hlei, hlj, hfj, hO, hrow⟩
  have hilen := itemsTo_len (ts := ts) (i := i) hlei
  refine cw_seq ?_
  refine cw_region ?_
  refine ow_val rfl rfl (ex_lss rfl rfl) ?_
  refine ow_nil ?_
  refine qw_seq ?_
  refine cw_seq ?_
  refine cw_cond rfl (fun c20 => ?_) (fun c20 => ?_)
  ·
    have hil : i < ts.length := by have := of_decide_eq_true c20; omega
    have hsh := hI.shapeAt hil
    have etv : termV ts (i : Int) = (ts[i], true) := by
      unfold termV
      rw [if_pos (by omega)]
      simp [List.getD_eq_getElem?_getD, hil]
    refine cw_skip ?_
    refine qw_seq ?_
    refine cw_seq ?_
    refine cw_block ?_
    refine cw_seq ?_
    refine cw_region ?_
    refine ow_val rfl rfl (ex_move rfl) ?_
    refine ow_val rfl rfl (ex_assign rfl) ?_
    refine ow_nil ?_
    refine qw_seq ?_
    refine cw_seq ?_
    refine cw_region ?_
    refine ow_val rfl rfl (ex_move rfl) ?_
    refine ow_val rfl rfl (ex_move rfl) ?_
    refine ow_crsF rfl rfl (hle0.trans hlj) (ex_callf rfl (fun w h => callR (pTerm (hi.of_im h.im (by rw [hσK]; exact hlj)) hv))) (fun v25 τ25 τ5 hl25 hf25 hr25 hlk hfk hle25 => ?_)
    rw [etv] at hr25
    obtain ⟨c25, rfl, ht25⟩ := hr25
    have ht25 : TermC τ5 c25 ts[i] := ht25.le hle25
    have ht25' := ht25
    obtain ⟨d25, k25, rfl, ho25, hn25, hd25, hk25⟩ := ht25'.opn
    refine ow_val rfl rfl (ex_move rfl) ?_
    refine ow_val rfl rfl (ex_extract rfl rfl) ?_
    refine ow_val rfl rfl (ex_extract rfl rfl) ?_
    refine ow_blk rfl rfl exw_alloc ?_; intro b5
    refine ow_u rfl (exu_storeN 0 rfl rfl rfl rfl ht25.one rfl) ?_
    refine ow_frzO noK (fun τ6 hl6 hf6 hb6 => ?_)
    have hc5 : CellsAt τ6 b5 0 [.int .i64 ts[i].op, .int .i64 ts[i].num, d25, k25] := CellsAt.took (k := 4) hb6 rfl
    have hd6 := hd25.le hl6
    have hk6 := hk25.le hl6
    obtain ⟨pd6, cd6, rfl, _, _⟩ := hd6.slice
    obtain ⟨pk6, ck6, rfl, hck6, _⟩ := hk6.slice
    refine ow_val rfl rfl (ex_assign rfl) ?_
    refine ow_nil ?_
    refine qw_seq ?_
    refine cw_seq ?_
    refine flow_sound 8 (by kernel_rfl) ?_
    refine flow_val rfl (ex_field rfl) ?_
    refine flow_val rfl (ex_load1 rfl (ld_imm1 (hc5.fld (i := 0) rfl))) ?_
    refine flow_val rfl (ex_field rfl) ?_
    refine flow_val rfl (ex_load1 rfl (ld_imm1 (hc5.fld (i := 2) rfl))) ?_
    refine flow_val rfl (ex_move rfl) ?_
    refine flow_co rfl (ex_callf rfl (fun w h => callO (pMentionsO h.im hd6 (by omega)))) ?_
    refine flow_wrap 33 (fun u => .agg #[.int .i64 ts[i].op, .slice none 0 0, u]) rfl (fun u => rfl) (fun u p c hu => by subst hu; exact (ex_build (parts := [(0, _), (2, _)]) (cells := #[.int .i64 ts[i].op, .slice none 0 0, .slice p (mentS ts[i].data (i : Int)).length c]) rfl (by kernel_rfl))) ?_
    refine flow_alloc rfl ?_
    refine flow_nil ?_
    refine fin_sat (fun v7 => ?_)
    refine fin_sat (fun v34 => ?_)
    refine fin_drop ?_
    refine fin_is ?_
    refine fin_is ?_
    refine fin_is ?_
    refine fin_is ?_
    refine fin_is ?_
    refine fin_nil ?_
    refine ow_openI rfl (fun Gm b7 mv6 hOm h34 h7 => ?_)
    subst h34; subst h7
    refine ow_u rfl (exu_storeN 0 (cs := [.int .i64 ts[i].op, .slice none 0 0, mv6]) rfl rfl rfl rfl (fun u hu => by simp only [List.mem_cons, List.not_mem_nil, or_false] at hu; rcases hu with rfl | rfl | rfl; rfl; rfl; exact hOm.cell.2) rfl) ?_
    refine ow_frzIg noK hOm (fun τ7 hl7 hf7 hm7 => ?_)
    refine ow_nil ?_
    refine qw_seq ?_
    refine cw_seq ?_
    refine cw_seq ?_
    refine cw_region ?_
    refine ow_val rfl rfl (ex_field rfl) ?_
    refine ow_val rfl rfl (ex_load1 rfl (ld_imm1 ((hc5.le hl7).fld (i := 3) rfl))) ?_
    refine ow_val rfl rfl (ex_len (ty := 0) rfl) ?_
    refine ow_val rfl rfl (ex_move rfl) ?_
    refine ow_nil ?_
    refine qw_seq ?_
    refine cw_block ?_
    refine cw_loopH4 (fun (j : Nat) (v2 : Value) (G2 : List (Nat × Obj)) (τq : Hp) => [(0, .pointer (some ⟨b, 0, none⟩)), (3, .pointer (some ⟨b16, 0, none⟩)), (4, .int .i64 (i : Int)), (7, .pointer (some ⟨b7, 0, none⟩)), (18, .int .i64 (ts.length : Int)), (19, .int .i64 (i : Int)), (36, .slice pk6 ts[i].kids.length ck6), (37, .int .i64 (ts[i].kids.length : Int)), (38, .int .i64 (j : Int))]) (fun j v2 G2 τq => j ≤ ts[i].kids.length ∧ Le τ7 τq ∧ Fresh τ7 τq w ∧ OwnSl 3 1 v2 j (intsV ((ts[i].kids.take j).map (posT ts))) G2) (fun j v2 G2 τq => τq) (fun j v2 G2 τq => [(b7, .cells #[.int .i64 ts[i].op, v2, mv6] 117), (b16, .cells #[v, .slice (some ⟨hb, 0, none⟩) ts.length ts.length] 89), (hb, hadO 4 (List.replicate ts.length false))]) (fun j v2 G2 τq => G2 ++ Gs) (fun j _ _ _ => ts[i].kids.length - j) 0 (.slice none 0 0) [] τ7 (subL_cons (lkv rfl (by first | rfl | simp)) (subL_cons (lkv rfl (by first | rfl | simp)) (subL_cons (lkv rfl (by first | rfl | simp)) (subL_cons (lkv rfl (by first | rfl | simp)) (subL_cons (lkv rfl (by first | rfl | simp)) (subL_cons (lkv rfl (by first | rfl | simp)) (subL_cons (lkv rfl (by first | rfl | simp)) (subL_cons (lkv rfl (by first | rfl | simp)) (subL_cons (lkv rfl (by first | rfl | simp)) (subL_nil _)))))))))) ⟨Nat.zero_le _, Le.refl _, Fresh.refl _ _, by simpa [intsV] using OwnSl.nil 3 1⟩ (fun w h => h) ?_
    intro j v2 G2 τK ⟨hlejj, hlK, hfK, hO2⟩
    have hlq := hl7.trans hlK
    have hlJ := ((hlj.trans hlk).trans hl6).trans hlq
    refine cw_seq ?_
    refine cw_region ?_
    refine ow_val rfl rfl (ex_lss rfl rfl) ?_
    refine ow_nil ?_
    refine qw_seq ?_
    refine cw_seq ?_
    refine cw_cond rfl (fun c39 => ?_) (fun c39 => ?_)
    ·
      have hjl : j < ts[i].kids.length := by have := of_decide_eq_true c39; omega
      have hkm : ts[i].kids[j] ∈ ts[i].kids := List.getElem_mem hjl
      obtain ⟨bk, fk, ck', cs, e1, e2, hc1, ht1⟩ := hk6.get j hjl
      cases e1
      have ht1' := ht1
      obtain ⟨d9, k9, rfl, _, _, _, _⟩ := ht1'.opn
      have hzp : 0 ≤ posT ts ts[i].kids[j] := (hI.kidAt hil hkm).1
      refine cw_skip ?_
      refine qw_seq ?_
      refine cw_seq ?_
      refine cw_block ?_
      refine cw_seq ?_
      refine cw_region ?_
      refine ow_val rfl rfl (ex_index_nat rfl rfl (by omega)) ?_
      refine ow_val rfl rfl (ex_loadR rfl (ld_immT (hc1.le hlq) (ht1.le hlq))) ?_
      refine ow_blk rfl rfl exw_alloc ?_; intro b9
      refine ow_u rfl (exu_storeN 0 rfl rfl rfl rfl ht1.one rfl) ?_
      refine ow_nil ?_
      refine qw_seq ?_
      refine cw_seq ?_
      refine cw_region ?_
      refine ow_val rfl rfl (ex_move rfl) ?_
      refine ow_val rfl rfl (ex_loadR rfl (by first | exact ld_ownN 0 rfl rfl | exact ld_ownN 1 rfl rfl | exact ld_ownN 2 rfl rfl | exact ld_ownN 3 rfl rfl | exact ld_ownN 4 rfl rfl | exact ld_ownN 5 rfl rfl | exact ld_ownN 6 rfl rfl | exact ld_ownN 7 rfl rfl | exact ld_ownGN 0 rfl rfl | exact ld_ownGN 1 rfl rfl | exact ld_immT (by assumption) (by assumption))) ?_
      refine ow_cv rfl rfl (ex_callf rfl (fun w h => callB ((pFind _ h.im (htab.le (hle0.trans hlJ)) (hs.le hlJ) (ht1.le hlq) (right_lim (hI.rt _ (hI.kidsIn _ (List.getElem_mem hil) _ hkm))))))) ?_
      refine ow_val rfl rfl (ex_move rfl) ?_
      refine ow_val rfl rfl (ex_extract rfl rfl) ?_
      refine ow_val rfl rfl (ex_extract rfl rfl) ?_
      refine ow_val rfl rfl (ex_assign rfl) ?_
      refine ow_val rfl rfl (ex_assign rfl) ?_
      refine ow_nil ?_
      refine qw_seq ?_
      refine cw_region ?_
      refine ow_val rfl rfl (ex_field rfl) ?_
      refine ow_val rfl rfl (ex_load1 rfl (by first | exact ld_own1 0 rfl rfl | exact ld_own1 1 rfl rfl | exact ld_own1 2 rfl rfl | exact ld_own1 3 rfl rfl | exact ld_own1 4 rfl rfl | exact ld_own1 5 rfl rfl | exact ld_own1 6 rfl rfl | exact ld_own1 7 rfl rfl | exact ld_ownG1 0 rfl rfl | exact ld_ownG1 1 rfl rfl | exact ld_imm1 (by assumption))) ?_
      refine ow_val rfl rfl (ex_move rfl) ?_
      refine ow_slit rfl rfl (exw_slit1 rfl rfl) ?_; intro b51
      refine ow_app rfl rfl (exw_append (news := [.int .i64 (posT ts ts[i].kids[j])]) rfl rfl hO2 rfl (.inr ⟨_, _, rfl, (ld_ownN (k := 1) 0 rfl rfl).2⟩) (fun u hu => by simp at hu; subst hu; rfl) (by unfold maxLen; omega) (by omega)) (fun v52 G52 hO52 hz52 => ?_)
      refine ow_val rfl rfl (ex_field rfl) ?_
      refine ow_u rfl (exu_store1 2 rfl rfl rfl hO52.cell.1 hO52.cell.2 rfl) ?_
      refine ow_nil ?_
      refine qw_block_normal ?_
      refine qw_seq ?_
      refine cw_region ?_
      refine ow_val rfl rfl (ex_addi (z := ((j + 1 : Nat) : Int)) rfl rfl (by omega) (by omega) (by omega)) ?_
      refine ow_val rfl rfl (ex_move rfl) ?_
      refine ow_nil ?_
      refine qw_roundH4 (j + 1) v52 G52 τK (by omega) (subL_cons (lkv rfl (by first | rfl | simp)) (subL_cons (lkv rfl (by first | rfl | simp)) (subL_cons (lkv rfl (by first | rfl | simp)) (subL_cons (lkv rfl (by first | rfl | simp)) (subL_cons (lkv rfl (by first | rfl | simp)) (subL_cons (lkv rfl (by first | rfl | simp)) (subL_cons (lkv rfl (by first | rfl | simp)) (subL_cons (lkv rfl (by first | rfl | simp)) (subL_cons (lkv rfl (by first | rfl | simp)) (subL_nil _)))))))))) ⟨by omega, hlK, hfK, ?_⟩ (fun w h => h.drop (.cons _ (.cons _ (List.Sublist.refl _))))
      rw [List.take_succ_eq_append_getElem hjl, List.map_append, intsV_app]
      exact hO52
    ·
      refine cw_exit ?_
      refine qw_then_exit ?_
      refine qw_then_exit ?_
      refine qw_block_exit ?_
      refine qw_seq ?_
      have hje : j = ts[i].kids.length := by have := of_decide_eq_false c39; omega
      subst hje
      rw [List.take_length] at hO2
      refine cw_frzIg noK hO2 (fun τ8 hl8 hf8 hk8 => ?_)
      have hitem : ItemC τ8 [.int .i64 ts[i].op, v2, mv6] (itemT ts i ts[i]) := ⟨v2, mv6, rfl, hk8, ((hm7.le hlK).le hl8)⟩
      have hlz : Le τ τ8 := ((((hlk.trans hl6).trans hl7).trans hlK).trans hl8)
      have hfz : Fresh τ τ8 w := ((((hfk.trans hf6).trans hf7).trans hfK).trans hf8)
      refine flow_soundF 7 0 (by kernel_rfl) ?_
      refine flow_val rfl (ex_move rfl) ?_
      refine flow_val rfl (ex_move rfl) ?_
      refine flow_val rfl (ex_nilck rfl) ?_
      refine flow_val rfl (ex_field rfl) ?_
      refine flow_val rfl (ex_load1 rfl (by first | exact ld_own1 0 rfl rfl | exact ld_own1 1 rfl rfl | exact ld_own1 2 rfl rfl | exact ld_own1 3 rfl rfl | exact ld_own1 4 rfl rfl | exact ld_own1 5 rfl rfl | exact ld_own1 6 rfl rfl | exact ld_own1 7 rfl rfl | exact ld_ownG1 0 rfl rfl | exact ld_ownG1 1 rfl rfl | exact ld_imm1 (by assumption))) ?_
      refine flow_val rfl (ex_loadR rfl (by first | exact ld_ownN 0 rfl rfl | exact ld_ownN 1 rfl rfl | exact ld_ownN 2 rfl rfl | exact ld_ownN 3 rfl rfl | exact ld_ownN 4 rfl rfl | exact ld_ownN 5 rfl rfl | exact ld_ownN 6 rfl rfl | exact ld_ownN 7 rfl rfl | exact ld_ownGN 0 rfl rfl | exact ld_ownGN 1 rfl rfl | exact ld_immT (by assumption) (by assumption))) ?_
      refine flow_sat QR.pers (obk (ob_cells (cs := [.int .i64 ts[i].op, v2, mv6]) rfl rfl rfl)) ?_
      refine flow_nilF (j := 0) ?_ ?_
      ·
        refine fint_satR (Le.refl _) (fun v61 τ9 hl9 hf9 hr9 => ?_)
        obtain ⟨bo, rfl, hco⟩ := hr9
        refine fint_is ?_
        refine fint_is ?_
        refine fint_is ?_
        refine fint_is ?_
        refine fint_is ?_
        refine fint_is ?_
        refine fint_nil ?_
        refine any_one (i := 7) (by kernel_rfl) ?_
        refine next_app1 rfl rfl (exw_append1 (news := [.int .i64 ts[i].op, v2, mv6]) rfl rfl hO rfl (.inr ⟨_, _, rfl, fun w h => hco.range h.im⟩) hitem.one (by unfold maxLen; omega) (by omega)) (fun v62 G62 hO62 hz62 => ?_)
        refine any_one (i := 8) (by kernel_rfl) ?_
        refine next_val rfl rfl (ex_nilck rfl) ?_
        refine any_one (i := 9) (by kernel_rfl) ?_
        refine next_val rfl rfl (ex_field rfl) ?_
        refine any_one (i := 10) (by kernel_rfl) ?_
        refine next_u rfl (exu_store1 1 rfl rfl rfl hO62.cell.1 hO62.cell.2 rfl) ?_
        refine any_done (by kernel_rfl) ?_
        refine qw_block_normal ?_
        refine qw_seq ?_
        refine cw_region ?_
        refine ow_val rfl rfl (ex_addi (z := ((i + 1 : Nat) : Int)) rfl rfl (by omega) (by omega) (by omega)) ?_
        refine ow_val rfl rfl (ex_move rfl) ?_
        refine ow_nil ?_
        refine qw_roundH5 (i + 1) v62 _ G62 τ9 (by omega) (subL_cons (lkv rfl (by first | rfl | simp)) (subL_cons (lkv rfl (by first | rfl | simp)) (subL_cons (lkv rfl (by first | rfl | simp)) (subL_cons (lkv rfl (by first | rfl | simp)) (subL_nil _))))) ⟨by omega, hlj.trans (hlz.trans hl9), hfj.trans (hfz.trans hf9), hO62, ?_⟩ (fun w h => h.drop (List.sublist_cons_self _ _))
        rw [itemsTo_snoc hil]
        exact (hrow.le (hlz.trans hl9)).snoc (hitem.le hl9)
      ·
        refine fint_satR (Le.refl _) (fun v61 τ9 hl9 hf9 hr9 => ?_)
        obtain ⟨bo, rfl, hco⟩ := hr9
        refine fint_is ?_
        refine fint_is ?_
        refine fint_is ?_
        refine fint_is ?_
        refine fint_is ?_
        refine fint_nil ?_
        refine any_two (i := 0) (j := 7) (by kernel_rfl) ?_ ?_
        ·
          refine next_val rfl rfl (ex_move rfl) ?_
          refine any_one (i := 7) (by kernel_rfl) ?_
          refine next_app1 rfl rfl (exw_append1 (news := [.int .i64 ts[i].op, v2, mv6]) rfl rfl hO rfl (.inr ⟨_, _, rfl, fun w h => hco.range h.im⟩) hitem.one (by unfold maxLen; omega) (by omega)) (fun v62 G62 hO62 hz62 => ?_)
          refine any_one (i := 8) (by kernel_rfl) ?_
          refine next_val rfl rfl (ex_nilck rfl) ?_
          refine any_one (i := 9) (by kernel_rfl) ?_
          refine next_val rfl rfl (ex_field rfl) ?_
          refine any_one (i := 10) (by kernel_rfl) ?_
          refine next_u rfl (exu_store1 1 rfl rfl rfl hO62.cell.1 hO62.cell.2 rfl) ?_
          refine any_done (by kernel_rfl) ?_
          refine qw_block_normal ?_
          refine qw_seq ?_
          refine cw_region ?_
          refine ow_val rfl rfl (ex_addi (z := ((i + 1 : Nat) : Int)) rfl rfl (by omega) (by omega) (by omega)) ?_
          refine ow_val rfl rfl (ex_move rfl) ?_
          refine ow_nil ?_
          refine qw_roundH5 (i + 1) v62 _ G62 τ9 (by omega) (subL_cons (lkv rfl (by first | rfl | simp)) (subL_cons (lkv rfl (by first | rfl | simp)) (subL_cons (lkv rfl (by first | rfl | simp)) (subL_cons (lkv rfl (by first | rfl | simp)) (subL_nil _))))) ⟨by omega, hlj.trans (hlz.trans hl9), hfj.trans (hfz.trans hf9), hO62, ?_⟩ (fun w h => h.drop (List.sublist_cons_self _ _))
          rw [itemsTo_snoc hil]
          exact (hrow.le (hlz.trans hl9)).snoc (hitem.le hl9)
        ·
          refine next_app1 rfl rfl (exw_append1 (news := [.int .i64 ts[i].op, v2, mv6]) rfl rfl hO rfl (.inr ⟨_, _, rfl, fun w h => hco.range h.im⟩) hitem.one (by unfold maxLen; omega) (by omega)) (fun v62 G62 hO62 hz62 => ?_)
          refine any_one (i := 0) (by kernel_rfl) ?_
          refine next_val rfl rfl (ex_move rfl) ?_
          refine any_one (i := 8) (by kernel_rfl) ?_
          refine next_val rfl rfl (ex_nilck rfl) ?_
          refine any_one (i := 9) (by kernel_rfl) ?_
          refine next_val rfl rfl (ex_field rfl) ?_
          refine any_one (i := 10) (by kernel_rfl) ?_
          refine next_u rfl (exu_store1 1 rfl rfl rfl hO62.cell.1 hO62.cell.2 rfl) ?_
          refine any_done (by kernel_rfl) ?_
          refine qw_block_normal ?_
          refine qw_seq ?_
          refine cw_region ?_
          refine ow_val rfl rfl (ex_addi (z := ((i + 1 : Nat) : Int)) rfl rfl (by omega) (by omega) (by omega)) ?_
          refine ow_val rfl rfl (ex_move rfl) ?_
          refine ow_nil ?_
          refine qw_roundH5 (i + 1) v62 _ G62 τ9 (by omega) (subL_cons (lkv rfl (by first | rfl | simp)) (subL_cons (lkv rfl (by first | rfl | simp)) (subL_cons (lkv rfl (by first | rfl | simp)) (subL_cons (lkv rfl (by first | rfl | simp)) (subL_nil _))))) ⟨by omega, hlj.trans (hlz.trans hl9), hfj.trans (hfz.trans hf9), hO62, ?_⟩ (fun w h => h.drop (List.sublist_cons_self _ _))
          rw [itemsTo_snoc hil]
          exact (hrow.le (hlz.trans hl9)).snoc (hitem.le hl9)
  ·
    have he : i = ts.length := by have := of_decide_eq_false c20; omega
    subst he
    refine cw_exit ?_
    refine qw_then_exit ?_
    refine qw_then_exit ?_
    refine qw_block_exit ?_
    refine qw_seq ?_
    refine cw_seq ?_
    refine cw_region ?_
    refine ow_val rfl rfl (ex_move rfl) ?_
    refine ow_val rfl rfl (ex_assign rfl) ?_
    refine ow_nil ?_
    refine qw_seq ?_
    refine cw_ret ?_
    refine qw_ret1 rfl rfl (fun w' h => ?_)
    rw [← itemsTo_all] 
    obtain ⟨σ1, q1, q2, q3, q4⟩ := freezeIt (Gr := []) (by simpa using h) noK (by rw [hilen]; exact hO) hrow
    obtain ⟨σ2, r1, r2, r3, r4⟩ := St.frz1 q3 (noK _)
    exact (St.flip r4).givesK ((hlj.trans q1).trans r1) ((hfj.trans q2).trans r2) ⟨b16, hb, v, ts.length, rfl, rfl, CellsAt.took (k := 2) r3 rfl, q4.le r1⟩
end Go.Proofs.YtnjomdjkbbhdoaaGreatDoor
namespace Go.Proofs.YtnjomdjkbbhdoaaGreatDoor
open Go.RowKit
set_option linter.unusedVariables false
set_option linter.unusedSimpArgs false
set_option linter.unusedSectionVars false
theorem hadO_inj {e : Nat} {a b : List Bool} (h : hadO e a = hadO e b) : a = b := by
  unfold hadO boolsV at h
  have h2 := (Obj.cells.inj h).1
  have h3 : a.map Value.bool = b.map Value.bool := by simpa using h2
  exact List.map_inj_right (fun x y h => by cases h; rfl) |>.1 h3
theorem St.addG {w0 w : World} {M : Nat → Prop} {σ : Hp} {H G : List (Nat × Obj)} {D : Nat} {o : Obj} (h : St w0 M σ H G w) (ho : w.heap[D]? = some o) (hσ : σ D = none) (hD : w0.heap.size ≤ D) (hn : ∀ p ∈ H ++ G, p.1 ≠ D) : St w0 M σ H ((D, o) :: G) w := by
  have hp : (H ++ (D, o) :: G).Perm ((D, o) :: (H ++ G)) := List.perm_middle
  refine ⟨h.ag, h.im, fun p hm => ?_, fun p hm => ?_, fun p hm => ?_, (hp.map _).nodup_iff.2 ?_⟩
  · rcases List.mem_cons.1 (hp.mem_iff.1 hm) with rfl | hm
    · exact ho
    · exact St0.ow h p hm
  · rcases List.mem_cons.1 (hp.mem_iff.1 hm) with rfl | hm
    · exact hσ
    · exact St0.dj h p hm
  · rcases List.mem_cons.1 (hp.mem_iff.1 hm) with rfl | hm
    · exact .inr hD
    · exact St0.mo h p hm
  · rw [List.map_cons, List.nodup_cons]
    refine ⟨fun hm => ?_, St0.nd h⟩
    obtain ⟨p, h1, h2⟩ := List.mem_map.1 hm
    exact hn p h1 h2
theorem St.less {w0 w : World} {M : Nat → Prop} {σ τ : Hp} {H G : List (Nat × Obj)} (h : St w0 M τ H G w) (hl : Le σ τ) : St w0 M σ H G w := h.le (fun b o e => h.im b o (hl b o e)) fun p hp => by
  cases e : σ p.1 with
  | none => rfl
  | some o =>
    have := hl p.1 o e
    rw [h.fresh hp] at this; cases this
section
variable {P : Program} {Q : Exit → Act → World → Prop} {N : Nat} {L : TL} {S : World → Prop} {α : Type}
def RndD (Dx : α → DS) (N : Nat) (I : α → TL) (T : α → World → Prop) (μ : α → Nat) (m : Nat) (a : Act) (w : World) : Prop := ∃ y, μ y < m ∧ @Fr (Dx y) N (I y) a ∧ T y w
theorem cw_loopD [hd : DS] {c : Code} (Dx : α → DS) (I : α → TL) (T : α → World → Prop) (μ : α → Nat) (x0 : α) (h0 : Dx x0 = hd) (hL : subL L (I x0)) (hS : ∀ w, S w → T x0 w)
    (round : ∀ (x : α) (d : DS), d = Dx x → @CW d P c (Exit.then (RndD Dx N I T μ (μ x)) Q) N (I x) (T x)) : CW P (.loop c) Q N L S := by
  intro a w hf hs
  classical
  refine wp_loop (fun a w => ∃ x, @Fr (Dx x) N (I x) a ∧ T x w)
    (fun a w => if h : ∃ n, ∃ x, μ x = n ∧ @Fr (Dx x) N (I x) a ∧ T x w then Classical.choose (least h) else 0) ⟨x0, by rw [h0]; exact hf.sub hL, hS w hs⟩ ?_
  rintro a w ⟨x, hx, ht⟩
  have hex : ∃ n, ∃ x, μ x = n ∧ @Fr (Dx x) N (I x) a ∧ T x w := ⟨_, x, rfl, hx, ht⟩
  obtain ⟨⟨x, hm, hx, ht⟩, hmin⟩ := Classical.choose_spec (least hex)
  refine wp_mono (round x (Dx x) rfl a w hx ht) ?_
  intro e a' w' h
  cases e with
  | normal =>
    obtain ⟨y, hy, hfy, hty⟩ := h
    refine ⟨⟨y, hfy, hty⟩, ?_⟩
    have hex' : ∃ n, ∃ x, μ x = n ∧ @Fr (Dx x) N (I x) a' ∧ T x w' := ⟨_, y, rfl, hfy, hty⟩
    rw [dif_pos hex', dif_pos hex, ← hm]
    exact Nat.lt_of_le_of_lt ((Classical.choose_spec (least hex')).2 _ ⟨y, rfl, hfy, hty⟩) hy
  | _ => exact h
theorem qw_roundD [hd : DS] {Dx : α → DS} {I : α → TL} {T : α → World → Prop} {μ : α → Nat} {m : Nat} (y : α) (h0 : hd = Dx y) (hmu : μ y < m) (hL : subL L (I y)) (hS : ∀ w, S w → T y w) : QW (Exit.then (RndD Dx N I T μ m) Q) .normal N L S :=
  fun a w hf hs => ⟨y, hmu, by rw [← h0]; exact hf.sub hL, hS w hs⟩
end
theorem cw_frzIs [DS] {P : Program} {Q : Exit → Act → World → Prop} {c : Code} {N : Nat} {L : TL} {w0 : World} {σ τ : Hp} {H Gs Gr : List (Nat × Obj)} {e n : Nat} {v : Value} {zs : List Int} (hl : Le σ τ) (hO : OwnSl e 1 v n (intsV zs) Gs)
    (k : ∀ τ' σ', Le τ τ' → Le σ σ' → Fresh σ σ' w0 → Le σ' τ' → IntsV σ' v zs → CW P c Q N L (St w0 (fun _ => False) τ' H Gr)) : CW P c Q N L (St w0 (fun _ => False) τ H (Gs ++ Gr)) := fun a w hf hs => by
  have hn : zs.length = n := by have := hO.1; simpa [intsV] using this
  subst hn
  rcases hO.2 with ⟨rfl, h0, rfl⟩ | ⟨g, c, cur, rfl, rfl, h2, h3, h4, h5⟩
  · obtain rfl := List.eq_nil_of_length_eq_zero h0
    exact k τ σ (Le.refl _) (Le.refl _) (Fresh.refl _ _) hl (IntsV.nil _) a w hf hs
  · have hs1 : St w0 (fun _ => False) τ ((g, .cells cur e (0, 0)) :: H) Gr w := hs.ofG
    have hg : τ g = none := hs1.fresh (p := (g, .cells cur e (0, 0))) (by simp)
    have hσg : σ g = none := by
      cases e9 : σ g with
      | none => rfl
      | some o => rw [hl g o e9] at hg; cases hg
    refine k (ext τ g (.cells cur e)) (ext σ g (.cells cur e)) (le_ext hg) (le_ext hσg) (fun b o hb => ?_) (ext_le hl g _) ⟨_, c, rfl, h2, .inr ⟨g, 0, rfl, cur, e, (0, 0), ext_self _ _ _, fun j u hj => ?_⟩⟩ a w hf hs1.freeze
    · unfold ext at hb
      split at hb
      · rename_i hbg; subst hbg; exact .inr ((St0.mo hs1 (b, .cells cur e (0, 0)) (by simp)).resolve_left id)
      · exact .inl hb
    · rw [← h5, List.getElem?_take] at hj
      split at hj
      · simpa using hj
      · cases hj
section
variable [DS] {P : Program} {Q : Exit → Act → World → Prop} {N : Nat} {L : TL} {S : World → Prop}
theorem cw_scope {c : Code} (h : CW P c (Exit.noGoto Q) N L S) : CW P (.scope c) Q N L S := fun a w hf hs => wp_scope_straight (h a w hf hs)
theorem cw_label {l : Nat} (h : QW Q .normal N L S) : CW P (.label l) Q N L S := fun a w hf hs => wp_label (h a w hf hs)
theorem qw_nogoto_ret (h : QW Q .ret N L S) : QW (Exit.noGoto Q) .ret N L S := h
end
theorem ex_nilckD [DS] {P : Program} {N : Nat} {L : TL} {S : World → Prop} {x : Operand} {a : Addr} (hx : ev L x = some (.pointer (some a))) : Ex P (.nilCheck x) N L S (.pointer (some a)) := fun ac w hf hs d ty pos af g => by
  simp [execOp, hf.eval hx]
section
variable {P : Program} {Q : Exit → Act → World → Prop} {N : Nat} {L : TL}
theorem cw_range [hd : DS] {gop : Operand} {p0 da ida idb idr gf tb hb bm b1 : Nat} {aty : TypeId} {apos : String} {bops : List Oper} {its : List Item} {known : List Int} {had0 : List Bool} {τ : Hp} {w0 : World} {Ds : List Nat} [hF : FnT P gf]
    (hg : ev L gop = some (.func (.func gf) #[] #[.pointer (some ⟨b1, 0, none⟩)]))
    (hseq : ∀ w, St w0 (fun _ => False) τ [(bm, .cells #[.bool false] tb), (hb, hadO tb had0)] (marks Ds) w →
      SeqStopsK Fence.wide 9 P gf #[.pointer (some ⟨b1, 0, none⟩)] (fun x : Hx its known => #[.int .i64 ((x.1 : Nat) : Int)]) (KpE w.heap.size hb bm tb its known) (SAll its known had0) (fun _ => True) (bnd (its.length + 1)) w)
    (hso : Sound its known had0) (hpN : Nat.blt p0 N = true) (hdN : Nat.blt da N = true)
    (hbody : ∀ (l : Nat) (x : Hx its known) (had : List Bool) (bb : Bool) (W : World) (Q' : Exit → Act → World → Prop), had.length = its.length →
      (∀ a w', St W (keysOf [(bm, .cells #[.bool bb] tb), (hb, hadO tb had)]) τ [(bm, .cells #[.bool true] tb), (hb, hadO tb (had.set x.1 true))] [] w' → Q' .normal a w') →
      @OI DS.none (Fence.wide.inRound l) 8 P bops Q' bops N ((da, .int .i64 ((x.1 : Nat) : Int)) :: (p0, .int .i64 ((x.1 : Nat) : Int)) :: L) (St W (keysOf [(bm, .cells #[.bool bb] tb), (hb, hadO tb had)]) τ [(bm, .cells #[.bool bb] tb), (hb, hadO tb had)] []))
    (k : ∀ (d' : DS) (D : Nat) (xs : List (Hx its known)) (had' : List Bool), d'.ds = markD D :: hd.ds → SAll its known had0 xs → Sound its known had' → HadLe had0 had' → (xs = [] → had' = had0) → (∀ x ∈ xs, had'.getD x.1 false = true) →
      @QW d' Q .normal N L (St w0 (fun _ => False) τ [(bm, .cells #[.bool (!xs.isEmpty)] tb), (hb, hadO tb had')] (marks (D :: Ds)))) :
    CW P (.rangeFunc gop #[p0] (.region ida [⟨some da, .assign (.tmp p0), aty, apos, #[], none⟩].toArray false) (.block idb (.region idr bops.toArray false))) Q N L
      (St w0 (fun _ => False) τ [(bm, .cells #[.bool false] tb), (hb, hadO tb had0)] (marks Ds)) := by
  intro a w hf hs
  have hbmlt : bm < w.heap.size := hs.lt (p := (bm, .cells #[.bool false] tb)) (by simp)
  have hbhlt : hb < w.heap.size := hs.lt (p := (hb, hadO tb had0)) (by simp)
  have hmks : ∀ p ∈ marks Ds, p.1 < w.heap.size := fun p hp => hs.lt (by simp [hp])
  have hne : hb ≠ bm := by
    have := St0.nd hs
    simp only [List.cons_append, List.map_cons, List.nodup_cons, List.mem_cons, not_or] at this
    exact fun e => this.1.1 e.symm
  obtain ⟨I, hI⟩ : ∃ I : List (Hx its known) → World → Prop, I = fun pre W => ∃ had, Sound its known had ∧ HadLe had0 had ∧ (pre = [] → had = had0) ∧ (∀ x ∈ pre, had.getD x.1 false = true) ∧
    St w0 (fun _ => False) τ [(bm, .cells #[.bool (!pre.isEmpty)] tb), (hb, hadO tb had)] (marks Ds) W := ⟨_, rfl⟩
  refine wpIn_wide.1 (wpIn_rangeFunc_ownF (n := 10) rfl (by decide) (gf := gf) (lb := #[.pointer (some ⟨b1, 0, none⟩)]) (hf.eval hg) trivial (fun args w => FnT.enters args w) (hseq w hs) (fun h k => KpE.trans h k)
    (fun W l o o' hl ho hc _ => KpE.turn W l o o' hl hbhlt ho hc) (Below.refl _ _) (fun _ => rfl) I (fun _ _ _ => False) ?hI (fun c s W W' row h _ _ => h) ?h0
    (fun x => ({ tmps := a.tmps.setIfInBounds p0 (.int .i64 ((x.1 : Nat) : Int)), defers := [] } : Act).put (some da) (.int .i64 ((x.1 : Nat) : Int))) ?ass ?body ?done (fun D c pre W _ _ h _ => h.elim))
  case hI =>
    rw [hI]
    rintro s A B row ⟨had, c1, c2, c3, c4, c5⟩ hg' hr
    refine ⟨had, c1, c2, c3, c4, c5.grown hg' (fun r e => (hr r e).1) (fun b o e => hs.im.lt e) (fun p hp => ?_) hs.ag.size⟩
    rcases List.mem_append.1 hp with hp | hp
    · simp only [List.mem_cons, List.not_mem_nil, or_false] at hp
      rcases hp with rfl | rfl
      · exact hbmlt
      · exact hbhlt
    · exact hmks p hp
  case h0 =>
    rw [hI]
    exact ⟨had0, hso, HadLe.refl _, fun _ => rfl, (fun x hx => by cases hx), hs⟩
  case ass =>
    intro l x W K hK
    refine wpIn_region_lit ?_
    have hsz : p0 < a.tmps.size := by rw [hf.sz]; exact Nat.le_of_ble_eq_true hpN
    unfold wpListIn
    rw [if_pos (by simp [Region.wanted])]
    refine ⟨fun f _ => trivial, ?_⟩
    have hrun : (execOp (({ tmps := ((#[p0] : Array Tmp).zip #[Value.int .i64 ((x.1 : Nat) : Int)]).foldl (fun t (p, v) => t.setIfInBounds p v) a.tmps, defers := [] } : Act).eval) ⟨some da, .assign (.tmp p0), aty, apos, #[], none⟩).run P W = .ok (.value (.int .i64 ((x.1 : Nat) : Int))) W := by
      simp [execOp, Act.eval, hsz]
    rw [Oper.semAt_plain _ _ _ (fun c h => by cases h), hrun]
    have e9 : ((#[p0] : Array Tmp).zip #[Value.int .i64 ((x.1 : Nat) : Int)]).foldl (fun t (p, v) => t.setIfInBounds p v) a.tmps = a.tmps.setIfInBounds p0 (.int .i64 ((x.1 : Nat) : Int)) := by simp
    rw [← e9] at hK
    exact hK
  case body =>
    rw [hI]
    rintro l pre x W ⟨had, c1, c2, c3, c4, c5⟩ hlt
    refine wpIn_block (wpIn_region_lit ?_)
    have c6 : St w0 (fun _ => False) τ [] ([(bm, .cells #[.bool (!pre.isEmpty)] tb), (hb, hadO tb had)] ++ marks Ds) W := c5
    have hbm1 : W.heap[bm]? = some (.cells #[.bool (!pre.isEmpty)] tb) := c5.own (p := (bm, .cells #[.bool (!pre.isEmpty)] tb)) (by simp)
    have hhb1 : W.heap[hb]? = some (hadO tb had) := c5.own (p := (hb, hadO tb had)) (by simp)
    have hxl : x.1 < had.length := by rw [c1.1]; exact x.2.1
    refine hbody l x had (!pre.isEmpty) W _ c1.1 (fun a' w' h' => ?_) _ W ?_ (St.flip (St.has c6).start)
    · have h2 : St W (keysOf [(bm, .cells #[.bool (!pre.isEmpty)] tb), (hb, hadO tb had)]) τ [] [(bm, .cells #[.bool true] tb), (hb, hadO tb (had.set x.1 true))] w' := St.flip h'
      have hblk : ∀ q, q < W.heap.size → q ≠ bm → q ≠ hb → w'.heap[q]? = W.heap[q]? := fun q hq h3 h4 => h'.ag.block q hq (by
        rintro ⟨p, hp, rfl⟩
        simp only [List.mem_cons, List.not_mem_nil, or_false] at hp
        rcases hp with rfl | rfl
        · exact h3 rfl
        · exact h4 rfl)
      refine ⟨⟨h'.ag.size, fun q o hq ho => ?_⟩, ⟨h'.ag.size, fun q o h3 h4 hq _ => ?_, fun had2 hq hs2 => ⟨had.set x.1 true, h'.own (p := (hb, hadO tb (had.set x.1 true))) (by simp), ?_, c1.set x.2.2⟩⟩,
        had.set x.1 true, c1.set x.2.2, c2.trans (HadLe.set _ _), fun e => absurd e (by simp), fun y hy => ?_, ?_⟩
      · rw [hblk q (Array.getElem?_eq_some_iff.1 hq).1 (fun e => by subst e; rw [hbm1] at hq; cases hq; cases ho) (fun e => by subst e; rw [hhb1] at hq; cases hq; cases ho)]; exact hq
      · rw [hblk q (Array.getElem?_eq_some_iff.1 hq).1 h4 h3]; exact hq
      · rw [hhb1] at hq
        have e9 : had = had2 := hadO_inj (Option.some.inj hq)
        rw [← e9]; exact HadLe.set _ _
      · rcases List.mem_append.1 hy with hy | hy
        · exact HadLe.set _ _ _ (c4 y hy)
        · simp only [List.mem_singleton] at hy
          subst hy
          rw [getD_set hxl]; simp
      · have h3 := c6.mutK (Fresh.refl _ _) (Le.refl _) h2
        have e9 : (!(pre ++ [x]).isEmpty) = true := by simp
        rw [e9]
        exact h3
    · have hfp : @Fr DS.none N ((p0, .int .i64 ((x.1 : Nat) : Int)) :: L) ({ tmps := a.tmps.setIfInBounds p0 (.int .i64 ((x.1 : Nat) : Int)), defers := [] } : Act) := by
        have hp0 : p0 < a.tmps.size := by rw [hf.sz]; exact Nat.le_of_ble_eq_true hpN
        refine @Fr.mk DS.none _ _ _ rfl (by simpa using hf.sz) (fun i u hu => ?_)
        rw [lk_cons] at hu
        split at hu
        · rename_i e; subst e; cases hu; simp [hp0]
        · rename_i e
          rw [Array.getElem?_setIfInBounds_ne e]
          exact hf.get i u hu
      exact @Fr.put DS.none _ _ _ _ _ hfp hdN
  case done =>
    rw [hI]
    rintro D xs W hD hS ⟨had', c1, c2, c3, c4, c5⟩ hK
    refine k ⟨markD D :: hd.ds⟩ D xs had' rfl hS c1 c2 c3 c4 _ W (@Fr.mk ⟨markD D :: hd.ds⟩ _ _ _ (by show _ :: a.defers = _; rw [hf.df]; rfl) hf.sz hf.get) (c5.addG hK ?_ (Nat.le_trans hs.ag.size hD) (fun p hp => ?_))
    · cases e : τ D with
      | none => rfl
      | some o => exact absurd (hs.im.lt e) (Nat.not_lt.2 hD)
    · rcases List.mem_append.1 hp with hp | hp
      · simp only [List.mem_cons, List.not_mem_nil, or_false] at hp
        rcases hp with rfl | rfl
        · exact Nat.ne_of_lt (Nat.lt_of_lt_of_le hbmlt hD)
        · exact Nat.ne_of_lt (Nat.lt_of_lt_of_le hbhlt hD)
      · exact Nat.ne_of_lt (Nat.lt_of_lt_of_le (hmks p hp) hD)
end
open Classical in
noncomputable def closL (its : List Item) (known : List Int) : List Int := ((List.range its.length).filter fun k => decide (Had its known k)).map fun (k : Nat) => (k : Int)
theorem clos_closL (its : List Item) (known : List Int) : Clos its known (closL its known) := by
  classical
  unfold closL
  constructor
  · rw [List.pairwise_map]
    refine List.Pairwise.imp (fun h => by omega) (List.Pairwise.filter _ (List.pairwise_lt_range))
  · intro x
    rw [List.mem_map]
    constructor
    · rintro ⟨k, hk, rfl⟩
      obtain ⟨h1, h2⟩ := List.mem_filter.1 hk
      exact ⟨k, List.mem_range.1 h1, rfl, of_decide_eq_true h2⟩
    · rintro ⟨k, h1, rfl, h2⟩
      exact ⟨k, List.mem_filter.2 ⟨List.mem_range.2 h1, decide_eq_true h2⟩, rfl⟩
theorem Clos.closL {its : List Item} {known zs : List Int} (h : Clos its known zs) : zs = closL its known := h.uniq (clos_closL _ _)
theorem sound0 (its : List Item) (known : List Int) : Sound its known (List.replicate its.length false) := ⟨by simp, fun n h => by
  simp only [List.getD_eq_getElem?_getD, List.getElem?_replicate] at h
  split at h <;> simp at h⟩
theorem outB_step {had : List Bool} {i : Nat} (hi : i < had.length) : outB 0 (had.take (i + 1)) = outB 0 (had.take i) ++ (if had.getD i false = true then [(i : Int)] else []) := by
  rw [List.take_succ_eq_append_getElem hi, outB_app, List.length_take, Nat.min_eq_left (by omega)]
  congr 1
  rw [List.getD_eq_getElem?_getD, List.getElem?_eq_getElem hi]
  simp only [outB, Option.getD_some, Nat.zero_add]
theorem outB_len : ∀ (had : List Bool) (n : Nat), (outB n had).length ≤ had.length
  | [], n => by simp [outB]
  | b :: r, n => by
    have := outB_len r (n + 1)
    rw [outB]
    split <;> simp <;> omega
theorem ld_had {w0 : World} {M : Nat → Prop} {σ : Hp} {H G : List (Nat × Obj)} {b e i : Nat} {had : List Bool} (j : Nat) (hH : H[j]? = some (b, hadO e had)) (hi : i < had.length) : ∀ w, St w0 M σ H G w → w.cell? ⟨b, 0 + i * 1, none⟩ = some (.bool (had.getD i false)) := fun w hs => by
  have hb := hs.own (List.mem_of_getElem? hH)
  rw [cell_of_blk hb]
  simp [boolsV, List.getD_eq_getElem?_getD, hi]
def RepF (F be : Nat) (σ : Hp) (u : Value) : Prop := ∃ b1, u = .func (.func F) #[] #[.pointer (some ⟨b1, 0, none⟩)] ∧ CellsAt σ b1 0 [.pointer (some ⟨be, 0, none⟩)]
end Go.Proofs.YtnjomdjkbbhdoaaGreatDoor
namespace Go.Proofs.YtnjomdjkbbhdoaaGreatDoor
open Go.RowKit
set_option linter.unusedVariables false
set_option linter.unusedSimpArgs false
set_option maxRecDepth 100000
instance : ZeroT Tryz.prog 84 (.pointer none) := ⟨by kernel_rfl⟩
set_option maxHeartbeats 400000 in
theorem pFound {be : Nat} {σ : Hp} {w : World} (hi : Imm σ w) : Calls Tryz.prog 55 #[.pointer (some ⟨be, 0, none⟩)] w (GiveR (RepF 86 be) σ w) := by
  refine enter (St w (fun _ => False) σ [] []) Tryz.func55 rfl Tryz.ntmps55 rfl (St.start hi) ?_
  refine cw_seq ?_
  refine cw_region ?_
  refine ow_blk rfl rfl (exw_box rfl) ?_; intro b1
  refine ow_val rfl rfl (ex_assign rfl) ?_
  refine ow_nil ?_
  refine qw_seq ?_
  refine cw_seq ?_
  refine cw_region ?_
  refine ow_val rfl rfl (ex_makeFunc rfl rfl) ?_
  refine ow_val rfl rfl (ex_assign rfl) ?_
  refine ow_nil ?_
  refine qw_seq ?_
  refine cw_ret ?_
  refine qw_ret1 rfl rfl (fun w' h => ?_)
  obtain ⟨σ1, l1, f1, e1, h1⟩ := St.frz1 h id
  exact h1.gives l1 f1 ⟨b1, rfl, CellsAt.took (k := 1) e1 rfl⟩
set_option maxHeartbeats 2000000 in
theorem pClosure {b : Nat} {ts : List T} {known : List Int} {v : Value} {σ : Hp} {K : List (Nat × Obj)} {w : World} (hi : Has σ K w) (htab : TabC Tryz.prog σ) (hv : VaultK 80 32 b ts σ K) (hk : IntsV σ v known) (hkl : known.length ≤ 1000000) : Calls Tryz.prog 15 #[.pointer (some ⟨b, 0, none⟩), v] w (GiveR (RepI (closL (itemsT ts) known)) σ w) := by
  obtain ⟨pk, ck, rfl, hck, hsk⟩ := hk
  obtain ⟨hI, hfew⟩ := hv.nd
  have hof := @Has.of_im σ
  have hleX := hi.le
  refine enterM (St w (fun _ => False) (exts σ K) [] []) Tryz.func15 rfl Tryz.ntmps15 rfl (St.start hi.exts) ?_
  refine cw_seq ?_
  refine cw_region ?_
  refine ow_val rfl rfl (ex_assign rfl) ?_
  refine ow_nil ?_
  refine qw_seq ?_
  refine cw_scope ?_
  refine cw_seq ?_
  refine cw_seq ?_
  refine cw_region ?_
  refine ow_val rfl rfl (ex_move rfl) ?_
  refine ow_val rfl rfl (ex_ptrnil rfl) ?_
  refine ow_nil ?_
  refine qw_seq ?_
  refine cw_cond rfl (fun c14 => ?_) (fun c14 => ?_)
  ·
    cases c14
  ·
    refine cw_skip ?_
    refine qw_seq ?_
    refine cw_seq ?_
    refine cw_region ?_
    refine ow_val rfl rfl (ex_move rfl) ?_
    refine ow_ck0 rfl rfl (ex_callf rfl (fun w h => pLoad (hi.of_im h.im (Le.refl _)) htab hv)) (fun v16 τ1 K1 hl1 hf1 hr1 => ?_)
    obtain ⟨be, hb, iv, ch, rfl, rfl, hcE, hIt⟩ := hr1
    refine ow_mono (fun w h => St.ofG (G := []) h) ?_
    refine ow_blk rfl rfl exw_alloc ?_; intro b5
    refine ow_u rfl (exu_store1 0 rfl rfl rfl rfl rfl rfl) ?_
    refine ow_frzO (fun _ h => h) (fun τ2 hl2 hf2 hb2 => ?_)
    have hc5 : CellsAt τ2 b5 0 [.pointer (some ⟨be, 0, none⟩)] := CellsAt.took (k := 1) hb2 rfl
    have hlσ : Le σ τ2 := (hleX.trans hl1).trans hl2
    refine ow_nil ?_
    refine qw_seq ?_
    refine cw_seq ?_
    refine cw_seq ?_
    refine cw_region ?_
    refine ow_val rfl rfl (ex_move rfl) ?_
    refine ow_val rfl rfl (ex_len (ty := 0) rfl) ?_
    refine ow_val rfl rfl (ex_move rfl) ?_
    refine ow_nil ?_
    refine qw_seq ?_
    refine cw_block ?_
    refine cw_loopH2 (fun (i : Nat) (had : List Bool) => [(0, .pointer (some ⟨b, 0, none⟩)), (5, .pointer (some ⟨b5, 0, none⟩)), (17, .slice pk known.length ck), (18, .int .i64 (known.length : Int)), (19, .int .i64 (i : Int))]) (fun i had => i ≤ known.length ∧ Sound (itemsT ts) known had ∧ ∀ j (h : j < known.length), j < i → 0 ≤ known[j] → known[j] < (ts.length : Int) → hadAt had known[j] = true) (fun i had => τ2) (fun i had => [(hb, hadO 4 had)]) (fun i had => []) (fun i _ => known.length - i) 0 (List.replicate ts.length false) (subL_cons (lkv rfl (by first | rfl | simp)) (subL_cons (lkv rfl (by first | rfl | simp)) (subL_cons (lkv rfl (by first | rfl | simp)) (subL_cons (lkv rfl (by first | rfl | simp)) (subL_cons (lkv rfl (by first | rfl | simp)) (subL_nil _)))))) ⟨Nat.zero_le _, by have := sound0 (itemsT ts) known; rwa [itemsT_len] at this, fun j _ h => absurd h (Nat.not_lt_zero _)⟩ (fun w h => h) ?_
    intro i had ⟨hlei, hso, hkk⟩
    have hsl : had.length = ts.length := by have := hso.1; rwa [itemsT_len] at this
    refine cw_seq ?_
    refine cw_region ?_
    refine ow_val rfl rfl (ex_lss rfl rfl) ?_
    refine ow_nil ?_
    refine qw_seq ?_
    refine cw_seq ?_
    refine cw_cond rfl (fun c20 => ?_) (fun c20 => ?_)
    ·
      have hlt : i < known.length := by have := of_decide_eq_true c20; omega
      obtain ⟨bk, ok, rfl, hca⟩ := hsk.resolve_left (fun hn => by subst hn; simp at hlt)
      refine cw_skip ?_
      refine qw_seq ?_
      refine cw_seq ?_
      refine cw_block ?_
      refine cw_seq ?_
      refine cw_region ?_
      refine ow_val rfl rfl (ex_index_nat (i := i) rfl rfl hlt) ?_
      refine ow_val rfl rfl (ex_load1 rfl (ld_imm1 ((hca.le hlσ).int hlt))) ?_
      refine ow_val rfl rfl (ex_assign rfl) ?_
      refine ow_nil ?_
      refine qw_seq ?_
      refine cw_seq ?_
      refine cw_region ?_
      refine ow_val rfl rfl (ex_move rfl) ?_
      refine ow_val rfl rfl (ex_geq rfl rfl) ?_
      refine ow_val rfl rfl (ex_move rfl) ?_
      refine ow_split (g := some (2, true)) rfl (fun s25 => ?_) (fun s25 => ?_)
      ·
        have q0 := of_decide_eq_true s25
        refine ow_val rfl (gd_go rfl s25) (ex_move rfl) ?_
        refine ow_val rfl (gd_go rfl s25) (ex_load1 rfl (ld_imm1 hc5)) ?_
        refine ow_val rfl (gd_go rfl s25) (ex_nilck rfl) ?_
        refine ow_val rfl (gd_go rfl s25) (ex_field rfl) ?_
        refine ow_val rfl (gd_go rfl s25) (ex_load1 rfl (ld_imm1 ((hcE.le hl2).fld (i := 1) rfl))) ?_
        refine ow_val rfl (gd_go rfl s25) (ex_len (ty := 0) rfl) ?_
        refine ow_val rfl (gd_go rfl s25) (ex_lss rfl rfl) ?_
        refine ow_val rfl rfl (ex_pickt rfl s25 rfl) ?_
        refine ow_nil ?_
        refine qw_seq ?_
        refine cw_cond rfl (fun c33 => ?_) (fun c33 => ?_)
        ·
          have q1 := of_decide_eq_true c33
          obtain ⟨kz, hkz⟩ : ∃ kz : Nat, known[i] = (kz : Int) := ⟨known[i].toNat, by omega⟩
          rw [hkz] at q1
          rw [hkz]
          refine cw_region ?_
          refine ow_val rfl rfl (ex_load1 rfl (ld_imm1 hc5)) ?_
          refine ow_val rfl rfl (ex_nilck rfl) ?_
          refine ow_val rfl rfl (ex_field rfl) ?_
          refine ow_val rfl rfl (ex_load1 rfl (ld_imm1 ((hcE.le hl2).fld (i := 1) rfl))) ?_
          refine ow_val rfl rfl (ex_move rfl) ?_
          refine ow_val rfl rfl (ex_index_nat (i := kz) rfl rfl (by omega)) ?_
          refine ow_u rfl (exu_bool 0 rfl rfl rfl (by omega)) ?_
          refine ow_nil ?_
          refine qw_block_normal ?_
          refine qw_seq ?_
          refine cw_region ?_
          refine ow_val rfl rfl (ex_addi (z := ((i + 1 : Nat) : Int)) rfl rfl (by omega) (by omega) (by omega)) ?_
          refine ow_val rfl rfl (ex_move rfl) ?_
          refine ow_nil ?_
          exact qw_roundH2 (i + 1) (had.set kz true) (by omega) (subL_cons (lkv rfl (by first | rfl | simp)) (subL_cons (lkv rfl (by first | rfl | simp)) (subL_cons (lkv rfl (by first | rfl | simp)) (subL_cons (lkv rfl (by first | rfl | simp)) (subL_cons (lkv rfl (by first | rfl | simp)) (subL_nil _)))))) ⟨by omega, hso.set (had_known (by rw [← hkz]; exact List.getElem_mem hlt) (by rw [itemsT_len]; omega)), fun j hj hji h0 h1 => by
            by_cases e : j = i
            · subst e
              rw [hkz, hadAt_nat, getD_set (by omega)]; simp
            · exact HadLe.set _ _ _ (hkk j hj (by omega) h0 h1)⟩ (fun w h => h)
        ·
          have q1 := of_decide_eq_false c33
          refine cw_skip ?_
          refine qw_block_normal ?_
          refine qw_seq ?_
          refine cw_region ?_
          refine ow_val rfl rfl (ex_addi (z := ((i + 1 : Nat) : Int)) rfl rfl (by omega) (by omega) (by omega)) ?_
          refine ow_val rfl rfl (ex_move rfl) ?_
          refine ow_nil ?_
          exact qw_roundH2 (i + 1) had (by omega) (subL_cons (lkv rfl (by first | rfl | simp)) (subL_cons (lkv rfl (by first | rfl | simp)) (subL_cons (lkv rfl (by first | rfl | simp)) (subL_cons (lkv rfl (by first | rfl | simp)) (subL_cons (lkv rfl (by first | rfl | simp)) (subL_nil _)))))) ⟨by omega, hso, fun j hj hji h0 h1 => by
            by_cases e : j = i
            · subst e; omega
            · exact hkk j hj (by omega) h0 h1⟩ (fun w h => h)
      ·
        have q0 := of_decide_eq_false s25
        refine ow_skip rfl (gd_no rfl s25) ?_
        refine ow_skip rfl (gd_no rfl s25) ?_
        refine ow_skip rfl (gd_no rfl s25) ?_
        refine ow_skip rfl (gd_no rfl s25) ?_
        refine ow_skip rfl (gd_no rfl s25) ?_
        refine ow_skip rfl (gd_no rfl s25) ?_
        refine ow_skip rfl (gd_no rfl s25) ?_
        refine ow_val rfl rfl (ex_pickf rfl s25 rfl) ?_
        refine ow_nil ?_
        refine qw_seq ?_
        refine cw_cond_f rfl ?_
        refine cw_skip ?_
        refine qw_block_normal ?_
        refine qw_seq ?_
        refine cw_region ?_
        refine ow_val rfl rfl (ex_addi (z := ((i + 1 : Nat) : Int)) rfl rfl (by omega) (by omega) (by omega)) ?_
        refine ow_val rfl rfl (ex_move rfl) ?_
        refine ow_nil ?_
        exact qw_roundH2 (i + 1) had (by omega) (subL_cons (lkv rfl (by first | rfl | simp)) (subL_cons (lkv rfl (by first | rfl | simp)) (subL_cons (lkv rfl (by first | rfl | simp)) (subL_cons (lkv rfl (by first | rfl | simp)) (subL_cons (lkv rfl (by first | rfl | simp)) (subL_nil _)))))) ⟨by omega, hso, fun j hj hji h0 h1 => by
          by_cases e : j = i
          · subst e; omega
          · exact hkk j hj (by omega) h0 h1⟩ (fun w h => h)
    ·
      have hei : i = known.length := by have := of_decide_eq_false c20; omega
      have hkn : KnownIn known had := fun k hk h0 h1 => by
        obtain ⟨j, hj, rfl⟩ := List.mem_iff_getElem.1 hk
        exact hkk j hj (by omega) h0 (by omega)
      refine cw_exit ?_
      refine qw_then_exit ?_
      refine qw_then_exit ?_
      refine qw_block_exit ?_
      refine qw_seq ?_
      refine cw_seq ?_
      refine cw_label ?_
      refine qw_seq ?_
      refine cw_seq ?_
      refine cw_block ?_
      refine cw_loopD (fun x : List Nat × List Bool => (⟨x.1.map markD⟩ : DS)) (fun x => [(0, .pointer (some ⟨b, 0, none⟩)), (5, .pointer (some ⟨b5, 0, none⟩))]) (fun x w' => (Sound (itemsT ts) known x.2 ∧ KnownIn known x.2) ∧ St w (fun _ => False) τ2 [(hb, hadO 4 x.2)] (marks x.1) w') (fun x => left x.2) ([], had) rfl (subL_cons (lkv rfl (by first | rfl | simp)) (subL_cons (lkv rfl (by first | rfl | simp)) (subL_nil _))) (fun w' h => ⟨⟨hso, hkn⟩, h⟩) ?_
      clear hkn hei hkk hsl hso hlei
      rintro ⟨Ds, had⟩ d1 hd1
      have hds1 : d1.ds = Ds.map markD := by cases hd1; rfl
      refine cw_and (fun hsk2 => ?_)
      obtain ⟨hso, hkn⟩ := hsk2
      simp only at hso hkn
      refine cw_block ?_
      refine cw_seq ?_
      refine cw_region ?_
      refine ow_blk rfl rfl exw_alloc ?_; intro b8
      refine ow_u rfl (exu_store1 0 rfl rfl rfl rfl rfl rfl) ?_
      refine ow_nil ?_
      refine qw_seq ?_
      refine cw_seq ?_
      refine cw_seq ?_
      refine cw_region ?_
      refine ow_val rfl rfl (ex_load1 rfl (ld_imm1 hc5)) ?_
      refine ow_cr rfl rfl (ex_callf rfl (fun w h => callR (pFound h.im))) (fun v42 τ3 hl3 hf3 hr3 => ?_)
      obtain ⟨b1, rfl, hcb1⟩ := hr3
      refine ow_nil ?_
      refine qw_seq ?_
      refine cw_block ?_
      have hsl : had.length = ts.length := by have := hso.1; rwa [itemsT_len] at this
      refine cw_range (its := itemsT ts) (known := known) (had0 := had) (hb := hb) (bm := b8) (b1 := b1) (tb := 4) (Ds := Ds) rfl (fun w1 h1 => ?_) hso rfl rfl ?_ ?_
      · intro l J Jx W hW hJ hJx hY h0
        have hhb1 := h1.own (p := (hb, hadO 4 had)) (by simp)
        have hhlt := (Array.getElem?_eq_some_iff.1 hhb1).1
        have hfnd := pFoundIt (l := l) (n₀ := w1.heap.size) (hb := hb) (bm := b8) (be := be) (b1 := b1) (its := itemsT ts) (known := known) (had0 := had) (J := J) (Jx := Jx) (σ := τ3) (iv := iv) (ch := ch) (w := W) (hI.itemsOK hfew) hso ⟨h1.fresh (p := (hb, hadO 4 had)) (by simp), h1.fresh (p := (b8, .cells #[.bool false] 4)) (by simp), fun b o e => .inl (h1.im.lt e)⟩ (h1.lt (p := (b8, .cells #[.bool false] 4)) (by simp)) hW.size (by rw [itemsT_len]; exact hcE.le (hl2.trans hl3)) (hIt.le (hl2.trans hl3)) hcb1 (Imm.ext (h1.im.below hW) (by rw [hW.block hb hhlt]; exact hhb1)) hJ hY h0
        exact callsIn_wide.2 (by simpa using hfnd)
      · clear hds1 hd1
        clear d1
        intro l x hadx bb W Q' hlen hQ
        have hxl : x.1 < ts.length := Nat.lt_of_lt_of_eq x.2.1 (itemsT_len ts)
        rw [itemsT_len] at hlen
        refine oi_val wide_fn (fun c h => (by cases h)) rfl rfl (ex_load1 rfl (ld_imm1 (hc5.le hl3))) ?_
        refine oi_val wide_fn (fun c h => (by cases h)) rfl rfl (ex_nilck rfl) ?_
        refine oi_val wide_fn (fun c h => (by cases h)) rfl rfl (ex_field rfl) ?_
        refine oi_val wide_fn (fun c h => (by cases h)) rfl rfl (ex_load1 rfl (ld_imm1 ((hcE.le (hl2.trans hl3)).fld (i := 1) rfl))) ?_
        refine oi_val wide_fn (fun c h => (by cases h)) rfl rfl (ex_move rfl) ?_
        refine oi_val wide_fn (fun c h => (by cases h)) rfl rfl (ex_index_nat (i := x.1) rfl rfl hxl) ?_
        refine oi_u wide_fn (fun c h => (by cases h)) rfl (exu_bool 1 rfl rfl rfl (by omega)) ?_
        refine oi_u wide_fn (fun c h => (by cases h)) rfl (exu_store1 0 rfl rfl rfl rfl rfl rfl) ?_
        refine oi_nil ?_
        exact fun a w' hf hs => hQ a w' hs
      · intro d2 D xs had2 hd2 hall hso2 hle2 hni2 hin2
        have hds2 : d2.ds = (D :: Ds).map markD := by rw [hd2, hds1]; rfl
        have hsl2 : had2.length = ts.length := by have := hso2.1; rwa [itemsT_len] at this
        refine qw_block_normal ?_
        refine qw_seq ?_
        refine cw_seq ?_
        refine cw_region ?_
        refine ow_val rfl rfl (ex_load1 rfl (by first | exact ld_own1 0 rfl rfl | exact ld_own1 1 rfl rfl | exact ld_own1 2 rfl rfl | exact ld_own1 3 rfl rfl | exact ld_own1 4 rfl rfl | exact ld_own1 5 rfl rfl | exact ld_own1 6 rfl rfl | exact ld_own1 7 rfl rfl | exact ld_ownG1 0 rfl rfl | exact ld_ownG1 1 rfl rfl | exact ld_imm1 (by assumption))) ?_
        refine ow_val rfl rfl (ex_not rfl) ?_
        refine ow_nil ?_
        refine qw_seq ?_
        refine cw_cond rfl (fun c51 => ?_) (fun c51 => ?_)
        ·
          have hxs : xs = [] := by simpa using c51
          have hcl := hall.1 hxs
          have e2 := hni2 hxs
          subst e2
          refine cw_exit ?_
          refine qw_block_other rfl ?_
          refine qw_then_exit ?_
          refine qw_block_exit ?_
          refine qw_seq ?_
          refine cw_seq ?_
          refine cw_region ?_
          refine ow_val rfl rfl (ex_assign rfl) ?_
          refine ow_nil ?_
          refine qw_seq ?_
          refine cw_seq ?_
          refine cw_seq ?_
          refine cw_region ?_
          refine ow_val rfl rfl (ex_load1 rfl (ld_imm1 (hc5.le hl3))) ?_
          refine ow_val rfl rfl (ex_nilckD rfl) ?_
          refine ow_val rfl rfl (ex_field rfl) ?_
          refine ow_val rfl rfl (ex_load1 rfl (ld_imm1 ((hcE.le (hl2.trans hl3)).fld (i := 1) rfl))) ?_
          refine ow_val rfl rfl (ex_len (ty := 0) rfl) ?_
          refine ow_val rfl rfl (ex_move rfl) ?_
          refine ow_nil ?_
          refine qw_seq ?_
          refine cw_block ?_
          refine cw_loop3 (fun (i : Nat) (v10 : Value) (Gs : List (Nat × Obj)) => [(10, v10), (55, .slice (some ⟨hb, 0, none⟩) ts.length ch), (56, .int .i64 (ts.length : Int)), (57, .int .i64 (i : Int))]) (fun i v10 Gs => i ≤ ts.length ∧ OwnSl 3 1 v10 (outB 0 (had2.take i)).length (intsV (outB 0 (had2.take i))) Gs) (fun i v10 Gs => τ3) (fun i v10 Gs => Gs ++ marks (D :: Ds)) (fun i _ _ => ts.length - i) 0 (.slice none 0 0) [] (subL_cons (lkv rfl (by first | rfl | simp)) (subL_cons (lkv rfl (by first | rfl | simp)) (subL_cons (lkv rfl (by first | rfl | simp)) (subL_cons (lkv rfl (by first | rfl | simp)) (subL_nil _))))) ⟨Nat.zero_le _, by simpa [outB, intsV] using OwnSl.nil 3 1⟩ (fun w h => h) ?_
          intro i v10 Gs ⟨hlei, hO⟩
          refine cw_seq ?_
          refine cw_region ?_
          refine ow_val rfl rfl (ex_lss rfl rfl) ?_
          refine ow_nil ?_
          refine qw_seq ?_
          refine cw_seq ?_
          refine cw_cond rfl (fun c58 => ?_) (fun c58 => ?_)
          ·
            have hlt : i < ts.length := by have := of_decide_eq_true c58; omega
            have hol := outB_len (had2.take i) 0
            rw [List.length_take] at hol
            refine cw_skip ?_
            refine qw_seq ?_
            refine cw_seq ?_
            refine cw_block ?_
            refine cw_seq ?_
            refine cw_region ?_
            refine ow_val rfl rfl (ex_move rfl) ?_
            refine ow_val rfl rfl (ex_index_nat (i := i) rfl rfl hlt) ?_
            refine ow_val rfl rfl (ex_load1 rfl (ld_had 1 rfl (by omega))) ?_
            refine ow_val rfl rfl (ex_assign rfl) ?_
            refine ow_val rfl rfl (ex_assign rfl) ?_
            refine ow_nil ?_
            refine qw_seq ?_
            refine cw_seq ?_
            refine cw_region ?_
            refine ow_val rfl rfl (ex_move rfl) ?_
            refine ow_nil ?_
            refine qw_seq ?_
            refine cw_cond rfl (fun c62 => ?_) (fun c62 => ?_)
            ·
              refine cw_region ?_
              refine ow_val rfl rfl (ex_move rfl) ?_
              refine ow_val rfl rfl (ex_move rfl) ?_
              refine ow_slit rfl rfl (exw_slit1 rfl rfl) ?_; intro b65
              refine ow_app rfl rfl (exw_append (news := [.int .i64 (i : Int)]) rfl rfl hO rfl (.inr ⟨_, _, rfl, (ld_ownN (k := 1) 0 rfl rfl).2⟩) (fun u hu => by simp at hu; subst hu; rfl) (by unfold maxLen; omega) (by omega)) (fun v66 G66 hO66 hz66 => ?_)
              refine ow_val rfl rfl (ex_assign rfl) ?_
              refine ow_nil ?_
              refine qw_block_normal ?_
              refine qw_seq ?_
              refine cw_region ?_
              refine ow_val rfl rfl (ex_addi (z := ((i + 1 : Nat) : Int)) rfl rfl (by omega) (by omega) (by omega)) ?_
              refine ow_val rfl rfl (ex_move rfl) ?_
              refine ow_nil ?_
              refine qw_round3 (i + 1) v66 G66 (by omega) (subL_cons (lkv rfl (by first | rfl | simp)) (subL_cons (lkv rfl (by first | rfl | simp)) (subL_cons (lkv rfl (by first | rfl | simp)) (subL_cons (lkv rfl (by first | rfl | simp)) (subL_nil _))))) ⟨by omega, ?_⟩ (fun w h => h.drop (List.sublist_cons_self _ _))
              rw [outB_step (by omega), if_pos c62, intsV_app, List.length_append]
              exact hO66
            ·
              refine cw_skip ?_
              refine qw_block_normal ?_
              refine qw_seq ?_
              refine cw_region ?_
              refine ow_val rfl rfl (ex_addi (z := ((i + 1 : Nat) : Int)) rfl rfl (by omega) (by omega) (by omega)) ?_
              refine ow_val rfl rfl (ex_move rfl) ?_
              refine ow_nil ?_
              refine qw_round3 (i + 1) v10 Gs (by omega) (subL_cons (lkv rfl (by first | rfl | simp)) (subL_cons (lkv rfl (by first | rfl | simp)) (subL_cons (lkv rfl (by first | rfl | simp)) (subL_cons (lkv rfl (by first | rfl | simp)) (subL_nil _))))) ⟨by omega, ?_⟩ (fun w h => h)
              rw [outB_step (by omega), if_neg (by rw [c62]; decide), List.append_nil]
              exact hO
          ·
            refine cw_exit ?_
            refine qw_then_exit ?_
            refine qw_then_exit ?_
            refine qw_block_exit ?_
            refine qw_seq ?_
            refine cw_seq ?_
            have hei2 : i = ts.length := by have := of_decide_eq_false c58; omega
            rw [List.take_of_length_le (by omega)] at hO
            refine cw_frzIs (hlσ.trans hl3) hO (fun τ4 σ4 q1 q2 q3 q4 q5 => ?_)
            have q5' := q5
            obtain ⟨p5, c5, rfl, _, _⟩ := q5'
            refine cw_region ?_
            refine ow_val rfl rfl (ex_move rfl) ?_
            refine ow_val rfl rfl (ex_assign rfl) ?_
            refine ow_nil ?_
            refine qw_seq ?_
            refine cw_ret ?_
            refine qw_nogoto_ret ?_
            refine qw_retM1 hds2 rfl rfl (fun w' h => ?_)
            rw [← Clos.closL (clos_out hso hcl hkn)]
            exact h.givesS q4 q2 q3 q5
        ·
          obtain ⟨x, r, hxs⟩ : ∃ x r, xs = x :: r := by
            cases xs with
            | nil => simp at c51
            | cons x r => exact ⟨x, r, rfl⟩
          have hlft : left had2 < left had := left_lt (by omega) hle2 (hall.2 x r hxs) (hin2 x (by rw [hxs]; simp))
          have hkn2 : KnownIn known had2 := fun k hk h0 h1 => hle2 _ (hkn k hk h0 (by omega))
          refine cw_skip ?_
          refine qw_block_normal ?_
          exact qw_roundD (D :: Ds, had2) (by cases d2 with | mk ds2 => exact congrArg DS.mk hds2) hlft (subL_cons (lkv rfl (by first | rfl | simp)) (subL_cons (lkv rfl (by first | rfl | simp)) (subL_nil _))) (fun w' h => ⟨⟨hso2, hkn2⟩, (h.drop (List.sublist_cons_self _ _)).less hl3⟩)
end Go.Proofs.YtnjomdjkbbhdoaaGreatDoor
namespace Go.Proofs.YtnjomdjkbbhdoaaGreatDoor
set_option linter.unusedVariables false
set_option linter.unusedSimpArgs false
theorem items_one : itemsT [atomOne, pubOne] = [⟨1, [], []⟩, ⟨2, [0], []⟩] := by
  have hp : posT [atomOne, pubOne] atomOne = 0 := by simp [posT, findI, ord_self]
  have h0 : ∀ z : Int, mentS [] z = [] := fun z => mentS_short (by simp)
  unfold itemsT
  simp only [List.mapIdx_cons, List.mapIdx_nil]
  unfold itemT
  simp only [Function.comp, show atomOne.op = 1 from rfl, show atomOne.kids = [] from rfl, show atomOne.data = [] from rfl, show pubOne.op = 2 from rfl, show pubOne.kids = [atomOne] from rfl, show pubOne.data = [] from rfl, h0, List.map_nil, List.map_cons, hp]
theorem closH : closL (itemsT [atomOne, pubOne]) [0] = [0, 1] := by
  refine (Clos.closL ⟨by decide, fun x => ?_⟩).symm
  rw [items_one]
  have a0 : Had [⟨1, [], []⟩, ⟨2, [0], []⟩] [0] 0 := had_known (by simp) (by simp)
  have a1 : Had [⟨1, [], []⟩, ⟨2, [0], []⟩] [0] 1 := fun b h1 h2 h3 => by
    refine (h2 1 (by simp)).1 ?_
    have h4 := h3 0 (by simp) (by omega) (by rw [h1]; simp)
    simp [madeB, allB, h4]
  constructor
  · intro h
    simp only [List.mem_cons, List.not_mem_nil, or_false] at h
    rcases h with rfl | rfl
    · exact ⟨0, by simp, rfl, a0⟩
    · exact ⟨1, by simp, rfl, a1⟩
  · rintro ⟨k, h1, rfl, _⟩
    have : k = 0 ∨ k = 1 := by simp at h1; omega
    rcases this with rfl | rfl <;> simp
theorem closE : closL (itemsT [atomOne, pubOne]) [] = [] := by
  refine (Clos.closL ⟨by simp, fun x => ⟨(fun h => by cases h), ?_⟩⟩).symm
  rw [items_one]
  rintro ⟨k, h1, rfl, h2⟩
  exfalso
  refine not_had [false, false] rfl (fun n hn => ?_) (fun z hz => by cases hz) ?_ h2
  · have : n = 0 ∨ n = 1 := by simp at hn; omega
    rcases this with rfl | rfl <;> simp [madeB, allB, hadAt]
  · have : k = 0 ∨ k = 1 := by simp at h1; omega
    rcases this with rfl | rfl <;> rfl
theorem closL_len (ts : List T) (known : List Int) : (closL (itemsT ts) known).length ≤ ts.length := by
  have := (clos_closL (itemsT ts) known).len
  rwa [itemsT_len] at this
def NamedIn (ts : List T) (n : Int) : Prop := ∃ i, ∃ h : i < ts.length, ts[i].op = 4 ∧ n ∈ mentS ts[i].data (i : Int)
open Classical in
noncomputable def namedB (ts : List T) (n : Int) : Bool := decide (NamedIn ts n)
theorem namedB_false {ts : List T} {n : Int} (h : namedB ts n = false) : ∀ i (h : i < ts.length), ts[i].op = 4 → n ∉ mentS ts[i].data (i : Int) := fun i hi ho hm => by
  classical
  unfold namedB at h
  exact of_decide_eq_false h ⟨i, hi, ho, hm⟩
theorem namedB_true {ts : List T} {n : Int} {i : Nat} (hi : i < ts.length) (ho : ts[i].op = 4) (hm : n ∈ mentS ts[i].data (i : Int)) : namedB ts n = true := by
  classical
  unfold namedB
  exact decide_eq_true ⟨i, hi, ho, hm⟩
theorem namedB_none {ts : List T} {n : Int} (h : ∀ i (h : i < ts.length), ts[i].op = 4 → n ∉ mentS ts[i].data (i : Int)) : namedB ts n = false := by
  classical
  unfold namedB
  exact decide_eq_false fun ⟨i, hi, ho, hm⟩ => h i hi ho hm
theorem atom_eq {k : T} (h : right k = true) (ho : k.op = 1) : k = .mk 1 k.num [] [] := by
  obtain ⟨o, n, d, ks⟩ := k
  have hs := (right_shape h).1
  simp only [T.op] at ho
  subst ho
  obtain ⟨_, _, h3, _⟩ := shape_op hs
  have hk : ks = [] := List.eq_nil_of_length_eq_zero (h3 (.inl rfl))
  have hd : d = [] := by
    unfold shape at hs
    simp only [Bool.and_eq_true, Bool.or_eq_true, decide_eq_true_eq] at hs
    refine List.eq_nil_of_length_eq_zero (hs.1.1.2.resolve_right (fun h => ?_))
    simp only [T.op] at h
    omega
  rw [hk, hd]
  rfl
theorem secret_key {ts : List T} (hI : TabI ts) {known : List Int} {num : Int} {i : Nat} (hi : i < ts.length) (hx0 : 0 ≤ posT ts (.mk 1 num [] [])) (hop : ts[i].op = 6 ∨ ts[i].op = 2 ∨ ts[i].op = 3) (hk0 : 0 < ts[i].kids.length) (h1 : ts[i].kids[0].op = 1) (h2 : ts[i].kids[0].num = num)
    (hmx : ∀ j (h : j < ts.length), ts[j].op = 4 → posT ts (.mk 1 num [] []) ∉ mentS ts[j].data (j : Int)) (hmn : ∀ j (h : j < ts.length), ts[j].op = 4 → (i : Int) ∉ mentS ts[j].data (j : Int))
    (hkx : posT ts (.mk 1 num [] []) ∉ known) (hkn : (i : Int) ∉ known) : (i : Int) ∉ closL (itemsT ts) known := fun hm => by
  obtain ⟨_, _, hh⟩ := (clos_closL _ _).mem.1 hm
  rw [Int.toNat_natCast] at hh
  have hkm : ts[i].kids[0] ∈ ts[i].kids := List.getElem_mem hk0
  have hkr := hI.rt _ (hI.kidsIn _ (List.getElem_mem hi) _ hkm)
  have he : ts[i].kids[0] = .mk 1 num [] [] := by rw [atom_eq hkr h1, h2]
  obtain ⟨x, hx, hlx, htx⟩ := getElem?_pos (ts := ts) (t := .mk 1 num [] []) rfl hx0
  rw [hx] at hmx hkx
  refine secret hI (x := x) (n := i) hlx (by rw [htx]; rfl) hi (.inr ⟨by omega, ?_⟩) (fun j hj ho => ⟨hmx j hj ho, hmn j hj ho⟩) hkx hkn hh
  rw [← hx, ← he]
  exact List.mem_map_of_mem hkm
theorem secret_atom {ts : List T} (hI : TabI ts) {known : List Int} {num : Int} (hx0 : 0 ≤ posT ts (.mk 1 num [] []))
    (hmx : ∀ j (h : j < ts.length), ts[j].op = 4 → posT ts (.mk 1 num [] []) ∉ mentS ts[j].data (j : Int)) (hkx : posT ts (.mk 1 num [] []) ∉ known) : posT ts (.mk 1 num [] []) ∉ closL (itemsT ts) known := fun hm => by
  obtain ⟨_, _, hh⟩ := (clos_closL _ _).mem.1 hm
  obtain ⟨x, hx, hlx, htx⟩ := getElem?_pos (ts := ts) (t := .mk 1 num [] []) rfl hx0
  rw [hx] at hmx hkx hh
  rw [Int.toNat_natCast] at hh
  exact secret hI (x := x) (n := x) hlx (by rw [htx]; rfl) hlx (.inl rfl) (fun j hj ho => ⟨hmx j hj ho, hmx j hj ho⟩) hkx hkx hh
end Go.Proofs.YtnjomdjkbbhdoaaGreatDoor
namespace Go.Proofs.YtnjomdjkbbhdoaaGreatDoor
open Go.RowKit
set_option linter.unusedVariables false
set_option linter.unusedSimpArgs false
set_option maxRecDepth 100000
instance : ZeroT Tryz.prog 23 (.slice none 0 0) := ⟨by kernel_rfl⟩
set_option maxHeartbeats 400000 in
theorem pCanN {v u : Value} {σ : Hp} {w : World} (hi : Imm σ w) : Calls Tryz.prog 12 #[.pointer none, v, u] w fun e w' => e = .returned (.bool false) ∧ Below w.heap.size w w' := by
  refine enter (St w (fun _ => False) σ [] []) Tryz.func12 rfl Tryz.ntmps12 rfl (St.start hi) ?_
  refine cw_seq ?_
  refine cw_region ?_
  refine ow_val rfl rfl (ex_assign rfl) ?_
  refine ow_nil ?_
  refine qw_seq ?_
  refine cw_seq ?_
  refine cw_seq ?_
  refine cw_region ?_
  refine ow_val rfl rfl (ex_move rfl) ?_
  refine ow_val rfl rfl (ex_ptrnil rfl) ?_
  refine ow_nil ?_
  refine qw_seq ?_
  refine cw_cond rfl (fun c9 => ?_) (fun c9 => ?_)
  ·
    refine cw_seq ?_
    refine cw_region ?_
    refine ow_val rfl rfl (ex_assign rfl) ?_
    refine ow_nil ?_
    refine qw_seq ?_
    refine cw_ret ?_
    refine qw_then_ret ?_
    refine qw_ret1 rfl rfl (fun w' h => ⟨congrArg (fun z => Ending.returned (.bool z)) ?_, h.ag.below⟩)
    rfl
  ·
    cases c9
set_option maxHeartbeats 400000 in
theorem pHead8 {σ : Hp} {w : World} (hi : Imm σ w) (htab : TabC Tryz.prog σ) : Calls Tryz.prog 9 #[] w fun e w' => e = .returned (.bool true) ∧ Below w.heap.size w w' := by
  refine enter (St w (fun _ => False) σ [] []) Tryz.func9 rfl Tryz.ntmps9 rfl (St.start hi) ?_
  refine cw_seq ?_
  refine cw_region ?_
  refine ow_val rfl rfl (ex_assign rfl) ?_
  refine ow_nil ?_
  refine qw_seq ?_
  refine cw_seq ?_
  refine cw_region ?_
  refine ow_ck0E rfl rfl (ex_callf rfl (fun w h => pNew h.im)) (fun v3 σ4 K4 hl4 hf4 hr4 => ?_)
  obtain ⟨b, rfl, hv4⟩ := hr4
  refine ow_val rfl rfl (ex_assign rfl) ?_
  refine ow_nil ?_
  refine qw_seq ?_
  refine cw_seq ?_
  refine cw_seq ?_
  refine cw_region ?_
  refine ow_val rfl rfl (ex_move rfl) ?_
  refine ow_val rfl rfl (ex_ptrnil rfl) ?_
  refine ow_nil ?_
  refine qw_seq ?_
  refine cw_cond rfl (fun c5 => ?_) (fun c5 => ?_)
  ·
    simp at c5
  ·
    refine cw_skip ?_
    refine qw_seq ?_
    refine cw_seq ?_
    refine cw_region ?_
    refine ow_val rfl rfl (ex_move rfl) ?_
    refine ow_val rfl rfl (ex_build (parts := [(0, _), (1, _)]) (cells := #[.int .i64 1, .int .i64 1, .slice none 0 0, .slice none 0 0]) rfl (by kernel_rfl)) ?_
    refine ow_slit rfl rfl (exw_slit1 rfl rfl) ?_; intro b10
    refine ow_frzH (fun _ h => h) (fun σ5 hl5 hf5 hb10 => ?_)
    have htp : TermC σ5 [.int .i64 2, .int .i64 0, .slice none 0 0, .slice (some ⟨b10, 0, none⟩) 1 1] pubOne := TermC.mk (by omega) (by omega) (BytesV.nil _) (KidsV.one (CellsAt.of4 hb10) (atomOne_c _))
    refine ow_val rfl rfl (ex_build (parts := [(0, _), (3, _)]) (cells := #[.int .i64 2, .int .i64 0, .slice none 0 0, .slice (some ⟨b10, 0, none⟩) 1 1]) rfl (by kernel_rfl)) ?_
    refine ow_ckE rfl rfl (ex_callf rfl (fun w h => pIntern pubOne h.hasE ((htab.le hl4).le hl5) (hv4.le hl5) htp)) (fun v12 σ6 K6 hl6 hf6 hr6 => ?_)
    rw [intern_pub] at hr6
    obtain ⟨rfl, hv6⟩ := hr6
    have htab6 := ((htab.le hl4).le hl5).le hl6
    refine ow_nil ?_
    refine qw_seq ?_
    refine cw_seq ?_
    refine cw_region ?_
    refine ow_val rfl rfl (ex_move rfl) ?_
    refine ow_slit rfl rfl (exw_slit1 rfl rfl) ?_; intro b12
    refine ow_frzO (fun _ h => h) (fun σ7 hl7 hf7 hb12 => ?_)
    have hz0 : IntsV σ7 (.slice (some ⟨b12, 0, none⟩) 1 1) [0] := IntsV.lit hb12 rfl
    refine ow_cr rfl rfl (ex_callf rfl (fun w h => callR (pClosure h.hasE (htab6.le hl7) (hv6.le hl7) hz0 (by decide)))) (fun v13 σ8 hl8 hf8 hr8 => ?_)
    rw [closH] at hr8
    obtain ⟨p8, c8, rfl, _, hs8⟩ := hr8
    obtain ⟨bq, oq, rfl, hcq⟩ := hs8.resolve_left (by simp)
    refine ow_val rfl rfl (ex_assign rfl) ?_
    refine ow_nil ?_
    refine qw_seq ?_
    refine cw_seq ?_
    refine cw_region ?_
    refine ow_val rfl rfl (ex_move rfl) ?_
    refine ow_val rfl rfl (ex_len (ty := 0) rfl) ?_
    refine ow_val rfl rfl (ex_eql rfl rfl) ?_
    refine ow_val rfl rfl (ex_move rfl) ?_
    refine ow_split (g := some (3, true)) rfl (fun s17 => ?_) (fun s17 => ?_)
    ·
      refine ow_val rfl (gd_go rfl s17) (ex_move rfl) ?_
      refine ow_val rfl (gd_go rfl s17) (ex_index_nat (i := 0) rfl rfl (by simp)) ?_
      refine ow_val rfl (gd_go rfl s17) (ex_load1 rfl (ld_imm1 (hcq.int (i := 0) (by simp)))) ?_
      refine ow_val rfl (gd_go rfl s17) (ex_eql rfl rfl) ?_
      refine ow_val rfl rfl (ex_pickt rfl s17 rfl) ?_
      refine ow_val rfl rfl (ex_move rfl) ?_
      refine ow_split (g := some (9, true)) rfl (fun s23 => ?_) (fun s23 => ?_)
      ·
        refine ow_val rfl (gd_go rfl s23) (ex_move rfl) ?_
        refine ow_val rfl (gd_go rfl s23) (ex_index_nat (i := 1) rfl rfl (by simp)) ?_
        refine ow_val rfl (gd_go rfl s23) (ex_load1 rfl (ld_imm1 (hcq.int (i := 1) (by simp)))) ?_
        refine ow_val rfl (gd_go rfl s23) (ex_eql rfl rfl) ?_
        refine ow_val rfl rfl (ex_pickt rfl s23 rfl) ?_
        refine ow_val rfl rfl (ex_move rfl) ?_
        refine ow_split (g := some (15, true)) rfl (fun s29 => ?_) (fun s29 => ?_)
        ·
          refine ow_val rfl (gd_go rfl s29) (ex_move rfl) ?_
          refine ow_cr rfl (gd_go rfl s29) (ex_callf rfl (fun w h => callR (pClosure h.hasE ((htab6.le hl7).le hl8) ((hv6.le hl7).le hl8) (IntsV.nil _) (by decide)))) (fun v31 σ9 hl9 hf9 hr9 => ?_)
          rw [closE] at hr9
          obtain ⟨p9, c9, rfl, _, _⟩ := hr9
          refine ow_val rfl (gd_go rfl s29) (ex_len (ty := 0) rfl) ?_
          refine ow_val rfl (gd_go rfl s29) (ex_eql rfl rfl) ?_
          refine ow_val rfl rfl (ex_pickt rfl s29 rfl) ?_
          refine ow_val rfl rfl (ex_move rfl) ?_
          refine ow_split (g := some (21, true)) rfl (fun s35 => ?_) (fun s35 => ?_)
          ·
            refine ow_cv rfl (gd_go rfl s35) (ex_callf rfl (fun w h => callB ((pCanN h.im)))) ?_
            refine ow_val rfl (gd_go rfl s35) (ex_not rfl) ?_
            refine ow_val rfl rfl (ex_pickt rfl s35 rfl) ?_
            refine ow_val rfl rfl (ex_assign rfl) ?_
            refine ow_nil ?_
            refine qw_seq ?_
            refine cw_ret ?_
            refine qw_ret1 rfl rfl (fun w' h => ⟨congrArg (fun z => Ending.returned (.bool z)) ?_, h.ag.below⟩)
            rfl
          ·
            exact absurd s35 (by decide)
        ·
          exact absurd s29 (by decide)
      ·
        exact absurd s23 (by decide)
    ·
      exact absurd s17 (by decide)
end Go.Proofs.YtnjomdjkbbhdoaaGreatDoor
