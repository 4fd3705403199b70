/-
  What the law VaultTellsUpto needs, part 4.
  No condition.
-/
import Derived.Test.YtnjomdjkbbhdoaaDoorP3
set_option linter.unusedVariables false
set_option linter.unusedSimpArgs false
set_option linter.unusedSectionVars false
namespace Go.Proofs.YtnjomdjkbbhdoaaDoor
open Go.RowKit
set_option linter.unusedVariables false
set_option linter.unusedSimpArgs false
set_option maxRecDepth 100000
set_option maxHeartbeats 400000 in
theorem rFind (t : T) {b : Nat} {sv : Value} {ts : List T} {ct : List Value} {σ : Hp} {w : World} (hi : Imm σ w) (hc0 : CellsAt σ b 0 [sv]) (hks : KidsV σ sv ts) (ht : TermC σ ct t) : Calls Tryd.prog 21 #[.pointer (some ⟨b, 0, none⟩), .agg ct.toArray] w fun e w' => e = .returned (.tuple #[.int .i64 (posT ts t), .bool (decide (0 ≤ posT ts t))]) ∧ Below w.heap.size w w' := by
  have ht0 := ht
  obtain ⟨dv, kv, rfl, ho, hn, hd, hk⟩ := ht.opn
  obtain ⟨p, c, rfl, hcl, hml⟩ := hks.slice
  have hm2 := hml
  unfold maxKids at hm2
  refine enter (St w (fun _ => False) σ [] []) Tryd.func21 rfl Tryd.ntmps21 rfl (St.start hi) ?_
  refine cw_seq ?_
  refine cw_region ?_
  refine ow_blk rfl rfl (exw_box rfl) ?_; intro b3
  refine ow_val rfl rfl (ex_assign rfl) ?_
  refine ow_val rfl rfl (ex_assign rfl) ?_
  refine ow_nil ?_
  refine qw_seq ?_
  refine cw_seq ?_
  refine cw_seq ?_
  refine cw_region ?_
  refine ow_val rfl rfl (ex_assign rfl) ?_
  refine ow_nil ?_
  refine qw_seq ?_
  refine cw_block ?_
  refine cw_loopS (α := Nat) (fun i => [(0, .pointer (some ⟨b, 0, none⟩)), (3, .pointer (some ⟨b3, 0, none⟩)), (6, .int .i64 (i : Int))]) (fun i => i ≤ ts.length ∧ ∀ j (h : j < ts.length), j < i → decide (ord ts[j] t = 0) = false) (fun i => ts.length - i) 0 (subL_cons (lkv rfl (by first | rfl | simp)) (subL_cons (lkv rfl (by first | rfl | simp)) (subL_cons (lkv rfl (by first | rfl | simp)) (subL_nil _)))) ⟨Nat.zero_le _, fun j _ h => absurd h (Nat.not_lt_zero _)⟩ ?_
  intro i ⟨hle, hno⟩
  refine cw_seq ?_
  refine cw_seq ?_
  refine cw_region ?_
  refine ow_val rfl rfl (ex_move rfl) ?_
  refine ow_val rfl rfl (ex_move rfl) ?_
  refine ow_val rfl rfl (ex_nilck rfl) ?_
  refine ow_val rfl rfl (ex_field rfl) ?_
  refine ow_val rfl rfl (ex_load1 rfl (by first | exact ld_own1 0 rfl rfl | exact ld_own1 1 rfl rfl | exact ld_own1 2 rfl rfl | exact ld_own1 3 rfl rfl | exact ld_own1 4 rfl rfl | exact ld_own1 5 rfl rfl | exact ld_own1 6 rfl rfl | exact ld_own1 7 rfl rfl | exact ld_ownG1 0 rfl rfl | exact ld_ownG1 1 rfl rfl | exact ld_imm1 (by assumption))) ?_
  refine ow_val rfl rfl (ex_len (ty := 0) rfl) ?_
  refine ow_val rfl rfl (ex_lss rfl rfl) ?_
  refine ow_nil ?_
  refine qw_seq ?_
  refine cw_cond rfl (fun c13 => ?_) (fun c13 => ?_)
  ·
    refine cw_skip ?_
    refine qw_seq ?_
    refine cw_seq ?_
    refine cw_block ?_
    refine cw_seq ?_
    have hlt : i < ts.length := by have := of_decide_eq_true c13; omega
    obtain ⟨bk, f, c', cs, e1, e2, hc1, ht1⟩ := hks.get i hlt
    cases e1
    refine flow_sound 9 (by kernel_rfl) ?_
    refine flow_val rfl (ex_move rfl) ?_
    refine flow_val rfl (ex_nilck rfl) ?_
    refine flow_val rfl (ex_field rfl) ?_
    refine flow_val rfl (ex_load1 rfl (by first | exact ld_own1 0 rfl rfl | exact ld_own1 1 rfl rfl | exact ld_own1 2 rfl rfl | exact ld_own1 3 rfl rfl | exact ld_own1 4 rfl rfl | exact ld_own1 5 rfl rfl | exact ld_own1 6 rfl rfl | exact ld_own1 7 rfl rfl | exact ld_ownG1 0 rfl rfl | exact ld_ownG1 1 rfl rfl | exact ld_imm1 (by assumption))) ?_
    refine flow_val rfl (ex_move rfl) ?_
    refine flow_val rfl (ex_index_nat rfl rfl (by omega)) ?_
    refine flow_val rfl (ex_loadR rfl (ld_immT hc1 ht1)) ?_
    refine flow_val rfl (ex_loadR rfl (by first | exact ld_ownN 0 rfl rfl | exact ld_ownN 1 rfl rfl | exact ld_ownN 2 rfl rfl | exact ld_ownN 3 rfl rfl | exact ld_ownN 4 rfl rfl | exact ld_ownN 5 rfl rfl | exact ld_ownN 6 rfl rfl | exact ld_ownN 7 rfl rfl | exact ld_ownGN 0 rfl rfl | exact ld_ownGN 1 rfl rfl | exact ld_immT (by assumption) (by assumption))) ?_
    refine flow_cv rfl (ex_callf rfl (fun w h => callB ((rSame _ _ h.im ht1 ht0)))) ?_
    refine flow_nil ?_
    refine fin_is ?_
    refine fin_is ?_
    refine fin_is ?_
    refine fin_is ?_
    refine fin_is ?_
    refine fin_is ?_
    refine fin_is ?_
    refine fin_is ?_
    refine fin_is ?_
    refine fin_nil ?_
    refine ow_nil ?_
    refine qw_seq ?_
    refine cw_cond rfl (fun c24 => ?_) (fun c24 => ?_)
    ·
      refine cw_seq ?_
      refine cw_region ?_
      refine ow_val rfl rfl (ex_move rfl) ?_
      refine ow_val rfl rfl (ex_assign rfl) ?_
      refine ow_val rfl rfl (ex_assign rfl) ?_
      refine ow_nil ?_
      refine qw_seq ?_
      refine cw_ret ?_
      refine qw_block_ret ?_
      refine qw_then_ret ?_
      refine qw_then_ret ?_
      refine qw_block_ret ?_
      refine qw_then_ret ?_
      refine qw_ret2 rfl rfl rfl (fun w' h => ⟨?_, h.ag.below⟩)
      have e : posT ts t = (i : Int) := findI_at hlt c24 hno
      rw [e, decide_eq_true (show (0 : Int) ≤ (i : Int) by omega)]
    ·
      refine cw_skip ?_
      refine qw_block_normal ?_
      refine qw_seq ?_
      refine cw_region ?_
      refine ow_val rfl rfl (ex_move rfl) ?_
      refine ow_val rfl rfl (ex_addi (z := ((i + 1 : Nat) : Int)) rfl rfl (by omega) (by omega) (by omega)) ?_
      refine ow_val rfl rfl (ex_assign rfl) ?_
      refine ow_nil ?_
      exact qw_roundS (i + 1) (by omega) (subL_cons (lkv rfl (by first | rfl | simp)) (subL_cons (lkv rfl (by first | rfl | simp)) (subL_cons (lkv rfl (by first | rfl | simp)) (subL_nil _)))) ⟨by omega, fun j hj hji => by
        rcases Nat.lt_or_eq_of_le (Nat.le_of_lt_succ hji) with h1 | h1
        · exact hno j hj h1
        · subst h1; exact c24⟩
  ·
    refine cw_exit ?_
    refine qw_then_exit ?_
    refine qw_then_exit ?_
    refine qw_block_exit ?_
    refine qw_seq ?_
    refine cw_seq ?_
    refine cw_region ?_
    refine ow_val rfl rfl (ex_assign rfl) ?_
    refine ow_val rfl rfl (ex_assign rfl) ?_
    refine ow_nil ?_
    refine qw_seq ?_
    refine cw_ret ?_
    refine qw_ret2 rfl rfl rfl (fun w' h => ⟨?_, h.ag.below⟩)
    have hge : ts.length ≤ i := by have := of_decide_eq_false c13; omega
    have e : posT ts t = -1 := findI_none (fun j hj => hno j hj (by omega))
    rw [e]
    rfl
set_option maxHeartbeats 400000 in
theorem rTerm {b : Nat} {n : Int} {ts : List T} {σ : Hp} {K : List (Nat × Obj)} {w : World} (hi : Has σ K w) (hv : RefK 41 30 b ts σ K) : Calls Tryd.prog 23 #[.pointer (some ⟨b, 0, none⟩), .int .i64 n] w (GiveR (RepTB (termV ts n).1 (termV ts n).2) σ w) := by
  obtain ⟨sv, xs, Gs, rfl, hO, hrow, hfew⟩ := hv
  obtain ⟨p, c, rfl, hcap, hsrc⟩ := hO.seen (σ := exts σ ((b, .cells #[sv] 41) :: Gs)) (fun q hq => exts_get hi.nd (by simp [hq]))
  have hc0 : CellsAt (exts σ ((b, .cells #[.slice p ts.length c] 41) :: Gs)) b 0 [.slice p ts.length c] := CellsAt.of1 (exts_get hi.nd List.mem_cons_self) rfl
  have hlt := hi.le
  have him := hi.exts
  generalize exts σ ((b, .cells #[.slice p ts.length c] 41) :: Gs) = σK at *
  refine enter (St w (fun _ => False) σK [] []) Tryd.func23 rfl Tryd.ntmps23 rfl (St.start him) ?_
  refine cw_seq ?_
  refine cw_region ?_
  refine ow_blk rfl rfl exw_alloc ?_; intro b4
  refine ow_val rfl rfl (ex_assign rfl) ?_
  refine ow_nil ?_
  refine qw_seq ?_
  refine cw_seq ?_
  refine cw_seq ?_
  refine cw_region ?_
  refine ow_val rfl rfl (ex_move rfl) ?_
  refine ow_val rfl rfl (ex_lss rfl rfl) ?_
  refine ow_val rfl rfl (ex_move rfl) ?_
  refine ow_split (g := some (2, false)) rfl (fun s8 => ?_) (fun s8 => ?_)
  ·
    refine ow_skip rfl (gd_no rfl s8) ?_
    refine ow_skip rfl (gd_no rfl s8) ?_
    refine ow_skip rfl (gd_no rfl s8) ?_
    refine ow_skip rfl (gd_no rfl s8) ?_
    refine ow_skip rfl (gd_no rfl s8) ?_
    refine ow_skip rfl (gd_no rfl s8) ?_
    refine ow_skip rfl (gd_no rfl s8) ?_
    refine ow_val rfl rfl (ex_pickt rfl s8 rfl) ?_
    refine ow_nil ?_
    refine qw_seq ?_
    refine cw_cond_t rfl ?_
    refine cw_seq ?_
    refine cw_region ?_
    refine ow_val rfl rfl (ex_build (parts := []) (cells := #[.int .i64 0, .int .i64 0, .slice none 0 0, .slice none 0 0]) rfl (by kernel_rfl)) ?_
    refine ow_u rfl (exu_storeN 0 (cs := [.int .i64 0, .int .i64 0, .slice none 0 0, .slice none 0 0]) rfl rfl rfl rfl (zeroT_c σ).one rfl) ?_
    refine ow_val rfl rfl (ex_assign rfl) ?_
    refine ow_nil ?_
    refine qw_seq ?_
    refine cw_ret ?_
    refine qw_then_ret ?_
    refine qw_retC1 rfl rfl (ld_ownN 0 rfl rfl) rfl (fun w' h => ?_)
    have e : termV ts n = (zeroT, false) := by
      have h8 := of_decide_eq_true s8
      unfold termV
      rw [if_neg (by omega)]
    rw [e]
    exact h.givesS hlt (Le.refl _) (Fresh.refl _ _) ⟨_, rfl, zeroT_c σ⟩
  ·
    refine ow_val rfl (gd_go rfl s8) (ex_move rfl) ?_
    refine ow_val rfl (gd_go rfl s8) (ex_move rfl) ?_
    refine ow_val rfl (gd_go rfl s8) (ex_nilck rfl) ?_
    refine ow_val rfl (gd_go rfl s8) (ex_field rfl) ?_
    refine ow_val rfl (gd_go rfl s8) (ex_load1 rfl (by first | exact ld_own1 0 rfl rfl | exact ld_own1 1 rfl rfl | exact ld_own1 2 rfl rfl | exact ld_own1 3 rfl rfl | exact ld_own1 4 rfl rfl | exact ld_own1 5 rfl rfl | exact ld_own1 6 rfl rfl | exact ld_own1 7 rfl rfl | exact ld_ownG1 0 rfl rfl | exact ld_ownG1 1 rfl rfl | exact ld_imm1 (by assumption))) ?_
    refine ow_val rfl (gd_go rfl s8) (ex_len (ty := 0) rfl) ?_
    refine ow_val rfl (gd_go rfl s8) (ex_geq rfl rfl) ?_
    refine ow_val rfl rfl (ex_pickf rfl s8 rfl) ?_
    refine ow_nil ?_
    refine qw_seq ?_
    refine cw_cond rfl (fun c16 => ?_) (fun c16 => ?_)
    ·
      refine cw_seq ?_
      refine cw_region ?_
      refine ow_val rfl rfl (ex_build (parts := []) (cells := #[.int .i64 0, .int .i64 0, .slice none 0 0, .slice none 0 0]) rfl (by kernel_rfl)) ?_
      refine ow_u rfl (exu_storeN 0 (cs := [.int .i64 0, .int .i64 0, .slice none 0 0, .slice none 0 0]) rfl rfl rfl rfl (zeroT_c σ).one rfl) ?_
      refine ow_val rfl rfl (ex_assign rfl) ?_
      refine ow_nil ?_
      refine qw_seq ?_
      refine cw_ret ?_
      refine qw_then_ret ?_
      refine qw_retC1 rfl rfl (ld_ownN 0 rfl rfl) rfl (fun w' h => ?_)
      have e : termV ts n = (zeroT, false) := by
        have h8 := of_decide_eq_true c16
        unfold termV
        rw [if_neg (by omega)]
      rw [e]
      exact h.givesS hlt (Le.refl _) (Fresh.refl _ _) ⟨_, rfl, zeroT_c σ⟩
    ·
      refine cw_skip ?_
      refine qw_seq ?_
      refine cw_seq ?_
      obtain ⟨hn0, hn1⟩ : 0 ≤ n ∧ n < ts.length := by
        first | (simp at *; omega) | (simp at *; constructor <;> omega)
      obtain ⟨i, rfl⟩ : ∃ i : Nat, n = (i : Int) := ⟨n.toNat, by omega⟩
      have hil : i < ts.length := by omega
      obtain ⟨cs, htc, hcs⟩ := hrow.at i hil
      obtain ⟨bb, ob, rfl, hcb⟩ := hsrc.resolve_left (by omega)
      have hca : CellsAt σK bb (ob + i * 4) cs := by rw [← hcs]; exact (hcb.drop (i * 4)).take 4
      have hcl := htc.len
      have htc' := htc
      obtain ⟨d9, k9, rfl, _, _, _, _⟩ := htc'.opn
      refine cw_region ?_
      refine ow_val rfl rfl (ex_move rfl) ?_
      refine ow_val rfl rfl (ex_nilck rfl) ?_
      refine ow_val rfl rfl (ex_field rfl) ?_
      refine ow_val rfl rfl (ex_load1 rfl (by first | exact ld_own1 0 rfl rfl | exact ld_own1 1 rfl rfl | exact ld_own1 2 rfl rfl | exact ld_own1 3 rfl rfl | exact ld_own1 4 rfl rfl | exact ld_own1 5 rfl rfl | exact ld_own1 6 rfl rfl | exact ld_own1 7 rfl rfl | exact ld_ownG1 0 rfl rfl | exact ld_ownG1 1 rfl rfl | exact ld_imm1 (by assumption))) ?_
      refine ow_val rfl rfl (ex_move rfl) ?_
      refine ow_val rfl rfl (ex_index_nat rfl rfl (by omega)) ?_
      refine ow_val rfl rfl (ex_loadR rfl ⟨hcl, fun w h => hca.range h.im⟩) ?_
      refine ow_u rfl (exu_storeN 0 rfl rfl rfl rfl htc.one rfl) ?_
      refine ow_val rfl rfl (ex_assign rfl) ?_
      refine ow_nil ?_
      refine qw_seq ?_
      refine cw_ret ?_
      refine qw_retC1 rfl rfl (ld_ownN 0 rfl rfl) rfl (fun w' h => ?_)
      have e : termV ts (i : Int) = (ts[i], true) := by
        unfold termV
        rw [if_pos ⟨hn0, hn1⟩]
        simp [List.getD_eq_getElem?_getD, hil]
      rw [e]
      exact h.givesS hlt (Le.refl _) (Fresh.refl _ _) ⟨_, rfl, htc⟩
theorem RefK.seenX {b : Nat} {ts : List T} {σ : Hp} {K : List (Nat × Obj)} {w : World} (h : RefK 41 30 b ts σ K) (hi : Has σ K w) : ∃ sv, CellsAt (exts σ K) b 0 [sv] ∧ KidsV (exts σ K) sv ts := by
  obtain ⟨sv, xs, Gs, rfl, hO, hr, hl⟩ := h
  obtain ⟨p, c, rfl, hc, hsrc⟩ := hO.seen (σ := exts σ ((b, .cells #[sv] 41) :: Gs)) (fun q hq => exts_get hi.nd (by simp [hq]))
  refine ⟨_, CellsAt.of1 (exts_get hi.nd List.mem_cons_self) rfl, p, c, rfl, hc, by unfold maxKids; omega, ?_⟩
  rcases hsrc with h0 | ⟨bb, o, e, hcb⟩
  · exact .inl (List.eq_nil_of_length_eq_zero h0)
  · exact .inr ⟨bb, o, e, (hr.le hi.le).elems hcb⟩
theorem rFindK (t : T) {b : Nat} {ts : List T} {ct : List Value} {σ : Hp} {K : List (Nat × Obj)} {w : World} (hi : Has σ K w) (hv : RefK 41 30 b ts σ K) (ht : TermC σ ct t) : Calls Tryd.prog 21 #[.pointer (some ⟨b, 0, none⟩), .agg ct.toArray] w fun e w' => e = .returned (.tuple #[.int .i64 (posT ts t), .bool (decide (0 ≤ posT ts t))]) ∧ Below w.heap.size w w' :=
  let ⟨_, h1, h2⟩ := hv.seenX hi
  rFind t hi.exts h1 h2 (ht.le hi.le)
set_option maxHeartbeats 400000 in
theorem rPutV : ∀ (t : T) {b : Nat} {ts : List T} {ct : List Value} {σ : Hp} {K : List (Nat × Obj)} {w : World}, Has σ K w → RefK 41 30 b ts σ K → TermC σ ct t → (0 ≤ posT ts t ∨ ts.length + size t ≤ 4096) → Calls Tryd.prog 50 #[.pointer (some ⟨b, 0, none⟩), .agg ct.toArray] w (GiveK (fun σ' u K' => u = .int .i64 (numV t ts) ∧ RefK 41 30 b (putV t ts) σ' K') σ K w) := by
  intro t
  induction t using T.ind with
  | _ o n d ks ih =>
  intro b ts ct σ K w hi hv ht hroom
  have ht0 := ht
  obtain ⟨dv, kv, rfl, ho, hn, hd, hk⟩ := ht.opn
  simp only [T.kids, T.op, T.num, T.data] at *
  obtain ⟨p, c, rfl, hc, hm⟩ := hk.slice
  have hm2 := hm
  unfold maxKids at hm2
  refine enter (St w (keysOf K) σ [] K) Tryd.func50 rfl Tryd.ntmps50 rfl (Has.start hi) ?_
  refine cw_seq ?_
  refine cw_region ?_
  refine ow_blk rfl rfl (exw_box rfl) ?_; intro b3
  refine ow_val rfl rfl (ex_assign rfl) ?_
  refine ow_nil ?_
  refine qw_seq ?_
  refine cw_seq ?_
  refine cw_region ?_
  refine ow_val rfl rfl (ex_move rfl) ?_
  refine ow_val rfl rfl (ex_loadR rfl (by first | exact ld_ownN 0 rfl rfl | exact ld_ownN 1 rfl rfl | exact ld_ownN 2 rfl rfl | exact ld_ownN 3 rfl rfl | exact ld_ownN 4 rfl rfl | exact ld_ownN 5 rfl rfl | exact ld_ownN 6 rfl rfl | exact ld_ownN 7 rfl rfl | exact ld_ownGN 0 rfl rfl | exact ld_ownGN 1 rfl rfl | exact ld_immT (by assumption) (by assumption))) ?_
  refine ow_cv rfl rfl (ex_callf rfl (fun w h => callB ((rFindK _ h.hasE hv ht0)))) ?_
  refine ow_val rfl rfl (ex_move rfl) ?_
  refine ow_val rfl rfl (ex_extract rfl rfl) ?_
  refine ow_val rfl rfl (ex_extract rfl rfl) ?_
  refine ow_val rfl rfl (ex_assign rfl) ?_
  refine ow_val rfl rfl (ex_assign rfl) ?_
  refine ow_nil ?_
  refine qw_seq ?_
  refine cw_seq ?_
  refine cw_seq ?_
  refine cw_region ?_
  refine ow_val rfl rfl (ex_move rfl) ?_
  refine ow_nil ?_
  refine qw_seq ?_
  refine cw_cond rfl (fun c14 => ?_) (fun c14 => ?_)
  ·
    refine cw_seq ?_
    refine cw_region ?_
    refine ow_val rfl rfl (ex_move rfl) ?_
    refine ow_val rfl rfl (ex_assign rfl) ?_
    refine ow_nil ?_
    refine qw_seq ?_
    refine cw_ret ?_
    refine qw_then_ret ?_
    refine qw_ret1 rfl rfl (fun w' h => ?_)
    have h0 := of_decide_eq_true c14
    refine (h.drop (List.nil_sublist _)).givesK (Le.refl _) (Fresh.refl _ _) ⟨?_, ?_⟩
    · unfold numV
      rw [if_pos h0]
    · rw [putV_mk, if_pos h0]
      exact hv
  ·
    have hnp : ¬ 0 ≤ posT ts (.mk o n d ks) := of_decide_eq_false c14
    have hsz := hroom.resolve_left hnp
    simp only [size] at hsz
    refine cw_skip ?_
    refine qw_seq ?_
    refine cw_seq ?_
    refine cw_seq ?_
    refine cw_region ?_
    refine ow_val rfl rfl (ex_assign rfl) ?_
    refine ow_nil ?_
    refine qw_seq ?_
    refine cw_block ?_
    refine cw_loop3 (fun (j : Nat) (τ : Hp) (K' : List (Nat × Obj)) => [(0, .pointer (some ⟨b, 0, none⟩)), (3, .pointer (some ⟨b3, 0, none⟩)), (7, .int .i64 (j : Int))]) (fun j τ K' => j ≤ ks.length ∧ Le σ τ ∧ Fresh σ τ w ∧ RefK 41 30 b (putVs (ks.take j) ts) τ K') (fun j τ K' => τ) (fun j τ K' => K') (fun j _ _ => ks.length - j) 0 σ K (subL_cons (lkv rfl (by first | rfl | simp)) (subL_cons (lkv rfl (by first | rfl | simp)) (subL_cons (lkv rfl (by first | rfl | simp)) (subL_nil _)))) ⟨Nat.zero_le _, Le.refl _, Fresh.refl _ _, by simpa [putVs] using hv⟩ (fun w h => h) ?_
    intro j τj Kj ⟨hlej, hlj, hfj, hvj⟩
    refine cw_seq ?_
    refine cw_seq ?_
    refine cw_region ?_
    refine ow_val rfl rfl (ex_move rfl) ?_
    refine ow_val rfl rfl (ex_field rfl) ?_
    refine ow_val rfl rfl (ex_load1 rfl (by first | exact ld_own1 0 rfl rfl | exact ld_own1 1 rfl rfl | exact ld_own1 2 rfl rfl | exact ld_own1 3 rfl rfl | exact ld_own1 4 rfl rfl | exact ld_own1 5 rfl rfl | exact ld_own1 6 rfl rfl | exact ld_own1 7 rfl rfl | exact ld_ownG1 0 rfl rfl | exact ld_ownG1 1 rfl rfl | exact ld_imm1 (by assumption))) ?_
    refine ow_val rfl rfl (ex_len (ty := 0) rfl) ?_
    refine ow_val rfl rfl (ex_lss rfl rfl) ?_
    refine ow_nil ?_
    refine qw_seq ?_
    refine cw_cond rfl (fun c20 => ?_) (fun c20 => ?_)
    ·
      refine cw_skip ?_
      refine qw_seq ?_
      refine cw_seq ?_
      refine cw_block ?_
      have hltj : j < ks.length := by have := of_decide_eq_true c20; omega
      obtain ⟨bk, f, c', cs, e1, e2, hc1, ht1⟩ := hk.get j hltj
      cases e1
      have hst := putVs_take ks ts j hltj
      have hpl := putVs_len ks ts j
      have hs1 := sizes_take ks j hltj
      have hs2 := sizes_take_le ks (j + 1)
      refine cw_region ?_
      refine ow_val rfl rfl (ex_move rfl) ?_
      refine ow_val rfl rfl (ex_field rfl) ?_
      refine ow_val rfl rfl (ex_load1 rfl (by first | exact ld_own1 0 rfl rfl | exact ld_own1 1 rfl rfl | exact ld_own1 2 rfl rfl | exact ld_own1 3 rfl rfl | exact ld_own1 4 rfl rfl | exact ld_own1 5 rfl rfl | exact ld_own1 6 rfl rfl | exact ld_own1 7 rfl rfl | exact ld_ownG1 0 rfl rfl | exact ld_ownG1 1 rfl rfl | exact ld_imm1 (by assumption))) ?_
      refine ow_val rfl rfl (ex_move rfl) ?_
      refine ow_val rfl rfl (ex_index_nat rfl rfl (by omega)) ?_
      refine ow_val rfl rfl (ex_loadR rfl (ld_immT (hc1.le hlj) (ht1.le hlj))) ?_
      refine ow_ckE rfl rfl (ex_callf rfl (fun w h => ih _ (List.getElem_mem hltj) h.hasE hvj (ht1.le hlj) (.inr (by omega)))) (fun v29 τ33 K33 hl33 hf33 hr33 => ?_)
      refine ow_nil ?_
      refine qw_block_normal ?_
      refine qw_seq ?_
      refine cw_region ?_
      refine ow_val rfl rfl (ex_move rfl) ?_
      refine ow_val rfl rfl (ex_addi (z := ((j + 1 : Nat) : Int)) rfl rfl (by omega) (by omega) (by omega)) ?_
      refine ow_val rfl rfl (ex_assign rfl) ?_
      refine ow_nil ?_
      refine qw_round3 (j + 1) τ33 K33 (by omega) (subL_cons (lkv rfl (by first | rfl | simp)) (subL_cons (lkv rfl (by first | rfl | simp)) (subL_cons (lkv rfl (by first | rfl | simp)) (subL_nil _)))) ⟨by omega, hlj.trans hl33, hfj.trans hf33, ?_⟩ (fun w h => h)
      rw [hst]
      exact hr33.2
    ·
      have he : j = ks.length := by have := of_decide_eq_false c20; omega
      subst he
      rw [List.take_length] at hvj
      have hpl := putVs_len ks ts ks.length
      rw [List.take_length] at hpl
      have hnew := putVs_new (t := .mk o n d ks) hnp
      simp only [T.kids] at hnew
      obtain ⟨sv, xs, Gs, rfl, hO, hrow, hfew⟩ := hvj
      obtain ⟨pq, cq, rfl, hcq⟩ := hO.slice
      refine cw_exit ?_
      refine qw_then_exit ?_
      refine qw_then_exit ?_
      refine qw_block_exit ?_
      refine qw_seq ?_
      refine cw_cut [(0, .pointer (some ⟨b, 0, none⟩))] (fun w' => ∃ (τ5 : Hp) (c45 : List Value) (g cg : Nat) (tl : List Value), (Le τj τ5 ∧ Fresh τj τ5 w ∧ TermC τ5 c45 (.mk o n d ks) ∧ (putVs ks ts).length + 1 ≤ cg ∧ cg ≤ maxLen ∧ (xs ++ c45 ++ tl).length = cg * 4) ∧ St w (keysOf K) τ5 [(g, rowO (xs ++ c45) tl 30), (b, .cells #[.slice (some ⟨g, 0, none⟩) ((putVs ks ts).length + 1) cg] 41)] [] w') ?_ ?_
      ·
        refine flow_soundT 7 (by kernel_rfl) ?_
        refine flow_val rfl (ex_move rfl) ?_
        refine flow_val rfl (ex_nilck rfl) ?_
        refine flow_val rfl (ex_field rfl) ?_
        refine flow_val rfl (ex_load1 rfl (by first | exact ld_own1 0 rfl rfl | exact ld_own1 1 rfl rfl | exact ld_own1 2 rfl rfl | exact ld_own1 3 rfl rfl | exact ld_own1 4 rfl rfl | exact ld_own1 5 rfl rfl | exact ld_own1 6 rfl rfl | exact ld_own1 7 rfl rfl | exact ld_ownG1 0 rfl rfl | exact ld_ownG1 1 rfl rfl | exact ld_imm1 (by assumption))) ?_
        refine flow_val rfl (ex_loadR rfl (by first | exact ld_ownN 0 rfl rfl | exact ld_ownN 1 rfl rfl | exact ld_ownN 2 rfl rfl | exact ld_ownN 3 rfl rfl | exact ld_ownN 4 rfl rfl | exact ld_ownN 5 rfl rfl | exact ld_ownN 6 rfl rfl | exact ld_ownN 7 rfl rfl | exact ld_ownGN 0 rfl rfl | exact ld_ownGN 1 rfl rfl | exact ld_immT (by assumption) (by assumption))) ?_
        refine flow_val rfl (ex_len (ty := 0) rfl) ?_
        refine flow_sat QR.pers (obk (ob_one rfl rfl (zeroT_c _))) ?_
        refine flow_nilT ?_
        refine fint_satR (Le.refl _) (fun v47 τ7 hl7 hf7 hr7 => ?_)
        obtain ⟨bo, co, rfl, hco, htco⟩ := hr7
        have ht45 := (ht0.le hlj).le hl7
        refine fint_is ?_
        refine fint_is ?_
        refine fint_is ?_
        refine fint_is ?_
        refine fint_is ?_
        refine fint_is ?_
        refine fint_nil ?_
        refine any_one (i := 7) (by kernel_rfl) ?_
        refine next_mono (fun w h => h.ofG) ?_
        refine next_app1 rfl rfl (exw_append1 (news := co) rfl rfl hO (by simp [htco.len]) (.inr ⟨_, _, rfl, fun w h => hco.range h.im⟩) htco.one (by unfold maxLen; omega) (by omega)) (fun v48 G48 hO48 hz48 => ?_)
        obtain ⟨g, cg, tl, rfl, rfl, hg1, hg2, hg3⟩ := hO48.open (by omega)
        refine any_mono (fun w h => h.ofG) ?_
        refine any_two (i := 8) (j := 10) (by kernel_rfl) ?_ ?_
        ·
          refine next_val rfl rfl (ex_index_nat rfl rfl (by omega)) ?_
          refine any_two (i := 9) (j := 10) (by kernel_rfl) ?_ ?_
          ·
            refine next_u rfl (exu_storeX 0 rfl rfl rfl ht45.len ht45.one (by simp [hrow.len, htco.len])) ?_
            refine any_one (i := 10) (by kernel_rfl) ?_
            refine next_val rfl rfl (ex_nilck rfl) ?_
            refine any_one (i := 11) (by kernel_rfl) ?_
            refine next_val rfl rfl (ex_field rfl) ?_
            refine any_one (i := 12) (by kernel_rfl) ?_
            refine next_u rfl (exu_store1 1 rfl rfl rfl rfl rfl rfl) ?_
            refine any_done (by kernel_rfl) ?_
            refine qw_meet (subL_cons (lkv rfl (by first | rfl | simp)) (subL_nil _)) (fun w' h => ⟨τ7, _, g, cg, tl, ⟨hl7, hf7, ht45, hg1, hg2, by have h1 := ht45.len; have h2 := htco.len; simp only [List.length_append] at hg3 ⊢; omega⟩, ?_⟩)
            have h1 := h.drop (.cons_cons _ (.cons_cons _ (List.nil_sublist _)))
            rwa [setX_snoc hrow.len htco.len] at h1
          ·
            refine next_val rfl rfl (ex_nilck rfl) ?_
            refine any_two (i := 9) (j := 11) (by kernel_rfl) ?_ ?_
            ·
              refine next_u rfl (exu_storeX 0 rfl rfl rfl ht45.len ht45.one (by simp [hrow.len, htco.len])) ?_
              refine any_one (i := 11) (by kernel_rfl) ?_
              refine next_val rfl rfl (ex_field rfl) ?_
              refine any_one (i := 12) (by kernel_rfl) ?_
              refine next_u rfl (exu_store1 1 rfl rfl rfl rfl rfl rfl) ?_
              refine any_done (by kernel_rfl) ?_
              refine qw_meet (subL_cons (lkv rfl (by first | rfl | simp)) (subL_nil _)) (fun w' h => ⟨τ7, _, g, cg, tl, ⟨hl7, hf7, ht45, hg1, hg2, by have h1 := ht45.len; have h2 := htco.len; simp only [List.length_append] at hg3 ⊢; omega⟩, ?_⟩)
              have h1 := h.drop (.cons_cons _ (.cons_cons _ (List.nil_sublist _)))
              rwa [setX_snoc hrow.len htco.len] at h1
            ·
              refine next_val rfl rfl (ex_field rfl) ?_
              refine any_two (i := 9) (j := 12) (by kernel_rfl) ?_ ?_
              ·
                refine next_u rfl (exu_storeX 0 rfl rfl rfl ht45.len ht45.one (by simp [hrow.len, htco.len])) ?_
                refine any_one (i := 12) (by kernel_rfl) ?_
                refine next_u rfl (exu_store1 1 rfl rfl rfl rfl rfl rfl) ?_
                refine any_done (by kernel_rfl) ?_
                refine qw_meet (subL_cons (lkv rfl (by first | rfl | simp)) (subL_nil _)) (fun w' h => ⟨τ7, _, g, cg, tl, ⟨hl7, hf7, ht45, hg1, hg2, by have h1 := ht45.len; have h2 := htco.len; simp only [List.length_append] at hg3 ⊢; omega⟩, ?_⟩)
                have h1 := h.drop (.cons_cons _ (.cons_cons _ (List.nil_sublist _)))
                rwa [setX_snoc hrow.len htco.len] at h1
              ·
                refine next_u rfl (exu_store1 1 rfl rfl rfl rfl rfl rfl) ?_
                refine any_one (i := 9) (by kernel_rfl) ?_
                refine next_u rfl (exu_storeX 0 rfl rfl rfl ht45.len ht45.one (by simp [hrow.len, htco.len])) ?_
                refine any_done (by kernel_rfl) ?_
                refine qw_meet (subL_cons (lkv rfl (by first | rfl | simp)) (subL_nil _)) (fun w' h => ⟨τ7, _, g, cg, tl, ⟨hl7, hf7, ht45, hg1, hg2, by have h1 := ht45.len; have h2 := htco.len; simp only [List.length_append] at hg3 ⊢; omega⟩, ?_⟩)
                have h1 := h.drop (.cons_cons _ (.cons_cons _ (List.nil_sublist _)))
                rwa [setX_snoc hrow.len htco.len] at h1
        ·
          refine next_val rfl rfl (ex_nilck rfl) ?_
          refine any_two (i := 8) (j := 11) (by kernel_rfl) ?_ ?_
          ·
            refine next_val rfl rfl (ex_index_nat rfl rfl (by omega)) ?_
            refine any_two (i := 9) (j := 11) (by kernel_rfl) ?_ ?_
            ·
              refine next_u rfl (exu_storeX 0 rfl rfl rfl ht45.len ht45.one (by simp [hrow.len, htco.len])) ?_
              refine any_one (i := 11) (by kernel_rfl) ?_
              refine next_val rfl rfl (ex_field rfl) ?_
              refine any_one (i := 12) (by kernel_rfl) ?_
              refine next_u rfl (exu_store1 1 rfl rfl rfl rfl rfl rfl) ?_
              refine any_done (by kernel_rfl) ?_
              refine qw_meet (subL_cons (lkv rfl (by first | rfl | simp)) (subL_nil _)) (fun w' h => ⟨τ7, _, g, cg, tl, ⟨hl7, hf7, ht45, hg1, hg2, by have h1 := ht45.len; have h2 := htco.len; simp only [List.length_append] at hg3 ⊢; omega⟩, ?_⟩)
              have h1 := h.drop (.cons_cons _ (.cons_cons _ (List.nil_sublist _)))
              rwa [setX_snoc hrow.len htco.len] at h1
            ·
              refine next_val rfl rfl (ex_field rfl) ?_
              refine any_two (i := 9) (j := 12) (by kernel_rfl) ?_ ?_
              ·
                refine next_u rfl (exu_storeX 0 rfl rfl rfl ht45.len ht45.one (by simp [hrow.len, htco.len])) ?_
                refine any_one (i := 12) (by kernel_rfl) ?_
                refine next_u rfl (exu_store1 1 rfl rfl rfl rfl rfl rfl) ?_
                refine any_done (by kernel_rfl) ?_
                refine qw_meet (subL_cons (lkv rfl (by first | rfl | simp)) (subL_nil _)) (fun w' h => ⟨τ7, _, g, cg, tl, ⟨hl7, hf7, ht45, hg1, hg2, by have h1 := ht45.len; have h2 := htco.len; simp only [List.length_append] at hg3 ⊢; omega⟩, ?_⟩)
                have h1 := h.drop (.cons_cons _ (.cons_cons _ (List.nil_sublist _)))
                rwa [setX_snoc hrow.len htco.len] at h1
              ·
                refine next_u rfl (exu_store1 1 rfl rfl rfl rfl rfl rfl) ?_
                refine any_one (i := 9) (by kernel_rfl) ?_
                refine next_u rfl (exu_storeX 0 rfl rfl rfl ht45.len ht45.one (by simp [hrow.len, htco.len])) ?_
                refine any_done (by kernel_rfl) ?_
                refine qw_meet (subL_cons (lkv rfl (by first | rfl | simp)) (subL_nil _)) (fun w' h => ⟨τ7, _, g, cg, tl, ⟨hl7, hf7, ht45, hg1, hg2, by have h1 := ht45.len; have h2 := htco.len; simp only [List.length_append] at hg3 ⊢; omega⟩, ?_⟩)
                have h1 := h.drop (.cons_cons _ (.cons_cons _ (List.nil_sublist _)))
                rwa [setX_snoc hrow.len htco.len] at h1
          ·
            refine next_val rfl rfl (ex_field rfl) ?_
            refine any_two (i := 8) (j := 12) (by kernel_rfl) ?_ ?_
            ·
              refine next_val rfl rfl (ex_index_nat rfl rfl (by omega)) ?_
              refine any_two (i := 9) (j := 12) (by kernel_rfl) ?_ ?_
              ·
                refine next_u rfl (exu_storeX 0 rfl rfl rfl ht45.len ht45.one (by simp [hrow.len, htco.len])) ?_
                refine any_one (i := 12) (by kernel_rfl) ?_
                refine next_u rfl (exu_store1 1 rfl rfl rfl rfl rfl rfl) ?_
                refine any_done (by kernel_rfl) ?_
                refine qw_meet (subL_cons (lkv rfl (by first | rfl | simp)) (subL_nil _)) (fun w' h => ⟨τ7, _, g, cg, tl, ⟨hl7, hf7, ht45, hg1, hg2, by have h1 := ht45.len; have h2 := htco.len; simp only [List.length_append] at hg3 ⊢; omega⟩, ?_⟩)
                have h1 := h.drop (.cons_cons _ (.cons_cons _ (List.nil_sublist _)))
                rwa [setX_snoc hrow.len htco.len] at h1
              ·
                refine next_u rfl (exu_store1 1 rfl rfl rfl rfl rfl rfl) ?_
                refine any_one (i := 9) (by kernel_rfl) ?_
                refine next_u rfl (exu_storeX 0 rfl rfl rfl ht45.len ht45.one (by simp [hrow.len, htco.len])) ?_
                refine any_done (by kernel_rfl) ?_
                refine qw_meet (subL_cons (lkv rfl (by first | rfl | simp)) (subL_nil _)) (fun w' h => ⟨τ7, _, g, cg, tl, ⟨hl7, hf7, ht45, hg1, hg2, by have h1 := ht45.len; have h2 := htco.len; simp only [List.length_append] at hg3 ⊢; omega⟩, ?_⟩)
                have h1 := h.drop (.cons_cons _ (.cons_cons _ (List.nil_sublist _)))
                rwa [setX_snoc hrow.len htco.len] at h1
            ·
              refine next_u rfl (exu_store1 1 rfl rfl rfl rfl rfl rfl) ?_
              refine any_one (i := 8) (by kernel_rfl) ?_
              refine next_val rfl rfl (ex_index_nat rfl rfl (by omega)) ?_
              refine any_one (i := 9) (by kernel_rfl) ?_
              refine next_u rfl (exu_storeX 0 rfl rfl rfl ht45.len ht45.one (by simp [hrow.len, htco.len])) ?_
              refine any_done (by kernel_rfl) ?_
              refine qw_meet (subL_cons (lkv rfl (by first | rfl | simp)) (subL_nil _)) (fun w' h => ⟨τ7, _, g, cg, tl, ⟨hl7, hf7, ht45, hg1, hg2, by have h1 := ht45.len; have h2 := htco.len; simp only [List.length_append] at hg3 ⊢; omega⟩, ?_⟩)
              have h1 := h.drop (.cons_cons _ (.cons_cons _ (List.nil_sublist _)))
              rwa [setX_snoc hrow.len htco.len] at h1
      ·
        refine cw_ex fun τ5 => cw_ex fun c45 => cw_ex fun g => cw_ex fun cg => cw_ex fun tl => cw_and fun ⟨hl5, hf5, ht45, hg1, hg2, hg3⟩ => ?_
        refine cw_seq ?_
        refine cw_region ?_
        refine ow_val rfl rfl (ex_move rfl) ?_
        refine ow_val rfl rfl (ex_nilck rfl) ?_
        refine ow_val rfl rfl (ex_field rfl) ?_
        refine ow_val rfl rfl (ex_load1 rfl (by first | exact ld_own1 0 rfl rfl | exact ld_own1 1 rfl rfl | exact ld_own1 2 rfl rfl | exact ld_own1 3 rfl rfl | exact ld_own1 4 rfl rfl | exact ld_own1 5 rfl rfl | exact ld_own1 6 rfl rfl | exact ld_own1 7 rfl rfl | exact ld_ownG1 0 rfl rfl | exact ld_ownG1 1 rfl rfl | exact ld_imm1 (by assumption))) ?_
        refine ow_val rfl rfl (ex_len (ty := 0) rfl) ?_
        refine ow_val rfl rfl (ex_subi (z := (((putVs ks ts).length : Nat) : Int)) rfl rfl (by omega) (by omega) (by omega)) ?_
        refine ow_val rfl rfl (ex_assign rfl) ?_
        refine ow_nil ?_
        refine qw_seq ?_
        refine cw_ret ?_
        refine qw_ret1 rfl rfl (fun w' h => ?_)
        have h2 := (St.flip h).permG (List.reverse_perm _)
        have hlen1 : (putVs ks ts ++ [T.mk o n d ks]).length = (putVs ks ts).length + 1 := by simp
        have hxl := hrow.len
        have hcl5 := ht45.len
        refine h2.givesK (hlj.trans hl5) (hfj.trans hf5) ⟨?_, ?_⟩
        · unfold numV
          rw [if_neg hnp]; rfl
        · rw [putV_mk, if_neg hnp]
          refine ⟨_, xs ++ c45, _, rfl, ?_, (hrow.le hl5).append (RowC.one ht45), ?_⟩
          · rw [show (putVs (T.mk o n d ks).kids ts ++ [T.mk o n d ks]).length = (putVs ks ts).length + 1 from hlen1]
            exact OwnSl.close (by simp; omega) hg1 hg2 hg3
          · rw [show (putVs (T.mk o n d ks).kids ts ++ [T.mk o n d ks]).length = (putVs ks ts).length + 1 from hlen1]; omega
set_option maxHeartbeats 400000 in
theorem rIntern (t : T) {b : Nat} {ts : List T} {ct : List Value} {σ : Hp} {K : List (Nat × Obj)} {w : World} (hi : Has σ K w) (hv : RefK 41 30 b ts σ K) (ht : TermC σ ct t) : Calls Tryd.prog 20 #[.pointer (some ⟨b, 0, none⟩), .agg ct.toArray] w (GiveK (fun σ' u K' => u = .tuple #[.int .i64 (intern ts t).1, .int .i64 (intern ts t).2.1] ∧ RefK 41 30 b (intern ts t).2.2 σ' K') σ K w) := by
  have ht0 := ht
  obtain ⟨dv, kv, rfl, ho, hn, hd, hk⟩ := ht.opn
  obtain ⟨sv, hc0, hks⟩ := hv.seenX hi
  obtain ⟨psv, csv, rfl, _, _⟩ := hks.slice
  have hfew : ts.length ≤ 4096 := by
    obtain ⟨_, _, _, _, _, _, h⟩ := hv
    exact h
  refine enter (St w (keysOf K) σ [] K) Tryd.func20 rfl Tryd.ntmps20 rfl (Has.start hi) ?_
  refine cw_seq ?_
  refine cw_region ?_
  refine ow_blk rfl rfl (exw_box rfl) ?_; intro b3
  refine ow_val rfl rfl (ex_assign rfl) ?_
  refine ow_val rfl rfl (ex_assign rfl) ?_
  refine ow_nil ?_
  refine qw_seq ?_
  refine cw_seq ?_
  refine cw_region ?_
  refine ow_val rfl rfl (ex_loadR rfl (by first | exact ld_ownN 0 rfl rfl | exact ld_ownN 1 rfl rfl | exact ld_ownN 2 rfl rfl | exact ld_ownN 3 rfl rfl | exact ld_ownN 4 rfl rfl | exact ld_ownN 5 rfl rfl | exact ld_ownN 6 rfl rfl | exact ld_ownN 7 rfl rfl | exact ld_ownGN 0 rfl rfl | exact ld_ownGN 1 rfl rfl | exact ld_immT (by assumption) (by assumption))) ?_
  refine ow_cv rfl rfl (ex_callf rfl (fun w h => callB ((rRight t h.im ht0)))) ?_
  refine ow_val rfl rfl (ex_assign rfl) ?_
  refine ow_nil ?_
  refine qw_seq ?_
  refine cw_seq ?_
  refine cw_seq ?_
  refine cw_region ?_
  refine ow_val rfl rfl (ex_move rfl) ?_
  refine ow_val rfl rfl (ex_not rfl) ?_
  refine ow_nil ?_
  refine qw_seq ?_
  refine cw_cond rfl (fun c12 => ?_) (fun c12 => ?_)
  ·
    refine cw_seq ?_
    refine cw_region ?_
    refine ow_val rfl rfl (ex_assign rfl) ?_
    refine ow_val rfl rfl (ex_assign rfl) ?_
    refine ow_nil ?_
    refine qw_seq ?_
    refine cw_ret ?_
    refine qw_then_ret ?_
    refine qw_ret2 rfl rfl rfl (fun w' h => ?_)
    have hr : ¬ right t = true := by simpa using c12
    have e : intern ts t = (-1, 51, ts) := by unfold intern; rw [if_neg hr]
    rw [e]
    exact (h.drop (List.nil_sublist _)).givesK (Le.refl _) (Fresh.refl _ _) ⟨rfl, hv⟩
  ·
    have hr : right t = true := by simpa using c12
    have hsz9 := right_size hr
    unfold maxKids at hsz9
    refine cw_skip ?_
    refine qw_seq ?_
    refine cw_seq ?_
    refine cw_region ?_
    refine ow_val rfl rfl (ex_move rfl) ?_
    refine ow_val rfl rfl (ex_loadR rfl (by first | exact ld_ownN 0 rfl rfl | exact ld_ownN 1 rfl rfl | exact ld_ownN 2 rfl rfl | exact ld_ownN 3 rfl rfl | exact ld_ownN 4 rfl rfl | exact ld_ownN 5 rfl rfl | exact ld_ownN 6 rfl rfl | exact ld_ownN 7 rfl rfl | exact ld_ownGN 0 rfl rfl | exact ld_ownGN 1 rfl rfl | exact ld_immT (by assumption) (by assumption))) ?_
    refine ow_cv rfl rfl (ex_callf rfl (fun w h => callB ((rFindK t h.hasE hv ht0)))) ?_
    refine ow_val rfl rfl (ex_move rfl) ?_
    refine ow_val rfl rfl (ex_extract rfl rfl) ?_
    refine ow_val rfl rfl (ex_extract rfl rfl) ?_
    refine ow_val rfl rfl (ex_assign rfl) ?_
    refine ow_val rfl rfl (ex_assign rfl) ?_
    refine ow_nil ?_
    refine qw_seq ?_
    refine cw_seq ?_
    refine cw_seq ?_
    refine cw_region ?_
    refine ow_val rfl rfl (ex_move rfl) ?_
    refine ow_nil ?_
    refine qw_seq ?_
    refine cw_cond rfl (fun c19 => ?_) (fun c19 => ?_)
    ·
      refine cw_seq ?_
      refine cw_region ?_
      refine ow_val rfl rfl (ex_move rfl) ?_
      refine ow_val rfl rfl (ex_assign rfl) ?_
      refine ow_val rfl rfl (ex_assign rfl) ?_
      refine ow_nil ?_
      refine qw_seq ?_
      refine cw_ret ?_
      refine qw_then_ret ?_
      refine qw_ret2 rfl rfl rfl (fun w' h => ?_)
      have h0 := of_decide_eq_true c19
      have e : intern ts t = (posT ts t, 0, ts) := by unfold intern; rw [if_pos hr, if_pos h0]
      rw [e]
      exact (h.drop (List.nil_sublist _)).givesK (Le.refl _) (Fresh.refl _ _) ⟨rfl, hv⟩
    ·
      refine cw_skip ?_
      refine qw_seq ?_
      refine cw_seq ?_
      refine cw_seq ?_
      refine flow_sound 9 (by kernel_rfl) ?_
      refine flow_val rfl (ex_move rfl) ?_
      refine flow_val rfl (ex_nilck rfl) ?_
      refine flow_val rfl (ex_field rfl) ?_
      refine flow_val rfl (ex_load1 rfl (fun w h => hc0.cell h.hasE.exts)) ?_
      refine flow_val rfl (ex_len (ty := 0) rfl) ?_
      refine flow_val rfl (ex_loadR rfl (by first | exact ld_ownN 0 rfl rfl | exact ld_ownN 1 rfl rfl | exact ld_ownN 2 rfl rfl | exact ld_ownN 3 rfl rfl | exact ld_ownN 4 rfl rfl | exact ld_ownN 5 rfl rfl | exact ld_ownN 6 rfl rfl | exact ld_ownN 7 rfl rfl | exact ld_ownGN 0 rfl rfl | exact ld_ownGN 1 rfl rfl | exact ld_immT (by assumption) (by assumption))) ?_
      refine flow_cv rfl (ex_callf rfl (fun w h => callB ((rSize t h.im ht0 (right_size hr))))) ?_
      refine flow_val rfl (ex_addi (z := ((ts.length : Int) + (size t : Int))) rfl rfl (by omega) (by omega) (by omega)) ?_
      refine flow_val rfl (ex_gtr rfl rfl) ?_
      refine flow_nil ?_
      refine fin_is ?_
      refine fin_is ?_
      refine fin_is ?_
      refine fin_is ?_
      refine fin_is ?_
      refine fin_is ?_
      refine fin_is ?_
      refine fin_is ?_
      refine fin_is ?_
      refine fin_nil ?_
      refine ow_nil ?_
      refine qw_seq ?_
      refine cw_cond rfl (fun c29 => ?_) (fun c29 => ?_)
      ·
        refine cw_seq ?_
        refine cw_region ?_
        refine ow_val rfl rfl (ex_assign rfl) ?_
        refine ow_val rfl rfl (ex_assign rfl) ?_
        refine ow_nil ?_
        refine qw_seq ?_
        refine cw_ret ?_
        refine qw_then_ret ?_
        refine qw_ret2 rfl rfl rfl (fun w' h => ?_)
        have h0 := of_decide_eq_false c19
        have h1 := of_decide_eq_true c29
        have e : intern ts t = (-1, 2, ts) := by unfold intern; rw [if_pos hr, if_neg h0, if_pos (by omega)]
        rw [e]
        exact (h.drop (List.nil_sublist _)).givesK (Le.refl _) (Fresh.refl _ _) ⟨rfl, hv⟩
      ·
        refine cw_skip ?_
        refine qw_seq ?_
        refine cw_seq ?_
        refine cw_region ?_
        refine ow_val rfl rfl (ex_move rfl) ?_
        refine ow_val rfl rfl (ex_loadR rfl (by first | exact ld_ownN 0 rfl rfl | exact ld_ownN 1 rfl rfl | exact ld_ownN 2 rfl rfl | exact ld_ownN 3 rfl rfl | exact ld_ownN 4 rfl rfl | exact ld_ownN 5 rfl rfl | exact ld_ownN 6 rfl rfl | exact ld_ownN 7 rfl rfl | exact ld_ownGN 0 rfl rfl | exact ld_ownGN 1 rfl rfl | exact ld_immT (by assumption) (by assumption))) ?_
        refine ow_ckE rfl rfl (ex_callf rfl (fun w h => rPutV t h.hasE hv ht0 (.inr (by have := of_decide_eq_false c29; omega)))) (fun v32 τ30 K30 hl30 hf30 hr30 => ?_)
        obtain ⟨rfl, hv30⟩ := hr30
        refine ow_val rfl rfl (ex_assign rfl) ?_
        refine ow_val rfl rfl (ex_assign rfl) ?_
        refine ow_nil ?_
        refine qw_seq ?_
        refine cw_ret ?_
        refine qw_ret2 rfl rfl rfl (fun w' h => ?_)
        have h0 := of_decide_eq_false c19
        have h1 := of_decide_eq_false c29
        have e : intern ts t = (numV t ts, 0, putV t ts) := by unfold intern; rw [if_pos hr, if_neg h0, if_neg (by omega)]
        rw [e]
        exact (h.drop (List.nil_sublist _)).givesK hl30 hf30 ⟨rfl, hv30⟩
end Go.Proofs.YtnjomdjkbbhdoaaDoor
namespace Go.Proofs.YtnjomdjkbbhdoaaDoor
open Go.RowKit
set_option linter.unusedVariables false
set_option linter.unusedSimpArgs false
set_option maxRecDepth 100000
set_option maxHeartbeats 4000000 in
theorem lawTells (ls : List T) (x : T) (n : Int) {v : Value} {cx : List Value} {σ : Hp} {w : World} (hi : Imm σ w) (htab : TabC Tryd.prog σ) (hl : KidsV σ v ls) (hx : TermC σ cx x) (hkx : (keyB x).length ≤ 140737488355328) : Calls Tryd.prog 4 #[v, .agg cx.toArray, .int .i64 n] w fun e w' => e = .returned (.bool true) ∧ Below w.heap.size w w' := by
  obtain ⟨p, c, rfl, hc, hm⟩ := hl.slice
  have hm2 := hm
  unfold maxKids at hm2
  have hx0 := hx
  obtain ⟨dvx, kvx, rfl, _, _, _, _⟩ := hx.opn
  refine enter (St w (fun _ => False) σ [] []) Tryd.func4 rfl Tryd.ntmps4 rfl (St.start hi) ?_
  refine cw_seq ?_
  refine cw_region ?_
  refine ow_blk rfl rfl (exw_box rfl) ?_; intro b4
  refine ow_val rfl rfl (ex_assign rfl) ?_
  refine ow_nil ?_
  refine qw_seq ?_
  refine cw_seq ?_
  refine cw_region ?_
  refine ow_cv rfl rfl (ex_callf rfl (fun w h => callB ((pHead6 h.im htab)))) ?_
  refine ow_val rfl rfl (ex_assign rfl) ?_
  refine ow_nil ?_
  refine qw_seq ?_
  refine cw_seq ?_
  refine cw_region ?_
  refine ow_ck0E rfl rfl (ex_callf rfl (fun w h => pNew h.im)) (fun v30 σ4 K4 hl4 hf4 hr4 => ?_)
  obtain ⟨bv, rfl, hv4⟩ := hr4
  refine ow_val rfl rfl (ex_assign rfl) ?_
  refine ow_nil ?_
  refine qw_seq ?_
  refine cw_seq ?_
  refine cw_region ?_
  refine ow_val rfl rfl (ex_build (parts := []) (cells := #[.slice none 0 0]) rfl (by kernel_rfl)) ?_
  refine ow_blk rfl rfl (exw_box rfl) ?_; intro bd
  refine ow_mono (fun w h => h.toG.permG (List.perm_append_comm (l₁ := K4) (l₂ := [_]))) ?_
  have hd4 : RefK 41 30 bd [] σ4 [(bd, .cells #[.slice none 0 0] 41)] := ⟨_, [], [], rfl, OwnSl.nil _ _, rfl, by simp⟩
  refine ow_val rfl rfl (ex_assign rfl) ?_
  refine ow_nil ?_
  refine qw_seq ?_
  refine cw_seq ?_
  refine cw_seq ?_
  refine cw_region ?_
  refine ow_val rfl rfl (ex_move rfl) ?_
  refine ow_val rfl rfl (ex_not rfl) ?_
  refine ow_val rfl rfl (ex_move rfl) ?_
  refine ow_split (g := some (2, false)) rfl (fun s35 => ?_) (fun s35 => ?_)
  ·
    cases s35
  ·
    refine ow_val rfl (gd_go rfl s35) (ex_move rfl) ?_
    refine ow_val rfl (gd_go rfl s35) (ex_ptrnil rfl) ?_
    refine ow_val rfl rfl (ex_pickf rfl s35 rfl) ?_
    refine ow_val rfl rfl (ex_move rfl) ?_
    refine ow_split (g := some (6, false)) rfl (fun s39 => ?_) (fun s39 => ?_)
    ·
      simp at s39
    ·
      refine ow_val rfl (gd_go rfl s39) (ex_move rfl) ?_
      refine ow_val rfl (gd_go rfl s39) (ex_len (ty := 0) rfl) ?_
      refine ow_val rfl (gd_go rfl s39) (ex_gtr rfl rfl) ?_
      refine ow_val rfl rfl (ex_pickf rfl s39 rfl) ?_
      refine ow_val rfl rfl (ex_move rfl) ?_
      refine ow_split (g := some (11, false)) rfl (fun s44 => ?_) (fun s44 => ?_)
      ·
        refine ow_skip rfl (gd_no rfl s44) ?_
        refine ow_skip rfl (gd_no rfl s44) ?_
        refine ow_skip rfl (gd_no rfl s44) ?_
        refine ow_val rfl rfl (ex_pickt rfl s44 rfl) ?_
        refine ow_nil ?_
        refine qw_seq ?_
        refine cw_cond_t rfl ?_
        refine cw_seq ?_
        refine cw_region ?_
        refine ow_val rfl rfl (ex_move rfl) ?_
        refine ow_val rfl rfl (ex_move rfl) ?_
        refine ow_split (g := some (1, true)) rfl (fun s50 => ?_) (fun s50 => ?_)
        ·
          refine ow_val rfl (gd_go rfl s50) (ex_move rfl) ?_
          refine ow_val rfl (gd_go rfl s50) (ex_ptrnnil rfl) ?_
          refine ow_val rfl rfl (ex_pickt rfl s50 rfl) ?_
          refine ow_val rfl rfl (ex_assign rfl) ?_
          refine ow_nil ?_
          refine qw_seq ?_
          refine cw_ret ?_
          refine qw_then_ret ?_
          refine qw_ret1 rfl rfl (fun w' h => ⟨congrArg (fun z => Ending.returned (.bool z)) ?_, h.ag.below⟩)
          first | rfl | simp [ord_self]
        ·
          first | (cases s50; done) | (simp at s50; done) | (simp [ord_self] at s50; done)
      ·
        refine ow_val rfl (gd_go rfl s44) (ex_loadR rfl (by first | exact ld_ownN 0 rfl rfl | exact ld_ownN 1 rfl rfl | exact ld_ownN 2 rfl rfl | exact ld_ownN 3 rfl rfl | exact ld_ownN 4 rfl rfl | exact ld_ownN 5 rfl rfl | exact ld_ownN 6 rfl rfl | exact ld_ownN 7 rfl rfl | exact ld_ownGN 0 rfl rfl | exact ld_ownGN 1 rfl rfl | exact ld_immT (by assumption) (by assumption))) ?_
        refine ow_cv rfl (gd_go rfl s44) (ex_callf rfl (fun w h => callB ((rParts _ h.im (hx0.le hl4) (by omega) (by omega))))) ?_
        refine ow_val rfl (gd_go rfl s44) (ex_gtr rfl rfl) ?_
        refine ow_val rfl rfl (ex_pickf rfl s44 rfl) ?_
        refine ow_nil ?_
        refine qw_seq ?_
        refine cw_cond rfl (fun c48 => ?_) (fun c48 => ?_)
        ·
          refine cw_seq ?_
          refine cw_region ?_
          refine ow_val rfl rfl (ex_move rfl) ?_
          refine ow_val rfl rfl (ex_move rfl) ?_
          refine ow_split (g := some (1, true)) rfl (fun s50 => ?_) (fun s50 => ?_)
          ·
            refine ow_val rfl (gd_go rfl s50) (ex_move rfl) ?_
            refine ow_val rfl (gd_go rfl s50) (ex_ptrnnil rfl) ?_
            refine ow_val rfl rfl (ex_pickt rfl s50 rfl) ?_
            refine ow_val rfl rfl (ex_assign rfl) ?_
            refine ow_nil ?_
            refine qw_seq ?_
            refine cw_ret ?_
            refine qw_then_ret ?_
            refine qw_ret1 rfl rfl (fun w' h => ⟨congrArg (fun z => Ending.returned (.bool z)) ?_, h.ag.below⟩)
            first | rfl | simp [ord_self]
          ·
            first | (cases s50; done) | (simp at s50; done) | (simp [ord_self] at s50; done)
        ·
          refine cw_skip ?_
          refine qw_seq ?_
          refine cw_seq ?_
          refine cw_seq ?_
          refine cw_region ?_
          refine ow_val rfl rfl (ex_assign rfl) ?_
          refine ow_nil ?_
          refine qw_seq ?_
          refine cw_block ?_
          refine cw_loop5 (fun (i : Nat) (ts : List T) (τ : Hp) (Kv Kd : List (Nat × Obj)) => [(0, .slice p ls.length c), (4, .pointer (some ⟨b4, 0, none⟩)), (2, .int .i64 n), (8, .pointer (some ⟨bv, 0, none⟩)), (9, .pointer (some ⟨bd, 0, none⟩)), (10, .int .i64 (i : Int))]) (fun i ts τ Kv Kd => i ≤ ls.length ∧ Le σ τ ∧ Fresh σ τ w ∧ VaultK 68 30 bv ts τ Kv ∧ RefK 41 30 bd ts τ Kd) (fun i ts τ Kv Kd => τ) (fun i ts τ Kv Kd => Kv ++ Kd) (fun i _ _ _ _ => ls.length - i) 0 [] σ4 K4 [(bd, .cells #[.slice none 0 0] 41)] (subL_cons (lkv rfl (by first | rfl | simp)) (subL_cons (lkv rfl (by first | rfl | simp)) (subL_cons (lkv rfl (by first | rfl | simp)) (subL_cons (lkv rfl (by first | rfl | simp)) (subL_cons (lkv rfl (by first | rfl | simp)) (subL_cons (lkv rfl (by first | rfl | simp)) (subL_nil _))))))) ⟨Nat.zero_le _, hl4, hf4, hv4, hd4⟩ (fun w h => h) ?_
          intro i ts τj Kv Kd ⟨hlej, hlj, hfj, hvj, hdj⟩
          refine cw_seq ?_
          refine cw_seq ?_
          refine cw_region ?_
          refine ow_val rfl rfl (ex_move rfl) ?_
          refine ow_val rfl rfl (ex_move rfl) ?_
          refine ow_val rfl rfl (ex_len (ty := 0) rfl) ?_
          refine ow_val rfl rfl (ex_lss rfl rfl) ?_
          refine ow_nil ?_
          refine qw_seq ?_
          refine cw_cond rfl (fun c57 => ?_) (fun c57 => ?_)
          ·
            refine cw_skip ?_
            refine qw_seq ?_
            refine cw_seq ?_
            refine cw_block ?_
            refine cw_seq ?_
            refine cw_seq ?_
            have hlt : i < ls.length := by have := of_decide_eq_true c57; omega
            obtain ⟨bk, f, c', cs, e1, e2, hc1, ht1⟩ := hl.get i hlt
            cases e1
            refine cw_region ?_
            refine ow_val rfl rfl (ex_move rfl) ?_
            refine ow_val rfl rfl (ex_move rfl) ?_
            refine ow_val rfl rfl (ex_index_nat rfl rfl (by omega)) ?_
            refine ow_val rfl rfl (ex_loadR rfl (ld_immT (hc1.le hlj) (ht1.le hlj))) ?_
            refine ow_cv rfl rfl (ex_callf rfl (fun w h => callB ((rParts _ h.im (ht1.le hlj) (by omega) (by omega))))) ?_
            refine ow_val rfl rfl (ex_gtr rfl rfl) ?_
            refine ow_nil ?_
            refine qw_seq ?_
            refine cw_cond rfl (fun c65 => ?_) (fun c65 => ?_)
            ·
              refine cw_seq ?_
              refine cw_region ?_
              refine ow_val rfl rfl (ex_assign rfl) ?_
              refine ow_nil ?_
              refine qw_seq ?_
              refine cw_ret ?_
              refine qw_then_ret ?_
              refine qw_block_ret ?_
              refine qw_then_ret ?_
              refine qw_then_ret ?_
              refine qw_block_ret ?_
              refine qw_then_ret ?_
              refine qw_ret1 rfl rfl (fun w' h => ⟨congrArg (fun z => Ending.returned (.bool z)) ?_, h.ag.below⟩)
              first | rfl | simp [ord_self]
            ·
              refine cw_skip ?_
              refine qw_seq ?_
              refine cw_seq ?_
              refine cw_region ?_
              refine ow_val rfl rfl (ex_move rfl) ?_
              refine ow_val rfl rfl (ex_move rfl) ?_
              refine ow_val rfl rfl (ex_index_nat rfl rfl (by omega)) ?_
              refine ow_val rfl rfl (ex_loadR rfl (ld_immT (hc1.le hlj) (ht1.le hlj))) ?_
              refine ow_ck0 rfl rfl (ex_callf rfl (fun w h => rCopiedO _ h.im (ht1.le hlj))) (fun v70 τ1 Ko hl1 hf1 hr1 => ?_)
              have hr1' := hr1
              obtain ⟨dvo, kvo, rfl, hoo, hno, hOo, hmo, hko⟩ := hr1'
              obtain ⟨pk, ck, rfl, _, _⟩ := hko.slice
              obtain ⟨pdo, cdo, rfl, hcdo⟩ := hOo.slice
              have hmo2 := hmo
              unfold maxData at hmo2
              refine ow_blk rfl rfl exw_alloc ?_; intro b11
              refine ow_u rfl (exu_storeN 0 rfl rfl rfl rfl (four_one rfl rfl) rfl) ?_
              refine ow_nil ?_
              refine qw_seq ?_
              refine cw_seq ?_
              refine cw_region ?_
              refine ow_val rfl rfl (ex_move rfl) ?_
              refine ow_val rfl rfl (ex_loadR rfl (by first | exact ld_ownN 0 rfl rfl | exact ld_ownN 1 rfl rfl | exact ld_ownN 2 rfl rfl | exact ld_ownN 3 rfl rfl | exact ld_ownN 4 rfl rfl | exact ld_ownN 5 rfl rfl | exact ld_ownN 6 rfl rfl | exact ld_ownN 7 rfl rfl | exact ld_ownGN 0 rfl rfl | exact ld_ownGN 1 rfl rfl | exact ld_immT (by assumption) (by assumption))) ?_
              refine ow_mono (fun w h => h.rotG) ?_
              refine ow_ck rfl rfl (ex_callf rfl (fun w h => pInternF _ h.has h.seesK h.hasA.le (htab.le (hlj.trans hl1)) (hvj.le hl1) (OwnT.seenC (cs := [.int .i64 ls[i].op, .int .i64 ls[i].num, .slice pdo ls[i].data.length cdo, .slice pk ls[i].kids.length ck]) hr1 h.hasA))) (fun v74 τ2 K2 hl2 hf2 hr2 => ?_)
              obtain ⟨rfl, hv2⟩ := hr2
              refine ow_val rfl rfl (ex_move rfl) ?_
              refine ow_val rfl rfl (ex_extract rfl rfl) ?_
              refine ow_val rfl rfl (ex_extract rfl rfl) ?_
              refine ow_val rfl rfl (ex_assign rfl) ?_
              refine ow_val rfl rfl (ex_assign rfl) ?_
              refine ow_nil ?_
              refine qw_seq ?_
              refine cw_seq ?_
              refine cw_region ?_
              refine ow_val rfl rfl (ex_move rfl) ?_
              refine ow_val rfl rfl (ex_move rfl) ?_
              refine ow_val rfl rfl (ex_move rfl) ?_
              refine ow_val rfl rfl (ex_index_nat rfl rfl (by omega)) ?_
              refine ow_val rfl rfl (ex_loadR rfl (ld_immT (hc1.le ((hlj.trans hl1).trans hl2)) (ht1.le ((hlj.trans hl1).trans hl2)))) ?_
              refine ow_mono (fun w h => h.swapG) ?_
              refine ow_ck rfl rfl (ex_callf rfl (fun w h => rIntern _ h.has ((hdj.le hl1).le hl2) (ht1.le ((hlj.trans hl1).trans hl2)))) (fun v83 τ3 K3 hl3 hf3 hr3 => ?_)
              obtain ⟨rfl, hd3⟩ := hr3
              refine ow_mono (fun w h => h.revG) ?_
              refine ow_val rfl rfl (ex_move rfl) ?_
              refine ow_val rfl rfl (ex_extract rfl rfl) ?_
              refine ow_val rfl rfl (ex_extract rfl rfl) ?_
              refine ow_val rfl rfl (ex_assign rfl) ?_
              refine ow_val rfl rfl (ex_assign rfl) ?_
              refine ow_nil ?_
              refine qw_seq ?_
              refine cw_seq ?_
              refine cw_seq ?_
              refine cw_region ?_
              refine ow_val rfl rfl (ex_assign rfl) ?_
              refine ow_nil ?_
              refine qw_seq ?_
              refine cw_block ?_
              refine cw_loop3 (fun (k : Nat) (K' : List (Nat × Obj)) (_ : Unit) => [(0, .slice (some ⟨bk, f, none⟩) ls.length c), (2, .int .i64 n), (4, .pointer (some ⟨b4, 0, none⟩)), (8, .pointer (some ⟨bv, 0, none⟩)), (9, .pointer (some ⟨bd, 0, none⟩)), (10, .int .i64 (i : Int)), (11, .pointer (some ⟨b11, 0, none⟩)), (12, .int .i64 (intern ts ls[i]).1), (13, .int .i64 (intern ts ls[i]).2.1), (14, .int .i64 (intern ts ls[i]).1), (15, .int .i64 (intern ts ls[i]).2.1), (16, .int .i64 (k : Int))]) (fun k K' _ => k ≤ ls[i].data.length ∧ RowZ 5 ls[i].data.length (.slice pdo ls[i].data.length cdo) K') (fun k K' _ => τ3) (fun k K' _ => K' ++ (K2 ++ K3)) (fun k _ _ => ls[i].data.length - k) 0 Ko () (subL_cons (lkv rfl (by first | rfl | simp)) (subL_cons (lkv rfl (by first | rfl | simp)) (subL_cons (lkv rfl (by first | rfl | simp)) (subL_cons (lkv rfl (by first | rfl | simp)) (subL_cons (lkv rfl (by first | rfl | simp)) (subL_cons (lkv rfl (by first | rfl | simp)) (subL_cons (lkv rfl (by first | rfl | simp)) (subL_cons (lkv rfl (by first | rfl | simp)) (subL_cons (lkv rfl (by first | rfl | simp)) (subL_cons (lkv rfl (by first | rfl | simp)) (subL_cons (lkv rfl (by first | rfl | simp)) (subL_cons (lkv rfl (by first | rfl | simp)) (subL_nil _))))))))))))) ⟨Nat.zero_le _, hOo.rowZ⟩ (fun w h => h) ?_
              intro k Kr _ ⟨hlek, hrz⟩
              refine cw_seq ?_
              refine cw_seq ?_
              refine cw_region ?_
              refine ow_val rfl rfl (ex_move rfl) ?_
              refine ow_val rfl rfl (ex_field rfl) ?_
              refine ow_val rfl rfl (ex_load1 rfl (by first | exact ld_own1 0 rfl rfl | exact ld_own1 1 rfl rfl | exact ld_own1 2 rfl rfl | exact ld_own1 3 rfl rfl | exact ld_own1 4 rfl rfl | exact ld_own1 5 rfl rfl | exact ld_own1 6 rfl rfl | exact ld_own1 7 rfl rfl | exact ld_ownG1 0 rfl rfl | exact ld_ownG1 1 rfl rfl | exact ld_imm1 (by assumption))) ?_
              refine ow_val rfl rfl (ex_len (ty := 0) rfl) ?_
              refine ow_val rfl rfl (ex_lss rfl rfl) ?_
              refine ow_nil ?_
              refine qw_seq ?_
              refine cw_cond rfl (fun c90 => ?_) (fun c90 => ?_)
              ·
                refine cw_skip ?_
                refine qw_seq ?_
                refine cw_seq ?_
                refine cw_block ?_
                have hkn : k < ls[i].data.length := by have := of_decide_eq_true c90; omega
                obtain ⟨g, c9, cur, z, e9, e8, hnc, hz, hcz⟩ := hrz.open hkn
                cases e9
                subst e8
                refine cw_mono (fun w h => h.ofG) ?_
                refine cw_region ?_
                refine ow_val rfl rfl (ex_field rfl) ?_
                refine ow_val rfl rfl (ex_load1 rfl (by first | exact ld_own1 0 rfl rfl | exact ld_own1 1 rfl rfl | exact ld_own1 2 rfl rfl | exact ld_own1 3 rfl rfl | exact ld_own1 4 rfl rfl | exact ld_own1 5 rfl rfl | exact ld_own1 6 rfl rfl | exact ld_own1 7 rfl rfl | exact ld_ownG1 0 rfl rfl | exact ld_ownG1 1 rfl rfl | exact ld_imm1 (by assumption))) ?_
                refine ow_val rfl rfl (ex_move rfl) ?_
                refine ow_val rfl rfl (ex_index_nat rfl rfl (by omega)) ?_
                refine ow_val rfl rfl (ex_load1 rfl (ld_own1 0 rfl hcz)) ?_
                refine ow_val rfl rfl (ex_add rfl rfl) ?_
                refine ow_val rfl rfl (ex_index_nat rfl rfl (by omega)) ?_
                refine ow_u rfl (exu_store1 0 rfl rfl rfl rfl rfl (Nat.ble_eq_true_of_le (by omega))) ?_
                refine ow_nil ?_
                refine qw_block_normal ?_
                refine qw_seq ?_
                refine cw_region ?_
                refine ow_val rfl rfl (ex_move rfl) ?_
                refine ow_val rfl rfl (ex_addi (z := ((k + 1 : Nat) : Int)) rfl rfl (by omega) (by omega) (by omega)) ?_
                refine ow_val rfl rfl (ex_assign rfl) ?_
                refine ow_nil ?_
                exact qw_round3 (k + 1) [_] () (by omega) (subL_cons (lkv rfl (by first | rfl | simp)) (subL_cons (lkv rfl (by first | rfl | simp)) (subL_cons (lkv rfl (by first | rfl | simp)) (subL_cons (lkv rfl (by first | rfl | simp)) (subL_cons (lkv rfl (by first | rfl | simp)) (subL_cons (lkv rfl (by first | rfl | simp)) (subL_cons (lkv rfl (by first | rfl | simp)) (subL_cons (lkv rfl (by first | rfl | simp)) (subL_cons (lkv rfl (by first | rfl | simp)) (subL_cons (lkv rfl (by first | rfl | simp)) (subL_cons (lkv rfl (by first | rfl | simp)) (subL_cons (lkv rfl (by first | rfl | simp)) (subL_nil _))))))))))))) ⟨by omega, RowZ.set hkn hnc hz⟩ (fun w h => h.toG)
              ·
                refine cw_exit ?_
                refine qw_then_exit ?_
                refine qw_then_exit ?_
                refine qw_block_exit ?_
                refine qw_seq ?_
                refine cw_seq ?_
                refine cw_mono (fun w h => h.dropG (List.sublist_append_right _ _)) ?_
                have hv3 := hv2.le hl3
                have hd3' := hd3
                obtain ⟨sv, xs, Gs, rfl, hO, hrow, hfew⟩ := hd3'
                obtain ⟨pq, cq, rfl, hcq⟩ := hO.slice
                refine cw_region ?_
                refine ow_val rfl rfl (ex_field rfl) ?_
                refine ow_val rfl rfl (ex_load1 rfl (by first | exact ld_own1 0 rfl rfl | exact ld_own1 1 rfl rfl | exact ld_own1 2 rfl rfl | exact ld_own1 3 rfl rfl | exact ld_own1 4 rfl rfl | exact ld_own1 5 rfl rfl | exact ld_own1 6 rfl rfl | exact ld_own1 7 rfl rfl | exact ld_ownG1 0 rfl rfl | exact ld_ownG1 1 rfl rfl | exact ld_imm1 (by assumption))) ?_
                refine ow_val rfl rfl (ex_add rfl rfl) ?_
                refine ow_val rfl rfl (ex_field rfl) ?_
                refine ow_u rfl (exu_store1 0 rfl rfl rfl rfl rfl rfl) ?_
                refine ow_nil ?_
                refine qw_seq ?_
                refine cw_seq ?_
                refine flow_sound 18 (by kernel_rfl) ?_
                refine flow_val rfl (ex_move rfl) ?_
                refine flow_val rfl (ex_move rfl) ?_
                refine flow_val rfl (ex_neq rfl rfl) ?_
                refine flow_val rfl (ex_move rfl) ?_
                refine flow_split rfl (fun s107 => ?_) (fun s107 => ?_)
                ·
                  first | (cases s107; done) | (simp at s107; done) | (simp [ord_self] at s107; done)
                ·
                  refine flow_val (gd_go rfl s107) (ex_move rfl) ?_
                  refine flow_val (gd_go rfl s107) (ex_move rfl) ?_
                  refine flow_val (gd_go rfl s107) (ex_neq rfl rfl) ?_
                  refine flow_val rfl (ex_pickf rfl s107 rfl) ?_
                  refine flow_val rfl (ex_move rfl) ?_
                  refine flow_split rfl (fun s112 => ?_) (fun s112 => ?_)
                  ·
                    first | (cases s112; done) | (simp at s112; done) | (simp [ord_self] at s112; done)
                  ·
                    refine flow_val (gd_go rfl s112) (ex_move rfl) ?_
                    refine flow_cv (gd_go rfl s112) (ex_callf rfl (fun w h => callB ((pLenK h.has hv3)))) ?_
                    refine flow_val (gd_go rfl s112) (ex_move rfl) ?_
                    refine flow_val (gd_go rfl s112) (ex_nilck rfl) ?_
                    refine flow_val (gd_go rfl s112) (ex_field rfl) ?_
                    refine flow_val (gd_go rfl s112) (ex_load1 rfl (fun w h => (CellsAt.of1 (exts_get (h.permG List.perm_append_comm).has.nd List.mem_cons_self) rfl).cell (h.permG List.perm_append_comm).has.exts)) ?_
                    refine flow_val (gd_go rfl s112) (ex_len (ty := 0) rfl) ?_
                    refine flow_val (gd_go rfl s112) (ex_neq rfl rfl) ?_
                    refine flow_val rfl (ex_pickf rfl s112 rfl) ?_
                    refine flow_nil ?_
                    refine fin_is ?_
                    refine fin_is ?_
                    refine fin_is ?_
                    refine fin_is ?_
                    refine fin_is ?_
                    refine fin_is ?_
                    refine fin_is ?_
                    refine fin_is ?_
                    refine fin_is ?_
                    refine fin_is ?_
                    refine fin_is ?_
                    refine fin_is ?_
                    refine fin_is ?_
                    refine fin_is ?_
                    refine fin_is ?_
                    refine fin_is ?_
                    refine fin_is ?_
                    refine fin_is ?_
                    refine fin_nil ?_
                    refine ow_nil ?_
                    refine qw_seq ?_
                    refine cw_cond rfl (fun c121 => ?_) (fun c121 => ?_)
                    ·
                      first | (cases c121; done) | (simp at c121; done) | (simp [ord_self] at c121; done)
                    ·
                      refine cw_skip ?_
                      refine qw_block_normal ?_
                      refine qw_seq ?_
                      refine cw_region ?_
                      refine ow_val rfl rfl (ex_move rfl) ?_
                      refine ow_val rfl rfl (ex_addi (z := ((i + 1 : Nat) : Int)) rfl rfl (by omega) (by omega) (by omega)) ?_
                      refine ow_val rfl rfl (ex_assign rfl) ?_
                      refine ow_nil ?_
                      exact qw_round5 (i + 1) (intern ts ls[i]).2.2 τ3 K2 _ (by omega) (subL_cons (lkv rfl (by first | rfl | simp)) (subL_cons (lkv rfl (by first | rfl | simp)) (subL_cons (lkv rfl (by first | rfl | simp)) (subL_cons (lkv rfl (by first | rfl | simp)) (subL_cons (lkv rfl (by first | rfl | simp)) (subL_cons (lkv rfl (by first | rfl | simp)) (subL_nil _))))))) ⟨by omega, ((hlj.trans hl1).trans hl2).trans hl3, ((hfj.trans hf1).trans hf2).trans hf3, hv3, hd3⟩ (fun w h => h.drop (List.sublist_cons_self _ _))
          ·
            refine cw_exit ?_
            refine qw_then_exit ?_
            refine qw_then_exit ?_
            refine qw_block_exit ?_
            refine qw_seq ?_
            refine cw_seq ?_
            refine cw_region ?_
            refine ow_val rfl rfl (ex_move rfl) ?_
            refine ow_val rfl rfl (ex_loadR rfl (by first | exact ld_ownN 0 rfl rfl | exact ld_ownN 1 rfl rfl | exact ld_ownN 2 rfl rfl | exact ld_ownN 3 rfl rfl | exact ld_ownN 4 rfl rfl | exact ld_ownN 5 rfl rfl | exact ld_ownN 6 rfl rfl | exact ld_ownN 7 rfl rfl | exact ld_ownGN 0 rfl rfl | exact ld_ownGN 1 rfl rfl | exact ld_immT (by assumption) (by assumption))) ?_
            refine ow_cv rfl rfl (ex_callf rfl (fun w h => callB ((pFindK x h.has (htab.le hlj) hvj (hx0.le hlj) hkx)))) ?_
            refine ow_val rfl rfl (ex_move rfl) ?_
            refine ow_val rfl rfl (ex_extract rfl rfl) ?_
            refine ow_val rfl rfl (ex_extract rfl rfl) ?_
            refine ow_val rfl rfl (ex_assign rfl) ?_
            refine ow_val rfl rfl (ex_assign rfl) ?_
            refine ow_nil ?_
            refine qw_seq ?_
            refine cw_seq ?_
            refine cw_region ?_
            refine ow_val rfl rfl (ex_move rfl) ?_
            refine ow_val rfl rfl (ex_loadR rfl (by first | exact ld_ownN 0 rfl rfl | exact ld_ownN 1 rfl rfl | exact ld_ownN 2 rfl rfl | exact ld_ownN 3 rfl rfl | exact ld_ownN 4 rfl rfl | exact ld_ownN 5 rfl rfl | exact ld_ownN 6 rfl rfl | exact ld_ownN 7 rfl rfl | exact ld_ownGN 0 rfl rfl | exact ld_ownGN 1 rfl rfl | exact ld_immT (by assumption) (by assumption))) ?_
            refine ow_cv rfl rfl (ex_callf rfl (fun w h => callB ((rFindK x (h.permG List.perm_append_comm).has hdj (hx0.le hlj))))) ?_
            refine ow_val rfl rfl (ex_move rfl) ?_
            refine ow_val rfl rfl (ex_extract rfl rfl) ?_
            refine ow_val rfl rfl (ex_extract rfl rfl) ?_
            refine ow_val rfl rfl (ex_assign rfl) ?_
            refine ow_val rfl rfl (ex_assign rfl) ?_
            refine ow_nil ?_
            refine qw_seq ?_
            refine cw_seq ?_
            refine cw_region ?_
            refine ow_val rfl rfl (ex_move rfl) ?_
            refine ow_val rfl rfl (ex_move rfl) ?_
            refine ow_ck0 rfl rfl (ex_callf rfl (fun w h => pTermO h.has hvj)) (fun v137 τ1 Ks hl1 hf1 hr1 => ?_)
            obtain ⟨u0, rfl, hr1⟩ := hr1
            have hr1' := hr1
            obtain ⟨dvs, kvs, rfl, hos, hns, hOs, hms, hks⟩ := hr1'
            obtain ⟨pk, ck, rfl, _, _⟩ := hks.slice
            obtain ⟨pds, cds, rfl, hcds⟩ := hOs.slice
            have hms2 := hms
            unfold maxData at hms2
            refine ow_val rfl rfl (ex_move rfl) ?_
            refine ow_val rfl rfl (ex_extract rfl rfl) ?_
            refine ow_val rfl rfl (ex_extract rfl rfl) ?_
            refine ow_blk rfl rfl exw_alloc ?_; intro b21
            refine ow_u rfl (exu_storeN 0 rfl rfl rfl rfl (four_one rfl rfl) rfl) ?_
            refine ow_val rfl rfl (ex_assign rfl) ?_
            refine ow_nil ?_
            refine qw_seq ?_
            refine cw_seq ?_
            refine cw_region ?_
            refine ow_val rfl rfl (ex_move rfl) ?_
            refine ow_val rfl rfl (ex_move rfl) ?_
            refine ow_cr rfl rfl (ex_callf rfl (fun w h => callR (rTerm h.revG.has (hdj.le hl1)))) (fun v143 τ2 hl2 hf2 hr2 => ?_)
            obtain ⟨ct, rfl, htt⟩ := hr2
            have htt' := htt
            obtain ⟨d143, k143, rfl, _, _, _, _⟩ := htt'.opn
            refine ow_val rfl rfl (ex_move rfl) ?_
            refine ow_val rfl rfl (ex_extract rfl rfl) ?_
            refine ow_val rfl rfl (ex_extract rfl rfl) ?_
            refine ow_blk rfl rfl exw_alloc ?_; intro b23
            refine ow_u rfl (exu_storeN 0 rfl rfl rfl rfl htt.one rfl) ?_
            refine ow_val rfl rfl (ex_assign rfl) ?_
            refine ow_nil ?_
            refine qw_seq ?_
            refine cw_seq ?_
            refine cw_region ?_
            refine ow_val rfl rfl (ex_loadR rfl (by first | exact ld_ownN 0 rfl rfl | exact ld_ownN 1 rfl rfl | exact ld_ownN 2 rfl rfl | exact ld_ownN 3 rfl rfl | exact ld_ownN 4 rfl rfl | exact ld_ownN 5 rfl rfl | exact ld_ownN 6 rfl rfl | exact ld_ownN 7 rfl rfl | exact ld_ownGN 0 rfl rfl | exact ld_ownGN 1 rfl rfl | exact ld_immT (by assumption) (by assumption))) ?_
            refine ow_val rfl rfl (ex_loadR rfl (by first | exact ld_ownN 0 rfl rfl | exact ld_ownN 1 rfl rfl | exact ld_ownN 2 rfl rfl | exact ld_ownN 3 rfl rfl | exact ld_ownN 4 rfl rfl | exact ld_ownN 5 rfl rfl | exact ld_ownN 6 rfl rfl | exact ld_ownN 7 rfl rfl | exact ld_ownGN 0 rfl rfl | exact ld_ownGN 1 rfl rfl | exact ld_immT (by assumption) (by assumption))) ?_
            refine ow_cv rfl rfl (ex_callf rfl (fun w h => callB ((rSame _ _ h.has.exts (((hr1.le hl2).seenC (cs := [.int .i64 (termV ts n).1.op, .int .i64 (termV ts n).1.num, .slice pds (termV ts n).1.data.length cds, .slice pk (termV ts n).1.kids.length ck]) h.has).join h.has.le) (htt.le h.has.le))))) ?_
            refine ow_val rfl rfl (ex_assign rfl) ?_
            refine ow_nil ?_
            refine qw_seq ?_
            refine cw_seq ?_
            refine cw_seq ?_
            refine cw_region ?_
            refine ow_val rfl rfl (ex_assign rfl) ?_
            refine ow_nil ?_
            refine qw_seq ?_
            refine cw_block ?_
            refine cw_loop3 (fun (k : Nat) (K' : List (Nat × Obj)) (_ : Unit) => [(2, .int .i64 n), (8, .pointer (some ⟨bv, 0, none⟩)), (9, .pointer (some ⟨bd, 0, none⟩)), (17, .int .i64 (posT ts x)), (18, .bool (decide (0 ≤ posT ts x))), (19, .int .i64 (posT ts x)), (20, .bool (decide (0 ≤ posT ts x))), (21, .pointer (some ⟨b21, 0, none⟩)), (22, .bool (termV ts n).2), (23, .pointer (some ⟨b23, 0, none⟩)), (24, .bool (termV ts n).2), (25, .bool (decide (ord (termV ts n).1 (termV ts n).1 = 0))), (26, .int .i64 (k : Int))]) (fun k K' _ => k ≤ (termV ts n).1.data.length ∧ RowZ 5 (termV ts n).1.data.length (.slice pds (termV ts n).1.data.length cds) K') (fun k K' _ => τ2) (fun k K' _ => K' ++ (Kv ++ Kd)) (fun k _ _ => (termV ts n).1.data.length - k) 0 Ks () (subL_cons (lkv rfl (by first | rfl | simp)) (subL_cons (lkv rfl (by first | rfl | simp)) (subL_cons (lkv rfl (by first | rfl | simp)) (subL_cons (lkv rfl (by first | rfl | simp)) (subL_cons (lkv rfl (by first | rfl | simp)) (subL_cons (lkv rfl (by first | rfl | simp)) (subL_cons (lkv rfl (by first | rfl | simp)) (subL_cons (lkv rfl (by first | rfl | simp)) (subL_cons (lkv rfl (by first | rfl | simp)) (subL_cons (lkv rfl (by first | rfl | simp)) (subL_cons (lkv rfl (by first | rfl | simp)) (subL_cons (lkv rfl (by first | rfl | simp)) (subL_cons (lkv rfl (by first | rfl | simp)) (subL_nil _)))))))))))))) ⟨Nat.zero_le _, hOs.rowZ⟩ (fun w h => h) ?_
            intro k Kr _ ⟨hlek, hrz⟩
            refine cw_seq ?_
            refine cw_seq ?_
            refine cw_region ?_
            refine ow_val rfl rfl (ex_move rfl) ?_
            refine ow_val rfl rfl (ex_field rfl) ?_
            refine ow_val rfl rfl (ex_load1 rfl (by first | exact ld_own1 0 rfl rfl | exact ld_own1 1 rfl rfl | exact ld_own1 2 rfl rfl | exact ld_own1 3 rfl rfl | exact ld_own1 4 rfl rfl | exact ld_own1 5 rfl rfl | exact ld_own1 6 rfl rfl | exact ld_own1 7 rfl rfl | exact ld_ownG1 0 rfl rfl | exact ld_ownG1 1 rfl rfl | exact ld_imm1 (by assumption))) ?_
            refine ow_val rfl rfl (ex_len (ty := 0) rfl) ?_
            refine ow_val rfl rfl (ex_lss rfl rfl) ?_
            refine ow_nil ?_
            refine qw_seq ?_
            refine cw_cond rfl (fun c153 => ?_) (fun c153 => ?_)
            ·
              refine cw_skip ?_
              refine qw_seq ?_
              refine cw_seq ?_
              refine cw_block ?_
              have hkn : k < (termV ts n).1.data.length := by have := of_decide_eq_true c153; omega
              obtain ⟨g, c9, cur, z, e9, e8, hnc, hz, hcz⟩ := hrz.open hkn
              cases e9
              subst e8
              refine cw_mono (fun w h => h.ofG) ?_
              refine cw_region ?_
              refine ow_val rfl rfl (ex_field rfl) ?_
              refine ow_val rfl rfl (ex_load1 rfl (by first | exact ld_own1 0 rfl rfl | exact ld_own1 1 rfl rfl | exact ld_own1 2 rfl rfl | exact ld_own1 3 rfl rfl | exact ld_own1 4 rfl rfl | exact ld_own1 5 rfl rfl | exact ld_own1 6 rfl rfl | exact ld_own1 7 rfl rfl | exact ld_ownG1 0 rfl rfl | exact ld_ownG1 1 rfl rfl | exact ld_imm1 (by assumption))) ?_
              refine ow_val rfl rfl (ex_move rfl) ?_
              refine ow_val rfl rfl (ex_index_nat rfl rfl (by omega)) ?_
              refine ow_val rfl rfl (ex_load1 rfl (ld_own1 0 rfl hcz)) ?_
              refine ow_val rfl rfl (ex_add rfl rfl) ?_
              refine ow_val rfl rfl (ex_index_nat rfl rfl (by omega)) ?_
              refine ow_u rfl (exu_store1 0 rfl rfl rfl rfl rfl (Nat.ble_eq_true_of_le (by omega))) ?_
              refine ow_nil ?_
              refine qw_block_normal ?_
              refine qw_seq ?_
              refine cw_region ?_
              refine ow_val rfl rfl (ex_move rfl) ?_
              refine ow_val rfl rfl (ex_addi (z := ((k + 1 : Nat) : Int)) rfl rfl (by omega) (by omega) (by omega)) ?_
              refine ow_val rfl rfl (ex_assign rfl) ?_
              refine ow_nil ?_
              exact qw_round3 (k + 1) [_] () (by omega) (subL_cons (lkv rfl (by first | rfl | simp)) (subL_cons (lkv rfl (by first | rfl | simp)) (subL_cons (lkv rfl (by first | rfl | simp)) (subL_cons (lkv rfl (by first | rfl | simp)) (subL_cons (lkv rfl (by first | rfl | simp)) (subL_cons (lkv rfl (by first | rfl | simp)) (subL_cons (lkv rfl (by first | rfl | simp)) (subL_cons (lkv rfl (by first | rfl | simp)) (subL_cons (lkv rfl (by first | rfl | simp)) (subL_cons (lkv rfl (by first | rfl | simp)) (subL_cons (lkv rfl (by first | rfl | simp)) (subL_cons (lkv rfl (by first | rfl | simp)) (subL_cons (lkv rfl (by first | rfl | simp)) (subL_nil _)))))))))))))) ⟨by omega, RowZ.set hkn hnc hz⟩ (fun w h => h.toG)
            ·
              refine cw_exit ?_
              refine qw_then_exit ?_
              refine qw_then_exit ?_
              refine qw_block_exit ?_
              refine qw_seq ?_
              refine cw_seq ?_
              refine cw_mono (fun w h => h.dropG (List.sublist_append_right _ _)) ?_
              refine cw_region ?_
              refine ow_val rfl rfl (ex_move rfl) ?_
              refine ow_val rfl rfl (ex_move rfl) ?_
              refine ow_cr rfl rfl (ex_callf rfl (fun w h => callR (pTerm h.has ((hvj.le hl1).le hl2)))) (fun v166 τ3 hl3 hf3 hr3 => ?_)
              obtain ⟨cu, rfl, htu⟩ := hr3
              have htu' := htu
              obtain ⟨d166, k166, rfl, _, _, _, _⟩ := htu'.opn
              refine ow_val rfl rfl (ex_move rfl) ?_
              refine ow_val rfl rfl (ex_extract rfl rfl) ?_
              refine ow_val rfl rfl (ex_extract rfl rfl) ?_
              refine ow_blk rfl rfl exw_alloc ?_; intro b27
              refine ow_u rfl (exu_storeN 0 rfl rfl rfl rfl htu.one rfl) ?_
              refine ow_val rfl rfl (ex_assign rfl) ?_
              refine ow_nil ?_
              refine qw_seq ?_
              refine cw_seq ?_
              refine cw_region ?_
              refine ow_val rfl rfl (ex_move rfl) ?_
              refine ow_val rfl rfl (ex_move rfl) ?_
              refine ow_val rfl rfl (ex_eql rfl rfl) ?_
              refine ow_val rfl rfl (ex_move rfl) ?_
              refine ow_split (g := some (3, true)) rfl (fun s172 => ?_) (fun s172 => ?_)
              ·
                refine ow_val rfl (gd_go rfl s172) (ex_move rfl) ?_
                refine ow_val rfl (gd_go rfl s172) (ex_move rfl) ?_
                refine ow_val rfl (gd_go rfl s172) (ex_eqlb rfl rfl) ?_
                refine ow_val rfl rfl (ex_pickt rfl s172 rfl) ?_
                refine ow_val rfl rfl (ex_move rfl) ?_
                refine ow_split (g := some (8, true)) rfl (fun s177 => ?_) (fun s177 => ?_)
                ·
                  refine ow_val rfl (gd_go rfl s177) (ex_move rfl) ?_
                  refine ow_val rfl (gd_go rfl s177) (ex_move rfl) ?_
                  refine ow_val rfl (gd_go rfl s177) (ex_eqlb rfl rfl) ?_
                  refine ow_val rfl rfl (ex_pickt rfl s177 rfl) ?_
                  refine ow_val rfl rfl (ex_move rfl) ?_
                  refine ow_split (g := some (13, true)) rfl (fun s182 => ?_) (fun s182 => ?_)
                  ·
                    refine ow_val rfl (gd_go rfl s182) (ex_move rfl) ?_
                    refine ow_val rfl rfl (ex_pickt rfl s182 rfl) ?_
                    refine ow_val rfl rfl (ex_move rfl) ?_
                    refine ow_split (g := some (16, true)) rfl (fun s185 => ?_) (fun s185 => ?_)
                    ·
                      refine ow_val rfl (gd_go rfl s185) (ex_loadR rfl (by first | exact ld_ownN 0 rfl rfl | exact ld_ownN 1 rfl rfl | exact ld_ownN 2 rfl rfl | exact ld_ownN 3 rfl rfl | exact ld_ownN 4 rfl rfl | exact ld_ownN 5 rfl rfl | exact ld_ownN 6 rfl rfl | exact ld_ownN 7 rfl rfl | exact ld_ownGN 0 rfl rfl | exact ld_ownGN 1 rfl rfl | exact ld_immT (by assumption) (by assumption))) ?_
                      refine ow_val rfl (gd_go rfl s185) (ex_loadR rfl (by first | exact ld_ownN 0 rfl rfl | exact ld_ownN 1 rfl rfl | exact ld_ownN 2 rfl rfl | exact ld_ownN 3 rfl rfl | exact ld_ownN 4 rfl rfl | exact ld_ownN 5 rfl rfl | exact ld_ownN 6 rfl rfl | exact ld_ownN 7 rfl rfl | exact ld_ownGN 0 rfl rfl | exact ld_ownGN 1 rfl rfl | exact ld_immT (by assumption) (by assumption))) ?_
                      refine ow_cv rfl (gd_go rfl s185) (ex_callf rfl (fun w h => callB ((rSame _ _ h.im htu (htt.le hl3))))) ?_
                      refine ow_val rfl rfl (ex_pickt rfl s185 rfl) ?_
                      refine ow_val rfl rfl (ex_assign rfl) ?_
                      refine ow_nil ?_
                      refine qw_seq ?_
                      refine cw_ret ?_
                      refine qw_ret1 rfl rfl (fun w' h => ⟨congrArg (fun z => Ending.returned (.bool z)) ?_, h.ag.below⟩)
                      first | rfl | simp [ord_self]
                    ·
                      first | (cases s185; done) | (simp at s185; done) | (simp [ord_self] at s185; done)
                  ·
                    first | (cases s182; done) | (simp at s182; done) | (simp [ord_self] at s182; done)
                ·
                  first | (cases s177; done) | (simp at s177; done) | (simp [ord_self] at s177; done)
              ·
                first | (cases s172; done) | (simp at s172; done) | (simp [ord_self] at s172; done)
end Go.Proofs.YtnjomdjkbbhdoaaDoor
