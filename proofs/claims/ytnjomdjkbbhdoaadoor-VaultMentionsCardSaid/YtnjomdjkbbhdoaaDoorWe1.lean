/-
  Walks: numbers out of bytes.
  No condition.
-/
import Derived.Test.YtnjomdjkbbhdoaaDoorWd8
import Derived.Test.YtnjomdjkbbhdoaaDoorNum
namespace Go.Proofs.YtnjomdjkbbhdoaaDoor
open Go.RowKit
set_option linter.unusedVariables false
set_option linter.unusedSimpArgs false
set_option maxRecDepth 100000

set_option maxHeartbeats 400000 in
theorem pHasPre {d q : List UInt8} {v u : Value} {σ : Hp} {w : World} (hi : Imm σ w) (hd : BytesV σ v d) (hq : BytesV σ u q) : Calls Tryd.prog 79 #[v, u] w fun e w' => e = .returned (.bool (hpB q d)) ∧ Below w.heap.size w w' := by
  obtain ⟨p, c, rfl, hc1, _⟩ := hd.slice
  obtain ⟨p2, c2, rfl, hc2, _⟩ := hq.slice
  refine enter (St w (fun _ => False) σ [] []) Tryd.func79 rfl Tryd.ntmps79 rfl (St.start hi) ?_
  refine cw_seq ?_
  refine cw_region ?_
  refine ow_val rfl rfl (ex_assign rfl) ?_
  refine ow_nil ?_
  refine qw_seq ?_
  refine cw_seq ?_
  refine cw_region ?_
  refine ow_val rfl rfl (ex_move rfl) ?_
  refine ow_val rfl rfl (ex_len (ty := 0) rfl) ?_
  refine ow_val rfl rfl (ex_move rfl) ?_
  refine ow_val rfl rfl (ex_len (ty := 0) rfl) ?_
  refine ow_val rfl rfl (ex_geq rfl rfl) ?_
  refine ow_val rfl rfl (ex_move rfl) ?_
  refine ow_split (g := some (5, true)) rfl (fun s10 => ?_) (fun s10 => ?_)
  ·
    refine ow_val rfl (gd_go rfl s10) (ex_move rfl) ?_
    refine ow_val rfl (gd_go rfl s10) (ex_move rfl) ?_
    refine ow_val rfl (gd_go rfl s10) (ex_len (ty := 0) rfl) ?_
    refine ow_val rfl (gd_go rfl s10) (ex_slice_hi rfl rfl (by have := of_decide_eq_true s10; omega)) ?_
    refine ow_val rfl (gd_go rfl s10) (ex_move rfl) ?_
    refine ow_cv rfl (gd_go rfl s10) (ex_callf rfl (fun w h => callB ((pBytesEq h.im (hd.hi (by have := of_decide_eq_true s10; omega)) hq)))) ?_
    refine ow_val rfl rfl (ex_pickt rfl s10 rfl) ?_
    refine ow_val rfl rfl (ex_assign rfl) ?_
    refine ow_nil ?_
    refine qw_seq ?_
    refine cw_ret ?_
    refine qw_ret1 rfl rfl (fun w' h => ⟨congrArg (fun z => Ending.returned (.bool z)) ?_, h.ag.below⟩)
    unfold hpB
    first | (rw [show decide (q.length ≤ d.length) = true from by have := of_decide_eq_true s10; exact decide_eq_true (by omega)]; rfl) | (rw [show decide (q.length ≤ d.length) = false from by have := of_decide_eq_false s10; exact decide_eq_false (by omega)]; rfl)
  ·
    refine ow_skip rfl (gd_no rfl s10) ?_
    refine ow_skip rfl (gd_no rfl s10) ?_
    refine ow_skip rfl (gd_no rfl s10) ?_
    refine ow_skip rfl (gd_no rfl s10) ?_
    refine ow_skip rfl (gd_no rfl s10) ?_
    refine ow_skip rfl (gd_no rfl s10) ?_
    refine ow_val rfl rfl (ex_pickf rfl s10 rfl) ?_
    refine ow_val rfl rfl (ex_assign rfl) ?_
    refine ow_nil ?_
    refine qw_seq ?_
    refine cw_ret ?_
    refine qw_ret1 rfl rfl (fun w' h => ⟨congrArg (fun z => Ending.returned (.bool z)) ?_, h.ag.below⟩)
    unfold hpB
    first | (rw [show decide (q.length ≤ d.length) = true from by have := of_decide_eq_true s10; exact decide_eq_true (by omega)]; rfl) | (rw [show decide (q.length ≤ d.length) = false from by have := of_decide_eq_false s10; exact decide_eq_false (by omega)]; rfl)

set_option maxHeartbeats 400000 in
theorem pCutPre {d q : List UInt8} {v u : Value} {σ : Hp} {w : World} (hi : Imm σ w) (hd : BytesV σ v d) (hq : BytesV σ u q) : Calls Tryd.prog 62 #[v, u] w (GiveR (RepBB (if hpB q d = true then d.drop q.length else d) (hpB q d)) σ w) := by
  obtain ⟨p, c, rfl, hc1, _⟩ := hd.slice
  obtain ⟨p2, c2, rfl, hc2, _⟩ := hq.slice
  refine enter (St w (fun _ => False) σ [] []) Tryd.func62 rfl Tryd.ntmps62 rfl (St.start hi) ?_
  refine cw_seq ?_
  refine cw_region ?_
  refine ow_val rfl rfl (ex_assign rfl) ?_
  refine ow_val rfl rfl (ex_assign rfl) ?_
  refine ow_nil ?_
  refine qw_seq ?_
  refine cw_seq ?_
  refine cw_seq ?_
  refine cw_region ?_
  refine ow_val rfl rfl (ex_move rfl) ?_
  refine ow_val rfl rfl (ex_move rfl) ?_
  refine ow_cv rfl rfl (ex_callf rfl (fun w h => callB ((pHasPre h.im hd hq)))) ?_
  refine ow_val rfl rfl (ex_not rfl) ?_
  refine ow_nil ?_
  refine qw_seq ?_
  refine cw_cond rfl (fun c9 => ?_) (fun c9 => ?_)
  ·
    have hb : hpB q d = false := by simpa using c9
    refine cw_seq ?_
    refine cw_region ?_
    refine ow_val rfl rfl (ex_move rfl) ?_
    refine ow_val rfl rfl (ex_assign rfl) ?_
    refine ow_val rfl rfl (ex_assign rfl) ?_
    refine ow_nil ?_
    refine qw_seq ?_
    refine cw_ret ?_
    refine qw_then_ret ?_
    refine qw_ret2 rfl rfl rfl (fun w' h => h.gives (Le.refl _) (Fresh.refl _ _) ?_)
    rw [hb]
    exact ⟨_, rfl, hd⟩
  ·
    have hb : hpB q d = true := by simpa using c9
    have hql : q.length ≤ d.length := by unfold hpB at hb; simp only [Bool.and_eq_true, decide_eq_true_eq] at hb; exact hb.1
    refine cw_skip ?_
    refine qw_seq ?_
    refine cw_seq ?_
    refine cw_region ?_
    refine ow_val rfl rfl (ex_move rfl) ?_
    refine ow_val rfl rfl (ex_move rfl) ?_
    refine ow_val rfl rfl (ex_len (ty := 0) rfl) ?_
    refine ow_val rfl rfl (ex_slice_lo rfl rfl hql hc1) ?_
    refine ow_val rfl rfl (ex_assign rfl) ?_
    refine ow_val rfl rfl (ex_assign rfl) ?_
    refine ow_nil ?_
    refine qw_seq ?_
    refine cw_ret ?_
    refine qw_ret2 rfl rfl rfl (fun w' h => h.gives (Le.refl _) (Fresh.refl _ _) ?_)
    rw [hb]
    exact ⟨_, rfl, hd.lo hql⟩

set_option maxHeartbeats 400000 in
theorem pNumber {d : List UInt8} {v : Value} {σ : Hp} {w : World} (hi : Imm σ w) (hd : BytesV σ v d) : Calls Tryd.prog 36 #[v] w fun e w' => e = .returned (.tuple #[.int .i64 (numB d).1, .bool (numB d).2]) ∧ Below w.heap.size w w' := by
  refine enter (St w (fun _ => False) σ [] []) Tryd.func36 rfl Tryd.ntmps36 rfl (St.start hi) ?_
  refine cw_seq ?_
  refine cw_region ?_
  refine ow_val rfl rfl (ex_assign rfl) ?_
  refine ow_val rfl rfl (ex_assign rfl) ?_
  refine ow_nil ?_
  refine qw_seq ?_
  refine cw_seq ?_
  refine cw_region ?_
  refine ow_val rfl rfl (ex_move rfl) ?_
  refine ow_slit rfl rfl (exw_slitN (vs := ([193, 94] : List UInt8).map byteV) (by kernel_rfl) (bytes_cells _) rfl (by decide) (by decide)) ?_; intro b11
  refine ow_frzO (fun _ h => h) (fun σ4 hl4 hf4 hb4 => ?_)
  have hq4 : BytesV σ4 (.slice (some ⟨b11, 0, none⟩) 2 2) [193, 94] := BytesV.lit hb4 rfl (by decide)
  refine ow_cr rfl rfl (ex_callf rfl (fun w h => callR (pCutPre h.im (hd.le hl4) hq4))) (fun v12 σ5 hl5 hf5 hr5 => ?_)
  generalize hr12 : (if hpB [193, 94] d = true then d.drop ([193, 94] : List UInt8).length else d) = r12 at hr5
  obtain ⟨u12, rfl, hu12⟩ := hr5
  obtain ⟨p12, c12, rfl, hcc, _⟩ := hu12.slice
  refine ow_val rfl rfl (ex_move rfl) ?_
  refine ow_val rfl rfl (ex_extract rfl rfl) ?_
  refine ow_val rfl rfl (ex_extract rfl rfl) ?_
  refine ow_val rfl rfl (ex_assign rfl) ?_
  refine ow_val rfl rfl (ex_assign rfl) ?_
  refine ow_nil ?_
  refine qw_seq ?_
  refine cw_seq ?_
  refine cw_seq ?_
  refine cw_region ?_
  refine ow_val rfl rfl (ex_move rfl) ?_
  refine ow_val rfl rfl (ex_not rfl) ?_
  refine ow_val rfl rfl (ex_move rfl) ?_
  refine ow_split (g := some (2, false)) rfl (fun s17 => ?_) (fun s17 => ?_)
  ·
    have hno : numB d = (-1, false) := by
      have hh : hpB [193, 94] d = false := by simpa using s17
      unfold numB; rw [if_neg (by simp [hh])]
    refine ow_skip rfl (gd_no rfl s17) ?_
    refine ow_skip rfl (gd_no rfl s17) ?_
    refine ow_skip rfl (gd_no rfl s17) ?_
    refine ow_val rfl rfl (ex_pickt rfl s17 rfl) ?_
    refine ow_nil ?_
    refine qw_seq ?_
    refine cw_cond_t rfl ?_
    refine cw_seq ?_
    refine cw_region ?_
    refine ow_val rfl rfl (ex_assign rfl) ?_
    refine ow_val rfl rfl (ex_assign rfl) ?_
    refine ow_nil ?_
    refine qw_seq ?_
    refine cw_ret ?_
    refine qw_then_ret ?_
    refine qw_ret2 rfl rfl rfl (fun w' h => ⟨congrArg Ending.returned ?_, h.ag.below⟩)
    rw [hno]
  ·
    have hpt : hpB [193, 94] d = true := by simpa using s17
    have hrd : r12 = d.drop 2 := by rw [← hr12, if_pos hpt]; rfl
    subst hrd
    refine ow_val rfl (gd_go rfl s17) (ex_move rfl) ?_
    refine ow_val rfl (gd_go rfl s17) (ex_len (ty := 0) rfl) ?_
    refine ow_val rfl (gd_go rfl s17) (ex_neq rfl rfl) ?_
    refine ow_val rfl rfl (ex_pickf rfl s17 rfl) ?_
    refine ow_nil ?_
    refine qw_seq ?_
    refine cw_cond rfl (fun c21 => ?_) (fun c21 => ?_)
    ·
      have hno : numB d = (-1, false) := by
        have := of_decide_eq_true c21; unfold numB; exact if_neg (fun hc => this (by have := hc.2; omega))
      refine cw_seq ?_
      refine cw_region ?_
      refine ow_val rfl rfl (ex_assign rfl) ?_
      refine ow_val rfl rfl (ex_assign rfl) ?_
      refine ow_nil ?_
      refine qw_seq ?_
      refine cw_ret ?_
      refine qw_then_ret ?_
      refine qw_ret2 rfl rfl rfl (fun w' h => ⟨congrArg Ending.returned ?_, h.ag.below⟩)
      rw [hno]
    ·
      refine cw_skip ?_
      refine qw_seq ?_
      refine cw_seq ?_
      have h6 : (d.drop 2).length = 6 := by have := of_decide_eq_false c21; omega
      obtain ⟨bq, oq, rfl, hc12⟩ := hu12.ptr (by omega)
      refine cw_region ?_
      refine ow_val rfl rfl (ex_assign rfl) ?_
      refine ow_nil ?_
      refine qw_seq ?_
      refine cw_seq ?_
      refine cw_seq ?_
      refine cw_region ?_
      refine ow_val rfl rfl (ex_move rfl) ?_
      refine ow_val rfl rfl (ex_len (ty := 0) rfl) ?_
      refine ow_val rfl rfl (ex_move rfl) ?_
      refine ow_nil ?_
      refine qw_seq ?_
      refine cw_block ?_
      refine cw_loopS (α := Nat) (fun i => [(6, .int .i64 (beN ((d.drop 2).take i) : Int)), (22, .slice (some ⟨bq, oq, none⟩) (d.drop 2).length c12), (23, .int .i64 ((d.drop 2).length : Int)), (24, .int .i64 (i : Int))]) (fun i => i ≤ 6) (fun i => 6 - i) 0 (subL_cons (lkv rfl (by first | rfl | simp)) (subL_cons (lkv rfl (by first | rfl | simp)) (subL_cons (lkv rfl (by first | rfl | simp)) (subL_cons (lkv rfl (by first | rfl | simp)) (subL_nil _))))) (Nat.zero_le _) ?_
      intro i hlei
      refine cw_seq ?_
      refine cw_region ?_
      refine ow_val rfl rfl (ex_lss rfl rfl) ?_
      refine ow_nil ?_
      refine qw_seq ?_
      refine cw_seq ?_
      refine cw_cond rfl (fun c25 => ?_) (fun c25 => ?_)
      ·
        have hlti : i < (d.drop 2).length := by have := of_decide_eq_true c25; omega
        have hb6 := beN_small (l := (d.drop 2).take i) (by rw [List.length_take]; omega)
        have hby := byte_lt ((d.drop 2).getD i 0)
        have htk := beN_take hlti
        refine cw_skip ?_
        refine qw_seq ?_
        refine cw_seq ?_
        refine cw_block ?_
        refine cw_seq ?_
        refine cw_region ?_
        refine ow_val rfl rfl (ex_index_nat rfl rfl (by omega)) ?_
        refine ow_val rfl rfl (ex_load1 rfl (ld_imm1 (hc12.byte hlti))) ?_
        refine ow_val rfl rfl (ex_assign rfl) ?_
        refine ow_nil ?_
        refine qw_seq ?_
        refine cw_region ?_
        refine ow_val rfl rfl (ex_move rfl) ?_
        refine ow_val rfl rfl (ex_shlN (n := beN ((d.drop 2).take i)) (s := 8) rfl rfl (by decide) (by omega)) ?_
        refine ow_val rfl rfl (ex_move rfl) ?_
        refine ow_val rfl rfl (ex_b2i Tryd.underlying5 Tryd.underlying3 rfl (by omega) (by have := byte_lt ((d.drop 2).getD i 0); omega)) ?_
        refine ow_val rfl rfl (ex_addi (z := ((beN ((d.drop 2).take (i + 1)) : Nat) : Int)) rfl rfl (by omega) (by omega) (by omega)) ?_
        refine ow_val rfl rfl (ex_assign rfl) ?_
        refine ow_nil ?_
        refine qw_block_normal ?_
        refine qw_seq ?_
        refine cw_region ?_
        refine ow_val rfl rfl (ex_addi (z := ((i + 1 : Nat) : Int)) rfl rfl (by omega) (by omega) (by omega)) ?_
        refine ow_val rfl rfl (ex_move rfl) ?_
        refine ow_nil ?_
        exact qw_roundS (i + 1) (by omega) (subL_cons (lkv rfl (by first | rfl | simp)) (subL_cons (lkv rfl (by first | rfl | simp)) (subL_cons (lkv rfl (by first | rfl | simp)) (subL_cons (lkv rfl (by first | rfl | simp)) (subL_nil _))))) (by omega)
      ·
        have he : i = 6 := by have := of_decide_eq_false c25; omega
        subst he
        refine cw_exit ?_
        refine qw_then_exit ?_
        refine qw_then_exit ?_
        refine qw_block_exit ?_
        refine qw_seq ?_
        refine cw_seq ?_
        refine cw_region ?_
        refine ow_val rfl rfl (ex_move rfl) ?_
        refine ow_val rfl rfl (ex_assign rfl) ?_
        refine ow_val rfl rfl (ex_assign rfl) ?_
        refine ow_nil ?_
        refine qw_seq ?_
        refine cw_ret ?_
        refine qw_ret2 rfl rfl rfl (fun w' h => ⟨congrArg Ending.returned ?_, h.ag.below⟩)
        rw [List.take_of_length_le (by omega)]
        unfold numB
        rw [if_pos ⟨hpt, h6⟩]

set_option maxHeartbeats 400000 in
theorem rNumber {d : List UInt8} {v : Value} {σ : Hp} {w : World} (hi : Imm σ w) (hd : BytesV σ v d) : Calls Tryd.prog 37 #[v] w fun e w' => e = .returned (.tuple #[.int .i64 (numB d).1, .bool (numB d).2]) ∧ Below w.heap.size w w' := by
  obtain ⟨p, c, rfl, hc1, _⟩ := hd.slice
  refine enter (St w (fun _ => False) σ [] []) Tryd.func37 rfl Tryd.ntmps37 rfl (St.start hi) ?_
  refine cw_seq ?_
  refine cw_region ?_
  refine ow_val rfl rfl (ex_assign rfl) ?_
  refine ow_val rfl rfl (ex_assign rfl) ?_
  refine ow_nil ?_
  refine qw_seq ?_
  refine cw_seq ?_
  refine cw_seq ?_
  refine cw_region ?_
  refine ow_val rfl rfl (ex_move rfl) ?_
  refine ow_val rfl rfl (ex_len (ty := 0) rfl) ?_
  refine ow_val rfl rfl (ex_neq rfl rfl) ?_
  refine ow_val rfl rfl (ex_move rfl) ?_
  refine ow_split (g := some (3, false)) rfl (fun s9 => ?_) (fun s9 => ?_)
  ·
    have hno : ¬ (d.length = 8 ∧ d.getD 0 0 = 193 ∧ d.getD 1 0 = 94) := fun hc => by have := of_decide_eq_true s9; omega
    refine ow_skip rfl (gd_no rfl s9) ?_
    refine ow_skip rfl (gd_no rfl s9) ?_
    refine ow_skip rfl (gd_no rfl s9) ?_
    refine ow_skip rfl (gd_no rfl s9) ?_
    refine ow_val rfl rfl (ex_pickt rfl s9 rfl) ?_
    refine ow_val rfl rfl (ex_move rfl) ?_
    refine ow_skip rfl rfl ?_
    refine ow_skip rfl rfl ?_
    refine ow_skip rfl rfl ?_
    refine ow_skip rfl rfl ?_
    refine ow_val rfl rfl (ex_pick_t rfl rfl) ?_
    refine ow_nil ?_
    refine qw_seq ?_
    refine cw_cond_t rfl ?_
    refine cw_seq ?_
    refine cw_region ?_
    refine ow_val rfl rfl (ex_assign rfl) ?_
    refine ow_val rfl rfl (ex_assign rfl) ?_
    refine ow_nil ?_
    refine qw_seq ?_
    refine cw_ret ?_
    refine qw_then_ret ?_
    refine qw_ret2 rfl rfl rfl (fun w' h => ⟨congrArg Ending.returned ?_, h.ag.below⟩)
    rw [numB_out hno]
  ·
    have h8 : d.length = 8 := by have := of_decide_eq_false s9; omega
    obtain ⟨b, o, rfl, hc⟩ := hd.ptr (by omega)
    refine ow_val rfl (gd_go rfl s9) (ex_move rfl) ?_
    refine ow_val rfl (gd_go rfl s9) (ex_index_nat (i := 0) rfl rfl (by omega)) ?_
    refine ow_val rfl (gd_go rfl s9) (ex_load1 rfl (ld_imm1 (hc.byte (i := 0) (by omega)))) ?_
    refine ow_val rfl (gd_go rfl s9) (ex_neq rfl rfl) ?_
    refine ow_val rfl rfl (ex_pickf rfl s9 rfl) ?_
    refine ow_val rfl rfl (ex_move rfl) ?_
    refine ow_split (g := some (9, false)) rfl (fun s15 => ?_) (fun s15 => ?_)
    ·
      have hno : ¬ (d.length = 8 ∧ d.getD 0 0 = 193 ∧ d.getD 1 0 = 94) := fun hc => (of_decide_eq_true s15) (getD_eq.2 hc.2.1)
      refine ow_skip rfl (gd_no rfl s15) ?_
      refine ow_skip rfl (gd_no rfl s15) ?_
      refine ow_skip rfl (gd_no rfl s15) ?_
      refine ow_skip rfl (gd_no rfl s15) ?_
      refine ow_val rfl rfl (ex_pickt rfl s15 rfl) ?_
      refine ow_nil ?_
      refine qw_seq ?_
      refine cw_cond_t rfl ?_
      refine cw_seq ?_
      refine cw_region ?_
      refine ow_val rfl rfl (ex_assign rfl) ?_
      refine ow_val rfl rfl (ex_assign rfl) ?_
      refine ow_nil ?_
      refine qw_seq ?_
      refine cw_ret ?_
      refine qw_then_ret ?_
      refine qw_ret2 rfl rfl rfl (fun w' h => ⟨congrArg Ending.returned ?_, h.ag.below⟩)
      rw [numB_out hno]
    ·
      have hd0 : d.getD 0 0 = 193 := getD_eq.1 (Decidable.not_not.1 (of_decide_eq_false s15))
      refine ow_val rfl (gd_go rfl s15) (ex_move rfl) ?_
      refine ow_val rfl (gd_go rfl s15) (ex_index_nat (i := 1) rfl rfl (by omega)) ?_
      refine ow_val rfl (gd_go rfl s15) (ex_load1 rfl (ld_imm1 (hc.byte (i := 1) (by omega)))) ?_
      refine ow_val rfl (gd_go rfl s15) (ex_neq rfl rfl) ?_
      refine ow_val rfl rfl (ex_pickf rfl s15 rfl) ?_
      refine ow_nil ?_
      refine qw_seq ?_
      refine cw_cond rfl (fun c20 => ?_) (fun c20 => ?_)
      ·
        have hno : ¬ (d.length = 8 ∧ d.getD 0 0 = 193 ∧ d.getD 1 0 = 94) := fun hc => (of_decide_eq_true c20) (getD_eq.2 hc.2.2)
        refine cw_seq ?_
        refine cw_region ?_
        refine ow_val rfl rfl (ex_assign rfl) ?_
        refine ow_val rfl rfl (ex_assign rfl) ?_
        refine ow_nil ?_
        refine qw_seq ?_
        refine cw_ret ?_
        refine qw_then_ret ?_
        refine qw_ret2 rfl rfl rfl (fun w' h => ⟨congrArg Ending.returned ?_, h.ag.below⟩)
        rw [numB_out hno]
      ·
        have hd1 : d.getD 1 0 = 94 := getD_eq.1 (Decidable.not_not.1 (of_decide_eq_false c20))
        refine cw_skip ?_
        refine qw_seq ?_
        refine cw_seq ?_
        refine cw_region ?_
        refine ow_val rfl rfl (ex_assign rfl) ?_
        refine ow_nil ?_
        refine qw_seq ?_
        refine cw_seq ?_
        refine cw_seq ?_
        refine cw_region ?_
        refine ow_val rfl rfl (ex_assign rfl) ?_
        refine ow_nil ?_
        refine qw_seq ?_
        refine cw_block ?_
        refine cw_loopS (α := Nat) (fun k => [(0, .slice (some ⟨b, o, none⟩) d.length c), (4, .int .i64 (beN ((d.drop 2).take k) : Int)), (5, .int .i64 ((2 + k : Nat) : Int))]) (fun k => k ≤ 6) (fun k => 6 - k) 0 (subL_cons (lkv rfl (by first | rfl | simp)) (subL_cons (lkv rfl (by first | rfl | simp)) (subL_cons (lkv rfl (by first | rfl | simp)) (subL_nil _)))) (Nat.zero_le _) ?_
        intro k hlei
        refine cw_seq ?_
        refine cw_seq ?_
        refine cw_region ?_
        refine ow_val rfl rfl (ex_move rfl) ?_
        refine ow_val rfl rfl (ex_lss rfl rfl) ?_
        refine ow_nil ?_
        refine qw_seq ?_
        refine cw_cond rfl (fun c22 => ?_) (fun c22 => ?_)
        ·
          have hk6 : k < 6 := by have := of_decide_eq_true c22; omega
          have hlti : k < (d.drop 2).length := by have := of_decide_eq_true c22; rw [List.length_drop]; omega
          have hb6 := beN_small (l := (d.drop 2).take k) (by rw [List.length_take]; omega)
          have hby := byte_lt (d.getD (2 + k) 0)
          have htk := beN_take hlti
          rw [drop_getD] at htk
          refine cw_skip ?_
          refine qw_seq ?_
          refine cw_seq ?_
          refine cw_block ?_
          refine cw_region ?_
          refine ow_val rfl rfl (ex_move rfl) ?_
          refine ow_val rfl rfl (ex_shlN (n := beN ((d.drop 2).take k)) (s := 8) rfl rfl (by decide) (by omega)) ?_
          refine ow_val rfl rfl (ex_move rfl) ?_
          refine ow_val rfl rfl (ex_move rfl) ?_
          refine ow_val rfl rfl (ex_index_nat (i := 2 + k) rfl rfl (by omega)) ?_
          refine ow_val rfl rfl (ex_load1 rfl (ld_imm1 (hc.byte (i := 2 + k) (by omega)))) ?_
          refine ow_val rfl rfl (ex_b2i Tryd.underlying5 Tryd.underlying3 rfl (by omega) (by omega)) ?_
          refine ow_val rfl rfl (ex_orR (r := beN ((d.drop 2).take (k + 1))) rfl rfl hby (by omega) htk.symm) ?_
          refine ow_val rfl rfl (ex_assign rfl) ?_
          refine ow_nil ?_
          refine qw_block_normal ?_
          refine qw_seq ?_
          refine cw_region ?_
          refine ow_val rfl rfl (ex_move rfl) ?_
          refine ow_val rfl rfl (ex_addi (z := ((2 + (k + 1) : Nat) : Int)) rfl rfl (by omega) (by omega) (by omega)) ?_
          refine ow_val rfl rfl (ex_assign rfl) ?_
          refine ow_nil ?_
          exact qw_roundS (k + 1) (by omega) (subL_cons (lkv rfl (by first | rfl | simp)) (subL_cons (lkv rfl (by first | rfl | simp)) (subL_cons (lkv rfl (by first | rfl | simp)) (subL_nil _)))) (by omega)
        ·
          have he : k = 6 := by have := of_decide_eq_false c22; omega
          subst he
          refine cw_exit ?_
          refine qw_then_exit ?_
          refine qw_then_exit ?_
          refine qw_block_exit ?_
          refine qw_seq ?_
          refine cw_seq ?_
          refine cw_region ?_
          refine ow_val rfl rfl (ex_move rfl) ?_
          refine ow_val rfl rfl (ex_assign rfl) ?_
          refine ow_val rfl rfl (ex_assign rfl) ?_
          refine ow_nil ?_
          refine qw_seq ?_
          refine cw_ret ?_
          refine qw_ret2 rfl rfl rfl (fun w' h => ⟨congrArg Ending.returned ?_, h.ag.below⟩)
          rw [numB_in h8 hd0 hd1, List.take_of_length_le (by rw [List.length_drop]; omega)]
end Go.Proofs.YtnjomdjkbbhdoaaDoor
