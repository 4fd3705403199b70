/-
  Walks: mentions in bytes.
  No condition.
-/
import Derived.Test.YtnjomdjkbbhdoaaDoorWe2
import Derived.Test.YtnjomdjkbbhdoaaDoorMent
namespace Go.Proofs.YtnjomdjkbbhdoaaDoor
open Go.RowKit
set_option linter.unusedVariables false
set_option linter.unusedSimpArgs false
set_option maxRecDepth 100000

set_option maxHeartbeats 400000 in
theorem rMentions {d : List UInt8} {below : Int} {v : Value} {σ : Hp} {w : World} (hi : Imm σ w) (hd : BytesV σ v d) (hmx : d.length ≤ 17592186044415) : Calls Tryd.prog 44 #[v, .int .i64 below] w (GiveR (RepI (mentS d below)) σ w) := by
  obtain ⟨p, c, rfl, hc0, _⟩ := hd.slice
  refine enter (St w (fun _ => False) σ [] []) Tryd.func44 rfl Tryd.ntmps44 rfl (St.start hi) ?_
  refine cw_seq ?_
  refine cw_region ?_
  refine ow_val rfl rfl (ex_assign rfl) ?_
  refine ow_nil ?_
  refine qw_seq ?_
  refine cw_seq ?_
  refine cw_region ?_
  refine ow_val rfl rfl (ex_assign rfl) ?_
  refine ow_nil ?_
  refine qw_seq ?_
  refine cw_seq ?_
  refine cw_seq ?_
  refine cw_region ?_
  refine ow_val rfl rfl (ex_assign rfl) ?_
  refine ow_nil ?_
  refine qw_seq ?_
  refine cw_block ?_
  refine cw_loop5 (fun (i : Nat) (zs : List Int) (q : Option Addr) (cz : Nat) (τ : Hp) => [(0, .slice p d.length c), (1, .int .i64 below), (5, .slice q zs.length cz), (6, .int .i64 (i : Int))]) (fun i zs q cz τ => i ≤ d.length ∧ Le σ τ ∧ Fresh σ τ w ∧ zs.length ≤ cz ∧ (zs = [] ∨ ∃ b o, q = some ⟨b, o, none⟩ ∧ CellsAt τ b o (intsV zs)) ∧ zs.Pairwise (· < ·) ∧ ∀ x, (x ∈ zs ∨ x ∈ mentL (d.drop i) below) ↔ x ∈ mentL d below) (fun _ _ _ _ τ => τ) (fun _ _ _ _ _ => []) (fun i _ _ _ _ => d.length - i) 0 [] none 0 σ (subL_cons (lkv rfl (by first | rfl | simp)) (subL_cons (lkv rfl (by first | rfl | simp)) (subL_cons (lkv rfl (by first | rfl | simp)) (subL_cons (lkv rfl (by first | rfl | simp)) (subL_nil _))))) ⟨Nat.zero_le _, Le.refl _, Fresh.refl _ _, Nat.le_refl _, .inl rfl, List.Pairwise.nil, by simp⟩ (fun w h => h) ?_
  intro i zs q cz τ ⟨hlei, hlj, hfj, hcz, hsz, hpw, hmem⟩
  refine cw_seq ?_
  refine cw_seq ?_
  refine cw_region ?_
  refine ow_val rfl rfl (ex_move rfl) ?_
  refine ow_val rfl rfl (ex_addi (z := ((i + 10 : Nat) : Int)) rfl rfl (by omega) (by omega) (by omega)) ?_
  refine ow_val rfl rfl (ex_move rfl) ?_
  refine ow_val rfl rfl (ex_len (ty := 0) rfl) ?_
  refine ow_val rfl rfl (ex_leq rfl rfl) ?_
  refine ow_nil ?_
  refine qw_seq ?_
  refine cw_cond rfl (fun c15 => ?_) (fun c15 => ?_)
  ·
    have h10 : i + 10 ≤ d.length := by have := of_decide_eq_true c15; omega
    obtain ⟨bq, oq, rfl, hcq⟩ := hd.ptr (by omega)
    have hmid : BytesV τ (.slice (some (if c = i + 2 then ⟨bq, oq, none⟩ else ⟨bq, oq + (i + 2) * 1, none⟩)) (i + 10 - (i + 2)) (c - (i + 2))) (((d.drop i).drop 2).take 8) := by
      have h9 := (hd.le hlj).mid (i := i + 2) (j := i + 10) (by omega) (by omega)
      have e9 : i + 10 - (i + 2) = 8 := by omega
      rw [e9] at h9
      rw [List.drop_drop, e9]; exact h9
    have hzl : zs.length ≤ d.length := Nat.le_trans (strict_len hpw fun x hx => (hmem x).1 (.inl hx)) (mentL_len d below)
    refine cw_skip ?_
    refine qw_seq ?_
    refine cw_seq ?_
    refine cw_block ?_
    refine cw_seq ?_
    refine cw_region ?_
    refine ow_val rfl rfl (ex_move rfl) ?_
    refine ow_val rfl rfl (ex_move rfl) ?_
    refine ow_val rfl rfl (ex_addi (z := ((i + 2 : Nat) : Int)) rfl rfl (by omega) (by omega) (by omega)) ?_
    refine ow_val rfl rfl (ex_move rfl) ?_
    refine ow_val rfl rfl (ex_addi (z := ((i + 10 : Nat) : Int)) rfl rfl (by omega) (by omega) (by omega)) ?_
    refine ow_val rfl rfl (ex_slice (i := i + 2) (j := i + 10) rfl rfl rfl (by omega) (by omega)) ?_
    refine ow_cv rfl rfl (ex_callf rfl (fun w h => callB ((rNumber h.im hmid)))) ?_
    refine ow_val rfl rfl (ex_move rfl) ?_
    refine ow_val rfl rfl (ex_extract rfl rfl) ?_
    refine ow_val rfl rfl (ex_extract rfl rfl) ?_
    refine ow_val rfl rfl (ex_assign rfl) ?_
    refine ow_val rfl rfl (ex_assign rfl) ?_
    refine ow_nil ?_
    refine qw_seq ?_
    refine cw_seq ?_
    refine cw_seq ?_
    refine cw_region ?_
    refine ow_val rfl rfl (ex_move rfl) ?_
    refine ow_val rfl rfl (ex_not rfl) ?_
    refine ow_val rfl rfl (ex_move rfl) ?_
    refine ow_split (g := some (2, false)) rfl (fun s30 => ?_) (fun s30 => ?_)
    ·
      have hm : hitB (d.drop i) below = false := by unfold hitB; rw [show (numB (((d.drop i).drop 2).take 8)).2 = false from by simpa using s30]; rfl
      refine ow_skip rfl (gd_no rfl s30) ?_
      refine ow_skip rfl (gd_no rfl s30) ?_
      refine ow_skip rfl (gd_no rfl s30) ?_
      refine ow_val rfl rfl (ex_pickt rfl s30 rfl) ?_
      refine ow_val rfl rfl (ex_move rfl) ?_
      refine ow_skip rfl rfl ?_
      refine ow_skip rfl rfl ?_
      refine ow_skip rfl rfl ?_
      refine ow_skip rfl rfl ?_
      refine ow_skip rfl rfl ?_
      refine ow_val rfl rfl (ex_pick_t rfl rfl) ?_
      refine ow_val rfl rfl (ex_move rfl) ?_
      refine ow_skip rfl rfl ?_
      refine ow_skip rfl rfl ?_
      refine ow_skip rfl rfl ?_
      refine ow_skip rfl rfl ?_
      refine ow_skip rfl rfl ?_
      refine ow_skip rfl rfl ?_
      refine ow_val rfl rfl (ex_pick_t rfl rfl) ?_
      refine ow_nil ?_
      refine qw_seq ?_
      refine cw_cond_t rfl ?_
      refine cw_exit ?_
      refine qw_then_exit ?_
      refine qw_block_exit ?_
      refine qw_seq ?_
      refine cw_region ?_
      refine ow_val rfl rfl (ex_move rfl) ?_
      refine ow_val rfl rfl (ex_addi (z := ((i + 1 : Nat) : Int)) rfl rfl (by omega) (by omega) (by omega)) ?_
      refine ow_val rfl rfl (ex_assign rfl) ?_
      refine ow_nil ?_
      exact qw_round5 (i + 1) zs q cz τ (by omega) (subL_cons (lkv rfl (by first | rfl | simp)) (subL_cons (lkv rfl (by first | rfl | simp)) (subL_cons (lkv rfl (by first | rfl | simp)) (subL_cons (lkv rfl (by first | rfl | simp)) (subL_nil _))))) ⟨by omega, hlj, hfj, hcz, hsz, hpw, by
        intro x
        rw [← hmem x, mentL_miss hm, show (d.drop i).drop 1 = d.drop (i + 1) from by rw [List.drop_drop]]⟩ (fun w h => h)
    ·
      have q1 : (numB (((d.drop i).drop 2).take 8)).2 = true := by simpa using s30
      refine ow_val rfl (gd_go rfl s30) (ex_move rfl) ?_
      refine ow_val rfl (gd_go rfl s30) (ex_move rfl) ?_
      refine ow_val rfl (gd_go rfl s30) (ex_geq rfl rfl) ?_
      refine ow_val rfl rfl (ex_pickf rfl s30 rfl) ?_
      refine ow_val rfl rfl (ex_move rfl) ?_
      refine ow_split (g := some (7, false)) rfl (fun s35 => ?_) (fun s35 => ?_)
      ·
        have hm : hitB (d.drop i) below = false := by unfold hitB; rw [show decide ((numB (((d.drop i).drop 2).take 8)).1 < below) = false from by have := of_decide_eq_true s35; exact decide_eq_false (by omega)]; simp
        refine ow_skip rfl (gd_no rfl s35) ?_
        refine ow_skip rfl (gd_no rfl s35) ?_
        refine ow_skip rfl (gd_no rfl s35) ?_
        refine ow_skip rfl (gd_no rfl s35) ?_
        refine ow_skip rfl (gd_no rfl s35) ?_
        refine ow_val rfl rfl (ex_pickt rfl s35 rfl) ?_
        refine ow_val rfl rfl (ex_move rfl) ?_
        refine ow_skip rfl rfl ?_
        refine ow_skip rfl rfl ?_
        refine ow_skip rfl rfl ?_
        refine ow_skip rfl rfl ?_
        refine ow_skip rfl rfl ?_
        refine ow_skip rfl rfl ?_
        refine ow_val rfl rfl (ex_pick_t rfl rfl) ?_
        refine ow_nil ?_
        refine qw_seq ?_
        refine cw_cond_t rfl ?_
        refine cw_exit ?_
        refine qw_then_exit ?_
        refine qw_block_exit ?_
        refine qw_seq ?_
        refine cw_region ?_
        refine ow_val rfl rfl (ex_move rfl) ?_
        refine ow_val rfl rfl (ex_addi (z := ((i + 1 : Nat) : Int)) rfl rfl (by omega) (by omega) (by omega)) ?_
        refine ow_val rfl rfl (ex_assign rfl) ?_
        refine ow_nil ?_
        exact qw_round5 (i + 1) zs q cz τ (by omega) (subL_cons (lkv rfl (by first | rfl | simp)) (subL_cons (lkv rfl (by first | rfl | simp)) (subL_cons (lkv rfl (by first | rfl | simp)) (subL_cons (lkv rfl (by first | rfl | simp)) (subL_nil _))))) ⟨by omega, hlj, hfj, hcz, hsz, hpw, by
          intro x
          rw [← hmem x, mentL_miss hm, show (d.drop i).drop 1 = d.drop (i + 1) from by rw [List.drop_drop]]⟩ (fun w h => h)
      ·
        have q2 : decide ((numB (((d.drop i).drop 2).take 8)).1 < below) = true := by have := of_decide_eq_false s35; exact decide_eq_true (by omega)
        refine ow_val rfl (gd_go rfl s35) (ex_move rfl) ?_
        refine ow_val rfl (gd_go rfl s35) (ex_move rfl) ?_
        refine ow_val rfl (gd_go rfl s35) (ex_index_nat (i := i) rfl rfl (by omega)) ?_
        refine ow_val rfl (gd_go rfl s35) (ex_load1 rfl (ld_imm1 ((hcq.le hlj).byte (i := i) (by omega)))) ?_
        refine ow_val rfl (gd_go rfl s35) (ex_neq rfl rfl) ?_
        refine ow_val rfl rfl (ex_pickf rfl s35 rfl) ?_
        refine ow_val rfl rfl (ex_move rfl) ?_
        refine ow_split (g := some (14, false)) rfl (fun s42 => ?_) (fun s42 => ?_)
        ·
          have hm : hitB (d.drop i) below = false := by unfold hitB; rw [hit_two h10, show decide (d.getD i 0 = 4) = false from decide_eq_false (fun hc => (of_decide_eq_true s42) (getD_eq.2 hc))]; simp
          refine ow_skip rfl (gd_no rfl s42) ?_
          refine ow_skip rfl (gd_no rfl s42) ?_
          refine ow_skip rfl (gd_no rfl s42) ?_
          refine ow_skip rfl (gd_no rfl s42) ?_
          refine ow_skip rfl (gd_no rfl s42) ?_
          refine ow_skip rfl (gd_no rfl s42) ?_
          refine ow_val rfl rfl (ex_pickt rfl s42 rfl) ?_
          refine ow_nil ?_
          refine qw_seq ?_
          refine cw_cond_t rfl ?_
          refine cw_exit ?_
          refine qw_then_exit ?_
          refine qw_block_exit ?_
          refine qw_seq ?_
          refine cw_region ?_
          refine ow_val rfl rfl (ex_move rfl) ?_
          refine ow_val rfl rfl (ex_addi (z := ((i + 1 : Nat) : Int)) rfl rfl (by omega) (by omega) (by omega)) ?_
          refine ow_val rfl rfl (ex_assign rfl) ?_
          refine ow_nil ?_
          exact qw_round5 (i + 1) zs q cz τ (by omega) (subL_cons (lkv rfl (by first | rfl | simp)) (subL_cons (lkv rfl (by first | rfl | simp)) (subL_cons (lkv rfl (by first | rfl | simp)) (subL_cons (lkv rfl (by first | rfl | simp)) (subL_nil _))))) ⟨by omega, hlj, hfj, hcz, hsz, hpw, by
            intro x
            rw [← hmem x, mentL_miss hm, show (d.drop i).drop 1 = d.drop (i + 1) from by rw [List.drop_drop]]⟩ (fun w h => h)
        ·
          have q3 : d.getD i 0 = 4 := getD_eq.1 (Decidable.not_not.1 (of_decide_eq_false s42))
          refine ow_val rfl (gd_go rfl s42) (ex_move rfl) ?_
          refine ow_val rfl (gd_go rfl s42) (ex_move rfl) ?_
          refine ow_val rfl (gd_go rfl s42) (ex_addi (z := ((i + 1 : Nat) : Int)) rfl rfl (by omega) (by omega) (by omega)) ?_
          refine ow_val rfl (gd_go rfl s42) (ex_index_nat (i := i + 1) rfl rfl (by omega)) ?_
          refine ow_val rfl (gd_go rfl s42) (ex_load1 rfl (ld_imm1 ((hcq.le hlj).byte (i := i + 1) (by omega)))) ?_
          refine ow_val rfl (gd_go rfl s42) (ex_neq rfl rfl) ?_
          refine ow_val rfl rfl (ex_pickf rfl s42 rfl) ?_
          refine ow_nil ?_
          refine qw_seq ?_
          refine cw_cond rfl (fun c49 => ?_) (fun c49 => ?_)
          ·
            have hm : hitB (d.drop i) below = false := by unfold hitB; rw [hit_two h10, show decide (d.getD (i + 1) 0 = 8) = false from decide_eq_false (fun hc => (of_decide_eq_true c49) (getD_eq.2 hc))]; simp
            refine cw_exit ?_
            refine qw_then_exit ?_
            refine qw_block_exit ?_
            refine qw_seq ?_
            refine cw_region ?_
            refine ow_val rfl rfl (ex_move rfl) ?_
            refine ow_val rfl rfl (ex_addi (z := ((i + 1 : Nat) : Int)) rfl rfl (by omega) (by omega) (by omega)) ?_
            refine ow_val rfl rfl (ex_assign rfl) ?_
            refine ow_nil ?_
            exact qw_round5 (i + 1) zs q cz τ (by omega) (subL_cons (lkv rfl (by first | rfl | simp)) (subL_cons (lkv rfl (by first | rfl | simp)) (subL_cons (lkv rfl (by first | rfl | simp)) (subL_cons (lkv rfl (by first | rfl | simp)) (subL_nil _))))) ⟨by omega, hlj, hfj, hcz, hsz, hpw, by
              intro x
              rw [← hmem x, mentL_miss hm, show (d.drop i).drop 1 = d.drop (i + 1) from by rw [List.drop_drop]]⟩ (fun w h => h)
          ·
            have q4 : d.getD (i + 1) 0 = 8 := getD_eq.1 (Decidable.not_not.1 (of_decide_eq_false c49))
            have hh : hitB (d.drop i) below = true := by unfold hitB; rw [hit_two h10, q1, q2, q3, q4]; decide
            have hmh := mentL_hit (d := d.drop i) (by rw [List.length_drop]; omega) hh
            refine cw_skip ?_
            refine qw_seq ?_
            refine cw_seq ?_
            refine cw_region ?_
            refine ow_val rfl rfl (ex_move rfl) ?_
            refine ow_val rfl rfl (ex_len (ty := 0) rfl) ?_
            refine ow_val rfl rfl (ex_assign rfl) ?_
            refine ow_nil ?_
            refine qw_seq ?_
            refine cw_seq ?_
            refine cw_block ?_
            refine cw_loopS (α := Nat) (fun k => [(0, .slice (some ⟨bq, oq, none⟩) d.length c), (1, .int .i64 below), (5, .slice q zs.length cz), (6, .int .i64 (i : Int)), (7, .int .i64 (numB (((d.drop i).drop 2).take 8)).1), (9, .int .i64 (k : Int))]) (fun k => k ≤ zs.length ∧ ∀ j, k ≤ j → j < zs.length → (numB (((d.drop i).drop 2).take 8)).1 ≤ zs.getD j 0) (fun k => k) zs.length (subL_cons (lkv rfl (by first | rfl | simp)) (subL_cons (lkv rfl (by first | rfl | simp)) (subL_cons (lkv rfl (by first | rfl | simp)) (subL_cons (lkv rfl (by first | rfl | simp)) (subL_cons (lkv rfl (by first | rfl | simp)) (subL_cons (lkv rfl (by first | rfl | simp)) (subL_nil _))))))) ⟨Nat.le_refl _, fun j h1 h2 => by omega⟩ ?_
            intro k ⟨hlek, hge⟩
            refine cw_seq ?_
            refine cw_cut1 62 (.bool (decide (0 < (k : Int)) && decide ((numB (((d.drop i).drop 2).take 8)).1 ≤ zs.getD (k - 1) 0))) ?_ ?_
            ·
              refine cw_region ?_
              refine ow_val rfl rfl (ex_move rfl) ?_
              refine ow_val rfl rfl (ex_gtr rfl rfl) ?_
              refine ow_val rfl rfl (ex_move rfl) ?_
              refine ow_split (g := some (2, true)) rfl (fun s54 => ?_) (fun s54 => ?_)
              ·
                have hk0 : 0 < k := by have := of_decide_eq_true s54; omega
                obtain ⟨ba, oa, rfl, hca⟩ := hsz.resolve_left (fun hz => by subst hz; simp at hlek; omega)
                refine ow_val rfl (gd_go rfl s54) (ex_move rfl) ?_
                refine ow_val rfl (gd_go rfl s54) (ex_move rfl) ?_
                refine ow_val rfl (gd_go rfl s54) (ex_subi (z := ((k - 1 : Nat) : Int)) rfl rfl (by omega) (by omega) (by omega)) ?_
                refine ow_val rfl (gd_go rfl s54) (ex_index_nat (i := k - 1) rfl rfl (by omega)) ?_
                refine ow_val rfl (gd_go rfl s54) (ex_load1 rfl (ld_imm1 (hca.intD (i := k - 1) (by omega)))) ?_
                refine ow_val rfl (gd_go rfl s54) (ex_move rfl) ?_
                refine ow_val rfl (gd_go rfl s54) (ex_geq rfl rfl) ?_
                refine ow_val rfl rfl (ex_pickt rfl s54 rfl) ?_
                refine ow_nil ?_
                exact qw_meet (subL_meet 11 62 (lkv rfl (by first | rfl | (have q9 : decide (0 < (k : Int)) = false := s54; rw [q9]; rfl) | (have q9 : decide (0 < (k : Int)) = true := s54; rw [q9]; rfl))) rfl rfl) (fun w h => h)
              ·
                refine ow_skip rfl (gd_no rfl s54) ?_
                refine ow_skip rfl (gd_no rfl s54) ?_
                refine ow_skip rfl (gd_no rfl s54) ?_
                refine ow_skip rfl (gd_no rfl s54) ?_
                refine ow_skip rfl (gd_no rfl s54) ?_
                refine ow_skip rfl (gd_no rfl s54) ?_
                refine ow_skip rfl (gd_no rfl s54) ?_
                refine ow_val rfl rfl (ex_pickf rfl s54 rfl) ?_
                refine ow_nil ?_
                exact qw_meet (subL_meet 11 62 (lkv rfl (by first | rfl | (have q9 : decide (0 < (k : Int)) = false := s54; rw [q9]; rfl) | (have q9 : decide (0 < (k : Int)) = true := s54; rw [q9]; rfl))) rfl rfl) (fun w h => h)
            ·
              refine cw_cond rfl (fun c62 => ?_) (fun c62 => ?_)
              ·
                simp only [Bool.and_eq_true, decide_eq_true_eq] at c62
                obtain ⟨hk0, hk1⟩ := c62
                refine cw_skip ?_
                refine qw_seq ?_
                refine cw_block ?_
                refine cw_region ?_
                refine ow_val rfl rfl (ex_move rfl) ?_
                refine ow_val rfl rfl (ex_subi (z := ((k - 1 : Nat) : Int)) rfl rfl (by omega) (by omega) (by omega)) ?_
                refine ow_val rfl rfl (ex_assign rfl) ?_
                refine ow_nil ?_
                refine qw_block_normal ?_
                exact qw_roundS (k - 1) (by omega) (subL_cons (lkv rfl (by first | rfl | simp)) (subL_cons (lkv rfl (by first | rfl | simp)) (subL_cons (lkv rfl (by first | rfl | simp)) (subL_cons (lkv rfl (by first | rfl | simp)) (subL_cons (lkv rfl (by first | rfl | simp)) (subL_cons (lkv rfl (by first | rfl | simp)) (subL_nil _))))))) ⟨by omega, fun j h1 h2 => by
                  by_cases e9 : j = k - 1
                  · subst e9; exact hk1
                  · exact hge j (by omega) h2⟩
              ·
                have hlt : k = 0 ∨ zs.getD (k - 1) 0 < (numB (((d.drop i).drop 2).take 8)).1 := by
                  simp only [Bool.and_eq_false_iff, decide_eq_false_iff_not] at c62; omega
                refine cw_exit ?_
                refine qw_then_exit ?_
                refine qw_then_exit ?_
                refine qw_block_exit ?_
                refine qw_seq ?_
                refine cw_seq ?_
                refine cw_cut1 76 (.bool (decide ((k : Int) < (zs.length : Int)) && decide (zs.getD k 0 = (numB (((d.drop i).drop 2).take 8)).1))) ?_ ?_
                ·
                  refine cw_region ?_
                  refine ow_val rfl rfl (ex_move rfl) ?_
                  refine ow_val rfl rfl (ex_move rfl) ?_
                  refine ow_val rfl rfl (ex_len (ty := 0) rfl) ?_
                  refine ow_val rfl rfl (ex_lss rfl rfl) ?_
                  refine ow_val rfl rfl (ex_move rfl) ?_
                  refine ow_split (g := some (4, true)) rfl (fun s69 => ?_) (fun s69 => ?_)
                  ·
                    have hk0 : k < zs.length := by have := of_decide_eq_true s69; omega
                    obtain ⟨ba, oa, rfl, hca⟩ := hsz.resolve_left (fun hz => by subst hz; simp at hk0)
                    refine ow_val rfl (gd_go rfl s69) (ex_move rfl) ?_
                    refine ow_val rfl (gd_go rfl s69) (ex_move rfl) ?_
                    refine ow_val rfl (gd_go rfl s69) (ex_index_nat (i := k) rfl rfl (by omega)) ?_
                    refine ow_val rfl (gd_go rfl s69) (ex_load1 rfl (ld_imm1 (hca.intD (i := k) (by omega)))) ?_
                    refine ow_val rfl (gd_go rfl s69) (ex_move rfl) ?_
                    refine ow_val rfl (gd_go rfl s69) (ex_eql rfl rfl) ?_
                    refine ow_val rfl rfl (ex_pickt rfl s69 rfl) ?_
                    refine ow_nil ?_
                    exact qw_meet (subL_meet 12 76 (lkv rfl (by first | rfl | (have q9 : decide ((k : Int) < (zs.length : Int)) = false := s69; rw [q9]; rfl) | (have q9 : decide ((k : Int) < (zs.length : Int)) = true := s69; rw [q9]; rfl))) rfl rfl) (fun w h => h)
                  ·
                    refine ow_skip rfl (gd_no rfl s69) ?_
                    refine ow_skip rfl (gd_no rfl s69) ?_
                    refine ow_skip rfl (gd_no rfl s69) ?_
                    refine ow_skip rfl (gd_no rfl s69) ?_
                    refine ow_skip rfl (gd_no rfl s69) ?_
                    refine ow_skip rfl (gd_no rfl s69) ?_
                    refine ow_val rfl rfl (ex_pickf rfl s69 rfl) ?_
                    refine ow_nil ?_
                    exact qw_meet (subL_meet 12 76 (lkv rfl (by first | rfl | (have q9 : decide ((k : Int) < (zs.length : Int)) = false := s69; rw [q9]; rfl) | (have q9 : decide ((k : Int) < (zs.length : Int)) = true := s69; rw [q9]; rfl))) rfl rfl) (fun w h => h)
                ·
                  refine cw_cond rfl (fun c76 => ?_) (fun c76 => ?_)
                  ·
                    simp only [Bool.and_eq_true, decide_eq_true_eq] at c76
                    have hin : (numB (((d.drop i).drop 2).take 8)).1 ∈ zs := by
                      rw [← c76.2, List.getD_eq_getElem?_getD, List.getElem?_eq_getElem (by omega)]; exact List.getElem_mem _
                    refine cw_exit ?_
                    refine qw_then_exit ?_
                    refine qw_block_exit ?_
                    refine qw_seq ?_
                    refine cw_region ?_
                    refine ow_val rfl rfl (ex_move rfl) ?_
                    refine ow_val rfl rfl (ex_addi (z := ((i + 1 : Nat) : Int)) rfl rfl (by omega) (by omega) (by omega)) ?_
                    refine ow_val rfl rfl (ex_assign rfl) ?_
                    refine ow_nil ?_
                    exact qw_round5 (i + 1) zs q cz τ (by omega) (subL_cons (lkv rfl (by first | rfl | simp)) (subL_cons (lkv rfl (by first | rfl | simp)) (subL_cons (lkv rfl (by first | rfl | simp)) (subL_cons (lkv rfl (by first | rfl | simp)) (subL_nil _))))) ⟨by omega, hlj, hfj, hcz, hsz, hpw, by
                      intro x
                      rw [← hmem x, hmh, show (d.drop i).drop 1 = d.drop (i + 1) from by rw [List.drop_drop], List.mem_cons]
                      constructor
                      · rintro (h | h)
                        · exact .inl h
                        · exact .inr (.inr h)
                      · rintro (h | h | h)
                        · exact .inl h
                        · exact .inl (h ▸ hin)
                        · exact .inr h⟩ (fun w h => h)
                  ·
                    have hins := ins_facts hpw hlek hge hlt (fun hc => by rw [decide_eq_true (show (k : Int) < (zs.length : Int) by omega), decide_eq_true hc.2] at c76; cases c76)
                    refine cw_skip ?_
                    refine qw_seq ?_
                    refine cw_seq ?_
                    refine cw_region ?_
                    refine ow_slit rfl rfl exw_slit0 ?_; intro b77
                    refine ow_mono (fun w h => h.toG) ?_
                    refine ow_val rfl rfl (ex_move rfl) ?_
                    refine ow_val rfl rfl (ex_move rfl) ?_
                    refine ow_val rfl rfl (ex_slice_hi (j := k) rfl rfl (by omega)) ?_
                    refine ow_app1 rfl rfl (exw_append1 (news := (intsV zs).take (k * 1)) rfl rfl (OwnSl.lit0 3 1 b77) (by rw [List.length_take, intsV_len]; omega) ?_ (fun u hu => intsV_one u (List.mem_of_mem_take hu)) (by unfold maxLen; omega) (by omega)) (fun v81 G81 hO81 hz81 => ?_)
                    · rcases hsz with h0 | ⟨b, f, hp, hca⟩
                      · left; subst h0; simp at hlek; exact hlek
                      · right; exact ⟨b, f, hp, fun w h => (hca.take _).range h.im⟩
                    refine ow_val rfl rfl (ex_assign rfl) ?_
                    refine ow_nil ?_
                    refine qw_seq ?_
                    refine cw_seq ?_
                    refine cw_region ?_
                    refine ow_val rfl rfl (ex_move rfl) ?_
                    refine ow_val rfl rfl (ex_move rfl) ?_
                    refine ow_slit rfl rfl (exw_slit1 rfl rfl) ?_; intro b84
                    refine ow_app1 rfl rfl (exw_append1 (news := [.int .i64 (numB (((d.drop i).drop 2).take 8)).1]) rfl rfl hO81 rfl (.inr ⟨_, _, rfl, (ld_ownN (k := 1) 0 rfl rfl).2⟩) (fun u hu => by simp at hu; subst hu; rfl) (by unfold maxLen; omega) (by omega)) (fun v85 G85 hO85 hz85 => ?_)
                    refine ow_val rfl rfl (ex_assign rfl) ?_
                    refine ow_nil ?_
                    refine qw_seq ?_
                    refine cw_region ?_
                    refine ow_val rfl rfl (ex_move rfl) ?_
                    refine ow_val rfl rfl (ex_move rfl) ?_
                    refine ow_val rfl rfl (ex_move rfl) ?_
                    refine ow_val rfl rfl (ex_slice_lo (i := k) rfl rfl (by omega) hcz) ?_
                    refine ow_app1 rfl rfl (exw_append1 (news := (intsV zs).drop (k * 1)) rfl rfl hO85 (by rw [List.length_drop, intsV_len]; omega) ?_ (fun u hu => intsV_one u (List.mem_of_mem_drop hu)) (by unfold maxLen; omega) (by omega)) (fun v90 G90 hO90 hz90 => ?_)
                    · rcases hsz with h0 | ⟨b, f, hp, hca⟩
                      · left; subst h0; simp
                      · by_cases hlast : zs.length - k = 0
                        · exact .inl hlast
                        · right; rw [if_neg (by omega), hp]; exact ⟨b, f + k * 1, by simp [addr_add], fun w h => (hca.drop _).range h.im⟩
                    have hO90' : OwnSl 3 1 v90 (0 + k + 1 + (zs.length - k)) (intsV (zs.take k ++ [(numB (((d.drop i).drop 2).take 8)).1] ++ zs.drop k)) G90 := by
                      have e9 : intsV (zs.take k ++ [(numB (((d.drop i).drop 2).take 8)).1] ++ zs.drop k) = [] ++ (intsV zs).take (k * 1) ++ [.int .i64 (numB (((d.drop i).drop 2).take 8)).1] ++ (intsV zs).drop (k * 1) := by simp [intsV]
                      rw [e9]; exact hO90
                    refine ow_frzI (fun _ h => h) hO90' (fun σ6 hl6 hf6 hi6 => ?_)
                    obtain ⟨q6, c6, rfl, hcz6, hsz6⟩ := hi6
                    refine ow_val rfl rfl (ex_assign rfl) ?_
                    refine ow_nil ?_
                    refine qw_block_normal ?_
                    refine qw_seq ?_
                    refine cw_region ?_
                    refine ow_val rfl rfl (ex_move rfl) ?_
                    refine ow_val rfl rfl (ex_addi (z := ((i + 1 : Nat) : Int)) rfl rfl (by omega) (by omega) (by omega)) ?_
                    refine ow_val rfl rfl (ex_assign rfl) ?_
                    refine ow_nil ?_
                    exact qw_round5 (i + 1) (zs.take k ++ [(numB (((d.drop i).drop 2).take 8)).1] ++ zs.drop k) q6 c6 σ6 (by omega) (subL_cons (lkv rfl (by first | rfl | simp)) (subL_cons (lkv rfl (by first | rfl | simp)) (subL_cons (lkv rfl (by first | rfl | simp)) (subL_cons (lkv rfl (by first | rfl | simp)) (subL_nil _))))) ⟨by omega, hlj.trans hl6, hfj.trans hf6, hcz6, hsz6, hins.1, by
                      intro x
                      rw [← hmem x, hmh, show (d.drop i).drop 1 = d.drop (i + 1) from by rw [List.drop_drop], List.mem_cons, hins.2]
                      constructor
                      · rintro ((h | h) | h)
                        · exact .inr (.inl h)
                        · exact .inl h
                        · exact .inr (.inr h)
                      · rintro (h | h | h)
                        · exact .inl (.inr h)
                        · exact .inl (.inl h)
                        · exact .inr h⟩ (fun w h => h.drop (List.nil_sublist _))
  ·
    have h10 : d.length < i + 10 := by have := of_decide_eq_false c15; omega
    refine cw_exit ?_
    refine qw_then_exit ?_
    refine qw_then_exit ?_
    refine qw_block_exit ?_
    refine qw_seq ?_
    refine cw_seq ?_
    refine cw_region ?_
    refine ow_val rfl rfl (ex_move rfl) ?_
    refine ow_val rfl rfl (ex_assign rfl) ?_
    refine ow_nil ?_
    refine qw_seq ?_
    refine cw_ret ?_
    refine qw_ret1 rfl rfl (fun w' h => h.gives hlj hfj ?_)
    rw [← mentS_is hpw (fun x => by rw [← hmem x, mentL_short (by rw [List.length_drop]; omega)]; simp)]
    exact ⟨_, _, rfl, hcz, hsz⟩
end Go.Proofs.YtnjomdjkbbhdoaaDoor
