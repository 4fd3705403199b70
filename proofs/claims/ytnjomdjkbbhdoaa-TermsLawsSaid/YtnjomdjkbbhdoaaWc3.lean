/-
  Walks of the library: two ordered stretches made one.
  No condition.
-/
import Derived.Test.YtnjomdjkbbhdoaaWc2
namespace Go.Proofs.Ytnjomdjkbbhdoaa
open Go.RowKit
set_option linter.unusedVariables false
set_option linter.unusedSimpArgs false
set_option maxRecDepth 100000

set_option maxHeartbeats 400000 in
theorem pMerge3 {n : Nat} (ih : MergeAt Try.prog 50 17 26 n) {g c : Nat} {ts : List T} {xs tl : List Value} {a m b : Nat} {σ : Hp} {w : World} (hi : Imm σ w) (hg : w.heap[g]? = some (rowO xs tl 26)) (hd : σ g = none) (hr : RowC σ xs ts) (hm : ts.length ≤ maxKids) (hc : ts.length ≤ c) (ham : a < m) (hmb : m < b) (hb : b ≤ ts.length) (hs1 : SortedR a m ts) (hs2 : SortedR m b ts) (hn : b - a < n + 1) (h1 : a + 1 < m) (h2 : m + 1 < b) :
    Calls Try.prog 50 #[.slice (some ⟨g, 0, none⟩) ts.length c, .int .i64 (a : Int), .int .i64 (m : Int), .int .i64 (b : Int), .func (.func 17) #[] #[]] w (GiveM g tl 26 σ (fun us => InR a b us ts ∧ SortedR a b us) w) := by
  have hm2 := hm
  unfold maxKids at hm2
  have hf1 := (sortedF_iff (by omega)).1 hs1
  have hf2 := (sortedF_iff hb).1 hs2
  have hxl := hr.len
  obtain ⟨mid, hmid⟩ : ∃ x, x = (a + b) / 2 := ⟨_, rfl⟩
  refine enter (St w (· = g) σ [(g, rowO xs tl 26)] []) Try.func50 rfl Try.ntmps50 rfl (St.startM hi hg hd) ?_
  refine cw_seq ?_
  refine cw_seq ?_
  refine cw_region ?_
  refine ow_val rfl rfl (ex_move rfl) ?_
  refine ow_val rfl rfl (ex_move rfl) ?_
  refine ow_val rfl rfl (ex_subi (z := ((m - a : Nat) : Int)) rfl rfl (by omega) (by omega) (by omega)) ?_
  refine ow_val rfl rfl (ex_eql rfl rfl) ?_
  refine ow_nil ?_
  refine qw_seq ?_
  refine cw_cond rfl (fun c28 => ?_) (fun c28 => ?_)
  ·
    exact absurd (of_decide_eq_true c28) (by omega)
  ·
    refine cw_skip ?_
    refine qw_seq ?_
    refine cw_seq ?_
    refine cw_seq ?_
    refine cw_region ?_
    refine ow_val rfl rfl (ex_move rfl) ?_
    refine ow_val rfl rfl (ex_move rfl) ?_
    refine ow_val rfl rfl (ex_subi (z := ((b - m : Nat) : Int)) rfl rfl (by omega) (by omega) (by omega)) ?_
    refine ow_val rfl rfl (ex_eql rfl rfl) ?_
    refine ow_nil ?_
    refine qw_seq ?_
    refine cw_cond rfl (fun c80 => ?_) (fun c80 => ?_)
    ·
      exact absurd (of_decide_eq_true c80) (by omega)
    ·
      refine cw_skip ?_
      refine qw_seq ?_
      refine cw_seq ?_
      refine cw_region ?_
      refine ow_val rfl rfl (ex_move rfl) ?_
      refine ow_val rfl rfl (ex_move rfl) ?_
      refine ow_val rfl rfl (ex_addi (z := ((a + b : Nat) : Int)) rfl rfl (by omega) (by omega) (by omega)) ?_
      refine ow_val rfl rfl (ex_i2u Try.underlying3 Try.underlying61 rfl (by omega) (by omega)) ?_
      refine ow_val rfl rfl (ex_halfN rfl rfl) ?_
      refine ow_val rfl rfl (ex_u2i Try.underlying61 Try.underlying3 rfl (by omega) (by omega)) ?_
      refine ow_val (v := .int .i64 (mid : Int)) rfl rfl (by rw [hmid]; exact ex_assign rfl) ?_
      refine ow_nil ?_
      refine qw_seq ?_
      refine cw_seq ?_
      refine cw_region ?_
      refine ow_val rfl rfl (ex_move rfl) ?_
      refine ow_val rfl rfl (ex_move rfl) ?_
      refine ow_val rfl rfl (ex_addi (z := ((mid + m : Nat) : Int)) rfl rfl (by omega) (by omega) (by omega)) ?_
      refine ow_val rfl rfl (ex_assign rfl) ?_
      refine ow_nil ?_
      refine qw_seq ?_
      refine cw_seq ?_
      refine cw_region ?_
      refine ow_val rfl rfl (ex_assign rfl) ?_
      refine ow_val rfl rfl (ex_assign rfl) ?_
      refine ow_nil ?_
      refine qw_seq ?_
      refine cw_seq ?_
      refine cw_seq ?_
      refine cw_region ?_
      refine ow_val rfl rfl (ex_move rfl) ?_
      refine ow_val rfl rfl (ex_move rfl) ?_
      refine ow_val rfl rfl (ex_gtr rfl rfl) ?_
      refine ow_nil ?_
      refine qw_seq ?_
      refine cw_cond rfl (fun c140 => ?_) (fun c140 => ?_)
      ·
        have hq : mid < m := by simpa using c140
        obtain ⟨s0, r0, hs0, hr0, z1, z2, z3, z4, z5, z6, z7⟩ : ∃ s0 r0 : Nat, s0 = mid + m - b ∧ r0 = mid ∧ a ≤ s0 ∧ s0 ≤ r0 ∧ r0 ≤ m ∧ r0 ≤ mid ∧ mid + m ≤ b + s0 ∧ (s0 = a ∨ mid + m = b + s0) ∧ (r0 = m ∨ r0 = mid) := ⟨_, _, rfl, rfl, by omega, by omega, by omega, by omega, by omega, by omega, by omega⟩
        refine cw_seq ?_
        refine cw_region ?_
        refine ow_val rfl rfl (ex_move rfl) ?_
        refine ow_val rfl rfl (ex_move rfl) ?_
        refine ow_val rfl rfl (ex_subi (z := ((mid + m - b : Nat) : Int)) rfl rfl (by omega) (by omega) (by omega)) ?_
        refine ow_val rfl rfl (ex_assign rfl) ?_
        refine ow_nil ?_
        refine qw_seq ?_
        refine cw_region ?_
        refine ow_val rfl rfl (ex_move rfl) ?_
        refine ow_val rfl rfl (ex_assign rfl) ?_
        refine ow_nil ?_
        refine qw_seq ?_
        refine cw_seq ?_
        refine cw_region ?_
        refine ow_val rfl rfl (ex_move rfl) ?_
        refine ow_val rfl rfl (ex_subi (z := ((mid + m - 1 : Nat) : Int)) rfl rfl (by omega) (by omega) (by omega)) ?_
        refine ow_val rfl rfl (ex_assign rfl) ?_
        refine ow_nil ?_
        refine qw_seq ?_
        refine cw_seq ?_
        refine cw_block ?_
        refine cw_loopH2 (fun (i j : Nat) => [(0, .slice (some ⟨g, 0, none⟩) ts.length c), (1, .int .i64 (a : Int)), (2, .int .i64 (m : Int)), (3, .int .i64 (b : Int)), (4, .func (.func 17) #[] #[]), (18, .int .i64 (mid : Int)), (19, .int .i64 ((mid + m : Nat) : Int)), (20, .int .i64 (i : Int)), (21, .int .i64 (j : Int)), (22, .int .i64 ((mid + m - 1 : Nat) : Int))]) (fun i j => s0 ≤ i ∧ i ≤ j ∧ j ≤ r0 ∧ (i = s0 ∨ LeAt ts (i - 1) (mid + m - i)) ∧ (j = r0 ∨ LtAt ts (mid + m - 1 - j) j)) (fun i j => σ) (fun i j => [(g, rowO xs tl 26)]) (fun i j => []) (fun i j => j - i) s0 r0 (subL_cons (lkv rfl (by first | rfl | rw [hs0] | rw [hr0] | simp)) (subL_cons (lkv rfl (by first | rfl | rw [hs0] | rw [hr0] | simp)) (subL_cons (lkv rfl (by first | rfl | rw [hs0] | rw [hr0] | simp)) (subL_cons (lkv rfl (by first | rfl | rw [hs0] | rw [hr0] | simp)) (subL_cons (lkv rfl (by first | rfl | rw [hs0] | rw [hr0] | simp)) (subL_cons (lkv rfl (by first | rfl | rw [hs0] | rw [hr0] | simp)) (subL_cons (lkv rfl (by first | rfl | rw [hs0] | rw [hr0] | simp)) (subL_cons (lkv rfl (by first | rfl | rw [hs0] | rw [hr0] | simp)) (subL_cons (lkv rfl (by first | rfl | rw [hs0] | rw [hr0] | simp)) (subL_cons (lkv rfl (by first | rfl | rw [hs0] | rw [hr0] | simp)) (subL_nil _))))))))))) ⟨Nat.le_refl _, z2, Nat.le_refl _, .inl rfl, .inl rfl⟩ (fun w h => h) ?_
        intro i j ⟨hsi, hij0, hjr, hA, hB⟩
        refine cw_seq ?_
        refine cw_seq ?_
        refine cw_region ?_
        refine ow_val rfl rfl (ex_move rfl) ?_
        refine ow_val rfl rfl (ex_move rfl) ?_
        refine ow_val rfl rfl (ex_lss rfl rfl) ?_
        refine ow_nil ?_
        refine qw_seq ?_
        refine cw_cond rfl (fun c151 => ?_) (fun c151 => ?_)
        ·
          refine cw_skip ?_
          refine qw_seq ?_
          refine cw_block ?_
          refine cw_seq ?_
          have hij : i < j := by simpa using c151
          obtain ⟨csh, hth, hxh⟩ := hr.at ((i + j) / 2) (by omega)
          obtain ⟨csp, htp, hxp⟩ := hr.at (mid + m - 1 - (i + j) / 2) (by omega)
          refine cw_region ?_
          refine ow_val rfl rfl (ex_move rfl) ?_
          refine ow_val rfl rfl (ex_move rfl) ?_
          refine ow_val rfl rfl (ex_addi (z := ((i + j : Nat) : Int)) rfl rfl (by omega) (by omega) (by omega)) ?_
          refine ow_val rfl rfl (ex_i2u Try.underlying3 Try.underlying61 rfl (by omega) (by omega)) ?_
          refine ow_val rfl rfl (ex_halfN rfl rfl) ?_
          refine ow_val rfl rfl (ex_u2i Try.underlying61 Try.underlying3 rfl (by omega) (by omega)) ?_
          refine ow_val rfl rfl (ex_assign rfl) ?_
          refine ow_nil ?_
          refine qw_seq ?_
          refine cw_seq ?_
          refine flow_sound 14 (by kernel_rfl) ?_
          refine flow_val rfl (ex_move rfl) ?_
          refine flow_val rfl (ex_move rfl) ?_
          refine flow_val rfl (ex_move rfl) ?_
          refine flow_val rfl (ex_move rfl) ?_
          refine flow_val rfl (ex_subi (z := ((mid + m - 1 - (i + j) / 2 : Nat) : Int)) rfl rfl (by omega) (by omega) (by omega)) ?_
          refine flow_val rfl (ex_index_nat rfl rfl (by omega)) ?_
          refine flow_val rfl (ex_loadR rfl (ld_rowH 0 rfl htp.len hxp)) ?_
          refine flow_val rfl (ex_move rfl) ?_
          refine flow_val rfl (ex_move rfl) ?_
          refine flow_val rfl (ex_index_nat rfl rfl (by omega)) ?_
          refine flow_val rfl (ex_loadR rfl (ld_rowH 0 rfl hth.len hxh)) ?_
          refine flow_cv rfl (ex_call (cs := []) rfl rfl (fun w h => callB ((pOrder _ _ h.im htp hth)))) ?_
          refine flow_val rfl (ex_lss rfl rfl) ?_
          refine flow_val rfl (ex_not rfl) ?_
          refine flow_nil ?_
          refine fin_is ?_
          refine fin_is ?_
          refine fin_is ?_
          refine fin_is ?_
          refine fin_is ?_
          refine fin_is ?_
          refine fin_is ?_
          refine fin_is ?_
          refine fin_is ?_
          refine fin_is ?_
          refine fin_is ?_
          refine fin_is ?_
          refine fin_is ?_
          refine fin_is ?_
          refine fin_nil ?_
          refine ow_nil ?_
          refine qw_seq ?_
          refine cw_cond rfl (fun c171 => ?_) (fun c171 => ?_)
          ·
            refine cw_region ?_
            refine ow_val rfl rfl (ex_move rfl) ?_
            refine ow_val rfl rfl (ex_addi (z := (((i + j) / 2 + 1 : Nat) : Int)) rfl rfl (by omega) (by omega) (by omega)) ?_
            refine ow_val rfl rfl (ex_assign rfl) ?_
            refine ow_nil ?_
            refine qw_block_normal ?_
            exact qw_roundH2 ((i + j) / 2 + 1) j (by omega) (subL_cons (lkv rfl (by first | rfl | simp)) (subL_cons (lkv rfl (by first | rfl | simp)) (subL_cons (lkv rfl (by first | rfl | simp)) (subL_cons (lkv rfl (by first | rfl | simp)) (subL_cons (lkv rfl (by first | rfl | simp)) (subL_cons (lkv rfl (by first | rfl | simp)) (subL_cons (lkv rfl (by first | rfl | simp)) (subL_cons (lkv rfl (by first | rfl | simp)) (subL_cons (lkv rfl (by first | rfl | simp)) (subL_cons (lkv rfl (by first | rfl | simp)) (subL_nil _))))))))))) ⟨by omega, by omega, hjr, .inr ⟨ts[(i + j) / 2], ts[mid + m - 1 - (i + j) / 2], List.getElem?_eq_getElem (by omega), by rw [show mid + m - ((i + j) / 2 + 1) = mid + m - 1 - (i + j) / 2 by omega]; exact List.getElem?_eq_getElem (by omega), by
              have : 0 ≤ ord ts[mid + m - 1 - (i + j) / 2] ts[(i + j) / 2] := by simpa using c171
              rw [ord_neg]; omega⟩, hB⟩ (fun w h => h)
          ·
            refine cw_region ?_
            refine ow_val rfl rfl (ex_move rfl) ?_
            refine ow_val rfl rfl (ex_assign rfl) ?_
            refine ow_nil ?_
            refine qw_block_normal ?_
            exact qw_roundH2 i ((i + j) / 2) (by omega) (subL_cons (lkv rfl (by first | rfl | simp)) (subL_cons (lkv rfl (by first | rfl | simp)) (subL_cons (lkv rfl (by first | rfl | simp)) (subL_cons (lkv rfl (by first | rfl | simp)) (subL_cons (lkv rfl (by first | rfl | simp)) (subL_cons (lkv rfl (by first | rfl | simp)) (subL_cons (lkv rfl (by first | rfl | simp)) (subL_cons (lkv rfl (by first | rfl | simp)) (subL_cons (lkv rfl (by first | rfl | simp)) (subL_cons (lkv rfl (by first | rfl | simp)) (subL_nil _))))))))))) ⟨hsi, by omega, by omega, hA, .inr ⟨_, _, List.getElem?_eq_getElem (by omega), List.getElem?_eq_getElem (by omega), by simpa using c171⟩⟩ (fun w h => h)
        ·
          refine cw_exit ?_
          refine qw_then_exit ?_
          refine qw_then_exit ?_
          refine qw_block_exit ?_
          refine qw_seq ?_
          refine cw_seq ?_
          have hij : i = j := by simp at c151; omega
          subst hij
          obtain ⟨e, he⟩ : ∃ e, e = mid + m - i := ⟨_, rfl⟩
          have hAA : i = a ∨ e = b ∨ LeAt ts (i - 1) e := by
            rcases hA with h | h
            · omega
            · right; right; rw [he]; exact h
          have hBB : i = m ∨ e = m ∨ LtAt ts (e - 1) i := by
            rcases hB with h | h
            · omega
            · right; right; rw [he, show mid + m - i - 1 = mid + m - 1 - i by omega]; exact h
          refine cw_region ?_
          refine ow_val rfl rfl (ex_move rfl) ?_
          refine ow_val rfl rfl (ex_move rfl) ?_
          refine ow_val rfl rfl (ex_subi (z := (e : Int)) rfl rfl (by omega) (by omega) (by omega)) ?_
          refine ow_val rfl rfl (ex_assign rfl) ?_
          refine ow_nil ?_
          refine qw_seq ?_
          refine cw_cut [(0, .slice (some ⟨g, 0, none⟩) ts.length c), (1, .int .i64 (a : Int)), (2, .int .i64 (m : Int)), (3, .int .i64 (b : Int)), (4, .func (.func 17) #[] #[]), (18, .int .i64 (mid : Int)), (20, .int .i64 (i : Int)), (24, .int .i64 (e : Int))] (fun w' => ∃ us1 ys1, (InR a b us1 ts ∧ getF us1 = rotF i m e (getF ts) ∧ RowC σ ys1 us1) ∧ St w (· = g) σ [(g, rowO ys1 tl 26)] [] w') ?_ ?_
          ·
            refine cw_cut1 185 (.bool (decide ((i : Int) < (m : Int)) && decide ((m : Int) < (e : Int)))) ?_ ?_
            ·
              refine cw_region ?_
              refine ow_val rfl rfl (ex_move rfl) ?_
              refine ow_val rfl rfl (ex_move rfl) ?_
              refine ow_val rfl rfl (ex_lss rfl rfl) ?_
              refine ow_val rfl rfl (ex_move rfl) ?_
              refine ow_split (g := some (3, true)) rfl (fun s181 => ?_) (fun s181 => ?_)
              ·
                refine ow_val rfl (gd_go rfl s181) (ex_move rfl) ?_
                refine ow_val rfl (gd_go rfl s181) (ex_move rfl) ?_
                refine ow_val rfl (gd_go rfl s181) (ex_lss rfl rfl) ?_
                refine ow_val rfl rfl (ex_pickt rfl s181 rfl) ?_
                refine ow_nil ?_
                exact qw_meet (subL_meet 8 185 (lkv rfl (by first | rfl | (simp_all; done) | (simp_all <;> omega))) rfl rfl) (fun w h => h)
              ·
                refine ow_skip rfl (gd_no rfl s181) ?_
                refine ow_skip rfl (gd_no rfl s181) ?_
                refine ow_skip rfl (gd_no rfl s181) ?_
                refine ow_val rfl rfl (ex_pickf rfl s181 rfl) ?_
                refine ow_nil ?_
                exact qw_meet (subL_meet 8 185 (lkv rfl (by first | rfl | (simp_all; done) | (simp_all <;> omega))) rfl rfl) (fun w h => h)
            ·
              refine cw_cond rfl (fun c185 => ?_) (fun c185 => ?_)
              ·
                have hq1 : i < m ∧ m < e := by simpa using c185
                refine cw_region ?_
                refine ow_val rfl rfl (ex_move rfl) ?_
                refine ow_val rfl rfl (ex_move rfl) ?_
                refine ow_val rfl rfl (ex_move rfl) ?_
                refine ow_val rfl rfl (ex_move rfl) ?_
                refine ow_val rfl rfl (ex_move rfl) ?_
                refine ow_cmd rfl rfl (ex_callf rfl (fun w h => callM (pRotate (a := i) (m := m) (b := e) h.im (h.own (p := (g, rowO xs tl 26)) List.mem_cons_self) (h.fresh (p := (g, rowO xs tl 26)) List.mem_cons_self) hr hm hc (by omega) (by omega) (by omega)))) (fun v191 us ys hR hr2 => ?_)
                obtain ⟨hR1, hR2⟩ := hR
                refine ow_nil ?_
                first
                  | exact qw_meet (subL_cons (lkv rfl (by first | rfl | simp)) (subL_cons (lkv rfl (by first | rfl | simp)) (subL_cons (lkv rfl (by first | rfl | simp)) (subL_cons (lkv rfl (by first | rfl | simp)) (subL_cons (lkv rfl (by first | rfl | simp)) (subL_cons (lkv rfl (by first | rfl | simp)) (subL_cons (lkv rfl (by first | rfl | simp)) (subL_cons (lkv rfl (by first | rfl | simp)) (subL_nil _))))))))) (fun w' h => ⟨us, ys, ⟨hR1.wide (by omega) (by omega), hR2, hr2⟩, h⟩)
                  | exact qw_meet (subL_cons (lkv rfl (by first | rfl | simp)) (subL_cons (lkv rfl (by first | rfl | simp)) (subL_cons (lkv rfl (by first | rfl | simp)) (subL_cons (lkv rfl (by first | rfl | simp)) (subL_cons (lkv rfl (by first | rfl | simp)) (subL_cons (lkv rfl (by first | rfl | simp)) (subL_cons (lkv rfl (by first | rfl | simp)) (subL_cons (lkv rfl (by first | rfl | simp)) (subL_nil _))))))))) (fun w' h => ⟨ts, xs, ⟨InR.refl _ _ _, (rotF_none _ (by simp at c185; omega) (by omega) (by omega)).symm, hr⟩, h⟩)
              ·
                refine cw_skip ?_
                first
                  | exact qw_meet (subL_cons (lkv rfl (by first | rfl | simp)) (subL_cons (lkv rfl (by first | rfl | simp)) (subL_cons (lkv rfl (by first | rfl | simp)) (subL_cons (lkv rfl (by first | rfl | simp)) (subL_cons (lkv rfl (by first | rfl | simp)) (subL_cons (lkv rfl (by first | rfl | simp)) (subL_cons (lkv rfl (by first | rfl | simp)) (subL_cons (lkv rfl (by first | rfl | simp)) (subL_nil _))))))))) (fun w' h => ⟨us, ys, ⟨hR1.wide (by omega) (by omega), hR2, hr2⟩, h⟩)
                  | exact qw_meet (subL_cons (lkv rfl (by first | rfl | simp)) (subL_cons (lkv rfl (by first | rfl | simp)) (subL_cons (lkv rfl (by first | rfl | simp)) (subL_cons (lkv rfl (by first | rfl | simp)) (subL_cons (lkv rfl (by first | rfl | simp)) (subL_cons (lkv rfl (by first | rfl | simp)) (subL_cons (lkv rfl (by first | rfl | simp)) (subL_cons (lkv rfl (by first | rfl | simp)) (subL_nil _))))))))) (fun w' h => ⟨ts, xs, ⟨InR.refl _ _ _, (rotF_none _ (by simp at c185; omega) (by omega) (by omega)).symm, hr⟩, h⟩)
          ·
            refine cw_ex fun us1 => cw_ex fun ys1 => cw_and fun hp1 => ?_
            obtain ⟨hin1, hrot, hrow1⟩ := hp1
            have hl1 := hin1.1
            obtain ⟨ra, rb, rc, rd⟩ := rot_sorted hf1 hf2 hb (show a ≤ i by omega) (show i ≤ m by omega) (show m ≤ e by omega) (show e ≤ b by omega) (show mid + m = i + e by omega)
            have rx := rot_cross hf1 hf2 hb (show a ≤ i by omega) (show i ≤ m by omega) (show m ≤ e by omega) (show e ≤ b by omega) (show mid + m = i + e by omega) (by omega) hAA hBB
            rw [← hrot] at ra rb rc rd rx
            have hsa := (sortedF_iff (by omega)).2 ra
            have hsb := (sortedF_iff (by omega)).2 rb
            have hsc1 := (sortedF_iff (by omega)).2 rc
            have hsd1 := (sortedF_iff (by omega)).2 rd
            have hsm : i = a ∨ i = mid → SortedR a mid us1 := fun h => by
              rcases h with h | h
              · rw [← h]; exact hsb
              · rw [← h]; exact hsa
            refine cw_cut [(0, .slice (some ⟨g, 0, none⟩) ts.length c), (1, .int .i64 (a : Int)), (2, .int .i64 (m : Int)), (3, .int .i64 (b : Int)), (4, .func (.func 17) #[] #[]), (18, .int .i64 (mid : Int)), (24, .int .i64 (e : Int))] (fun w' => ∃ us2 ys2, (InR a mid us2 us1 ∧ SortedR a mid us2 ∧ RowC σ ys2 us2) ∧ St w (· = g) σ [(g, rowO ys2 tl 26)] [] w') ?_ ?_
            ·
              refine cw_cut1 199 (.bool (decide ((a : Int) < (i : Int)) && decide ((i : Int) < (mid : Int)))) ?_ ?_
              ·
                refine cw_region ?_
                refine ow_val rfl rfl (ex_move rfl) ?_
                refine ow_val rfl rfl (ex_move rfl) ?_
                refine ow_val rfl rfl (ex_lss rfl rfl) ?_
                refine ow_val rfl rfl (ex_move rfl) ?_
                refine ow_split (g := some (3, true)) rfl (fun s195 => ?_) (fun s195 => ?_)
                ·
                  refine ow_val rfl (gd_go rfl s195) (ex_move rfl) ?_
                  refine ow_val rfl (gd_go rfl s195) (ex_move rfl) ?_
                  refine ow_val rfl (gd_go rfl s195) (ex_lss rfl rfl) ?_
                  refine ow_val rfl rfl (ex_pickt rfl s195 rfl) ?_
                  refine ow_nil ?_
                  exact qw_meet (subL_meet 8 199 (lkv rfl (by first | rfl | (simp_all; done) | (simp_all <;> omega))) rfl rfl) (fun w h => h)
                ·
                  refine ow_skip rfl (gd_no rfl s195) ?_
                  refine ow_skip rfl (gd_no rfl s195) ?_
                  refine ow_skip rfl (gd_no rfl s195) ?_
                  refine ow_val rfl rfl (ex_pickf rfl s195 rfl) ?_
                  refine ow_nil ?_
                  exact qw_meet (subL_meet 8 199 (lkv rfl (by first | rfl | (simp_all; done) | (simp_all <;> omega))) rfl rfl) (fun w h => h)
              ·
                refine cw_cond rfl (fun c199 => ?_) (fun c199 => ?_)
                ·
                  have hq1 : a < i ∧ i < mid := by simpa using c199
                  refine cw_region ?_
                  refine ow_val rfl rfl (ex_move rfl) ?_
                  refine ow_val rfl rfl (ex_move rfl) ?_
                  refine ow_val rfl rfl (ex_move rfl) ?_
                  refine ow_val rfl rfl (ex_move rfl) ?_
                  refine ow_val rfl rfl (ex_move rfl) ?_
                  refine ow_cmd rfl rfl (ex_callf rfl (fun w h => callM (ih (a := a) (m := i) (b := mid) hl1.symm (by omega) h.im (h.own (p := (g, rowO ys1 tl 26)) List.mem_cons_self) (h.fresh (p := (g, rowO ys1 tl 26)) List.mem_cons_self) hrow1 (by omega) (by omega) (by omega) (by omega) (by omega) hsa hsb))) (fun v205 us ys hR hr2 => ?_)
                  obtain ⟨hR1, hR2⟩ := hR
                  refine ow_nil ?_
                  first
                    | exact qw_meet (subL_cons (lkv rfl (by first | rfl | simp)) (subL_cons (lkv rfl (by first | rfl | simp)) (subL_cons (lkv rfl (by first | rfl | simp)) (subL_cons (lkv rfl (by first | rfl | simp)) (subL_cons (lkv rfl (by first | rfl | simp)) (subL_cons (lkv rfl (by first | rfl | simp)) (subL_cons (lkv rfl (by first | rfl | simp)) (subL_nil _)))))))) (fun w' h => ⟨us, ys, ⟨hR1, hR2, hr2⟩, h⟩)
                    | exact qw_meet (subL_cons (lkv rfl (by first | rfl | simp)) (subL_cons (lkv rfl (by first | rfl | simp)) (subL_cons (lkv rfl (by first | rfl | simp)) (subL_cons (lkv rfl (by first | rfl | simp)) (subL_cons (lkv rfl (by first | rfl | simp)) (subL_cons (lkv rfl (by first | rfl | simp)) (subL_cons (lkv rfl (by first | rfl | simp)) (subL_nil _)))))))) (fun w' h => ⟨us1, ys1, ⟨InR.refl _ _ _, hsm (by simp at c199; omega), hrow1⟩, h⟩)
                ·
                  refine cw_skip ?_
                  first
                    | exact qw_meet (subL_cons (lkv rfl (by first | rfl | simp)) (subL_cons (lkv rfl (by first | rfl | simp)) (subL_cons (lkv rfl (by first | rfl | simp)) (subL_cons (lkv rfl (by first | rfl | simp)) (subL_cons (lkv rfl (by first | rfl | simp)) (subL_cons (lkv rfl (by first | rfl | simp)) (subL_cons (lkv rfl (by first | rfl | simp)) (subL_nil _)))))))) (fun w' h => ⟨us, ys, ⟨hR1, hR2, hr2⟩, h⟩)
                    | exact qw_meet (subL_cons (lkv rfl (by first | rfl | simp)) (subL_cons (lkv rfl (by first | rfl | simp)) (subL_cons (lkv rfl (by first | rfl | simp)) (subL_cons (lkv rfl (by first | rfl | simp)) (subL_cons (lkv rfl (by first | rfl | simp)) (subL_cons (lkv rfl (by first | rfl | simp)) (subL_cons (lkv rfl (by first | rfl | simp)) (subL_nil _)))))))) (fun w' h => ⟨us1, ys1, ⟨InR.refl _ _ _, hsm (by simp at c199; omega), hrow1⟩, h⟩)
            ·
              refine cw_ex fun us2 => cw_ex fun ys2 => cw_and fun hp2 => ?_
              obtain ⟨hin2, hso2, hrow2⟩ := hp2
              have hl2 : us2.length = ts.length := hin2.1.trans hl1
              have hsc : SortedR mid e us2 := fun j hj k1 k2 => by
                rw [hin2.get_ge (show mid ≤ j by omega) (by omega), hin2.get_ge (show mid ≤ j + 1 by omega) hj]; exact hsc1 j _ k1 k2
              have hsd : SortedR e b us2 := fun j hj k1 k2 => by
                rw [hin2.get_ge (show mid ≤ j by omega) (by omega), hin2.get_ge (show mid ≤ j + 1 by omega) hj]; exact hsd1 j _ k1 k2
              refine cw_cut1 213 (.bool (decide ((mid : Int) < (e : Int)) && decide ((e : Int) < (b : Int)))) ?_ ?_
              ·
                refine cw_region ?_
                refine ow_val rfl rfl (ex_move rfl) ?_
                refine ow_val rfl rfl (ex_move rfl) ?_
                refine ow_val rfl rfl (ex_lss rfl rfl) ?_
                refine ow_val rfl rfl (ex_move rfl) ?_
                refine ow_split (g := some (3, true)) rfl (fun s209 => ?_) (fun s209 => ?_)
                ·
                  refine ow_val rfl (gd_go rfl s209) (ex_move rfl) ?_
                  refine ow_val rfl (gd_go rfl s209) (ex_move rfl) ?_
                  refine ow_val rfl (gd_go rfl s209) (ex_lss rfl rfl) ?_
                  refine ow_val rfl rfl (ex_pickt rfl s209 rfl) ?_
                  refine ow_nil ?_
                  exact qw_meet (subL_meet 8 213 (lkv rfl (by first | rfl | (simp_all; done) | (simp_all <;> omega))) rfl rfl) (fun w h => h)
                ·
                  refine ow_skip rfl (gd_no rfl s209) ?_
                  refine ow_skip rfl (gd_no rfl s209) ?_
                  refine ow_skip rfl (gd_no rfl s209) ?_
                  refine ow_val rfl rfl (ex_pickf rfl s209 rfl) ?_
                  refine ow_nil ?_
                  exact qw_meet (subL_meet 8 213 (lkv rfl (by first | rfl | (simp_all; done) | (simp_all <;> omega))) rfl rfl) (fun w h => h)
              ·
                refine cw_cond rfl (fun c213 => ?_) (fun c213 => ?_)
                ·
                  have hq1 : mid < e ∧ e < b := by simpa using c213
                  refine cw_region ?_
                  refine ow_val rfl rfl (ex_move rfl) ?_
                  refine ow_val rfl rfl (ex_move rfl) ?_
                  refine ow_val rfl rfl (ex_move rfl) ?_
                  refine ow_val rfl rfl (ex_move rfl) ?_
                  refine ow_val rfl rfl (ex_move rfl) ?_
                  refine ow_cmd rfl rfl (ex_callf rfl (fun w h => callM (ih (a := mid) (m := e) (b := b) hl2.symm (by omega) h.im (h.own (p := (g, rowO ys2 tl 26)) List.mem_cons_self) (h.fresh (p := (g, rowO ys2 tl 26)) List.mem_cons_self) hrow2 (by omega) (by omega) (by omega) (by omega) (by omega) hsc hsd))) (fun v219 us ys hR hr2 => ?_)
                  obtain ⟨hR1, hR2⟩ := hR
                  refine ow_nil ?_
                  refine qw_end0 rfl (fun w' h => h.givesM hr2 ⟨((hR1.wide (by omega) (Nat.le_refl _)).trans (hin2.wide (Nat.le_refl _) (by omega))).trans hin1, cross_fin rx hin2 hso2 hR1 hR2 (by omega) (by omega)⟩)
                ·
                  refine cw_skip ?_
                  refine qw_end0 rfl (fun w' h => h.givesM hrow2 ⟨(hin2.wide (Nat.le_refl _) (by omega)).trans hin1, cross_fin rx hin2 hso2 (InR.refl _ _ _) ?_ (by omega) (by omega)⟩)
                  have hq2 : e = mid ∨ e = b := by simp at c213; omega
                  rcases hq2 with h | h
                  · rw [← h]; exact hsd
                  · rw [← h]; exact hsc
      ·
        have hq : m ≤ mid := by simpa using c140
        obtain ⟨s0, r0, hs0, hr0, z1, z2, z3, z4, z5, z6, z7⟩ : ∃ s0 r0 : Nat, s0 = a ∧ r0 = m ∧ a ≤ s0 ∧ s0 ≤ r0 ∧ r0 ≤ m ∧ r0 ≤ mid ∧ mid + m ≤ b + s0 ∧ (s0 = a ∨ mid + m = b + s0) ∧ (r0 = m ∨ r0 = mid) := ⟨_, _, rfl, rfl, by omega, by omega, by omega, by omega, by omega, by omega, by omega⟩
        refine cw_seq ?_
        refine cw_region ?_
        refine ow_val rfl rfl (ex_move rfl) ?_
        refine ow_val rfl rfl (ex_assign rfl) ?_
        refine ow_nil ?_
        refine qw_seq ?_
        refine cw_region ?_
        refine ow_val rfl rfl (ex_move rfl) ?_
        refine ow_val rfl rfl (ex_assign rfl) ?_
        refine ow_nil ?_
        refine qw_seq ?_
        refine cw_seq ?_
        refine cw_region ?_
        refine ow_val rfl rfl (ex_move rfl) ?_
        refine ow_val rfl rfl (ex_subi (z := ((mid + m - 1 : Nat) : Int)) rfl rfl (by omega) (by omega) (by omega)) ?_
        refine ow_val rfl rfl (ex_assign rfl) ?_
        refine ow_nil ?_
        refine qw_seq ?_
        refine cw_seq ?_
        refine cw_block ?_
        refine cw_loopH2 (fun (i j : Nat) => [(0, .slice (some ⟨g, 0, none⟩) ts.length c), (1, .int .i64 (a : Int)), (2, .int .i64 (m : Int)), (3, .int .i64 (b : Int)), (4, .func (.func 17) #[] #[]), (18, .int .i64 (mid : Int)), (19, .int .i64 ((mid + m : Nat) : Int)), (20, .int .i64 (i : Int)), (21, .int .i64 (j : Int)), (22, .int .i64 ((mid + m - 1 : Nat) : Int))]) (fun i j => s0 ≤ i ∧ i ≤ j ∧ j ≤ r0 ∧ (i = s0 ∨ LeAt ts (i - 1) (mid + m - i)) ∧ (j = r0 ∨ LtAt ts (mid + m - 1 - j) j)) (fun i j => σ) (fun i j => [(g, rowO xs tl 26)]) (fun i j => []) (fun i j => j - i) s0 r0 (subL_cons (lkv rfl (by first | rfl | rw [hs0] | rw [hr0] | simp)) (subL_cons (lkv rfl (by first | rfl | rw [hs0] | rw [hr0] | simp)) (subL_cons (lkv rfl (by first | rfl | rw [hs0] | rw [hr0] | simp)) (subL_cons (lkv rfl (by first | rfl | rw [hs0] | rw [hr0] | simp)) (subL_cons (lkv rfl (by first | rfl | rw [hs0] | rw [hr0] | simp)) (subL_cons (lkv rfl (by first | rfl | rw [hs0] | rw [hr0] | simp)) (subL_cons (lkv rfl (by first | rfl | rw [hs0] | rw [hr0] | simp)) (subL_cons (lkv rfl (by first | rfl | rw [hs0] | rw [hr0] | simp)) (subL_cons (lkv rfl (by first | rfl | rw [hs0] | rw [hr0] | simp)) (subL_cons (lkv rfl (by first | rfl | rw [hs0] | rw [hr0] | simp)) (subL_nil _))))))))))) ⟨Nat.le_refl _, z2, Nat.le_refl _, .inl rfl, .inl rfl⟩ (fun w h => h) ?_
        intro i j ⟨hsi, hij0, hjr, hA, hB⟩
        refine cw_seq ?_
        refine cw_seq ?_
        refine cw_region ?_
        refine ow_val rfl rfl (ex_move rfl) ?_
        refine ow_val rfl rfl (ex_move rfl) ?_
        refine ow_val rfl rfl (ex_lss rfl rfl) ?_
        refine ow_nil ?_
        refine qw_seq ?_
        refine cw_cond rfl (fun c151 => ?_) (fun c151 => ?_)
        ·
          refine cw_skip ?_
          refine qw_seq ?_
          refine cw_block ?_
          refine cw_seq ?_
          have hij : i < j := by simpa using c151
          obtain ⟨csh, hth, hxh⟩ := hr.at ((i + j) / 2) (by omega)
          obtain ⟨csp, htp, hxp⟩ := hr.at (mid + m - 1 - (i + j) / 2) (by omega)
          refine cw_region ?_
          refine ow_val rfl rfl (ex_move rfl) ?_
          refine ow_val rfl rfl (ex_move rfl) ?_
          refine ow_val rfl rfl (ex_addi (z := ((i + j : Nat) : Int)) rfl rfl (by omega) (by omega) (by omega)) ?_
          refine ow_val rfl rfl (ex_i2u Try.underlying3 Try.underlying61 rfl (by omega) (by omega)) ?_
          refine ow_val rfl rfl (ex_halfN rfl rfl) ?_
          refine ow_val rfl rfl (ex_u2i Try.underlying61 Try.underlying3 rfl (by omega) (by omega)) ?_
          refine ow_val rfl rfl (ex_assign rfl) ?_
          refine ow_nil ?_
          refine qw_seq ?_
          refine cw_seq ?_
          refine flow_sound 14 (by kernel_rfl) ?_
          refine flow_val rfl (ex_move rfl) ?_
          refine flow_val rfl (ex_move rfl) ?_
          refine flow_val rfl (ex_move rfl) ?_
          refine flow_val rfl (ex_move rfl) ?_
          refine flow_val rfl (ex_subi (z := ((mid + m - 1 - (i + j) / 2 : Nat) : Int)) rfl rfl (by omega) (by omega) (by omega)) ?_
          refine flow_val rfl (ex_index_nat rfl rfl (by omega)) ?_
          refine flow_val rfl (ex_loadR rfl (ld_rowH 0 rfl htp.len hxp)) ?_
          refine flow_val rfl (ex_move rfl) ?_
          refine flow_val rfl (ex_move rfl) ?_
          refine flow_val rfl (ex_index_nat rfl rfl (by omega)) ?_
          refine flow_val rfl (ex_loadR rfl (ld_rowH 0 rfl hth.len hxh)) ?_
          refine flow_cv rfl (ex_call (cs := []) rfl rfl (fun w h => callB ((pOrder _ _ h.im htp hth)))) ?_
          refine flow_val rfl (ex_lss rfl rfl) ?_
          refine flow_val rfl (ex_not rfl) ?_
          refine flow_nil ?_
          refine fin_is ?_
          refine fin_is ?_
          refine fin_is ?_
          refine fin_is ?_
          refine fin_is ?_
          refine fin_is ?_
          refine fin_is ?_
          refine fin_is ?_
          refine fin_is ?_
          refine fin_is ?_
          refine fin_is ?_
          refine fin_is ?_
          refine fin_is ?_
          refine fin_is ?_
          refine fin_nil ?_
          refine ow_nil ?_
          refine qw_seq ?_
          refine cw_cond rfl (fun c171 => ?_) (fun c171 => ?_)
          ·
            refine cw_region ?_
            refine ow_val rfl rfl (ex_move rfl) ?_
            refine ow_val rfl rfl (ex_addi (z := (((i + j) / 2 + 1 : Nat) : Int)) rfl rfl (by omega) (by omega) (by omega)) ?_
            refine ow_val rfl rfl (ex_assign rfl) ?_
            refine ow_nil ?_
            refine qw_block_normal ?_
            exact qw_roundH2 ((i + j) / 2 + 1) j (by omega) (subL_cons (lkv rfl (by first | rfl | simp)) (subL_cons (lkv rfl (by first | rfl | simp)) (subL_cons (lkv rfl (by first | rfl | simp)) (subL_cons (lkv rfl (by first | rfl | simp)) (subL_cons (lkv rfl (by first | rfl | simp)) (subL_cons (lkv rfl (by first | rfl | simp)) (subL_cons (lkv rfl (by first | rfl | simp)) (subL_cons (lkv rfl (by first | rfl | simp)) (subL_cons (lkv rfl (by first | rfl | simp)) (subL_cons (lkv rfl (by first | rfl | simp)) (subL_nil _))))))))))) ⟨by omega, by omega, hjr, .inr ⟨ts[(i + j) / 2], ts[mid + m - 1 - (i + j) / 2], List.getElem?_eq_getElem (by omega), by rw [show mid + m - ((i + j) / 2 + 1) = mid + m - 1 - (i + j) / 2 by omega]; exact List.getElem?_eq_getElem (by omega), by
              have : 0 ≤ ord ts[mid + m - 1 - (i + j) / 2] ts[(i + j) / 2] := by simpa using c171
              rw [ord_neg]; omega⟩, hB⟩ (fun w h => h)
          ·
            refine cw_region ?_
            refine ow_val rfl rfl (ex_move rfl) ?_
            refine ow_val rfl rfl (ex_assign rfl) ?_
            refine ow_nil ?_
            refine qw_block_normal ?_
            exact qw_roundH2 i ((i + j) / 2) (by omega) (subL_cons (lkv rfl (by first | rfl | simp)) (subL_cons (lkv rfl (by first | rfl | simp)) (subL_cons (lkv rfl (by first | rfl | simp)) (subL_cons (lkv rfl (by first | rfl | simp)) (subL_cons (lkv rfl (by first | rfl | simp)) (subL_cons (lkv rfl (by first | rfl | simp)) (subL_cons (lkv rfl (by first | rfl | simp)) (subL_cons (lkv rfl (by first | rfl | simp)) (subL_cons (lkv rfl (by first | rfl | simp)) (subL_cons (lkv rfl (by first | rfl | simp)) (subL_nil _))))))))))) ⟨hsi, by omega, by omega, hA, .inr ⟨_, _, List.getElem?_eq_getElem (by omega), List.getElem?_eq_getElem (by omega), by simpa using c171⟩⟩ (fun w h => h)
        ·
          refine cw_exit ?_
          refine qw_then_exit ?_
          refine qw_then_exit ?_
          refine qw_block_exit ?_
          refine qw_seq ?_
          refine cw_seq ?_
          have hij : i = j := by simp at c151; omega
          subst hij
          obtain ⟨e, he⟩ : ∃ e, e = mid + m - i := ⟨_, rfl⟩
          have hAA : i = a ∨ e = b ∨ LeAt ts (i - 1) e := by
            rcases hA with h | h
            · omega
            · right; right; rw [he]; exact h
          have hBB : i = m ∨ e = m ∨ LtAt ts (e - 1) i := by
            rcases hB with h | h
            · omega
            · right; right; rw [he, show mid + m - i - 1 = mid + m - 1 - i by omega]; exact h
          refine cw_region ?_
          refine ow_val rfl rfl (ex_move rfl) ?_
          refine ow_val rfl rfl (ex_move rfl) ?_
          refine ow_val rfl rfl (ex_subi (z := (e : Int)) rfl rfl (by omega) (by omega) (by omega)) ?_
          refine ow_val rfl rfl (ex_assign rfl) ?_
          refine ow_nil ?_
          refine qw_seq ?_
          refine cw_cut [(0, .slice (some ⟨g, 0, none⟩) ts.length c), (1, .int .i64 (a : Int)), (2, .int .i64 (m : Int)), (3, .int .i64 (b : Int)), (4, .func (.func 17) #[] #[]), (18, .int .i64 (mid : Int)), (20, .int .i64 (i : Int)), (24, .int .i64 (e : Int))] (fun w' => ∃ us1 ys1, (InR a b us1 ts ∧ getF us1 = rotF i m e (getF ts) ∧ RowC σ ys1 us1) ∧ St w (· = g) σ [(g, rowO ys1 tl 26)] [] w') ?_ ?_
          ·
            refine cw_cut1 185 (.bool (decide ((i : Int) < (m : Int)) && decide ((m : Int) < (e : Int)))) ?_ ?_
            ·
              refine cw_region ?_
              refine ow_val rfl rfl (ex_move rfl) ?_
              refine ow_val rfl rfl (ex_move rfl) ?_
              refine ow_val rfl rfl (ex_lss rfl rfl) ?_
              refine ow_val rfl rfl (ex_move rfl) ?_
              refine ow_split (g := some (3, true)) rfl (fun s181 => ?_) (fun s181 => ?_)
              ·
                refine ow_val rfl (gd_go rfl s181) (ex_move rfl) ?_
                refine ow_val rfl (gd_go rfl s181) (ex_move rfl) ?_
                refine ow_val rfl (gd_go rfl s181) (ex_lss rfl rfl) ?_
                refine ow_val rfl rfl (ex_pickt rfl s181 rfl) ?_
                refine ow_nil ?_
                exact qw_meet (subL_meet 8 185 (lkv rfl (by first | rfl | (simp_all; done) | (simp_all <;> omega))) rfl rfl) (fun w h => h)
              ·
                refine ow_skip rfl (gd_no rfl s181) ?_
                refine ow_skip rfl (gd_no rfl s181) ?_
                refine ow_skip rfl (gd_no rfl s181) ?_
                refine ow_val rfl rfl (ex_pickf rfl s181 rfl) ?_
                refine ow_nil ?_
                exact qw_meet (subL_meet 8 185 (lkv rfl (by first | rfl | (simp_all; done) | (simp_all <;> omega))) rfl rfl) (fun w h => h)
            ·
              refine cw_cond rfl (fun c185 => ?_) (fun c185 => ?_)
              ·
                have hq1 : i < m ∧ m < e := by simpa using c185
                refine cw_region ?_
                refine ow_val rfl rfl (ex_move rfl) ?_
                refine ow_val rfl rfl (ex_move rfl) ?_
                refine ow_val rfl rfl (ex_move rfl) ?_
                refine ow_val rfl rfl (ex_move rfl) ?_
                refine ow_val rfl rfl (ex_move rfl) ?_
                refine ow_cmd rfl rfl (ex_callf rfl (fun w h => callM (pRotate (a := i) (m := m) (b := e) h.im (h.own (p := (g, rowO xs tl 26)) List.mem_cons_self) (h.fresh (p := (g, rowO xs tl 26)) List.mem_cons_self) hr hm hc (by omega) (by omega) (by omega)))) (fun v191 us ys hR hr2 => ?_)
                obtain ⟨hR1, hR2⟩ := hR
                refine ow_nil ?_
                first
                  | exact qw_meet (subL_cons (lkv rfl (by first | rfl | simp)) (subL_cons (lkv rfl (by first | rfl | simp)) (subL_cons (lkv rfl (by first | rfl | simp)) (subL_cons (lkv rfl (by first | rfl | simp)) (subL_cons (lkv rfl (by first | rfl | simp)) (subL_cons (lkv rfl (by first | rfl | simp)) (subL_cons (lkv rfl (by first | rfl | simp)) (subL_cons (lkv rfl (by first | rfl | simp)) (subL_nil _))))))))) (fun w' h => ⟨us, ys, ⟨hR1.wide (by omega) (by omega), hR2, hr2⟩, h⟩)
                  | exact qw_meet (subL_cons (lkv rfl (by first | rfl | simp)) (subL_cons (lkv rfl (by first | rfl | simp)) (subL_cons (lkv rfl (by first | rfl | simp)) (subL_cons (lkv rfl (by first | rfl | simp)) (subL_cons (lkv rfl (by first | rfl | simp)) (subL_cons (lkv rfl (by first | rfl | simp)) (subL_cons (lkv rfl (by first | rfl | simp)) (subL_cons (lkv rfl (by first | rfl | simp)) (subL_nil _))))))))) (fun w' h => ⟨ts, xs, ⟨InR.refl _ _ _, (rotF_none _ (by simp at c185; omega) (by omega) (by omega)).symm, hr⟩, h⟩)
              ·
                refine cw_skip ?_
                first
                  | exact qw_meet (subL_cons (lkv rfl (by first | rfl | simp)) (subL_cons (lkv rfl (by first | rfl | simp)) (subL_cons (lkv rfl (by first | rfl | simp)) (subL_cons (lkv rfl (by first | rfl | simp)) (subL_cons (lkv rfl (by first | rfl | simp)) (subL_cons (lkv rfl (by first | rfl | simp)) (subL_cons (lkv rfl (by first | rfl | simp)) (subL_cons (lkv rfl (by first | rfl | simp)) (subL_nil _))))))))) (fun w' h => ⟨us, ys, ⟨hR1.wide (by omega) (by omega), hR2, hr2⟩, h⟩)
                  | exact qw_meet (subL_cons (lkv rfl (by first | rfl | simp)) (subL_cons (lkv rfl (by first | rfl | simp)) (subL_cons (lkv rfl (by first | rfl | simp)) (subL_cons (lkv rfl (by first | rfl | simp)) (subL_cons (lkv rfl (by first | rfl | simp)) (subL_cons (lkv rfl (by first | rfl | simp)) (subL_cons (lkv rfl (by first | rfl | simp)) (subL_cons (lkv rfl (by first | rfl | simp)) (subL_nil _))))))))) (fun w' h => ⟨ts, xs, ⟨InR.refl _ _ _, (rotF_none _ (by simp at c185; omega) (by omega) (by omega)).symm, hr⟩, h⟩)
          ·
            refine cw_ex fun us1 => cw_ex fun ys1 => cw_and fun hp1 => ?_
            obtain ⟨hin1, hrot, hrow1⟩ := hp1
            have hl1 := hin1.1
            obtain ⟨ra, rb, rc, rd⟩ := rot_sorted hf1 hf2 hb (show a ≤ i by omega) (show i ≤ m by omega) (show m ≤ e by omega) (show e ≤ b by omega) (show mid + m = i + e by omega)
            have rx := rot_cross hf1 hf2 hb (show a ≤ i by omega) (show i ≤ m by omega) (show m ≤ e by omega) (show e ≤ b by omega) (show mid + m = i + e by omega) (by omega) hAA hBB
            rw [← hrot] at ra rb rc rd rx
            have hsa := (sortedF_iff (by omega)).2 ra
            have hsb := (sortedF_iff (by omega)).2 rb
            have hsc1 := (sortedF_iff (by omega)).2 rc
            have hsd1 := (sortedF_iff (by omega)).2 rd
            have hsm : i = a ∨ i = mid → SortedR a mid us1 := fun h => by
              rcases h with h | h
              · rw [← h]; exact hsb
              · rw [← h]; exact hsa
            refine cw_cut [(0, .slice (some ⟨g, 0, none⟩) ts.length c), (1, .int .i64 (a : Int)), (2, .int .i64 (m : Int)), (3, .int .i64 (b : Int)), (4, .func (.func 17) #[] #[]), (18, .int .i64 (mid : Int)), (24, .int .i64 (e : Int))] (fun w' => ∃ us2 ys2, (InR a mid us2 us1 ∧ SortedR a mid us2 ∧ RowC σ ys2 us2) ∧ St w (· = g) σ [(g, rowO ys2 tl 26)] [] w') ?_ ?_
            ·
              refine cw_cut1 199 (.bool (decide ((a : Int) < (i : Int)) && decide ((i : Int) < (mid : Int)))) ?_ ?_
              ·
                refine cw_region ?_
                refine ow_val rfl rfl (ex_move rfl) ?_
                refine ow_val rfl rfl (ex_move rfl) ?_
                refine ow_val rfl rfl (ex_lss rfl rfl) ?_
                refine ow_val rfl rfl (ex_move rfl) ?_
                refine ow_split (g := some (3, true)) rfl (fun s195 => ?_) (fun s195 => ?_)
                ·
                  refine ow_val rfl (gd_go rfl s195) (ex_move rfl) ?_
                  refine ow_val rfl (gd_go rfl s195) (ex_move rfl) ?_
                  refine ow_val rfl (gd_go rfl s195) (ex_lss rfl rfl) ?_
                  refine ow_val rfl rfl (ex_pickt rfl s195 rfl) ?_
                  refine ow_nil ?_
                  exact qw_meet (subL_meet 8 199 (lkv rfl (by first | rfl | (simp_all; done) | (simp_all <;> omega))) rfl rfl) (fun w h => h)
                ·
                  refine ow_skip rfl (gd_no rfl s195) ?_
                  refine ow_skip rfl (gd_no rfl s195) ?_
                  refine ow_skip rfl (gd_no rfl s195) ?_
                  refine ow_val rfl rfl (ex_pickf rfl s195 rfl) ?_
                  refine ow_nil ?_
                  exact qw_meet (subL_meet 8 199 (lkv rfl (by first | rfl | (simp_all; done) | (simp_all <;> omega))) rfl rfl) (fun w h => h)
              ·
                refine cw_cond rfl (fun c199 => ?_) (fun c199 => ?_)
                ·
                  have hq1 : a < i ∧ i < mid := by simpa using c199
                  refine cw_region ?_
                  refine ow_val rfl rfl (ex_move rfl) ?_
                  refine ow_val rfl rfl (ex_move rfl) ?_
                  refine ow_val rfl rfl (ex_move rfl) ?_
                  refine ow_val rfl rfl (ex_move rfl) ?_
                  refine ow_val rfl rfl (ex_move rfl) ?_
                  refine ow_cmd rfl rfl (ex_callf rfl (fun w h => callM (ih (a := a) (m := i) (b := mid) hl1.symm (by omega) h.im (h.own (p := (g, rowO ys1 tl 26)) List.mem_cons_self) (h.fresh (p := (g, rowO ys1 tl 26)) List.mem_cons_self) hrow1 (by omega) (by omega) (by omega) (by omega) (by omega) hsa hsb))) (fun v205 us ys hR hr2 => ?_)
                  obtain ⟨hR1, hR2⟩ := hR
                  refine ow_nil ?_
                  first
                    | exact qw_meet (subL_cons (lkv rfl (by first | rfl | simp)) (subL_cons (lkv rfl (by first | rfl | simp)) (subL_cons (lkv rfl (by first | rfl | simp)) (subL_cons (lkv rfl (by first | rfl | simp)) (subL_cons (lkv rfl (by first | rfl | simp)) (subL_cons (lkv rfl (by first | rfl | simp)) (subL_cons (lkv rfl (by first | rfl | simp)) (subL_nil _)))))))) (fun w' h => ⟨us, ys, ⟨hR1, hR2, hr2⟩, h⟩)
                    | exact qw_meet (subL_cons (lkv rfl (by first | rfl | simp)) (subL_cons (lkv rfl (by first | rfl | simp)) (subL_cons (lkv rfl (by first | rfl | simp)) (subL_cons (lkv rfl (by first | rfl | simp)) (subL_cons (lkv rfl (by first | rfl | simp)) (subL_cons (lkv rfl (by first | rfl | simp)) (subL_cons (lkv rfl (by first | rfl | simp)) (subL_nil _)))))))) (fun w' h => ⟨us1, ys1, ⟨InR.refl _ _ _, hsm (by simp at c199; omega), hrow1⟩, h⟩)
                ·
                  refine cw_skip ?_
                  first
                    | exact qw_meet (subL_cons (lkv rfl (by first | rfl | simp)) (subL_cons (lkv rfl (by first | rfl | simp)) (subL_cons (lkv rfl (by first | rfl | simp)) (subL_cons (lkv rfl (by first | rfl | simp)) (subL_cons (lkv rfl (by first | rfl | simp)) (subL_cons (lkv rfl (by first | rfl | simp)) (subL_cons (lkv rfl (by first | rfl | simp)) (subL_nil _)))))))) (fun w' h => ⟨us, ys, ⟨hR1, hR2, hr2⟩, h⟩)
                    | exact qw_meet (subL_cons (lkv rfl (by first | rfl | simp)) (subL_cons (lkv rfl (by first | rfl | simp)) (subL_cons (lkv rfl (by first | rfl | simp)) (subL_cons (lkv rfl (by first | rfl | simp)) (subL_cons (lkv rfl (by first | rfl | simp)) (subL_cons (lkv rfl (by first | rfl | simp)) (subL_cons (lkv rfl (by first | rfl | simp)) (subL_nil _)))))))) (fun w' h => ⟨us1, ys1, ⟨InR.refl _ _ _, hsm (by simp at c199; omega), hrow1⟩, h⟩)
            ·
              refine cw_ex fun us2 => cw_ex fun ys2 => cw_and fun hp2 => ?_
              obtain ⟨hin2, hso2, hrow2⟩ := hp2
              have hl2 : us2.length = ts.length := hin2.1.trans hl1
              have hsc : SortedR mid e us2 := fun j hj k1 k2 => by
                rw [hin2.get_ge (show mid ≤ j by omega) (by omega), hin2.get_ge (show mid ≤ j + 1 by omega) hj]; exact hsc1 j _ k1 k2
              have hsd : SortedR e b us2 := fun j hj k1 k2 => by
                rw [hin2.get_ge (show mid ≤ j by omega) (by omega), hin2.get_ge (show mid ≤ j + 1 by omega) hj]; exact hsd1 j _ k1 k2
              refine cw_cut1 213 (.bool (decide ((mid : Int) < (e : Int)) && decide ((e : Int) < (b : Int)))) ?_ ?_
              ·
                refine cw_region ?_
                refine ow_val rfl rfl (ex_move rfl) ?_
                refine ow_val rfl rfl (ex_move rfl) ?_
                refine ow_val rfl rfl (ex_lss rfl rfl) ?_
                refine ow_val rfl rfl (ex_move rfl) ?_
                refine ow_split (g := some (3, true)) rfl (fun s209 => ?_) (fun s209 => ?_)
                ·
                  refine ow_val rfl (gd_go rfl s209) (ex_move rfl) ?_
                  refine ow_val rfl (gd_go rfl s209) (ex_move rfl) ?_
                  refine ow_val rfl (gd_go rfl s209) (ex_lss rfl rfl) ?_
                  refine ow_val rfl rfl (ex_pickt rfl s209 rfl) ?_
                  refine ow_nil ?_
                  exact qw_meet (subL_meet 8 213 (lkv rfl (by first | rfl | (simp_all; done) | (simp_all <;> omega))) rfl rfl) (fun w h => h)
                ·
                  refine ow_skip rfl (gd_no rfl s209) ?_
                  refine ow_skip rfl (gd_no rfl s209) ?_
                  refine ow_skip rfl (gd_no rfl s209) ?_
                  refine ow_val rfl rfl (ex_pickf rfl s209 rfl) ?_
                  refine ow_nil ?_
                  exact qw_meet (subL_meet 8 213 (lkv rfl (by first | rfl | (simp_all; done) | (simp_all <;> omega))) rfl rfl) (fun w h => h)
              ·
                refine cw_cond rfl (fun c213 => ?_) (fun c213 => ?_)
                ·
                  have hq1 : mid < e ∧ e < b := by simpa using c213
                  refine cw_region ?_
                  refine ow_val rfl rfl (ex_move rfl) ?_
                  refine ow_val rfl rfl (ex_move rfl) ?_
                  refine ow_val rfl rfl (ex_move rfl) ?_
                  refine ow_val rfl rfl (ex_move rfl) ?_
                  refine ow_val rfl rfl (ex_move rfl) ?_
                  refine ow_cmd rfl rfl (ex_callf rfl (fun w h => callM (ih (a := mid) (m := e) (b := b) hl2.symm (by omega) h.im (h.own (p := (g, rowO ys2 tl 26)) List.mem_cons_self) (h.fresh (p := (g, rowO ys2 tl 26)) List.mem_cons_self) hrow2 (by omega) (by omega) (by omega) (by omega) (by omega) hsc hsd))) (fun v219 us ys hR hr2 => ?_)
                  obtain ⟨hR1, hR2⟩ := hR
                  refine ow_nil ?_
                  refine qw_end0 rfl (fun w' h => h.givesM hr2 ⟨((hR1.wide (by omega) (Nat.le_refl _)).trans (hin2.wide (Nat.le_refl _) (by omega))).trans hin1, cross_fin rx hin2 hso2 hR1 hR2 (by omega) (by omega)⟩)
                ·
                  refine cw_skip ?_
                  refine qw_end0 rfl (fun w' h => h.givesM hrow2 ⟨(hin2.wide (Nat.le_refl _) (by omega)).trans hin1, cross_fin rx hin2 hso2 (InR.refl _ _ _) ?_ (by omega) (by omega)⟩)
                  have hq2 : e = mid ∨ e = b := by simp at c213; omega
                  rcases hq2 with h | h
                  · rw [← h]; exact hsd
                  · rw [← h]; exact hsc

theorem pMerge : ∀ n, MergeAt Try.prog 50 17 26 n := by
  intro n
  induction n with
  | zero => intro _ _ _ _ _ _ _ _ _ _ _ _ h; omega
  | succ n ih =>
    intro g c k ts xs tl a m b σ w hk hn hi hg hd hr hm hc ham hmb hb hs1 hs2
    subst hk
    by_cases h1 : m = a + 1
    · exact pMerge1 hi hg hd hr hm hc ham hmb hb hs1 hs2 h1
    · by_cases h2 : b = m + 1
      · exact pMerge2 hi hg hd hr hm hc ham hmb hb hs1 hs2 (by omega) h2
      · exact pMerge3 ih hi hg hd hr hm hc ham hmb hb hs1 hs2 hn (by omega) (by omega)

end Go.Proofs.Ytnjomdjkbbhdoaa
