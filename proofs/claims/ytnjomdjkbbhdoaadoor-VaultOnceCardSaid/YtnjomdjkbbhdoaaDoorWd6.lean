/-
  Walks of the laws: a term has one number.
  No condition.
-/
import Derived.Test.YtnjomdjkbbhdoaaDoorWd4
namespace Go.Proofs.YtnjomdjkbbhdoaaDoor
open Go.RowKit
set_option linter.unusedVariables false
set_option linter.unusedSimpArgs false
set_option maxRecDepth 100000

set_option maxHeartbeats 400000 in
theorem lawOnce (ls : List T) {v : Value} {σ : Hp} {w : World} (hi : Imm σ w) (htab : TabC Tryd.prog σ) (hl : KidsV σ v ls) : Calls Tryd.prog 5 #[v] w fun e w' => e = .returned (.bool true) ∧ Below w.heap.size w w' := by
  obtain ⟨p, c, rfl, hc, hm⟩ := hl.slice
  have hm2 := hm
  unfold maxKids at hm2
  refine enter (St w (fun _ => False) σ [] []) Tryd.func5 rfl Tryd.ntmps5 rfl (St.start hi) ?_
  refine cw_seq ?_
  refine cw_region ?_
  refine ow_val rfl rfl (ex_assign rfl) ?_
  refine ow_nil ?_
  refine qw_seq ?_
  refine cw_seq ?_
  refine cw_region ?_
  refine ow_cv rfl rfl (ex_callf rfl (fun w h => callB ((pHead6 h.im htab)))) ?_
  refine ow_val rfl rfl (ex_assign rfl) ?_
  refine ow_nil ?_
  refine qw_seq ?_
  refine cw_seq ?_
  refine cw_region ?_
  refine ow_ck0E rfl rfl (ex_callf rfl (fun w h => pNew h.im)) (fun v15 σ4 K4 hl4 hf4 hr4 => ?_)
  obtain ⟨b, rfl, hv4⟩ := hr4
  refine ow_val rfl rfl (ex_assign rfl) ?_
  refine ow_nil ?_
  refine qw_seq ?_
  refine cw_seq ?_
  refine cw_seq ?_
  refine cw_region ?_
  refine ow_val rfl rfl (ex_move rfl) ?_
  refine ow_val rfl rfl (ex_not rfl) ?_
  refine ow_val rfl rfl (ex_move rfl) ?_
  refine ow_split (g := some (2, false)) rfl (fun s20 => ?_) (fun s20 => ?_)
  ·
    cases s20
  ·
    refine ow_val rfl (gd_go rfl s20) (ex_move rfl) ?_
    refine ow_val rfl (gd_go rfl s20) (ex_ptrnil rfl) ?_
    refine ow_val rfl rfl (ex_pickf rfl s20 rfl) ?_
    refine ow_val rfl rfl (ex_move rfl) ?_
    refine ow_split (g := some (6, false)) rfl (fun s24 => ?_) (fun s24 => ?_)
    ·
      simp at s24
    ·
      refine ow_val rfl (gd_go rfl s24) (ex_move rfl) ?_
      refine ow_val rfl (gd_go rfl s24) (ex_len (ty := 0) rfl) ?_
      refine ow_val rfl (gd_go rfl s24) (ex_gtr rfl rfl) ?_
      refine ow_val rfl rfl (ex_pickf rfl s24 rfl) ?_
      refine ow_nil ?_
      refine qw_seq ?_
      refine cw_cond rfl (fun c28 => ?_) (fun c28 => ?_)
      ·
        refine cw_seq ?_
        refine cw_region ?_
        refine ow_val rfl rfl (ex_move rfl) ?_
        refine ow_val rfl rfl (ex_move rfl) ?_
        refine ow_split (g := some (1, true)) rfl (fun s30 => ?_) (fun s30 => ?_)
        ·
          refine ow_val rfl (gd_go rfl s30) (ex_move rfl) ?_
          refine ow_val rfl (gd_go rfl s30) (ex_ptrnnil rfl) ?_
          refine ow_val rfl rfl (ex_pickt rfl s30 rfl) ?_
          refine ow_val rfl rfl (ex_assign rfl) ?_
          refine ow_nil ?_
          refine qw_seq ?_
          refine cw_ret ?_
          refine qw_then_ret ?_
          refine qw_ret1 rfl rfl (fun w' h => ⟨congrArg (fun z => Ending.returned (.bool z)) ?_, h.ag.below⟩)
          rfl
        ·
          cases s30
      ·
        have h100 : ls.length ≤ 100 := by have := of_decide_eq_false c28; omega
        refine cw_skip ?_
        refine qw_seq ?_
        refine cw_seq ?_
        refine cw_region ?_
        refine ow_val rfl rfl (ex_assign rfl) ?_
        refine ow_nil ?_
        refine qw_seq ?_
        refine cw_seq ?_
        refine cw_seq ?_
        refine cw_region ?_
        refine ow_val rfl rfl (ex_assign rfl) ?_
        refine ow_nil ?_
        refine qw_seq ?_
        refine cw_block ?_
        refine cw_loop7 (fun (nums : List Int) (v5 : Value) (Gs : List (Nat × Obj)) (ts : List T) (τ : Hp) (K' : List (Nat × Obj)) (_ : Unit) => [(0, .slice p ls.length c), (3, .bool true), (4, .pointer (some ⟨b, 0, none⟩)), (5, v5), (6, .int .i64 (nums.length : Int))]) (fun nums v5 Gs ts τ K' _ => nums.length ≤ ls.length ∧ OwnSl 3 1 v5 nums.length (intsV nums) Gs ∧ NumsOK ls ts nums ∧ Le σ τ ∧ Fresh σ τ w ∧ VaultK 68 30 b ts τ K') (fun nums v5 Gs ts τ K' _ => τ) (fun nums v5 Gs ts τ K' _ => K' ++ Gs) (fun nums _ _ _ _ _ _ => ls.length - nums.length) [] (.slice none 0 0) [] [] σ4 K4 () (subL_cons (lkv rfl (by first | rfl | simp)) (subL_cons (lkv rfl (by first | rfl | simp)) (subL_cons (lkv rfl (by first | rfl | simp)) (subL_cons (lkv rfl (by first | rfl | simp)) (subL_cons (lkv rfl (by first | rfl | simp)) (subL_nil _)))))) ⟨Nat.zero_le _, OwnSl.nil _ _, NumsOK.nil _ _, hl4, hf4, hv4⟩ (fun w h => by simpa using h) ?_
        intro nums v5 Gs ts τj Kj _ ⟨hlej, hO, hok, hlj, hfj, hvj⟩
        refine cw_seq ?_
        refine cw_seq ?_
        refine cw_region ?_
        refine ow_val rfl rfl (ex_move rfl) ?_
        refine ow_val rfl rfl (ex_move rfl) ?_
        refine ow_val rfl rfl (ex_len (ty := 0) rfl) ?_
        refine ow_val rfl rfl (ex_lss rfl rfl) ?_
        refine ow_nil ?_
        refine qw_seq ?_
        refine cw_cond rfl (fun c37 => ?_) (fun c37 => ?_)
        ·
          refine cw_skip ?_
          refine qw_seq ?_
          refine cw_seq ?_
          refine cw_block ?_
          refine cw_seq ?_
          refine cw_seq ?_
          have hlt1 : nums.length < ls.length := by have := of_decide_eq_true c37; omega
          obtain ⟨bk1, f1, c1', cs1, e11, e21, hc1, ht1⟩ := hl.get nums.length hlt1
          cases e11
          refine cw_region ?_
          refine ow_val rfl rfl (ex_move rfl) ?_
          refine ow_val rfl rfl (ex_move rfl) ?_
          refine ow_val rfl rfl (ex_index_nat rfl rfl (by omega)) ?_
          refine ow_val rfl rfl (ex_loadR rfl (ld_immT (hc1.le hlj) (ht1.le hlj))) ?_
          refine ow_cv rfl rfl (ex_callf rfl (fun w h => callB ((rParts _ h.im (ht1.le hlj) (by omega) (by omega))))) ?_
          refine ow_val rfl rfl (ex_gtr rfl rfl) ?_
          refine ow_nil ?_
          refine qw_seq ?_
          refine cw_cond rfl (fun c45 => ?_) (fun c45 => ?_)
          ·
            refine cw_seq ?_
            refine cw_region ?_
            refine ow_val rfl rfl (ex_assign rfl) ?_
            refine ow_nil ?_
            refine qw_seq ?_
            refine cw_ret ?_
            refine qw_then_ret ?_
            refine qw_block_ret ?_
            refine qw_then_ret ?_
            refine qw_then_ret ?_
            refine qw_block_ret ?_
            refine qw_then_ret ?_
            refine qw_ret1 rfl rfl (fun w' h => ⟨congrArg (fun z => Ending.returned (.bool z)) ?_, h.ag.below⟩)
            rfl
          ·
            refine cw_skip ?_
            refine qw_seq ?_
            refine cw_seq ?_
            refine cw_region ?_
            refine ow_val rfl rfl (ex_move rfl) ?_
            refine ow_val rfl rfl (ex_move rfl) ?_
            refine ow_val rfl rfl (ex_move rfl) ?_
            refine ow_val rfl rfl (ex_index_nat rfl rfl (by omega)) ?_
            refine ow_val rfl rfl (ex_loadR rfl (ld_immT (hc1.le hlj) (ht1.le hlj))) ?_
            refine ow_ck rfl rfl (ex_callf rfl (fun w h => pIntern _ h.has (htab.le hlj) hvj (ht1.le hlj))) (fun v52 τ2 K2 hl2 hf2 hr2 => ?_)
            obtain ⟨rfl, hv2⟩ := hr2
            refine ow_val rfl rfl (ex_move rfl) ?_
            refine ow_val rfl rfl (ex_extract rfl rfl) ?_
            refine ow_val rfl rfl (ex_extract rfl rfl) ?_
            refine ow_val rfl rfl (ex_assign rfl) ?_
            refine ow_val rfl rfl (ex_assign rfl) ?_
            refine ow_nil ?_
            refine qw_seq ?_
            refine cw_cut1 7 (.int .i64 (numI ts ls[nums.length])) ?_ ?_
            ·
              refine cw_seq ?_
              refine cw_region ?_
              refine ow_val rfl rfl (ex_move rfl) ?_
              refine ow_val rfl rfl (ex_neq rfl rfl) ?_
              refine ow_nil ?_
              refine qw_seq ?_
              refine cw_cond rfl (fun c56 => ?_) (fun c56 => ?_)
              ·
                refine cw_region ?_
                refine ow_val rfl rfl (ex_assign rfl) ?_
                refine ow_nil ?_
                exact qw_meet (subL_meet 3 7 (lkv rfl (by unfold numI; first | (rw [if_pos (by have := of_decide_eq_false c56; omega)]) | (rw [if_neg (by have := of_decide_eq_true c56; omega)]))) rfl rfl) (fun w h => h)
              ·
                refine cw_skip ?_
                exact qw_meet (subL_meet 2 7 (lkv rfl (by unfold numI; first | (rw [if_pos (by have := of_decide_eq_false c56; omega)]) | (rw [if_neg (by have := of_decide_eq_true c56; omega)]))) rfl rfl) (fun w h => h)
            ·
              refine cw_region ?_
              refine ow_val rfl rfl (ex_move rfl) ?_
              refine ow_val rfl rfl (ex_move rfl) ?_
              refine ow_slit rfl rfl (exw_slit1 rfl rfl) ?_; intro b59
              refine ow_mono (fun w h => h.permG List.perm_append_comm) ?_
              refine ow_app rfl rfl (exw_append (news := [.int .i64 (numI ts ls[nums.length])]) rfl rfl hO rfl (.inr ⟨_, _, rfl, (ld_ownN (k := 1) 0 rfl rfl).2⟩) (fun u hu => by simp at hu; subst hu; rfl) (by unfold maxLen; omega) (by omega)) (fun v60 G60 hO60 hz60 => ?_)
              refine ow_mono (fun w h => h.permG List.perm_append_comm) ?_
              refine ow_val rfl rfl (ex_assign rfl) ?_
              refine ow_nil ?_
              refine qw_block_normal ?_
              refine qw_seq ?_
              refine cw_region ?_
              refine ow_val rfl rfl (ex_move rfl) ?_
              refine ow_val rfl rfl (ex_addi (z := ((nums.length + 1 : Nat) : Int)) rfl rfl (by omega) (by omega) (by omega)) ?_
              refine ow_val rfl rfl (ex_assign rfl) ?_
              refine ow_nil ?_
              refine qw_round7 (nums ++ [numI ts ls[nums.length]]) v60 G60 (intern ts ls[nums.length]).2.2 τ2 K2 () (by simp; omega) (subL_cons (lkv rfl (by first | rfl | simp)) (subL_cons (lkv rfl (by first | rfl | simp)) (subL_cons (lkv rfl (by first | rfl | simp)) (subL_cons (lkv rfl (by first | rfl | simp)) (subL_cons (lkv rfl (by first | rfl | simp)) (subL_nil _)))))) ⟨by simp; omega, ?_, hok.step hlt1, hlj.trans hl2, hfj.trans hf2, hv2⟩ (fun w h => h.drop (List.sublist_cons_self _ _))
              rw [intsV_app, List.length_append]
              exact hO60
        ·
          have he : nums.length = ls.length := by have := of_decide_eq_false c37; omega
          refine cw_exit ?_
          refine qw_then_exit ?_
          refine qw_then_exit ?_
          refine qw_block_exit ?_
          refine qw_seq ?_
          refine cw_seq ?_
          refine cw_seq ?_
          refine cw_mono (fun w h => h.permG List.perm_append_comm) ?_
          refine cw_frzR (fun _ h => h) hO (fun σ5 pn cn hl5 hf5 e5 hcn0 hsrc => ?_)
          subst e5
          have hln0 := hlj.trans hl5
          have hvn0 := hvj.le hl5
          refine cw_region ?_
          refine ow_val rfl rfl (ex_assign rfl) ?_
          refine ow_nil ?_
          refine qw_seq ?_
          refine cw_block ?_
          refine cw_loop3 (fun (i : Nat) (τ : Hp) (_ : Unit) => [(0, .slice p ls.length c), (3, .bool true), (4, .pointer (some ⟨b, 0, none⟩)), (5, .slice pn nums.length cn), (9, .int .i64 (i : Int))]) (fun i τ _ => i ≤ ls.length ∧ Le σ5 τ ∧ Fresh σ5 τ w) (fun i τ _ => τ) (fun i τ _ => Kj) (fun i _ _ => ls.length - i) 0 σ5 () (subL_cons (lkv rfl (by first | rfl | simp)) (subL_cons (lkv rfl (by first | rfl | simp)) (subL_cons (lkv rfl (by first | rfl | simp)) (subL_cons (lkv rfl (by first | rfl | simp)) (subL_cons (lkv rfl (by first | rfl | simp)) (subL_nil _)))))) ⟨Nat.zero_le _, Le.refl _, Fresh.refl _ _⟩ (fun w h => h) ?_
          intro i τn _ ⟨hlei, hl6, hf6⟩
          have hln := hln0.trans hl6
          have hvn := hvn0.le hl6
          have hsrc : nums.length = 0 ∨ ∃ b, pn = some ⟨b, 0, none⟩ ∧ CellsAt τn b 0 (intsV nums) := by
            rcases hsrc with h0 | ⟨bq, eq, hq⟩
            · exact .inl h0
            · exact .inr ⟨bq, eq, hq.le hl6⟩
          refine cw_seq ?_
          refine cw_seq ?_
          refine cw_region ?_
          refine ow_val rfl rfl (ex_move rfl) ?_
          refine ow_val rfl rfl (ex_move rfl) ?_
          refine ow_val rfl rfl (ex_len (ty := 0) rfl) ?_
          refine ow_val rfl rfl (ex_lss rfl rfl) ?_
          refine ow_nil ?_
          refine qw_seq ?_
          refine cw_cond rfl (fun c64 => ?_) (fun c64 => ?_)
          ·
            refine cw_skip ?_
            refine qw_seq ?_
            refine cw_seq ?_
            refine cw_block ?_
            refine cw_seq ?_
            refine cw_seq ?_
            have hlt2 : i < ls.length := by have := of_decide_eq_true c64; omega
            obtain ⟨bk2, f2, c2', cs2, e12, e22, hc2, ht2⟩ := hl.get i hlt2
            cases e12
            have hin : i < nums.length := by omega
            obtain ⟨bn, rfl, hcn⟩ := hsrc.resolve_left (by omega)
            refine cw_region ?_
            refine ow_val rfl rfl (ex_move rfl) ?_
            refine ow_val rfl rfl (ex_move rfl) ?_
            refine ow_val rfl rfl (ex_index_nat rfl rfl (by omega)) ?_
            refine ow_val rfl rfl (ex_load1 rfl (ld_imm1 (hcn.int hin))) ?_
            refine ow_val rfl rfl (ex_lss rfl rfl) ?_
            refine ow_nil ?_
            refine qw_seq ?_
            refine cw_cond rfl (fun c71 => ?_) (fun c71 => ?_)
            ·
              refine cw_exit ?_
              refine qw_then_exit ?_
              refine qw_block_exit ?_
              refine qw_seq ?_
              refine cw_region ?_
              refine ow_val rfl rfl (ex_move rfl) ?_
              refine ow_val rfl rfl (ex_addi (z := ((i + 1 : Nat) : Int)) rfl rfl (by omega) (by omega) (by omega)) ?_
              refine ow_val rfl rfl (ex_assign rfl) ?_
              refine ow_nil ?_
              exact qw_round3 (i + 1) τn () (by omega) (subL_cons (lkv rfl (by first | rfl | simp)) (subL_cons (lkv rfl (by first | rfl | simp)) (subL_cons (lkv rfl (by first | rfl | simp)) (subL_cons (lkv rfl (by first | rfl | simp)) (subL_cons (lkv rfl (by first | rfl | simp)) (subL_nil _)))))) ⟨by omega, hl6, hf6⟩ (fun w h => h)
            ·
              have hge : 0 ≤ nums[i] := by have := of_decide_eq_false c71; omega
              obtain ⟨hpos, hnum⟩ := (hok i hin hlt2).resolve_left (by omega)
              refine cw_skip ?_
              refine qw_seq ?_
              refine cw_seq ?_
              refine cw_region ?_
              refine ow_val rfl rfl (ex_move rfl) ?_
              refine ow_val rfl rfl (ex_move rfl) ?_
              refine ow_val rfl rfl (ex_move rfl) ?_
              refine ow_val rfl rfl (ex_index_nat rfl rfl (by omega)) ?_
              refine ow_val rfl rfl (ex_load1 rfl (ld_imm1 (hcn.int hin))) ?_
              refine ow_cr rfl rfl (ex_callf rfl (fun w h => callR (pTerm h.hasE hvn))) (fun v78 τ3 hl3 hf3 hr3 => ?_)
              rw [hnum, termV_pos hpos] at hr3
              change RepTB ls[i] true _ _ at hr3
              obtain ⟨c78, rfl, ht78⟩ := hr3
              have ht78' := ht78
              obtain ⟨d78, k78, rfl, _, _, _, hk78⟩ := ht78'.opn
              obtain ⟨q78, cc78, rfl, _, hm78⟩ := hk78.slice
              unfold maxKids at hm78
              refine ow_val rfl rfl (ex_move rfl) ?_
              refine ow_val rfl rfl (ex_extract rfl rfl) ?_
              refine ow_val rfl rfl (ex_extract rfl rfl) ?_
              refine ow_blk rfl rfl exw_alloc ?_; intro b10
              refine ow_u rfl (exu_storeN 0 rfl rfl rfl rfl ht78.one rfl) ?_
              refine ow_val rfl rfl (ex_assign rfl) ?_
              refine ow_nil ?_
              refine qw_seq ?_
              refine cw_seq ?_
              refine cw_cut1 91 (.bool false) ?_ ?_
              ·
                refine flow_sound 11 (by kernel_rfl) ?_
                refine flow_val rfl (ex_move rfl) ?_
                refine flow_val rfl (ex_not rfl) ?_
                refine flow_val rfl (ex_move rfl) ?_
                refine flow_split rfl (fun s83 => ?_) (fun s83 => ?_)
                ·
                  refine flow_skip (gd_no rfl s83) ?_
                  refine flow_skip (gd_no rfl s83) ?_
                  refine flow_skip (gd_no rfl s83) ?_
                  refine flow_skip (gd_no rfl s83) ?_
                  refine flow_skip (gd_no rfl s83) ?_
                  refine flow_skip (gd_no rfl s83) ?_
                  refine flow_skip (gd_no rfl s83) ?_
                  refine flow_val rfl (ex_pickt rfl s83 rfl) ?_
                  refine flow_nil ?_
                  refine fin_is ?_
                  refine fin_is ?_
                  refine fin_is ?_
                  refine fin_is ?_
                  refine fin_is ?_
                  refine fin_is ?_
                  refine fin_is ?_
                  refine fin_is ?_
                  refine fin_is ?_
                  refine fin_is ?_
                  refine fin_is ?_
                  refine fin_nil ?_
                  refine ow_nil ?_
                  exact qw_meet (subL_meet 11 91 (lkv rfl (by first | rfl | (exfalso; simp [ord_self] at *; done) | (congr 1; simp [ord_self]; done))) rfl rfl) (fun w h => h)
                ·
                  refine flow_val (gd_go rfl s83) (ex_loadR rfl (by first | exact ld_ownN 0 rfl rfl | exact ld_ownN 1 rfl rfl | exact ld_ownN 2 rfl rfl | exact ld_ownN 3 rfl rfl | exact ld_ownN 4 rfl rfl | exact ld_ownN 5 rfl rfl | exact ld_ownN 6 rfl rfl | exact ld_ownN 7 rfl rfl | exact ld_ownGN 0 rfl rfl | exact ld_ownGN 1 rfl rfl | exact ld_immT (by assumption) (by assumption))) ?_
                  refine flow_val (gd_go rfl s83) (ex_move rfl) ?_
                  refine flow_val (gd_go rfl s83) (ex_move rfl) ?_
                  refine flow_val (gd_go rfl s83) (ex_index_nat rfl rfl (by omega)) ?_
                  refine flow_val (gd_go rfl s83) (ex_loadR rfl (ld_immT (hc2.le (hln.trans hl3)) (ht2.le (hln.trans hl3)))) ?_
                  refine flow_cv (gd_go rfl s83) (ex_callf rfl (fun w h => callB ((rSame _ _ h.im ht78 (ht2.le (hln.trans hl3)))))) ?_
                  refine flow_val (gd_go rfl s83) (ex_not rfl) ?_
                  refine flow_val rfl (ex_pickf rfl s83 rfl) ?_
                  refine flow_nil ?_
                  refine fin_is ?_
                  refine fin_is ?_
                  refine fin_is ?_
                  refine fin_is ?_
                  refine fin_is ?_
                  refine fin_is ?_
                  refine fin_is ?_
                  refine fin_is ?_
                  refine fin_is ?_
                  refine fin_is ?_
                  refine fin_is ?_
                  refine fin_nil ?_
                  refine ow_nil ?_
                  exact qw_meet (subL_meet 11 91 (lkv rfl (by first | rfl | (exfalso; simp [ord_self] at *; done) | (congr 1; simp [ord_self]; done))) rfl rfl) (fun w h => h)
              ·
                refine cw_cond rfl (fun c91 => ?_) (fun c91 => ?_)
                ·
                  cases c91
                ·
                  refine cw_skip ?_
                  refine qw_seq ?_
                  refine cw_seq ?_
                  refine cw_seq ?_
                  refine cw_region ?_
                  refine ow_val rfl rfl (ex_assign rfl) ?_
                  refine ow_nil ?_
                  refine qw_seq ?_
                  refine cw_block ?_
                  refine cw_loopS (α := Nat) (fun j => [(0, .slice (some ⟨bk2, f2, none⟩) ls.length c), (3, .bool true), (4, .pointer (some ⟨b, 0, none⟩)), (5, .slice (some ⟨bn, 0, none⟩) nums.length cn), (9, .int .i64 (i : Int)), (10, .pointer (some ⟨b10, 0, none⟩)), (12, .int .i64 (j : Int))]) (fun j => j ≤ ls[i].kids.length) (fun j => ls[i].kids.length - j) 0 (subL_cons (lkv rfl (by first | rfl | simp)) (subL_cons (lkv rfl (by first | rfl | simp)) (subL_cons (lkv rfl (by first | rfl | simp)) (subL_cons (lkv rfl (by first | rfl | simp)) (subL_cons (lkv rfl (by first | rfl | simp)) (subL_cons (lkv rfl (by first | rfl | simp)) (subL_cons (lkv rfl (by first | rfl | simp)) (subL_nil _)))))))) (Nat.zero_le _) ?_
                  intro j hlej2
                  refine cw_seq ?_
                  refine cw_seq ?_
                  refine cw_region ?_
                  refine ow_val rfl rfl (ex_move rfl) ?_
                  refine ow_val rfl rfl (ex_field rfl) ?_
                  refine ow_val rfl rfl (ex_load1 rfl (by first | exact ld_own1 0 rfl rfl | exact ld_own1 1 rfl rfl | exact ld_own1 2 rfl rfl | exact ld_own1 3 rfl rfl | exact ld_own1 4 rfl rfl | exact ld_own1 5 rfl rfl | exact ld_own1 6 rfl rfl | exact ld_own1 7 rfl rfl | exact ld_ownG1 0 rfl rfl | exact ld_ownG1 1 rfl rfl | exact ld_imm1 (by assumption))) ?_
                  refine ow_val rfl rfl (ex_len (ty := 0) rfl) ?_
                  refine ow_val rfl rfl (ex_lss rfl rfl) ?_
                  refine ow_nil ?_
                  refine qw_seq ?_
                  refine cw_cond rfl (fun c96 => ?_) (fun c96 => ?_)
                  ·
                    have hltj : j < ls[i].kids.length := by have := of_decide_eq_true c96; omega
                    obtain ⟨bk3, f3, c3', cs3, e13, e23, hc3, ht3⟩ := hk78.get j hltj
                    cases e13
                    obtain ⟨hk0, hk1⟩ := hvn.nd.1.kid hpos (List.getElem_mem hltj)
                    refine cw_skip ?_
                    refine qw_seq ?_
                    refine cw_seq ?_
                    refine cw_block ?_
                    refine cw_seq ?_
                    refine cw_region ?_
                    refine ow_val rfl rfl (ex_move rfl) ?_
                    refine ow_val rfl rfl (ex_field rfl) ?_
                    refine ow_val rfl rfl (ex_load1 rfl (by first | exact ld_own1 0 rfl rfl | exact ld_own1 1 rfl rfl | exact ld_own1 2 rfl rfl | exact ld_own1 3 rfl rfl | exact ld_own1 4 rfl rfl | exact ld_own1 5 rfl rfl | exact ld_own1 6 rfl rfl | exact ld_own1 7 rfl rfl | exact ld_ownG1 0 rfl rfl | exact ld_ownG1 1 rfl rfl | exact ld_imm1 (by assumption))) ?_
                    refine ow_val rfl rfl (ex_move rfl) ?_
                    refine ow_val rfl rfl (ex_index_nat rfl rfl (by omega)) ?_
                    refine ow_val rfl rfl (ex_loadR rfl (ld_immT hc3 ht3)) ?_
                    refine ow_cv rfl rfl (ex_callf rfl (fun w h => callB ((pFindK _ h.hasE (htab.le (hln.trans hl3)) (hvn.le hl3) ht3 (right_lim (right_in (hvn.nd.1.rt _ (posT_iff.1 hpos)) (List.getElem_mem hltj))))))) ?_
                    refine ow_val rfl rfl (ex_move rfl) ?_
                    refine ow_val rfl rfl (ex_extract rfl rfl) ?_
                    refine ow_val rfl rfl (ex_extract rfl rfl) ?_
                    refine ow_val rfl rfl (ex_assign rfl) ?_
                    refine ow_val rfl rfl (ex_assign rfl) ?_
                    refine ow_nil ?_
                    refine qw_seq ?_
                    refine cw_seq ?_
                    refine cw_region ?_
                    refine ow_val rfl rfl (ex_move rfl) ?_
                    refine ow_val rfl rfl (ex_not rfl) ?_
                    refine ow_val rfl rfl (ex_move rfl) ?_
                    refine ow_split (g := some (2, false)) rfl (fun s111 => ?_) (fun s111 => ?_)
                    ·
                      simp [hk0] at s111
                    ·
                      refine ow_val rfl (gd_go rfl s111) (ex_move rfl) ?_
                      refine ow_val rfl (gd_go rfl s111) (ex_move rfl) ?_
                      refine ow_val rfl (gd_go rfl s111) (ex_move rfl) ?_
                      refine ow_val rfl (gd_go rfl s111) (ex_index_nat rfl rfl (by omega)) ?_
                      refine ow_val rfl (gd_go rfl s111) (ex_load1 rfl (ld_imm1 ((hcn.le hl3).int hin))) ?_
                      refine ow_val rfl (gd_go rfl s111) (ex_geq rfl rfl) ?_
                      refine ow_val rfl rfl (ex_pickf rfl s111 rfl) ?_
                      refine ow_val rfl rfl (ex_move rfl) ?_
                      refine ow_split (g := some (10, false)) rfl (fun s119 => ?_) (fun s119 => ?_)
                      ·
                        have := of_decide_eq_true s119; omega
                      ·
                        refine ow_val rfl (gd_go rfl s119) (ex_move rfl) ?_
                        refine ow_val rfl (gd_go rfl s119) (ex_lss rfl rfl) ?_
                        refine ow_val rfl rfl (ex_pickf rfl s119 rfl) ?_
                        refine ow_nil ?_
                        refine qw_seq ?_
                        refine cw_cond rfl (fun c122 => ?_) (fun c122 => ?_)
                        ·
                          have := of_decide_eq_true c122; omega
                        ·
                          refine cw_skip ?_
                          refine qw_block_normal ?_
                          refine qw_seq ?_
                          refine cw_region ?_
                          refine ow_val rfl rfl (ex_move rfl) ?_
                          refine ow_val rfl rfl (ex_addi (z := ((j + 1 : Nat) : Int)) rfl rfl (by omega) (by omega) (by omega)) ?_
                          refine ow_val rfl rfl (ex_assign rfl) ?_
                          refine ow_nil ?_
                          exact qw_roundS (j + 1) (by omega) (subL_cons (lkv rfl (by first | rfl | simp)) (subL_cons (lkv rfl (by first | rfl | simp)) (subL_cons (lkv rfl (by first | rfl | simp)) (subL_cons (lkv rfl (by first | rfl | simp)) (subL_cons (lkv rfl (by first | rfl | simp)) (subL_cons (lkv rfl (by first | rfl | simp)) (subL_cons (lkv rfl (by first | rfl | simp)) (subL_nil _)))))))) (by omega)
                  ·
                    refine cw_exit ?_
                    refine qw_then_exit ?_
                    refine qw_then_exit ?_
                    refine qw_block_exit ?_
                    refine qw_seq ?_
                    refine cw_seq ?_
                    refine cw_region ?_
                    refine ow_val rfl rfl (ex_assign rfl) ?_
                    refine ow_nil ?_
                    refine qw_seq ?_
                    refine cw_block ?_
                    refine cw_loopS (α := Nat) (fun k => [(0, .slice (some ⟨bk2, f2, none⟩) ls.length c), (3, .bool true), (4, .pointer (some ⟨b, 0, none⟩)), (5, .slice (some ⟨bn, 0, none⟩) nums.length cn), (9, .int .i64 (i : Int)), (15, .int .i64 (k : Int))]) (fun k => k ≤ i) (fun k => i - k) 0 (subL_cons (lkv rfl (by first | rfl | simp)) (subL_cons (lkv rfl (by first | rfl | simp)) (subL_cons (lkv rfl (by first | rfl | simp)) (subL_cons (lkv rfl (by first | rfl | simp)) (subL_cons (lkv rfl (by first | rfl | simp)) (subL_cons (lkv rfl (by first | rfl | simp)) (subL_nil _))))))) (Nat.zero_le _) ?_
                    intro k hlek
                    refine cw_seq ?_
                    refine cw_seq ?_
                    refine cw_region ?_
                    refine ow_val rfl rfl (ex_move rfl) ?_
                    refine ow_val rfl rfl (ex_move rfl) ?_
                    refine ow_val rfl rfl (ex_lss rfl rfl) ?_
                    refine ow_nil ?_
                    refine qw_seq ?_
                    refine cw_cond rfl (fun c125 => ?_) (fun c125 => ?_)
                    ·
                      have hki : k < i := by have := of_decide_eq_true c125; omega
                      have hkn : k < nums.length := by omega
                      have hlt4 : k < ls.length := by omega
                      obtain ⟨bk4, f4, c4', cs4, e14, e24, hc4, ht4⟩ := hl.get k hlt4
                      cases e14
                      refine cw_skip ?_
                      refine qw_seq ?_
                      refine cw_seq ?_
                      refine cw_block ?_
                      refine cw_seq ?_
                      refine flow_sound 26 (by kernel_rfl) ?_
                      refine flow_val rfl (ex_move rfl) ?_
                      refine flow_val rfl (ex_move rfl) ?_
                      refine flow_val rfl (ex_index_nat rfl rfl (by omega)) ?_
                      refine flow_val rfl (ex_load1 rfl (ld_imm1 ((hcn.le hl3).int hkn))) ?_
                      refine flow_val rfl (ex_geq rfl rfl) ?_
                      refine flow_val rfl (ex_move rfl) ?_
                      refine flow_split rfl (fun s133 => ?_) (fun s133 => ?_)
                      ·
                        have hgk : 0 ≤ nums[k] := of_decide_eq_true s133
                        obtain ⟨hposk, hnumk⟩ := (hok k hkn hlt4).resolve_left (by omega)
                        have hqq := posT_eq hposk hpos
                        rw [← hnumk, ← hnum] at hqq
                        refine flow_val (gd_go rfl s133) (ex_move rfl) ?_
                        refine flow_val (gd_go rfl s133) (ex_move rfl) ?_
                        refine flow_val (gd_go rfl s133) (ex_index_nat rfl rfl (by omega)) ?_
                        refine flow_val (gd_go rfl s133) (ex_load1 rfl (ld_imm1 ((hcn.le hl3).int hkn))) ?_
                        refine flow_val (gd_go rfl s133) (ex_move rfl) ?_
                        refine flow_val (gd_go rfl s133) (ex_move rfl) ?_
                        refine flow_val (gd_go rfl s133) (ex_index_nat rfl rfl (by omega)) ?_
                        refine flow_val (gd_go rfl s133) (ex_load1 rfl (ld_imm1 ((hcn.le hl3).int hin))) ?_
                        refine flow_val (gd_go rfl s133) (ex_eql rfl rfl) ?_
                        refine flow_val (gd_go rfl s133) (ex_move rfl) ?_
                        refine flow_val (gd_go rfl s133) (ex_move rfl) ?_
                        refine flow_val (gd_go rfl s133) (ex_index_nat rfl rfl (by omega)) ?_
                        refine flow_val (gd_go rfl s133) (ex_loadR rfl (ld_immT (hc4.le (hln.trans hl3)) (ht4.le (hln.trans hl3)))) ?_
                        refine flow_val (gd_go rfl s133) (ex_move rfl) ?_
                        refine flow_val (gd_go rfl s133) (ex_move rfl) ?_
                        refine flow_val (gd_go rfl s133) (ex_index_nat rfl rfl (by omega)) ?_
                        refine flow_val (gd_go rfl s133) (ex_loadR rfl (ld_immT (hc2.le (hln.trans hl3)) (ht2.le (hln.trans hl3)))) ?_
                        refine flow_cv (gd_go rfl s133) (ex_callf rfl (fun w h => callB ((rSame _ _ h.im (ht4.le (hln.trans hl3)) (ht2.le (hln.trans hl3)))))) ?_
                        refine flow_val (gd_go rfl s133) (ex_neqb rfl rfl) ?_
                        refine flow_val rfl (ex_pickt rfl s133 rfl) ?_
                        refine flow_nil ?_
                        refine fin_is ?_
                        refine fin_is ?_
                        refine fin_is ?_
                        refine fin_is ?_
                        refine fin_is ?_
                        refine fin_is ?_
                        refine fin_is ?_
                        refine fin_is ?_
                        refine fin_is ?_
                        refine fin_is ?_
                        refine fin_is ?_
                        refine fin_is ?_
                        refine fin_is ?_
                        refine fin_is ?_
                        refine fin_is ?_
                        refine fin_is ?_
                        refine fin_is ?_
                        refine fin_is ?_
                        refine fin_is ?_
                        refine fin_is ?_
                        refine fin_is ?_
                        refine fin_is ?_
                        refine fin_is ?_
                        refine fin_is ?_
                        refine fin_is ?_
                        refine fin_is ?_
                        refine fin_nil ?_
                        refine ow_nil ?_
                        refine qw_seq ?_
                        refine cw_cond rfl (fun c153 => ?_) (fun c153 => ?_)
                        ·
                          simp [hqq] at c153
                        ·
                          refine cw_skip ?_
                          refine qw_block_normal ?_
                          refine qw_seq ?_
                          refine cw_region ?_
                          refine ow_val rfl rfl (ex_move rfl) ?_
                          refine ow_val rfl rfl (ex_addi (z := ((k + 1 : Nat) : Int)) rfl rfl (by omega) (by omega) (by omega)) ?_
                          refine ow_val rfl rfl (ex_assign rfl) ?_
                          refine ow_nil ?_
                          exact qw_roundS (k + 1) (by omega) (subL_cons (lkv rfl (by first | rfl | simp)) (subL_cons (lkv rfl (by first | rfl | simp)) (subL_cons (lkv rfl (by first | rfl | simp)) (subL_cons (lkv rfl (by first | rfl | simp)) (subL_cons (lkv rfl (by first | rfl | simp)) (subL_cons (lkv rfl (by first | rfl | simp)) (subL_nil _))))))) (by omega)
                      ·
                        refine flow_skip (gd_no rfl s133) ?_
                        refine flow_skip (gd_no rfl s133) ?_
                        refine flow_skip (gd_no rfl s133) ?_
                        refine flow_skip (gd_no rfl s133) ?_
                        refine flow_skip (gd_no rfl s133) ?_
                        refine flow_skip (gd_no rfl s133) ?_
                        refine flow_skip (gd_no rfl s133) ?_
                        refine flow_skip (gd_no rfl s133) ?_
                        refine flow_skip (gd_no rfl s133) ?_
                        refine flow_skip (gd_no rfl s133) ?_
                        refine flow_skip (gd_no rfl s133) ?_
                        refine flow_skip (gd_no rfl s133) ?_
                        refine flow_skip (gd_no rfl s133) ?_
                        refine flow_skip (gd_no rfl s133) ?_
                        refine flow_skip (gd_no rfl s133) ?_
                        refine flow_skip (gd_no rfl s133) ?_
                        refine flow_skip (gd_no rfl s133) ?_
                        refine flow_skip (gd_no rfl s133) ?_
                        refine flow_skip (gd_no rfl s133) ?_
                        refine flow_val rfl (ex_pickf rfl s133 rfl) ?_
                        refine flow_nil ?_
                        refine fin_is ?_
                        refine fin_is ?_
                        refine fin_is ?_
                        refine fin_is ?_
                        refine fin_is ?_
                        refine fin_is ?_
                        refine fin_is ?_
                        refine fin_is ?_
                        refine fin_is ?_
                        refine fin_is ?_
                        refine fin_is ?_
                        refine fin_is ?_
                        refine fin_is ?_
                        refine fin_is ?_
                        refine fin_is ?_
                        refine fin_is ?_
                        refine fin_is ?_
                        refine fin_is ?_
                        refine fin_is ?_
                        refine fin_is ?_
                        refine fin_is ?_
                        refine fin_is ?_
                        refine fin_is ?_
                        refine fin_is ?_
                        refine fin_is ?_
                        refine fin_is ?_
                        refine fin_nil ?_
                        refine ow_nil ?_
                        refine qw_seq ?_
                        refine cw_cond_f rfl ?_
                        refine cw_skip ?_
                        refine qw_block_normal ?_
                        refine qw_seq ?_
                        refine cw_region ?_
                        refine ow_val rfl rfl (ex_move rfl) ?_
                        refine ow_val rfl rfl (ex_addi (z := ((k + 1 : Nat) : Int)) rfl rfl (by omega) (by omega) (by omega)) ?_
                        refine ow_val rfl rfl (ex_assign rfl) ?_
                        refine ow_nil ?_
                        exact qw_roundS (k + 1) (by omega) (subL_cons (lkv rfl (by first | rfl | simp)) (subL_cons (lkv rfl (by first | rfl | simp)) (subL_cons (lkv rfl (by first | rfl | simp)) (subL_cons (lkv rfl (by first | rfl | simp)) (subL_cons (lkv rfl (by first | rfl | simp)) (subL_cons (lkv rfl (by first | rfl | simp)) (subL_nil _))))))) (by omega)
                    ·
                      refine cw_exit ?_
                      refine qw_then_exit ?_
                      refine qw_then_exit ?_
                      refine qw_block_exit ?_
                      refine qw_block_normal ?_
                      refine qw_seq ?_
                      refine cw_region ?_
                      refine ow_val rfl rfl (ex_move rfl) ?_
                      refine ow_val rfl rfl (ex_addi (z := ((i + 1 : Nat) : Int)) rfl rfl (by omega) (by omega) (by omega)) ?_
                      refine ow_val rfl rfl (ex_assign rfl) ?_
                      refine ow_nil ?_
                      exact qw_round3 (i + 1) τ3 () (by omega) (subL_cons (lkv rfl (by first | rfl | simp)) (subL_cons (lkv rfl (by first | rfl | simp)) (subL_cons (lkv rfl (by first | rfl | simp)) (subL_cons (lkv rfl (by first | rfl | simp)) (subL_cons (lkv rfl (by first | rfl | simp)) (subL_nil _)))))) ⟨by omega, hl6.trans hl3, hf6.trans hf3⟩ (fun w h => h.drop (List.nil_sublist _))
          ·
            refine cw_exit ?_
            refine qw_then_exit ?_
            refine qw_then_exit ?_
            refine qw_block_exit ?_
            refine qw_seq ?_
            refine cw_seq ?_
            refine cw_region ?_
            refine ow_val rfl rfl (ex_assign rfl) ?_
            refine ow_nil ?_
            refine qw_seq ?_
            refine cw_ret ?_
            refine qw_ret1 rfl rfl (fun w' h => ⟨congrArg (fun z => Ending.returned (.bool z)) ?_, h.ag.below⟩)
            rfl
end Go.Proofs.YtnjomdjkbbhdoaaDoor
