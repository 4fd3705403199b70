/-
  Walks of the laws: a table grows.
  No condition.
-/
import Derived.Test.YtnjomdjkbbhdoaaDoorWd3
import Derived.Test.YtnjomdjkbbhdoaaDoorMC
namespace Go.Proofs.YtnjomdjkbbhdoaaDoor
open Go.RowKit
set_option linter.unusedVariables false
set_option linter.unusedSimpArgs false
set_option maxRecDepth 100000

theorem pLenK {b : Nat} {ts : List T} {σ : Hp} {K : List (Nat × Obj)} {w : World} (hi : Has σ K w) (hv : VaultK 68 30 b ts σ K) : Calls Tryd.prog 15 #[.pointer (some ⟨b, 0, none⟩)] w fun e w' => e = .returned (.int .i64 (ts.length : Int)) ∧ Below w.heap.size w w' :=
  let ⟨_, _, _, h⟩ := hv.seenX hi
  pLen hi.exts h


theorem pFindK (t : T) {b : Nat} {ts : List T} {ct : List Value} {σ : Hp} {K : List (Nat × Obj)} {w : World} (hi : Has σ K w) (htab : TabC Tryd.prog σ) (hv : VaultK 68 30 b ts σ K) (ht : TermC σ ct t) (hl : (keyB t).length ≤ 140737488355328) : Calls Tryd.prog 16 #[.pointer (some ⟨b, 0, none⟩), .agg ct.toArray] w fun e w' => e = .returned (.tuple #[.int .i64 (posT ts t), .bool (decide (0 ≤ posT ts t))]) ∧ Below w.heap.size w w' :=
  let ⟨_, _, _, h⟩ := hv.seenX hi
  pFind t hi.exts (htab.le hi.le) h (ht.le hi.le) hl


set_option maxHeartbeats 400000 in
theorem lawGrows (ls : List T) {v : Value} {σ : Hp} {w : World} (hi : Imm σ w) (htab : TabC Tryd.prog σ) (hl : KidsV σ v ls) (hk : ∀ t ∈ ls, (keyB t).length ≤ 140737488355328) : Calls Tryd.prog 3 #[v] w fun e w' => e = .returned (.bool true) ∧ Below w.heap.size w w' := by
  obtain ⟨p, c, rfl, hc, hm⟩ := hl.slice
  have hm2 := hm
  unfold maxKids at hm2
  refine enter (St w (fun _ => False) σ [] []) Tryd.func3 rfl Tryd.ntmps3 rfl (St.start hi) ?_
  refine cw_seq ?_
  refine cw_region ?_
  refine ow_val rfl rfl (ex_assign rfl) ?_
  refine ow_nil ?_
  refine qw_seq ?_
  refine cw_seq ?_
  refine cw_region ?_
  refine ow_cv rfl rfl (ex_callf rfl (fun w h => callB ((pHead6 h.im htab)))) ?_
  refine ow_val rfl rfl (ex_assign rfl) ?_
  refine ow_nil ?_
  refine qw_seq ?_
  refine cw_seq ?_
  refine cw_region ?_
  refine ow_ck0E rfl rfl (ex_callf rfl (fun w h => pNew h.im)) (fun v15 σ4 K4 hl4 hf4 hr4 => ?_)
  obtain ⟨b, rfl, hv4⟩ := hr4
  refine ow_val rfl rfl (ex_assign rfl) ?_
  refine ow_nil ?_
  refine qw_seq ?_
  refine cw_seq ?_
  refine cw_seq ?_
  refine cw_region ?_
  refine ow_val rfl rfl (ex_move rfl) ?_
  refine ow_val rfl rfl (ex_not rfl) ?_
  refine ow_val rfl rfl (ex_move rfl) ?_
  refine ow_split (g := some (2, false)) rfl (fun s18 => ?_) (fun s18 => ?_)
  ·
    cases s18
  ·
    refine ow_val rfl (gd_go rfl s18) (ex_move rfl) ?_
    refine ow_val rfl (gd_go rfl s18) (ex_ptrnil rfl) ?_
    refine ow_val rfl rfl (ex_pickf rfl s18 rfl) ?_
    refine ow_val rfl rfl (ex_move rfl) ?_
    refine ow_split (g := some (6, false)) rfl (fun s22 => ?_) (fun s22 => ?_)
    ·
      simp at s22
    ·
      refine ow_val rfl (gd_go rfl s22) (ex_move rfl) ?_
      refine ow_val rfl (gd_go rfl s22) (ex_len (ty := 0) rfl) ?_
      refine ow_val rfl (gd_go rfl s22) (ex_gtr rfl rfl) ?_
      refine ow_val rfl rfl (ex_pickf rfl s22 rfl) ?_
      refine ow_nil ?_
      refine qw_seq ?_
      refine cw_cond rfl (fun c26 => ?_) (fun c26 => ?_)
      ·
        refine cw_seq ?_
        refine cw_region ?_
        refine ow_val rfl rfl (ex_move rfl) ?_
        refine ow_val rfl rfl (ex_move rfl) ?_
        refine ow_split (g := some (1, true)) rfl (fun s28 => ?_) (fun s28 => ?_)
        ·
          refine ow_val rfl (gd_go rfl s28) (ex_move rfl) ?_
          refine ow_val rfl (gd_go rfl s28) (ex_ptrnnil rfl) ?_
          refine ow_val rfl rfl (ex_pickt rfl s28 rfl) ?_
          refine ow_val rfl rfl (ex_assign rfl) ?_
          refine ow_nil ?_
          refine qw_seq ?_
          refine cw_ret ?_
          refine qw_then_ret ?_
          refine qw_ret1 rfl rfl (fun w' h => ⟨congrArg (fun z => Ending.returned (.bool z)) ?_, h.ag.below⟩)
          rfl
        ·
          cases s28
      ·
        refine cw_skip ?_
        refine qw_seq ?_
        refine cw_seq ?_
        refine cw_seq ?_
        refine cw_region ?_
        refine ow_val rfl rfl (ex_assign rfl) ?_
        refine ow_nil ?_
        refine qw_seq ?_
        refine cw_block ?_
        refine cw_loop4 (fun (i : Nat) (ts : List T) (τ : Hp) (K' : List (Nat × Obj)) => [(0, .slice p ls.length c), (3, .bool true), (4, .pointer (some ⟨b, 0, none⟩)), (5, .int .i64 (i : Int))]) (fun i ts τ K' => i ≤ ls.length ∧ Le σ τ ∧ Fresh σ τ w ∧ VaultK 68 30 b ts τ K') (fun i ts τ K' => τ) (fun i ts τ K' => K') (fun i _ _ _ => ls.length - i) 0 [] σ4 K4 (subL_cons (lkv rfl (by first | rfl | simp)) (subL_cons (lkv rfl (by first | rfl | simp)) (subL_cons (lkv rfl (by first | rfl | simp)) (subL_cons (lkv rfl (by first | rfl | simp)) (subL_nil _))))) ⟨Nat.zero_le _, hl4, hf4, hv4⟩ (fun w h => h) ?_
        intro i ts τj Kj ⟨hlej, hlj, hfj, hvj⟩
        refine cw_seq ?_
        refine cw_seq ?_
        refine cw_region ?_
        refine ow_val rfl rfl (ex_move rfl) ?_
        refine ow_val rfl rfl (ex_move rfl) ?_
        refine ow_val rfl rfl (ex_len (ty := 0) rfl) ?_
        refine ow_val rfl rfl (ex_lss rfl rfl) ?_
        refine ow_nil ?_
        refine qw_seq ?_
        refine cw_cond rfl (fun c35 => ?_) (fun c35 => ?_)
        ·
          refine cw_skip ?_
          refine qw_seq ?_
          refine cw_seq ?_
          refine cw_block ?_
          refine cw_seq ?_
          refine cw_seq ?_
          have hlt : i < ls.length := by have := of_decide_eq_true c35; omega
          obtain ⟨bk, f, c', cs, e1, e2, hc1, ht1⟩ := hl.get i hlt
          cases e1
          refine cw_region ?_
          refine ow_val rfl rfl (ex_move rfl) ?_
          refine ow_val rfl rfl (ex_move rfl) ?_
          refine ow_val rfl rfl (ex_index_nat rfl rfl (by omega)) ?_
          refine ow_val rfl rfl (ex_loadR rfl (ld_immT (hc1.le hlj) (ht1.le hlj))) ?_
          refine ow_cv rfl rfl (ex_callf rfl (fun w h => callB ((rParts _ h.im (ht1.le hlj) (by omega) (by omega))))) ?_
          refine ow_val rfl rfl (ex_gtr rfl rfl) ?_
          refine ow_nil ?_
          refine qw_seq ?_
          refine cw_cond rfl (fun c43 => ?_) (fun c43 => ?_)
          ·
            refine cw_seq ?_
            refine cw_region ?_
            refine ow_val rfl rfl (ex_assign rfl) ?_
            refine ow_nil ?_
            refine qw_seq ?_
            refine cw_ret ?_
            refine qw_then_ret ?_
            refine qw_block_ret ?_
            refine qw_then_ret ?_
            refine qw_then_ret ?_
            refine qw_block_ret ?_
            refine qw_then_ret ?_
            refine qw_ret1 rfl rfl (fun w' h => ⟨congrArg (fun z => Ending.returned (.bool z)) ?_, h.ag.below⟩)
            rfl
          ·
            have hsz : size ls[i] ≤ 500 := by have := of_decide_eq_false c43; omega
            refine cw_skip ?_
            refine qw_seq ?_
            refine cw_seq ?_
            refine cw_region ?_
            refine ow_val rfl rfl (ex_move rfl) ?_
            refine ow_cv rfl rfl (ex_callf rfl (fun w h => callB ((pLenK h.hasE hvj)))) ?_
            refine ow_val rfl rfl (ex_assign rfl) ?_
            refine ow_nil ?_
            refine qw_seq ?_
            refine cw_seq ?_
            refine cw_region ?_
            refine ow_val rfl rfl (ex_move rfl) ?_
            refine ow_val rfl rfl (ex_move rfl) ?_
            refine ow_val rfl rfl (ex_move rfl) ?_
            refine ow_val rfl rfl (ex_index_nat rfl rfl (by omega)) ?_
            refine ow_val rfl rfl (ex_loadR rfl (ld_immT (hc1.le hlj) (ht1.le hlj))) ?_
            refine ow_cv rfl rfl (ex_callf rfl (fun w h => callB ((pFindK _ h.hasE (htab.le hlj) hvj (ht1.le hlj) (hk _ (List.getElem_mem hlt)))))) ?_
            refine ow_val rfl rfl (ex_move rfl) ?_
            refine ow_val rfl rfl (ex_extract rfl rfl) ?_
            refine ow_val rfl rfl (ex_extract rfl rfl) ?_
            refine ow_val rfl rfl (ex_assign rfl) ?_
            refine ow_val rfl rfl (ex_assign rfl) ?_
            refine ow_nil ?_
            refine qw_seq ?_
            refine cw_seq ?_
            refine cw_region ?_
            refine ow_val rfl rfl (ex_move rfl) ?_
            refine ow_val rfl rfl (ex_move rfl) ?_
            refine ow_val rfl rfl (ex_move rfl) ?_
            refine ow_val rfl rfl (ex_index_nat rfl rfl (by omega)) ?_
            refine ow_val rfl rfl (ex_loadR rfl (ld_immT (hc1.le hlj) (ht1.le hlj))) ?_
            refine ow_ckE rfl rfl (ex_callf rfl (fun w h => pIntern _ h.hasE (htab.le hlj) hvj (ht1.le hlj))) (fun v61 τ61 K61 hl61 hf61 hr61 => ?_)
            obtain ⟨rfl, hv61⟩ := hr61
            refine ow_val rfl rfl (ex_move rfl) ?_
            refine ow_val rfl rfl (ex_extract rfl rfl) ?_
            refine ow_val rfl rfl (ex_extract rfl rfl) ?_
            refine ow_val rfl rfl (ex_assign rfl) ?_
            refine ow_val rfl rfl (ex_assign rfl) ?_
            refine ow_nil ?_
            refine qw_seq ?_
            refine cw_seq ?_
            have hL1 := hvj.nd.2
            have hL2 := hv61.nd.2
            obtain ⟨F1, F2, F3, F4, F5⟩ := intern_facts (ts := ts) (t := ls[i])
            have hq1 : ¬ 4096 < ts.length := by omega
            refine cw_region ?_
            refine ow_val rfl rfl (ex_move rfl) ?_
            refine ow_cv rfl rfl (ex_callf rfl (fun w h => callB ((pLenK h.hasE hv61)))) ?_
            refine ow_val rfl rfl (ex_move rfl) ?_
            refine ow_val rfl rfl (ex_subi (z := (((intern ts ls[i]).2.2.length : Int) - (ts.length : Int))) rfl rfl (by omega) (by omega) (by omega)) ?_
            refine ow_val rfl rfl (ex_assign rfl) ?_
            refine ow_nil ?_
            refine qw_seq ?_
            refine cw_seq ?_
            refine cw_cut1 115 (.bool false) ?_ ?_
            ·
              refine cw_region ?_
              refine ow_val rfl rfl (ex_move rfl) ?_
              refine ow_val rfl rfl (ex_lss rfl rfl) ?_
              refine ow_val rfl rfl (ex_move rfl) ?_
              refine ow_split (g := some (2, false)) rfl (fun s70 => ?_) (fun s70 => ?_)
              ·
                have q := s70
                try simp at q
                refine ow_skip rfl (gd_no rfl s70) ?_
                refine ow_skip rfl (gd_no rfl s70) ?_
                refine ow_skip rfl (gd_no rfl s70) ?_
                refine ow_skip rfl (gd_no rfl s70) ?_
                refine ow_skip rfl (gd_no rfl s70) ?_
                refine ow_skip rfl (gd_no rfl s70) ?_
                refine ow_skip rfl (gd_no rfl s70) ?_
                refine ow_val rfl rfl (ex_pickt rfl s70 rfl) ?_
                refine ow_val rfl rfl (ex_move rfl) ?_
                refine ow_skip rfl rfl ?_
                refine ow_skip rfl rfl ?_
                refine ow_skip rfl rfl ?_
                refine ow_skip rfl rfl ?_
                refine ow_skip rfl rfl ?_
                refine ow_skip rfl rfl ?_
                refine ow_skip rfl rfl ?_
                refine ow_skip rfl rfl ?_
                refine ow_skip rfl rfl ?_
                refine ow_val rfl rfl (ex_pick_t rfl rfl) ?_
                refine ow_val rfl rfl (ex_move rfl) ?_
                refine ow_skip rfl rfl ?_
                refine ow_skip rfl rfl ?_
                refine ow_skip rfl rfl ?_
                refine ow_skip rfl rfl ?_
                refine ow_skip rfl rfl ?_
                refine ow_skip rfl rfl ?_
                refine ow_skip rfl rfl ?_
                refine ow_skip rfl rfl ?_
                refine ow_skip rfl rfl ?_
                refine ow_skip rfl rfl ?_
                refine ow_skip rfl rfl ?_
                refine ow_skip rfl rfl ?_
                refine ow_skip rfl rfl ?_
                refine ow_skip rfl rfl ?_
                refine ow_skip rfl rfl ?_
                refine ow_skip rfl rfl ?_
                refine ow_skip rfl rfl ?_
                refine ow_val rfl rfl (ex_pick_t rfl rfl) ?_
                refine ow_val rfl rfl (ex_move rfl) ?_
                refine ow_skip rfl rfl ?_
                refine ow_skip rfl rfl ?_
                refine ow_skip rfl rfl ?_
                refine ow_skip rfl rfl ?_
                refine ow_skip rfl rfl ?_
                refine ow_val rfl rfl (ex_pick_t rfl rfl) ?_
                refine ow_nil ?_
                exact qw_meet (subL_meet 48 115 (lkv rfl (by first | rfl | (exfalso; omega) | (congr 1; simp [F5]; done) | (congr 1; simp; omega))) rfl rfl) (fun w h => h)
              ·
                have q := s70
                try simp at q
                refine ow_val rfl (gd_go rfl s70) (ex_move rfl) ?_
                refine ow_val rfl (gd_go rfl s70) (ex_move rfl) ?_
                refine ow_val rfl (gd_go rfl s70) (ex_move rfl) ?_
                refine ow_val rfl (gd_go rfl s70) (ex_index_nat rfl rfl (by omega)) ?_
                refine ow_val rfl (gd_go rfl s70) (ex_loadR rfl (ld_immT (hc1.le (hlj.trans hl61)) (ht1.le (hlj.trans hl61)))) ?_
                refine ow_cv rfl (gd_go rfl s70) (ex_callf rfl (fun w h => callB ((rSize _ h.im (ht1.le (hlj.trans hl61)) (by unfold maxKids; omega))))) ?_
                refine ow_val rfl (gd_go rfl s70) (ex_gtr rfl rfl) ?_
                refine ow_val rfl rfl (ex_pickf rfl s70 rfl) ?_
                refine ow_val rfl rfl (ex_move rfl) ?_
                refine ow_split (g := some (11, false)) rfl (fun s79 => ?_) (fun s79 => ?_)
                ·
                  have q := s79
                  try simp at q
                  refine ow_skip rfl (gd_no rfl s79) ?_
                  refine ow_skip rfl (gd_no rfl s79) ?_
                  refine ow_skip rfl rfl ?_
                  refine ow_skip rfl rfl ?_
                  refine ow_skip rfl (gd_no rfl s79) ?_
                  refine ow_skip rfl (gd_no rfl s79) ?_
                  refine ow_skip rfl rfl ?_
                  refine ow_skip rfl rfl ?_
                  refine ow_skip rfl (gd_no rfl s79) ?_
                  refine ow_val rfl rfl (ex_pickt rfl s79 rfl) ?_
                  refine ow_val rfl rfl (ex_move rfl) ?_
                  refine ow_skip rfl rfl ?_
                  refine ow_skip rfl rfl ?_
                  refine ow_skip rfl rfl ?_
                  refine ow_skip rfl rfl ?_
                  refine ow_skip rfl rfl ?_
                  refine ow_skip rfl rfl ?_
                  refine ow_skip rfl rfl ?_
                  refine ow_skip rfl rfl ?_
                  refine ow_skip rfl rfl ?_
                  refine ow_skip rfl rfl ?_
                  refine ow_skip rfl rfl ?_
                  refine ow_skip rfl rfl ?_
                  refine ow_skip rfl rfl ?_
                  refine ow_skip rfl rfl ?_
                  refine ow_skip rfl rfl ?_
                  refine ow_skip rfl rfl ?_
                  refine ow_skip rfl rfl ?_
                  refine ow_val rfl rfl (ex_pick_t rfl rfl) ?_
                  refine ow_val rfl rfl (ex_move rfl) ?_
                  refine ow_skip rfl rfl ?_
                  refine ow_skip rfl rfl ?_
                  refine ow_skip rfl rfl ?_
                  refine ow_skip rfl rfl ?_
                  refine ow_skip rfl rfl ?_
                  refine ow_val rfl rfl (ex_pick_t rfl rfl) ?_
                  refine ow_nil ?_
                  exact qw_meet (subL_meet 48 115 (lkv rfl (by first | rfl | (exfalso; omega) | (congr 1; simp [F5]; done) | (congr 1; simp; omega))) rfl rfl) (fun w h => h)
                ·
                  have q := s79
                  try simp at q
                  refine ow_val rfl (gd_go rfl s79) (ex_move rfl) ?_
                  refine ow_val rfl (gd_go rfl s79) (ex_move rfl) ?_
                  refine ow_split (g := some (13, false)) rfl (fun s81 => ?_) (fun s81 => ?_)
                  ·
                    have q := s81
                    try simp at q
                    refine ow_skip rfl (gd_no rfl s81) ?_
                    refine ow_skip rfl (gd_no rfl s81) ?_
                    refine ow_val rfl (gd_go rfl s79) (ex_pickt rfl s81 rfl) ?_
                    refine ow_val rfl (gd_go rfl s79) (ex_move rfl) ?_
                    refine ow_val rfl rfl (ex_move rfl) ?_
                    refine ow_val rfl rfl (ex_neq rfl rfl) ?_
                    refine ow_val rfl (gd_go rfl s79) (ex_pick_t rfl rfl) ?_
                    refine ow_val rfl rfl (ex_pickf rfl s79 rfl) ?_
                    refine ow_val rfl rfl (ex_move rfl) ?_
                    refine ow_split (g := some (22, false)) rfl (fun s90 => ?_) (fun s90 => ?_)
                    ·
                      have q := s90
                      try simp at q
                      refine ow_skip rfl (gd_no rfl s90) ?_
                      refine ow_skip rfl (gd_no rfl s90) ?_
                      refine ow_skip rfl (gd_no rfl s90) ?_
                      refine ow_skip rfl rfl ?_
                      refine ow_skip rfl rfl ?_
                      refine ow_skip rfl (gd_no rfl s90) ?_
                      refine ow_skip rfl (gd_no rfl s90) ?_
                      refine ow_skip rfl rfl ?_
                      refine ow_skip rfl rfl ?_
                      refine ow_skip rfl rfl ?_
                      refine ow_skip rfl rfl ?_
                      refine ow_skip rfl rfl ?_
                      refine ow_skip rfl rfl ?_
                      refine ow_skip rfl rfl ?_
                      refine ow_skip rfl rfl ?_
                      refine ow_skip rfl rfl ?_
                      refine ow_skip rfl (gd_no rfl s90) ?_
                      refine ow_val rfl rfl (ex_pickt rfl s90 rfl) ?_
                      refine ow_val rfl rfl (ex_move rfl) ?_
                      refine ow_skip rfl rfl ?_
                      refine ow_skip rfl rfl ?_
                      refine ow_skip rfl rfl ?_
                      refine ow_skip rfl rfl ?_
                      refine ow_skip rfl rfl ?_
                      refine ow_val rfl rfl (ex_pick_t rfl rfl) ?_
                      refine ow_nil ?_
                      exact qw_meet (subL_meet 48 115 (lkv rfl (by first | rfl | (exfalso; omega) | (congr 1; simp [F5]; done) | (congr 1; simp; omega))) rfl rfl) (fun w h => h)
                    ·
                      have q := s90
                      try simp at q
                      refine ow_val rfl (gd_go rfl s90) (ex_move rfl) ?_
                      refine ow_val rfl (gd_go rfl s90) (ex_not rfl) ?_
                      refine ow_val rfl (gd_go rfl s90) (ex_move rfl) ?_
                      refine ow_split (g := some (25, true)) rfl (fun s93 => ?_) (fun s93 => ?_)
                      ·
                        have q := s93
                        try simp at q
                        refine ow_val rfl (gd_go rfl s93) (ex_move rfl) ?_
                        refine ow_val rfl (gd_go rfl s93) (ex_eql rfl rfl) ?_
                        refine ow_val rfl (gd_go rfl s90) (ex_pickt rfl s93 rfl) ?_
                        refine ow_val rfl (gd_go rfl s90) (ex_move rfl) ?_
                        refine ow_split (g := some (29, true)) rfl (fun s97 => ?_) (fun s97 => ?_)
                        ·
                          have q := s97
                          try simp at q
                          refine ow_val rfl (gd_go rfl s97) (ex_move rfl) ?_
                          refine ow_val rfl (gd_go rfl s97) (ex_lss rfl rfl) ?_
                          refine ow_val rfl (gd_go rfl s97) (ex_move rfl) ?_
                          refine ow_split (g := some (32, false)) rfl (fun s100 => ?_) (fun s100 => ?_)
                          ·
                            have q := s100
                            try simp at q
                            refine ow_skip rfl (gd_no rfl s100) ?_
                            refine ow_skip rfl (gd_no rfl s100) ?_
                            refine ow_skip rfl (gd_no rfl s100) ?_
                            refine ow_skip rfl (gd_no rfl s100) ?_
                            refine ow_skip rfl (gd_no rfl s100) ?_
                            refine ow_val rfl (gd_go rfl s97) (ex_pickt rfl s100 rfl) ?_
                            refine ow_val rfl (gd_go rfl s90) (ex_pickt rfl s97 rfl) ?_
                            refine ow_val rfl rfl (ex_pickf rfl s90 rfl) ?_
                            refine ow_val rfl rfl (ex_move rfl) ?_
                            refine ow_skip rfl rfl ?_
                            refine ow_skip rfl rfl ?_
                            refine ow_skip rfl rfl ?_
                            refine ow_skip rfl rfl ?_
                            refine ow_skip rfl rfl ?_
                            refine ow_val rfl rfl (ex_pick_t rfl rfl) ?_
                            refine ow_nil ?_
                            exact qw_meet (subL_meet 48 115 (lkv rfl (by first | rfl | (exfalso; omega) | (congr 1; simp [F5]; done) | (congr 1; simp; omega))) rfl rfl) (fun w h => h)
                          ·
                            have q := s100
                            try simp at q
                            refine ow_val rfl (gd_go rfl s100) (ex_move rfl) ?_
                            refine ow_val rfl (gd_go rfl s100) (ex_move rfl) ?_
                            refine ow_cv rfl (gd_go rfl s100) (ex_callf rfl (fun w h => callB ((pLenK h.hasE hv61)))) ?_
                            refine ow_val rfl (gd_go rfl s100) (ex_subi (z := (((intern ts ls[i]).2.2.length : Int) - 1)) rfl rfl (by omega) (by omega) (by omega)) ?_
                            refine ow_val rfl (gd_go rfl s100) (ex_neq rfl rfl) ?_
                            refine ow_val rfl (gd_go rfl s97) (ex_pickf rfl s100 rfl) ?_
                            refine ow_val rfl (gd_go rfl s90) (ex_pickt rfl s97 rfl) ?_
                            refine ow_val rfl rfl (ex_pickf rfl s90 rfl) ?_
                            refine ow_val rfl rfl (ex_move rfl) ?_
                            refine ow_split (g := some (41, false)) rfl (fun s109 => ?_) (fun s109 => ?_)
                            ·
                              have q := s109
                              try simp at q
                              refine ow_skip rfl (gd_no rfl s109) ?_
                              refine ow_skip rfl (gd_no rfl s109) ?_
                              refine ow_skip rfl (gd_no rfl s109) ?_
                              refine ow_skip rfl (gd_no rfl s109) ?_
                              refine ow_skip rfl (gd_no rfl s109) ?_
                              refine ow_val rfl rfl (ex_pickt rfl s109 rfl) ?_
                              refine ow_nil ?_
                              exact qw_meet (subL_meet 48 115 (lkv rfl (by first | rfl | (exfalso; omega) | (congr 1; simp [F5]; done) | (congr 1; simp; omega))) rfl rfl) (fun w h => h)
                            ·
                              have q := s109
                              try simp at q
                              refine ow_val rfl (gd_go rfl s109) (ex_move rfl) ?_
                              refine ow_val rfl (gd_go rfl s109) (ex_neq rfl rfl) ?_
                              refine ow_val rfl (gd_go rfl s109) (ex_move rfl) ?_
                              refine ow_val rfl (gd_go rfl s109) (ex_eql rfl rfl) ?_
                              refine ow_val rfl (gd_go rfl s109) (ex_neqb rfl rfl) ?_
                              refine ow_val rfl rfl (ex_pickf rfl s109 rfl) ?_
                              refine ow_nil ?_
                              exact qw_meet (subL_meet 48 115 (lkv rfl (by first | rfl | (exfalso; omega) | (congr 1; simp [F5]; done) | (congr 1; simp; omega))) rfl rfl) (fun w h => h)
                        ·
                          have q := s97
                          try simp at q
                          refine ow_skip rfl (gd_no rfl s97) ?_
                          refine ow_skip rfl (gd_no rfl s97) ?_
                          refine ow_skip rfl (gd_no rfl s97) ?_
                          refine ow_skip rfl rfl ?_
                          refine ow_skip rfl rfl ?_
                          refine ow_skip rfl rfl ?_
                          refine ow_skip rfl rfl ?_
                          refine ow_skip rfl rfl ?_
                          refine ow_skip rfl (gd_no rfl s97) ?_
                          refine ow_val rfl (gd_go rfl s90) (ex_pickf rfl s97 rfl) ?_
                          refine ow_val rfl rfl (ex_pickf rfl s90 rfl) ?_
                          refine ow_val rfl rfl (ex_move rfl) ?_
                          refine ow_val rfl rfl (ex_move rfl) ?_
                          refine ow_val rfl rfl (ex_neq rfl rfl) ?_
                          refine ow_val rfl rfl (ex_move rfl) ?_
                          refine ow_val rfl rfl (ex_eql rfl rfl) ?_
                          refine ow_val rfl rfl (ex_neqb rfl rfl) ?_
                          refine ow_val rfl rfl (ex_pick_f rfl rfl) ?_
                          refine ow_nil ?_
                          exact qw_meet (subL_meet 48 115 (lkv rfl (by first | rfl | (exfalso; omega) | (congr 1; simp [F5]; done) | (congr 1; simp; omega))) rfl rfl) (fun w h => h)
                      ·
                        have q := s93
                        try simp at q
                        refine ow_skip rfl (gd_no rfl s93) ?_
                        refine ow_skip rfl (gd_no rfl s93) ?_
                        refine ow_val rfl (gd_go rfl s90) (ex_pickf rfl s93 rfl) ?_
                        refine ow_val rfl (gd_go rfl s90) (ex_move rfl) ?_
                        refine ow_skip rfl rfl ?_
                        refine ow_skip rfl rfl ?_
                        refine ow_skip rfl rfl ?_
                        refine ow_skip rfl rfl ?_
                        refine ow_skip rfl rfl ?_
                        refine ow_skip rfl rfl ?_
                        refine ow_skip rfl rfl ?_
                        refine ow_skip rfl rfl ?_
                        refine ow_skip rfl rfl ?_
                        refine ow_val rfl (gd_go rfl s90) (ex_pick_f rfl rfl) ?_
                        refine ow_val rfl rfl (ex_pickf rfl s90 rfl) ?_
                        refine ow_val rfl rfl (ex_move rfl) ?_
                        refine ow_val rfl rfl (ex_move rfl) ?_
                        refine ow_val rfl rfl (ex_neq rfl rfl) ?_
                        refine ow_val rfl rfl (ex_move rfl) ?_
                        refine ow_val rfl rfl (ex_eql rfl rfl) ?_
                        refine ow_val rfl rfl (ex_neqb rfl rfl) ?_
                        refine ow_val rfl rfl (ex_pick_f rfl rfl) ?_
                        refine ow_nil ?_
                        exact qw_meet (subL_meet 48 115 (lkv rfl (by first | rfl | (exfalso; omega) | (congr 1; simp [F5]; done) | (congr 1; simp; omega))) rfl rfl) (fun w h => h)
                  ·
                    have q := s81
                    try simp at q
                    refine ow_val rfl (gd_go rfl s81) (ex_move rfl) ?_
                    refine ow_val rfl (gd_go rfl s81) (ex_neq rfl rfl) ?_
                    refine ow_val rfl (gd_go rfl s79) (ex_pickf rfl s81 rfl) ?_
                    refine ow_val rfl (gd_go rfl s79) (ex_move rfl) ?_
                    refine ow_split (g := some (17, true)) rfl (fun s85 => ?_) (fun s85 => ?_)
                    ·
                      have q := s85
                      try simp at q
                      refine ow_val rfl (gd_go rfl s85) (ex_move rfl) ?_
                      refine ow_val rfl (gd_go rfl s85) (ex_neq rfl rfl) ?_
                      refine ow_val rfl (gd_go rfl s79) (ex_pickt rfl s85 rfl) ?_
                      refine ow_val rfl rfl (ex_pickf rfl s79 rfl) ?_
                      refine ow_val rfl rfl (ex_move rfl) ?_
                      refine ow_split (g := some (22, false)) rfl (fun s90 => ?_) (fun s90 => ?_)
                      ·
                        have q := s90
                        try simp at q
                        refine ow_skip rfl (gd_no rfl s90) ?_
                        refine ow_skip rfl (gd_no rfl s90) ?_
                        refine ow_skip rfl (gd_no rfl s90) ?_
                        refine ow_skip rfl rfl ?_
                        refine ow_skip rfl rfl ?_
                        refine ow_skip rfl (gd_no rfl s90) ?_
                        refine ow_skip rfl (gd_no rfl s90) ?_
                        refine ow_skip rfl rfl ?_
                        refine ow_skip rfl rfl ?_
                        refine ow_skip rfl rfl ?_
                        refine ow_skip rfl rfl ?_
                        refine ow_skip rfl rfl ?_
                        refine ow_skip rfl rfl ?_
                        refine ow_skip rfl rfl ?_
                        refine ow_skip rfl rfl ?_
                        refine ow_skip rfl rfl ?_
                        refine ow_skip rfl (gd_no rfl s90) ?_
                        refine ow_val rfl rfl (ex_pickt rfl s90 rfl) ?_
                        refine ow_val rfl rfl (ex_move rfl) ?_
                        refine ow_skip rfl rfl ?_
                        refine ow_skip rfl rfl ?_
                        refine ow_skip rfl rfl ?_
                        refine ow_skip rfl rfl ?_
                        refine ow_skip rfl rfl ?_
                        refine ow_val rfl rfl (ex_pick_t rfl rfl) ?_
                        refine ow_nil ?_
                        exact qw_meet (subL_meet 48 115 (lkv rfl (by first | rfl | (exfalso; omega) | (congr 1; simp [F5]; done) | (congr 1; simp; omega))) rfl rfl) (fun w h => h)
                      ·
                        have q := s90
                        try simp at q
                        refine ow_val rfl (gd_go rfl s90) (ex_move rfl) ?_
                        refine ow_val rfl (gd_go rfl s90) (ex_not rfl) ?_
                        refine ow_val rfl (gd_go rfl s90) (ex_move rfl) ?_
                        refine ow_split (g := some (25, true)) rfl (fun s93 => ?_) (fun s93 => ?_)
                        ·
                          have q := s93
                          try simp at q
                          refine ow_val rfl (gd_go rfl s93) (ex_move rfl) ?_
                          refine ow_val rfl (gd_go rfl s93) (ex_eql rfl rfl) ?_
                          refine ow_val rfl (gd_go rfl s90) (ex_pickt rfl s93 rfl) ?_
                          refine ow_val rfl (gd_go rfl s90) (ex_move rfl) ?_
                          refine ow_split (g := some (29, true)) rfl (fun s97 => ?_) (fun s97 => ?_)
                          ·
                            have q := s97
                            try simp at q
                            refine ow_val rfl (gd_go rfl s97) (ex_move rfl) ?_
                            refine ow_val rfl (gd_go rfl s97) (ex_lss rfl rfl) ?_
                            refine ow_val rfl (gd_go rfl s97) (ex_move rfl) ?_
                            refine ow_split (g := some (32, false)) rfl (fun s100 => ?_) (fun s100 => ?_)
                            ·
                              have q := s100
                              try simp at q
                              refine ow_skip rfl (gd_no rfl s100) ?_
                              refine ow_skip rfl (gd_no rfl s100) ?_
                              refine ow_skip rfl (gd_no rfl s100) ?_
                              refine ow_skip rfl (gd_no rfl s100) ?_
                              refine ow_skip rfl (gd_no rfl s100) ?_
                              refine ow_val rfl (gd_go rfl s97) (ex_pickt rfl s100 rfl) ?_
                              refine ow_val rfl (gd_go rfl s90) (ex_pickt rfl s97 rfl) ?_
                              refine ow_val rfl rfl (ex_pickf rfl s90 rfl) ?_
                              refine ow_val rfl rfl (ex_move rfl) ?_
                              refine ow_skip rfl rfl ?_
                              refine ow_skip rfl rfl ?_
                              refine ow_skip rfl rfl ?_
                              refine ow_skip rfl rfl ?_
                              refine ow_skip rfl rfl ?_
                              refine ow_val rfl rfl (ex_pick_t rfl rfl) ?_
                              refine ow_nil ?_
                              exact qw_meet (subL_meet 48 115 (lkv rfl (by first | rfl | (exfalso; omega) | (congr 1; simp [F5]; done) | (congr 1; simp; omega))) rfl rfl) (fun w h => h)
                            ·
                              have q := s100
                              try simp at q
                              refine ow_val rfl (gd_go rfl s100) (ex_move rfl) ?_
                              refine ow_val rfl (gd_go rfl s100) (ex_move rfl) ?_
                              refine ow_cv rfl (gd_go rfl s100) (ex_callf rfl (fun w h => callB ((pLenK h.hasE hv61)))) ?_
                              refine ow_val rfl (gd_go rfl s100) (ex_subi (z := (((intern ts ls[i]).2.2.length : Int) - 1)) rfl rfl (by omega) (by omega) (by omega)) ?_
                              refine ow_val rfl (gd_go rfl s100) (ex_neq rfl rfl) ?_
                              refine ow_val rfl (gd_go rfl s97) (ex_pickf rfl s100 rfl) ?_
                              refine ow_val rfl (gd_go rfl s90) (ex_pickt rfl s97 rfl) ?_
                              refine ow_val rfl rfl (ex_pickf rfl s90 rfl) ?_
                              refine ow_val rfl rfl (ex_move rfl) ?_
                              refine ow_split (g := some (41, false)) rfl (fun s109 => ?_) (fun s109 => ?_)
                              ·
                                have q := s109
                                try simp at q
                                refine ow_skip rfl (gd_no rfl s109) ?_
                                refine ow_skip rfl (gd_no rfl s109) ?_
                                refine ow_skip rfl (gd_no rfl s109) ?_
                                refine ow_skip rfl (gd_no rfl s109) ?_
                                refine ow_skip rfl (gd_no rfl s109) ?_
                                refine ow_val rfl rfl (ex_pickt rfl s109 rfl) ?_
                                refine ow_nil ?_
                                exact qw_meet (subL_meet 48 115 (lkv rfl (by first | rfl | (exfalso; omega) | (congr 1; simp [F5]; done) | (congr 1; simp; omega))) rfl rfl) (fun w h => h)
                              ·
                                have q := s109
                                try simp at q
                                refine ow_val rfl (gd_go rfl s109) (ex_move rfl) ?_
                                refine ow_val rfl (gd_go rfl s109) (ex_neq rfl rfl) ?_
                                refine ow_val rfl (gd_go rfl s109) (ex_move rfl) ?_
                                refine ow_val rfl (gd_go rfl s109) (ex_eql rfl rfl) ?_
                                refine ow_val rfl (gd_go rfl s109) (ex_neqb rfl rfl) ?_
                                refine ow_val rfl rfl (ex_pickf rfl s109 rfl) ?_
                                refine ow_nil ?_
                                exact qw_meet (subL_meet 48 115 (lkv rfl (by first | rfl | (exfalso; omega) | (congr 1; simp [F5]; done) | (congr 1; simp; omega))) rfl rfl) (fun w h => h)
                          ·
                            have q := s97
                            try simp at q
                            refine ow_skip rfl (gd_no rfl s97) ?_
                            refine ow_skip rfl (gd_no rfl s97) ?_
                            refine ow_skip rfl (gd_no rfl s97) ?_
                            refine ow_skip rfl rfl ?_
                            refine ow_skip rfl rfl ?_
                            refine ow_skip rfl rfl ?_
                            refine ow_skip rfl rfl ?_
                            refine ow_skip rfl rfl ?_
                            refine ow_skip rfl (gd_no rfl s97) ?_
                            refine ow_val rfl (gd_go rfl s90) (ex_pickf rfl s97 rfl) ?_
                            refine ow_val rfl rfl (ex_pickf rfl s90 rfl) ?_
                            refine ow_val rfl rfl (ex_move rfl) ?_
                            refine ow_val rfl rfl (ex_move rfl) ?_
                            refine ow_val rfl rfl (ex_neq rfl rfl) ?_
                            refine ow_val rfl rfl (ex_move rfl) ?_
                            refine ow_val rfl rfl (ex_eql rfl rfl) ?_
                            refine ow_val rfl rfl (ex_neqb rfl rfl) ?_
                            refine ow_val rfl rfl (ex_pick_f rfl rfl) ?_
                            refine ow_nil ?_
                            exact qw_meet (subL_meet 48 115 (lkv rfl (by first | rfl | (exfalso; omega) | (congr 1; simp [F5]; done) | (congr 1; simp; omega))) rfl rfl) (fun w h => h)
                        ·
                          have q := s93
                          try simp at q
                          refine ow_skip rfl (gd_no rfl s93) ?_
                          refine ow_skip rfl (gd_no rfl s93) ?_
                          refine ow_val rfl (gd_go rfl s90) (ex_pickf rfl s93 rfl) ?_
                          refine ow_val rfl (gd_go rfl s90) (ex_move rfl) ?_
                          refine ow_skip rfl rfl ?_
                          refine ow_skip rfl rfl ?_
                          refine ow_skip rfl rfl ?_
                          refine ow_skip rfl rfl ?_
                          refine ow_skip rfl rfl ?_
                          refine ow_skip rfl rfl ?_
                          refine ow_skip rfl rfl ?_
                          refine ow_skip rfl rfl ?_
                          refine ow_skip rfl rfl ?_
                          refine ow_val rfl (gd_go rfl s90) (ex_pick_f rfl rfl) ?_
                          refine ow_val rfl rfl (ex_pickf rfl s90 rfl) ?_
                          refine ow_val rfl rfl (ex_move rfl) ?_
                          refine ow_val rfl rfl (ex_move rfl) ?_
                          refine ow_val rfl rfl (ex_neq rfl rfl) ?_
                          refine ow_val rfl rfl (ex_move rfl) ?_
                          refine ow_val rfl rfl (ex_eql rfl rfl) ?_
                          refine ow_val rfl rfl (ex_neqb rfl rfl) ?_
                          refine ow_val rfl rfl (ex_pick_f rfl rfl) ?_
                          refine ow_nil ?_
                          exact qw_meet (subL_meet 48 115 (lkv rfl (by first | rfl | (exfalso; omega) | (congr 1; simp [F5]; done) | (congr 1; simp; omega))) rfl rfl) (fun w h => h)
                    ·
                      have q := s85
                      try simp at q
                      refine ow_skip rfl (gd_no rfl s85) ?_
                      refine ow_skip rfl (gd_no rfl s85) ?_
                      refine ow_val rfl (gd_go rfl s79) (ex_pickf rfl s85 rfl) ?_
                      refine ow_val rfl rfl (ex_pickf rfl s79 rfl) ?_
                      refine ow_val rfl rfl (ex_move rfl) ?_
                      refine ow_val rfl rfl (ex_move rfl) ?_
                      refine ow_val rfl rfl (ex_not rfl) ?_
                      refine ow_val rfl rfl (ex_move rfl) ?_
                      refine ow_split (g := some (25, true)) rfl (fun s93 => ?_) (fun s93 => ?_)
                      ·
                        have q := s93
                        try simp at q
                        refine ow_val rfl (gd_go rfl s93) (ex_move rfl) ?_
                        refine ow_val rfl (gd_go rfl s93) (ex_eql rfl rfl) ?_
                        refine ow_val rfl rfl (ex_pickt rfl s93 rfl) ?_
                        refine ow_val rfl rfl (ex_move rfl) ?_
                        refine ow_split (g := some (29, true)) rfl (fun s97 => ?_) (fun s97 => ?_)
                        ·
                          have q := s97
                          try simp at q
                          refine ow_val rfl (gd_go rfl s97) (ex_move rfl) ?_
                          refine ow_val rfl (gd_go rfl s97) (ex_lss rfl rfl) ?_
                          refine ow_val rfl (gd_go rfl s97) (ex_move rfl) ?_
                          refine ow_split (g := some (32, false)) rfl (fun s100 => ?_) (fun s100 => ?_)
                          ·
                            have q := s100
                            try simp at q
                            refine ow_skip rfl (gd_no rfl s100) ?_
                            refine ow_skip rfl (gd_no rfl s100) ?_
                            refine ow_skip rfl (gd_no rfl s100) ?_
                            refine ow_skip rfl (gd_no rfl s100) ?_
                            refine ow_skip rfl (gd_no rfl s100) ?_
                            refine ow_val rfl (gd_go rfl s97) (ex_pickt rfl s100 rfl) ?_
                            refine ow_val rfl rfl (ex_pickt rfl s97 rfl) ?_
                            refine ow_val rfl rfl (ex_pick_f rfl rfl) ?_
                            refine ow_val rfl rfl (ex_move rfl) ?_
                            refine ow_skip rfl rfl ?_
                            refine ow_skip rfl rfl ?_
                            refine ow_skip rfl rfl ?_
                            refine ow_skip rfl rfl ?_
                            refine ow_skip rfl rfl ?_
                            refine ow_val rfl rfl (ex_pick_t rfl rfl) ?_
                            refine ow_nil ?_
                            exact qw_meet (subL_meet 48 115 (lkv rfl (by first | rfl | (exfalso; omega) | (congr 1; simp [F5]; done) | (congr 1; simp; omega))) rfl rfl) (fun w h => h)
                          ·
                            have q := s100
                            try simp at q
                            refine ow_val rfl (gd_go rfl s100) (ex_move rfl) ?_
                            refine ow_val rfl (gd_go rfl s100) (ex_move rfl) ?_
                            refine ow_cv rfl (gd_go rfl s100) (ex_callf rfl (fun w h => callB ((pLenK h.hasE hv61)))) ?_
                            refine ow_val rfl (gd_go rfl s100) (ex_subi (z := (((intern ts ls[i]).2.2.length : Int) - 1)) rfl rfl (by omega) (by omega) (by omega)) ?_
                            refine ow_val rfl (gd_go rfl s100) (ex_neq rfl rfl) ?_
                            refine ow_val rfl (gd_go rfl s97) (ex_pickf rfl s100 rfl) ?_
                            refine ow_val rfl rfl (ex_pickt rfl s97 rfl) ?_
                            refine ow_val rfl rfl (ex_pick_f rfl rfl) ?_
                            refine ow_val rfl rfl (ex_move rfl) ?_
                            refine ow_split (g := some (41, false)) rfl (fun s109 => ?_) (fun s109 => ?_)
                            ·
                              have q := s109
                              try simp at q
                              refine ow_skip rfl (gd_no rfl s109) ?_
                              refine ow_skip rfl (gd_no rfl s109) ?_
                              refine ow_skip rfl (gd_no rfl s109) ?_
                              refine ow_skip rfl (gd_no rfl s109) ?_
                              refine ow_skip rfl (gd_no rfl s109) ?_
                              refine ow_val rfl rfl (ex_pickt rfl s109 rfl) ?_
                              refine ow_nil ?_
                              exact qw_meet (subL_meet 48 115 (lkv rfl (by first | rfl | (exfalso; omega) | (congr 1; simp [F5]; done) | (congr 1; simp; omega))) rfl rfl) (fun w h => h)
                            ·
                              have q := s109
                              try simp at q
                              refine ow_val rfl (gd_go rfl s109) (ex_move rfl) ?_
                              refine ow_val rfl (gd_go rfl s109) (ex_neq rfl rfl) ?_
                              refine ow_val rfl (gd_go rfl s109) (ex_move rfl) ?_
                              refine ow_val rfl (gd_go rfl s109) (ex_eql rfl rfl) ?_
                              refine ow_val rfl (gd_go rfl s109) (ex_neqb rfl rfl) ?_
                              refine ow_val rfl rfl (ex_pickf rfl s109 rfl) ?_
                              refine ow_nil ?_
                              exact qw_meet (subL_meet 48 115 (lkv rfl (by first | rfl | (exfalso; omega) | (congr 1; simp [F5]; done) | (congr 1; simp; omega))) rfl rfl) (fun w h => h)
                        ·
                          have q := s97
                          try simp at q
                          refine ow_skip rfl (gd_no rfl s97) ?_
                          refine ow_skip rfl (gd_no rfl s97) ?_
                          refine ow_skip rfl (gd_no rfl s97) ?_
                          refine ow_skip rfl rfl ?_
                          refine ow_skip rfl rfl ?_
                          refine ow_skip rfl rfl ?_
                          refine ow_skip rfl rfl ?_
                          refine ow_skip rfl rfl ?_
                          refine ow_skip rfl (gd_no rfl s97) ?_
                          refine ow_val rfl rfl (ex_pickf rfl s97 rfl) ?_
                          refine ow_val rfl rfl (ex_pick_f rfl rfl) ?_
                          refine ow_val rfl rfl (ex_move rfl) ?_
                          refine ow_val rfl rfl (ex_move rfl) ?_
                          refine ow_val rfl rfl (ex_neq rfl rfl) ?_
                          refine ow_val rfl rfl (ex_move rfl) ?_
                          refine ow_val rfl rfl (ex_eql rfl rfl) ?_
                          refine ow_val rfl rfl (ex_neqb rfl rfl) ?_
                          refine ow_val rfl rfl (ex_pick_f rfl rfl) ?_
                          refine ow_nil ?_
                          exact qw_meet (subL_meet 48 115 (lkv rfl (by first | rfl | (exfalso; omega) | (congr 1; simp [F5]; done) | (congr 1; simp; omega))) rfl rfl) (fun w h => h)
                      ·
                        have q := s93
                        try simp at q
                        refine ow_skip rfl (gd_no rfl s93) ?_
                        refine ow_skip rfl (gd_no rfl s93) ?_
                        refine ow_val rfl rfl (ex_pickf rfl s93 rfl) ?_
                        refine ow_val rfl rfl (ex_move rfl) ?_
                        refine ow_skip rfl rfl ?_
                        refine ow_skip rfl rfl ?_
                        refine ow_skip rfl rfl ?_
                        refine ow_skip rfl rfl ?_
                        refine ow_skip rfl rfl ?_
                        refine ow_skip rfl rfl ?_
                        refine ow_skip rfl rfl ?_
                        refine ow_skip rfl rfl ?_
                        refine ow_skip rfl rfl ?_
                        refine ow_val rfl rfl (ex_pick_f rfl rfl) ?_
                        refine ow_val rfl rfl (ex_pick_f rfl rfl) ?_
                        refine ow_val rfl rfl (ex_move rfl) ?_
                        refine ow_val rfl rfl (ex_move rfl) ?_
                        refine ow_val rfl rfl (ex_neq rfl rfl) ?_
                        refine ow_val rfl rfl (ex_move rfl) ?_
                        refine ow_val rfl rfl (ex_eql rfl rfl) ?_
                        refine ow_val rfl rfl (ex_neqb rfl rfl) ?_
                        refine ow_val rfl rfl (ex_pick_f rfl rfl) ?_
                        refine ow_nil ?_
                        exact qw_meet (subL_meet 48 115 (lkv rfl (by first | rfl | (exfalso; omega) | (congr 1; simp [F5]; done) | (congr 1; simp; omega))) rfl rfl) (fun w h => h)
            ·
              refine cw_cond rfl (fun c115 => ?_) (fun c115 => ?_)
              ·
                cases c115
              ·
                refine cw_skip ?_
                refine qw_seq ?_
                refine cw_seq ?_
                refine cw_region ?_
                refine ow_val rfl rfl (ex_move rfl) ?_
                refine ow_val rfl rfl (ex_move rfl) ?_
                refine ow_val rfl rfl (ex_move rfl) ?_
                refine ow_val rfl rfl (ex_index_nat rfl rfl (by omega)) ?_
                refine ow_val rfl rfl (ex_loadR rfl (ld_immT (hc1.le (hlj.trans hl61)) (ht1.le (hlj.trans hl61)))) ?_
                refine ow_ckE rfl rfl (ex_callf rfl (fun w h => pIntern _ h.hasE (htab.le (hlj.trans hl61)) hv61 (ht1.le (hlj.trans hl61)))) (fun v122 τ2 K2 hl2 hf2 hr2 => ?_)
                rw [intern_again] at hr2
                obtain ⟨rfl, hv2⟩ := hr2
                refine ow_val rfl rfl (ex_move rfl) ?_
                refine ow_val rfl rfl (ex_extract rfl rfl) ?_
                refine ow_val rfl rfl (ex_extract rfl rfl) ?_
                refine ow_val rfl rfl (ex_assign rfl) ?_
                refine ow_val rfl rfl (ex_assign rfl) ?_
                refine ow_nil ?_
                refine qw_seq ?_
                refine cw_seq ?_
                refine cw_region ?_
                refine ow_val rfl rfl (ex_move rfl) ?_
                refine ow_val rfl rfl (ex_move rfl) ?_
                refine ow_val rfl rfl (ex_neq rfl rfl) ?_
                refine ow_val rfl rfl (ex_move rfl) ?_
                refine ow_split (g := some (3, false)) rfl (fun s128 => ?_) (fun s128 => ?_)
                ·
                  simp at s128
                ·
                  refine ow_val rfl (gd_go rfl s128) (ex_move rfl) ?_
                  refine ow_val rfl (gd_go rfl s128) (ex_move rfl) ?_
                  refine ow_val rfl (gd_go rfl s128) (ex_neq rfl rfl) ?_
                  refine ow_val rfl rfl (ex_pickf rfl s128 rfl) ?_
                  refine ow_nil ?_
                  refine qw_seq ?_
                  refine cw_cond rfl (fun c132 => ?_) (fun c132 => ?_)
                  ·
                    simp at c132
                  ·
                    refine cw_skip ?_
                    refine qw_block_normal ?_
                    refine qw_seq ?_
                    refine cw_region ?_
                    refine ow_val rfl rfl (ex_move rfl) ?_
                    refine ow_val rfl rfl (ex_addi (z := ((i + 1 : Nat) : Int)) rfl rfl (by omega) (by omega) (by omega)) ?_
                    refine ow_val rfl rfl (ex_assign rfl) ?_
                    refine ow_nil ?_
                    exact qw_round4 (i + 1) (intern ts ls[i]).2.2 τ2 K2 (by omega) (subL_cons (lkv rfl (by first | rfl | simp)) (subL_cons (lkv rfl (by first | rfl | simp)) (subL_cons (lkv rfl (by first | rfl | simp)) (subL_cons (lkv rfl (by first | rfl | simp)) (subL_nil _))))) ⟨by omega, (hlj.trans hl61).trans hl2, (hfj.trans hf61).trans hf2, hv2⟩ (fun w h => h)
        ·
          refine cw_exit ?_
          refine qw_then_exit ?_
          refine qw_then_exit ?_
          refine qw_block_exit ?_
          refine qw_seq ?_
          refine cw_seq ?_
          refine cw_region ?_
          refine ow_val rfl rfl (ex_assign rfl) ?_
          refine ow_nil ?_
          refine qw_seq ?_
          refine cw_ret ?_
          refine qw_ret1 rfl rfl (fun w' h => ⟨congrArg (fun z => Ending.returned (.bool z)) ?_, h.ag.below⟩)
          rfl
end Go.Proofs.YtnjomdjkbbhdoaaDoor
