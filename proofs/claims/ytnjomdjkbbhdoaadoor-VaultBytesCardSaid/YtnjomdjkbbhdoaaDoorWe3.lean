/-
  Walks: mentions in bytes.
  No condition.
-/
import Derived.Test.YtnjomdjkbbhdoaaDoorWe2
import Derived.Test.YtnjomdjkbbhdoaaDoorSortI
namespace Go.Proofs.YtnjomdjkbbhdoaaDoor
open Go.RowKit
set_option linter.unusedVariables false
set_option linter.unusedSimpArgs false
set_option maxRecDepth 100000

set_option maxHeartbeats 400000 in
theorem pMentions {d : List UInt8} {below : Int} {v : Value} {σ : Hp} {w : World} (hi : Imm σ w) (hd : BytesV σ v d) (hmx : d.length ≤ 17592186044415) : Calls Tryd.prog 43 #[v, .int .i64 below] w (GiveR (RepI (mentS d below)) σ w) := by
  obtain ⟨p0, c0, rfl, hc0, _⟩ := hd.slice
  refine enter (St w (fun _ => False) σ [] []) Tryd.func43 rfl Tryd.ntmps43 rfl (St.start hi) ?_
  refine cw_seq ?_
  refine cw_region ?_
  refine ow_val rfl rfl (ex_assign rfl) ?_
  refine ow_nil ?_
  refine qw_seq ?_
  refine cw_seq ?_
  refine cw_region ?_
  refine ow_val rfl rfl (ex_assign rfl) ?_
  refine ow_nil ?_
  refine qw_seq ?_
  refine cw_seq ?_
  refine cw_block ?_
  refine cw_loop6 (fun (d' : List UInt8) (p : Option Addr) (c : Nat) (zs : List Int) (v5 : Value) (Gs : List (Nat × Obj)) => [(0, .slice p d'.length c), (1, .int .i64 below), (5, v5)]) (fun d' p c zs v5 Gs => BytesV σ (.slice p d'.length c) d' ∧ d'.length ≤ c ∧ OwnSl 3 1 v5 zs.length (intsV zs) Gs ∧ zs ++ mentL d' below = mentL d below) (fun d' p c zs v5 Gs => σ) (fun d' p c zs v5 Gs => Gs) (fun d' _ _ _ _ _ => d'.length) d p0 c0 [] (.slice none 0 0) [] (subL_cons (lkv rfl (by first | rfl | simp)) (subL_cons (lkv rfl (by first | rfl | simp)) (subL_cons (lkv rfl (by first | rfl | simp)) (subL_nil _)))) ⟨hd, hc0, OwnSl.nil _ _, rfl⟩ (fun w h => by simpa using h) ?_
  intro d' p c zs v5 Gs ⟨hdb, hcc, hO, heq⟩
  refine cw_seq ?_
  refine cw_seq ?_
  refine cw_region ?_
  refine ow_val rfl rfl (ex_move rfl) ?_
  refine ow_val rfl rfl (ex_len (ty := 0) rfl) ?_
  refine ow_val rfl rfl (ex_geq rfl rfl) ?_
  refine ow_nil ?_
  refine qw_seq ?_
  refine cw_cond rfl (fun c10 => ?_) (fun c10 => ?_)
  ·
    have h10 : 10 ≤ d'.length := by have := of_decide_eq_true c10; omega
    obtain ⟨bq, oq, rfl, hcq⟩ := hdb.ptr (by omega)
    have hlz : zs.length + (mentL d' below).length ≤ d.length := by rw [← List.length_append, heq]; exact mentL_len _ _
    refine cw_skip ?_
    refine qw_seq ?_
    refine cw_block ?_
    refine cw_seq ?_
    refine cw_seq ?_
    refine cw_region ?_
    refine ow_val rfl rfl (ex_move rfl) ?_
    refine ow_val rfl rfl (ex_slice (i := 2) (j := 10) rfl rfl rfl (by decide) (by omega)) ?_
    refine ow_cv rfl rfl (ex_callf rfl (fun w h => callB ((pNumber h.im (hdb.mid (i := 2) (j := 10) (by decide) (by omega)))))) ?_
    refine ow_val rfl rfl (ex_move rfl) ?_
    refine ow_val rfl rfl (ex_extract rfl rfl) ?_
    refine ow_val rfl rfl (ex_extract rfl rfl) ?_
    refine ow_val rfl rfl (ex_assign rfl) ?_
    refine ow_val rfl rfl (ex_assign rfl) ?_
    refine ow_nil ?_
    refine qw_seq ?_
    refine cw_seq ?_
    refine cw_region ?_
    refine ow_val rfl rfl (ex_move rfl) ?_
    refine ow_val rfl rfl (ex_move rfl) ?_
    refine ow_split (g := some (1, true)) rfl (fun s18 => ?_) (fun s18 => ?_)
    ·
      refine ow_val rfl (gd_go rfl s18) (ex_move rfl) ?_
      refine ow_val rfl (gd_go rfl s18) (ex_move rfl) ?_
      refine ow_val rfl (gd_go rfl s18) (ex_lss rfl rfl) ?_
      refine ow_val rfl rfl (ex_pickt rfl s18 rfl) ?_
      refine ow_val rfl rfl (ex_move rfl) ?_
      refine ow_split (g := some (6, true)) rfl (fun s23 => ?_) (fun s23 => ?_)
      ·
        refine ow_val rfl (gd_go rfl s23) (ex_move rfl) ?_
        refine ow_val rfl (gd_go rfl s23) (ex_slice_hi (j := 2) rfl rfl (by omega)) ?_
        refine ow_val rfl (gd_go rfl s23) (ex_tostr rfl (hdb.hi (j := 2) (by omega)) (fun w h => h.im)) ?_
        refine ow_val rfl (gd_go rfl s23) (ex_streql (b := [4, 8]) rfl rfl) ?_
        refine ow_val rfl rfl (ex_pickt rfl s23 rfl) ?_
        refine ow_nil ?_
        refine qw_seq ?_
        refine cw_cond rfl (fun c28 => ?_) (fun c28 => ?_)
        ·
          have hh : hitB d' below = true := by unfold hitB; rw [show (numB ((d'.drop 2).take 8)).2 = true from s18, show decide ((numB ((d'.drop 2).take 8)).1 < below) = true from s23, show (d'.take 2 == [4, 8]) = true from c28]; rfl
          have hmh := mentL_hit h10 hh
          rw [hmh] at hlz
          simp only [List.length_cons] at hlz
          refine cw_region ?_
          refine ow_val rfl rfl (ex_move rfl) ?_
          refine ow_val rfl rfl (ex_move rfl) ?_
          refine ow_slit rfl rfl (exw_slit1 rfl rfl) ?_; intro b31
          refine ow_app1 rfl rfl (exw_append1 (news := [.int .i64 (numB ((d'.drop 2).take 8)).1]) rfl rfl hO rfl (.inr ⟨_, _, rfl, (ld_ownN (k := 1) 0 rfl rfl).2⟩) (fun u hu => by simp at hu; subst hu; rfl) (by unfold maxLen; omega) (by omega)) (fun v32 G32 hO32 hz32 => ?_)
          refine ow_val rfl rfl (ex_assign rfl) ?_
          refine ow_nil ?_
          refine qw_seq ?_
          refine cw_region ?_
          refine ow_val rfl rfl (ex_move rfl) ?_
          refine ow_val rfl rfl (ex_slice_lo (i := 1) rfl rfl (by omega) (by omega)) ?_
          refine ow_val rfl rfl (ex_assign rfl) ?_
          refine ow_nil ?_
          refine qw_block_normal ?_
          exact qw_round6 (d'.drop 1) (if c = 1 then some ⟨bq, oq, none⟩ else (some ⟨bq, oq, none⟩ : Option Addr).map (·.add (1 * 1))) (c - 1) (zs ++ [(numB ((d'.drop 2).take 8)).1]) v32 G32 (by rw [List.length_drop]; omega) (subL_cons (lkv rfl (by first | rfl | simp)) (subL_cons (lkv rfl (by first | rfl | simp)) (subL_cons (lkv rfl (by first | rfl | simp)) (subL_nil _)))) ⟨by rw [List.length_drop]; exact hdb.lo (by omega), by rw [List.length_drop]; omega, by rw [intsV_app, List.length_append]; exact hO32, by rw [List.append_assoc, ← heq, hmh]; rfl⟩ (fun w h => h.drop (List.sublist_cons_self _ _))
        ·
          have hm : hitB d' below = false := by unfold hitB; rw [show (d'.take 2 == [4, 8]) = false from c28]; simp
          refine cw_skip ?_
          refine qw_seq ?_
          refine cw_region ?_
          refine ow_val rfl rfl (ex_move rfl) ?_
          refine ow_val rfl rfl (ex_slice_lo (i := 1) rfl rfl (by omega) (by omega)) ?_
          refine ow_val rfl rfl (ex_assign rfl) ?_
          refine ow_nil ?_
          refine qw_block_normal ?_
          exact qw_round6 (d'.drop 1) (if c = 1 then some ⟨bq, oq, none⟩ else (some ⟨bq, oq, none⟩ : Option Addr).map (·.add (1 * 1))) (c - 1) zs v5 Gs (by rw [List.length_drop]; omega) (subL_cons (lkv rfl (by first | rfl | simp)) (subL_cons (lkv rfl (by first | rfl | simp)) (subL_cons (lkv rfl (by first | rfl | simp)) (subL_nil _)))) ⟨by rw [List.length_drop]; exact hdb.lo (by omega), by rw [List.length_drop]; omega, hO, by rw [← heq, mentL_miss hm]⟩ (fun w h => h)
      ·
        have hm : hitB d' below = false := by unfold hitB; rw [show decide ((numB ((d'.drop 2).take 8)).1 < below) = false from s23]; simp
        refine ow_skip rfl (gd_no rfl s23) ?_
        refine ow_skip rfl (gd_no rfl s23) ?_
        refine ow_skip rfl (gd_no rfl s23) ?_
        refine ow_skip rfl (gd_no rfl s23) ?_
        refine ow_val rfl rfl (ex_pickf rfl s23 rfl) ?_
        refine ow_nil ?_
        refine qw_seq ?_
        refine cw_cond_f rfl ?_
        refine cw_skip ?_
        refine qw_seq ?_
        refine cw_region ?_
        refine ow_val rfl rfl (ex_move rfl) ?_
        refine ow_val rfl rfl (ex_slice_lo (i := 1) rfl rfl (by omega) (by omega)) ?_
        refine ow_val rfl rfl (ex_assign rfl) ?_
        refine ow_nil ?_
        refine qw_block_normal ?_
        exact qw_round6 (d'.drop 1) (if c = 1 then some ⟨bq, oq, none⟩ else (some ⟨bq, oq, none⟩ : Option Addr).map (·.add (1 * 1))) (c - 1) zs v5 Gs (by rw [List.length_drop]; omega) (subL_cons (lkv rfl (by first | rfl | simp)) (subL_cons (lkv rfl (by first | rfl | simp)) (subL_cons (lkv rfl (by first | rfl | simp)) (subL_nil _)))) ⟨by rw [List.length_drop]; exact hdb.lo (by omega), by rw [List.length_drop]; omega, hO, by rw [← heq, mentL_miss hm]⟩ (fun w h => h)
    ·
      have hm : hitB d' below = false := by unfold hitB; rw [show (numB ((d'.drop 2).take 8)).2 = false from s18]; rfl
      refine ow_skip rfl (gd_no rfl s18) ?_
      refine ow_skip rfl (gd_no rfl s18) ?_
      refine ow_skip rfl (gd_no rfl s18) ?_
      refine ow_val rfl rfl (ex_pickf rfl s18 rfl) ?_
      refine ow_val rfl rfl (ex_move rfl) ?_
      refine ow_skip rfl rfl ?_
      refine ow_skip rfl rfl ?_
      refine ow_skip rfl rfl ?_
      refine ow_skip rfl rfl ?_
      refine ow_val rfl rfl (ex_pick_f rfl rfl) ?_
      refine ow_nil ?_
      refine qw_seq ?_
      refine cw_cond_f rfl ?_
      refine cw_skip ?_
      refine qw_seq ?_
      refine cw_region ?_
      refine ow_val rfl rfl (ex_move rfl) ?_
      refine ow_val rfl rfl (ex_slice_lo (i := 1) rfl rfl (by omega) (by omega)) ?_
      refine ow_val rfl rfl (ex_assign rfl) ?_
      refine ow_nil ?_
      refine qw_block_normal ?_
      exact qw_round6 (d'.drop 1) (if c = 1 then some ⟨bq, oq, none⟩ else (some ⟨bq, oq, none⟩ : Option Addr).map (·.add (1 * 1))) (c - 1) zs v5 Gs (by rw [List.length_drop]; omega) (subL_cons (lkv rfl (by first | rfl | simp)) (subL_cons (lkv rfl (by first | rfl | simp)) (subL_cons (lkv rfl (by first | rfl | simp)) (subL_nil _)))) ⟨by rw [List.length_drop]; exact hdb.lo (by omega), by rw [List.length_drop]; omega, hO, by rw [← heq, mentL_miss hm]⟩ (fun w h => h)
  ·
    have h10 : d'.length < 10 := by have := of_decide_eq_false c10; omega
    rw [mentL_short h10, List.append_nil] at heq
    subst heq
    have hlz := mentL_len d below
    refine cw_exit ?_
    refine qw_then_exit ?_
    refine qw_then_exit ?_
    refine qw_block_exit ?_
    refine qw_seq ?_
    refine cw_seq ?_
    refine cw_region ?_
    refine ow_val rfl rfl (ex_move rfl) ?_
    refine ow_cg1 rfl rfl (ex_callf rfl (fun w h => pSortI1 (by omega) hO h)) (fun v36 G36 hr36 => ?_)
    obtain ⟨rfl, hO36⟩ := hr36
    refine ow_nil ?_
    refine qw_seq ?_
    refine cw_seq ?_
    refine cw_region ?_
    refine ow_val rfl rfl (ex_move rfl) ?_
    refine ow_cg1 rfl rfl (ex_callf rfl (fun w h => pCompI1 hO36 h)) (fun v38 G38 hO38 => ?_)
    refine ow_val rfl rfl (ex_assign rfl) ?_
    refine ow_nil ?_
    refine qw_seq ?_
    refine cw_ret ?_
    refine qw_ret1 rfl rfl (fun w' h => ?_)
    obtain ⟨σ', h1, h2, h3, h4⟩ := freezeI (Gr := []) (by simpa using h) (fun _ h => h) hO38
    exact h3.gives h1 h2 h4
end Go.Proofs.YtnjomdjkbbhdoaaDoor
