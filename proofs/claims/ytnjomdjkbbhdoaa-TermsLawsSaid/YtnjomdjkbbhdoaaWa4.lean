/-
  Walks of the reference: a term is put into others that are in order.
  No condition.
-/
import Derived.Test.YtnjomdjkbbhdoaaWa3
namespace Go.Proofs.Ytnjomdjkbbhdoaa
open Go.RowKit
set_option linter.unusedVariables false
set_option linter.unusedSimpArgs false
set_option maxRecDepth 100000

set_option maxHeartbeats 400000 in
theorem rPut {ks : List T} {x : T} {σ : Hp} {lv : Value} {cx : List Value} {w : World} (hi : Imm σ w) (hk : KidsV σ lv ks) (hx : TermC σ cx x) (hlen : ks.length < maxKids) :
    Calls Try.prog 37 #[lv, .agg cx.toArray] w (GiveR (RepK (putB ks x)) σ w) := by
  have hx0 := hx
  have hk0 := hk
  obtain ⟨dv, kv, rfl, ho, hn, hd, hkx⟩ := hx.opn
  obtain ⟨p, c, xs, rfl, hc, hm, hrow, hsrc⟩ := hk.row
  have hm2 := hlen
  unfold maxKids at hm2
  have hxl := hrow.len
  have hml : (2199023255553 : Nat) ≤ maxLen := by unfold maxLen; omega
  refine enter (St w (fun _ => False) σ [] []) Try.func37 rfl Try.ntmps37 rfl (St.start hi) ?_
  refine cw_seq ?_
  refine cw_region ?_
  refine ow_blk rfl rfl (exw_box rfl) ?_; intro b3
  refine ow_val rfl rfl (ex_assign rfl) ?_
  refine ow_nil ?_
  refine qw_seq ?_
  refine cw_seq ?_
  refine cw_region ?_
  refine ow_val rfl rfl (ex_move rfl) ?_
  refine ow_val rfl rfl (ex_len (ty := 0) rfl) ?_
  refine ow_val rfl rfl (ex_assign rfl) ?_
  refine ow_nil ?_
  refine qw_seq ?_
  refine cw_seq ?_
  refine cw_block ?_
  refine cw_loopS (α := Nat) (fun i => [(0, .slice p ks.length c), (3, .pointer (some ⟨b3, 0, none⟩)), (5, .int .i64 (i : Int))]) (fun i => i ≤ ks.length ∧ backAt ks x ks.length = backAt ks x i) (fun i => i) ks.length (subL_cons (lkv rfl (by first | rfl | simp)) (subL_cons (lkv rfl (by first | rfl | simp)) (subL_cons (lkv rfl (by first | rfl | simp)) (subL_nil _)))) ⟨Nat.le_refl _, rfl⟩ ?_
  intro i ⟨hle, hba⟩
  refine cw_seq ?_
  refine cw_cut1 20 (.bool (decide (0 < (i : Int)) && decide (0 < ord (ks.getD (i - 1) zeroT) x))) ?_ ?_
  ·
    refine flow_sound 12 (by kernel_rfl) ?_
    refine flow_val rfl (ex_move rfl) ?_
    refine flow_val rfl (ex_gtr rfl rfl) ?_
    refine flow_val rfl (ex_move rfl) ?_
    refine flow_split rfl (fun s11 => ?_) (fun s11 => ?_)
    ·
      have hpos : 0 < i := by simpa using s11
      obtain ⟨bk2, f2, ck2, cs2, e1', e2', hc2, ht2⟩ := hk0.get (i - 1) (by omega)
      cases e1'
      rw [show ks[i - 1] = ks.getD (i - 1) zeroT by simp [List.getD_eq_getElem?_getD, show i - 1 < ks.length by omega]] at ht2
      refine flow_val (gd_go rfl s11) (ex_move rfl) ?_
      refine flow_val (gd_go rfl s11) (ex_move rfl) ?_
      refine flow_val (gd_go rfl s11) (ex_subi (z := ((i - 1 : Nat) : Int)) rfl rfl (by omega) (by omega) (by omega)) ?_
      refine flow_val (gd_go rfl s11) (ex_index_nat rfl rfl (by omega)) ?_
      refine flow_val (gd_go rfl s11) (ex_loadR rfl (by first | exact ld_ownN 0 rfl rfl | exact ld_ownN 1 rfl rfl | exact ld_ownN 2 rfl rfl | exact ld_ownN 3 rfl rfl | exact ld_ownN 4 rfl rfl | exact ld_ownN 5 rfl rfl | exact ld_ownN 6 rfl rfl | exact ld_ownN 7 rfl rfl | exact ld_immT (by assumption) (by assumption))) ?_
      refine flow_val (gd_go rfl s11) (ex_loadR rfl (by first | exact ld_ownN 0 rfl rfl | exact ld_ownN 1 rfl rfl | exact ld_ownN 2 rfl rfl | exact ld_ownN 3 rfl rfl | exact ld_ownN 4 rfl rfl | exact ld_ownN 5 rfl rfl | exact ld_ownN 6 rfl rfl | exact ld_ownN 7 rfl rfl | exact ld_immT (by assumption) (by assumption))) ?_
      refine flow_cv (gd_go rfl s11) (ex_callf rfl (fun w h => callB ((rOrder _ _ h.im ht2 hx0)))) ?_
      refine flow_val (gd_go rfl s11) (ex_gtr rfl rfl) ?_
      refine flow_val rfl (ex_pickt rfl s11 rfl) ?_
      refine flow_nil ?_
      refine fin_is ?_
      refine fin_is ?_
      refine fin_is ?_
      refine fin_is ?_
      refine fin_is ?_
      refine fin_is ?_
      refine fin_is ?_
      refine fin_is ?_
      refine fin_is ?_
      refine fin_is ?_
      refine fin_is ?_
      refine fin_is ?_
      refine fin_nil ?_
      refine ow_nil ?_
      exact qw_meet (subL_meet 12 20 (lkv rfl (by first | rfl | (simp_all; done) | (simp_all <;> omega))) rfl rfl) (fun w h => h)
    ·
      refine flow_skip (gd_no rfl s11) ?_
      refine flow_skip (gd_no rfl s11) ?_
      refine flow_skip (gd_no rfl s11) ?_
      refine flow_skip (gd_no rfl s11) ?_
      refine flow_skip (gd_no rfl s11) ?_
      refine flow_skip (gd_no rfl s11) ?_
      refine flow_skip (gd_no rfl s11) ?_
      refine flow_skip (gd_no rfl s11) ?_
      refine flow_val rfl (ex_pickf rfl s11 rfl) ?_
      refine flow_nil ?_
      refine fin_is ?_
      refine fin_is ?_
      refine fin_is ?_
      refine fin_is ?_
      refine fin_is ?_
      refine fin_is ?_
      refine fin_is ?_
      refine fin_is ?_
      refine fin_is ?_
      refine fin_is ?_
      refine fin_is ?_
      refine fin_is ?_
      refine fin_nil ?_
      refine ow_nil ?_
      exact qw_meet (subL_meet 12 20 (lkv rfl (by first | rfl | (simp_all; done) | (simp_all <;> omega))) rfl rfl) (fun w h => h)
  ·
    refine cw_cond rfl (fun c20 => ?_) (fun c20 => ?_)
    ·
      refine cw_skip ?_
      refine qw_seq ?_
      refine cw_block ?_
      have hpos : 0 < i := by simp at c20; omega
      refine cw_region ?_
      refine ow_val rfl rfl (ex_move rfl) ?_
      refine ow_val rfl rfl (ex_subi (z := ((i - 1 : Nat) : Int)) rfl rfl (by omega) (by omega) (by omega)) ?_
      refine ow_val rfl rfl (ex_assign rfl) ?_
      refine ow_nil ?_
      refine qw_block_normal ?_
      exact qw_roundS (i - 1) (by omega) (subL_cons (lkv rfl (by first | rfl | simp)) (subL_cons (lkv rfl (by first | rfl | simp)) (subL_cons (lkv rfl (by first | rfl | simp)) (subL_nil _)))) ⟨by omega, by
        obtain ⟨j, rfl⟩ : ∃ j, i = j + 1 := ⟨i - 1, by omega⟩
        simp only [Bool.and_eq_true, decide_eq_true_eq] at c20
        rw [hba, backAt, if_pos (show 0 < ord (ks.getD j zeroT) x from c20.2)]; rfl⟩
    ·
      refine cw_exit ?_
      refine qw_then_exit ?_
      refine qw_then_exit ?_
      refine qw_block_exit ?_
      refine qw_seq ?_
      refine cw_seq ?_
      refine cw_region ?_
      refine ow_slit rfl rfl exw_slit0 ?_; intro b23
      refine ow_mono (fun w h => h.toG) ?_
      refine ow_val rfl rfl (ex_move rfl) ?_
      refine ow_val rfl rfl (ex_move rfl) ?_
      refine ow_val rfl rfl (ex_slice_hi rfl rfl (by omega)) ?_
      refine ow_app1 rfl rfl (exw_append1 (news := xs.take (i * 4)) rfl rfl (OwnSl.lit0 26 4 b23) (by rw [List.length_take, hxl]; omega) ?_ (fun u hu => hrow.oneCell u (List.mem_of_mem_take hu)) (by omega) (by omega)) (fun v27 G27 hO27 hz27 => ?_)
      · rcases hsrc with h0 | ⟨b, f, hp, hca⟩
        · left; subst h0; simp at hle; exact hle
        · right; exact ⟨b, f, hp, fun w h => (hca.take _).range h.im⟩
      refine ow_val rfl rfl (ex_assign rfl) ?_
      refine ow_nil ?_
      refine qw_seq ?_
      refine cw_seq ?_
      refine cw_region ?_
      refine ow_val rfl rfl (ex_move rfl) ?_
      refine ow_val rfl rfl (ex_loadR rfl (by first | exact ld_ownN 0 rfl rfl | exact ld_ownN 1 rfl rfl | exact ld_ownN 2 rfl rfl | exact ld_ownN 3 rfl rfl | exact ld_ownN 4 rfl rfl | exact ld_ownN 5 rfl rfl | exact ld_ownN 6 rfl rfl | exact ld_ownN 7 rfl rfl | exact ld_immT (by assumption) (by assumption))) ?_
      refine ow_slit rfl rfl (exw_slit1 rfl rfl) ?_; intro b30
      refine ow_app1 rfl rfl (exw_append1 (news := [.int .i64 x.op, .int .i64 x.num, dv, kv]) rfl rfl hO27 rfl (.inr ⟨_, _, rfl, (ld_ownN (k := 4) 0 rfl rfl).2⟩) hx0.one (by omega) (by omega)) (fun v31 G31 hO31 hz31 => ?_)
      refine ow_val rfl rfl (ex_assign rfl) ?_
      refine ow_nil ?_
      refine qw_seq ?_
      refine cw_seq ?_
      refine cw_region ?_
      refine ow_val rfl rfl (ex_move rfl) ?_
      refine ow_val rfl rfl (ex_move rfl) ?_
      refine ow_val rfl rfl (ex_move rfl) ?_
      refine ow_val rfl rfl (ex_slice_lo rfl rfl (by omega) hc) ?_
      refine ow_app1 rfl rfl (exw_append1 (news := xs.drop (i * 4)) rfl rfl hO31 (by rw [List.length_drop, hxl]; omega) ?_ (fun u hu => hrow.oneCell u (List.mem_of_mem_drop hu)) (by omega) (by omega)) (fun v36 G36 hO36 hz36 => ?_)
      · rcases hsrc with h0 | ⟨b, f, hp, hca⟩
        · left; subst h0; simp
        · by_cases hlast : ks.length - i = 0
          · exact .inl hlast
          · right; rw [if_neg (by omega), hp]; exact ⟨b, f + i * 4, by simp [addr_add], fun w h => (hca.drop _).range h.im⟩
      refine ow_val rfl rfl (ex_assign rfl) ?_
      refine ow_nil ?_
      refine qw_seq ?_
      refine cw_ret ?_
      refine qw_ret1 rfl rfl (fun w' h => ?_)
      have hend : backAt ks x i = i := by
        cases i with
        | zero => rfl
        | succ j =>
          simp only [Bool.and_eq_false_iff, decide_eq_false_iff_not] at c20
          rcases c20 with c20 | c20
          · omega
          · rw [backAt, if_neg (show ¬ 0 < ord (ks.getD j zeroT) x from c20)]
      have hrows : RowC σ (([] ++ xs.take (i * 4)) ++ [.int .i64 x.op, .int .i64 x.num, dv, kv] ++ xs.drop (i * 4)) (ks.take i ++ [x] ++ ks.drop i) := by
        rw [List.nil_append]; exact ((hrow.take i).append (RowC.one hx0)).append (hrow.drop i)
      obtain ⟨σ', h1, h2, h3, h4⟩ := freezeG (Gr := []) (by simpa using h) (fun _ h => h) hO36 hrows (by simp; omega)
      refine h2.gives h1 h4 ?_
      unfold RepK putB
      rw [hba, hend]
      simpa using h3
end Go.Proofs.Ytnjomdjkbbhdoaa
