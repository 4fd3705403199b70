/-
  What the law CryptoPlays needs, part 3.
  No condition.
-/
import Derived.Test.YtnjomdjkbbhdoaaGreatDoorP2
set_option linter.unusedVariables false
set_option linter.unusedSimpArgs false
set_option linter.unusedSectionVars false
namespace Go.Proofs.YtnjomdjkbbhdoaaGreatDoor
open Go.RowKit
set_option linter.unusedVariables false
set_option linter.unusedSimpArgs false
set_option maxRecDepth 100000
set_option maxHeartbeats 400000 in
theorem pPow {t x : T} {σ : Hp} {ca cb : List Value} {w : World} (hi : Imm σ w) (ha : TermC σ ca t) (hb : TermC σ cb x) :
    Calls Tryz.prog 59 #[.agg ca.toArray, .agg cb.toArray] w (GiveR (RepTB (pow t x).1 (pow t x).2) σ w) := by
  have ha0 := ha
  have hb0 := hb
  obtain ⟨dv, kv, rfl, ho, hn, hd, hk⟩ := ha.opn
  obtain ⟨dv', kv', rfl, ho', hn', hd', hk'⟩ := hb.opn
  obtain ⟨p, c, xs, rfl, hc, hm, hrow, hsrc⟩ := hk.row
  refine enter (St w (fun _ => False) σ [] []) Tryz.func59 rfl Tryz.ntmps59 rfl (St.start hi) ?_
  refine cw_seq ?_
  refine cw_region ?_
  refine ow_blk rfl rfl (exw_box rfl) ?_; intro b2
  refine ow_blk rfl rfl (exw_box rfl) ?_; intro b3
  refine ow_blk rfl rfl exw_alloc ?_; intro b4
  refine ow_val rfl rfl (ex_assign rfl) ?_
  refine ow_nil ?_
  refine qw_seq ?_
  refine cw_seq ?_
  refine cw_cut1 19 (.bool (decide (t.op ≠ 7) || (!right t || !right x))) ?_ ?_
  ·
    refine cw_region ?_
    refine ow_val rfl rfl (ex_field rfl) ?_
    refine ow_val rfl rfl (ex_load1 rfl (by first | exact ld_own1 0 rfl rfl | exact ld_own1 1 rfl rfl | exact ld_own1 2 rfl rfl | exact ld_own1 3 rfl rfl | exact ld_own1 4 rfl rfl | exact ld_own1 5 rfl rfl | exact ld_own1 6 rfl rfl | exact ld_own1 7 rfl rfl | exact ld_ownG1 0 rfl rfl | exact ld_ownG1 1 rfl rfl | exact ld_imm1 (by assumption))) ?_
    refine ow_val rfl rfl (ex_neq rfl rfl) ?_
    refine ow_val rfl rfl (ex_move rfl) ?_
    refine ow_split (g := some (3, false)) rfl (fun s10 => ?_) (fun s10 => ?_)
    ·
      refine ow_skip rfl (gd_no rfl s10) ?_
      refine ow_skip rfl (gd_no rfl s10) ?_
      refine ow_skip rfl (gd_no rfl s10) ?_
      refine ow_val rfl rfl (ex_pickt rfl s10 rfl) ?_
      refine ow_val rfl rfl (ex_move rfl) ?_
      refine ow_skip rfl rfl ?_
      refine ow_skip rfl rfl ?_
      refine ow_skip rfl rfl ?_
      refine ow_val rfl rfl (ex_pick_t rfl rfl) ?_
      refine ow_nil ?_
      exact qw_meet (subL_meet 13 19 (lkv rfl (by first | rfl | (simp_all; done) | (simp_all <;> omega))) rfl rfl) (fun w h => h)
    ·
      refine ow_val rfl (gd_go rfl s10) (ex_loadR rfl (by first | exact ld_ownN 0 rfl rfl | exact ld_ownN 1 rfl rfl | exact ld_ownN 2 rfl rfl | exact ld_ownN 3 rfl rfl | exact ld_ownN 4 rfl rfl | exact ld_ownN 5 rfl rfl | exact ld_ownN 6 rfl rfl | exact ld_ownN 7 rfl rfl | exact ld_ownGN 0 rfl rfl | exact ld_ownGN 1 rfl rfl | exact ld_immT (by assumption) (by assumption))) ?_
      refine ow_cv rfl (gd_go rfl s10) (ex_callf rfl (fun w h => callB ((pRight t h.im ha0)))) ?_
      refine ow_val rfl (gd_go rfl s10) (ex_not rfl) ?_
      refine ow_val rfl rfl (ex_pickf rfl s10 rfl) ?_
      refine ow_val rfl rfl (ex_move rfl) ?_
      refine ow_split (g := some (8, false)) rfl (fun s15 => ?_) (fun s15 => ?_)
      ·
        refine ow_skip rfl (gd_no rfl s15) ?_
        refine ow_skip rfl (gd_no rfl s15) ?_
        refine ow_skip rfl (gd_no rfl s15) ?_
        refine ow_val rfl rfl (ex_pickt rfl s15 rfl) ?_
        refine ow_nil ?_
        exact qw_meet (subL_meet 13 19 (lkv rfl (by first | rfl | (simp_all; done) | (simp_all <;> omega))) rfl rfl) (fun w h => h)
      ·
        refine ow_val rfl (gd_go rfl s15) (ex_loadR rfl (by first | exact ld_ownN 0 rfl rfl | exact ld_ownN 1 rfl rfl | exact ld_ownN 2 rfl rfl | exact ld_ownN 3 rfl rfl | exact ld_ownN 4 rfl rfl | exact ld_ownN 5 rfl rfl | exact ld_ownN 6 rfl rfl | exact ld_ownN 7 rfl rfl | exact ld_ownGN 0 rfl rfl | exact ld_ownGN 1 rfl rfl | exact ld_immT (by assumption) (by assumption))) ?_
        refine ow_cv rfl (gd_go rfl s15) (ex_callf rfl (fun w h => callB ((pRight x h.im hb0)))) ?_
        refine ow_val rfl (gd_go rfl s15) (ex_not rfl) ?_
        refine ow_val rfl rfl (ex_pickf rfl s15 rfl) ?_
        refine ow_nil ?_
        exact qw_meet (subL_meet 13 19 (lkv rfl (by first | rfl | (simp_all; done) | (simp_all <;> omega))) rfl rfl) (fun w h => h)
  ·
    refine cw_cond rfl (fun c19 => ?_) (fun c19 => ?_)
    ·
      refine cw_seq ?_
      refine cw_region ?_
      refine ow_val rfl rfl (ex_build (parts := []) (cells := #[.int .i64 0, .int .i64 0, .slice none 0 0, .slice none 0 0]) rfl (by kernel_rfl)) ?_
      refine ow_u rfl (exu_storeN 0 (cs := [.int .i64 0, .int .i64 0, .slice none 0 0, .slice none 0 0]) rfl rfl rfl rfl (by intro u hu; simp at hu; rcases hu with rfl | rfl <;> rfl) rfl) ?_
      refine ow_val rfl rfl (ex_assign rfl) ?_
      refine ow_nil ?_
      refine qw_seq ?_
      refine cw_ret ?_
      refine qw_then_ret ?_
      refine qw_retC1 rfl rfl (ld_ownN 0 rfl rfl) rfl (fun w' h => ?_)
      have e : pow t x = (zeroT, false) := by
        unfold pow
        rw [if_neg]
        rintro ⟨h1, h2, h3, _⟩
        simp [h1, h2, h3] at c19
      rw [e]
      exact h.gives (Le.refl _) (Fresh.refl _ _) ⟨_, rfl, TermC.mk (by omega) (by omega) (BytesV.nil σ) (KidsV.nil σ)⟩
    ·
      simp at c19
      obtain ⟨hop, hr1, hr2⟩ := c19
      have hk4 := right_exps hr1 hop
      have hlen : t.kids.length < maxKids := by unfold maxKids; omega
      obtain ⟨hnp, hsl⟩ := (pow_prog hr1 hr2).resolve_right (fun h => h hop)
      refine cw_skip ?_
      refine qw_seq ?_
      refine cw_seq ?_
      refine flow_sound 15 (by kernel_rfl) ?_
      refine flow_val rfl (ex_field rfl) ?_
      refine flow_val rfl (ex_load1 rfl (by first | exact ld_own1 0 rfl rfl | exact ld_own1 1 rfl rfl | exact ld_own1 2 rfl rfl | exact ld_own1 3 rfl rfl | exact ld_own1 4 rfl rfl | exact ld_own1 5 rfl rfl | exact ld_own1 6 rfl rfl | exact ld_own1 7 rfl rfl | exact ld_ownG1 0 rfl rfl | exact ld_ownG1 1 rfl rfl | exact ld_imm1 (by assumption))) ?_
      refine flow_val rfl (ex_field rfl) ?_
      refine flow_val rfl (ex_load1 rfl (by first | exact ld_own1 0 rfl rfl | exact ld_own1 1 rfl rfl | exact ld_own1 2 rfl rfl | exact ld_own1 3 rfl rfl | exact ld_own1 4 rfl rfl | exact ld_own1 5 rfl rfl | exact ld_own1 6 rfl rfl | exact ld_own1 7 rfl rfl | exact ld_ownG1 0 rfl rfl | exact ld_ownG1 1 rfl rfl | exact ld_imm1 (by assumption))) ?_
      refine flow_val rfl (ex_len (ty := 0) rfl) ?_
      refine flow_val rfl (ex_field rfl) ?_
      refine flow_val rfl (ex_load1 rfl (by first | exact ld_own1 0 rfl rfl | exact ld_own1 1 rfl rfl | exact ld_own1 2 rfl rfl | exact ld_own1 3 rfl rfl | exact ld_own1 4 rfl rfl | exact ld_own1 5 rfl rfl | exact ld_own1 6 rfl rfl | exact ld_own1 7 rfl rfl | exact ld_ownG1 0 rfl rfl | exact ld_ownG1 1 rfl rfl | exact ld_imm1 (by assumption))) ?_
      refine flow_val rfl (ex_len (ty := 0) rfl) ?_
      refine flow_val rfl (ex_slice_him rfl rfl rfl (Nat.le_refl _) hc) ?_
      refine flow_val rfl (ex_loadR rfl (by first | exact ld_ownN 0 rfl rfl | exact ld_ownN 1 rfl rfl | exact ld_ownN 2 rfl rfl | exact ld_ownN 3 rfl rfl | exact ld_ownN 4 rfl rfl | exact ld_ownN 5 rfl rfl | exact ld_ownN 6 rfl rfl | exact ld_ownN 7 rfl rfl | exact ld_ownGN 0 rfl rfl | exact ld_ownGN 1 rfl rfl | exact ld_immT (by assumption) (by assumption))) ?_
      refine flow_sat QR.pers (obk (ob_one rfl rfl hb0)) ?_
      refine flow_open (Rep := RepK (t.kids ++ [x])) 31 rfl (fun v31 τ hl hf hr => ?_) ?_
      · obtain ⟨bo, co, rfl, hco, htc⟩ := hr
        exact ob_appK rfl rfl rfl rfl (hrow.le hl) (hsrc.imp id fun ⟨b, f, e, h⟩ => ⟨b, f, e, h.le hl⟩) hco htc hlen (by omega)
      refine flow_open (Rep := RepT (.mk 7 0 [] (t.kids ++ [x]))) 32 rfl (fun v32 τ hl hf hr => ?_) ?_
      · have hr' := hr
        obtain ⟨q, cq, rfl, _, _⟩ := KidsV.slice hr'
        exact ob_valQ rfl (ex_build (parts := [(0, _), (3, _)]) (cells := #[.int .i64 7, .int .i64 0, .slice none 0 0, .slice q (t.kids ++ [x]).length cq]) rfl (by kernel_rfl)) ⟨_, rfl, TermC.mk (by omega) (by omega) (BytesV.nil τ) hr⟩
      refine flow_open (Rep := RepT (norm (.mk 7 0 [] (t.kids ++ [x])))) 33 rfl (fun v33 τ hl hf hr => ?_) ?_
      · obtain ⟨cq, rfl, htq⟩ := hr
        exact ob_cr rfl (ex_callf rfl (fun w h => callR (pNorm pSortsS (by unfold maxKids; omega) _ hsl h.im htq)))
      refine flow_sat QA.pers (obk (ob_allocA rfl)) ?_
      refine flow_nil ?_
      refine fin_allocT (by rw [hnp]; exact powT_noZ hr1 hr2) (fun b6 cn τ hl hf htn => ?_)
      skip
      refine fin_drop ?_
      refine fin_drop ?_
      refine fin_drop ?_
      refine fin_is ?_
      refine fin_is ?_
      refine fin_is ?_
      refine fin_is ?_
      refine fin_is ?_
      refine fin_is ?_
      refine fin_is ?_
      refine fin_is ?_
      refine fin_is ?_
      refine fin_is ?_
      refine fin_nil ?_
      rw [hnp] at htn
      have htn' := htn
      obtain ⟨d6, k6, rfl, _, _, _, _⟩ := htn'.opn
      refine ow_u rfl (exu_storeN 0 rfl rfl rfl rfl htn.one rfl) ?_
      refine ow_nil ?_
      refine qw_seq ?_
      refine cw_seq ?_
      refine cw_seq ?_
      refine cw_region ?_
      refine ow_val rfl rfl (ex_loadR rfl (by first | exact ld_ownN 0 rfl rfl | exact ld_ownN 1 rfl rfl | exact ld_ownN 2 rfl rfl | exact ld_ownN 3 rfl rfl | exact ld_ownN 4 rfl rfl | exact ld_ownN 5 rfl rfl | exact ld_ownN 6 rfl rfl | exact ld_ownN 7 rfl rfl | exact ld_ownGN 0 rfl rfl | exact ld_ownGN 1 rfl rfl | exact ld_immT (by assumption) (by assumption))) ?_
      refine ow_cv rfl rfl (ex_callf rfl (fun w h => callB ((pRight (powT t x) h.im htn)))) ?_
      refine ow_val rfl rfl (ex_not rfl) ?_
      refine ow_nil ?_
      refine qw_seq ?_
      refine cw_cond rfl (fun c37 => ?_) (fun c37 => ?_)
      ·
        refine cw_seq ?_
        refine cw_region ?_
        refine ow_val rfl rfl (ex_build (parts := []) (cells := #[.int .i64 0, .int .i64 0, .slice none 0 0, .slice none 0 0]) rfl (by kernel_rfl)) ?_
        refine ow_u rfl (exu_storeN 1 (cs := [.int .i64 0, .int .i64 0, .slice none 0 0, .slice none 0 0]) rfl rfl rfl rfl (by intro u hu; simp at hu; rcases hu with rfl | rfl <;> rfl) rfl) ?_
        refine ow_val rfl rfl (ex_assign rfl) ?_
        refine ow_nil ?_
        refine qw_seq ?_
        refine cw_ret ?_
        refine qw_then_ret ?_
        refine qw_retC1 rfl rfl (ld_ownN 1 rfl rfl) rfl (fun w' h => ?_)
        have e : pow t x = (zeroT, false) := by
          unfold pow
          rw [if_neg]
          rintro ⟨_, _, _, h4⟩
          rw [h4] at c37
          cases c37
        rw [e]
        exact h.gives hl hf ⟨_, rfl, TermC.mk (by omega) (by omega) (BytesV.nil τ) (KidsV.nil τ)⟩
      ·
        refine cw_skip ?_
        refine qw_seq ?_
        refine cw_seq ?_
        refine cw_region ?_
        refine ow_val rfl rfl (ex_loadR rfl (by first | exact ld_ownN 0 rfl rfl | exact ld_ownN 1 rfl rfl | exact ld_ownN 2 rfl rfl | exact ld_ownN 3 rfl rfl | exact ld_ownN 4 rfl rfl | exact ld_ownN 5 rfl rfl | exact ld_ownN 6 rfl rfl | exact ld_ownN 7 rfl rfl | exact ld_ownGN 0 rfl rfl | exact ld_ownGN 1 rfl rfl | exact ld_immT (by assumption) (by assumption))) ?_
        refine ow_u rfl (exu_storeN 1 rfl rfl rfl rfl htn.one rfl) ?_
        refine ow_val rfl rfl (ex_assign rfl) ?_
        refine ow_nil ?_
        refine qw_seq ?_
        refine cw_ret ?_
        refine qw_retC1 rfl rfl (ld_ownN 1 rfl rfl) rfl (fun w' h => ?_)
        have e : pow t x = (powT t x, true) := by
          unfold pow
          rw [if_pos ⟨hr1, hr2, hop, by simpa using c37⟩]
        rw [e]
        exact h.gives hl hf ⟨_, rfl, htn⟩
end Go.Proofs.YtnjomdjkbbhdoaaGreatDoor
namespace Go.Proofs.YtnjomdjkbbhdoaaGreatDoor
set_option linter.unusedVariables false
set_option maxRecDepth 100000
instance : PtrT Tryz.prog 25 80 := ⟨Tryz.underlying25, _, rfl⟩
instance : PtrT Tryz.prog 26 63 := ⟨Tryz.underlying26, _, rfl⟩
instance : PtrT Tryz.prog 84 89 := ⟨Tryz.underlying84, _, rfl⟩
instance : PtrT Tryz.prog 128 130 := ⟨Tryz.underlying128, _, rfl⟩
instance : BldT Tryz.prog 128 130 180 5 := ⟨Tryz.underlying128, Tryz.underlying180, ⟨_, rfl, of_decide_eq_true (by kernel_rfl)⟩, by kernel_rfl, by decide⟩
instance : ArrT Tryz.prog 141 4 := ⟨2, Tryz.underlying141, by kernel_rfl, Tryz.underlying2⟩
instance : PtrT Tryz.prog 148 5 := ⟨Tryz.underlying148, _, rfl⟩
instance : UStrT Tryz.prog 148 5 := ⟨Tryz.underlying148, by kernel_rfl⟩
instance : PtrT Tryz.prog 177 3 := ⟨Tryz.underlying177, _, rfl⟩
instance : PtrT Tryz.prog 188 173 := ⟨Tryz.underlying188, _, rfl⟩
instance : ByteZ Tryz.prog 5 := ⟨fun i h => by cases h; rfl⟩
instance : NoEscT Tryz.prog 152 := ⟨⟨_, Tryz.func152, by kernel_rfl, rfl, by kernel_rfl, by kernel_rfl⟩⟩
end Go.Proofs.YtnjomdjkbbhdoaaGreatDoor
namespace Go.Proofs
open Go.Shelf
def Tryz.laysM173_ren : Go.Shelf.Ren := ⟨fun | 173 => 116 | 246 => 140 | 283 => 153 | 284 => 154 | 285 => 155 | 286 => 156 | 129 => 136 | 317 => 160 | 318 => 161 | 319 => 162 | 320 => 163 | 337 => 164 | 338 => 165 | n => n, fun | 2 => 2 | 3 => 3 | 9 => 9 | 4 => 4 | 171 => 183 | 0 => 0 | 53 => 165 | 37 => 30 | 5 => 5 | 173 => 185 | 212 => 193 | 51 => 163 | 20 => 20 | 213 => 194 | 46 => 115 | 232 => 195 | 233 => 196 | n => n, fun | 17 => 1 | 18 => 2 | 19 => 3 | n => n⟩
theorem Tryz.laysM173 : Go.Proofs.LaysM.n173 Tryz.prog Tryz.laysM173_ren := {
  mixed := by kernel_rfl
  f129 := Tryz.func136.trans (congrArg some (by kernel_rfl))
  f173 := Tryz.func116.trans (congrArg some (by kernel_rfl))
  f246 := Tryz.func140.trans (congrArg some (by kernel_rfl))
  f283 := Tryz.func153.trans (congrArg some (by kernel_rfl))
  f284 := Tryz.func154.trans (congrArg some (by kernel_rfl))
  f285 := Tryz.func155.trans (congrArg some (by kernel_rfl))
  f286 := Tryz.func156.trans (congrArg some (by kernel_rfl))
  f317 := Tryz.func160.trans (congrArg some (by kernel_rfl))
  f318 := Tryz.func161.trans (congrArg some (by kernel_rfl))
  f319 := Tryz.func162.trans (congrArg some (by kernel_rfl))
  f320 := Tryz.func163.trans (congrArg some (by kernel_rfl))
  f337 := Tryz.func164.trans (congrArg some (by kernel_rfl))
  f338 := Tryz.func165.trans (congrArg some (by kernel_rfl))
  t0 := Tryz.underlying0
  a0 := Tryz.isAgg0
  z0 := Tryz.sizeOf0
  v0 := Tryz.zeroValue0
  t2 := Tryz.underlying2
  a2 := Tryz.isAgg2
  z2 := Tryz.sizeOf2
  v2 := Tryz.zeroValue2
  t3 := Tryz.underlying3
  a3 := Tryz.isAgg3
  z3 := Tryz.sizeOf3
  v3 := Tryz.zeroValue3
  t4 := Tryz.underlying4
  a4 := Tryz.isAgg4
  z4 := Tryz.sizeOf4
  v4 := Tryz.zeroValue4
  t5 := Tryz.underlying5
  a5 := Tryz.isAgg5
  z5 := Tryz.sizeOf5
  v5 := Tryz.zeroValue5
  t9 := Tryz.underlying9
  a9 := Tryz.isAgg9
  z9 := Tryz.sizeOf9
  v9 := Tryz.zeroValue9
  t20 := Tryz.underlying20
  a20 := Tryz.isAgg20
  z20 := Tryz.sizeOf20
  v20 := Tryz.zeroValue20
  t37 := Tryz.underlying30
  a37 := Tryz.isAgg30
  z37 := Tryz.sizeOf30
  v37 := Tryz.zeroValue30
  t46 := Tryz.underlying115
  a46 := Tryz.isAgg115
  z46 := Tryz.sizeOf115
  v46 := Tryz.zeroValue115
  t51 := Tryz.underlying163
  a51 := Tryz.isAgg163
  z51 := Tryz.sizeOf163
  v51 := Tryz.zeroValue163
  t53 := Tryz.underlying165
  a53 := Tryz.isAgg165
  z53 := Tryz.sizeOf165
  v53 := Tryz.zeroValue165
  t171 := Tryz.underlying183
  a171 := Tryz.isAgg183
  z171 := Tryz.sizeOf183
  v171 := Tryz.zeroValue183
  t173 := Tryz.underlying185
  a173 := Tryz.isAgg185
  z173 := Tryz.sizeOf185
  v173 := Tryz.zeroValue185
  t212 := Tryz.underlying193
  a212 := Tryz.isAgg193
  z212 := Tryz.sizeOf193
  v212 := Tryz.zeroValue193
  t213 := Tryz.underlying194
  a213 := Tryz.isAgg194
  z213 := Tryz.sizeOf194
  t232 := Tryz.underlying195
  a232 := Tryz.isAgg195
  z232 := Tryz.sizeOf195
  v232 := Tryz.zeroValue195
  t233 := Tryz.underlying196
  a233 := Tryz.isAgg196
  z233 := Tryz.sizeOf196
  v233 := Tryz.zeroValue196
  g17 := by kernel_rfl
  g18 := by kernel_rfl
  g19 := by kernel_rfl
  i0 := by kernel_rfl
  i2 := by kernel_rfl
  i3 := by kernel_rfl
  i4 := by kernel_rfl
  i5 := by kernel_rfl
  i9 := by kernel_rfl
  i20 := by kernel_rfl
  i37 := by kernel_rfl
  i46 := by kernel_rfl
  i51 := by kernel_rfl
  i53 := by kernel_rfl
  i171 := by kernel_rfl
  i173 := by kernel_rfl
  i212 := by kernel_rfl
  i232 := by kernel_rfl
  i233 := by kernel_rfl
  m17 := by kernel_rfl
  m18 := by kernel_rfl
  m19 := by kernel_rfl }
open Go.RowKit Go.Sort Go.Lib in
theorem Tryz.strconv_FormatInt_10 (n : Int) (h0 : -9223372036854775808 ≤ n) (h1 : n ≤ 9223372036854775807) (w : World) (htab : Lib.TabIs Tryz.prog w "internal/strconv.uint64pow10" .u64 Lib.pow10Tab) :
    Calls Tryz.prog 116 #[.int .i64 n, .int .i64 10] w fun e w' => e = .returned (.string ⟨(Lib.itoa n).toArray⟩) ∧ ∃ k os, w' = grow (w.drewN k) os := Any.strconv_FormatInt_10 Tryz.laysM173 n h0 h1 w htab
end Go.Proofs
namespace Go.Proofs.YtnjomdjkbbhdoaaGreatDoor
open Go.RowKit
set_option linter.unusedVariables false
set_option linter.unusedSimpArgs false
set_option maxRecDepth 100000
theorem pFormatInt {n : Int} (h0 : -9223372036854775808 ≤ n ∧ n ≤ 9223372036854775807) {σ : Hp} {w : World} (hi : Imm σ w) (ht : TabC Tryz.prog σ) : Calls Tryz.prog 116 #[.int .i64 n, .int .i64 10] w fun e w' => e = .returned (.string (strOf (Lib.itoa n))) ∧ Below w.heap.size w w' :=
  (Tryz.strconv_FormatInt_10 n h0.1 h0.2 w (ht.is hi)).mono fun e w' ⟨he, k, os, hw⟩ => by subst hw; exact ⟨he, below_sgrow w k os⟩
set_option maxHeartbeats 400000 in
theorem pCopy0 {b : Nat} {sv : Value} {Gs : List (Nat × Obj)} {σ : Hp} {w : World} (hi : Has σ ((b, .cells #[.pointer none, sv] 130) :: Gs) w) : Calls Tryz.prog 139 #[.pointer (some ⟨b, 0, none⟩)] w (GiveK (fun _ u K' => u = .tuple #[] ∧ K' = (b, .cells #[.pointer (some ⟨b, 0, none⟩), sv] 130) :: Gs) σ ((b, .cells #[.pointer none, sv] 130) :: Gs) w) := by
  refine enter (St w (keysOf ((b, .cells #[.pointer none, sv] 130) :: Gs)) σ [] ((b, .cells #[.pointer none, sv] 130) :: Gs)) Tryz.func139 rfl Tryz.ntmps139 rfl (Has.start hi) ?_
  refine cw_seq ?_
  refine cw_region ?_
  refine ow_val rfl rfl (ex_move rfl) ?_
  refine ow_val rfl rfl (ex_nilck rfl) ?_
  refine ow_val rfl rfl (ex_field rfl) ?_
  refine ow_val rfl rfl (ex_load1 rfl (by first | exact ld_own1 0 rfl rfl | exact ld_own1 1 rfl rfl | exact ld_own1 2 rfl rfl | exact ld_own1 3 rfl rfl | exact ld_own1 4 rfl rfl | exact ld_own1 5 rfl rfl | exact ld_own1 6 rfl rfl | exact ld_own1 7 rfl rfl | exact ld_ownG1 0 rfl rfl | exact ld_ownG1 1 rfl rfl | exact ld_imm1 (by assumption))) ?_
  refine ow_val rfl rfl (ex_ptrnil rfl) ?_
  refine ow_nil ?_
  refine qw_seq ?_
  refine cw_cond rfl (fun c6 => ?_) (fun c6 => ?_)
  ·
    refine cw_region ?_
    refine ow_val rfl rfl (ex_move rfl) ?_
    refine ow_val rfl rfl (ex_move rfl) ?_
    refine ow_val rfl rfl (ex_tounsafe (te := 5) (tb := 130) inferInstance rfl (fun w h => h.ownG (p := (b, _)) List.mem_cons_self)) ?_
    refine ow_val rfl rfl (ex_noesc rfl) ?_
    refine ow_val rfl rfl (ex_fromunsafe (te := 5) (tb := 130) inferInstance rfl (fun w h => h.ownG (p := (b, _)) List.mem_cons_self)) ?_
    refine ow_val rfl rfl (ex_nilck rfl) ?_
    refine ow_val rfl rfl (ex_field rfl) ?_
    refine ow_u rfl (exu_storeG1 0 rfl rfl rfl rfl rfl rfl) ?_
    refine ow_nil ?_
    refine qw_end0 rfl (fun w' h => h.givesK (Le.refl _) (Fresh.refl _ _) ⟨rfl, rfl⟩)
  ·
    simp at c6
set_option maxHeartbeats 400000 in
theorem pCopy1 {b : Nat} {sv : Value} {Gs : List (Nat × Obj)} {σ : Hp} {w : World} (hi : Has σ ((b, .cells #[.pointer (some ⟨b, 0, none⟩), sv] 130) :: Gs) w) : Calls Tryz.prog 139 #[.pointer (some ⟨b, 0, none⟩)] w (GiveK (fun _ u K' => u = .tuple #[] ∧ K' = (b, .cells #[.pointer (some ⟨b, 0, none⟩), sv] 130) :: Gs) σ ((b, .cells #[.pointer (some ⟨b, 0, none⟩), sv] 130) :: Gs) w) := by
  refine enter (St w (keysOf ((b, .cells #[.pointer (some ⟨b, 0, none⟩), sv] 130) :: Gs)) σ [] ((b, .cells #[.pointer (some ⟨b, 0, none⟩), sv] 130) :: Gs)) Tryz.func139 rfl Tryz.ntmps139 rfl (Has.start hi) ?_
  refine cw_seq ?_
  refine cw_region ?_
  refine ow_val rfl rfl (ex_move rfl) ?_
  refine ow_val rfl rfl (ex_nilck rfl) ?_
  refine ow_val rfl rfl (ex_field rfl) ?_
  refine ow_val rfl rfl (ex_load1 rfl (by first | exact ld_own1 0 rfl rfl | exact ld_own1 1 rfl rfl | exact ld_own1 2 rfl rfl | exact ld_own1 3 rfl rfl | exact ld_own1 4 rfl rfl | exact ld_own1 5 rfl rfl | exact ld_own1 6 rfl rfl | exact ld_own1 7 rfl rfl | exact ld_ownG1 0 rfl rfl | exact ld_ownG1 1 rfl rfl | exact ld_imm1 (by assumption))) ?_
  refine ow_val rfl rfl (ex_ptrnil rfl) ?_
  refine ow_nil ?_
  refine qw_seq ?_
  refine cw_cond rfl (fun c6 => ?_) (fun c6 => ?_)
  ·
    simp at c6
  ·
    refine cw_seq ?_
    refine cw_region ?_
    refine ow_val rfl rfl (ex_move rfl) ?_
    refine ow_val rfl rfl (ex_nilck rfl) ?_
    refine ow_val rfl rfl (ex_field rfl) ?_
    refine ow_val rfl rfl (ex_load1 rfl (by first | exact ld_own1 0 rfl rfl | exact ld_own1 1 rfl rfl | exact ld_own1 2 rfl rfl | exact ld_own1 3 rfl rfl | exact ld_own1 4 rfl rfl | exact ld_own1 5 rfl rfl | exact ld_own1 6 rfl rfl | exact ld_own1 7 rfl rfl | exact ld_ownG1 0 rfl rfl | exact ld_ownG1 1 rfl rfl | exact ld_imm1 (by assumption))) ?_
    refine ow_val rfl rfl (ex_move rfl) ?_
    refine ow_val rfl rfl (ex_ptrself rfl rfl) ?_
    refine ow_nil ?_
    refine qw_seq ?_
    refine cw_cond rfl (fun c19 => ?_) (fun c19 => ?_)
    ·
      cases c19
    ·
      refine cw_skip ?_
      refine qw_end0 rfl (fun w' h => h.givesK (Le.refl _) (Fresh.refl _ _) ⟨rfl, rfl⟩)
theorem pCopyCheck {b : Nat} {p sv : Value} {Gs : List (Nat × Obj)} {σ : Hp} {w : World} (hi : Has σ ((b, .cells #[p, sv] 130) :: Gs) w) (hp : p = .pointer none ∨ p = .pointer (some ⟨b, 0, none⟩)) : Calls Tryz.prog 139 #[.pointer (some ⟨b, 0, none⟩)] w (GiveK (fun _ u K' => u = .tuple #[] ∧ K' = (b, .cells #[.pointer (some ⟨b, 0, none⟩), sv] 130) :: Gs) σ ((b, .cells #[p, sv] 130) :: Gs) w) := by
  rcases hp with rfl | rfl
  · exact pCopy0 hi
  · exact pCopy1 hi
set_option maxHeartbeats 400000 in
theorem pWriteString {b : Nat} {bs s : List UInt8} {σ : Hp} {K : List (Nat × Obj)} {w : World} (hi : Has σ K w) (hb : BldK 130 5 b bs σ K) (hl : bs.length + s.length ≤ 140737488355328) : Calls Tryz.prog 115 #[.pointer (some ⟨b, 0, none⟩), .string (strOf s)] w (GiveK (fun σ' u K' => BldK 130 5 b (bs ++ s) σ' K') σ K w) := by
  obtain ⟨p, sv, Gs, rfl, hp, hO⟩ := hb
  refine enter (St w (keysOf ((b, .cells #[p, sv] 130) :: Gs)) σ [] ((b, .cells #[p, sv] 130) :: Gs)) Tryz.func115 rfl Tryz.ntmps115 rfl (Has.start hi) ?_
  refine cw_seq ?_
  refine cw_region ?_
  refine ow_val rfl rfl (ex_assign rfl) ?_
  refine ow_val rfl rfl (ex_assign rfl) ?_
  refine ow_nil ?_
  refine qw_seq ?_
  refine cw_seq ?_
  refine cw_region ?_
  refine ow_val rfl rfl (ex_move rfl) ?_
  refine ow_ckE rfl rfl (ex_callf rfl (fun w h => pCopyCheck h.hasE hp)) (fun v7 σ7 K7 hl7 hf7 hr7 => ?_)
  obtain ⟨rfl, rfl⟩ := hr7
  refine ow_nil ?_
  refine qw_seq ?_
  refine cw_seq ?_
  refine cw_region ?_
  refine ow_val rfl rfl (ex_move rfl) ?_
  refine ow_val rfl rfl (ex_move rfl) ?_
  refine ow_val rfl rfl (ex_nilck rfl) ?_
  refine ow_val rfl rfl (ex_field rfl) ?_
  refine ow_val rfl rfl (ex_load1 rfl (by first | exact ld_own1 0 rfl rfl | exact ld_own1 1 rfl rfl | exact ld_own1 2 rfl rfl | exact ld_own1 3 rfl rfl | exact ld_own1 4 rfl rfl | exact ld_own1 5 rfl rfl | exact ld_own1 6 rfl rfl | exact ld_own1 7 rfl rfl | exact ld_ownG1 0 rfl rfl | exact ld_ownG1 1 rfl rfl | exact ld_imm1 (by assumption))) ?_
  refine ow_val rfl rfl (ex_move rfl) ?_
  refine ow_mono (fun w h => h.ofG) ?_
  refine ow_appS1 rfl rfl rfl rfl hO hl (fun v14 G14 hO14 => ?_)
  refine ow_val rfl rfl (ex_nilck rfl) ?_
  refine ow_val rfl rfl (ex_field rfl) ?_
  refine ow_u rfl (exu_store1 0 rfl rfl rfl hO14.cell.1 hO14.cell.2 rfl) ?_
  refine ow_nil ?_
  refine qw_seq ?_
  refine cw_seq ?_
  refine cw_region ?_
  refine ow_val rfl rfl (ex_move rfl) ?_
  refine ow_val rfl rfl (ex_lenstr (ty := 0) rfl) ?_
  refine ow_val rfl rfl (ex_assign rfl) ?_
  refine ow_val rfl rfl (ex_assign rfl) ?_
  refine ow_nil ?_
  refine qw_seq ?_
  refine cw_ret ?_
  refine qw_ret2 rfl rfl rfl (fun w' h => (St.toG h).givesK hl7 hf7 ⟨_, _, _, rfl, .inr rfl, ?_⟩)
  rw [List.length_append, List.map_append]
  exact hO14
set_option maxHeartbeats 400000 in
theorem pWriteBytes {b : Nat} {bs s : List UInt8} {v : Value} {σ : Hp} {K : List (Nat × Obj)} {w : World} (hi : Has σ K w) (hb : BldK 130 5 b bs σ K) (hv : BytesV σ v s) (hl : bs.length + s.length ≤ 140737488355328) : Calls Tryz.prog 117 #[.pointer (some ⟨b, 0, none⟩), v] w (GiveK (fun σ' u K' => BldK 130 5 b (bs ++ s) σ' K') σ K w) := by
  obtain ⟨p, sv, Gs, rfl, hp, hO⟩ := hb
  obtain ⟨q, c, rfl, hc, hm, hsrc⟩ := hv.row
  have hml : (140737488355328 : Nat) ≤ maxLen := by unfold maxLen; omega
  refine enter (St w (keysOf ((b, .cells #[p, sv] 130) :: Gs)) σ [] ((b, .cells #[p, sv] 130) :: Gs)) Tryz.func117 rfl Tryz.ntmps117 rfl (Has.start hi) ?_
  refine cw_seq ?_
  refine cw_region ?_
  refine ow_val rfl rfl (ex_assign rfl) ?_
  refine ow_val rfl rfl (ex_assign rfl) ?_
  refine ow_nil ?_
  refine qw_seq ?_
  refine cw_seq ?_
  refine cw_region ?_
  refine ow_val rfl rfl (ex_move rfl) ?_
  refine ow_ckE rfl rfl (ex_callf rfl (fun w h => pCopyCheck h.hasE hp)) (fun v7 σ7 K7 hl7 hf7 hr7 => ?_)
  obtain ⟨rfl, rfl⟩ := hr7
  refine ow_nil ?_
  refine qw_seq ?_
  refine cw_seq ?_
  refine cw_region ?_
  refine ow_val rfl rfl (ex_move rfl) ?_
  refine ow_val rfl rfl (ex_move rfl) ?_
  refine ow_val rfl rfl (ex_nilck rfl) ?_
  refine ow_val rfl rfl (ex_field rfl) ?_
  refine ow_val rfl rfl (ex_load1 rfl (by first | exact ld_own1 0 rfl rfl | exact ld_own1 1 rfl rfl | exact ld_own1 2 rfl rfl | exact ld_own1 3 rfl rfl | exact ld_own1 4 rfl rfl | exact ld_own1 5 rfl rfl | exact ld_own1 6 rfl rfl | exact ld_own1 7 rfl rfl | exact ld_ownG1 0 rfl rfl | exact ld_ownG1 1 rfl rfl | exact ld_imm1 (by assumption))) ?_
  refine ow_val rfl rfl (ex_move rfl) ?_
  refine ow_mono (fun w h => h.ofG) ?_
  refine ow_app1 rfl rfl (exw_append1 (news := s.map byteV) rfl rfl hO (by simp) (hsrc.imp id fun ⟨b, f, hp, hca⟩ => ⟨b, f, hp, fun w h => (hca.le hl7).range h.im⟩) (bytes_one s) (by omega) (by omega)) (fun v14 G14 hO14 hz14 => ?_)
  refine ow_val rfl rfl (ex_nilck rfl) ?_
  refine ow_val rfl rfl (ex_field rfl) ?_
  refine ow_u rfl (exu_store1 0 rfl rfl rfl hO14.cell.1 hO14.cell.2 rfl) ?_
  refine ow_nil ?_
  refine qw_seq ?_
  refine cw_seq ?_
  refine cw_region ?_
  refine ow_val rfl rfl (ex_move rfl) ?_
  refine ow_val rfl rfl (ex_len (ty := 0) rfl) ?_
  refine ow_val rfl rfl (ex_assign rfl) ?_
  refine ow_val rfl rfl (ex_assign rfl) ?_
  refine ow_nil ?_
  refine qw_seq ?_
  refine cw_ret ?_
  refine qw_ret2 rfl rfl rfl (fun w' h => (St.toG h).givesK hl7 hf7 ⟨_, _, _, rfl, .inr rfl, ?_⟩)
  rw [List.length_append, List.map_append]
  exact hO14
set_option maxHeartbeats 400000 in
theorem pBldString {b : Nat} {bs : List UInt8} {σ : Hp} {K : List (Nat × Obj)} {w : World} (hi : Has σ K w) (hb : BldK 130 5 b bs σ K) (hne : bs ≠ []) (hl : bs.length ≤ 140737488355328) : Calls Tryz.prog 100 #[.pointer (some ⟨b, 0, none⟩)] w (GiveK (fun σ' u K' => u = .string (strOf bs) ∧ K' = []) σ K w) := by
  obtain ⟨p, sv, Gs, rfl, hp, hO⟩ := hb
  have hpos : 0 < bs.length := List.length_pos_iff.2 hne
  obtain ⟨g, c, tl, rfl, rfl, hnc, hcm, hlen⟩ := hO.open hpos
  refine enter (St w (keysOf [(b, .cells #[p, .slice (some ⟨g, 0, none⟩) bs.length c] 130), (g, rowO (bs.map byteV) tl 5)]) σ [] [(b, .cells #[p, .slice (some ⟨g, 0, none⟩) bs.length c] 130), (g, rowO (bs.map byteV) tl 5)]) Tryz.func100 rfl Tryz.ntmps100 rfl (Has.start hi) ?_
  refine cw_seq ?_
  refine cw_region ?_
  refine ow_val rfl rfl (ex_assign rfl) ?_
  refine ow_nil ?_
  refine qw_seq ?_
  refine cw_seq ?_
  refine flow_sound 10 (by kernel_rfl) ?_
  refine flow_val rfl (ex_move rfl) ?_
  refine flow_val rfl (ex_nilck rfl) ?_
  refine flow_val rfl (ex_field rfl) ?_
  refine flow_val rfl (ex_load1 rfl (by first | exact ld_own1 0 rfl rfl | exact ld_own1 1 rfl rfl | exact ld_own1 2 rfl rfl | exact ld_own1 3 rfl rfl | exact ld_own1 4 rfl rfl | exact ld_own1 5 rfl rfl | exact ld_own1 6 rfl rfl | exact ld_own1 7 rfl rfl | exact ld_ownG1 0 rfl rfl | exact ld_ownG1 1 rfl rfl | exact ld_imm1 (by assumption))) ?_
  refine flow_val rfl (ex_sldata rfl (by omega)) ?_
  refine flow_val rfl (ex_move rfl) ?_
  refine flow_val rfl (ex_nilck rfl) ?_
  refine flow_val rfl (ex_field rfl) ?_
  refine flow_val rfl (ex_load1 rfl (by first | exact ld_own1 0 rfl rfl | exact ld_own1 1 rfl rfl | exact ld_own1 2 rfl rfl | exact ld_own1 3 rfl rfl | exact ld_own1 4 rfl rfl | exact ld_own1 5 rfl rfl | exact ld_own1 6 rfl rfl | exact ld_own1 7 rfl rfl | exact ld_ownG1 0 rfl rfl | exact ld_ownG1 1 rfl rfl | exact ld_imm1 (by assumption))) ?_
  refine flow_val rfl (ex_len (ty := 0) rfl) ?_
  refine flow_nil ?_
  refine fin_is ?_
  refine fin_is ?_
  refine fin_is ?_
  refine fin_is ?_
  refine fin_is ?_
  refine fin_is ?_
  refine fin_is ?_
  refine fin_is ?_
  refine fin_is ?_
  refine fin_is ?_
  refine fin_nil ?_
  refine ow_mono (fun w h => h.permG (List.Perm.swap _ _ _)) ?_
  refine ow_ustr (arr := (bs.map byteV ++ tl).toArray) rfl rfl rfl rfl hne (by simp) (by omega) (by simp) ?_
  refine ow_val rfl rfl (ex_assign rfl) ?_
  refine ow_nil ?_
  refine qw_seq ?_
  refine cw_ret ?_
  refine qw_ret1 rfl rfl (fun w' h => (h.dropG (List.nil_sublist _)).givesK (Le.refl _) (Fresh.refl _ _) ⟨rfl, rfl⟩)
set_option maxHeartbeats 400000 in
theorem pWrite : ∀ (t : T) {b : Nat} {bs : List UInt8} {ct : List Value} {σ : Hp} {K : List (Nat × Obj)} {w : World}, Has σ K w → TabC Tryz.prog σ → BldK 130 5 b bs σ K → TermC σ ct t → bs.length + (keyB t).length ≤ 140737488355328 → Calls Tryz.prog 99 #[.pointer (some ⟨b, 0, none⟩), .agg ct.toArray] w (GiveK (fun σ' u K' => BldK 130 5 b (bs ++ keyB t) σ' K') σ K w) := by
  intro t
  induction t using T.ind with
  | _ o n d ks ih =>
  intro b bs ct σ K w hi htab hb ht hlim
  obtain ⟨dv, kv, rfl, ho, hn, hd, hk⟩ := ht.opn
  simp only [T.kids, T.op, T.num, T.data] at *
  obtain ⟨p, c, rfl, hc, hm⟩ := hk.slice
  obtain ⟨pd, cd, rfl, hcd, hmd⟩ := hd.slice
  have hm2 := hm
  have hmd2 := hmd
  unfold maxKids at hm2
  unfold maxData at hmd2
  rw [keyB_mk] at hlim
  simp only [List.length_append] at hlim
  have hzs : ∀ z ∈ [o, n, (d.length : Int), (ks.length : Int)], -9223372036854775808 ≤ z ∧ z ≤ 9223372036854775807 := by
    intro z hz
    simp only [List.mem_cons, List.not_mem_nil, or_false] at hz
    rcases hz with rfl | rfl | rfl | rfl <;> omega
  have hhd := hdrB_head o n d.length ks.length
  have hhl : (hdrB [o, n, (d.length : Int), (ks.length : Int)]).length = (headB o n d.length ks.length).length := by rw [hhd]
  refine enter (St w (keysOf K) σ [] K) Tryz.func99 rfl Tryz.ntmps99 rfl (Has.start hi) ?_
  refine cw_seq ?_
  refine cw_region ?_
  refine ow_blk rfl rfl (exw_box rfl) ?_; intro b3
  refine ow_nil ?_
  refine qw_seq ?_
  refine cw_seq ?_
  refine cw_seq ?_
  refine cw_region ?_
  refine ow_val rfl rfl (ex_field rfl) ?_
  refine ow_val rfl rfl (ex_load1 rfl (by first | exact ld_own1 0 rfl rfl | exact ld_own1 1 rfl rfl | exact ld_own1 2 rfl rfl | exact ld_own1 3 rfl rfl | exact ld_own1 4 rfl rfl | exact ld_own1 5 rfl rfl | exact ld_own1 6 rfl rfl | exact ld_own1 7 rfl rfl | exact ld_ownG1 0 rfl rfl | exact ld_ownG1 1 rfl rfl | exact ld_imm1 (by assumption))) ?_
  refine ow_val rfl rfl (ex_field rfl) ?_
  refine ow_val rfl rfl (ex_load1 rfl (by first | exact ld_own1 0 rfl rfl | exact ld_own1 1 rfl rfl | exact ld_own1 2 rfl rfl | exact ld_own1 3 rfl rfl | exact ld_own1 4 rfl rfl | exact ld_own1 5 rfl rfl | exact ld_own1 6 rfl rfl | exact ld_own1 7 rfl rfl | exact ld_ownG1 0 rfl rfl | exact ld_ownG1 1 rfl rfl | exact ld_imm1 (by assumption))) ?_
  refine ow_val rfl rfl (ex_field rfl) ?_
  refine ow_val rfl rfl (ex_load1 rfl (by first | exact ld_own1 0 rfl rfl | exact ld_own1 1 rfl rfl | exact ld_own1 2 rfl rfl | exact ld_own1 3 rfl rfl | exact ld_own1 4 rfl rfl | exact ld_own1 5 rfl rfl | exact ld_own1 6 rfl rfl | exact ld_own1 7 rfl rfl | exact ld_ownG1 0 rfl rfl | exact ld_ownG1 1 rfl rfl | exact ld_imm1 (by assumption))) ?_
  refine ow_val rfl rfl (ex_len (ty := 0) rfl) ?_
  refine ow_val rfl rfl (ex_field rfl) ?_
  refine ow_val rfl rfl (ex_load1 rfl (by first | exact ld_own1 0 rfl rfl | exact ld_own1 1 rfl rfl | exact ld_own1 2 rfl rfl | exact ld_own1 3 rfl rfl | exact ld_own1 4 rfl rfl | exact ld_own1 5 rfl rfl | exact ld_own1 6 rfl rfl | exact ld_own1 7 rfl rfl | exact ld_ownG1 0 rfl rfl | exact ld_ownG1 1 rfl rfl | exact ld_imm1 (by assumption))) ?_
  refine ow_val rfl rfl (ex_len (ty := 0) rfl) ?_
  refine ow_val rfl rfl (ex_build (parts := [(0, _), (1, _), (2, _), (3, _)]) (cells := (intsV [o, n, (d.length : Int), (ks.length : Int)]).toArray) rfl (by kernel_rfl)) ?_
  refine ow_val rfl rfl (ex_move rfl) ?_
  refine ow_nil ?_
  refine qw_seq ?_
  refine cw_block ?_
  refine cw_loop3 (fun (i : Nat) (τ : Hp) (K' : List (Nat × Obj)) => [(0, .pointer (some ⟨b, 0, none⟩)), (3, .pointer (some ⟨b3, 0, none⟩)), (18, .agg (intsV [o, n, (d.length : Int), (ks.length : Int)]).toArray), (19, .int .i64 (i : Int))]) (fun i τ K' => i ≤ 4 ∧ Le σ τ ∧ Fresh σ τ w ∧ BldK 130 5 b (bs ++ hdrB ([o, n, (d.length : Int), (ks.length : Int)].take i)) τ K') (fun i τ K' => τ) (fun i τ K' => K') (fun i _ _ => 4 - i) 0 σ K (subL_cons (lkv rfl (by first | rfl | simp)) (subL_cons (lkv rfl (by first | rfl | simp)) (subL_cons (lkv rfl (by first | rfl | simp)) (subL_cons (lkv rfl (by first | rfl | simp)) (subL_nil _))))) ⟨Nat.zero_le _, Le.refl _, Fresh.refl _ _, by simpa [hdrB] using hb⟩ (fun w h => h) ?_
  intro i τ K' ⟨hle, hlt, hft, hbk⟩
  refine cw_seq ?_
  refine cw_region ?_
  refine ow_val rfl rfl (ex_lss rfl rfl) ?_
  refine ow_nil ?_
  refine qw_seq ?_
  refine cw_seq ?_
  refine cw_cond rfl (fun c20 => ?_) (fun c20 => ?_)
  ·
    refine cw_skip ?_
    refine qw_seq ?_
    refine cw_seq ?_
    refine cw_block ?_
    refine cw_seq ?_
    have hlt4 : i < 4 := by have := of_decide_eq_true c20; omega
    have hz := hzs [o, n, (d.length : Int), (ks.length : Int)][i] (List.getElem_mem (by simp; omega))
    have hzl := itoa_len hz
    have hst := hdrB_take [o, n, (d.length : Int), (ks.length : Int)] i (by simp; omega)
    have hsl := hdrB_take_le [o, n, (d.length : Int), (ks.length : Int)] (i + 1)
    rw [hst] at hsl
    simp only [List.length_append, List.length_cons, List.length_nil] at hsl
    refine cw_region ?_
    refine ow_val rfl rfl (ex_arr rfl rfl (show i < [o, n, (d.length : Int), (ks.length : Int)].length by simp; omega) rfl) ?_
    refine ow_val rfl rfl (ex_assign rfl) ?_
    refine ow_nil ?_
    refine qw_seq ?_
    refine cw_region ?_
    refine ow_val rfl rfl (ex_move rfl) ?_
    refine ow_val rfl rfl (ex_move rfl) ?_
    refine ow_cv rfl rfl (ex_callf rfl (fun w h => callB ((pFormatInt hz h.im (htab.le hlt))))) ?_
    refine ow_val rfl rfl (ex_stradd (b := [44]) rfl rfl (by simp only [List.length_cons, List.length_nil]; omega)) ?_
    refine ow_ckE rfl rfl (ex_callf rfl (fun w h => pWriteString h.hasE hbk (by simp only [List.length_append, List.length_cons, List.length_nil]; omega))) (fun v26 τ26 K26 hl26 hf26 hr26 => ?_)
    refine ow_nil ?_
    refine qw_block_normal ?_
    refine qw_seq ?_
    refine cw_region ?_
    refine ow_val rfl rfl (ex_addi (z := ((i + 1 : Nat) : Int)) rfl rfl (by omega) (by omega) (by omega)) ?_
    refine ow_val rfl rfl (ex_move rfl) ?_
    refine ow_nil ?_
    refine qw_round3 (i + 1) τ26 K26 (by omega) (subL_cons (lkv rfl (by first | rfl | simp)) (subL_cons (lkv rfl (by first | rfl | simp)) (subL_cons (lkv rfl (by first | rfl | simp)) (subL_cons (lkv rfl (by first | rfl | simp)) (subL_nil _))))) ⟨by omega, hlt.trans hl26, hft.trans hf26, ?_⟩ (fun w h => h)
    rw [hst, ← List.append_assoc]
    exact hr26
  ·
    refine cw_exit ?_
    refine qw_then_exit ?_
    refine qw_then_exit ?_
    refine qw_block_exit ?_
    refine qw_seq ?_
    refine cw_seq ?_
    have he4 : i = 4 := by have := of_decide_eq_false c20; omega
    subst he4
    rw [show ([o, n, (d.length : Int), (ks.length : Int)].take 4) = [o, n, (d.length : Int), (ks.length : Int)] from rfl, hhd] at hbk
    refine cw_region ?_
    refine ow_val rfl rfl (ex_move rfl) ?_
    refine ow_val rfl rfl (ex_field rfl) ?_
    refine ow_val rfl rfl (ex_load1 rfl (by first | exact ld_own1 0 rfl rfl | exact ld_own1 1 rfl rfl | exact ld_own1 2 rfl rfl | exact ld_own1 3 rfl rfl | exact ld_own1 4 rfl rfl | exact ld_own1 5 rfl rfl | exact ld_own1 6 rfl rfl | exact ld_own1 7 rfl rfl | exact ld_ownG1 0 rfl rfl | exact ld_ownG1 1 rfl rfl | exact ld_imm1 (by assumption))) ?_
    refine ow_ckE rfl rfl (ex_callf rfl (fun w h => pWriteBytes h.hasE hbk (hd.le hlt) (by simp only [List.length_append]; omega))) (fun v31 τ31 K31 hl31 hf31 hr31 => ?_)
    refine ow_nil ?_
    refine qw_seq ?_
    refine cw_seq ?_
    refine cw_region ?_
    refine ow_val rfl rfl (ex_field rfl) ?_
    refine ow_val rfl rfl (ex_load1 rfl (by first | exact ld_own1 0 rfl rfl | exact ld_own1 1 rfl rfl | exact ld_own1 2 rfl rfl | exact ld_own1 3 rfl rfl | exact ld_own1 4 rfl rfl | exact ld_own1 5 rfl rfl | exact ld_own1 6 rfl rfl | exact ld_own1 7 rfl rfl | exact ld_ownG1 0 rfl rfl | exact ld_ownG1 1 rfl rfl | exact ld_imm1 (by assumption))) ?_
    refine ow_val rfl rfl (ex_len (ty := 0) rfl) ?_
    refine ow_val rfl rfl (ex_move rfl) ?_
    refine ow_nil ?_
    refine qw_seq ?_
    refine cw_block ?_
    refine cw_loop3 (fun (j : Nat) (τ : Hp) (K' : List (Nat × Obj)) => [(0, .pointer (some ⟨b, 0, none⟩)), (3, .pointer (some ⟨b3, 0, none⟩)), (33, .slice p ks.length c), (34, .int .i64 (ks.length : Int)), (35, .int .i64 (j : Int))]) (fun j τ K' => j ≤ ks.length ∧ Le σ τ ∧ Fresh σ τ w ∧ BldK 130 5 b (bs ++ headB o n d.length ks.length ++ d ++ keysB (ks.take j)) τ K') (fun i τ K' => τ) (fun i τ K' => K') (fun j _ _ => ks.length - j) 0 τ31 K31 (subL_cons (lkv rfl (by first | rfl | simp)) (subL_cons (lkv rfl (by first | rfl | simp)) (subL_cons (lkv rfl (by first | rfl | simp)) (subL_cons (lkv rfl (by first | rfl | simp)) (subL_cons (lkv rfl (by first | rfl | simp)) (subL_nil _)))))) ⟨Nat.zero_le _, hlt.trans hl31, hft.trans hf31, by simpa [keysB] using hr31⟩ (fun w h => h) ?_
    intro j τj Kj ⟨hlej, hlj, hfj, hbj⟩
    refine cw_seq ?_
    refine cw_region ?_
    refine ow_val rfl rfl (ex_lss rfl rfl) ?_
    refine ow_nil ?_
    refine qw_seq ?_
    refine cw_seq ?_
    refine cw_cond rfl (fun c36 => ?_) (fun c36 => ?_)
    ·
      refine cw_skip ?_
      refine qw_seq ?_
      refine cw_seq ?_
      refine cw_block ?_
      refine cw_seq ?_
      have hlt2 : j < ks.length := by simpa using c36
      obtain ⟨bk, f, c', cs, e1, e2, hc1, ht1⟩ := hk.get j hlt2
      cases e1
      have ht1' := ht1
      obtain ⟨d9, k9, rfl, _, _, _, _⟩ := ht1'.opn
      have hst := keysB_take ks j hlt2
      have hsl := keysB_take_le ks (j + 1)
      rw [hst, List.length_append] at hsl
      refine cw_region ?_
      refine ow_val rfl rfl (ex_index_nat rfl rfl (by omega)) ?_
      refine ow_val rfl rfl (ex_loadR rfl (ld_immT (hc1.le hlj) (ht1.le hlj))) ?_
      refine ow_blk rfl rfl exw_alloc ?_; intro b7
      refine ow_u rfl (exu_storeN 0 rfl rfl rfl rfl ht1.one rfl) ?_
      refine ow_nil ?_
      refine qw_seq ?_
      refine cw_region ?_
      refine ow_val rfl rfl (ex_move rfl) ?_
      refine ow_val rfl rfl (ex_loadR rfl (by first | exact ld_ownN 0 rfl rfl | exact ld_ownN 1 rfl rfl | exact ld_ownN 2 rfl rfl | exact ld_ownN 3 rfl rfl | exact ld_ownN 4 rfl rfl | exact ld_ownN 5 rfl rfl | exact ld_ownN 6 rfl rfl | exact ld_ownN 7 rfl rfl | exact ld_ownGN 0 rfl rfl | exact ld_ownGN 1 rfl rfl | exact ld_immT (by assumption) (by assumption))) ?_
      refine ow_ckE rfl rfl (ex_callf rfl (fun w h => ih _ (List.getElem_mem hlt2) h.hasE (htab.le hlj) hbj (ht1.le hlj) (by simp only [List.length_append]; omega))) (fun v41 τ41 K41 hl41 hf41 hr41 => ?_)
      refine ow_nil ?_
      refine qw_block_normal ?_
      refine qw_seq ?_
      refine cw_region ?_
      refine ow_val rfl rfl (ex_addi (z := ((j + 1 : Nat) : Int)) rfl rfl (by omega) (by omega) (by omega)) ?_
      refine ow_val rfl rfl (ex_move rfl) ?_
      refine ow_nil ?_
      refine qw_round3 (j + 1) τ41 K41 (by omega) (subL_cons (lkv rfl (by first | rfl | simp)) (subL_cons (lkv rfl (by first | rfl | simp)) (subL_cons (lkv rfl (by first | rfl | simp)) (subL_cons (lkv rfl (by first | rfl | simp)) (subL_cons (lkv rfl (by first | rfl | simp)) (subL_nil _)))))) ⟨by omega, hlj.trans hl41, hfj.trans hf41, ?_⟩ (fun w h => h.drop (List.sublist_cons_self _ _))
      rw [hst, ← List.append_assoc]
      exact hr41
    ·
      refine cw_exit ?_
      refine qw_then_exit ?_
      refine qw_then_exit ?_
      refine qw_block_exit ?_
      refine qw_end0 rfl (fun w' h => (h.drop (List.nil_sublist _)).givesK hlj hfj ?_)
      have he : j = ks.length := by simp at c36; omega
      subst he
      rw [List.take_length] at hbj
      rw [keyB_mk]
      simpa [List.append_assoc] using hbj
set_option maxHeartbeats 400000 in
theorem pKey (t : T) {ct : List Value} {σ : Hp} {w : World} (hi : Imm σ w) (htab : TabC Tryz.prog σ) (ht : TermC σ ct t) (hl : (keyB t).length ≤ 140737488355328) : Calls Tryz.prog 70 #[.agg ct.toArray] w fun e w' => e = .returned (.string (strOf (keyB t))) ∧ Below w.heap.size w w' := by
  have ht0 := ht
  obtain ⟨dv, kv, rfl, ho, hn, hd, hk⟩ := ht.opn
  have hne : keyB t ≠ [] := by
    cases t
    rw [keyB_mk]
    simp [headB]
  refine enter (St w (fun _ => False) σ [] []) Tryz.func70 rfl Tryz.ntmps70 rfl (St.start hi) ?_
  refine cw_seq ?_
  refine cw_region ?_
  refine ow_blk rfl rfl (exw_box rfl) ?_; intro b1
  refine ow_val rfl rfl (ex_assign rfl) ?_
  refine ow_nil ?_
  refine qw_seq ?_
  refine cw_seq ?_
  refine cw_region ?_
  refine ow_blk rfl rfl exw_alloc ?_; intro b3
  refine ow_nil ?_
  refine qw_seq ?_
  refine cw_seq ?_
  refine cw_region ?_
  refine ow_val rfl rfl (ex_loadR rfl (by first | exact ld_ownN 0 rfl rfl | exact ld_ownN 1 rfl rfl | exact ld_ownN 2 rfl rfl | exact ld_ownN 3 rfl rfl | exact ld_ownN 4 rfl rfl | exact ld_ownN 5 rfl rfl | exact ld_ownN 6 rfl rfl | exact ld_ownN 7 rfl rfl | exact ld_ownGN 0 rfl rfl | exact ld_ownGN 1 rfl rfl | exact ld_immT (by assumption) (by assumption))) ?_
  refine ow_mono (fun w h => h.toG) ?_
  refine ow_ckE rfl rfl (ex_callf rfl (fun w h => pWrite t (bs := []) h.hasE htab ⟨.pointer none, .slice none 0 0, [], rfl, .inl rfl, OwnSl.nil _ _⟩ ht0 (by simpa using hl))) (fun v5 τ5 K5 hl5 hf5 hr5 => ?_)
  rw [List.nil_append] at hr5
  refine ow_nil ?_
  refine qw_seq ?_
  refine cw_seq ?_
  refine cw_region ?_
  refine ow_ckE rfl rfl (ex_callf rfl (fun w h => pBldString h.hasE hr5 hne hl)) (fun v6 τ6 K6 hl6 hf6 hr6 => ?_)
  obtain ⟨rfl, rfl⟩ := hr6
  refine ow_val rfl rfl (ex_assign rfl) ?_
  refine ow_nil ?_
  refine qw_seq ?_
  refine cw_ret ?_
  refine qw_ret1 rfl rfl (fun w' h => ⟨rfl, h.ag.below⟩)
end Go.Proofs.YtnjomdjkbbhdoaaGreatDoor
namespace Go.Proofs.YtnjomdjkbbhdoaaGreatDoor
open Go.RowKit
set_option linter.unusedVariables false
structure SeenV (σ : Hp) (b : Nat) (ts : List T) (p : Option Addr) (c m : Nat) : Prop where
  c0 : CellsAt σ b 0 [.slice p ts.length c]
  c1 : CellsAt σ b 1 [.map (some m)]
  mp : σ m = some (mapObj ts)
  cap : ts.length ≤ c
  few : ts.length ≤ 4096
  tab : TabI ts
theorem OwnSl.slice {e size n : Nat} {v : Value} {xs : List Value} {Gs : List (Nat × Obj)} (h : OwnSl e size v n xs Gs) : ∃ p c, v = .slice p n c ∧ n ≤ c := by
  rcases h.2 with ⟨rfl, rfl, _⟩ | ⟨g, c, cur, rfl, _, h2, _⟩
  · exact ⟨_, _, rfl, Nat.le_refl _⟩
  · exact ⟨_, _, rfl, h2⟩
theorem VaultK.seen {tv te : TypeId} {b : Nat} {ts : List T} {σ τ : Hp} {K : List (Nat × Obj)} (h : VaultK tv te b ts σ K) (hs : ∀ q ∈ K, τ q.1 = some q.2) : ∃ p c m, SeenV τ b ts p c m := by
  obtain ⟨sv, xs, m, Gs, rfl, hO, hr, ht, hl⟩ := h
  obtain ⟨p, c, rfl, hc⟩ := hO.slice
  exact ⟨p, c, m, CellsAt.of1 (hs _ (List.mem_cons_self)) rfl, CellsAt.of1 (hs _ (List.mem_cons_self)) rfl, hs (m, mapObj ts) (by simp), hc, hl, ht⟩
theorem VaultK.seenX {tv te : TypeId} {b : Nat} {ts : List T} {σ : Hp} {K : List (Nat × Obj)} {w : World} (h : VaultK tv te b ts σ K) (hi : Has σ K w) : ∃ p c m, SeenV (exts σ K) b ts p c m :=
  h.seen fun q hq => exts_get hi.nd hq
theorem VaultK.nd {tv te : TypeId} {b : Nat} {ts : List T} {σ : Hp} {K : List (Nat × Obj)} (h : VaultK tv te b ts σ K) : TabI ts ∧ ts.length ≤ 4096 := by
  obtain ⟨sv, xs, m, Gs, rfl, hO, hr, ht, hl⟩ := h
  exact ⟨ht, hl⟩
theorem setX_snoc {xs co cs : List Value} {n : Nat} (hx : xs.length = n * 4) (hc : co.length = 4) : setX (xs ++ co) n cs = xs ++ cs := by
  unfold setX
  rw [List.take_append, List.drop_append, ← hx, List.take_length, Nat.sub_self, List.take_zero, List.append_nil, List.drop_eq_nil_of_le (by omega), show xs.length + 4 - xs.length = co.length by omega, List.drop_length]
  simp
def mostN : Nat → Nat
  | 0 => 0
  | n + 1 => 1 + 4 * mostN n
theorem mostN_16 : mostN 16 ≤ maxKids := by decide
theorem sizes_len {B : Nat} : ∀ {ks : List T}, (∀ k ∈ ks, size k ≤ B) → sizes ks ≤ ks.length * B
  | [], _ => by simp [sizes]
  | k :: r, h => by
    have h1 := h k (by simp)
    have h2 := sizes_len (B := B) (ks := r) (fun x hx => h x (List.mem_cons_of_mem _ hx))
    simp only [sizes, List.length_cons, Nat.add_mul]
    omega
theorem rightD_size : ∀ (t : T) {dp : Nat}, rightD t dp = true → size t ≤ mostN (16 - dp) := by
  intro t
  induction t using T.ind with
  | _ o n d ks ih =>
    intro dp h
    rw [rightD_mk] at h
    simp only [Bool.and_eq_true, decide_eq_true_eq] at h
    obtain ⟨⟨⟨h1, h2⟩, h3⟩, h4⟩ := h
    have hk := shape_kids h2
    have hb : ∀ k ∈ ks, size k ≤ mostN (16 - (dp + 1)) := fun k hm => by
      obtain ⟨i, hi, rfl⟩ := List.mem_iff_getElem.1 hm
      exact ih _ hm (rightsD_iff.1 h3 i hi)
    have hks := sizes_len hb
    have hm : ks.length * mostN (16 - (dp + 1)) ≤ 4 * mostN (16 - (dp + 1)) := Nat.mul_le_mul_right _ hk
    rw [show 16 - dp = (16 - (dp + 1)) + 1 by omega]
    simp only [size, mostN]
    omega
theorem right_size {t : T} (h : right t = true) : size t ≤ maxKids := Nat.le_trans (rightD_size t h) mostN_16
theorem right_slim {t : T} (h : right t = true) : norm t = t ∧ slim 19 t := ⟨(right_norm h).1, slim_mono (by decide) _ (right_norm h).2⟩
theorem zeroT_c (σ : Hp) : TermC σ [.int .i64 0, .int .i64 0, .slice none 0 0, .slice none 0 0] zeroT := TermC.mk (by omega) (by omega) (BytesV.nil σ) (KidsV.nil σ)
theorem right_lim {t : T} (h : right t = true) : (keyB t).length ≤ 140737488355328 := Nat.le_trans (right_key h) (by unfold maxKey; decide)
theorem putVs_len (ks ts : List T) (i : Nat) : (putVs (ks.take i) ts).length ≤ ts.length + sizes (ks.take i) := by
  obtain ⟨es, h, h2, _⟩ := putVs_ext (ks.take i) ts
  rw [h, List.length_append]; omega
end Go.Proofs.YtnjomdjkbbhdoaaGreatDoor
namespace Go.Proofs.YtnjomdjkbbhdoaaGreatDoor
open Go.RowKit
set_option linter.unusedVariables false
def drawT (N : Nat) (l : List Oper) (n : Nat) : Bool :=
  Nat.blt n l.length && ownDst N (l.take n) && aheadB 0 l && (match l[n]? with
    | some o => waitsB l o [] n
    | none => false) && (List.range l.length).all fun t => decide (t ≤ n) || (match l[t]? with
      | some o => memN n (depsL o.after.toList)
      | none => false)
theorem flow_soundT {P : Program} {l : List Oper} {L : TL} {S : World → Prop} [hSta : Sta S] {N : Nat} {Q : Exit → Act → World → Prop} {id : Nat} [hm : MixT P] (n : Nat) (hB : drawT N l n = true)
    (h : Flow P l (Go.Proofs.YtnjomdjkbbhdoaaGreatDoor.cut (l.take n) L) S N (fun K => ∀ a w, Fr N (Go.Proofs.YtnjomdjkbbhdoaaGreatDoor.cut (l.take n) L) a → S w → (∀ e ∈ K, ∃ v, a.tmps[e.d]? = some v ∧ e.p.holds w v) → wpAny P .any l.toArray Q (l.length - n) (firsts n l.length) a w) (l.take n) 0 []) :
    CW P (.region id l.toArray true) Q N L S := by
  simp only [drawT, Bool.and_eq_true] at hB
  obtain ⟨⟨⟨⟨hn, hown⟩, hahead⟩, hwt⟩, hstar⟩ := hB
  have hn2 : n < l.length := by have := hn; simp [Nat.blt] at this; omega
  have hn' : n ≤ l.length := by omega
  obtain ⟨on, hon, hwn⟩ : ∃ o, l[n]? = some o ∧ waitsB l o [] n = true := by
    cases hl : l[n]? with
    | none => rw [hl] at hwt; cases hwt
    | some o => rw [hl] at hwt; exact ⟨o, rfl, hwt⟩
  obtain ⟨Kf, hfin, -, hK, hcov, huni⟩ := flow_all (l.take n) 0 [] (fun j hj => by
    rw [List.length_take] at hj
    rw [List.getElem?_take_of_lt (by omega)]; simp) (fun _ he => absurd he List.not_mem_nil) h
  have hK' : ∀ e ∈ Kf, e.j < n ∧ ∃ o, l[e.j]? = some o ∧ o.dst = some e.d ∧ e.p.pers ∧ ∀ a w, Fr N (Go.Proofs.YtnjomdjkbbhdoaaGreatDoor.cut (l.take n) L) a → S w →
      (∀ e' ∈ Kf, edge o.after.toList e'.j = true → ∃ v, a.tmps[e'.d]? = some v ∧ e'.p.holds w v) → stepOK P l o a w e.p := fun e he => by
    rcases hK e he with h0 | ⟨_, h1, h2⟩
    · cases h0
    · exact ⟨by rw [List.length_take] at h1; omega, h2⟩
  have hsz : l.toArray.size = l.length := by simp
  have key : ∀ (g : Nat) (listed : Array Bool) (a : Act) (w : World), HeadInv .any l.toArray n listed → cnt listed n = g → Fr N (Go.Proofs.YtnjomdjkbbhdoaaGreatDoor.cut (l.take n) L) a → S w →
      (∀ e ∈ Kf, listed.getD e.j true = true → ∃ v, a.tmps[e.d]? = some v ∧ e.p.holds w v) → wpAny P .any l.toArray Q (g + (l.length - n)) listed a w := by
    intro g
    induction g with
    | zero =>
      intro listed a w inv hc hf hs hk
      have hall := cnt_zero hc
      have hlist : listed = firsts n l.length := by
        apply Array.ext_getElem?
        intro i
        have hs1 : listed.size = l.length := by rw [inv.size, hsz]
        unfold firsts
        rcases Nat.lt_or_ge i n with h1 | h1
        · have := hall i h1
          have hi : i < listed.size := by omega
          simp [hi] at this
          simp [hi, this, List.getElem?_append, h1]
        · rcases Nat.lt_or_ge i l.length with h2 | h2
          · have := inv.tail i h1 (by rw [hsz]; exact h2)
            have hi : i < listed.size := by omega
            simp [hi] at this
            simp [hi, this, List.getElem?_append, show ¬ i < n by omega, show i - n < l.length - n by omega]
          · rw [Array.getElem?_eq_none (by omega)]
            simp [List.getElem?_append, show ¬ i < n by omega, show ¬ i - n < l.length - n by omega]
      have hw := hfin a w hf hs (fun e he => hk e he (hall e.j (hK' e he).1))
      rw [hlist, Nat.zero_add]
      exact hw
    | succ g ih =>
      intro listed a w inv hc hf hs hk
      rw [show g + 1 + (l.length - n) = (g + (l.length - n)) + 1 by omega]
      obtain ⟨i0, hi0, hun0, hbelow⟩ := cnt_pos (show 0 < cnt listed n by omega)
      have hs1 : listed.size = l.length := by rw [inv.size, hsz]
      have hready : i0 ∈ Region.ready .any l.toArray listed := by
        have hlt : i0 < l.length := by omega
        refine mem_ready.2 ⟨hun0, l[i0], by simp [hlt], fun e he hb => ?_⟩
        have h1 := ahead_get hahead i0 l[i0] (by simp [hlt]) e he hb
        have h2 := hbelow e.on (by omega)
        have hlt2 : e.on < listed.size := by omega
        simp [hlt2] at h2 ⊢
        exact h2
      refine ⟨fun hnil => (by rw [hnil] at hready; cases hready), fun i hi => ?_⟩
      have hin : i < n := by
        rcases Nat.lt_or_ge i n with h1 | h1
        · exact h1
        · obtain ⟨_, oi, hoi, hdeps⟩ := mem_ready.1 hi
          have hlt : i < l.length := by have := (Array.getElem?_eq_some_iff.1 hoi).1; simpa using this
          have hoi' : l[i]? = some oi := by simpa using hoi
          rcases Nat.eq_or_lt_of_le h1 with h2 | h2
          · subst h2
            have : oi = on := Option.some.inj (hoi'.symm.trans hon)
            subst this
            have h3 := (List.all_eq_true.1 hwn) i0 (List.mem_range.2 hi0)
            simp only [memN, Bool.false_or] at h3
            have h4 := clos_listed inv n _ (fun x hx => by
              obtain ⟨e, he, hej, heb⟩ := depsL_mem hx
              rw [← hej]; exact hdeps e (by simpa using he) heb) i0 (memN_mem h3)
            have hlt2 : i0 < listed.size := by omega
            simp [hlt2] at h4 hun0
            rw [h4] at hun0; cases hun0
          · have h3 := (List.all_eq_true.1 hstar) i (List.mem_range.2 hlt)
            simp only [Bool.or_eq_true, decide_eq_true_eq] at h3
            have h4 := h3.resolve_left (by omega)
            rw [hoi'] at h4
            obtain ⟨e, he, hej, heb⟩ := depsL_mem (memN_mem h4)
            have h5 := hdeps e (by simpa using he) heb
            rw [hej] at h5
            have h6 := inv.tail n (Nat.le_refl _) (by rw [hsz]; exact hn2)
            have hlt2 : n < listed.size := by omega
            simp [hlt2] at h5 h6
            rw [h5] at h6; cases h6
      obtain ⟨huni1, oi, hoi, hdeps⟩ := mem_ready.1 hi
      have hoi' : l[i]? = some oi := by simpa using hoi
      obtain ⟨e, heK, hej⟩ := hcov i (by rw [List.length_take]; omega)
      have hej' : e.j = i := by omega
      obtain ⟨_, o, ho, hod, hpers, hstep⟩ := hK' e heK
      rw [hej'] at ho
      have : o = oi := Option.some.inj (ho.symm.trans hoi')
      subst this
      have hdn : e.d < N := by
        obtain ⟨d, hd1, hd2⟩ := ownDst_get hown i o (by rw [List.getElem?_take_of_lt hin]; exact ho)
        rw [hod] at hd1; cases hd1; exact hd2
      have hcutd : ∀ v, lk (Go.Proofs.YtnjomdjkbbhdoaaGreatDoor.cut (l.take n) L) e.d = some v → False := fun v hv => by
        have h1 := (lk_cut hv).1
        rw [anyDst_of (List.mem_of_getElem? (l := l.take n) (i := i) (by rw [List.getElem?_take_of_lt hin]; exact ho)) hod] at h1
        cases h1
      have hso := hstep a w hf hs (fun e' he' hed => by
        obtain ⟨x, hx, hxj, hxb⟩ := edge_mem hed
        have h1 := hdeps x (by simpa using hx) hxb
        rw [hxj] at h1
        have h2 : e'.j < n := (hK' e' he').1
        refine hk e' he' ?_
        have hlt2 : e'.j < listed.size := by omega
        simp [hlt2] at h1 ⊢
        exact h1)
      have next : ∀ v w', Below w.heap.size w w' → e.p.holds w' v → wpAny P .any l.toArray Q (g + (l.length - n)) (listed.setIfInBounds i true) (a.put o.dst v) w' := by
        intro v w' hb hv
        rw [hod]
        refine ih _ _ _ (inv.set hi hin) (by have := cnt_set huni1 n hin; omega) ?_ (hSta.keep w w' hs hb) ?_
        · have hp := hf.put v (d := e.d) (by simp [Nat.blt]; omega)
          exact ⟨hp.df, hp.sz, fun k u hu => hp.get k u (by
            rw [lk_cons]
            split
            · rename_i hk2; subst hk2; exact (hcutd u hu).elim
            · exact hu)⟩
        · intro x hx hxl
          by_cases hxi : x.j = i
          · have : x = e := huni x hx e heK (Nat.zero_le _) (by omega)
            subst this
            exact ⟨v, by simp [Act.put, hf.sz, hdn], hv⟩
          · rw [getD_set_ne true (fun h => hxi h.symm)] at hxl
            obtain ⟨u, hu, hxu⟩ := hk x hx hxl
            obtain ⟨hxn, ox, hox, hxd, hxp, _⟩ := hK' x hx
            have hne : e.d ≠ x.d := fun hee => by
              have := ownDst_ne hown i x.j o ox e.d (by rw [List.getElem?_take_of_lt hin]; exact ho) (by rw [List.getElem?_take_of_lt hxn]; exact hox) hod (by rw [hee]; exact hxd)
              omega
            refine ⟨u, ?_, VP.pers_keep hxp hxu hb⟩
            simp only [Act.put]
            rw [Array.getElem?_setIfInBounds_ne hne]
            exact hu
      unfold wpOp
      simp only [hoi]
      unfold stepOK at hso
      split
      · rename_i hw
        rw [if_pos hw] at hso
        exact .inl (wp_false hso (fun a' w' ⟨v, ha, hb, hv⟩ => by rw [ha]; exact next v w' hb hv))
      · rename_i hw
        rw [if_neg hw] at hso
        exact next undef w (Below.refl _ _) hso
  intro a w hf hs
  refine wp_region_any hm.ok ?_
  have hrep : ∀ j, (Array.replicate l.toArray.size false).getD j false = false := fun j => getD_replicate_false _ _
  have := key n (Array.replicate l.toArray.size false) a w.drew
    ⟨by simp, fun j oj hj hl => (by rw [hrep] at hl; cases hl), fun t ht ht' => by simp at ht'; simp [ht']⟩
    (by rw [hsz]; exact cnt_fresh _ _ hn') (fr_cut hf (lk_cut_sub L)) (hSta.keep _ _ hs (Below.drewB w)) (fun e he hl => by
      have h1 := (hK' e he).1
      simp [show e.j < l.length by omega] at hl)
  rw [show n + (l.length - n) = l.toArray.size by rw [hsz]; omega] at this
  exact this
def AnyW (P : Program) (l : List Oper) (Q : Exit → Act → World → Prop) (k : Nat) (listed : Array Bool) (N : Nat) (L : TL) (S : World → Prop) : Prop :=
  ∀ a w, Fr N L a → S w → wpAny P .any l.toArray Q k listed a w
def NextW (P : Program) (l : List Oper) (Q : Exit → Act → World → Prop) (k : Nat) (listed : Array Bool) (N : Nat) (L : TL) (S : World → Prop) (i : Nat) : Prop :=
  ∀ a w, Fr N L a → S w → wpOp P l.toArray Q i (wpAny P .any l.toArray Q k (listed.setIfInBounds i true)) a w
section
variable {P : Program} {l : List Oper} {Q : Exit → Act → World → Prop} {k : Nat} {listed : Array Bool} {N : Nat} {L : TL} {S : World → Prop} {i j : Nat} {d : Nat} {ty : TypeId} {pos : String} {af : Array Edge} {op : Op}
theorem any_done (hr : Region.ready .any l.toArray listed = []) (h : QW Q .normal N L S) : AnyW P l Q 0 listed N L S := fun a w hf hs => ⟨hr, h a w hf hs⟩
theorem any_one (hr : Region.ready .any l.toArray listed = [i]) (h : NextW P l Q k listed N L S i) : AnyW P l Q (k + 1) listed N L S := fun a w hf hs => by
  refine ⟨fun hn => (by rw [hr] at hn; cases hn), fun x hx => ?_⟩
  rw [hr] at hx
  simp only [List.mem_singleton] at hx
  subst hx
  exact h a w hf hs
theorem any_two (hr : Region.ready .any l.toArray listed = [i, j]) (h : NextW P l Q k listed N L S i) (h' : NextW P l Q k listed N L S j) : AnyW P l Q (k + 1) listed N L S := fun a w hf hs => by
  refine ⟨fun hn => (by rw [hr] at hn; cases hn), fun x hx => ?_⟩
  rw [hr] at hx
  simp only [List.mem_cons, List.not_mem_nil, or_false] at hx
  rcases hx with rfl | rfl
  · exact h a w hf hs
  · exact h' a w hf hs
theorem next_val {v : Value} (ho : l[i]? = some ⟨some d, op, ty, pos, af, none⟩) (hN : Nat.blt d N = true) (h : Ex P op N L S v) (c : AnyW P l Q k (listed.setIfInBounds i true) N ((d, v) :: L) S) : NextW P l Q k listed N L S i := fun a w hf hs => by
  unfold wpOp
  rw [show l.toArray[i]? = some ⟨some d, op, ty, pos, af, none⟩ by simpa using ho]
  simp only
  rw [if_pos (by simp [Region.wanted])]
  refine .inl ?_
  unfold Oper.wp
  rw [h a w hf hs]
  exact c _ _ (hf.put _ hN) hs
theorem next_u {S' : World → Prop} (ho : l[i]? = some ⟨none, op, ty, pos, af, none⟩) (h : ExU P op N L S S') (c : AnyW P l Q k (listed.setIfInBounds i true) N L S') : NextW P l Q k listed N L S i := fun a w hf hs => by
  unfold wpOp
  rw [show l.toArray[i]? = some ⟨none, op, ty, pos, af, none⟩ by simpa using ho]
  simp only
  rw [if_pos (by simp [Region.wanted])]
  refine .inl ?_
  unfold Oper.wp
  obtain ⟨w', h1, h2⟩ := h a w hf hs none ty pos af none
  rw [h1]
  exact c _ _ hf h2
theorem next_w {T : Value → World → Prop} (ho : l[i]? = some ⟨some d, op, ty, pos, af, none⟩) (hN : Nat.blt d N = true) (h : ExW P op N L S T) (c : ∀ v, AnyW P l Q k (listed.setIfInBounds i true) N ((d, v) :: L) (T v)) : NextW P l Q k listed N L S i := fun a w hf hs => by
  unfold wpOp
  rw [show l.toArray[i]? = some ⟨some d, op, ty, pos, af, none⟩ by simpa using ho]
  simp only
  rw [if_pos (by simp [Region.wanted])]
  refine .inl ?_
  unfold Oper.wp
  obtain ⟨v, w', h1, h2⟩ := h a w hf hs (some d) ty pos af none
  rw [h1]
  exact c v _ _ (hf.put _ hN) h2
theorem next_app1 {w0 : World} {M : Nat → Prop} {σ : Hp} {H Gs : List (Nat × Obj)} {R : Value → List (Nat × Obj) → Prop} {z : Value → Prop} (ho : l[i]? = some ⟨some d, op, ty, pos, af, none⟩) (hN : Nat.blt d N = true)
    (h : ExW P op N L (St w0 M σ H Gs) (fun v' w' => ∃ Gs', R v' Gs' ∧ z v' ∧ St w0 M σ H Gs' w')) (c : ∀ v' Gs', R v' Gs' → z v' → AnyW P l Q k (listed.setIfInBounds i true) N ((d, v') :: L) (St w0 M σ H Gs')) : NextW P l Q k listed N L (St w0 M σ H Gs) i :=
  next_w ho hN h fun v' a w hf ⟨Gs', h1, hz, h2⟩ => c v' Gs' h1 hz a w hf h2
theorem next_c {T : World → Value → World → Prop} (ho : l[i]? = some ⟨some d, op, ty, pos, af, none⟩) (hN : Nat.blt d N = true) (h : ExC P op N L S T) (c : ∀ v, AnyW P l Q k (listed.setIfInBounds i true) N ((d, v) :: L) (fun w' => ∃ w, S w ∧ T w v w')) : NextW P l Q k listed N L S i := fun a w hf hs => by
  unfold wpOp
  rw [show l.toArray[i]? = some ⟨some d, op, ty, pos, af, none⟩ by simpa using ho]
  simp only
  rw [if_pos (by simp [Region.wanted])]
  refine .inl ?_
  unfold Oper.wp
  obtain ⟨f, args, h1, h2⟩ := h a w hf hs (some d) ty pos af none
  rw [h1]
  refine Calls.mono h2 ?_
  rintro e w' ⟨v, rfl, hT⟩
  exact c v _ _ (hf.put _ hN) ⟨w, hs, hT⟩
theorem next_cr {w0 : World} {M : Nat → Prop} {σ : Hp} {H G : List (Nat × Obj)} {Rep : Hp → Value → Prop} (ho : l[i]? = some ⟨some d, op, ty, pos, af, none⟩) (hN : Nat.blt d N = true) (h : ExC P op N L (St w0 M σ H G) (TR Rep σ))
    (c : ∀ u σ', Le σ σ' → Fresh σ σ' w0 → Rep σ' u → AnyW P l Q k (listed.setIfInBounds i true) N ((d, u) :: L) (St w0 M σ' H G)) : NextW P l Q k listed N L (St w0 M σ H G) i :=
  next_c ho hN h fun u a w' hf ⟨w, hs, σ', h1, h2, h3, h4, h5⟩ => c u σ' h1 (h2.mono hs.ag.size) h4 a w' hf (hs.after h2 h3 h5)
theorem any_mono {S' : World → Prop} (hS : ∀ w, S w → S' w) (h : AnyW P l Q k listed N L S') : AnyW P l Q k listed N L S := fun a w hf hs => h a w hf (hS w hs)
theorem next_mono {S' : World → Prop} (hS : ∀ w, S w → S' w) (h : NextW P l Q k listed N L S' i) : NextW P l Q k listed N L S i := fun a w hf hs => h a w hf (hS w hs)
def FinT (P : Program) (l : List Oper) (Q : Exit → Act → World → Prop) (k : Nat) (listed : Array Bool) (N : Nat) (L : TL) (S : World → Prop) (K : List KE) : Prop :=
  ∀ a w, Fr N L a → S w → (∀ e ∈ K, ∃ v, a.tmps[e.d]? = some v ∧ e.p.holds w v) → wpAny P .any l.toArray Q k listed a w
theorem fint_nil (h : AnyW P l Q k listed N L S) : FinT P l Q k listed N L S [] := fun a w hf hs _ => h a w hf hs
theorem fint_is {v : Value} {K : List KE} (h : FinT P l Q k listed N ((d, v) :: L) S K) : FinT P l Q k listed N L S (⟨j, d, .is v⟩ :: K) := fun a w hf hs hk => by
  obtain ⟨u, hu, hp⟩ := hk _ List.mem_cons_self
  have : u = v := hp
  subst this
  exact h a w (fr_add hf hu) hs (fun e he => hk e (List.mem_cons_of_mem _ he))
theorem fint_drop {e : KE} {K : List KE} (h : FinT P l Q k listed N L S K) : FinT P l Q k listed N L S (e :: K) := fun a w hf hs hk =>
  h a w hf hs (fun x hx => hk x (List.mem_cons_of_mem _ hx))
theorem fint_satR {Rep : Hp → Value → Prop} [MonoR Rep] {w0 : World} {M : Nat → Prop} {σ σ1 : Hp} {H G : List (Nat × Obj)} {K : List KE} (hle : Le σ σ1) (h : ∀ v σ', Le σ1 σ' → Fresh σ1 σ' w0 → Rep σ' v → FinT P l Q k listed N ((d, v) :: L) (St w0 M σ' H G) K) :
    FinT P l Q k listed N L (St w0 M σ1 H G) (⟨j, d, .sat (QR Rep σ w0 (H ++ G))⟩ :: K) := fun a w hf hs hk => by
  obtain ⟨u, hu, hp⟩ := hk _ List.mem_cons_self
  obtain ⟨τ, h1, h2, h3, h4, h5⟩ := hp
  refine h u (join σ1 τ) (le_join _ _) (fun b o e => ?_) (MonoR.mono (le_join' hs.im h3) h4) a w (fr_add hf hu) (hs.le (hs.im.join h3) fun p hp => ?_) (fun e he => hk e (List.mem_cons_of_mem _ he))
  · unfold join at e
    cases he : σ1 b with
    | none =>
      rw [he] at e
      rcases h2 b o (by simpa using e) with h6 | h6
      · rw [hle b o h6] at he; cases he
      · exact .inr h6
    | some o' => rw [he] at e; simp at e; subst e; exact .inl rfl
  · unfold join; rw [hs.fresh hp, h5 p hp]; rfl
theorem flow_nilT {L0 : TL} {n : Nat} {K : List KE} (h : FinT P l Q (l.length - n) (firsts n l.length) N L0 S K) :
    Flow P l L0 S N (fun K => ∀ a w, Fr N L0 a → S w → (∀ e ∈ K, ∃ v, a.tmps[e.d]? = some v ∧ e.p.holds w v) → wpAny P .any l.toArray Q (l.length - n) (firsts n l.length) a w) [] i K := h
end
end Go.Proofs.YtnjomdjkbbhdoaaGreatDoor
namespace Go.Proofs.YtnjomdjkbbhdoaaGreatDoor
open Go.RowKit
set_option linter.unusedVariables false
def partsFrom : Nat → List Value → List (Nat × Value)
  | _, [] => []
  | k, v :: r => (k, v) :: partsFrom (k + 1) r
theorem fill_from : ∀ (vs : List Value) (k : Nat) (arr : Array Value), (∀ v ∈ vs, v.cells = #[v]) → k + vs.length ≤ arr.size →
    Instr.fill (fun i => some (i * 1, 1)) arr (partsFrom k vs) = some (arr.toList.take k ++ vs ++ arr.toList.drop (k + vs.length)).toArray
  | [], k, arr, _, h => by simp [partsFrom, Instr.fill]
  | v :: r, k, arr, h1, h => by
    have hv := h1 v (by simp)
    simp only [List.length_cons] at h
    have ih := fill_from r (k + 1) (arr.setIfInBounds k v) (fun u hu => h1 u (List.mem_cons_of_mem _ hu)) (by simp; omega)
    simp only [partsFrom, Instr.fill, hv]
    have e0 : (#[v].zipIdx.foldl (fun cs (c, j) => cs.setIfInBounds (k * 1 + j) c) arr) = arr.setIfInBounds k v := by simp
    simp only [List.size_toArray, List.length_cons, List.length_nil, Nat.zero_add]
    rw [if_neg (by simp; omega), e0, ih]
    have hk : k < arr.toList.length := by simp; omega
    have hset : (arr.setIfInBounds k v).toList = arr.toList.take k ++ (v :: arr.toList.drop (k + 1)) := by
      rw [Array.toList_setIfInBounds, List.set_eq_take_append_cons_drop, if_pos hk]
    have htl : (arr.toList.take k).length = k := by rw [List.length_take]; omega
    have key : ∀ (A B : List Value), A.length = k → (A ++ v :: B).take (k + 1) = A ++ [v] ∧ (A ++ v :: B).drop (k + 1 + r.length) = B.drop r.length := by
      rintro A B rfl
      constructor
      · rw [List.take_append, List.take_of_length_le (by omega)]
        simp
      · rw [show A.length + 1 + r.length = A.length + (r.length + 1) by omega, List.drop_append]
        simp
    rw [hset, (key _ _ htl).1, (key _ _ htl).2, List.drop_drop, show k + 1 + r.length = k + (v :: r).length by simp; omega]
    simp
section
variable {P : Program} {N : Nat} {L : TL} {S : World → Prop} {w0 : World} {M : Nat → Prop} {σ : Hp} {H G : List (Nat × Obj)}
theorem exw_slitN {t e bytes len : Nat} [h : AppT P t e 1 bytes] {parts : List (Nat × Operand)} {vs : List Value} (hp : partsV L parts = some (partsFrom 0 vs)) (h1 : ∀ v ∈ vs, v.cells = #[v]) (hl : vs.length = len) (h0 : 0 < len) (hm : len ≤ 1000000) :
    ExW P (.buildSlice t len parts.toArray) N L (St w0 M σ H G) (fun u w => ∃ b, u = .slice (some ⟨b, 0, none⟩) len len ∧ St w0 M σ ((b, .cells vs.toArray e) :: H) G w) := by
  obtain ⟨k1, ⟨i, z, k2, k3, k4, _, k6⟩, k7⟩ := h.ok
  refine exw_slit (parts := parts) hp k1 ⟨i, z, k2, k3, by rw [k4]; omega, ?_⟩
  rw [if_neg (by rw [k4]; omega), k4]
  have := fill_from vs 0 ((Array.range (len * 1)).map (z.cells[· % z.cells.size]!)) h1 (by simp [hl])
  rw [this]
  congr 2
  simp [hl]
theorem OwnSl.lit {e b : Nat} {xs : List Value} (h : xs.length ≤ maxLen) : OwnSl e 1 (.slice (some ⟨b, 0, none⟩) xs.length xs.length) xs.length xs [(b, .cells xs.toArray e (0, 0))] :=
  ⟨by simp, .inr ⟨b, xs.length, xs.toArray, rfl, rfl, Nat.le_refl _, h, by simp, by simp⟩⟩
end
section
variable {P : Program} {l0 : List Oper} {Q : Exit → Act → World → Prop} {l rest : List Oper} {N : Nat} {L : TL} {d : Nat} {ty : TypeId} {pos : String} {af : Array Edge} {g : Option (Nat × Bool)} {op : Op} {w0 : World} {M : Nat → Prop} {σ : Hp} {H G : List (Nat × Obj)} {R : Hp → Value → List (Nat × Obj) → Prop}
theorem ow_ck0E (hN : Nat.blt d N = true) (hg : gd l0 L g = some true) (h : ExC P op N L (St w0 M σ H []) (TK R σ []))
    (k : ∀ u σ' K', Le σ σ' → Fresh σ σ' w0 → R σ' u K' → OW P l0 Q rest N ((d, u) :: L) (St w0 M σ' H K')) : OW P l0 Q (⟨some d, op, ty, pos, af, g⟩ :: rest) N L (St w0 M σ H []) :=
  ow_ck0 hN hg h fun u σ' K' h1 h2 h3 => by simpa using k u σ' K' h1 h2 h3
end
theorem CellsAt.int {σ : Hp} {b o : Nat} {zs : List Int} (h : CellsAt σ b o (intsV zs)) {i : Nat} (hi : i < zs.length) : CellsAt σ b (o + i * 1) [.int .i64 zs[i]] := by
  obtain ⟨arr, ty, fz, h1, h2⟩ := h
  refine ⟨arr, ty, fz, h1, fun j v hj => ?_⟩
  cases j with
  | zero =>
    simp at hj; subst hj
    simpa using h2 i _ (intsV_get hi)
  | succ j => simp at hj
theorem KidsV.one {σ : Hp} {b : Nat} {cs : List Value} {t : T} (h : CellsAt σ b 0 cs) (ht : TermC σ cs t) : KidsV σ (.slice (some ⟨b, 0, none⟩) 1 1) [t] :=
  ⟨_, 1, rfl, Nat.le_refl _, by simp [maxKids], .inr ⟨b, 0, rfl, by simp only [ElemsC]; exact ⟨⟨cs, h, ht⟩, trivial⟩⟩⟩
def atomOne : T := .mk 1 1 [] []
theorem bytes_cells (d : List UInt8) : ∀ v ∈ d.map byteV, v.cells = #[v] := fun v hv => by
  obtain ⟨b, _, rfl⟩ := List.mem_map.1 hv; rfl
def RepBN (d : List UInt8) (σ : Hp) (v : Value) : Prop := BytesV σ v d ∧ (d = [] → v = .slice none 0 0)
instance (d : List UInt8) : MonoR (RepBN d) := ⟨fun hl h => ⟨h.1.le hl, h.2⟩⟩
end Go.Proofs.YtnjomdjkbbhdoaaGreatDoor
namespace Go.Proofs.YtnjomdjkbbhdoaaGreatDoor
set_option linter.unusedVariables false
theorem intern_pos {ts : List T} {t : T} (h : (intern ts t).2.1 = 0) : (intern ts t).1 = posT (intern ts t).2.2 t ∧ 0 ≤ posT (intern ts t).2.2 t ∧ right t = true := by
  unfold intern at h ⊢
  by_cases hr : right t = true
  · rw [if_pos hr] at h ⊢
    by_cases hp : 0 ≤ posT ts t
    · rw [if_pos hp]; exact ⟨rfl, hp, hr⟩
    · rw [if_neg hp] at h ⊢
      by_cases hl : 4096 < ts.length + size t
      · rw [if_pos hl] at h; exact absurd (show (2 : Int) = 0 from h) (by decide)
      · rw [if_neg hl]
        exact ⟨(numV_is t ts).symm, posT_iff.2 (mem_putV t ts), hr⟩
  · rw [if_neg hr] at h; exact absurd (show (51 : Int) = 0 from h) (by decide)
theorem intern_ext (ts : List T) (t : T) : ∃ es, (intern ts t).2.2 = ts ++ es := by
  unfold intern
  split
  · split
    · exact ⟨[], by simp⟩
    · split
      · exact ⟨[], by simp⟩
      · obtain ⟨es, e, _⟩ := putV_ext t ts
        exact ⟨es, e⟩
  · exact ⟨[], by simp⟩
def NumsOK (ls ts : List T) (nums : List Int) : Prop := ∀ j (h : j < nums.length) (h' : j < ls.length), nums[j] = -1 ∨ (0 ≤ posT ts ls[j] ∧ nums[j] = posT ts ls[j])
def numI (ts : List T) (t : T) : Int := if (intern ts t).2.1 = 0 then (intern ts t).1 else -1
theorem NumsOK.nil (ls ts : List T) : NumsOK ls ts [] := fun j h => absurd h (Nat.not_lt_zero _)
theorem NumsOK.step {ls ts : List T} {nums : List Int} (h : NumsOK ls ts nums) (hi : nums.length < ls.length) : NumsOK ls (intern ts ls[nums.length]).2.2 (nums ++ [numI ts ls[nums.length]]) := by
  obtain ⟨es, e⟩ := intern_ext ts ls[nums.length]
  intro j hj hj'
  by_cases hlt : j < nums.length
  · rw [List.getElem_append_left hlt]
    rcases h j hlt hj' with h1 | ⟨h1, h2⟩
    · exact .inl h1
    · right
      rw [e, posT_old h1]
      exact ⟨h1, h2⟩
  · have : j = nums.length := by simp at hj; omega
    subst this
    simp only [List.getElem_append_right (Nat.le_refl _), Nat.sub_self, List.getElem_cons_zero]
    unfold numI
    by_cases h0 : (intern ts ls[nums.length]).2.1 = 0
    · obtain ⟨k1, k2, _⟩ := intern_pos h0
      rw [if_pos h0]
      exact .inr ⟨k2, k1⟩
    · rw [if_neg h0]; exact .inl rfl
end Go.Proofs.YtnjomdjkbbhdoaaGreatDoor
namespace Go.Proofs.YtnjomdjkbbhdoaaGreatDoor
open Go.RowKit Go.ChangeShapes
set_option linter.unusedVariables false
structure Bulky {H : Type} (bk : DataW H → Nat) : Prop where
  lit : ∀ l, 1 ≤ bk (.lit l)
  nil : 1 ≤ bk .nil
  agg : ∀ ps, (ps.map bk).sum + 1 ≤ bk (.agg ps)
  slice : ∀ es sp, (es.map bk).sum + 1 ≤ bk (.slice es sp)
mutual
def bulkT : T → Nat
  | .mk _ _ d ks => 5 + d.length + bulkTs ks
def bulkTs : List T → Nat
  | [] => 0
  | k :: r => bulkT k + bulkTs r
end
theorem keyB_bulk' : ∀ (t : T) {σ : Hp} {cs : List Value}, TermC σ cs t → (keyB t).length ≤ 20 * bulkT t := by
  intro t
  induction t using T.ind with
  | _ o n d ks ih =>
    intro σ cs h
    obtain ⟨dv, kv, rfl, ho, hn, hd, hk⟩ := h.opn
    simp only [T.kids, T.op, T.num, T.data] at *
    obtain ⟨p, c, rfl, hc, hm⟩ := hk.slice
    obtain ⟨pd, cd, rfl, hcd, hmd⟩ := hd.slice
    unfold maxKids at hm
    unfold maxData at hmd
    have hh := headB_len (d := d.length) (k := ks.length) ho hn (by omega) (by omega)
    have key : ∀ (l : List T), (∀ k ∈ l, (keyB k).length ≤ 20 * bulkT k) → (keysB l).length ≤ 20 * bulkTs l := by
      intro l
      induction l with
      | nil => intro _; simp [keysB]
      | cons k r ihl =>
        intro hl
        have h1 := hl k (by simp)
        have h2 := ihl (fun x hx => hl x (List.mem_cons_of_mem _ hx))
        simp only [keysB, List.length_append, bulkTs]; omega
    have hks := key ks (fun k hkm => by
      obtain ⟨i, hi, rfl⟩ := List.mem_iff_getElem.1 hkm
      obtain ⟨b, f, c', cs', _, _, _, ht⟩ := hk.get i hi
      exact ih _ (List.getElem_mem hi) ht)
    simp only [keyB, bulkT, List.length_append]
    omega
theorem KidsV.key {σ : Hp} {v : Value} {ks : List T} {t : T} (h : KidsV σ v ks) (ht : t ∈ ks) : (keyB t).length ≤ 20 * bulkT t := by
  obtain ⟨i, hi, rfl⟩ := List.mem_iff_getElem.1 ht
  obtain ⟨b, f, c', cs', _, _, _, ht⟩ := h.get i hi
  exact keyB_bulk' _ ht
theorem bulkTs_sum : ∀ {ts : List T} {es : List Nat}, ts.length ≤ es.length → (∀ i (h : i < ts.length) (h' : i < es.length), bulkT ts[i] ≤ es[i]) → bulkTs ts ≤ es.sum
  | [], es, _, _ => by simp [bulkTs]
  | t :: r, [], h, _ => by simp at h
  | t :: r, e :: es, h, hb => by
    have h1 := hb 0 (by simp) (by simp)
    have h2 := bulkTs_sum (ts := r) (es := es) (by simpa using h) (fun i hi hi' => hb (i + 1) (by simpa using hi) (by simpa using hi'))
    simp only [bulkTs, List.sum_cons]
    simp only [List.getElem_cons_zero] at h1
    omega
theorem length_le_sum : ∀ {es : List Nat}, (∀ e ∈ es, 1 ≤ e) → es.length ≤ es.sum
  | [], _ => by simp
  | e :: r, h => by
    have h1 := h e (by simp)
    have h2 := length_le_sum (es := r) (fun x hx => h x (List.mem_cons_of_mem _ hx))
    simp only [List.length_cons, List.sum_cons]; omega
section
variable {H : Type} {enc : TypeId × Value → H} {P : Program} {w : World} {bk : DataW H → Nat}
theorem read_bytesU (B : Bulky bk) {t e : TypeId} {fuel : Nat} {v : Value} {x : DataW H × List MemPlace} (hu : P.underlying t = some (.slice e)) (he : P.underlying e = some (.int .u8)) (hc : P.cellsOf e = 1) (hb : P.bytesOf e = 1)
    (h : DataW.trod enc P w 0 (fun _ => true) true fuel t [v] = some x) (hw : ∀ n ∈ x.1.weights P t, n ≤ reachBytes) : ∃ d, BytesV (nowH w) v d ∧ d.length + 1 ≤ bk x.1 := by
  rcases open_ints hu he hc h with ⟨hcs, hx⟩ | ⟨a, len, cap, zs, hcs, _, hl, hm, hz, hx, hcell, hwf⟩
  · simp at hcs
    subst hcs
    subst hx
    exact ⟨[], BytesV.nil _, by simpa using B.nil⟩
  · simp at hcs
    subst hcs
    subst hx
    have hlz : len ≤ zs.length := by simp at hz; omega
    have hreach : zs.length ≤ reachBytes := by
      have := hw _ (by simp only [DataW.weights, hu]; exact List.mem_cons_self)
      rw [hb, Nat.mul_one] at this
      simp only [lits, List.length_map, List.length_take, List.length_drop] at this
      omega
    have hd : ((zs.take len).map fun z => z.toNat.toUInt8).map byteV = (zs.take len).map fun z => Value.int .u8 z := by
      rw [List.map_map]
      apply List.map_congr_left
      intro z hz'
      have := hwf z (List.mem_of_mem_take hz')
      have : 0 ≤ z ∧ z ≤ 255 := by simpa [Lit.wf, IntKind.min, IntKind.max, IntKind.signed, IntKind.bits] using this
      simp only [Function.comp, byteV]
      congr 1
      have h256 : z.toNat < 256 := by omega
      rw [show (z.toNat.toUInt8).toNat = z.toNat by simp [Nat.toUInt8, Nat.mod_eq_of_lt h256]]
      omega
    have hlen : ((zs.take len).map fun z => z.toNat.toUInt8).length = len := by simp; omega
    have hbk : len + 1 ≤ bk (DataW.slice (lits .u8 (zs.take len)) (lits .u8 (zs.drop len)) : DataW H) := by
      refine Nat.le_trans (Nat.add_le_add_right ?_ 1) (B.slice _ _)
      have h1 := length_le_sum (es := (lits (H := H) .u8 (zs.take len)).map bk) (fun e he => by
        obtain ⟨y, hy, rfl⟩ := List.mem_map.1 he
        obtain ⟨z, _, rfl⟩ := List.mem_map.1 hy
        exact B.lit _)
      simp only [lits, List.length_map, List.length_take] at h1
      simp only [lits]
      omega
    refine ⟨(zs.take len).map fun z => z.toNat.toUInt8, ⟨some a, cap, by rw [hlen], by rw [hlen]; exact hl, by rw [hlen]; unfold maxData; unfold reachBytes at hreach; omega, ?_⟩, by rw [hlen]; exact hbk⟩
    by_cases h0 : len = 0
    · left; subst h0; simp
    · right
      have hsp : a.spot = none := (cell_open (hcell 0 (by omega))).1
      obtain ⟨b, o, sp⟩ := a
      have hsp' : sp = none := hsp
      subst hsp'
      refine ⟨b, o, rfl, ?_⟩
      rw [hd]
      refine cellsAt_now (fun e => ?_) (fun i u hi => ?_)
      · have := congrArg List.length e
        rw [List.length_map, List.length_take, List.length_nil] at this
        omega
      · rw [List.getElem?_map, List.getElem?_take] at hi
        split at hi
        · rename_i hil
          have := hcell i (Nat.lt_of_lt_of_le hil hlz)
          rw [addr_add] at this
          rw [this, List.getD_eq_getElem?_getD]
          cases hz' : zs[i]? with
          | none => rw [hz'] at hi; simp at hi
          | some z => rw [hz'] at hi; simpa using hi
        · simp at hi
theorem read_termU (B : Bulky bk) {t : TypeId} [hT : TermTy P t] : ∀ (fuel : Nat) {cs : List Value} {x : DataW H × List MemPlace}, DataW.trod enc P w 0 (fun _ => true) true fuel t cs = some x → (∀ n ∈ x.1.weights P t, n ≤ reachBytes) → ∃ u, TermC (nowH w) cs u ∧ bulkT u ≤ bk x.1 := by
  obtain ⟨f0, f1, f2, f3, e, hu, hct, hbt, ⟨a1, a2, a3⟩, ⟨b1, b2, b3⟩, ⟨c1, c2, c3, c4, c5, c6⟩, ⟨d1, d2, d3⟩⟩ := hT.ok
  intro fuel
  induction fuel using Nat.strongRecOn with
  | _ fuel ih =>
    intro cs x h hw
    obtain ⟨xs, n, hfu, rfl, hl, hlen, hf⟩ := DataW.trod_struct hu h
    rw [hct] at hl
    match xs, hlen with
    | [y0, y1, y2, y3], _ =>
      have q0 := hf 0 f0 rfl
      have q1 := hf 1 f1 rfl
      have q2 := hf 2 f2 rfl
      have q3 := hf 3 f3 rfl
      rw [a2, a3] at q0
      rw [b2, b3] at q1
      rw [c2, c3] at q2
      rw [d2, d3] at q3
      obtain ⟨v0, v1, v2, v3, rfl⟩ : ∃ v0 v1 v2 v3, cs = [v0, v1, v2, v3] := by
        match cs, hl with
        | [v0, v1, v2, v3], _ => exact ⟨v0, v1, v2, v3, rfl⟩
      simp at q0 q1 q2 q3
      obtain ⟨i0, e0, x0, w0⟩ := DataW.trod_int a1 q0
      obtain ⟨i1, e1, x1, w1⟩ := DataW.trod_int b1 q1
      simp at e0 e1
      subst e0 e1
      have r0 : -9223372036854775808 ≤ i0 ∧ i0 ≤ 9223372036854775807 := by simpa [Lit.wf, IntKind.min, IntKind.max, IntKind.signed, IntKind.bits] using w0
      have r1 : -9223372036854775808 ≤ i1 ∧ i1 ≤ 9223372036854775807 := by simpa [Lit.wf, IntKind.min, IntKind.max, IntKind.signed, IntKind.bits] using w1
      have hparts : ∀ n, n ∈ y0.1.weights P f0.type ∨ n ∈ y1.1.weights P f1.type ∨ n ∈ y2.1.weights P f2.type ∨ n ∈ y3.1.weights P f3.type → n ≤ reachBytes := fun n hn => hw n (by
        simp only [DataW.weights, hu, List.map_cons, List.map_nil, DataW.weightsEach, List.mem_append, List.append_nil]
        rcases hn with h | h | h | h
        · exact .inl h
        · exact .inr (.inl h)
        · exact .inr (.inr (.inl h))
        · exact .inr (.inr (.inr h)))
      obtain ⟨d, hd, hdb⟩ := read_bytesU B c1 c4 c5 c6 q2 (fun n hn => hparts n (Or.inr (Or.inr (Or.inl hn))))
      have hk : ∃ ks, KidsV (nowH w) v3 ks ∧ bulkTs ks + 1 ≤ bk y3.1 := by
        rcases DataW.trod_slice d1 q3 with ⟨hcs, hx⟩ | ⟨a, len, cap, elems, rest, m, hfm, hcs, hx, _, hlc, hcm, hel, helem, hrest, _⟩
        · simp at hcs; subst hcs; subst hx; exact ⟨[], KidsV.nil _, by simpa [bulkTs] using B.nil⟩
        · simp at hcs
          subst hcs
          have hwk : ∀ n ∈ (DataW.slice (elems.map (·.1)) (rest.map (·.1))).weights P f3.type, n ≤ reachBytes := fun n hn => hparts n (Or.inr (Or.inr (Or.inr (by rw [hx]; exact hn))))
          simp only [DataW.weights, d1] at hwk
          have hlen : len * 64 ≤ reachBytes := by
            have := hwk _ List.mem_cons_self
            rw [hbt] at this
            simp only [List.length_map] at this
            have h2 : len * 64 ≤ (elems.length + rest.length) * 64 := Nat.mul_le_mul_right _ (by omega)
            omega
          have hwe : ∀ (l : List (DataW H)), (∀ n ∈ DataW.weightsAll P t l, n ≤ reachBytes) → ∀ y ∈ l, ∀ n ∈ y.weights P t, n ≤ reachBytes := by
            intro l
            induction l with
            | nil => intro _ y hy; cases hy
            | cons z r ihl =>
              intro hz y hy n hn
              simp only [DataW.weightsAll] at hz
              rcases List.mem_cons.1 hy with rfl | hy
              · exact hz n (List.mem_append_left _ hn)
              · exact ihl (fun n hn => hz n (List.mem_append_right _ hn)) y hy n hn
          have hwel := hwe (elems.map (·.1)) (fun n hn => hwk n (List.mem_cons_of_mem _ (List.mem_append_left _ hn)))
          have hspot : 0 < len → a.spot = none := fun h0 => by
            have h1 := helem 0 h0
            rw [List.getElem?_eq_getElem (show 0 < elems.length by omega), hct] at h1
            cases hc : w.cells? 0 (a.add (0 * 4)) 4 with
            | none => rw [hc] at h1; simp at h1
            | some cs' =>
              obtain ⟨_, hl4, hcell⟩ := World.cells?_some hc
              have h2 := hcell 0 (by omega)
              rw [List.getElem?_eq_getElem (by omega)] at h2
              have := (cell_open h2).1
              simpa [Addr.add] using this
          obtain ⟨ts, ht1, ht2⟩ := list_of (q := fun i u => (∃ cs', CellsAt (nowH w) a.block (a.off + i * 4) cs' ∧ TermC (nowH w) cs' u) ∧ ∀ h : i < elems.length, bulkT u ≤ bk elems[i].1) len (fun i hi => by
            have h1 := helem i hi
            rw [List.getElem?_eq_getElem (show i < elems.length by omega), hct] at h1
            cases hc : w.cells? 0 (a.add (i * 4)) 4 with
            | none => rw [hc] at h1; simp at h1
            | some cs' =>
              rw [hc] at h1
              simp only [Option.bind_some] at h1
              obtain ⟨_, hl4, hcell⟩ := World.cells?_some hc
              obtain ⟨u, hu', hub⟩ := ih m (by omega) h1 (fun n hn => hwel _ (List.mem_map.2 ⟨elems[i], List.getElem_mem _, rfl⟩) n hn)
              have hsp := hspot (by omega)
              refine ⟨u, ⟨cs', ?_, hu'⟩, fun _ => hub⟩
              obtain ⟨b, o, sp⟩ := a
              have hsp' : sp = none := hsp
              subst hsp'
              refine cellsAt_now (fun e => by rw [e] at hl4; simp at hl4) (fun j v hj => ?_)
              have := hcell j (by have := (List.getElem?_eq_some_iff.1 hj).1; omega)
              rw [addr_add, addr_add] at this
              rw [this]; exact hj)
          have hbk : bulkTs ts + 1 ≤ bk y3.1 := by
            rw [hx]
            refine Nat.le_trans (Nat.add_le_add_right ?_ 1) (B.slice _ _)
            refine bulkTs_sum (by simp; omega) (fun i hi hi' => ?_)
            simp only [List.getElem_map]
            exact (ht2 i hi).2 _
          refine ⟨ts, ⟨some a, cap, by rw [ht1], by rw [ht1]; exact hlc, by rw [ht1]; unfold maxKids; unfold reachBytes at hlen; omega, ?_⟩, hbk⟩
          by_cases h0 : ts = []
          · exact Or.inl h0
          · right
            have hpos : 0 < ts.length := List.length_pos_iff.2 h0
            have hsp := hspot (by omega)
            obtain ⟨b, o, sp⟩ := a
            have hsp' : sp = none := hsp
            subst hsp'
            exact ⟨b, o, rfl, ElemsC.of fun i hi => (ht2 i hi).1⟩
      obtain ⟨ks, hk, hkb⟩ := hk
      refine ⟨.mk i0 i1 d ks, TermC.mk r0 r1 hd hk, Nat.le_trans ?_ (B.agg _)⟩
      have hl0 : 1 ≤ bk y0.1 := by rw [x0]; exact B.lit _
      have hl1 : 1 ≤ bk y1.1 := by rw [x1]; exact B.lit _
      simp only [List.map_cons, List.map_nil, List.sum_cons, List.sum_nil, bulkT]
      omega
theorem read_kidsU (B : Bulky bk) {t ts : TypeId} [hT : TermTy P t] {fuel : Nat} {v3 : Value} {x : DataW H × List MemPlace} (d1 : P.underlying ts = some (.slice t)) (h : DataW.trod enc P w 0 (fun _ => true) true fuel ts [v3] = some x)
    (hw : ∀ n ∈ x.1.weights P ts, n ≤ reachBytes) : ∃ ks, KidsV (nowH w) v3 ks ∧ bulkTs ks + 1 ≤ bk x.1 := by
  obtain ⟨f0, f1, f2, f3, e, hu, hct, hbt, _⟩ := hT.ok
  rcases DataW.trod_slice d1 h with ⟨hcs, hx⟩ | ⟨a, len, cap, elems, rest, m, hfm, hcs, hx, _, hlc, hcm, hel, helem, hrest, _⟩
  · simp at hcs; subst hcs; subst hx; exact ⟨[], KidsV.nil _, by simpa [bulkTs] using B.nil⟩
  · simp at hcs
    subst hcs
    have hwk : ∀ n ∈ (DataW.slice (elems.map (·.1)) (rest.map (·.1))).weights P ts, n ≤ reachBytes := fun n hn => hw n (by rw [hx]; exact hn)
    simp only [DataW.weights, d1] at hwk
    have hlen : len * 64 ≤ reachBytes := by
      have := hwk _ List.mem_cons_self
      rw [hbt] at this
      simp only [List.length_map] at this
      have h2 : len * 64 ≤ (elems.length + rest.length) * 64 := Nat.mul_le_mul_right _ (by omega)
      omega
    have hwe : ∀ (l : List (DataW H)), (∀ n ∈ DataW.weightsAll P t l, n ≤ reachBytes) → ∀ y ∈ l, ∀ n ∈ y.weights P t, n ≤ reachBytes := by
      intro l
      induction l with
      | nil => intro _ y hy; cases hy
      | cons z r ihl =>
        intro hz y hy n hn
        simp only [DataW.weightsAll] at hz
        rcases List.mem_cons.1 hy with rfl | hy
        · exact hz n (List.mem_append_left _ hn)
        · exact ihl (fun n hn => hz n (List.mem_append_right _ hn)) y hy n hn
    have hwel := hwe (elems.map (·.1)) (fun n hn => hwk n (List.mem_cons_of_mem _ (List.mem_append_left _ hn)))
    have hspot : 0 < len → a.spot = none := fun h0 => by
      have h1 := helem 0 h0
      rw [List.getElem?_eq_getElem (show 0 < elems.length by omega), hct] at h1
      cases hc : w.cells? 0 (a.add (0 * 4)) 4 with
      | none => rw [hc] at h1; simp at h1
      | some cs' =>
        obtain ⟨_, hl4, hcell⟩ := World.cells?_some hc
        have h2 := hcell 0 (by omega)
        rw [List.getElem?_eq_getElem (by omega)] at h2
        have := (cell_open h2).1
        simpa [Addr.add] using this
    obtain ⟨ts, ht1, ht2⟩ := list_of (q := fun i u => (∃ cs', CellsAt (nowH w) a.block (a.off + i * 4) cs' ∧ TermC (nowH w) cs' u) ∧ ∀ h : i < elems.length, bulkT u ≤ bk elems[i].1) len (fun i hi => by
      have h1 := helem i hi
      rw [List.getElem?_eq_getElem (show i < elems.length by omega), hct] at h1
      cases hc : w.cells? 0 (a.add (i * 4)) 4 with
      | none => rw [hc] at h1; simp at h1
      | some cs' =>
        rw [hc] at h1
        simp only [Option.bind_some] at h1
        obtain ⟨_, hl4, hcell⟩ := World.cells?_some hc
        obtain ⟨u, hu', hub⟩ := read_termU B m h1 (fun n hn => hwel _ (List.mem_map.2 ⟨elems[i], List.getElem_mem _, rfl⟩) n hn)
        have hsp := hspot (by omega)
        refine ⟨u, ⟨cs', ?_, hu'⟩, fun _ => hub⟩
        obtain ⟨b, o, sp⟩ := a
        have hsp' : sp = none := hsp
        subst hsp'
        refine cellsAt_now (fun e => by rw [e] at hl4; simp at hl4) (fun j v hj => ?_)
        have := hcell j (by have := (List.getElem?_eq_some_iff.1 hj).1; omega)
        rw [addr_add, addr_add] at this
        rw [this]; exact hj)
    have hbk : bulkTs ts + 1 ≤ bk x.1 := by
      rw [hx]
      refine Nat.le_trans (Nat.add_le_add_right ?_ 1) (B.slice _ _)
      refine bulkTs_sum (by simp; omega) (fun i hi hi' => ?_)
      simp only [List.getElem_map]
      exact (ht2 i hi).2 _
    refine ⟨ts, ⟨some a, cap, by rw [ht1], by rw [ht1]; exact hlc, by rw [ht1]; unfold maxKids; unfold reachBytes at hlen; omega, ?_⟩, hbk⟩
    by_cases h0 : ts = []
    · exact Or.inl h0
    · right
      have hpos : 0 < ts.length := List.length_pos_iff.2 h0
      have hsp := hspot (by omega)
      obtain ⟨b, o, sp⟩ := a
      have hsp' : sp = none := hsp
      subst hsp'
      exact ⟨b, o, rfl, ElemsC.of fun i hi => (ht2 i hi).1⟩
end
mutual
def cnt1 {H : Type} : DataW H → Nat
  | .lit _ => 1
  | .nil => 1
  | .ptr _ => 1
  | .slice es _ => cnts1 es + 1
  | .agg ps => cnts1 ps + 1
  | .iface _ _ => 1
  | .map _ => 1
  | .held _ => 1
def cnts1 {H : Type} : List (DataW H) → Nat
  | [] => 0
  | d :: r => cnt1 d + cnts1 r
end
theorem cnts1_sum {H : Type} : ∀ l : List (DataW H), cnts1 l = (l.map cnt1).sum
  | [] => by simp [cnts1]
  | d :: r => by simp [cnts1, cnts1_sum r]
theorem bulkOne (H : Type) : Bulky (H := H) cnt1 where
  lit := fun l => by simp [cnt1]
  nil := by simp [cnt1]
  agg := fun ps => by simp [cnt1, cnts1_sum]
  slice := fun es sp => by simp [cnt1, cnts1_sum]
end Go.Proofs.YtnjomdjkbbhdoaaGreatDoor
namespace Go.Proofs.YtnjomdjkbbhdoaaGreatDoor
open Go.RowKit
set_option linter.unusedVariables false
def storesB (N : Nat) (l : List Oper) (m n : Nat) : Bool :=
  Nat.ble n l.length && Nat.blt m n && ownDst N (l.take m) && aheadB 0 l && (Nat.beq n l.length || (Region.sinkB .any l.toArray n && Region.chainB .any l.toArray n)) &&
    Region.seqB .any l.toArray (l.length - n) n (firsts n l.length) && ((List.range n).all fun t => decide (t < m) || (match l[t]? with
      | some o => o.dst.isNone && o.guard.isNone && (decide (t = m) || memN (t - 1) (depsL o.after.toList))
      | none => false))
def ObU (P : Program) (o : Oper) (N : Nat) (L0 : TL) (K : List KE) (S S' : World → Prop) : Prop :=
  ∀ a w, Fr N L0 a → SatK K o.after.toList a w → S w → o.wp P a w (fun a' w' => a' = a ∧ S' w') (fun _ _ _ => False)
theorem obu {P : Program} {N : Nat} {L0 : TL} {K : List KE} {S S' : World → Prop} {ty : TypeId} {pos : String} {af : Array Edge} {op : Op} (h : ExU P op N (tlK af.toList L0 K) S S') : ObU P ⟨none, op, ty, pos, af, none⟩ N L0 K S S' := fun a w hf hk hs => by
  obtain ⟨w', h1, h2⟩ := h a w (fr_tlK hf hk) hs none ty pos af none
  unfold Oper.wp
  rw [h1]
  exact ⟨rfl, h2⟩
theorem exu_conv {P : Program} {op : Op} {N : Nat} {L : TL} {S S1 S' : World → Prop} (h : ExU P op N L S S1) (k : ∀ w, S1 w → S' w) : ExU P op N L S S' := fun a w hf hs d ty pos af g => by
  obtain ⟨w', h1, h2⟩ := h a w hf hs d ty pos af g
  exact ⟨w', h1, k w' h2⟩
theorem flow_sound3 {P : Program} {l : List Oper} {L : TL} {S : Nat → World → Prop} (hSta : ∀ k w w', S k w → Below w.heap.size w w' → S k w') {N : Nat} {Q : Exit → Act → World → Prop} {id : Nat} [hm : MixT P] (m n : Nat) (hB : storesB N l m n = true)
    (h : Flow P l (Go.Proofs.YtnjomdjkbbhdoaaGreatDoor.cut (l.take m) L) (fun w => ∃ k, S k w) N (fun K => allIs K = true ∧
      (∀ k, k < n - m → ∀ o, l[m + k]? = some o → ObU P o N (Go.Proofs.YtnjomdjkbbhdoaaGreatDoor.cut (l.take m) L) K (S k) (S (k + 1))) ∧
      (∀ a w, Fr N (Go.Proofs.YtnjomdjkbbhdoaaGreatDoor.cut (l.take m) L) a → S (n - m) w → (∀ e ∈ K, ∃ v, a.tmps[e.d]? = some v ∧ e.p.holds w v) → wpList P l.toArray Q (l.drop n) a w)) (l.take m) 0 []) :
    CW P (.region id l.toArray true) Q N L (S 0) := by
  simp only [storesB, Bool.and_eq_true, Bool.or_eq_true] at hB
  obtain ⟨⟨⟨⟨⟨⟨hn, hmn⟩, hown⟩, hahead⟩, hsc⟩, hseq⟩, hst⟩ := hB
  have hn' : n ≤ l.length := by have := hn; simp at this; omega
  have hmn' : m < n := by have := hmn; simp [Nat.blt] at this; omega
  have hstore : ∀ t, m ≤ t → t < n → ∃ o, l[t]? = some o ∧ o.dst = none ∧ o.guard = none ∧ (t = m ∨ memN (t - 1) (depsL o.after.toList) = true) := fun t h1 h2 => by
    have h3 := (List.all_eq_true.1 hst) t (List.mem_range.2 h2)
    simp only [Bool.or_eq_true, decide_eq_true_eq] at h3
    have h4 := h3.resolve_left (by omega)
    cases hl : l[t]? with
    | none => rw [hl] at h4; cases h4
    | some o =>
      rw [hl] at h4
      simp only [Bool.and_eq_true, Option.isNone_iff_eq_none, Bool.or_eq_true, decide_eq_true_eq] at h4
      exact ⟨o, rfl, h4.1.1, h4.1.2, h4.2⟩
  obtain ⟨Kf, ⟨hisK, hsto, hfin⟩, -, hK, hcov, huni⟩ := flow_all (l.take m) 0 [] (fun j hj => by
    rw [List.length_take] at hj
    rw [List.getElem?_take_of_lt (by omega)]; simp) (fun _ he => absurd he List.not_mem_nil) h
  have hK' : ∀ e ∈ Kf, e.j < m ∧ ∃ o, l[e.j]? = some o ∧ o.dst = some e.d ∧ e.p.pers ∧ ∀ a w, Fr N (Go.Proofs.YtnjomdjkbbhdoaaGreatDoor.cut (l.take m) L) a → (∃ k, S k w) →
      (∀ e' ∈ Kf, edge o.after.toList e'.j = true → ∃ v, a.tmps[e'.d]? = some v ∧ e'.p.holds w v) → stepOK P l o a w e.p := fun e he => by
    rcases hK e he with h0 | ⟨_, h1, h2⟩
    · cases h0
    · exact ⟨by rw [List.length_take] at h1; omega, h2⟩
  have hsz : l.toArray.size = l.length := by simp
  have key : ∀ (g : Nat) (listed : Array Bool) (a : Act) (w : World) (d : Nat), HeadInv .any l.toArray n listed → cnt listed n = g → Fr N (Go.Proofs.YtnjomdjkbbhdoaaGreatDoor.cut (l.take m) L) a → d ≤ n - m →
      (∀ k, k < n - m → listed.getD (m + k) true = decide (k < d)) → S d w →
      (∀ e ∈ Kf, listed.getD e.j true = true → ∃ v, a.tmps[e.d]? = some v ∧ e.p.holds w v) → wpAny P .any l.toArray Q (g + (l.length - n)) listed a w := by
    intro g
    induction g with
    | zero =>
      intro listed a w d inv hc hf hd hdk hs hk
      have hall := cnt_zero hc
      have hlist : listed = firsts n l.length := by
        apply Array.ext_getElem?
        intro i
        have hs1 : listed.size = l.length := by rw [inv.size, hsz]
        unfold firsts
        rcases Nat.lt_or_ge i n with h1 | h1
        · have := hall i h1
          have hi : i < listed.size := by omega
          simp [hi] at this
          simp [hi, this, List.getElem?_append, h1]
        · rcases Nat.lt_or_ge i l.length with h2 | h2
          · have := inv.tail i h1 (by rw [hsz]; exact h2)
            have hi : i < listed.size := by omega
            simp [hi] at this
            simp [hi, this, List.getElem?_append, show ¬ i < n by omega, show i - n < l.length - n by omega]
          · rw [Array.getElem?_eq_none (by omega)]
            simp [List.getElem?_append, show ¬ i < n by omega, show ¬ i - n < l.length - n by omega]
      have hdd : d = n - m := by
        rcases Nat.lt_or_ge d (n - m) with h1 | h1
        · have h2 := hdk d h1
          rw [hall (m + d) (by omega)] at h2
          simp at h2
        · omega
      subst hdd
      have hw := hfin a w hf hs (fun e he => hk e he (hall e.j (by have := (hK' e he).1; omega)))
      have := wpAny_of_seq (P := P) (md := .any) (ops := l.toArray) (l.drop n) n listed a w (fun j => by simp) (by rw [List.length_drop, hlist]; exact hseq) hw
      rwa [List.length_drop, ← Nat.zero_add (l.length - n)] at this
    | succ g ih =>
      intro listed a w d inv hc hf hd hdk hs hk
      rw [show g + 1 + (l.length - n) = (g + (l.length - n)) + 1 by omega]
      obtain ⟨i0, hi0, hun0, hbelow⟩ := cnt_pos (show 0 < cnt listed n by omega)
      have hs1 : listed.size = l.length := by rw [inv.size, hsz]
      have hready : i0 ∈ Region.ready .any l.toArray listed := by
        have hlt : i0 < l.length := by omega
        refine mem_ready.2 ⟨hun0, l[i0], by simp [hlt], fun e he hb => ?_⟩
        have h1 := ahead_get hahead i0 l[i0] (by simp [hlt]) e he hb
        have h2 := hbelow e.on (by omega)
        have hlt2 : e.on < listed.size := by omega
        simp [hlt2] at h2 ⊢
        exact h2
      refine ⟨fun hnil => (by rw [hnil] at hready; cases hready), fun i hi => ?_⟩
      have hin : i < n := by
        rcases Nat.lt_or_ge i n with h1 | h1
        · exact h1
        · obtain ⟨oi, hoi, _⟩ := (mem_ready.1 hi).2
          have hlt : i < l.length := by have := (Array.getElem?_eq_some_iff.1 hoi).1; simpa using this
          rcases hsc with hsc | hsc
          · have := Nat.eq_of_beq_eq_true hsc; omega
          · exact absurd hi (tail_waits hsc.1 hsc.2 (by rw [hsz]; omega) inv (n - i0) i0 rfl hi0 hun0 i h1)
      obtain ⟨huni1, oi, hoi, hdeps⟩ := mem_ready.1 hi
      have hoi' : l[i]? = some oi := by simpa using hoi
      have hcnt : cnt (listed.setIfInBounds i true) n = g := by have := cnt_set huni1 n hin; omega
      have hset : (listed.setIfInBounds i true).getD i true = true := by
        rcases Nat.lt_or_ge i listed.size with hlt | hge
        · simp [hlt]
        · simp [hge]
      have hbound : ∀ x, edge oi.after.toList x = true → x < n → listed.getD x true = true := fun x hx hxn => by
        obtain ⟨y, hy, hyj, hyb⟩ := edge_mem hx
        have h1 := hdeps y (by simpa using hy) hyb
        rw [hyj] at h1
        have hlt2 : x < listed.size := by omega
        simp [hlt2] at h1 ⊢
        exact h1
      rcases Nat.lt_or_ge i m with him | him
      · -- one of what is drawn
        obtain ⟨e, heK, hej⟩ := hcov i (by rw [List.length_take]; omega)
        have hej' : e.j = i := by omega
        obtain ⟨_, o, ho, hod, hpers, hstep⟩ := hK' e heK
        rw [hej'] at ho
        have : o = oi := Option.some.inj (ho.symm.trans hoi')
        subst this
        have hdn : e.d < N := by
          obtain ⟨d, hd1, hd2⟩ := ownDst_get hown i o (by rw [List.getElem?_take_of_lt him]; exact ho)
          rw [hod] at hd1; cases hd1; exact hd2
        have hcutd : ∀ v, lk (Go.Proofs.YtnjomdjkbbhdoaaGreatDoor.cut (l.take m) L) e.d = some v → False := fun v hv => by
          have h1 := (lk_cut hv).1
          rw [anyDst_of (List.mem_of_getElem? (l := l.take m) (i := i) (by rw [List.getElem?_take_of_lt him]; exact ho)) hod] at h1
          cases h1
        have hso := hstep a w hf ⟨d, hs⟩ (fun e' he' hed => hk e' he' (hbound e'.j hed (by have := (hK' e' he').1; omega)))
        have next : ∀ v w', Below w.heap.size w w' → e.p.holds w' v → wpAny P .any l.toArray Q (g + (l.length - n)) (listed.setIfInBounds i true) (a.put o.dst v) w' := by
          intro v w' hb hv
          rw [hod]
          refine ih _ _ _ d (inv.set hi hin) hcnt ?_ hd (fun k hkk => ?_) (hSta d w w' hs hb) ?_
          · have hp := hf.put v (d := e.d) (by simp [Nat.blt]; omega)
            exact ⟨hp.df, hp.sz, fun k u hu => hp.get k u (by
              rw [lk_cons]
              split
              · rename_i hk2; subst hk2; exact (hcutd u hu).elim
              · exact hu)⟩
          · rw [getD_set_ne true (by omega)]; exact hdk k hkk
          · intro x hx hxl
            by_cases hxi : x.j = i
            · have : x = e := huni x hx e heK (Nat.zero_le _) (by omega)
              subst this
              exact ⟨v, by simp [Act.put, hf.sz, hdn], hv⟩
            · rw [getD_set_ne true (fun h => hxi h.symm)] at hxl
              obtain ⟨u, hu, hxu⟩ := hk x hx hxl
              obtain ⟨hxn, ox, hox, hxd, hxp, _⟩ := hK' x hx
              have hne : e.d ≠ x.d := fun hee => by
                have := ownDst_ne hown i x.j o ox e.d (by rw [List.getElem?_take_of_lt him]; exact ho) (by rw [List.getElem?_take_of_lt hxn]; exact hox) hod (by rw [hee]; exact hxd)
                omega
              refine ⟨u, ?_, VP.pers_keep hxp hxu hb⟩
              simp only [Act.put]
              rw [Array.getElem?_setIfInBounds_ne hne]
              exact hu
        unfold wpOp
        simp only [hoi]
        unfold stepOK at hso
        split
        · rename_i hw
          rw [if_pos hw] at hso
          exact .inl (wp_false hso (fun a' w' ⟨v, ha, hb, hv⟩ => by rw [ha]; exact next v w' hb hv))
        · rename_i hw
          rw [if_neg hw] at hso
          exact next undef w (Below.refl _ _) hso
      · -- a store
        obtain ⟨o, ho, hod, hog, hoc⟩ := hstore i him hin
        have : o = oi := Option.some.inj (ho.symm.trans hoi')
        subst this
        obtain ⟨k, rfl⟩ : ∃ k, i = m + k := ⟨i - m, by omega⟩
        have hkn : k < n - m := by omega
        have hkd : k = d := by
          have h1 := hdk k hkn
          rw [huni1] at h1
          have h2 : ¬ k < d := by simpa using h1.symm
          rcases hoc with h3 | h3
          · omega
          · obtain ⟨y, hy, hyj, hyb⟩ := depsL_mem (memN_mem h3)
            have h4 := hdeps y (by simpa using hy) hyb
            rw [hyj] at h4
            rcases Nat.eq_zero_or_pos k with h5 | h5
            · omega
            · have h6 := hdk (k - 1) (by omega)
              rw [show m + (k - 1) = m + k - 1 by omega] at h6
              have hlt2 : m + k - 1 < listed.size := by omega
              simp [hlt2] at h4 h6
              rw [h4] at h6
              have : k - 1 < d := by simpa using h6.symm
              omega
        subst hkd
        have hwp := hsto k hkn o ho a w hf (fun e he hed => hk e he (hbound e.j hed (by have := (hK' e he).1; omega))) hs
        unfold wpOp
        simp only [hoi]
        rw [if_pos (by simp [Region.wanted, hog])]
        refine .inl (wp_false hwp fun a' w' ⟨ha, hsw⟩ => ?_)
        subst ha
        refine ih _ _ _ (k + 1) (inv.set hi hin) hcnt hf (by omega) (fun j hj => ?_) hsw (fun e he hel => ?_)
        · by_cases hjk : j = k
          · subst hjk; rw [hset]; simp
          · rw [getD_set_ne true (by omega), hdk j hj]
            simp only [decide_eq_decide]; omega
        · have hlt := (hK' e he).1
          rw [getD_set_ne true (by omega)] at hel
          obtain ⟨v, hv, hp⟩ := hk e he hel
          obtain ⟨u, hu⟩ := allIs_get hisK e he
          rw [hu] at hp ⊢
          exact ⟨v, hv, hp⟩
  intro a w hf hs
  refine wp_region_any hm.ok ?_
  have hrep : ∀ j, (Array.replicate l.toArray.size false).getD j false = false := fun j => getD_replicate_false _ _
  have hrepT : ∀ j, j < l.length → (Array.replicate l.toArray.size false).getD j true = false := fun j hj => by simp [hj]
  have := key n (Array.replicate l.toArray.size false) a w.drew 0
    ⟨by simp, fun j oj hj hl => (by rw [hrep] at hl; cases hl), fun t ht ht' => by simp at ht'; simp [ht']⟩
    (by rw [hsz]; exact cnt_fresh _ _ hn') (fr_cut hf (lk_cut_sub L)) (Nat.zero_le _) (fun k hk => by rw [hrepT (m + k) (by omega)]; simp) (hSta 0 _ _ hs (Below.drewB w)) (fun e he hl => by
      have h1 := (hK' e he).1
      rw [hrepT e.j (by omega)] at hl; cases hl)
  rw [show n + (l.length - n) = l.toArray.size by rw [hsz]; omega] at this
  exact this
section
variable {P : Program} {l0 : List Oper} {Q : Exit → Act → World → Prop} {N : Nat} {S : Nat → World → Prop} {S1 : World → Prop} {L0 : TL}
theorem flow_nil3 {i m n : Nat} {K : List KE} (his : allIs K = true) (hst : ∀ k, k < n - m → ∀ o, l0[m + k]? = some o → ObU P o N L0 K (S k) (S (k + 1))) (h : Fin P l0 Q (l0.drop n) N L0 (S (n - m)) K) :
    Flow P l0 L0 S1 N (fun K => allIs K = true ∧ (∀ k, k < n - m → ∀ o, l0[m + k]? = some o → ObU P o N L0 K (S k) (S (k + 1))) ∧
      (∀ a w, Fr N L0 a → S (n - m) w → (∀ e ∈ K, ∃ v, a.tmps[e.d]? = some v ∧ e.p.holds w v) → wpList P l0.toArray Q (l0.drop n) a w)) [] i K := ⟨his, hst, h⟩
end
end Go.Proofs.YtnjomdjkbbhdoaaGreatDoor
namespace Go.Proofs.YtnjomdjkbbhdoaaGreatDoor
open Go.RowKit
set_option linter.unusedVariables false
def gatherT (ts : List T) : List Int → Option (List T)
  | [] => some []
  | h :: r => if (termV ts h).2 = true then (gatherT ts r).map ((termV ts h).1 :: ·) else none
def madeV (ts : List T) (g : List T → T × Bool) (hs : List Int) : Int × Int × List T :=
  match gatherT ts hs with
  | none => (-1, 71, ts)
  | some l => if (g l).2 = true then intern ts (g l).1 else (-1, 72, ts)
def ofT (op : Int) (d : List UInt8) (l : List T) : T × Bool := (.mk op 0 d l, true)
def powG : List T → T × Bool
  | [a, b] => pow a b
  | _ => (zeroT, false)
theorem gatherT_app (ts : List T) : ∀ (a b : List Int), gatherT ts (a ++ b) = (gatherT ts a).bind fun l => (gatherT ts b).map (l ++ ·)
  | [], b => by simp [gatherT]
  | h :: r, b => by
    simp only [List.cons_append, gatherT]
    split
    · rw [gatherT_app ts r b]
      cases gatherT ts r <;> simp
      cases gatherT ts b <;> simp
    · simp
theorem gatherT_snoc {ts : List T} {hs : List Int} {i : Nat} {l : List T} (h : i < hs.length) (hg : gatherT ts (hs.take i) = some l) :
    gatherT ts (hs.take (i + 1)) = if (termV ts hs[i]).2 = true then some (l ++ [(termV ts hs[i]).1]) else none := by
  rw [List.take_succ_eq_append_getElem h, gatherT_app, hg]
  simp only [gatherT]
  split <;> simp
theorem gatherT_bad {ts : List T} {hs : List Int} {i : Nat} (h : gatherT ts (hs.take (i + 1)) = none) : gatherT ts hs = none := by
  have := gatherT_app ts (hs.take (i + 1)) (hs.drop (i + 1))
  rw [List.take_append_drop, h] at this
  simpa using this
theorem madeV_some {ts : List T} {g : List T → T × Bool} {hs : List Int} {l : List T} (h : gatherT ts hs = some l) : madeV ts g hs = if (g l).2 = true then intern ts (g l).1 else (-1, 72, ts) := by
  unfold madeV; rw [h]
theorem madeV_none {ts : List T} {g : List T → T × Bool} {hs : List Int} (h : gatherT ts hs = none) : madeV ts g hs = (-1, 71, ts) := by
  unfold madeV; rw [h]
def IntsV (σ : Hp) (v : Value) (zs : List Int) : Prop := ∃ p c, v = .slice p zs.length c ∧ zs.length ≤ c ∧ (zs = [] ∨ ∃ b o, p = some ⟨b, o, none⟩ ∧ CellsAt σ b o (intsV zs))
theorem IntsV.le {σ τ : Hp} (hl : Le σ τ) {v : Value} {zs : List Int} (h : IntsV σ v zs) : IntsV τ v zs := by
  obtain ⟨p, c, h1, h2, h3⟩ := h
  exact ⟨p, c, h1, h2, h3.imp id fun ⟨b, o, e, k⟩ => ⟨b, o, e, k.le hl⟩⟩
theorem IntsV.nil (σ : Hp) : IntsV σ (.slice none 0 0) [] := ⟨none, 0, rfl, Nat.le_refl _, .inl rfl⟩
theorem IntsV.lit {σ : Hp} {b : Nat} {ty : TypeId} {fz : Nat × Nat} {zs : List Int} {n : Nat} (h : σ b = some (.cells (intsV zs).toArray ty fz)) (hn : zs.length = n) : IntsV σ (.slice (some ⟨b, 0, none⟩) n n) zs := by
  subst hn
  exact ⟨_, zs.length, rfl, Nat.le_refl _, .inr ⟨b, 0, rfl, _, ty, fz, h, fun j v hj => by simpa using hj⟩⟩
theorem St.frz1 {w0 w : World} {M : Nat → Prop} {σ : Hp} {H G : List (Nat × Obj)} {b : Nat} {o : Obj} (hs : St w0 M σ ((b, o) :: H) G w) (hM : M b → False) : ∃ σ', Le σ σ' ∧ Fresh σ σ' w0 ∧ σ' b = some o ∧ St w0 M σ' H G w := by
  refine ⟨ext σ b o, le_ext (hs.fresh (p := (b, o)) (by simp)), fun x ob hx => ?_, ext_self _ _ _, hs.freeze⟩
  unfold ext at hx
  split at hx
  · rename_i hb; subst hb; exact .inr ((St0.mo hs (x, o) (by simp)).resolve_left hM)
  · exact .inl hx
theorem St.apart {w0 w : World} {M : Nat → Prop} {σ : Hp} {H G : List (Nat × Obj)} {b : Nat} {o : Obj} (hs : St w0 M σ ((b, o) :: H) G w) : keysOf G b → False := fun ⟨q, hq, e⟩ => by
  have hn := St0.nd hs
  simp only [List.cons_append, List.map_cons, List.nodup_cons] at hn
  exact hn.1 (by rw [← e]; exact List.mem_map_of_mem (List.mem_append_right _ hq))
section
variable {P : Program} {l0 : List Oper} {Q : Exit → Act → World → Prop} {l rest : List Oper} {c : Code} {N : Nat} {L : TL} {w0 : World} {σ : Hp} {H K Gs : List (Nat × Obj)}
theorem ow_frzHK {o : Obj} {b : Nat} (k : ∀ σ', Le σ σ' → Fresh σ σ' w0 → σ' b = some o → OW P l0 Q l N L (St w0 (keysOf K) σ' H K)) : OW P l0 Q l N L (St w0 (keysOf K) σ ((b, o) :: H) K) := fun a w hf hs => by
  obtain ⟨σ', h1, h2, h3, h4⟩ := hs.frz1 hs.apart
  exact k σ' h1 h2 h3 a w hf h4
theorem cw_frzGK {e : Nat} {v : Value} {n : Nat} {xs : List Value} {ts : List T} (hO : OwnSl e 4 v n xs Gs) (hr : RowC σ xs ts) (hlen : ts.length ≤ maxKids)
    (k : ∀ σ', Le σ σ' → Fresh σ σ' w0 → KidsV σ' v ts → CW P c Q N L (St w0 (keysOf K) σ' H K)) : CW P c Q N L (St w0 (keysOf K) σ H (Gs ++ K)) := fun a w hf hs => by
  have hn : n = ts.length := by have h1 := hO.1; have h2 := hr.len; omega
  subst hn
  rcases hO.2 with ⟨rfl, h0, rfl⟩ | ⟨g, cc, cur, rfl, rfl, h2, h3, h4, h5⟩
  · have : ts = [] := List.eq_nil_of_length_eq_zero h0
    subst this
    exact k σ (Le.refl _) (Fresh.refl _ _) (KidsV.nil σ) a w hf hs
  · have hs1 : St w0 (keysOf K) σ ((g, .cells cur e (0, 0)) :: H) K w := hs.ofG
    obtain ⟨σ', q1, q2, q3, q4⟩ := hs1.frz1 hs1.apart
    refine k σ' q1 q2 ⟨_, cc, rfl, h2, hlen, .inr ⟨g, 0, rfl, (hr.le q1).elems ⟨cur, e, (0, 0), q3, fun j u hj => ?_⟩⟩⟩ a w hf q4
    rw [← h5, List.getElem?_take] at hj
    split at hj
    · simpa using hj
    · cases hj
end
theorem Has.of_im {σ σK : Hp} {K : List (Nat × Obj)} {w w' : World} (h : Has σ K w) (hi : Imm σK w') (hle : Le (Go.Proofs.YtnjomdjkbbhdoaaGreatDoor.exts σ K) σK) : Has σ K w' :=
  ⟨fun b o e => hi b o (hle b o (h.le b o e)), fun p hp => hi _ _ (hle _ _ (exts_get h.nd hp)), h.dj, h.nd⟩
theorem Has.next {σ σ1 σK : Hp} {K : List (Nat × Obj)} {w w' : World} (h : Has σ K w) (hf : Fresh σ σ1 w) (hi : Imm σK w') (hle : Le (Go.Proofs.YtnjomdjkbbhdoaaGreatDoor.exts σ K) σK) (h1 : Le σ1 σK) : Has σ1 K w' :=
  ⟨fun b o e => hi b o (h1 b o e), fun p hp => hi _ _ (hle _ _ (exts_get h.nd hp)), fun p hp => by
    cases e : σ1 p.1 with
    | none => rfl
    | some o =>
      rcases hf p.1 o e with h2 | h2
      · rw [h.dj p hp] at h2; cases h2
      · have := (Array.getElem?_eq_some_iff.1 (h.ow p hp)).1; omega, h.nd⟩
def bothV (ts : List T) (op a b : Int) : Bool := (termV ts a).2 && (termV ts b).2 && decide ((termV ts a).1.op = op)
def RepBoth (x y : T) (is : Bool) (σ : Hp) (u : Value) : Prop := ∃ cx cy, u = .tuple #[.agg cx.toArray, .agg cy.toArray, .bool is] ∧ TermC σ cx x ∧ TermC σ cy y
instance (x y : T) (is : Bool) : MonoR (RepBoth x y is) := ⟨fun hl ⟨cx, cy, e, h1, h2⟩ => ⟨cx, cy, e, h1.le hl, h2.le hl⟩⟩
def openV (ts : List T) (key sealed : Int) : List UInt8 × Bool :=
  if bothV ts 4 sealed key = true ∧ ord ((termV ts sealed).1.kids.getD 0 zeroT) (termV ts key).1 = 0 then ((termV ts sealed).1.data, true) else ([], false)
def verifyV (ts : List T) (pub : Int) (msg : List UInt8) (sig : Int) : Bool :=
  bothV ts 3 sig pub && decide ((termV ts pub).1.op = 2) && ((termV ts sig).1.data == msg) && decide (ord ((termV ts sig).1.kids.getD 0 zeroT) ((termV ts pub).1.kids.getD 0 zeroT) = 0)
def RepBB (d : List UInt8) (is : Bool) (σ : Hp) (u : Value) : Prop := ∃ v, u = .tuple #[v, .bool is] ∧ BytesV σ v d
instance (d : List UInt8) (is : Bool) : MonoR (RepBB d is) := ⟨fun hl ⟨v, e, h⟩ => ⟨v, e, h.le hl⟩⟩
theorem termV_mem {ts : List T} {n : Int} (h : (termV ts n).2 = true) : (termV ts n).1 ∈ ts := by
  unfold termV at h ⊢
  split
  · rename_i hn
    have hl : n.toNat < ts.length := by omega
    simp [List.getD_eq_getElem?_getD, hl]
  · rename_i hn
    rw [if_neg hn] at h; cases h
theorem keyed_one {t : T} (h : right t = true) (ho : t.op = 2 ∨ t.op = 3 ∨ t.op = 4 ∨ t.op = 6) : t.kids.length = 1 := by
  have := (right_shape h).1
  unfold shape at this
  simp only [Bool.and_eq_true] at this
  have h2 := this.2
  rw [if_neg (by omega), if_neg (by omega)] at h2
  simpa using h2
def RepOf (F : FuncId) (op : Int) (d : List UInt8) (σ : Hp) (u : Value) : Prop := ∃ b2 b3 v, u = .func (.func F) #[] #[.pointer (some ⟨b2, 0, none⟩), .pointer (some ⟨b3, 0, none⟩)] ∧ CellsAt σ b2 0 [.int .i64 op] ∧ CellsAt σ b3 0 [v] ∧ BytesV σ v d
instance (F : FuncId) (op : Int) (d : List UInt8) : MonoR (RepOf F op d) := ⟨fun hl ⟨b2, b3, v, e, h1, h2, h3⟩ => ⟨b2, b3, v, e, h1.le hl, h2.le hl, h3.le hl⟩⟩
section
variable {P : Program} {l0 : List Oper} {Q : Exit → Act → World → Prop} {l rest : List Oper} {N : Nat} {L : TL} {d : Nat} {ty : TypeId} {pos : String} {af : Array Edge} {g : Option (Nat × Bool)} {w0 : World} {M : Nat → Prop} {σ : Hp} {H G : List (Nat × Obj)}
theorem ow_conv {s e b n c : Nat} {x : Operand} {arr : Array Value} [hB : ByteT P s] (hN : Nat.blt d N = true) (hg : gd l0 L g = some true) (hx : ev L x = some (.slice (some ⟨b, 0, none⟩) n c))
    (k : OW P l0 Q rest N ((d, .slice (some ⟨b, 0, none⟩) n c) :: L) (St w0 M σ ((b, .cells arr e (arr.size, arr.size + 1)) :: H) G)) : OW P l0 Q (⟨some d, .convert s s x, ty, pos, af, g⟩ :: rest) N L (St w0 M σ ((b, .cells arr e (0, 0)) :: H) G) :=
  ow_w (T := fun u w => u = .slice (some ⟨b, 0, none⟩) n c ∧ St w0 M σ ((b, .cells arr e (arr.size, arr.size + 1)) :: H) G w) hN hg (fun a w hf hs d ty pos af g => by
    obtain ⟨e', h1, h2⟩ := hB.ok
    have hb : w.heap[b]? = some (.cells arr e (0, 0)) := hs.own (p := (b, .cells arr e (0, 0))) (by simp)
    have hsh : w.shape? b = some (e, arr.size) := by simp [World.shape?, hb]
    have hfr : w.freeze ⟨b, arr.size, none⟩ 1 = World.putBlk w b (.cells arr e (arr.size, arr.size + 1)) := by
      have hlt := (Array.getElem?_eq_some_iff.1 hb).1
      have hge := (Array.getElem?_eq_some_iff.1 hb).2
      unfold World.freeze World.putBlk
      rw [if_neg (by decide)]
      congr 1
      apply Array.ext_getElem?
      intro i
      rw [Array.getElem?_modify, Array.getElem?_setIfInBounds]
      by_cases hi : b = i
      · subst hi; simp [hlt, hge]
      · simp [hi]
    have hr : (convert s s (.slice (some ⟨b, 0, none⟩) n c)).run P w = .ok (.slice (some ⟨b, 0, none⟩) n c) (w.freeze ⟨b, arr.size, none⟩ 1) := by
      simp [convert, run_underlying h1, run_underlying h2, markStringish, hsh]
    refine ⟨.slice (some ⟨b, 0, none⟩) n c, w.freeze ⟨b, arr.size, none⟩ 1, by simp [execOp, hf.eval hx, hr], ?_⟩
    rw [hfr]
    exact ⟨rfl, hs.put (i := 0) rfl _⟩) fun v a w hf ⟨hv, h2⟩ => by subst hv; exact k a w hf h2
theorem ow_frzO {o : Obj} {b : Nat} (hM : ∀ b, M b → False) (k : ∀ σ', Le σ σ' → Fresh σ σ' w0 → σ' b = some o → OW P l0 Q l N L (St w0 M σ' H G)) : OW P l0 Q l N L (St w0 M σ ((b, o) :: H) G) := fun a w hf hs => by
  obtain ⟨σ', h1, h2, h3, h4⟩ := hs.frz1 (hM b)
  exact k σ' h1 h2 h3 a w hf h4
end
theorem BytesV.lit {σ : Hp} {b : Nat} {ty : TypeId} {fz : Nat × Nat} {d : List UInt8} {n : Nat} (h : σ b = some (.cells (d.map byteV).toArray ty fz)) (hn : d.length = n) (hm : d.length ≤ maxData) : BytesV σ (.slice (some ⟨b, 0, none⟩) n n) d := by
  subst hn
  exact ⟨_, d.length, rfl, Nat.le_refl _, hm, .inr ⟨b, 0, rfl, _, ty, fz, h, fun j v hj => by simpa using hj⟩⟩
def encA : T := .mk 4 0 [97] [atomOne]
theorem made_atom : madeV [] (fun _ => (T.mk 1 1 [] [], true)) [] = (0, 0, [atomOne]) := by
  rw [madeV_some (l := []) rfl, if_pos rfl]
  show intern [] atomOne = _
  unfold intern
  rw [if_pos (by decide), if_neg (by decide), if_neg (by decide)]
  rfl
theorem made_enc : madeV [atomOne] (ofT 4 [97]) [0] = (1, 0, [atomOne, encA]) := by
  rw [madeV_some (l := [atomOne]) rfl, if_pos (by decide)]
  show intern [atomOne] encA = _
  unfold intern
  rw [if_pos (by decide), if_neg (by decide), if_neg (by decide)]
  rfl
theorem open_enc : openV [atomOne, encA] 0 1 = ([97], true) := by
  unfold openV
  rw [if_pos (by decide)]
  rfl
section
variable {P : Program} {N : Nat} {L : TL} {S : World → Prop}
theorem ex_streql {t u : TypeId} {x y : Operand} {a b : List UInt8} (hx : ev L x = some (.string (strOf a))) (hy : ev L y = some (.string (strOf b))) : Ex P (.binOp .eql t x y u) N L S (.bool (a == b)) := fun ac w hf hS d ty pos af g => by
  simp [execOp, hf.eval hx, hf.eval hy, eqGuard, binOp, Op.stringOp, strOf_toList]
end
end Go.Proofs.YtnjomdjkbbhdoaaGreatDoor
namespace Go.Proofs.YtnjomdjkbbhdoaaGreatDoor
open Go.RowKit
set_option linter.unusedVariables false
set_option linter.unusedSimpArgs false
set_option maxRecDepth 100000
set_option maxHeartbeats 400000 in
theorem pNew {σ : Hp} {w : World} (hi : Imm σ w) : Calls Tryz.prog 44 #[] w (GiveK (fun σ' u K' => ∃ b, u = .pointer (some ⟨b, 0, none⟩) ∧ VaultK 80 32 b [] σ' K') σ [] w) := by
  refine enter (St w (keysOf []) σ [] []) Tryz.func44 rfl Tryz.ntmps44 rfl (Has.start (Has.nil hi)) ?_
  refine cw_seq ?_
  refine cw_region ?_
  refine ow_val rfl rfl (ex_assign rfl) ?_
  refine ow_nil ?_
  refine qw_seq ?_
  refine cw_seq ?_
  refine cw_region ?_
  refine ow_mkmap rfl rfl exw_mkmap ?_
  intro m
  refine ow_val rfl rfl (ex_build (parts := [(1, _)]) (cells := #[.slice none 0 0, .map (some m)]) rfl (by kernel_rfl)) ?_
  refine ow_blk rfl rfl (exw_box rfl) ?_; intro b3
  refine ow_val rfl rfl (ex_assign rfl) ?_
  refine ow_nil ?_
  refine qw_seq ?_
  refine cw_ret ?_
  refine qw_ret1 rfl rfl (fun w' h => (St.flip h).givesK (Le.refl _) (Fresh.refl _ _) ⟨_, rfl, .slice none 0 0, [], m, [], rfl, OwnSl.nil _ _, rfl, TabI.nil, by simp⟩)
set_option maxHeartbeats 400000 in
theorem pLen {b c m : Nat} {p : Option Addr} {ts : List T} {σ : Hp} {w : World} (hi : Imm σ w) (hv : SeenV σ b ts p c m) : Calls Tryz.prog 37 #[.pointer (some ⟨b, 0, none⟩)] w fun e w' => e = .returned (.int .i64 (ts.length : Int)) ∧ Below w.heap.size w w' := by
  have hc0 := hv.c0
  refine enter (St w (fun _ => False) σ [] []) Tryz.func37 rfl Tryz.ntmps37 rfl (St.start hi) ?_
  refine cw_seq ?_
  refine cw_region ?_
  refine ow_val rfl rfl (ex_assign rfl) ?_
  refine ow_nil ?_
  refine qw_seq ?_
  refine cw_seq ?_
  refine cw_region ?_
  refine ow_val rfl rfl (ex_move rfl) ?_
  refine ow_val rfl rfl (ex_nilck rfl) ?_
  refine ow_val rfl rfl (ex_field rfl) ?_
  refine ow_val rfl rfl (ex_load1 rfl (by first | exact ld_own1 0 rfl rfl | exact ld_own1 1 rfl rfl | exact ld_own1 2 rfl rfl | exact ld_own1 3 rfl rfl | exact ld_own1 4 rfl rfl | exact ld_own1 5 rfl rfl | exact ld_own1 6 rfl rfl | exact ld_own1 7 rfl rfl | exact ld_ownG1 0 rfl rfl | exact ld_ownG1 1 rfl rfl | exact ld_imm1 (by assumption))) ?_
  refine ow_val rfl rfl (ex_len (ty := 0) rfl) ?_
  refine ow_val rfl rfl (ex_assign rfl) ?_
  refine ow_nil ?_
  refine qw_seq ?_
  refine cw_ret ?_
  refine qw_ret1 rfl rfl (fun w' h => ⟨rfl, h.ag.below⟩)
set_option maxHeartbeats 400000 in
theorem pFind (t : T) {b c m : Nat} {p : Option Addr} {ts : List T} {ct : List Value} {σ : Hp} {w : World} (hi : Imm σ w) (htab : TabC Tryz.prog σ) (hv : SeenV σ b ts p c m) (ht : TermC σ ct t) (hl : (keyB t).length ≤ 140737488355328) : Calls Tryz.prog 41 #[.pointer (some ⟨b, 0, none⟩), .agg ct.toArray] w fun e w' => e = .returned (.tuple #[.int .i64 (posT ts t), .bool (decide (0 ≤ posT ts t))]) ∧ Below w.heap.size w w' := by
  have hc1 := hv.c1
  have ht0 := ht
  obtain ⟨dv, kv, rfl, ho, hn, hd, hk⟩ := ht.opn
  refine enter (St w (fun _ => False) σ [] []) Tryz.func41 rfl Tryz.ntmps41 rfl (St.start hi) ?_
  refine cw_seq ?_
  refine cw_region ?_
  refine ow_blk rfl rfl (exw_box rfl) ?_; intro b3
  refine ow_val rfl rfl (ex_assign rfl) ?_
  refine ow_val rfl rfl (ex_assign rfl) ?_
  refine ow_nil ?_
  refine qw_seq ?_
  refine cw_seq ?_
  refine cw_seq ?_
  refine flow_sound 12 (by kernel_rfl) ?_
  refine flow_val rfl (ex_move rfl) ?_
  refine flow_val rfl (ex_nilck rfl) ?_
  refine flow_val rfl (ex_field rfl) ?_
  refine flow_val rfl (ex_load1 rfl (by first | exact ld_own1 0 rfl rfl | exact ld_own1 1 rfl rfl | exact ld_own1 2 rfl rfl | exact ld_own1 3 rfl rfl | exact ld_own1 4 rfl rfl | exact ld_own1 5 rfl rfl | exact ld_own1 6 rfl rfl | exact ld_own1 7 rfl rfl | exact ld_ownG1 0 rfl rfl | exact ld_ownG1 1 rfl rfl | exact ld_imm1 (by assumption))) ?_
  refine flow_val rfl (ex_loadR rfl (by first | exact ld_ownN 0 rfl rfl | exact ld_ownN 1 rfl rfl | exact ld_ownN 2 rfl rfl | exact ld_ownN 3 rfl rfl | exact ld_ownN 4 rfl rfl | exact ld_ownN 5 rfl rfl | exact ld_ownN 6 rfl rfl | exact ld_ownN 7 rfl rfl | exact ld_ownGN 0 rfl rfl | exact ld_ownGN 1 rfl rfl | exact ld_immT (by assumption) (by assumption))) ?_
  refine flow_cv rfl (ex_callf rfl (fun w h => callB ((pKey t h.im htab ht0 hl)))) ?_
  refine flow_val rfl (ex_mapget rfl rfl (fun w h => h.im _ _ hv.mp)) ?_
  refine flow_val rfl (ex_move rfl) ?_
  refine flow_val rfl (ex_extract rfl rfl) ?_
  refine flow_val rfl (ex_extract rfl rfl) ?_
  refine flow_val rfl (ex_assign rfl) ?_
  refine flow_val rfl (ex_assign rfl) ?_
  refine flow_nil ?_
  refine fin_is ?_
  refine fin_is ?_
  refine fin_is ?_
  refine fin_is ?_
  refine fin_is ?_
  refine fin_is ?_
  refine fin_is ?_
  refine fin_is ?_
  refine fin_is ?_
  refine fin_is ?_
  refine fin_is ?_
  refine fin_is ?_
  refine fin_nil ?_
  refine ow_nil ?_
  refine qw_seq ?_
  refine cw_seq ?_
  refine cw_region ?_
  refine ow_val rfl rfl (ex_move rfl) ?_
  refine ow_nil ?_
  refine qw_seq ?_
  refine cw_cond rfl (fun c18 => ?_) (fun c18 => ?_)
  ·
    refine cw_seq ?_
    refine cw_region ?_
    refine ow_val rfl rfl (ex_move rfl) ?_
    refine ow_val rfl rfl (ex_assign rfl) ?_
    refine ow_val rfl rfl (ex_assign rfl) ?_
    refine ow_nil ?_
    refine qw_seq ?_
    refine cw_ret ?_
    refine qw_then_ret ?_
    refine qw_ret2 rfl rfl rfl (fun w' h => ⟨?_, h.ag.below⟩)
    have h0 := of_decide_eq_true c18
    rw [if_pos h0, decide_eq_true h0]
  ·
    refine cw_skip ?_
    refine qw_seq ?_
    refine cw_seq ?_
    refine cw_region ?_
    refine ow_val rfl rfl (ex_assign rfl) ?_
    refine ow_val rfl rfl (ex_assign rfl) ?_
    refine ow_nil ?_
    refine qw_seq ?_
    refine cw_ret ?_
    refine qw_ret2 rfl rfl rfl (fun w' h => ⟨?_, h.ag.below⟩)
    have h0 := of_decide_eq_false c18
    rw [posT_none h0]
    rfl
set_option maxHeartbeats 400000 in
theorem pTerm {b : Nat} {n : Int} {ts : List T} {σ : Hp} {K : List (Nat × Obj)} {w : World} (hi : Has σ K w) (hv : VaultK 80 32 b ts σ K) : Calls Tryz.prog 11 #[.pointer (some ⟨b, 0, none⟩), .int .i64 n] w (GiveR (RepTB (termV ts n).1 (termV ts n).2) σ w) := by
  obtain ⟨sv, xs, m, Gs, rfl, hO, hrow, hti, hfew⟩ := hv
  obtain ⟨p, c, rfl, hcap, hsrc⟩ := hO.seen (σ := exts σ ((b, .cells #[sv, .map (some m)] 80) :: (m, mapObj ts) :: Gs)) (fun q hq => exts_get hi.nd (by simp [hq]))
  have hc0 : CellsAt (exts σ ((b, .cells #[.slice p ts.length c, .map (some m)] 80) :: (m, mapObj ts) :: Gs)) b 0 [.slice p ts.length c] := CellsAt.of1 (exts_get hi.nd List.mem_cons_self) rfl
  have hlt := hi.le
  have him := hi.exts
  generalize exts σ ((b, .cells #[.slice p ts.length c, .map (some m)] 80) :: (m, mapObj ts) :: Gs) = σK at *
  refine enter (St w (fun _ => False) σK [] []) Tryz.func11 rfl Tryz.ntmps11 rfl (St.start him) ?_
  refine cw_seq ?_
  refine cw_region ?_
  refine ow_blk rfl rfl exw_alloc ?_; intro b4
  refine ow_val rfl rfl (ex_assign rfl) ?_
  refine ow_nil ?_
  refine qw_seq ?_
  refine cw_seq ?_
  refine cw_seq ?_
  refine cw_region ?_
  refine ow_val rfl rfl (ex_move rfl) ?_
  refine ow_val rfl rfl (ex_lss rfl rfl) ?_
  refine ow_val rfl rfl (ex_move rfl) ?_
  refine ow_split (g := some (2, false)) rfl (fun s8 => ?_) (fun s8 => ?_)
  ·
    refine ow_skip rfl (gd_no rfl s8) ?_
    refine ow_skip rfl (gd_no rfl s8) ?_
    refine ow_skip rfl (gd_no rfl s8) ?_
    refine ow_skip rfl (gd_no rfl s8) ?_
    refine ow_skip rfl (gd_no rfl s8) ?_
    refine ow_skip rfl (gd_no rfl s8) ?_
    refine ow_skip rfl (gd_no rfl s8) ?_
    refine ow_val rfl rfl (ex_pickt rfl s8 rfl) ?_
    refine ow_nil ?_
    refine qw_seq ?_
    refine cw_cond_t rfl ?_
    refine cw_seq ?_
    refine cw_region ?_
    refine ow_val rfl rfl (ex_build (parts := []) (cells := #[.int .i64 0, .int .i64 0, .slice none 0 0, .slice none 0 0]) rfl (by kernel_rfl)) ?_
    refine ow_u rfl (exu_storeN 0 (cs := [.int .i64 0, .int .i64 0, .slice none 0 0, .slice none 0 0]) rfl rfl rfl rfl (zeroT_c σ).one rfl) ?_
    refine ow_val rfl rfl (ex_assign rfl) ?_
    refine ow_nil ?_
    refine qw_seq ?_
    refine cw_ret ?_
    refine qw_then_ret ?_
    refine qw_retC1 rfl rfl (ld_ownN 0 rfl rfl) rfl (fun w' h => ?_)
    have e : termV ts n = (zeroT, false) := by
      have h8 := of_decide_eq_true s8
      unfold termV
      rw [if_neg (by omega)]
    rw [e]
    exact h.givesS hlt (Le.refl _) (Fresh.refl _ _) ⟨_, rfl, zeroT_c σ⟩
  ·
    refine ow_val rfl (gd_go rfl s8) (ex_move rfl) ?_
    refine ow_val rfl (gd_go rfl s8) (ex_move rfl) ?_
    refine ow_val rfl (gd_go rfl s8) (ex_nilck rfl) ?_
    refine ow_val rfl (gd_go rfl s8) (ex_field rfl) ?_
    refine ow_val rfl (gd_go rfl s8) (ex_load1 rfl (by first | exact ld_own1 0 rfl rfl | exact ld_own1 1 rfl rfl | exact ld_own1 2 rfl rfl | exact ld_own1 3 rfl rfl | exact ld_own1 4 rfl rfl | exact ld_own1 5 rfl rfl | exact ld_own1 6 rfl rfl | exact ld_own1 7 rfl rfl | exact ld_ownG1 0 rfl rfl | exact ld_ownG1 1 rfl rfl | exact ld_imm1 (by assumption))) ?_
    refine ow_val rfl (gd_go rfl s8) (ex_len (ty := 0) rfl) ?_
    refine ow_val rfl (gd_go rfl s8) (ex_geq rfl rfl) ?_
    refine ow_val rfl rfl (ex_pickf rfl s8 rfl) ?_
    refine ow_nil ?_
    refine qw_seq ?_
    refine cw_cond rfl (fun c16 => ?_) (fun c16 => ?_)
    ·
      refine cw_seq ?_
      refine cw_region ?_
      refine ow_val rfl rfl (ex_build (parts := []) (cells := #[.int .i64 0, .int .i64 0, .slice none 0 0, .slice none 0 0]) rfl (by kernel_rfl)) ?_
      refine ow_u rfl (exu_storeN 0 (cs := [.int .i64 0, .int .i64 0, .slice none 0 0, .slice none 0 0]) rfl rfl rfl rfl (zeroT_c σ).one rfl) ?_
      refine ow_val rfl rfl (ex_assign rfl) ?_
      refine ow_nil ?_
      refine qw_seq ?_
      refine cw_ret ?_
      refine qw_then_ret ?_
      refine qw_retC1 rfl rfl (ld_ownN 0 rfl rfl) rfl (fun w' h => ?_)
      have e : termV ts n = (zeroT, false) := by
        have h8 := of_decide_eq_true c16
        unfold termV
        rw [if_neg (by omega)]
      rw [e]
      exact h.givesS hlt (Le.refl _) (Fresh.refl _ _) ⟨_, rfl, zeroT_c σ⟩
    ·
      refine cw_skip ?_
      refine qw_seq ?_
      refine cw_seq ?_
      obtain ⟨hn0, hn1⟩ : 0 ≤ n ∧ n < ts.length := by
        first | (simp at *; omega) | (simp at *; constructor <;> omega)
      obtain ⟨i, rfl⟩ : ∃ i : Nat, n = (i : Int) := ⟨n.toNat, by omega⟩
      have hil : i < ts.length := by omega
      obtain ⟨cs, htc, hcs⟩ := hrow.at i hil
      obtain ⟨bb, ob, rfl, hcb⟩ := hsrc.resolve_left (by omega)
      have hca : CellsAt σK bb (ob + i * 4) cs := by rw [← hcs]; exact (hcb.drop (i * 4)).take 4
      have hcl := htc.len
      refine cw_region ?_
      refine ow_val rfl rfl (ex_move rfl) ?_
      refine ow_val rfl rfl (ex_nilck rfl) ?_
      refine ow_val rfl rfl (ex_field rfl) ?_
      refine ow_val rfl rfl (ex_load1 rfl (by first | exact ld_own1 0 rfl rfl | exact ld_own1 1 rfl rfl | exact ld_own1 2 rfl rfl | exact ld_own1 3 rfl rfl | exact ld_own1 4 rfl rfl | exact ld_own1 5 rfl rfl | exact ld_own1 6 rfl rfl | exact ld_own1 7 rfl rfl | exact ld_ownG1 0 rfl rfl | exact ld_ownG1 1 rfl rfl | exact ld_imm1 (by assumption))) ?_
      refine ow_val rfl rfl (ex_move rfl) ?_
      refine ow_val rfl rfl (ex_index_nat rfl rfl (by omega)) ?_
      refine ow_val rfl rfl (ex_loadR rfl ⟨hcl, fun w h => hca.range h.im⟩) ?_
      refine ow_crs rfl rfl hlt (ex_callf rfl (fun w h => callR (pNorm pSortsS (by unfold maxKids; omega) _ (right_slim (hti.rt _ (List.getElem_mem hil))).2 (fun b o e => h.im b o (hlt b o e)) htc))) (fun v25 τ τK hl hf hr hlk hle => ?_)
      rw [(right_slim (hti.rt _ (List.getElem_mem hil))).1] at hr
      obtain ⟨c25, rfl, ht25⟩ := hr
      have ht25' := ht25
      obtain ⟨d25, k25, rfl, _, _, _, _⟩ := ht25'.opn
      refine ow_u rfl (exu_storeN 0 rfl rfl rfl rfl ht25.one rfl) ?_
      refine ow_val rfl rfl (ex_assign rfl) ?_
      refine ow_nil ?_
      refine qw_seq ?_
      refine cw_ret ?_
      refine qw_retC1 rfl rfl (ld_ownN 0 rfl rfl) rfl (fun w' h => ?_)
      have e : termV ts (i : Int) = (ts[i], true) := by
        unfold termV
        rw [if_pos ⟨hn0, hn1⟩]
        simp [List.getD_eq_getElem?_getD, hil]
      rw [e]
      exact h.givesS hle hl hf ⟨_, rfl, ht25⟩
set_option maxHeartbeats 400000 in
theorem pPut : ∀ (t : T) {b : Nat} {ts : List T} {ct : List Value} {σ : Hp} {K : List (Nat × Obj)} {w : World}, Has σ K w → TabC Tryz.prog σ → VaultK 80 32 b ts σ K → TermC σ ct t → right t = true → (0 ≤ posT ts t ∨ ts.length + size t ≤ 4096) → Calls Tryz.prog 74 #[.pointer (some ⟨b, 0, none⟩), .agg ct.toArray] w (GiveK (fun σ' u K' => u = .int .i64 (numV t ts) ∧ VaultK 80 32 b (putV t ts) σ' K') σ K w) := by
  intro t
  induction t using T.ind with
  | _ o n d ks ih =>
  intro b ts ct σ K w hi htab hv ht hr hroom
  have ht0 := ht
  obtain ⟨dv, kv, rfl, ho, hn, hd, hk⟩ := ht.opn
  simp only [T.kids, T.op, T.num, T.data] at *
  obtain ⟨p, c, rfl, hc, hm⟩ := hk.slice
  have hm2 := hm
  unfold maxKids at hm2
  obtain ⟨pv, cv, mv, hs⟩ := hv.seenX hi
  have hlim := right_lim hr
  have hslim := right_slim hr
  refine enter (St w (keysOf K) σ [] K) Tryz.func74 rfl Tryz.ntmps74 rfl (Has.start hi) ?_
  refine cw_seq ?_
  refine cw_region ?_
  refine ow_blk rfl rfl (exw_box rfl) ?_; intro b3
  refine ow_val rfl rfl (ex_assign rfl) ?_
  refine ow_nil ?_
  refine qw_seq ?_
  refine cw_seq ?_
  refine cw_region ?_
  refine ow_val rfl rfl (ex_loadR rfl (by first | exact ld_ownN 0 rfl rfl | exact ld_ownN 1 rfl rfl | exact ld_ownN 2 rfl rfl | exact ld_ownN 3 rfl rfl | exact ld_ownN 4 rfl rfl | exact ld_ownN 5 rfl rfl | exact ld_ownN 6 rfl rfl | exact ld_ownN 7 rfl rfl | exact ld_ownGN 0 rfl rfl | exact ld_ownGN 1 rfl rfl | exact ld_immT (by assumption) (by assumption))) ?_
  refine ow_cv rfl rfl (ex_callf rfl (fun w h => callB ((pKey _ h.im htab ht0 hlim)))) ?_
  refine ow_val rfl rfl (ex_assign rfl) ?_
  refine ow_nil ?_
  refine qw_seq ?_
  refine cw_seq ?_
  refine cw_seq ?_
  refine cw_region ?_
  refine ow_val rfl rfl (ex_move rfl) ?_
  refine ow_val rfl rfl (ex_nilck rfl) ?_
  refine ow_val rfl rfl (ex_field rfl) ?_
  refine ow_val rfl rfl (ex_load1 rfl (fun w h => hs.c1.cell h.hasE.exts)) ?_
  refine ow_val rfl rfl (ex_move rfl) ?_
  refine ow_val rfl rfl (ex_mapget rfl rfl (fun w h => h.hasE.exts _ _ hs.mp)) ?_
  refine ow_val rfl rfl (ex_move rfl) ?_
  refine ow_val rfl rfl (ex_extract rfl rfl) ?_
  refine ow_val rfl rfl (ex_extract rfl rfl) ?_
  refine ow_val rfl rfl (ex_assign rfl) ?_
  refine ow_val rfl rfl (ex_assign rfl) ?_
  refine ow_nil ?_
  refine qw_seq ?_
  refine cw_seq ?_
  refine cw_region ?_
  refine ow_val rfl rfl (ex_move rfl) ?_
  refine ow_nil ?_
  refine qw_seq ?_
  refine cw_cond rfl (fun c22 => ?_) (fun c22 => ?_)
  ·
    refine cw_seq ?_
    refine cw_region ?_
    refine ow_val rfl rfl (ex_move rfl) ?_
    refine ow_val rfl rfl (ex_assign rfl) ?_
    refine ow_nil ?_
    refine qw_seq ?_
    refine cw_ret ?_
    refine qw_then_ret ?_
    refine qw_ret1 rfl rfl (fun w' h => ?_)
    have h0 := of_decide_eq_true c22
    refine (h.drop (List.nil_sublist _)).givesK (Le.refl _) (Fresh.refl _ _) ⟨?_, ?_⟩
    · unfold numV
      rw [if_pos h0, if_pos h0]
    · rw [putV_mk, if_pos h0]
      exact hv
  ·
    have hnp : ¬ 0 ≤ posT ts (.mk o n d ks) := of_decide_eq_false c22
    have hsz := hroom.resolve_left hnp
    simp only [size] at hsz
    refine cw_skip ?_
    refine qw_seq ?_
    refine cw_seq ?_
    refine cw_seq ?_
    refine cw_region ?_
    refine ow_val rfl rfl (ex_field rfl) ?_
    refine ow_val rfl rfl (ex_load1 rfl (by first | exact ld_own1 0 rfl rfl | exact ld_own1 1 rfl rfl | exact ld_own1 2 rfl rfl | exact ld_own1 3 rfl rfl | exact ld_own1 4 rfl rfl | exact ld_own1 5 rfl rfl | exact ld_own1 6 rfl rfl | exact ld_own1 7 rfl rfl | exact ld_ownG1 0 rfl rfl | exact ld_ownG1 1 rfl rfl | exact ld_imm1 (by assumption))) ?_
    refine ow_val rfl rfl (ex_len (ty := 0) rfl) ?_
    refine ow_val rfl rfl (ex_move rfl) ?_
    refine ow_nil ?_
    refine qw_seq ?_
    refine cw_block ?_
    refine cw_loop3 (fun (j : Nat) (τ : Hp) (K' : List (Nat × Obj)) => [(0, .pointer (some ⟨b, 0, none⟩)), (3, .pointer (some ⟨b3, 0, none⟩)), (5, .string (strOf (keyB (.mk o n d ks)))), (25, .slice p ks.length c), (26, .int .i64 (ks.length : Int)), (27, .int .i64 (j : Int))]) (fun j τ K' => j ≤ ks.length ∧ Le σ τ ∧ Fresh σ τ w ∧ VaultK 80 32 b (putVs (ks.take j) ts) τ K') (fun j τ K' => τ) (fun j τ K' => K') (fun j _ _ => ks.length - j) 0 σ K (subL_cons (lkv rfl (by first | rfl | simp)) (subL_cons (lkv rfl (by first | rfl | simp)) (subL_cons (lkv rfl (by first | rfl | simp)) (subL_cons (lkv rfl (by first | rfl | simp)) (subL_cons (lkv rfl (by first | rfl | simp)) (subL_cons (lkv rfl (by first | rfl | simp)) (subL_nil _))))))) ⟨Nat.zero_le _, Le.refl _, Fresh.refl _ _, by simpa [putVs] using hv⟩ (fun w h => h) ?_
    intro j τj Kj ⟨hlej, hlj, hfj, hvj⟩
    refine cw_seq ?_
    refine cw_region ?_
    refine ow_val rfl rfl (ex_lss rfl rfl) ?_
    refine ow_nil ?_
    refine qw_seq ?_
    refine cw_seq ?_
    refine cw_cond rfl (fun c28 => ?_) (fun c28 => ?_)
    ·
      refine cw_skip ?_
      refine qw_seq ?_
      refine cw_seq ?_
      refine cw_block ?_
      refine cw_seq ?_
      have hltj : j < ks.length := by have := of_decide_eq_true c28; omega
      obtain ⟨bk, f, c', cs, e1, e2, hc1, ht1⟩ := hk.get j hltj
      cases e1
      have ht1' := ht1
      obtain ⟨d9, k9, rfl, _, _, _, _⟩ := ht1'.opn
      have hst := putVs_take ks ts j hltj
      have hpl := putVs_len ks ts j
      have hs1 := sizes_take ks j hltj
      have hs2 := sizes_take_le ks (j + 1)
      refine cw_region ?_
      refine ow_val rfl rfl (ex_index_nat rfl rfl (by omega)) ?_
      refine ow_val rfl rfl (ex_loadR rfl (ld_immT (hc1.le hlj) (ht1.le hlj))) ?_
      refine ow_blk rfl rfl exw_alloc ?_; intro b9
      refine ow_u rfl (exu_storeN 0 rfl rfl rfl rfl ht1.one rfl) ?_
      refine ow_nil ?_
      refine qw_seq ?_
      refine cw_region ?_
      refine ow_val rfl rfl (ex_move rfl) ?_
      refine ow_val rfl rfl (ex_loadR rfl (by first | exact ld_ownN 0 rfl rfl | exact ld_ownN 1 rfl rfl | exact ld_ownN 2 rfl rfl | exact ld_ownN 3 rfl rfl | exact ld_ownN 4 rfl rfl | exact ld_ownN 5 rfl rfl | exact ld_ownN 6 rfl rfl | exact ld_ownN 7 rfl rfl | exact ld_ownGN 0 rfl rfl | exact ld_ownGN 1 rfl rfl | exact ld_immT (by assumption) (by assumption))) ?_
      refine ow_ckE rfl rfl (ex_callf rfl (fun w h => ih _ (List.getElem_mem hltj) h.hasE (htab.le hlj) hvj (ht1.le hlj) (right_in (t := .mk o n d ks) hr (List.getElem_mem hltj)) (.inr (by omega)))) (fun v33 τ33 K33 hl33 hf33 hr33 => ?_)
      refine ow_nil ?_
      refine qw_block_normal ?_
      refine qw_seq ?_
      refine cw_region ?_
      refine ow_val rfl rfl (ex_addi (z := ((j + 1 : Nat) : Int)) rfl rfl (by omega) (by omega) (by omega)) ?_
      refine ow_val rfl rfl (ex_move rfl) ?_
      refine ow_nil ?_
      refine qw_round3 (j + 1) τ33 K33 (by omega) (subL_cons (lkv rfl (by first | rfl | simp)) (subL_cons (lkv rfl (by first | rfl | simp)) (subL_cons (lkv rfl (by first | rfl | simp)) (subL_cons (lkv rfl (by first | rfl | simp)) (subL_cons (lkv rfl (by first | rfl | simp)) (subL_cons (lkv rfl (by first | rfl | simp)) (subL_nil _))))))) ⟨by omega, hlj.trans hl33, hfj.trans hf33, ?_⟩ (fun w h => h.drop (List.sublist_cons_self _ _))
      rw [hst]
      exact hr33.2
    ·
      refine cw_exit ?_
      refine qw_then_exit ?_
      refine qw_then_exit ?_
      refine qw_block_exit ?_
      refine qw_seq ?_
      refine cw_seq ?_
      have he : j = ks.length := by have := of_decide_eq_false c28; omega
      subst he
      rw [List.take_length] at hvj
      have hpl := putVs_len ks ts ks.length
      rw [List.take_length] at hpl
      have hnew := putVs_new (t := .mk o n d ks) hnp
      simp only [T.kids] at hnew
      obtain ⟨sv, xs, m, Gs, rfl, hO, hrow, hti, hfew⟩ := hvj
      obtain ⟨pq, cq, rfl, hcq⟩ := hO.slice
      refine cw_region ?_
      refine ow_val rfl rfl (ex_move rfl) ?_
      refine ow_val rfl rfl (ex_nilck rfl) ?_
      refine ow_val rfl rfl (ex_field rfl) ?_
      refine ow_val rfl rfl (ex_load1 rfl (by first | exact ld_own1 0 rfl rfl | exact ld_own1 1 rfl rfl | exact ld_own1 2 rfl rfl | exact ld_own1 3 rfl rfl | exact ld_own1 4 rfl rfl | exact ld_own1 5 rfl rfl | exact ld_own1 6 rfl rfl | exact ld_own1 7 rfl rfl | exact ld_ownG1 0 rfl rfl | exact ld_ownG1 1 rfl rfl | exact ld_imm1 (by assumption))) ?_
      refine ow_val rfl rfl (ex_len (ty := 0) rfl) ?_
      refine ow_val rfl rfl (ex_assign rfl) ?_
      refine ow_nil ?_
      refine qw_seq ?_
      refine cw_cut [(0, .pointer (some ⟨b, 0, none⟩)), (5, .string (strOf (keyB (.mk o n d ks)))), (10, .int .i64 ((putVs ks ts).length : Int))] (fun w' => ∃ (τ5 : Hp) (c45 : List Value) (g cg : Nat) (tl : List Value), (Le τj τ5 ∧ Fresh τj τ5 w ∧ TermC τ5 c45 (.mk o n d ks) ∧ (putVs ks ts).length + 1 ≤ cg ∧ cg ≤ maxLen ∧ (xs ++ c45 ++ tl).length = cg * 4) ∧ St w (keysOf K) τ5 [(g, rowO (xs ++ c45) tl 32), (m, mapObj (putVs ks ts)), (b, .cells #[.slice (some ⟨g, 0, none⟩) ((putVs ks ts).length + 1) cg, .map (some m)] 80)] [] w') ?_ ?_
      ·
        refine flow_soundT 8 (by kernel_rfl) ?_
        refine flow_val rfl (ex_move rfl) ?_
        refine flow_val rfl (ex_nilck rfl) ?_
        refine flow_val rfl (ex_field rfl) ?_
        refine flow_val rfl (ex_load1 rfl (by first | exact ld_own1 0 rfl rfl | exact ld_own1 1 rfl rfl | exact ld_own1 2 rfl rfl | exact ld_own1 3 rfl rfl | exact ld_own1 4 rfl rfl | exact ld_own1 5 rfl rfl | exact ld_own1 6 rfl rfl | exact ld_own1 7 rfl rfl | exact ld_ownG1 0 rfl rfl | exact ld_ownG1 1 rfl rfl | exact ld_imm1 (by assumption))) ?_
        refine flow_val rfl (ex_loadR rfl (by first | exact ld_ownN 0 rfl rfl | exact ld_ownN 1 rfl rfl | exact ld_ownN 2 rfl rfl | exact ld_ownN 3 rfl rfl | exact ld_ownN 4 rfl rfl | exact ld_ownN 5 rfl rfl | exact ld_ownN 6 rfl rfl | exact ld_ownN 7 rfl rfl | exact ld_ownGN 0 rfl rfl | exact ld_ownGN 1 rfl rfl | exact ld_immT (by assumption) (by assumption))) ?_
        refine flow_cr rfl (ex_callf rfl (fun w h => callR (pNorm pSortsS (by unfold maxKids; omega) _ hslim.2 h.im (ht0.le hlj)))) ?_
        refine flow_val rfl (ex_len (ty := 0) rfl) ?_
        refine flow_sat QR.pers (obk (ob_one rfl rfl (zeroT_c _))) ?_
        refine flow_nilT ?_
        refine fint_satR (Le.refl _) (fun v47 τ7 hl7 hf7 hr7 => ?_)
        obtain ⟨bo, co, rfl, hco, htco⟩ := hr7
        refine fint_is ?_
        refine fint_satR hl7 (fun v45 τ5 hl5 hf5 hr5 => ?_)
        rw [hslim.1] at hr5
        obtain ⟨c45, rfl, ht45⟩ := hr5
        refine fint_is ?_
        refine fint_is ?_
        refine fint_is ?_
        refine fint_is ?_
        refine fint_is ?_
        refine fint_nil ?_
        refine any_one (i := 8) (by kernel_rfl) ?_
        refine next_mono (fun w h => h.ofG.ofG) ?_
        refine next_app1 rfl rfl (exw_append1 (news := co) rfl rfl hO (by simp [htco.len]) (.inr ⟨_, _, rfl, fun w h => (hco.le hl5).range h.im⟩) htco.one (by unfold maxLen; omega) (by omega)) (fun v48 G48 hO48 hz48 => ?_)
        obtain ⟨g, cg, tl, rfl, rfl, hg1, hg2, hg3⟩ := hO48.open (by omega)
        refine any_mono (fun w h => h.ofG) ?_
        refine any_two (i := 9) (j := 11) (by kernel_rfl) ?_ ?_
        ·
          refine next_val rfl rfl (ex_index_nat rfl rfl (by omega)) ?_
          refine any_two (i := 10) (j := 11) (by kernel_rfl) ?_ ?_
          ·
            refine next_u rfl (exu_storeX 0 rfl rfl rfl ht45.len ht45.one (by simp [hrow.len, htco.len])) ?_
            refine any_one (i := 11) (by kernel_rfl) ?_
            refine next_val rfl rfl (ex_nilck rfl) ?_
            refine any_one (i := 12) (by kernel_rfl) ?_
            refine next_val rfl rfl (ex_field rfl) ?_
            refine any_one (i := 13) (by kernel_rfl) ?_
            refine next_u rfl (exu_store1 2 rfl rfl rfl rfl rfl rfl) ?_
            refine any_done (by kernel_rfl) ?_
            refine qw_meet (subL_cons (lkv rfl (by first | rfl | simp)) (subL_cons (lkv rfl (by first | rfl | simp)) (subL_cons (lkv rfl (by first | rfl | simp)) (subL_nil _)))) (fun w' h => ⟨τ5, c45, g, cg, tl, ⟨hl7.trans hl5, hf7.trans hf5, ht45, hg1, hg2, by have h1 := ht45.len; have h2 := htco.len; simp only [List.length_append] at hg3 ⊢; omega⟩, ?_⟩)
            have h1 : St w (keysOf K) τ5 [(g, rowO (setX (xs ++ co) (putVs ks ts).length c45) tl 32), (m, mapObj (putVs ks ts)), (b, .cells #[.slice (some ⟨g, 0, none⟩) ((putVs ks ts).length + 1) cg, .map (some m)] 80)] [] w' := h.drop (.cons_cons _ (.cons_cons _ (.cons_cons _ (List.nil_sublist _))))
            rwa [setX_snoc hrow.len htco.len] at h1
          ·
            refine next_val rfl rfl (ex_nilck rfl) ?_
            refine any_two (i := 10) (j := 12) (by kernel_rfl) ?_ ?_
            ·
              refine next_u rfl (exu_storeX 0 rfl rfl rfl ht45.len ht45.one (by simp [hrow.len, htco.len])) ?_
              refine any_one (i := 12) (by kernel_rfl) ?_
              refine next_val rfl rfl (ex_field rfl) ?_
              refine any_one (i := 13) (by kernel_rfl) ?_
              refine next_u rfl (exu_store1 2 rfl rfl rfl rfl rfl rfl) ?_
              refine any_done (by kernel_rfl) ?_
              refine qw_meet (subL_cons (lkv rfl (by first | rfl | simp)) (subL_cons (lkv rfl (by first | rfl | simp)) (subL_cons (lkv rfl (by first | rfl | simp)) (subL_nil _)))) (fun w' h => ⟨τ5, c45, g, cg, tl, ⟨hl7.trans hl5, hf7.trans hf5, ht45, hg1, hg2, by have h1 := ht45.len; have h2 := htco.len; simp only [List.length_append] at hg3 ⊢; omega⟩, ?_⟩)
              have h1 : St w (keysOf K) τ5 [(g, rowO (setX (xs ++ co) (putVs ks ts).length c45) tl 32), (m, mapObj (putVs ks ts)), (b, .cells #[.slice (some ⟨g, 0, none⟩) ((putVs ks ts).length + 1) cg, .map (some m)] 80)] [] w' := h.drop (.cons_cons _ (.cons_cons _ (.cons_cons _ (List.nil_sublist _))))
              rwa [setX_snoc hrow.len htco.len] at h1
            ·
              refine next_val rfl rfl (ex_field rfl) ?_
              refine any_two (i := 10) (j := 13) (by kernel_rfl) ?_ ?_
              ·
                refine next_u rfl (exu_storeX 0 rfl rfl rfl ht45.len ht45.one (by simp [hrow.len, htco.len])) ?_
                refine any_one (i := 13) (by kernel_rfl) ?_
                refine next_u rfl (exu_store1 2 rfl rfl rfl rfl rfl rfl) ?_
                refine any_done (by kernel_rfl) ?_
                refine qw_meet (subL_cons (lkv rfl (by first | rfl | simp)) (subL_cons (lkv rfl (by first | rfl | simp)) (subL_cons (lkv rfl (by first | rfl | simp)) (subL_nil _)))) (fun w' h => ⟨τ5, c45, g, cg, tl, ⟨hl7.trans hl5, hf7.trans hf5, ht45, hg1, hg2, by have h1 := ht45.len; have h2 := htco.len; simp only [List.length_append] at hg3 ⊢; omega⟩, ?_⟩)
                have h1 : St w (keysOf K) τ5 [(g, rowO (setX (xs ++ co) (putVs ks ts).length c45) tl 32), (m, mapObj (putVs ks ts)), (b, .cells #[.slice (some ⟨g, 0, none⟩) ((putVs ks ts).length + 1) cg, .map (some m)] 80)] [] w' := h.drop (.cons_cons _ (.cons_cons _ (.cons_cons _ (List.nil_sublist _))))
                rwa [setX_snoc hrow.len htco.len] at h1
              ·
                refine next_u rfl (exu_store1 2 rfl rfl rfl rfl rfl rfl) ?_
                refine any_one (i := 10) (by kernel_rfl) ?_
                refine next_u rfl (exu_storeX 0 rfl rfl rfl ht45.len ht45.one (by simp [hrow.len, htco.len])) ?_
                refine any_done (by kernel_rfl) ?_
                refine qw_meet (subL_cons (lkv rfl (by first | rfl | simp)) (subL_cons (lkv rfl (by first | rfl | simp)) (subL_cons (lkv rfl (by first | rfl | simp)) (subL_nil _)))) (fun w' h => ⟨τ5, c45, g, cg, tl, ⟨hl7.trans hl5, hf7.trans hf5, ht45, hg1, hg2, by have h1 := ht45.len; have h2 := htco.len; simp only [List.length_append] at hg3 ⊢; omega⟩, ?_⟩)
                have h1 : St w (keysOf K) τ5 [(g, rowO (setX (xs ++ co) (putVs ks ts).length c45) tl 32), (m, mapObj (putVs ks ts)), (b, .cells #[.slice (some ⟨g, 0, none⟩) ((putVs ks ts).length + 1) cg, .map (some m)] 80)] [] w' := h.drop (.cons_cons _ (.cons_cons _ (.cons_cons _ (List.nil_sublist _))))
                rwa [setX_snoc hrow.len htco.len] at h1
        ·
          refine next_val rfl rfl (ex_nilck rfl) ?_
          refine any_two (i := 9) (j := 12) (by kernel_rfl) ?_ ?_
          ·
            refine next_val rfl rfl (ex_index_nat rfl rfl (by omega)) ?_
            refine any_two (i := 10) (j := 12) (by kernel_rfl) ?_ ?_
            ·
              refine next_u rfl (exu_storeX 0 rfl rfl rfl ht45.len ht45.one (by simp [hrow.len, htco.len])) ?_
              refine any_one (i := 12) (by kernel_rfl) ?_
              refine next_val rfl rfl (ex_field rfl) ?_
              refine any_one (i := 13) (by kernel_rfl) ?_
              refine next_u rfl (exu_store1 2 rfl rfl rfl rfl rfl rfl) ?_
              refine any_done (by kernel_rfl) ?_
              refine qw_meet (subL_cons (lkv rfl (by first | rfl | simp)) (subL_cons (lkv rfl (by first | rfl | simp)) (subL_cons (lkv rfl (by first | rfl | simp)) (subL_nil _)))) (fun w' h => ⟨τ5, c45, g, cg, tl, ⟨hl7.trans hl5, hf7.trans hf5, ht45, hg1, hg2, by have h1 := ht45.len; have h2 := htco.len; simp only [List.length_append] at hg3 ⊢; omega⟩, ?_⟩)
              have h1 : St w (keysOf K) τ5 [(g, rowO (setX (xs ++ co) (putVs ks ts).length c45) tl 32), (m, mapObj (putVs ks ts)), (b, .cells #[.slice (some ⟨g, 0, none⟩) ((putVs ks ts).length + 1) cg, .map (some m)] 80)] [] w' := h.drop (.cons_cons _ (.cons_cons _ (.cons_cons _ (List.nil_sublist _))))
              rwa [setX_snoc hrow.len htco.len] at h1
            ·
              refine next_val rfl rfl (ex_field rfl) ?_
              refine any_two (i := 10) (j := 13) (by kernel_rfl) ?_ ?_
              ·
                refine next_u rfl (exu_storeX 0 rfl rfl rfl ht45.len ht45.one (by simp [hrow.len, htco.len])) ?_
                refine any_one (i := 13) (by kernel_rfl) ?_
                refine next_u rfl (exu_store1 2 rfl rfl rfl rfl rfl rfl) ?_
                refine any_done (by kernel_rfl) ?_
                refine qw_meet (subL_cons (lkv rfl (by first | rfl | simp)) (subL_cons (lkv rfl (by first | rfl | simp)) (subL_cons (lkv rfl (by first | rfl | simp)) (subL_nil _)))) (fun w' h => ⟨τ5, c45, g, cg, tl, ⟨hl7.trans hl5, hf7.trans hf5, ht45, hg1, hg2, by have h1 := ht45.len; have h2 := htco.len; simp only [List.length_append] at hg3 ⊢; omega⟩, ?_⟩)
                have h1 : St w (keysOf K) τ5 [(g, rowO (setX (xs ++ co) (putVs ks ts).length c45) tl 32), (m, mapObj (putVs ks ts)), (b, .cells #[.slice (some ⟨g, 0, none⟩) ((putVs ks ts).length + 1) cg, .map (some m)] 80)] [] w' := h.drop (.cons_cons _ (.cons_cons _ (.cons_cons _ (List.nil_sublist _))))
                rwa [setX_snoc hrow.len htco.len] at h1
              ·
                refine next_u rfl (exu_store1 2 rfl rfl rfl rfl rfl rfl) ?_
                refine any_one (i := 10) (by kernel_rfl) ?_
                refine next_u rfl (exu_storeX 0 rfl rfl rfl ht45.len ht45.one (by simp [hrow.len, htco.len])) ?_
                refine any_done (by kernel_rfl) ?_
                refine qw_meet (subL_cons (lkv rfl (by first | rfl | simp)) (subL_cons (lkv rfl (by first | rfl | simp)) (subL_cons (lkv rfl (by first | rfl | simp)) (subL_nil _)))) (fun w' h => ⟨τ5, c45, g, cg, tl, ⟨hl7.trans hl5, hf7.trans hf5, ht45, hg1, hg2, by have h1 := ht45.len; have h2 := htco.len; simp only [List.length_append] at hg3 ⊢; omega⟩, ?_⟩)
                have h1 : St w (keysOf K) τ5 [(g, rowO (setX (xs ++ co) (putVs ks ts).length c45) tl 32), (m, mapObj (putVs ks ts)), (b, .cells #[.slice (some ⟨g, 0, none⟩) ((putVs ks ts).length + 1) cg, .map (some m)] 80)] [] w' := h.drop (.cons_cons _ (.cons_cons _ (.cons_cons _ (List.nil_sublist _))))
                rwa [setX_snoc hrow.len htco.len] at h1
          ·
            refine next_val rfl rfl (ex_field rfl) ?_
            refine any_two (i := 9) (j := 13) (by kernel_rfl) ?_ ?_
            ·
              refine next_val rfl rfl (ex_index_nat rfl rfl (by omega)) ?_
              refine any_two (i := 10) (j := 13) (by kernel_rfl) ?_ ?_
              ·
                refine next_u rfl (exu_storeX 0 rfl rfl rfl ht45.len ht45.one (by simp [hrow.len, htco.len])) ?_
                refine any_one (i := 13) (by kernel_rfl) ?_
                refine next_u rfl (exu_store1 2 rfl rfl rfl rfl rfl rfl) ?_
                refine any_done (by kernel_rfl) ?_
                refine qw_meet (subL_cons (lkv rfl (by first | rfl | simp)) (subL_cons (lkv rfl (by first | rfl | simp)) (subL_cons (lkv rfl (by first | rfl | simp)) (subL_nil _)))) (fun w' h => ⟨τ5, c45, g, cg, tl, ⟨hl7.trans hl5, hf7.trans hf5, ht45, hg1, hg2, by have h1 := ht45.len; have h2 := htco.len; simp only [List.length_append] at hg3 ⊢; omega⟩, ?_⟩)
                have h1 : St w (keysOf K) τ5 [(g, rowO (setX (xs ++ co) (putVs ks ts).length c45) tl 32), (m, mapObj (putVs ks ts)), (b, .cells #[.slice (some ⟨g, 0, none⟩) ((putVs ks ts).length + 1) cg, .map (some m)] 80)] [] w' := h.drop (.cons_cons _ (.cons_cons _ (.cons_cons _ (List.nil_sublist _))))
                rwa [setX_snoc hrow.len htco.len] at h1
              ·
                refine next_u rfl (exu_store1 2 rfl rfl rfl rfl rfl rfl) ?_
                refine any_one (i := 10) (by kernel_rfl) ?_
                refine next_u rfl (exu_storeX 0 rfl rfl rfl ht45.len ht45.one (by simp [hrow.len, htco.len])) ?_
                refine any_done (by kernel_rfl) ?_
                refine qw_meet (subL_cons (lkv rfl (by first | rfl | simp)) (subL_cons (lkv rfl (by first | rfl | simp)) (subL_cons (lkv rfl (by first | rfl | simp)) (subL_nil _)))) (fun w' h => ⟨τ5, c45, g, cg, tl, ⟨hl7.trans hl5, hf7.trans hf5, ht45, hg1, hg2, by have h1 := ht45.len; have h2 := htco.len; simp only [List.length_append] at hg3 ⊢; omega⟩, ?_⟩)
                have h1 : St w (keysOf K) τ5 [(g, rowO (setX (xs ++ co) (putVs ks ts).length c45) tl 32), (m, mapObj (putVs ks ts)), (b, .cells #[.slice (some ⟨g, 0, none⟩) ((putVs ks ts).length + 1) cg, .map (some m)] 80)] [] w' := h.drop (.cons_cons _ (.cons_cons _ (.cons_cons _ (List.nil_sublist _))))
                rwa [setX_snoc hrow.len htco.len] at h1
            ·
              refine next_u rfl (exu_store1 2 rfl rfl rfl rfl rfl rfl) ?_
              refine any_one (i := 9) (by kernel_rfl) ?_
              refine next_val rfl rfl (ex_index_nat rfl rfl (by omega)) ?_
              refine any_one (i := 10) (by kernel_rfl) ?_
              refine next_u rfl (exu_storeX 0 rfl rfl rfl ht45.len ht45.one (by simp [hrow.len, htco.len])) ?_
              refine any_done (by kernel_rfl) ?_
              refine qw_meet (subL_cons (lkv rfl (by first | rfl | simp)) (subL_cons (lkv rfl (by first | rfl | simp)) (subL_cons (lkv rfl (by first | rfl | simp)) (subL_nil _)))) (fun w' h => ⟨τ5, c45, g, cg, tl, ⟨hl7.trans hl5, hf7.trans hf5, ht45, hg1, hg2, by have h1 := ht45.len; have h2 := htco.len; simp only [List.length_append] at hg3 ⊢; omega⟩, ?_⟩)
              have h1 : St w (keysOf K) τ5 [(g, rowO (setX (xs ++ co) (putVs ks ts).length c45) tl 32), (m, mapObj (putVs ks ts)), (b, .cells #[.slice (some ⟨g, 0, none⟩) ((putVs ks ts).length + 1) cg, .map (some m)] 80)] [] w' := h.drop (.cons_cons _ (.cons_cons _ (.cons_cons _ (List.nil_sublist _))))
              rwa [setX_snoc hrow.len htco.len] at h1
      ·
        refine cw_ex fun τ5 => cw_ex fun c45 => cw_ex fun g => cw_ex fun cg => cw_ex fun tl => cw_and fun ⟨hl5, hf5, ht45, hg1, hg2, hg3⟩ => ?_
        refine cw_seq ?_
        refine cw_region ?_
        refine ow_val rfl rfl (ex_move rfl) ?_
        refine ow_val rfl rfl (ex_nilck rfl) ?_
        refine ow_val rfl rfl (ex_field rfl) ?_
        refine ow_val rfl rfl (ex_load1 rfl (by first | exact ld_own1 0 rfl rfl | exact ld_own1 1 rfl rfl | exact ld_own1 2 rfl rfl | exact ld_own1 3 rfl rfl | exact ld_own1 4 rfl rfl | exact ld_own1 5 rfl rfl | exact ld_own1 6 rfl rfl | exact ld_own1 7 rfl rfl | exact ld_ownG1 0 rfl rfl | exact ld_ownG1 1 rfl rfl | exact ld_imm1 (by assumption))) ?_
        refine ow_val rfl rfl (ex_move rfl) ?_
        refine ow_val rfl rfl (ex_move rfl) ?_
        refine ow_u rfl (exu_mapput 1 rfl rfl rfl rfl hnew) ?_
        refine ow_nil ?_
        refine qw_seq ?_
        refine cw_seq ?_
        refine cw_region ?_
        refine ow_val rfl rfl (ex_move rfl) ?_
        refine ow_val rfl rfl (ex_assign rfl) ?_
        refine ow_nil ?_
        refine qw_seq ?_
        refine cw_ret ?_
        refine qw_ret1 rfl rfl (fun w' h => ?_)
        have h2 := (St.flip h).permG (List.reverse_perm _)
        have hlen1 : (putVs ks ts ++ [T.mk o n d ks]).length = (putVs ks ts).length + 1 := by simp
        have hxl := hrow.len
        have hcl5 := ht45.len
        refine h2.givesK (hlj.trans hl5) (hfj.trans hf5) ⟨?_, ?_⟩
        · unfold numV
          rw [if_neg hnp]; rfl
        · rw [putV_mk, if_neg hnp]
          refine ⟨_, xs ++ c45, m, _, rfl, ?_, (hrow.le hl5).append (RowC.one ht45), hti.snoc (fun hm => hnew (posT_iff.2 hm)) hr (fun k hk => mem_putVs ts hk), ?_⟩
          · rw [show (putVs (T.mk o n d ks).kids ts ++ [T.mk o n d ks]).length = (putVs ks ts).length + 1 from hlen1]
            exact OwnSl.close (by simp; omega) hg1 hg2 hg3
          · rw [show (putVs (T.mk o n d ks).kids ts ++ [T.mk o n d ks]).length = (putVs ks ts).length + 1 from hlen1]; omega
set_option maxHeartbeats 400000 in
theorem pIntern (t : T) {b : Nat} {ts : List T} {ct : List Value} {σ : Hp} {K : List (Nat × Obj)} {w : World} (hi : Has σ K w) (htab : TabC Tryz.prog σ) (hv : VaultK 80 32 b ts σ K) (ht : TermC σ ct t) : Calls Tryz.prog 45 #[.pointer (some ⟨b, 0, none⟩), .agg ct.toArray] w (GiveK (fun σ' u K' => u = .tuple #[.int .i64 (intern ts t).1, .int .i64 (intern ts t).2.1] ∧ VaultK 80 32 b (intern ts t).2.2 σ' K') σ K w) := by
  have ht0 := ht
  obtain ⟨dv, kv, rfl, ho, hn, hd, hk⟩ := ht.opn
  obtain ⟨pv, cv, mv, hs⟩ := hv.seenX hi
  have hfew := hs.few
  refine enter (St w (keysOf K) σ [] K) Tryz.func45 rfl Tryz.ntmps45 rfl (Has.start hi) ?_
  refine cw_seq ?_
  refine cw_region ?_
  refine ow_blk rfl rfl (exw_box rfl) ?_; intro b3
  refine ow_val rfl rfl (ex_assign rfl) ?_
  refine ow_val rfl rfl (ex_assign rfl) ?_
  refine ow_nil ?_
  refine qw_seq ?_
  refine cw_seq ?_
  refine cw_seq ?_
  refine cw_region ?_
  refine ow_val rfl rfl (ex_loadR rfl (by first | exact ld_ownN 0 rfl rfl | exact ld_ownN 1 rfl rfl | exact ld_ownN 2 rfl rfl | exact ld_ownN 3 rfl rfl | exact ld_ownN 4 rfl rfl | exact ld_ownN 5 rfl rfl | exact ld_ownN 6 rfl rfl | exact ld_ownN 7 rfl rfl | exact ld_ownGN 0 rfl rfl | exact ld_ownGN 1 rfl rfl | exact ld_immT (by assumption) (by assumption))) ?_
  refine ow_cv rfl rfl (ex_callf rfl (fun w h => callB ((pRight t h.im ht0)))) ?_
  refine ow_val rfl rfl (ex_not rfl) ?_
  refine ow_nil ?_
  refine qw_seq ?_
  refine cw_cond rfl (fun c10 => ?_) (fun c10 => ?_)
  ·
    refine cw_seq ?_
    refine cw_region ?_
    refine ow_val rfl rfl (ex_assign rfl) ?_
    refine ow_val rfl rfl (ex_assign rfl) ?_
    refine ow_nil ?_
    refine qw_seq ?_
    refine cw_ret ?_
    refine qw_then_ret ?_
    refine qw_ret2 rfl rfl rfl (fun w' h => ?_)
    have hr : ¬ right t = true := by simpa using c10
    have e : intern ts t = (-1, 51, ts) := by unfold intern; rw [if_neg hr]
    rw [e]
    exact (h.drop (List.nil_sublist _)).givesK (Le.refl _) (Fresh.refl _ _) ⟨rfl, hv⟩
  ·
    have hr : right t = true := by simpa using c10
    refine cw_skip ?_
    refine qw_seq ?_
    refine cw_seq ?_
    refine cw_seq ?_
    refine cw_region ?_
    refine ow_val rfl rfl (ex_move rfl) ?_
    refine ow_val rfl rfl (ex_loadR rfl (by first | exact ld_ownN 0 rfl rfl | exact ld_ownN 1 rfl rfl | exact ld_ownN 2 rfl rfl | exact ld_ownN 3 rfl rfl | exact ld_ownN 4 rfl rfl | exact ld_ownN 5 rfl rfl | exact ld_ownN 6 rfl rfl | exact ld_ownN 7 rfl rfl | exact ld_ownGN 0 rfl rfl | exact ld_ownGN 1 rfl rfl | exact ld_immT (by assumption) (by assumption))) ?_
    refine ow_cv rfl rfl (ex_callf rfl (fun w h => callB ((pFind t h.hasE.exts (htab.le hi.le) hs (ht0.le hi.le) (right_lim hr))))) ?_
    refine ow_val rfl rfl (ex_move rfl) ?_
    refine ow_val rfl rfl (ex_extract rfl rfl) ?_
    refine ow_val rfl rfl (ex_extract rfl rfl) ?_
    refine ow_val rfl rfl (ex_assign rfl) ?_
    refine ow_val rfl rfl (ex_assign rfl) ?_
    refine ow_nil ?_
    refine qw_seq ?_
    refine cw_seq ?_
    refine cw_region ?_
    refine ow_val rfl rfl (ex_move rfl) ?_
    refine ow_nil ?_
    refine qw_seq ?_
    refine cw_cond rfl (fun c17 => ?_) (fun c17 => ?_)
    ·
      refine cw_seq ?_
      refine cw_region ?_
      refine ow_val rfl rfl (ex_move rfl) ?_
      refine ow_val rfl rfl (ex_assign rfl) ?_
      refine ow_val rfl rfl (ex_assign rfl) ?_
      refine ow_nil ?_
      refine qw_seq ?_
      refine cw_ret ?_
      refine qw_then_ret ?_
      refine qw_ret2 rfl rfl rfl (fun w' h => ?_)
      have h0 := of_decide_eq_true c17
      have e : intern ts t = (posT ts t, 0, ts) := by unfold intern; rw [if_pos hr, if_pos h0]
      rw [e]
      exact (h.drop (List.nil_sublist _)).givesK (Le.refl _) (Fresh.refl _ _) ⟨rfl, hv⟩
    ·
      refine cw_skip ?_
      refine qw_seq ?_
      refine cw_seq ?_
      refine cw_seq ?_
      refine flow_sound 9 (by kernel_rfl) ?_
      refine flow_val rfl (ex_loadR rfl (by first | exact ld_ownN 0 rfl rfl | exact ld_ownN 1 rfl rfl | exact ld_ownN 2 rfl rfl | exact ld_ownN 3 rfl rfl | exact ld_ownN 4 rfl rfl | exact ld_ownN 5 rfl rfl | exact ld_ownN 6 rfl rfl | exact ld_ownN 7 rfl rfl | exact ld_ownGN 0 rfl rfl | exact ld_ownGN 1 rfl rfl | exact ld_immT (by assumption) (by assumption))) ?_
      refine flow_cv rfl (ex_callf rfl (fun w h => callB ((pSize t h.im ht0 (right_size hr))))) ?_
      refine flow_val rfl (ex_move rfl) ?_
      refine flow_val rfl (ex_nilck rfl) ?_
      refine flow_val rfl (ex_field rfl) ?_
      refine flow_val rfl (ex_load1 rfl (fun w h => hs.c0.cell h.hasE.exts)) ?_
      refine flow_val rfl (ex_len (ty := 0) rfl) ?_
      refine flow_val rfl (ex_subi (z := (4096 - (ts.length : Int))) rfl rfl (by omega) (by omega) (by omega)) ?_
      refine flow_val rfl (ex_gtr rfl rfl) ?_
      refine flow_nil ?_
      refine fin_is ?_
      refine fin_is ?_
      refine fin_is ?_
      refine fin_is ?_
      refine fin_is ?_
      refine fin_is ?_
      refine fin_is ?_
      refine fin_is ?_
      refine fin_is ?_
      refine fin_nil ?_
      refine ow_nil ?_
      refine qw_seq ?_
      refine cw_cond rfl (fun c27 => ?_) (fun c27 => ?_)
      ·
        refine cw_seq ?_
        refine cw_region ?_
        refine ow_val rfl rfl (ex_assign rfl) ?_
        refine ow_val rfl rfl (ex_assign rfl) ?_
        refine ow_nil ?_
        refine qw_seq ?_
        refine cw_ret ?_
        refine qw_then_ret ?_
        refine qw_ret2 rfl rfl rfl (fun w' h => ?_)
        have h0 := of_decide_eq_false c17
        have h1 := of_decide_eq_true c27
        have e : intern ts t = (-1, 2, ts) := by unfold intern; rw [if_pos hr, if_neg h0, if_pos (by omega)]
        rw [e]
        exact (h.drop (List.nil_sublist _)).givesK (Le.refl _) (Fresh.refl _ _) ⟨rfl, hv⟩
      ·
        refine cw_skip ?_
        refine qw_seq ?_
        refine cw_seq ?_
        refine cw_region ?_
        refine ow_val rfl rfl (ex_move rfl) ?_
        refine ow_val rfl rfl (ex_loadR rfl (by first | exact ld_ownN 0 rfl rfl | exact ld_ownN 1 rfl rfl | exact ld_ownN 2 rfl rfl | exact ld_ownN 3 rfl rfl | exact ld_ownN 4 rfl rfl | exact ld_ownN 5 rfl rfl | exact ld_ownN 6 rfl rfl | exact ld_ownN 7 rfl rfl | exact ld_ownGN 0 rfl rfl | exact ld_ownGN 1 rfl rfl | exact ld_immT (by assumption) (by assumption))) ?_
        refine ow_ckE rfl rfl (ex_callf rfl (fun w h => pPut t h.hasE htab hv ht0 hr (.inr (by have := of_decide_eq_false c27; omega)))) (fun v30 τ30 K30 hl30 hf30 hr30 => ?_)
        obtain ⟨rfl, hv30⟩ := hr30
        refine ow_val rfl rfl (ex_assign rfl) ?_
        refine ow_val rfl rfl (ex_assign rfl) ?_
        refine ow_nil ?_
        refine qw_seq ?_
        refine cw_ret ?_
        refine qw_ret2 rfl rfl rfl (fun w' h => ?_)
        have h0 := of_decide_eq_false c17
        have h1 := of_decide_eq_false c27
        have e : intern ts t = (numV t ts, 0, putV t ts) := by unfold intern; rw [if_pos hr, if_neg h0, if_neg (by omega)]
        rw [e]
        exact (h.drop (List.nil_sublist _)).givesK hl30 hf30 ⟨rfl, hv30⟩
end Go.Proofs.YtnjomdjkbbhdoaaGreatDoor
namespace Go.Proofs.YtnjomdjkbbhdoaaGreatDoor
open Go.RowKit
set_option linter.unusedVariables false
set_option linter.unusedSimpArgs false
set_option maxRecDepth 100000
theorem pLenK {b : Nat} {ts : List T} {σ : Hp} {K : List (Nat × Obj)} {w : World} (hi : Has σ K w) (hv : VaultK 80 32 b ts σ K) : Calls Tryz.prog 37 #[.pointer (some ⟨b, 0, none⟩)] w fun e w' => e = .returned (.int .i64 (ts.length : Int)) ∧ Below w.heap.size w w' :=
  let ⟨_, _, _, h⟩ := hv.seenX hi
  pLen hi.exts h
end Go.Proofs.YtnjomdjkbbhdoaaGreatDoor
namespace Go.Proofs.YtnjomdjkbbhdoaaGreatDoor
open Go.RowKit
set_option linter.unusedVariables false
set_option linter.unusedSimpArgs false
set_option maxRecDepth 100000
set_option maxHeartbeats 400000 in
theorem pOf1 {op : Int} {d : List UInt8} {ls : List T} {lv v : Value} {b2 b3 : Nat} {σ : Hp} {w : World} (hi : Imm σ w) (hl : KidsV σ lv ls) (h2 : CellsAt σ b2 0 [.int .i64 op]) (h3 : CellsAt σ b3 0 [v]) (hd : BytesV σ v d) (hop : -9223372036854775808 ≤ op ∧ op ≤ 9223372036854775807) : Calls Tryz.prog 89 #[lv, .pointer (some ⟨b2, 0, none⟩), .pointer (some ⟨b3, 0, none⟩)] w (GiveR (RepTB (ofT op d ls).1 (ofT op d ls).2) σ w) := by
  obtain ⟨p, c, rfl, _, _⟩ := hl.slice
  obtain ⟨pd, cd, rfl, _, _⟩ := hd.slice
  have htp : TermC σ [.int .i64 op, .int .i64 0, .slice pd d.length cd, .slice p ls.length c] (.mk op 0 d ls) := TermC.mk hop (by omega) hd hl
  refine enter (St w (fun _ => False) σ [] []) Tryz.func89 rfl Tryz.ntmps89 rfl (St.start hi) ?_
  refine cw_seq ?_
  refine cw_region ?_
  refine ow_blk rfl rfl exw_alloc ?_; intro b4
  refine ow_val rfl rfl (ex_assign rfl) ?_
  refine ow_nil ?_
  refine qw_seq ?_
  refine cw_seq ?_
  refine cw_region ?_
  refine ow_val rfl rfl (ex_load1 rfl (by first | exact ld_own1 0 rfl rfl | exact ld_own1 1 rfl rfl | exact ld_own1 2 rfl rfl | exact ld_own1 3 rfl rfl | exact ld_own1 4 rfl rfl | exact ld_own1 5 rfl rfl | exact ld_own1 6 rfl rfl | exact ld_own1 7 rfl rfl | exact ld_ownG1 0 rfl rfl | exact ld_ownG1 1 rfl rfl | exact ld_imm1 (by assumption))) ?_
  refine ow_val rfl rfl (ex_load1 rfl (by first | exact ld_own1 0 rfl rfl | exact ld_own1 1 rfl rfl | exact ld_own1 2 rfl rfl | exact ld_own1 3 rfl rfl | exact ld_own1 4 rfl rfl | exact ld_own1 5 rfl rfl | exact ld_own1 6 rfl rfl | exact ld_own1 7 rfl rfl | exact ld_ownG1 0 rfl rfl | exact ld_ownG1 1 rfl rfl | exact ld_imm1 (by assumption))) ?_
  refine ow_val rfl rfl (ex_move rfl) ?_
  refine ow_val rfl rfl (ex_build (parts := [(0, _), (2, _), (3, _)]) (cells := #[.int .i64 op, .int .i64 0, .slice pd d.length cd, .slice p ls.length c]) rfl (by kernel_rfl)) ?_
  refine ow_u rfl (exu_storeN 0 (cs := [.int .i64 op, .int .i64 0, .slice pd d.length cd, .slice p ls.length c]) rfl rfl rfl rfl htp.one rfl) ?_
  refine ow_val rfl rfl (ex_assign rfl) ?_
  refine ow_nil ?_
  refine qw_seq ?_
  refine cw_ret ?_
  refine qw_retC1 rfl rfl (ld_ownN 0 rfl rfl) rfl (fun w' h => ?_)
  exact h.gives (Le.refl _) (Fresh.refl _ _) ⟨_, rfl, htp⟩
set_option maxHeartbeats 400000 in
theorem pOf {op : Int} {d : List UInt8} {v : Value} {σ : Hp} {w : World} (hi : Imm σ w) (hd : BytesV σ v d) : Calls Tryz.prog 57 #[.int .i64 op, v] w (GiveR (RepOf 89 op d) σ w) := by
  obtain ⟨pd, cd, rfl, _, _⟩ := hd.slice
  refine enter (St w (fun _ => False) σ [] []) Tryz.func57 rfl Tryz.ntmps57 rfl (St.start hi) ?_
  refine cw_seq ?_
  refine cw_region ?_
  refine ow_blk rfl rfl (exw_box rfl) ?_; intro b2
  refine ow_blk rfl rfl (exw_box rfl) ?_; intro b3
  refine ow_val rfl rfl (ex_assign rfl) ?_
  refine ow_nil ?_
  refine qw_seq ?_
  refine cw_seq ?_
  refine cw_region ?_
  refine ow_val rfl rfl (ex_makeFunc rfl rfl) ?_
  refine ow_val rfl rfl (ex_assign rfl) ?_
  refine ow_nil ?_
  refine qw_seq ?_
  refine cw_ret ?_
  refine qw_ret1 rfl rfl (fun w' h => ?_)
  obtain ⟨σ1, l1, f1, e1, h1⟩ := St.frz1 h id
  obtain ⟨σ2, l2, f2, e2, h2⟩ := St.frz1 h1 id
  exact h2.gives (l1.trans l2) (f1.trans f2) ⟨b2, b3, _, rfl, CellsAt.of1 e2 rfl, CellsAt.of1 (l2 _ _ e1) rfl, hd.le (l1.trans l2)⟩
set_option maxHeartbeats 400000 in
theorem pAtom1 {n : Int} {ls : List T} {lv : Value} {b1 : Nat} {σ : Hp} {w : World} (hi : Imm σ w) (hl : KidsV σ lv ls) (h1 : CellsAt σ b1 0 [.int .i64 n]) (hn : -9223372036854775808 ≤ n ∧ n ≤ 9223372036854775807) : Calls Tryz.prog 60 #[lv, .pointer (some ⟨b1, 0, none⟩)] w (GiveR (RepTB (.mk 1 n [] []) true) σ w) := by
  obtain ⟨p, c, rfl, _, _⟩ := hl.slice
  have htp : TermC σ [.int .i64 1, .int .i64 n, .slice none 0 0, .slice none 0 0] (.mk 1 n [] []) := TermC.mk (by omega) hn (BytesV.nil σ) (KidsV.nil σ)
  refine enter (St w (fun _ => False) σ [] []) Tryz.func60 rfl Tryz.ntmps60 rfl (St.start hi) ?_
  refine cw_seq ?_
  refine cw_region ?_
  refine ow_blk rfl rfl exw_alloc ?_; intro b3
  refine ow_val rfl rfl (ex_assign rfl) ?_
  refine ow_nil ?_
  refine qw_seq ?_
  refine cw_seq ?_
  refine cw_region ?_
  refine ow_val rfl rfl (ex_load1 rfl (by first | exact ld_own1 0 rfl rfl | exact ld_own1 1 rfl rfl | exact ld_own1 2 rfl rfl | exact ld_own1 3 rfl rfl | exact ld_own1 4 rfl rfl | exact ld_own1 5 rfl rfl | exact ld_own1 6 rfl rfl | exact ld_own1 7 rfl rfl | exact ld_ownG1 0 rfl rfl | exact ld_ownG1 1 rfl rfl | exact ld_imm1 (by assumption))) ?_
  refine ow_val rfl rfl (ex_build (parts := [(0, _), (1, _)]) (cells := #[.int .i64 1, .int .i64 n, .slice none 0 0, .slice none 0 0]) rfl (by kernel_rfl)) ?_
  refine ow_u rfl (exu_storeN 0 (cs := [.int .i64 1, .int .i64 n, .slice none 0 0, .slice none 0 0]) rfl rfl rfl rfl htp.one rfl) ?_
  refine ow_val rfl rfl (ex_assign rfl) ?_
  refine ow_nil ?_
  refine qw_seq ?_
  refine cw_ret ?_
  refine qw_retC1 rfl rfl (ld_ownN 0 rfl rfl) rfl (fun w' h => ?_)
  exact h.gives (Le.refl _) (Fresh.refl _ _) ⟨_, rfl, htp⟩
set_option maxHeartbeats 400000 in
theorem pPow1 {x y : T} {lv : Value} {σ : Hp} {w : World} (hi : Imm σ w) (hl : KidsV σ lv [x, y]) : Calls Tryz.prog 58 #[lv] w (GiveR (RepTB (powG [x, y]).1 (powG [x, y]).2) σ w) := by
  obtain ⟨bk, f, c, c0, rfl, hc, hc0, ht0⟩ := hl.get 0 (by simp)
  obtain ⟨bk', f', c', c1, e1, _, hc1, ht1⟩ := hl.get 1 (by simp)
  cases e1
  simp only [List.getElem_cons_zero, List.getElem_cons_succ] at ht0 ht1
  refine enter (St w (fun _ => False) σ [] []) Tryz.func58 rfl Tryz.ntmps58 rfl (St.start hi) ?_
  refine cw_seq ?_
  refine cw_region ?_
  refine ow_blk rfl rfl exw_alloc ?_; intro b2
  refine ow_val rfl rfl (ex_assign rfl) ?_
  refine ow_nil ?_
  refine qw_seq ?_
  refine cw_seq ?_
  refine flow_soundT 6 (by kernel_rfl) ?_
  refine flow_val rfl (ex_move rfl) ?_
  refine flow_val rfl (ex_index_nat (i := 0) rfl rfl (by simp)) ?_
  refine flow_val rfl (ex_loadR rfl (ld_immT hc0 ht0)) ?_
  refine flow_val rfl (ex_move rfl) ?_
  refine flow_val rfl (ex_index_nat (i := 1) rfl rfl (by simp)) ?_
  refine flow_val rfl (ex_loadR rfl (ld_immT hc1 ht1)) ?_
  refine flow_nilT ?_
  refine fint_is ?_
  refine fint_is ?_
  refine fint_is ?_
  refine fint_is ?_
  refine fint_is ?_
  refine fint_is ?_
  refine fint_nil ?_
  refine any_one (i := 6) (by kernel_rfl) ?_
  refine next_cr rfl rfl (ex_callf rfl (fun w h => callR (pPow h.im ht0 ht1))) (fun v10 τ hl hf hr10 => ?_)
  obtain ⟨c10, rfl, ht10⟩ := hr10
  have ht10' := ht10
  obtain ⟨d10, k10, rfl, _, _, _, _⟩ := ht10'.opn
  refine any_two (i := 7) (j := 8) (by kernel_rfl) ?_ ?_
  ·
    refine next_val rfl rfl (ex_extract rfl rfl) ?_
    refine any_one (i := 8) (by kernel_rfl) ?_
    refine next_val rfl rfl (ex_extract rfl rfl) ?_
    refine any_one (i := 9) (by kernel_rfl) ?_
    refine next_u rfl (exu_storeN 0 rfl rfl rfl rfl ht10.one rfl) ?_
    refine any_one (i := 10) (by kernel_rfl) ?_
    refine next_val rfl rfl (ex_assign rfl) ?_
    refine any_done (by kernel_rfl) ?_
    refine qw_seq ?_
    refine cw_ret ?_
    refine qw_retC1 rfl rfl (ld_ownN 0 rfl rfl) rfl (fun w' h => ?_)
    exact h.gives hl hf ⟨_, rfl, ht10⟩
  ·
    refine next_val rfl rfl (ex_extract rfl rfl) ?_
    refine any_one (i := 7) (by kernel_rfl) ?_
    refine next_val rfl rfl (ex_extract rfl rfl) ?_
    refine any_one (i := 9) (by kernel_rfl) ?_
    refine next_u rfl (exu_storeN 0 rfl rfl rfl rfl ht10.one rfl) ?_
    refine any_one (i := 10) (by kernel_rfl) ?_
    refine next_val rfl rfl (ex_assign rfl) ?_
    refine any_done (by kernel_rfl) ?_
    refine qw_seq ?_
    refine cw_ret ?_
    refine qw_retC1 rfl rfl (ld_ownN 0 rfl rfl) rfl (fun w' h => ?_)
    exact h.gives hl hf ⟨_, rfl, ht10⟩
set_option maxHeartbeats 400000 in
theorem pMade {F : FuncId} [FnT Tryz.prog F] {caps : List Value} {g : List T → T × Bool} {hs : List Int} {b : Nat} {ts : List T} {hv : Value} {σ : Hp} {K : List (Nat × Obj)} {w : World} (hi : Has σ K w) (htab : TabC Tryz.prog σ) (hvk : VaultK 80 32 b ts σ K) (hz : IntsV σ hv hs) (hlen : hs.length ≤ 4)
    (hof : ∀ {σ' : Hp} {w' : World} {lv : Value} {l : List T}, Le σ σ' → Imm σ' w' → KidsV σ' lv l → l.length = hs.length → Calls Tryz.prog F (lv :: caps).toArray w' (GiveR (RepTB (g l).1 (g l).2) σ' w')) :
    Calls Tryz.prog 56 #[.pointer (some ⟨b, 0, none⟩), .func (.func F) #[] caps.toArray, hv] w (GiveK (fun σ' u K' => u = .tuple #[.int .i64 (madeV ts g hs).1, .int .i64 (madeV ts g hs).2.1] ∧ VaultK 80 32 b (madeV ts g hs).2.2 σ' K') σ K w) := by
  obtain ⟨pz, cz, rfl, hcz, hsrc⟩ := hz
  refine enter (St w (keysOf K) σ [] K) Tryz.func56 rfl Tryz.ntmps56 rfl (Has.start hi) ?_
  refine cw_seq ?_
  refine cw_region ?_
  refine ow_val rfl rfl (ex_assign rfl) ?_
  refine ow_val rfl rfl (ex_assign rfl) ?_
  refine ow_nil ?_
  refine qw_seq ?_
  refine cw_seq ?_
  refine cw_region ?_
  refine ow_val rfl rfl (ex_assign rfl) ?_
  refine ow_nil ?_
  refine qw_seq ?_
  refine cw_seq ?_
  refine cw_seq ?_
  refine cw_region ?_
  refine ow_val rfl rfl (ex_move rfl) ?_
  refine ow_val rfl rfl (ex_ptrnil rfl) ?_
  refine ow_nil ?_
  refine qw_seq ?_
  refine cw_cond rfl (fun c16 => ?_) (fun c16 => ?_)
  ·
    simp at c16
  ·
    refine cw_skip ?_
    refine qw_seq ?_
    refine cw_seq ?_
    refine cw_seq ?_
    refine cw_region ?_
    refine ow_val rfl rfl (ex_move rfl) ?_
    refine ow_val rfl rfl (ex_len (ty := 0) rfl) ?_
    refine ow_val rfl rfl (ex_move rfl) ?_
    refine ow_nil ?_
    refine qw_seq ?_
    refine cw_block ?_
    refine cw_loop5 (fun (l : List T) (v8 : Value) (xs : List Value) (Gs : List (Nat × Obj)) (τ : Hp) => [(0, .pointer (some ⟨b, 0, none⟩)), (1, .func (.func F) #[] caps.toArray), (8, v8), (17, .slice pz hs.length cz), (18, .int .i64 (hs.length : Int)), (19, .int .i64 (l.length : Int))]) (fun l v8 xs Gs τ => l.length ≤ hs.length ∧ Le σ τ ∧ Fresh σ τ w ∧ OwnSl 32 4 v8 l.length xs Gs ∧ RowC τ xs l ∧ gatherT ts (hs.take l.length) = some l) (fun l v8 xs Gs τ => τ) (fun l v8 xs Gs τ => Gs ++ K) (fun l _ _ _ _ => hs.length - l.length) [] (.slice none 0 0) [] [] σ (subL_cons (lkv rfl (by first | rfl | simp)) (subL_cons (lkv rfl (by first | rfl | simp)) (subL_cons (lkv rfl (by first | rfl | simp)) (subL_cons (lkv rfl (by first | rfl | simp)) (subL_cons (lkv rfl (by first | rfl | simp)) (subL_cons (lkv rfl (by first | rfl | simp)) (subL_nil _))))))) ⟨Nat.zero_le _, Le.refl _, Fresh.refl _ _, OwnSl.nil _ _, rfl, rfl⟩ (fun w h => h) ?_
    intro l v8 xs Gs τ ⟨hle, hl, hf, hO, hrow, hgl⟩
    refine cw_seq ?_
    refine cw_region ?_
    refine ow_val rfl rfl (ex_lss rfl rfl) ?_
    refine ow_nil ?_
    refine qw_seq ?_
    refine cw_seq ?_
    refine cw_cond rfl (fun c20 => ?_) (fun c20 => ?_)
    ·
      refine cw_skip ?_
      refine qw_seq ?_
      refine cw_seq ?_
      refine cw_block ?_
      refine cw_seq ?_
      have hlt : l.length < hs.length := by have := of_decide_eq_true c20; omega
      obtain ⟨bz, oz, rfl, hcb⟩ := hsrc.resolve_left (fun e => by subst e; simp at hlt)
      have hgs := gatherT_snoc hlt hgl
      refine cw_region ?_
      refine ow_val rfl rfl (ex_index_nat rfl rfl (by omega)) ?_
      refine ow_val rfl rfl (ex_load1 rfl (ld_imm1 ((hcb.le hl).int hlt))) ?_
      refine ow_val rfl rfl (ex_assign rfl) ?_
      refine ow_nil ?_
      refine qw_seq ?_
      refine cw_seq ?_
      refine cw_region ?_
      refine ow_val rfl rfl (ex_move rfl) ?_
      refine ow_val rfl rfl (ex_move rfl) ?_
      refine ow_cr rfl rfl (ex_callf rfl (fun w h => callR (pTerm (h.permG List.perm_append_comm).has (hvk.le hl)))) (fun v26 τ26 hl26 hf26 hr26 => ?_)
      obtain ⟨c26, rfl, ht26⟩ := hr26
      have ht26' := ht26
      obtain ⟨d26, k26, rfl, _, _, _, _⟩ := ht26'.opn
      refine ow_val rfl rfl (ex_move rfl) ?_
      refine ow_val rfl rfl (ex_extract rfl rfl) ?_
      refine ow_val rfl rfl (ex_extract rfl rfl) ?_
      refine ow_blk rfl rfl exw_alloc ?_; intro b11
      refine ow_u rfl (exu_storeN 0 rfl rfl rfl rfl ht26.one rfl) ?_
      refine ow_val rfl rfl (ex_assign rfl) ?_
      refine ow_nil ?_
      refine qw_seq ?_
      refine cw_seq ?_
      refine cw_seq ?_
      refine cw_region ?_
      refine ow_val rfl rfl (ex_move rfl) ?_
      refine ow_val rfl rfl (ex_not rfl) ?_
      refine ow_nil ?_
      refine qw_seq ?_
      refine cw_cond rfl (fun c30 => ?_) (fun c30 => ?_)
      ·
        have hbad : ¬ (termV ts hs[l.length]).2 = true := by simpa using c30
        rw [if_neg hbad] at hgs
        have hall := gatherT_bad hgs
        refine cw_seq ?_
        refine cw_region ?_
        refine ow_val rfl rfl (ex_assign rfl) ?_
        refine ow_val rfl rfl (ex_assign rfl) ?_
        refine ow_nil ?_
        refine qw_seq ?_
        refine cw_ret ?_
        refine qw_then_ret ?_
        refine qw_block_ret ?_
        refine qw_then_ret ?_
        refine qw_then_ret ?_
        refine qw_block_ret ?_
        refine qw_then_ret ?_
        refine qw_ret2 rfl rfl rfl (fun w' h => ?_)
        rw [madeV_none hall]
        exact ((h.drop (List.nil_sublist _)).dropG (List.sublist_append_right _ _)).givesK (hl.trans hl26) (hf.trans hf26) ⟨rfl, hvk.le (hl.trans hl26)⟩
      ·
        have hgood : (termV ts hs[l.length]).2 = true := by simpa using c30
        rw [if_pos hgood] at hgs
        refine cw_skip ?_
        refine qw_seq ?_
        refine cw_region ?_
        refine ow_val rfl rfl (ex_move rfl) ?_
        refine ow_val rfl rfl (ex_loadR rfl (by first | exact ld_ownN 0 rfl rfl | exact ld_ownN 1 rfl rfl | exact ld_ownN 2 rfl rfl | exact ld_ownN 3 rfl rfl | exact ld_ownN 4 rfl rfl | exact ld_ownN 5 rfl rfl | exact ld_ownN 6 rfl rfl | exact ld_ownN 7 rfl rfl | exact ld_ownGN 0 rfl rfl | exact ld_ownGN 1 rfl rfl | exact ld_immT (by assumption) (by assumption))) ?_
        refine ow_slit rfl rfl (exw_slit1 rfl rfl) ?_; intro b33
        refine ow_app rfl rfl (exw_append (news := [.int .i64 (termV ts hs[l.length]).1.op, .int .i64 (termV ts hs[l.length]).1.num, d26, k26]) rfl rfl hO rfl (.inr ⟨_, _, rfl, (ld_ownN (k := 4) 0 rfl rfl).2⟩) ht26.one (by unfold maxLen; omega) (by omega)) (fun v34 G34 hO34 hz34 => ?_)
        refine ow_val rfl rfl (ex_assign rfl) ?_
        refine ow_nil ?_
        refine qw_block_normal ?_
        refine qw_seq ?_
        refine cw_region ?_
        refine ow_val rfl rfl (ex_addi (z := ((l.length + 1 : Nat) : Int)) rfl rfl (by omega) (by omega) (by omega)) ?_
        refine ow_val rfl rfl (ex_move rfl) ?_
        refine ow_nil ?_
        refine qw_round5 (l ++ [(termV ts hs[l.length]).1]) v34 _ G34 τ26 (by simp; omega) (subL_cons (lkv rfl (by first | rfl | simp)) (subL_cons (lkv rfl (by first | rfl | simp)) (subL_cons (lkv rfl (by first | rfl | simp)) (subL_cons (lkv rfl (by first | rfl | simp)) (subL_cons (lkv rfl (by first | rfl | simp)) (subL_cons (lkv rfl (by first | rfl | simp)) (subL_nil _))))))) ⟨by simp; omega, hl.trans hl26, hf.trans hf26, ?_, (hrow.le hl26).append (RowC.one ht26), ?_⟩ (fun w h => h.drop (List.nil_sublist _))
        · rw [List.length_append]; exact hO34
        · rw [List.length_append]; exact hgs
    ·
      refine cw_exit ?_
      refine qw_then_exit ?_
      refine qw_then_exit ?_
      refine qw_block_exit ?_
      refine qw_seq ?_
      refine cw_seq ?_
      have hfull : l.length = hs.length := by have := of_decide_eq_false c20; omega
      rw [hfull, List.take_length] at hgl
      refine cw_frzGK hO hrow (by unfold maxKids; omega) (fun σ5 hl5 hf5 hks => ?_)
      have hks' := hks
      obtain ⟨p8, c8, rfl, _, _⟩ := hks'.slice
      refine cw_region ?_
      refine ow_val rfl rfl (ex_move rfl) ?_
      refine ow_val rfl rfl (ex_move rfl) ?_
      refine ow_cr rfl rfl (ex_call (f := F) (cs := caps) rfl rfl (fun w h => callR (hof (hl.trans hl5) h.im hks hfull))) (fun v39 τ39 hl39 hf39 hr39 => ?_)
      obtain ⟨c39, rfl, ht39⟩ := hr39
      have ht39' := ht39
      obtain ⟨d39, k39, rfl, _, _, _, _⟩ := ht39'.opn
      refine ow_val rfl rfl (ex_move rfl) ?_
      refine ow_val rfl rfl (ex_extract rfl rfl) ?_
      refine ow_val rfl rfl (ex_extract rfl rfl) ?_
      refine ow_blk rfl rfl exw_alloc ?_; intro b13
      refine ow_u rfl (exu_storeN 0 rfl rfl rfl rfl ht39.one rfl) ?_
      refine ow_val rfl rfl (ex_assign rfl) ?_
      refine ow_nil ?_
      refine qw_seq ?_
      refine cw_seq ?_
      refine cw_seq ?_
      refine cw_region ?_
      refine ow_val rfl rfl (ex_move rfl) ?_
      refine ow_val rfl rfl (ex_not rfl) ?_
      refine ow_nil ?_
      refine qw_seq ?_
      refine cw_cond rfl (fun c43 => ?_) (fun c43 => ?_)
      ·
        have hng : ¬ (g l).2 = true := by simpa using c43
        refine cw_seq ?_
        refine cw_region ?_
        refine ow_val rfl rfl (ex_assign rfl) ?_
        refine ow_val rfl rfl (ex_assign rfl) ?_
        refine ow_nil ?_
        refine qw_seq ?_
        refine cw_ret ?_
        refine qw_then_ret ?_
        refine qw_ret2 rfl rfl rfl (fun w' h => ?_)
        rw [madeV_some hgl, if_neg hng]
        exact (h.drop (List.nil_sublist _)).givesK ((hl.trans hl5).trans hl39) ((hf.trans hf5).trans hf39) ⟨rfl, hvk.le ((hl.trans hl5).trans hl39)⟩
      ·
        have hyg : (g l).2 = true := by simpa using c43
        have hl9 := (hl.trans hl5).trans hl39
        refine cw_skip ?_
        refine qw_seq ?_
        refine cw_seq ?_
        refine cw_region ?_
        refine ow_val rfl rfl (ex_move rfl) ?_
        refine ow_val rfl rfl (ex_loadR rfl (by first | exact ld_ownN 0 rfl rfl | exact ld_ownN 1 rfl rfl | exact ld_ownN 2 rfl rfl | exact ld_ownN 3 rfl rfl | exact ld_ownN 4 rfl rfl | exact ld_ownN 5 rfl rfl | exact ld_ownN 6 rfl rfl | exact ld_ownN 7 rfl rfl | exact ld_ownGN 0 rfl rfl | exact ld_ownGN 1 rfl rfl | exact ld_immT (by assumption) (by assumption))) ?_
        refine ow_ckE rfl rfl (ex_callf rfl (fun w h => pIntern (g l).1 h.hasE (htab.le hl9) (hvk.le hl9) ht39)) (fun v46 τ46 K46 hl46 hf46 hr46 => ?_)
        obtain ⟨rfl, hv46⟩ := hr46
        refine ow_val rfl rfl (ex_extract rfl rfl) ?_
        refine ow_val rfl rfl (ex_extract rfl rfl) ?_
        refine ow_val rfl rfl (ex_assign rfl) ?_
        refine ow_val rfl rfl (ex_assign rfl) ?_
        refine ow_nil ?_
        refine qw_seq ?_
        refine cw_ret ?_
        refine qw_ret2 rfl rfl rfl (fun w' h => ?_)
        rw [madeV_some hgl, if_pos hyg]
        exact (h.drop (List.nil_sublist _)).givesK (hl9.trans hl46) (((hf.trans hf5).trans hf39).trans hf46) ⟨rfl, hv46⟩
end Go.Proofs.YtnjomdjkbbhdoaaGreatDoor
namespace Go.Proofs.YtnjomdjkbbhdoaaGreatDoor
open Go.RowKit
set_option linter.unusedVariables false
set_option linter.unusedSimpArgs false
set_option maxRecDepth 100000
set_option maxHeartbeats 400000 in
theorem pSign {key : Int} {d : List UInt8} {dv : Value} {b : Nat} {ts : List T} {σ : Hp} {K : List (Nat × Obj)} {w : World} (hi : Has σ K w) (htab : TabC Tryz.prog σ) (hvk : VaultK 80 32 b ts σ K) (hd : BytesV σ dv d) : Calls Tryz.prog 26 #[.pointer (some ⟨b, 0, none⟩), .int .i64 key, dv] w (GiveK (fun σ' u K' => u = .tuple #[.int .i64 (madeV ts (ofT 3 d) [key]).1, .int .i64 (madeV ts (ofT 3 d) [key]).2.1] ∧ VaultK 80 32 b (madeV ts (ofT 3 d) [key]).2.2 σ' K') σ K w) := by
  refine enter (St w (keysOf K) σ [] K) Tryz.func26 rfl Tryz.ntmps26 rfl (Has.start hi) ?_
  refine cw_seq ?_
  refine cw_region ?_
  refine ow_val rfl rfl (ex_assign rfl) ?_
  refine ow_val rfl rfl (ex_assign rfl) ?_
  refine ow_nil ?_
  refine qw_seq ?_
  refine cw_seq ?_
  refine cw_region ?_
  refine ow_val rfl rfl (ex_move rfl) ?_
  refine ow_val rfl rfl (ex_move rfl) ?_
  refine ow_cr rfl rfl (ex_callf rfl (fun w h => callR (pOf (op := 3) h.im hd))) (fun vo τ1 hl1 hf1 hr1 => ?_)
  obtain ⟨b2, b3, vd, rfl, hb2, hb3, hbd⟩ := hr1
  refine ow_val rfl rfl (ex_move rfl) ?_
  refine ow_slit rfl rfl (exw_slit1 rfl rfl) ?_; intro b12
  refine ow_frzHK (fun τ2 hl2 hf2 hb12 => ?_)
  have hzz : IntsV τ2 (.slice (some ⟨b12, 0, none⟩) 1 1) [key] := IntsV.lit hb12 rfl
  refine ow_ckE rfl rfl (ex_callf rfl (fun w h => pMade (F := 89) (caps := [.pointer (some ⟨b2, 0, none⟩), .pointer (some ⟨b3, 0, none⟩)]) (g := ofT 3 d) (hs := [key]) h.hasE (htab.le (hl1.trans hl2)) (hvk.le (hl1.trans hl2)) hzz (by simp) (fun hle hi' hk _ => pOf1 hi' hk (hb2.le (hl2.trans hle)) (hb3.le (hl2.trans hle)) (hbd.le (hl2.trans hle)) (by decide)))) (fun vm τ3 K3 hl3 hf3 hr3 => ?_)
  obtain ⟨rfl, hvr⟩ := hr3
  refine ow_val rfl rfl (ex_extract rfl rfl) ?_
  refine ow_val rfl rfl (ex_extract rfl rfl) ?_
  refine ow_val rfl rfl (ex_assign rfl) ?_
  refine ow_val rfl rfl (ex_assign rfl) ?_
  refine ow_nil ?_
  refine qw_seq ?_
  refine cw_ret ?_
  refine qw_ret2 rfl rfl rfl (fun w' h => (h.drop (List.nil_sublist _)).givesK ((hl1.trans hl2).trans hl3) ((hf1.trans hf2).trans hf3) ⟨rfl, hvr⟩)
set_option maxHeartbeats 400000 in
theorem pSeal {key : Int} {d : List UInt8} {dv : Value} {b : Nat} {ts : List T} {σ : Hp} {K : List (Nat × Obj)} {w : World} (hi : Has σ K w) (htab : TabC Tryz.prog σ) (hvk : VaultK 80 32 b ts σ K) (hd : BytesV σ dv d) : Calls Tryz.prog 16 #[.pointer (some ⟨b, 0, none⟩), .int .i64 key, dv] w (GiveK (fun σ' u K' => u = .tuple #[.int .i64 (madeV ts (ofT 4 d) [key]).1, .int .i64 (madeV ts (ofT 4 d) [key]).2.1] ∧ VaultK 80 32 b (madeV ts (ofT 4 d) [key]).2.2 σ' K') σ K w) := by
  refine enter (St w (keysOf K) σ [] K) Tryz.func16 rfl Tryz.ntmps16 rfl (Has.start hi) ?_
  refine cw_seq ?_
  refine cw_region ?_
  refine ow_val rfl rfl (ex_assign rfl) ?_
  refine ow_val rfl rfl (ex_assign rfl) ?_
  refine ow_nil ?_
  refine qw_seq ?_
  refine cw_seq ?_
  refine cw_region ?_
  refine ow_val rfl rfl (ex_move rfl) ?_
  refine ow_val rfl rfl (ex_move rfl) ?_
  refine ow_cr rfl rfl (ex_callf rfl (fun w h => callR (pOf (op := 4) h.im hd))) (fun vo τ1 hl1 hf1 hr1 => ?_)
  obtain ⟨b2, b3, vd, rfl, hb2, hb3, hbd⟩ := hr1
  refine ow_val rfl rfl (ex_move rfl) ?_
  refine ow_slit rfl rfl (exw_slit1 rfl rfl) ?_; intro b12
  refine ow_frzHK (fun τ2 hl2 hf2 hb12 => ?_)
  have hzz : IntsV τ2 (.slice (some ⟨b12, 0, none⟩) 1 1) [key] := IntsV.lit hb12 rfl
  refine ow_ckE rfl rfl (ex_callf rfl (fun w h => pMade (F := 89) (caps := [.pointer (some ⟨b2, 0, none⟩), .pointer (some ⟨b3, 0, none⟩)]) (g := ofT 4 d) (hs := [key]) h.hasE (htab.le (hl1.trans hl2)) (hvk.le (hl1.trans hl2)) hzz (by simp) (fun hle hi' hk _ => pOf1 hi' hk (hb2.le (hl2.trans hle)) (hb3.le (hl2.trans hle)) (hbd.le (hl2.trans hle)) (by decide)))) (fun vm τ3 K3 hl3 hf3 hr3 => ?_)
  obtain ⟨rfl, hvr⟩ := hr3
  refine ow_val rfl rfl (ex_extract rfl rfl) ?_
  refine ow_val rfl rfl (ex_extract rfl rfl) ?_
  refine ow_val rfl rfl (ex_assign rfl) ?_
  refine ow_val rfl rfl (ex_assign rfl) ?_
  refine ow_nil ?_
  refine qw_seq ?_
  refine cw_ret ?_
  refine qw_ret2 rfl rfl rfl (fun w' h => (h.drop (List.nil_sublist _)).givesK ((hl1.trans hl2).trans hl3) ((hf1.trans hf2).trans hf3) ⟨rfl, hvr⟩)
set_option maxHeartbeats 400000 in
theorem pKdf {key : Int} {d : List UInt8} {dv : Value} {b : Nat} {ts : List T} {σ : Hp} {K : List (Nat × Obj)} {w : World} (hi : Has σ K w) (htab : TabC Tryz.prog σ) (hvk : VaultK 80 32 b ts σ K) (hd : BytesV σ dv d) : Calls Tryz.prog 29 #[.pointer (some ⟨b, 0, none⟩), .int .i64 key, dv] w (GiveK (fun σ' u K' => u = .tuple #[.int .i64 (madeV ts (ofT 6 d) [key]).1, .int .i64 (madeV ts (ofT 6 d) [key]).2.1] ∧ VaultK 80 32 b (madeV ts (ofT 6 d) [key]).2.2 σ' K') σ K w) := by
  refine enter (St w (keysOf K) σ [] K) Tryz.func29 rfl Tryz.ntmps29 rfl (Has.start hi) ?_
  refine cw_seq ?_
  refine cw_region ?_
  refine ow_val rfl rfl (ex_assign rfl) ?_
  refine ow_val rfl rfl (ex_assign rfl) ?_
  refine ow_nil ?_
  refine qw_seq ?_
  refine cw_seq ?_
  refine cw_region ?_
  refine ow_val rfl rfl (ex_move rfl) ?_
  refine ow_val rfl rfl (ex_move rfl) ?_
  refine ow_cr rfl rfl (ex_callf rfl (fun w h => callR (pOf (op := 6) h.im hd))) (fun vo τ1 hl1 hf1 hr1 => ?_)
  obtain ⟨b2, b3, vd, rfl, hb2, hb3, hbd⟩ := hr1
  refine ow_val rfl rfl (ex_move rfl) ?_
  refine ow_slit rfl rfl (exw_slit1 rfl rfl) ?_; intro b12
  refine ow_frzHK (fun τ2 hl2 hf2 hb12 => ?_)
  have hzz : IntsV τ2 (.slice (some ⟨b12, 0, none⟩) 1 1) [key] := IntsV.lit hb12 rfl
  refine ow_ckE rfl rfl (ex_callf rfl (fun w h => pMade (F := 89) (caps := [.pointer (some ⟨b2, 0, none⟩), .pointer (some ⟨b3, 0, none⟩)]) (g := ofT 6 d) (hs := [key]) h.hasE (htab.le (hl1.trans hl2)) (hvk.le (hl1.trans hl2)) hzz (by simp) (fun hle hi' hk _ => pOf1 hi' hk (hb2.le (hl2.trans hle)) (hb3.le (hl2.trans hle)) (hbd.le (hl2.trans hle)) (by decide)))) (fun vm τ3 K3 hl3 hf3 hr3 => ?_)
  obtain ⟨rfl, hvr⟩ := hr3
  refine ow_val rfl rfl (ex_extract rfl rfl) ?_
  refine ow_val rfl rfl (ex_extract rfl rfl) ?_
  refine ow_val rfl rfl (ex_assign rfl) ?_
  refine ow_val rfl rfl (ex_assign rfl) ?_
  refine ow_nil ?_
  refine qw_seq ?_
  refine cw_ret ?_
  refine qw_ret2 rfl rfl rfl (fun w' h => (h.drop (List.nil_sublist _)).givesK ((hl1.trans hl2).trans hl3) ((hf1.trans hf2).trans hf3) ⟨rfl, hvr⟩)
set_option maxHeartbeats 400000 in
theorem pExp {key : Int}  {b : Nat} {ts : List T} {σ : Hp} {K : List (Nat × Obj)} {w : World} (hi : Has σ K w) (htab : TabC Tryz.prog σ) (hvk : VaultK 80 32 b ts σ K) : Calls Tryz.prog 17 #[.pointer (some ⟨b, 0, none⟩), .int .i64 key] w (GiveK (fun σ' u K' => u = .tuple #[.int .i64 (madeV ts (ofT 7 []) [key]).1, .int .i64 (madeV ts (ofT 7 []) [key]).2.1] ∧ VaultK 80 32 b (madeV ts (ofT 7 []) [key]).2.2 σ' K') σ K w) := by
  refine enter (St w (keysOf K) σ [] K) Tryz.func17 rfl Tryz.ntmps17 rfl (Has.start hi) ?_
  refine cw_seq ?_
  refine cw_region ?_
  refine ow_val rfl rfl (ex_assign rfl) ?_
  refine ow_val rfl rfl (ex_assign rfl) ?_
  refine ow_nil ?_
  refine qw_seq ?_
  refine cw_seq ?_
  refine cw_region ?_
  refine ow_val rfl rfl (ex_move rfl) ?_
  refine ow_cr rfl rfl (ex_callf rfl (fun w h => callR (pOf (op := 7) h.im (BytesV.nil _)))) (fun vo τ1 hl1 hf1 hr1 => ?_)
  obtain ⟨b2, b3, vd, rfl, hb2, hb3, hbd⟩ := hr1
  refine ow_val rfl rfl (ex_move rfl) ?_
  refine ow_slit rfl rfl (exw_slit1 rfl rfl) ?_; intro b12
  refine ow_frzHK (fun τ2 hl2 hf2 hb12 => ?_)
  have hzz : IntsV τ2 (.slice (some ⟨b12, 0, none⟩) 1 1) [key] := IntsV.lit hb12 rfl
  refine ow_ckE rfl rfl (ex_callf rfl (fun w h => pMade (F := 89) (caps := [.pointer (some ⟨b2, 0, none⟩), .pointer (some ⟨b3, 0, none⟩)]) (g := ofT 7 []) (hs := [key]) h.hasE (htab.le (hl1.trans hl2)) (hvk.le (hl1.trans hl2)) hzz (by simp) (fun hle hi' hk _ => pOf1 hi' hk (hb2.le (hl2.trans hle)) (hb3.le (hl2.trans hle)) (hbd.le (hl2.trans hle)) (by decide)))) (fun vm τ3 K3 hl3 hf3 hr3 => ?_)
  obtain ⟨rfl, hvr⟩ := hr3
  refine ow_val rfl rfl (ex_extract rfl rfl) ?_
  refine ow_val rfl rfl (ex_extract rfl rfl) ?_
  refine ow_val rfl rfl (ex_assign rfl) ?_
  refine ow_val rfl rfl (ex_assign rfl) ?_
  refine ow_nil ?_
  refine qw_seq ?_
  refine cw_ret ?_
  refine qw_ret2 rfl rfl rfl (fun w' h => (h.drop (List.nil_sublist _)).givesK ((hl1.trans hl2).trans hl3) ((hf1.trans hf2).trans hf3) ⟨rfl, hvr⟩)
set_option maxHeartbeats 400000 in
theorem pPub {key : Int}  {b : Nat} {ts : List T} {σ : Hp} {K : List (Nat × Obj)} {w : World} (hi : Has σ K w) (htab : TabC Tryz.prog σ) (hvk : VaultK 80 32 b ts σ K) : Calls Tryz.prog 24 #[.pointer (some ⟨b, 0, none⟩), .int .i64 key] w (GiveK (fun σ' u K' => u = .tuple #[.int .i64 (madeV ts (ofT 2 []) [key]).1, .int .i64 (madeV ts (ofT 2 []) [key]).2.1] ∧ VaultK 80 32 b (madeV ts (ofT 2 []) [key]).2.2 σ' K') σ K w) := by
  refine enter (St w (keysOf K) σ [] K) Tryz.func24 rfl Tryz.ntmps24 rfl (Has.start hi) ?_
  refine cw_seq ?_
  refine cw_region ?_
  refine ow_val rfl rfl (ex_assign rfl) ?_
  refine ow_val rfl rfl (ex_assign rfl) ?_
  refine ow_nil ?_
  refine qw_seq ?_
  refine cw_seq ?_
  refine cw_region ?_
  refine ow_val rfl rfl (ex_move rfl) ?_
  refine ow_cr rfl rfl (ex_callf rfl (fun w h => callR (pOf (op := 2) h.im (BytesV.nil _)))) (fun vo τ1 hl1 hf1 hr1 => ?_)
  obtain ⟨b2, b3, vd, rfl, hb2, hb3, hbd⟩ := hr1
  refine ow_val rfl rfl (ex_move rfl) ?_
  refine ow_slit rfl rfl (exw_slit1 rfl rfl) ?_; intro b12
  refine ow_frzHK (fun τ2 hl2 hf2 hb12 => ?_)
  have hzz : IntsV τ2 (.slice (some ⟨b12, 0, none⟩) 1 1) [key] := IntsV.lit hb12 rfl
  refine ow_ckE rfl rfl (ex_callf rfl (fun w h => pMade (F := 89) (caps := [.pointer (some ⟨b2, 0, none⟩), .pointer (some ⟨b3, 0, none⟩)]) (g := ofT 2 []) (hs := [key]) h.hasE (htab.le (hl1.trans hl2)) (hvk.le (hl1.trans hl2)) hzz (by simp) (fun hle hi' hk _ => pOf1 hi' hk (hb2.le (hl2.trans hle)) (hb3.le (hl2.trans hle)) (hbd.le (hl2.trans hle)) (by decide)))) (fun vm τ3 K3 hl3 hf3 hr3 => ?_)
  obtain ⟨rfl, hvr⟩ := hr3
  refine ow_val rfl rfl (ex_extract rfl rfl) ?_
  refine ow_val rfl rfl (ex_extract rfl rfl) ?_
  refine ow_val rfl rfl (ex_assign rfl) ?_
  refine ow_val rfl rfl (ex_assign rfl) ?_
  refine ow_nil ?_
  refine qw_seq ?_
  refine cw_ret ?_
  refine qw_ret2 rfl rfl rfl (fun w' h => (h.drop (List.nil_sublist _)).givesK ((hl1.trans hl2).trans hl3) ((hf1.trans hf2).trans hf3) ⟨rfl, hvr⟩)
set_option maxHeartbeats 400000 in
theorem pHash {d : List UInt8} {dv : Value} {b : Nat} {ts : List T} {σ : Hp} {K : List (Nat × Obj)} {w : World} (hi : Has σ K w) (htab : TabC Tryz.prog σ) (hvk : VaultK 80 32 b ts σ K) (hd : BytesV σ dv d) : Calls Tryz.prog 31 #[.pointer (some ⟨b, 0, none⟩), dv] w (GiveK (fun σ' u K' => u = .tuple #[.int .i64 (madeV ts (ofT 5 d) []).1, .int .i64 (madeV ts (ofT 5 d) []).2.1] ∧ VaultK 80 32 b (madeV ts (ofT 5 d) []).2.2 σ' K') σ K w) := by
  refine enter (St w (keysOf K) σ [] K) Tryz.func31 rfl Tryz.ntmps31 rfl (Has.start hi) ?_
  refine cw_seq ?_
  refine cw_region ?_
  refine ow_val rfl rfl (ex_assign rfl) ?_
  refine ow_val rfl rfl (ex_assign rfl) ?_
  refine ow_nil ?_
  refine qw_seq ?_
  refine cw_seq ?_
  refine cw_region ?_
  refine ow_val rfl rfl (ex_move rfl) ?_
  refine ow_val rfl rfl (ex_move rfl) ?_
  refine ow_cr rfl rfl (ex_callf rfl (fun w h => callR (pOf (op := 5) h.im hd))) (fun vo τ1 hl1 hf1 hr1 => ?_)
  obtain ⟨b2, b3, vd, rfl, hb2, hb3, hbd⟩ := hr1
  refine ow_ckE rfl rfl (ex_callf rfl (fun w h => pMade (F := 89) (caps := [.pointer (some ⟨b2, 0, none⟩), .pointer (some ⟨b3, 0, none⟩)]) (g := ofT 5 d) (hs := []) h.hasE (htab.le hl1) (hvk.le hl1) (IntsV.nil _) (by decide) (fun hle hi' hk _ => pOf1 hi' hk (hb2.le hle) (hb3.le hle) (hbd.le hle) (by decide)))) (fun vm τ3 K3 hl3 hf3 hr3 => ?_)
  obtain ⟨rfl, hvr⟩ := hr3
  refine ow_val rfl rfl (ex_extract rfl rfl) ?_
  refine ow_val rfl rfl (ex_extract rfl rfl) ?_
  refine ow_val rfl rfl (ex_assign rfl) ?_
  refine ow_val rfl rfl (ex_assign rfl) ?_
  refine ow_nil ?_
  refine qw_seq ?_
  refine cw_ret ?_
  refine qw_ret2 rfl rfl rfl (fun w' h => (h.drop (List.nil_sublist _)).givesK (hl1.trans hl3) (hf1.trans hf3) ⟨rfl, hvr⟩)
set_option maxHeartbeats 400000 in
theorem pAtom {n : Int} {b : Nat} {ts : List T} {σ : Hp} {K : List (Nat × Obj)} {w : World} (hi : Has σ K w) (htab : TabC Tryz.prog σ) (hvk : VaultK 80 32 b ts σ K) (hn : -9223372036854775808 ≤ n ∧ n ≤ 9223372036854775807) : Calls Tryz.prog 20 #[.pointer (some ⟨b, 0, none⟩), .int .i64 n] w (GiveK (fun σ' u K' => u = .tuple #[.int .i64 (madeV ts (fun _ => (T.mk 1 n [] [], true)) []).1, .int .i64 (madeV ts (fun _ => (T.mk 1 n [] [], true)) []).2.1] ∧ VaultK 80 32 b (madeV ts (fun _ => (T.mk 1 n [] [], true)) []).2.2 σ' K') σ K w) := by
  refine enter (St w (keysOf K) σ [] K) Tryz.func20 rfl Tryz.ntmps20 rfl (Has.start hi) ?_
  refine cw_seq ?_
  refine cw_region ?_
  refine ow_blk rfl rfl (exw_box rfl) ?_; intro b3
  refine ow_val rfl rfl (ex_assign rfl) ?_
  refine ow_val rfl rfl (ex_assign rfl) ?_
  refine ow_nil ?_
  refine qw_seq ?_
  refine cw_seq ?_
  refine cw_region ?_
  refine ow_val rfl rfl (ex_move rfl) ?_
  refine ow_frzHK (fun τ1 hl1 hf1 hb3 => ?_)
  refine ow_val rfl rfl (ex_makeFunc rfl rfl) ?_
  refine ow_ckE rfl rfl (ex_callf rfl (fun w h => pMade (F := 60) (caps := [.pointer (some ⟨b3, 0, none⟩)]) (g := fun _ => (T.mk 1 n [] [], true)) (hs := []) h.hasE (htab.le hl1) (hvk.le hl1) (IntsV.nil _) (by decide) (fun hle hi' hk _ => pAtom1 hi' hk (CellsAt.of1 (hle _ _ hb3) rfl) hn))) (fun vm τ3 K3 hl3 hf3 hr3 => ?_)
  obtain ⟨rfl, hvr⟩ := hr3
  refine ow_val rfl rfl (ex_extract rfl rfl) ?_
  refine ow_val rfl rfl (ex_extract rfl rfl) ?_
  refine ow_val rfl rfl (ex_assign rfl) ?_
  refine ow_val rfl rfl (ex_assign rfl) ?_
  refine ow_nil ?_
  refine qw_seq ?_
  refine cw_ret ?_
  refine qw_ret2 rfl rfl rfl (fun w' h => (h.drop (List.nil_sublist _)).givesK (hl1.trans hl3) (hf1.trans hf3) ⟨rfl, hvr⟩)
set_option maxHeartbeats 400000 in
theorem pPowK {x y : Int} {b : Nat} {ts : List T} {σ : Hp} {K : List (Nat × Obj)} {w : World} (hi : Has σ K w) (htab : TabC Tryz.prog σ) (hvk : VaultK 80 32 b ts σ K) : Calls Tryz.prog 18 #[.pointer (some ⟨b, 0, none⟩), .int .i64 x, .int .i64 y] w (GiveK (fun σ' u K' => u = .tuple #[.int .i64 (madeV ts (powG) [x, y]).1, .int .i64 (madeV ts (powG) [x, y]).2.1] ∧ VaultK 80 32 b (madeV ts (powG) [x, y]).2.2 σ' K') σ K w) := by
  refine enter (St w (keysOf K) σ [] K) Tryz.func18 rfl Tryz.ntmps18 rfl (Has.start hi) ?_
  refine cw_seq ?_
  refine cw_region ?_
  refine ow_val rfl rfl (ex_assign rfl) ?_
  refine ow_val rfl rfl (ex_assign rfl) ?_
  refine ow_nil ?_
  refine qw_seq ?_
  refine cw_seq ?_
  refine cw_region ?_
  refine ow_val rfl rfl (ex_move rfl) ?_
  refine ow_val rfl rfl (ex_move rfl) ?_
  refine ow_val rfl rfl (ex_move rfl) ?_
  refine ow_slit rfl rfl (exw_slit2 rfl rfl rfl rfl) ?_; intro b12
  refine ow_frzHK (fun τ2 hl2 hf2 hb12 => ?_)
  have hzz : IntsV τ2 (.slice (some ⟨b12, 0, none⟩) 2 2) [x, y] := IntsV.lit hb12 rfl
  refine ow_ckE rfl rfl (ex_callf rfl (fun w h => pMade (F := 58) (caps := []) (g := powG) (hs := [x, y]) h.hasE (htab.le hl2) (hvk.le hl2) hzz (by simp) (fun {_ _ _ l} hle hi' hk hln => by
    obtain ⟨u, v, rfl⟩ : ∃ u v, l = [u, v] := by
      match l, hln with
      | [u, v], _ => exact ⟨u, v, rfl⟩
    exact pPow1 hi' hk))) (fun vm τ3 K3 hl3 hf3 hr3 => ?_)
  obtain ⟨rfl, hvr⟩ := hr3
  refine ow_val rfl rfl (ex_extract rfl rfl) ?_
  refine ow_val rfl rfl (ex_extract rfl rfl) ?_
  refine ow_val rfl rfl (ex_assign rfl) ?_
  refine ow_val rfl rfl (ex_assign rfl) ?_
  refine ow_nil ?_
  refine qw_seq ?_
  refine cw_ret ?_
  refine qw_ret2 rfl rfl rfl (fun w' h => (h.drop (List.nil_sublist _)).givesK (hl2.trans hl3) (hf2.trans hf3) ⟨rfl, hvr⟩)
set_option maxHeartbeats 400000 in
theorem pMadeNil {f hv : Value} {σ : Hp} {w : World} (hi : Imm σ w) : Calls Tryz.prog 56 #[.pointer none, f, hv] w fun e w' => e = .returned (.tuple #[.int .i64 (-1), .int .i64 1]) ∧ Below w.heap.size w w' := by
  refine enter (St w (fun _ => False) σ [] []) Tryz.func56 rfl Tryz.ntmps56 rfl (St.start hi) ?_
  refine cw_seq ?_
  refine cw_region ?_
  refine ow_val rfl rfl (ex_assign rfl) ?_
  refine ow_val rfl rfl (ex_assign rfl) ?_
  refine ow_nil ?_
  refine qw_seq ?_
  refine cw_seq ?_
  refine cw_region ?_
  refine ow_val rfl rfl (ex_assign rfl) ?_
  refine ow_nil ?_
  refine qw_seq ?_
  refine cw_seq ?_
  refine cw_seq ?_
  refine cw_region ?_
  refine ow_val rfl rfl (ex_move rfl) ?_
  refine ow_val rfl rfl (ex_ptrnil rfl) ?_
  refine ow_nil ?_
  refine qw_seq ?_
  refine cw_cond rfl (fun c16 => ?_) (fun c16 => ?_)
  ·
    refine cw_seq ?_
    refine cw_region ?_
    refine ow_val rfl rfl (ex_assign rfl) ?_
    refine ow_val rfl rfl (ex_assign rfl) ?_
    refine ow_nil ?_
    refine qw_seq ?_
    refine cw_ret ?_
    refine qw_then_ret ?_
    refine qw_ret2 rfl rfl rfl (fun w' h => ⟨rfl, h.ag.below⟩)
  ·
    simp at c16
set_option maxHeartbeats 400000 in
theorem pAtomNil {n : Int} {σ : Hp} {w : World} (hi : Imm σ w) : Calls Tryz.prog 20 #[.pointer none, .int .i64 n] w fun e w' => e = .returned (.tuple #[.int .i64 (-1), .int .i64 1]) ∧ Below w.heap.size w w' := by
  refine enter (St w (fun _ => False) σ [] []) Tryz.func20 rfl Tryz.ntmps20 rfl (St.start hi) ?_
  refine cw_seq ?_
  refine cw_region ?_
  refine ow_blk rfl rfl (exw_box rfl) ?_; intro b3
  refine ow_val rfl rfl (ex_assign rfl) ?_
  refine ow_val rfl rfl (ex_assign rfl) ?_
  refine ow_nil ?_
  refine qw_seq ?_
  refine cw_seq ?_
  refine cw_region ?_
  refine ow_val rfl rfl (ex_move rfl) ?_
  refine ow_val rfl rfl (ex_makeFunc rfl rfl) ?_
  refine ow_cv rfl rfl (ex_callf rfl (fun w h => callB ((pMadeNil h.im)))) ?_
  refine ow_val rfl rfl (ex_extract rfl rfl) ?_
  refine ow_val rfl rfl (ex_extract rfl rfl) ?_
  refine ow_val rfl rfl (ex_assign rfl) ?_
  refine ow_val rfl rfl (ex_assign rfl) ?_
  refine ow_nil ?_
  refine qw_seq ?_
  refine cw_ret ?_
  refine qw_ret2 rfl rfl rfl (fun w' h => ⟨rfl, h.ag.below⟩)
set_option maxHeartbeats 400000 in
theorem pBytesEq {x y : List UInt8} {vx vy : Value} {σ : Hp} {w : World} (hi : Imm σ w) (hx : BytesV σ vx x) (hy : BytesV σ vy y) : Calls Tryz.prog 65 #[vx, vy] w fun e w' => e = .returned (.bool (x == y)) ∧ Below w.heap.size w w' := by
  refine enter (St w (fun _ => False) σ [] []) Tryz.func65 rfl Tryz.ntmps65 rfl (St.start hi) ?_
  refine cw_seq ?_
  refine cw_region ?_
  refine ow_val rfl rfl (ex_assign rfl) ?_
  refine ow_nil ?_
  refine qw_seq ?_
  refine cw_seq ?_
  refine cw_region ?_
  refine ow_val rfl rfl (ex_move rfl) ?_
  refine ow_val rfl rfl (ex_tostr rfl (by assumption) (fun w h => h.im)) ?_
  refine ow_val rfl rfl (ex_move rfl) ?_
  refine ow_val rfl rfl (ex_tostr rfl (by assumption) (fun w h => h.im)) ?_
  refine ow_val rfl rfl (ex_streql rfl rfl) ?_
  refine ow_val rfl rfl (ex_assign rfl) ?_
  refine ow_nil ?_
  refine qw_seq ?_
  refine cw_ret ?_
  refine qw_ret1 rfl rfl (fun w' h => ⟨rfl, h.ag.below⟩)
set_option maxHeartbeats 400000 in
theorem pBoth {op x y : Int} {b : Nat} {ts : List T} {σ : Hp} {K : List (Nat × Obj)} {w : World} (hi : Has σ K w) (hvk : VaultK 80 32 b ts σ K) : Calls Tryz.prog 64 #[.pointer (some ⟨b, 0, none⟩), .int .i64 op, .int .i64 x, .int .i64 y] w (GiveR (RepBoth (termV ts x).1 (termV ts y).1 (bothV ts op x y)) σ w) := by
  have hlt := hi.le
  have him := hi.exts
  refine enter (St w (fun _ => False) (exts σ K) [] []) Tryz.func64 rfl Tryz.ntmps64 rfl (St.start him) ?_
  refine cw_seq ?_
  refine cw_region ?_
  refine ow_blk rfl rfl exw_alloc ?_; intro b8
  refine ow_blk rfl rfl exw_alloc ?_; intro b9
  refine ow_val rfl rfl (ex_assign rfl) ?_
  refine ow_nil ?_
  refine qw_seq ?_
  refine cw_seq ?_
  refine cw_seq ?_
  refine cw_region ?_
  refine ow_val rfl rfl (ex_move rfl) ?_
  refine ow_val rfl rfl (ex_ptrnil rfl) ?_
  refine ow_nil ?_
  refine qw_seq ?_
  refine cw_cond rfl (fun c16 => ?_) (fun c16 => ?_)
  ·
    simp at c16
  ·
    refine cw_skip ?_
    refine qw_seq ?_
    refine cw_seq ?_
    refine cw_region ?_
    refine ow_val rfl rfl (ex_move rfl) ?_
    refine ow_val rfl rfl (ex_move rfl) ?_
    refine ow_crs rfl rfl hlt (ex_callf rfl (fun w h => callR (pTerm (hi.of_im h.im (Le.refl _)) hvk))) (fun v22 τ1 κ1 hl1 hf1 hr1 hlk1 hle1 => ?_)
    obtain ⟨c22, rfl, ht22⟩ := hr1
    have ht22' := ht22
    obtain ⟨d22, k22, rfl, _, _, _, _⟩ := ht22'.opn
    refine ow_val rfl rfl (ex_move rfl) ?_
    refine ow_val rfl rfl (ex_extract rfl rfl) ?_
    refine ow_val rfl rfl (ex_extract rfl rfl) ?_
    refine ow_blk rfl rfl exw_alloc ?_; intro b11
    refine ow_u rfl (exu_storeN 0 rfl rfl rfl rfl ht22.one rfl) ?_
    refine ow_val rfl rfl (ex_assign rfl) ?_
    refine ow_nil ?_
    refine qw_seq ?_
    refine cw_seq ?_
    refine cw_region ?_
    refine ow_val rfl rfl (ex_move rfl) ?_
    refine ow_val rfl rfl (ex_move rfl) ?_
    refine ow_crs rfl rfl hle1 (ex_callf rfl (fun w h => callR (pTerm (hi.next hf1 h.im hlk1 hle1) (hvk.le hl1)))) (fun v28 τ2 κ2 hl2 hf2 hr2 hlk2 hle2 => ?_)
    obtain ⟨c28, rfl, ht28⟩ := hr2
    have ht28' := ht28
    obtain ⟨d28, k28, rfl, _, _, _, _⟩ := ht28'.opn
    refine ow_val rfl rfl (ex_move rfl) ?_
    refine ow_val rfl rfl (ex_extract rfl rfl) ?_
    refine ow_val rfl rfl (ex_extract rfl rfl) ?_
    refine ow_blk rfl rfl exw_alloc ?_; intro b13
    refine ow_u rfl (exu_storeN 0 rfl rfl rfl rfl ht28.one rfl) ?_
    refine ow_val rfl rfl (ex_assign rfl) ?_
    refine ow_nil ?_
    refine qw_seq ?_
    refine cw_seq ?_
    refine flow_sound3 (S := fun k => St w (fun _ => False) κ2 (match k with | 0 => [(b13, .cells #[.int .i64 (termV ts y).1.op, .int .i64 (termV ts y).1.num, d28, k28] 32), (b11, .cells #[.int .i64 (termV ts x).1.op, .int .i64 (termV ts x).1.num, d22, k22] 32), (b9, .cells #[.int .i64 0, .int .i64 0, .slice none 0 0, .slice none 0 0] 32), (b8, .cells #[.int .i64 0, .int .i64 0, .slice none 0 0, .slice none 0 0] 32)] | 1 => [(b13, .cells #[.int .i64 (termV ts y).1.op, .int .i64 (termV ts y).1.num, d28, k28] 32), (b11, .cells #[.int .i64 (termV ts x).1.op, .int .i64 (termV ts x).1.num, d22, k22] 32), (b9, .cells #[.int .i64 0, .int .i64 0, .slice none 0 0, .slice none 0 0] 32), (b8, .cells #[.int .i64 (termV ts x).1.op, .int .i64 (termV ts x).1.num, d22, k22] 32)] | _ => [(b13, .cells #[.int .i64 (termV ts y).1.op, .int .i64 (termV ts y).1.num, d28, k28] 32), (b11, .cells #[.int .i64 (termV ts x).1.op, .int .i64 (termV ts x).1.num, d22, k22] 32), (b9, .cells #[.int .i64 (termV ts y).1.op, .int .i64 (termV ts y).1.num, d28, k28] 32), (b8, .cells #[.int .i64 (termV ts x).1.op, .int .i64 (termV ts x).1.num, d22, k22] 32)]) []) (fun k w w' h hb => St.keep h hb) 12 14 (by kernel_rfl) ?_
    refine flow_val rfl (ex_loadR (cs := [.int .i64 (termV ts x).1.op, .int .i64 (termV ts x).1.num, d22, k22]) rfl ⟨rfl, fun w ⟨k, h⟩ => by
      rcases k with _ | _ | k
      · exact (ld_ownN (k := 4) 1 rfl rfl).2 w h
      · exact (ld_ownN (k := 4) 1 rfl rfl).2 w h
      · exact (ld_ownN (k := 4) 1 rfl rfl).2 w h⟩) ?_
    refine flow_val rfl (ex_loadR (cs := [.int .i64 (termV ts y).1.op, .int .i64 (termV ts y).1.num, d28, k28]) rfl ⟨rfl, fun w ⟨k, h⟩ => by
      rcases k with _ | _ | k
      · exact (ld_ownN (k := 4) 0 rfl rfl).2 w h
      · exact (ld_ownN (k := 4) 0 rfl rfl).2 w h
      · exact (ld_ownN (k := 4) 0 rfl rfl).2 w h⟩) ?_
    refine flow_val rfl (ex_move rfl) ?_
    refine flow_val rfl (ex_move rfl) ?_
    refine flow_split rfl (fun s34 => ?_) (fun s34 => ?_)
    ·
      refine flow_val (gd_go rfl s34) (ex_move rfl) ?_
      refine flow_val rfl (ex_pickt rfl s34 rfl) ?_
      refine flow_val rfl (ex_move rfl) ?_
      refine flow_split rfl (fun s37 => ?_) (fun s37 => ?_)
      ·
        refine flow_val (gd_go rfl s37) (ex_field rfl) ?_
        refine flow_val (gd_go rfl s37) (ex_load1 (v := .int .i64 (termV ts x).1.op) rfl (fun w ⟨k, h⟩ => by
          rcases k with _ | _ | k
          · exact ld_own1 1 rfl rfl w h
          · exact ld_own1 1 rfl rfl w h
          · exact ld_own1 1 rfl rfl w h)) ?_
        refine flow_val (gd_go rfl s37) (ex_move rfl) ?_
        refine flow_val (gd_go rfl s37) (ex_eql rfl rfl) ?_
        refine flow_val rfl (ex_pickt rfl s37 rfl) ?_
        refine flow_nil3 (m := 12) (n := 14) rfl (fun k hk o ho => ?_) ?_
        ·
          rcases k with _ | k
          ·
            obtain rfl := Option.some.inj ho
            show ObU _ _ _ _ _ (St w (fun _ => False) κ2 [(b13, .cells #[.int .i64 (termV ts y).1.op, .int .i64 (termV ts y).1.num, d28, k28] 32), (b11, .cells #[.int .i64 (termV ts x).1.op, .int .i64 (termV ts x).1.num, d22, k22] 32), (b9, .cells #[.int .i64 0, .int .i64 0, .slice none 0 0, .slice none 0 0] 32), (b8, .cells #[.int .i64 0, .int .i64 0, .slice none 0 0, .slice none 0 0] 32)] []) (St w (fun _ => False) κ2 [(b13, .cells #[.int .i64 (termV ts y).1.op, .int .i64 (termV ts y).1.num, d28, k28] 32), (b11, .cells #[.int .i64 (termV ts x).1.op, .int .i64 (termV ts x).1.num, d22, k22] 32), (b9, .cells #[.int .i64 0, .int .i64 0, .slice none 0 0, .slice none 0 0] 32), (b8, .cells #[.int .i64 (termV ts x).1.op, .int .i64 (termV ts x).1.num, d22, k22] 32)] [])
            exact obu (exu_conv (exu_storeN 3 rfl rfl rfl rfl ht22.one rfl) (fun w h => h))
          rcases k with _ | k
          ·
            obtain rfl := Option.some.inj ho
            show ObU _ _ _ _ _ (St w (fun _ => False) κ2 [(b13, .cells #[.int .i64 (termV ts y).1.op, .int .i64 (termV ts y).1.num, d28, k28] 32), (b11, .cells #[.int .i64 (termV ts x).1.op, .int .i64 (termV ts x).1.num, d22, k22] 32), (b9, .cells #[.int .i64 0, .int .i64 0, .slice none 0 0, .slice none 0 0] 32), (b8, .cells #[.int .i64 (termV ts x).1.op, .int .i64 (termV ts x).1.num, d22, k22] 32)] []) (St w (fun _ => False) κ2 [(b13, .cells #[.int .i64 (termV ts y).1.op, .int .i64 (termV ts y).1.num, d28, k28] 32), (b11, .cells #[.int .i64 (termV ts x).1.op, .int .i64 (termV ts x).1.num, d22, k22] 32), (b9, .cells #[.int .i64 (termV ts y).1.op, .int .i64 (termV ts y).1.num, d28, k28] 32), (b8, .cells #[.int .i64 (termV ts x).1.op, .int .i64 (termV ts x).1.num, d22, k22] 32)] [])
            exact obu (exu_conv (exu_storeN 2 rfl rfl rfl rfl ht28.one rfl) (fun w h => h))
          omega
        ·
          refine fin_is ?_
          refine fin_is ?_
          refine fin_is ?_
          refine fin_is ?_
          refine fin_is ?_
          refine fin_is ?_
          refine fin_is ?_
          refine fin_is ?_
          refine fin_is ?_
          refine fin_is ?_
          refine fin_is ?_
          refine fin_is ?_
          refine fin_nil ?_
          refine ow_mono (S' := St w (fun _ => False) κ2 [(b13, .cells #[.int .i64 (termV ts y).1.op, .int .i64 (termV ts y).1.num, d28, k28] 32), (b11, .cells #[.int .i64 (termV ts x).1.op, .int .i64 (termV ts x).1.num, d22, k22] 32), (b9, .cells #[.int .i64 (termV ts y).1.op, .int .i64 (termV ts y).1.num, d28, k28] 32), (b8, .cells #[.int .i64 (termV ts x).1.op, .int .i64 (termV ts x).1.num, d22, k22] 32)] []) (fun w h => h) ?_
          refine ow_val rfl rfl (ex_assign rfl) ?_
          refine ow_nil ?_
          refine qw_seq ?_
          refine cw_ret ?_
          refine qw_retCC1 rfl rfl (ld_ownN 3 rfl rfl) rfl (ld_ownN 2 rfl rfl) rfl (fun w' h => ?_)
          refine h.givesS hle2 (hl1.trans hl2) (hf1.trans hf2) ⟨_, _, ?_, ht22.le hl2, ht28⟩
          unfold bothV
          first | rfl | simp_all
      ·
        refine flow_skip (gd_no rfl s37) ?_
        refine flow_skip (gd_no rfl s37) ?_
        refine flow_skip (gd_no rfl s37) ?_
        refine flow_skip (gd_no rfl s37) ?_
        refine flow_val rfl (ex_pickf rfl s37 rfl) ?_
        refine flow_nil3 (m := 12) (n := 14) rfl (fun k hk o ho => ?_) ?_
        ·
          rcases k with _ | k
          ·
            obtain rfl := Option.some.inj ho
            show ObU _ _ _ _ _ (St w (fun _ => False) κ2 [(b13, .cells #[.int .i64 (termV ts y).1.op, .int .i64 (termV ts y).1.num, d28, k28] 32), (b11, .cells #[.int .i64 (termV ts x).1.op, .int .i64 (termV ts x).1.num, d22, k22] 32), (b9, .cells #[.int .i64 0, .int .i64 0, .slice none 0 0, .slice none 0 0] 32), (b8, .cells #[.int .i64 0, .int .i64 0, .slice none 0 0, .slice none 0 0] 32)] []) (St w (fun _ => False) κ2 [(b13, .cells #[.int .i64 (termV ts y).1.op, .int .i64 (termV ts y).1.num, d28, k28] 32), (b11, .cells #[.int .i64 (termV ts x).1.op, .int .i64 (termV ts x).1.num, d22, k22] 32), (b9, .cells #[.int .i64 0, .int .i64 0, .slice none 0 0, .slice none 0 0] 32), (b8, .cells #[.int .i64 (termV ts x).1.op, .int .i64 (termV ts x).1.num, d22, k22] 32)] [])
            exact obu (exu_conv (exu_storeN 3 rfl rfl rfl rfl ht22.one rfl) (fun w h => h))
          rcases k with _ | k
          ·
            obtain rfl := Option.some.inj ho
            show ObU _ _ _ _ _ (St w (fun _ => False) κ2 [(b13, .cells #[.int .i64 (termV ts y).1.op, .int .i64 (termV ts y).1.num, d28, k28] 32), (b11, .cells #[.int .i64 (termV ts x).1.op, .int .i64 (termV ts x).1.num, d22, k22] 32), (b9, .cells #[.int .i64 0, .int .i64 0, .slice none 0 0, .slice none 0 0] 32), (b8, .cells #[.int .i64 (termV ts x).1.op, .int .i64 (termV ts x).1.num, d22, k22] 32)] []) (St w (fun _ => False) κ2 [(b13, .cells #[.int .i64 (termV ts y).1.op, .int .i64 (termV ts y).1.num, d28, k28] 32), (b11, .cells #[.int .i64 (termV ts x).1.op, .int .i64 (termV ts x).1.num, d22, k22] 32), (b9, .cells #[.int .i64 (termV ts y).1.op, .int .i64 (termV ts y).1.num, d28, k28] 32), (b8, .cells #[.int .i64 (termV ts x).1.op, .int .i64 (termV ts x).1.num, d22, k22] 32)] [])
            exact obu (exu_conv (exu_storeN 2 rfl rfl rfl rfl ht28.one rfl) (fun w h => h))
          omega
        ·
          refine fin_is ?_
          refine fin_is ?_
          refine fin_is ?_
          refine fin_is ?_
          refine fin_is ?_
          refine fin_is ?_
          refine fin_is ?_
          refine fin_is ?_
          refine fin_is ?_
          refine fin_is ?_
          refine fin_is ?_
          refine fin_is ?_
          refine fin_nil ?_
          refine ow_mono (S' := St w (fun _ => False) κ2 [(b13, .cells #[.int .i64 (termV ts y).1.op, .int .i64 (termV ts y).1.num, d28, k28] 32), (b11, .cells #[.int .i64 (termV ts x).1.op, .int .i64 (termV ts x).1.num, d22, k22] 32), (b9, .cells #[.int .i64 (termV ts y).1.op, .int .i64 (termV ts y).1.num, d28, k28] 32), (b8, .cells #[.int .i64 (termV ts x).1.op, .int .i64 (termV ts x).1.num, d22, k22] 32)] []) (fun w h => h) ?_
          refine ow_val rfl rfl (ex_assign rfl) ?_
          refine ow_nil ?_
          refine qw_seq ?_
          refine cw_ret ?_
          refine qw_retCC1 rfl rfl (ld_ownN 3 rfl rfl) rfl (ld_ownN 2 rfl rfl) rfl (fun w' h => ?_)
          refine h.givesS hle2 (hl1.trans hl2) (hf1.trans hf2) ⟨_, _, ?_, ht22.le hl2, ht28⟩
          unfold bothV
          first | rfl | simp_all
    ·
      refine flow_skip (gd_no rfl s34) ?_
      refine flow_val rfl (ex_pickf rfl s34 rfl) ?_
      refine flow_val rfl (ex_move rfl) ?_
      refine flow_skip rfl ?_
      refine flow_skip rfl ?_
      refine flow_skip rfl ?_
      refine flow_skip rfl ?_
      refine flow_val rfl (ex_pick_f rfl rfl) ?_
      refine flow_nil3 (m := 12) (n := 14) rfl (fun k hk o ho => ?_) ?_
      ·
        rcases k with _ | k
        ·
          obtain rfl := Option.some.inj ho
          show ObU _ _ _ _ _ (St w (fun _ => False) κ2 [(b13, .cells #[.int .i64 (termV ts y).1.op, .int .i64 (termV ts y).1.num, d28, k28] 32), (b11, .cells #[.int .i64 (termV ts x).1.op, .int .i64 (termV ts x).1.num, d22, k22] 32), (b9, .cells #[.int .i64 0, .int .i64 0, .slice none 0 0, .slice none 0 0] 32), (b8, .cells #[.int .i64 0, .int .i64 0, .slice none 0 0, .slice none 0 0] 32)] []) (St w (fun _ => False) κ2 [(b13, .cells #[.int .i64 (termV ts y).1.op, .int .i64 (termV ts y).1.num, d28, k28] 32), (b11, .cells #[.int .i64 (termV ts x).1.op, .int .i64 (termV ts x).1.num, d22, k22] 32), (b9, .cells #[.int .i64 0, .int .i64 0, .slice none 0 0, .slice none 0 0] 32), (b8, .cells #[.int .i64 (termV ts x).1.op, .int .i64 (termV ts x).1.num, d22, k22] 32)] [])
          exact obu (exu_conv (exu_storeN 3 rfl rfl rfl rfl ht22.one rfl) (fun w h => h))
        rcases k with _ | k
        ·
          obtain rfl := Option.some.inj ho
          show ObU _ _ _ _ _ (St w (fun _ => False) κ2 [(b13, .cells #[.int .i64 (termV ts y).1.op, .int .i64 (termV ts y).1.num, d28, k28] 32), (b11, .cells #[.int .i64 (termV ts x).1.op, .int .i64 (termV ts x).1.num, d22, k22] 32), (b9, .cells #[.int .i64 0, .int .i64 0, .slice none 0 0, .slice none 0 0] 32), (b8, .cells #[.int .i64 (termV ts x).1.op, .int .i64 (termV ts x).1.num, d22, k22] 32)] []) (St w (fun _ => False) κ2 [(b13, .cells #[.int .i64 (termV ts y).1.op, .int .i64 (termV ts y).1.num, d28, k28] 32), (b11, .cells #[.int .i64 (termV ts x).1.op, .int .i64 (termV ts x).1.num, d22, k22] 32), (b9, .cells #[.int .i64 (termV ts y).1.op, .int .i64 (termV ts y).1.num, d28, k28] 32), (b8, .cells #[.int .i64 (termV ts x).1.op, .int .i64 (termV ts x).1.num, d22, k22] 32)] [])
          exact obu (exu_conv (exu_storeN 2 rfl rfl rfl rfl ht28.one rfl) (fun w h => h))
        omega
      ·
        refine fin_is ?_
        refine fin_is ?_
        refine fin_is ?_
        refine fin_is ?_
        refine fin_is ?_
        refine fin_is ?_
        refine fin_is ?_
        refine fin_is ?_
        refine fin_is ?_
        refine fin_is ?_
        refine fin_is ?_
        refine fin_is ?_
        refine fin_nil ?_
        refine ow_mono (S' := St w (fun _ => False) κ2 [(b13, .cells #[.int .i64 (termV ts y).1.op, .int .i64 (termV ts y).1.num, d28, k28] 32), (b11, .cells #[.int .i64 (termV ts x).1.op, .int .i64 (termV ts x).1.num, d22, k22] 32), (b9, .cells #[.int .i64 (termV ts y).1.op, .int .i64 (termV ts y).1.num, d28, k28] 32), (b8, .cells #[.int .i64 (termV ts x).1.op, .int .i64 (termV ts x).1.num, d22, k22] 32)] []) (fun w h => h) ?_
        refine ow_val rfl rfl (ex_assign rfl) ?_
        refine ow_nil ?_
        refine qw_seq ?_
        refine cw_ret ?_
        refine qw_retCC1 rfl rfl (ld_ownN 3 rfl rfl) rfl (ld_ownN 2 rfl rfl) rfl (fun w' h => ?_)
        refine h.givesS hle2 (hl1.trans hl2) (hf1.trans hf2) ⟨_, _, ?_, ht22.le hl2, ht28⟩
        unfold bothV
        first | rfl | simp_all
set_option maxHeartbeats 400000 in
theorem pOpen {key x : Int} {b : Nat} {ts : List T} {σ : Hp} {K : List (Nat × Obj)} {w : World} (hi : Has σ K w) (hvk : VaultK 80 32 b ts σ K) : Calls Tryz.prog 35 #[.pointer (some ⟨b, 0, none⟩), .int .i64 key, .int .i64 x] w (GiveR (RepBB (openV ts key x).1 (openV ts key x).2) σ w) := by
  have hlt := hi.le
  have him := hi.exts
  have hti := hvk.nd.1
  refine enter (St w (fun _ => False) (exts σ K) [] []) Tryz.func35 rfl Tryz.ntmps35 rfl (St.start him) ?_
  refine cw_seq ?_
  refine cw_region ?_
  refine ow_val rfl rfl (ex_assign rfl) ?_
  refine ow_val rfl rfl (ex_assign rfl) ?_
  refine ow_nil ?_
  refine qw_seq ?_
  refine cw_seq ?_
  refine cw_region ?_
  refine ow_val rfl rfl (ex_move rfl) ?_
  refine ow_val rfl rfl (ex_move rfl) ?_
  refine ow_val rfl rfl (ex_move rfl) ?_
  refine ow_crs rfl rfl hlt (ex_callf rfl (fun w h => callR (pBoth (hi.of_im h.im (Le.refl _)) hvk))) (fun v15 τ1 κ1 hl1 hf1 hr1 hlk1 hle1 => ?_)
  obtain ⟨cx, cy, rfl, htx, hty⟩ := hr1
  have htx' := htx
  obtain ⟨dx, kx, rfl, _, _, hdx, hkx⟩ := htx'.opn
  have hty' := hty
  obtain ⟨dy, ky, rfl, _, _, hdy, hky⟩ := hty'.opn
  obtain ⟨px, ccx, rfl, hcx, hmx⟩ := hkx.slice
  refine ow_val rfl rfl (ex_move rfl) ?_
  refine ow_val rfl rfl (ex_extract rfl rfl) ?_
  refine ow_val rfl rfl (ex_extract rfl rfl) ?_
  refine ow_val rfl rfl (ex_extract rfl rfl) ?_
  refine ow_blk rfl rfl exw_alloc ?_; intro b8
  refine ow_blk rfl rfl exw_alloc ?_; intro b9
  refine ow_u rfl (exu_storeN 1 rfl rfl rfl rfl htx.one rfl) ?_
  refine ow_u rfl (exu_storeN 0 rfl rfl rfl rfl hty.one rfl) ?_
  refine ow_val rfl rfl (ex_assign rfl) ?_
  refine ow_nil ?_
  refine qw_seq ?_
  refine cw_seq ?_
  refine cw_seq ?_
  refine flow_sound 11 (by kernel_rfl) ?_
  refine flow_val rfl (ex_move rfl) ?_
  refine flow_val rfl (ex_not rfl) ?_
  refine flow_val rfl (ex_move rfl) ?_
  refine flow_split rfl (fun s21 => ?_) (fun s21 => ?_)
  ·
    refine flow_skip (gd_no rfl s21) ?_
    refine flow_skip (gd_no rfl s21) ?_
    refine flow_skip (gd_no rfl s21) ?_
    refine flow_skip (gd_no rfl s21) ?_
    refine flow_skip (gd_no rfl s21) ?_
    refine flow_skip (gd_no rfl s21) ?_
    refine flow_skip (gd_no rfl s21) ?_
    refine flow_val rfl (ex_pickt rfl s21 rfl) ?_
    refine flow_nil ?_
    refine fin_is ?_
    refine fin_is ?_
    refine fin_is ?_
    refine fin_is ?_
    refine fin_is ?_
    refine fin_is ?_
    refine fin_is ?_
    refine fin_is ?_
    refine fin_is ?_
    refine fin_is ?_
    refine fin_is ?_
    refine fin_nil ?_
    refine ow_nil ?_
    refine qw_seq ?_
    refine cw_cond_t rfl ?_
    refine cw_seq ?_
    refine cw_region ?_
    refine ow_val rfl rfl (ex_assign rfl) ?_
    refine ow_val rfl rfl (ex_assign rfl) ?_
    refine ow_nil ?_
    refine qw_seq ?_
    refine cw_ret ?_
    refine qw_then_ret ?_
    refine qw_ret2 rfl rfl rfl (fun w' h => ?_)
    have e : openV ts key x = ([], false) := by
      unfold openV
      rw [if_neg]
      rintro ⟨h1, h2⟩
      simp_all
    rw [e]
    exact h.givesS hle1 hl1 hf1 ⟨_, rfl, BytesV.nil _⟩
  ·
    have hbt : bothV ts 4 x key = true := by simpa using s21
    have hbt0 := hbt
    simp only [bothV, Bool.and_eq_true, decide_eq_true_eq] at hbt
    have hone := keyed_one (hti.rt _ (termV_mem hbt.1.1)) (by omega)
    obtain ⟨bk, f, ck, c0, e1, _, hc0, ht0⟩ := hkx.get 0 (by omega)
    cases e1
    have hk0 : (termV ts x).1.kids[0] = (termV ts x).1.kids.getD 0 zeroT := by simp [List.getD_eq_getElem?_getD, show 0 < (termV ts x).1.kids.length by omega]
    rw [hk0] at ht0
    refine flow_val (gd_go rfl s21) (ex_field rfl) ?_
    refine flow_val (gd_go rfl s21) (ex_load1 rfl (by first | exact ld_own1 0 rfl rfl | exact ld_own1 1 rfl rfl | exact ld_own1 2 rfl rfl | exact ld_own1 3 rfl rfl | exact ld_own1 4 rfl rfl | exact ld_own1 5 rfl rfl | exact ld_own1 6 rfl rfl | exact ld_own1 7 rfl rfl | exact ld_ownG1 0 rfl rfl | exact ld_ownG1 1 rfl rfl | exact ld_imm1 (by assumption))) ?_
    refine flow_val (gd_go rfl s21) (ex_index_nat (i := 0) rfl rfl (by omega)) ?_
    refine flow_val (gd_go rfl s21) (ex_loadR rfl (ld_immT (hc0.le hle1) (ht0.le hle1))) ?_
    refine flow_val (gd_go rfl s21) (ex_loadR rfl (by first | exact ld_ownN 0 rfl rfl | exact ld_ownN 1 rfl rfl | exact ld_ownN 2 rfl rfl | exact ld_ownN 3 rfl rfl | exact ld_ownN 4 rfl rfl | exact ld_ownN 5 rfl rfl | exact ld_ownN 6 rfl rfl | exact ld_ownN 7 rfl rfl | exact ld_ownGN 0 rfl rfl | exact ld_ownGN 1 rfl rfl | exact ld_immT (by assumption) (by assumption))) ?_
    refine flow_cv (gd_go rfl s21) (ex_callf rfl (fun w h => callB ((pOrder _ _ h.im (ht0.le hle1) (hty.le hle1))))) ?_
    refine flow_val (gd_go rfl s21) (ex_neq rfl rfl) ?_
    refine flow_val rfl (ex_pickf rfl s21 rfl) ?_
    refine flow_nil ?_
    refine fin_is ?_
    refine fin_is ?_
    refine fin_is ?_
    refine fin_is ?_
    refine fin_is ?_
    refine fin_is ?_
    refine fin_is ?_
    refine fin_is ?_
    refine fin_is ?_
    refine fin_is ?_
    refine fin_is ?_
    refine fin_nil ?_
    refine ow_nil ?_
    refine qw_seq ?_
    refine cw_cond rfl (fun c29 => ?_) (fun c29 => ?_)
    ·
      refine cw_seq ?_
      refine cw_region ?_
      refine ow_val rfl rfl (ex_assign rfl) ?_
      refine ow_val rfl rfl (ex_assign rfl) ?_
      refine ow_nil ?_
      refine qw_seq ?_
      refine cw_ret ?_
      refine qw_then_ret ?_
      refine qw_ret2 rfl rfl rfl (fun w' h => ?_)
      have e : openV ts key x = ([], false) := by
        unfold openV
        rw [if_neg]
        rintro ⟨_, h2⟩
        exact (of_decide_eq_true c29) h2
      rw [e]
      exact h.givesS hle1 hl1 hf1 ⟨_, rfl, BytesV.nil _⟩
    ·
      refine cw_skip ?_
      refine qw_seq ?_
      refine cw_seq ?_
      refine cw_region ?_
      refine ow_val rfl rfl (ex_field rfl) ?_
      refine ow_val rfl rfl (ex_load1 rfl (by first | exact ld_own1 0 rfl rfl | exact ld_own1 1 rfl rfl | exact ld_own1 2 rfl rfl | exact ld_own1 3 rfl rfl | exact ld_own1 4 rfl rfl | exact ld_own1 5 rfl rfl | exact ld_own1 6 rfl rfl | exact ld_own1 7 rfl rfl | exact ld_ownG1 0 rfl rfl | exact ld_ownG1 1 rfl rfl | exact ld_imm1 (by assumption))) ?_
      refine ow_crs rfl rfl hle1 (ex_callf rfl (fun w h => callR (pBytesClone (fun bq oq eq => h.im bq oq (hle1 bq oq eq)) hdx))) (fun v32 τ2 κ2 hl2 hf2 hr2 hlk2 hle2 => ?_)
      refine ow_val rfl rfl (ex_assign rfl) ?_
      refine ow_val rfl rfl (ex_assign rfl) ?_
      refine ow_nil ?_
      refine qw_seq ?_
      refine cw_ret ?_
      refine qw_ret2 rfl rfl rfl (fun w' h => ?_)
      have e : openV ts key x = ((termV ts x).1.data, true) := by
        unfold openV
        rw [if_pos]
        exact ⟨hbt0, Decidable.not_not.1 (of_decide_eq_false c29)⟩
      rw [e]
      exact h.givesS hle2 (hl1.trans hl2) (hf1.trans hf2) ⟨_, rfl, hr2⟩
end Go.Proofs.YtnjomdjkbbhdoaaGreatDoor
namespace Go.Proofs.YtnjomdjkbbhdoaaGreatDoor
open Go.RowKit
set_option linter.unusedVariables false
set_option linter.unusedSimpArgs false
set_option maxRecDepth 100000
set_option maxHeartbeats 400000 in
theorem rRightD : ∀ (t : T) {deep : Nat} {σ : Hp} {cs : List Value} {w : World}, Imm σ w → TermC σ cs t → deep ≤ 16 → Calls Tryz.prog 102 #[.agg cs.toArray, .int .i64 (deep : Int)] w fun e w' => e = .returned (.bool (rightD t deep)) ∧ Below w.heap.size w w' := by
  intro t
  induction t using T.ind with
  | _ o n d ks ih =>
  intro deep σ cs w hi ht hde
  obtain ⟨dv, kv, rfl, ho, hn, hd, hk⟩ := ht.opn
  simp only [T.kids, T.op, T.num, T.data] at *
  obtain ⟨p, c, rfl, hc, hm⟩ := hk.slice
  obtain ⟨pd, cd, rfl, hcd, hmd⟩ := hd.slice
  have hm2 := hm
  unfold maxKids at hm2
  refine enter (St w (fun _ => False) σ [] []) Tryz.func102 rfl Tryz.ntmps102 rfl (St.start hi) ?_
  refine cw_seq ?_
  refine cw_region ?_
  refine ow_blk rfl rfl (exw_box rfl) ?_; intro b2
  refine ow_val rfl rfl (ex_assign rfl) ?_
  refine ow_nil ?_
  refine qw_seq ?_
  refine cw_seq ?_
  refine cw_region ?_
  refine ow_val rfl rfl (ex_loadR rfl (by first | exact ld_ownN 0 rfl rfl | exact ld_ownN 1 rfl rfl | exact ld_ownN 2 rfl rfl | exact ld_ownN 3 rfl rfl | exact ld_ownN 4 rfl rfl | exact ld_ownN 5 rfl rfl | exact ld_ownN 6 rfl rfl | exact ld_ownN 7 rfl rfl | exact ld_ownGN 0 rfl rfl | exact ld_ownGN 1 rfl rfl | exact ld_immT (by assumption) (by assumption))) ?_
  refine ow_cv rfl rfl (ex_callf rfl (fun w h => callB ((rKids h.im hk)))) ?_
  refine ow_val rfl rfl (ex_assign rfl) ?_
  refine ow_nil ?_
  refine qw_seq ?_
  refine cw_seq ?_
  refine cw_cut1 21 (.bool (decide (16 ≤ (deep : Int)) || (!kidsOK o ks || decide (8192 < (d.length : Int))))) ?_ ?_
  ·
    refine cw_region ?_
    refine ow_val rfl rfl (ex_move rfl) ?_
    refine ow_val rfl rfl (ex_geq rfl rfl) ?_
    refine ow_val rfl rfl (ex_move rfl) ?_
    refine ow_split (g := some (2, false)) rfl (fun s12 => ?_) (fun s12 => ?_)
    ·
      refine ow_skip rfl (gd_no rfl s12) ?_
      refine ow_skip rfl (gd_no rfl s12) ?_
      refine ow_val rfl rfl (ex_pickt rfl s12 rfl) ?_
      refine ow_val rfl rfl (ex_move rfl) ?_
      refine ow_skip rfl rfl ?_
      refine ow_skip rfl rfl ?_
      refine ow_skip rfl rfl ?_
      refine ow_skip rfl rfl ?_
      refine ow_val rfl rfl (ex_pick_t rfl rfl) ?_
      refine ow_nil ?_
      exact qw_meet (subL_meet 12 21 (lkv rfl (by first | rfl | (simp_all; done) | (simp_all <;> omega))) rfl rfl) (fun w h => h)
    ·
      refine ow_val rfl (gd_go rfl s12) (ex_move rfl) ?_
      refine ow_val rfl (gd_go rfl s12) (ex_not rfl) ?_
      refine ow_val rfl rfl (ex_pickf rfl s12 rfl) ?_
      refine ow_val rfl rfl (ex_move rfl) ?_
      refine ow_split (g := some (6, false)) rfl (fun s16 => ?_) (fun s16 => ?_)
      ·
        refine ow_skip rfl (gd_no rfl s16) ?_
        refine ow_skip rfl (gd_no rfl s16) ?_
        refine ow_skip rfl (gd_no rfl s16) ?_
        refine ow_skip rfl (gd_no rfl s16) ?_
        refine ow_val rfl rfl (ex_pickt rfl s16 rfl) ?_
        refine ow_nil ?_
        exact qw_meet (subL_meet 12 21 (lkv rfl (by first | rfl | (simp_all; done) | (simp_all <;> omega))) rfl rfl) (fun w h => h)
      ·
        refine ow_val rfl (gd_go rfl s16) (ex_field rfl) ?_
        refine ow_val rfl (gd_go rfl s16) (ex_load1 rfl (by first | exact ld_own1 0 rfl rfl | exact ld_own1 1 rfl rfl | exact ld_own1 2 rfl rfl | exact ld_own1 3 rfl rfl | exact ld_own1 4 rfl rfl | exact ld_own1 5 rfl rfl | exact ld_own1 6 rfl rfl | exact ld_own1 7 rfl rfl | exact ld_ownG1 0 rfl rfl | exact ld_ownG1 1 rfl rfl | exact ld_imm1 (by assumption))) ?_
        refine ow_val rfl (gd_go rfl s16) (ex_len (ty := 0) rfl) ?_
        refine ow_val rfl (gd_go rfl s16) (ex_gtr rfl rfl) ?_
        refine ow_val rfl rfl (ex_pickf rfl s16 rfl) ?_
        refine ow_nil ?_
        exact qw_meet (subL_meet 12 21 (lkv rfl (by first | rfl | (simp_all; done) | (simp_all <;> omega))) rfl rfl) (fun w h => h)
  ·
    refine cw_cond rfl (fun c21 => ?_) (fun c21 => ?_)
    ·
      refine cw_seq ?_
      refine cw_region ?_
      refine ow_val rfl rfl (ex_assign rfl) ?_
      refine ow_nil ?_
      refine qw_seq ?_
      refine cw_ret ?_
      refine qw_then_ret ?_
      refine qw_ret1 rfl rfl (fun w' h => ⟨congrArg (fun z => Ending.returned (.bool z)) ?_, h.ag.below⟩)
      symm
      rw [rightD_mk]
      simp at c21
      rcases c21 with c21 | c21 | c21
      · simp [show ¬ deep < 16 by omega]
      · simp [shape_go, c21]
      · simp [shape_go, c21]
    ·
      refine cw_skip ?_
      refine qw_seq ?_
      refine cw_seq ?_
      refine cw_cut1 44 (.bool (decide (o = 1) && (decide (n < 0) || decide (1099511627776 < n)) || decide (o ≠ 1) && decide (n ≠ 0))) ?_ ?_
      ·
        refine cw_region ?_
        refine ow_val rfl rfl (ex_field rfl) ?_
        refine ow_val rfl rfl (ex_load1 rfl (by first | exact ld_own1 0 rfl rfl | exact ld_own1 1 rfl rfl | exact ld_own1 2 rfl rfl | exact ld_own1 3 rfl rfl | exact ld_own1 4 rfl rfl | exact ld_own1 5 rfl rfl | exact ld_own1 6 rfl rfl | exact ld_own1 7 rfl rfl | exact ld_ownG1 0 rfl rfl | exact ld_ownG1 1 rfl rfl | exact ld_imm1 (by assumption))) ?_
        refine ow_val rfl rfl (ex_eql rfl rfl) ?_
        refine ow_val rfl rfl (ex_move rfl) ?_
        refine ow_split (g := some (3, true)) rfl (fun s25 => ?_) (fun s25 => ?_)
        ·
          refine ow_val rfl (gd_go rfl s25) (ex_field rfl) ?_
          refine ow_val rfl (gd_go rfl s25) (ex_load1 rfl (by first | exact ld_own1 0 rfl rfl | exact ld_own1 1 rfl rfl | exact ld_own1 2 rfl rfl | exact ld_own1 3 rfl rfl | exact ld_own1 4 rfl rfl | exact ld_own1 5 rfl rfl | exact ld_own1 6 rfl rfl | exact ld_own1 7 rfl rfl | exact ld_ownG1 0 rfl rfl | exact ld_ownG1 1 rfl rfl | exact ld_imm1 (by assumption))) ?_
          refine ow_val rfl (gd_go rfl s25) (ex_lss rfl rfl) ?_
          refine ow_val rfl (gd_go rfl s25) (ex_move rfl) ?_
          refine ow_split (g := some (7, false)) rfl (fun s29 => ?_) (fun s29 => ?_)
          ·
            refine ow_skip rfl (gd_no rfl s29) ?_
            refine ow_skip rfl (gd_no rfl s29) ?_
            refine ow_skip rfl (gd_no rfl s29) ?_
            refine ow_val rfl (gd_go rfl s25) (ex_pickt rfl s29 rfl) ?_
            refine ow_val rfl rfl (ex_pickt rfl s25 rfl) ?_
            refine ow_val rfl rfl (ex_move rfl) ?_
            refine ow_skip rfl rfl ?_
            refine ow_skip rfl rfl ?_
            refine ow_skip rfl rfl ?_
            refine ow_skip rfl rfl ?_
            refine ow_skip rfl rfl ?_
            refine ow_skip rfl rfl ?_
            refine ow_skip rfl rfl ?_
            refine ow_skip rfl rfl ?_
            refine ow_val rfl rfl (ex_pick_t rfl rfl) ?_
            refine ow_nil ?_
            exact qw_meet (subL_meet 23 44 (lkv rfl (by first | rfl | (simp_all; done) | (simp_all <;> omega))) rfl rfl) (fun w h => h)
          ·
            refine ow_val rfl (gd_go rfl s29) (ex_field rfl) ?_
            refine ow_val rfl (gd_go rfl s29) (ex_load1 rfl (by first | exact ld_own1 0 rfl rfl | exact ld_own1 1 rfl rfl | exact ld_own1 2 rfl rfl | exact ld_own1 3 rfl rfl | exact ld_own1 4 rfl rfl | exact ld_own1 5 rfl rfl | exact ld_own1 6 rfl rfl | exact ld_own1 7 rfl rfl | exact ld_ownG1 0 rfl rfl | exact ld_ownG1 1 rfl rfl | exact ld_imm1 (by assumption))) ?_
            refine ow_val rfl (gd_go rfl s29) (ex_gtr rfl rfl) ?_
            refine ow_val rfl (gd_go rfl s25) (ex_pickf rfl s29 rfl) ?_
            refine ow_val rfl rfl (ex_pickt rfl s25 rfl) ?_
            refine ow_val rfl rfl (ex_move rfl) ?_
            refine ow_split (g := some (13, false)) rfl (fun s35 => ?_) (fun s35 => ?_)
            ·
              refine ow_skip rfl (gd_no rfl s35) ?_
              refine ow_skip rfl (gd_no rfl s35) ?_
              refine ow_skip rfl (gd_no rfl s35) ?_
              refine ow_skip rfl (gd_no rfl s35) ?_
              refine ow_skip rfl rfl ?_
              refine ow_skip rfl rfl ?_
              refine ow_skip rfl rfl ?_
              refine ow_skip rfl (gd_no rfl s35) ?_
              refine ow_val rfl rfl (ex_pickt rfl s35 rfl) ?_
              refine ow_nil ?_
              exact qw_meet (subL_meet 23 44 (lkv rfl (by first | rfl | (simp_all; done) | (simp_all <;> omega))) rfl rfl) (fun w h => h)
            ·
              refine ow_val rfl (gd_go rfl s35) (ex_field rfl) ?_
              refine ow_val rfl (gd_go rfl s35) (ex_load1 rfl (by first | exact ld_own1 0 rfl rfl | exact ld_own1 1 rfl rfl | exact ld_own1 2 rfl rfl | exact ld_own1 3 rfl rfl | exact ld_own1 4 rfl rfl | exact ld_own1 5 rfl rfl | exact ld_own1 6 rfl rfl | exact ld_own1 7 rfl rfl | exact ld_ownG1 0 rfl rfl | exact ld_ownG1 1 rfl rfl | exact ld_imm1 (by assumption))) ?_
              refine ow_val rfl (gd_go rfl s35) (ex_neq rfl rfl) ?_
              refine ow_val rfl (gd_go rfl s35) (ex_move rfl) ?_
              refine ow_split (g := some (17, true)) rfl (fun s39 => ?_) (fun s39 => ?_)
              ·
                refine ow_val rfl (gd_go rfl s39) (ex_field rfl) ?_
                refine ow_val rfl (gd_go rfl s39) (ex_load1 rfl (by first | exact ld_own1 0 rfl rfl | exact ld_own1 1 rfl rfl | exact ld_own1 2 rfl rfl | exact ld_own1 3 rfl rfl | exact ld_own1 4 rfl rfl | exact ld_own1 5 rfl rfl | exact ld_own1 6 rfl rfl | exact ld_own1 7 rfl rfl | exact ld_ownG1 0 rfl rfl | exact ld_ownG1 1 rfl rfl | exact ld_imm1 (by assumption))) ?_
                refine ow_val rfl (gd_go rfl s39) (ex_neq rfl rfl) ?_
                refine ow_val rfl (gd_go rfl s35) (ex_pickt rfl s39 rfl) ?_
                refine ow_val rfl rfl (ex_pickf rfl s35 rfl) ?_
                refine ow_nil ?_
                exact qw_meet (subL_meet 23 44 (lkv rfl (by first | rfl | (simp_all; done) | (simp_all <;> omega))) rfl rfl) (fun w h => h)
              ·
                refine ow_skip rfl (gd_no rfl s39) ?_
                refine ow_skip rfl (gd_no rfl s39) ?_
                refine ow_skip rfl (gd_no rfl s39) ?_
                refine ow_val rfl (gd_go rfl s35) (ex_pickf rfl s39 rfl) ?_
                refine ow_val rfl rfl (ex_pickf rfl s35 rfl) ?_
                refine ow_nil ?_
                exact qw_meet (subL_meet 23 44 (lkv rfl (by first | rfl | (simp_all; done) | (simp_all <;> omega))) rfl rfl) (fun w h => h)
        ·
          refine ow_skip rfl (gd_no rfl s25) ?_
          refine ow_skip rfl (gd_no rfl s25) ?_
          refine ow_skip rfl (gd_no rfl s25) ?_
          refine ow_skip rfl (gd_no rfl s25) ?_
          refine ow_skip rfl rfl ?_
          refine ow_skip rfl rfl ?_
          refine ow_skip rfl rfl ?_
          refine ow_skip rfl (gd_no rfl s25) ?_
          refine ow_val rfl rfl (ex_pickf rfl s25 rfl) ?_
          refine ow_val rfl rfl (ex_move rfl) ?_
          refine ow_val rfl rfl (ex_field rfl) ?_
          refine ow_val rfl rfl (ex_load1 rfl (by first | exact ld_own1 0 rfl rfl | exact ld_own1 1 rfl rfl | exact ld_own1 2 rfl rfl | exact ld_own1 3 rfl rfl | exact ld_own1 4 rfl rfl | exact ld_own1 5 rfl rfl | exact ld_own1 6 rfl rfl | exact ld_own1 7 rfl rfl | exact ld_ownG1 0 rfl rfl | exact ld_ownG1 1 rfl rfl | exact ld_imm1 (by assumption))) ?_
          refine ow_val rfl rfl (ex_neq rfl rfl) ?_
          refine ow_val rfl rfl (ex_move rfl) ?_
          refine ow_split (g := some (17, true)) rfl (fun s39 => ?_) (fun s39 => ?_)
          ·
            refine ow_val rfl (gd_go rfl s39) (ex_field rfl) ?_
            refine ow_val rfl (gd_go rfl s39) (ex_load1 rfl (by first | exact ld_own1 0 rfl rfl | exact ld_own1 1 rfl rfl | exact ld_own1 2 rfl rfl | exact ld_own1 3 rfl rfl | exact ld_own1 4 rfl rfl | exact ld_own1 5 rfl rfl | exact ld_own1 6 rfl rfl | exact ld_own1 7 rfl rfl | exact ld_ownG1 0 rfl rfl | exact ld_ownG1 1 rfl rfl | exact ld_imm1 (by assumption))) ?_
            refine ow_val rfl (gd_go rfl s39) (ex_neq rfl rfl) ?_
            refine ow_val rfl rfl (ex_pickt rfl s39 rfl) ?_
            refine ow_val rfl rfl (ex_pick_f rfl rfl) ?_
            refine ow_nil ?_
            exact qw_meet (subL_meet 23 44 (lkv rfl (by first | rfl | (simp_all; done) | (simp_all <;> omega))) rfl rfl) (fun w h => h)
          ·
            refine ow_skip rfl (gd_no rfl s39) ?_
            refine ow_skip rfl (gd_no rfl s39) ?_
            refine ow_skip rfl (gd_no rfl s39) ?_
            refine ow_val rfl rfl (ex_pickf rfl s39 rfl) ?_
            refine ow_val rfl rfl (ex_pick_f rfl rfl) ?_
            refine ow_nil ?_
            exact qw_meet (subL_meet 23 44 (lkv rfl (by first | rfl | (simp_all; done) | (simp_all <;> omega))) rfl rfl) (fun w h => h)
      ·
        refine cw_cond rfl (fun c44 => ?_) (fun c44 => ?_)
        ·
          refine cw_seq ?_
          refine cw_region ?_
          refine ow_val rfl rfl (ex_assign rfl) ?_
          refine ow_nil ?_
          refine qw_seq ?_
          refine cw_ret ?_
          refine qw_then_ret ?_
          refine qw_ret1 rfl rfl (fun w' h => ⟨congrArg (fun z => Ending.returned (.bool z)) ?_, h.ag.below⟩)
          symm
          rw [rightD_mk]
          rw [shape_go, c44]
          simp
        ·
          refine cw_skip ?_
          refine qw_seq ?_
          refine cw_seq ?_
          refine cw_cut1 68 (.bool (decide (0 < (d.length : Int)) && decide (o ≠ 3) && decide (o ≠ 4) && decide (o ≠ 5) && decide (o ≠ 6))) ?_ ?_
          ·
            refine cw_region ?_
            refine ow_val rfl rfl (ex_field rfl) ?_
            refine ow_val rfl rfl (ex_load1 rfl (by first | exact ld_own1 0 rfl rfl | exact ld_own1 1 rfl rfl | exact ld_own1 2 rfl rfl | exact ld_own1 3 rfl rfl | exact ld_own1 4 rfl rfl | exact ld_own1 5 rfl rfl | exact ld_own1 6 rfl rfl | exact ld_own1 7 rfl rfl | exact ld_ownG1 0 rfl rfl | exact ld_ownG1 1 rfl rfl | exact ld_imm1 (by assumption))) ?_
            refine ow_val rfl rfl (ex_len (ty := 0) rfl) ?_
            refine ow_val rfl rfl (ex_gtr rfl rfl) ?_
            refine ow_val rfl rfl (ex_move rfl) ?_
            refine ow_split (g := some (4, true)) rfl (fun s49 => ?_) (fun s49 => ?_)
            ·
              refine ow_val rfl (gd_go rfl s49) (ex_field rfl) ?_
              refine ow_val rfl (gd_go rfl s49) (ex_load1 rfl (by first | exact ld_own1 0 rfl rfl | exact ld_own1 1 rfl rfl | exact ld_own1 2 rfl rfl | exact ld_own1 3 rfl rfl | exact ld_own1 4 rfl rfl | exact ld_own1 5 rfl rfl | exact ld_own1 6 rfl rfl | exact ld_own1 7 rfl rfl | exact ld_ownG1 0 rfl rfl | exact ld_ownG1 1 rfl rfl | exact ld_imm1 (by assumption))) ?_
              refine ow_val rfl (gd_go rfl s49) (ex_neq rfl rfl) ?_
              refine ow_val rfl rfl (ex_pickt rfl s49 rfl) ?_
              refine ow_val rfl rfl (ex_move rfl) ?_
              refine ow_split (g := some (9, true)) rfl (fun s54 => ?_) (fun s54 => ?_)
              ·
                refine ow_val rfl (gd_go rfl s54) (ex_field rfl) ?_
                refine ow_val rfl (gd_go rfl s54) (ex_load1 rfl (by first | exact ld_own1 0 rfl rfl | exact ld_own1 1 rfl rfl | exact ld_own1 2 rfl rfl | exact ld_own1 3 rfl rfl | exact ld_own1 4 rfl rfl | exact ld_own1 5 rfl rfl | exact ld_own1 6 rfl rfl | exact ld_own1 7 rfl rfl | exact ld_ownG1 0 rfl rfl | exact ld_ownG1 1 rfl rfl | exact ld_imm1 (by assumption))) ?_
                refine ow_val rfl (gd_go rfl s54) (ex_neq rfl rfl) ?_
                refine ow_val rfl rfl (ex_pickt rfl s54 rfl) ?_
                refine ow_val rfl rfl (ex_move rfl) ?_
                refine ow_split (g := some (14, true)) rfl (fun s59 => ?_) (fun s59 => ?_)
                ·
                  refine ow_val rfl (gd_go rfl s59) (ex_field rfl) ?_
                  refine ow_val rfl (gd_go rfl s59) (ex_load1 rfl (by first | exact ld_own1 0 rfl rfl | exact ld_own1 1 rfl rfl | exact ld_own1 2 rfl rfl | exact ld_own1 3 rfl rfl | exact ld_own1 4 rfl rfl | exact ld_own1 5 rfl rfl | exact ld_own1 6 rfl rfl | exact ld_own1 7 rfl rfl | exact ld_ownG1 0 rfl rfl | exact ld_ownG1 1 rfl rfl | exact ld_imm1 (by assumption))) ?_
                  refine ow_val rfl (gd_go rfl s59) (ex_neq rfl rfl) ?_
                  refine ow_val rfl rfl (ex_pickt rfl s59 rfl) ?_
                  refine ow_val rfl rfl (ex_move rfl) ?_
                  refine ow_split (g := some (19, true)) rfl (fun s64 => ?_) (fun s64 => ?_)
                  ·
                    refine ow_val rfl (gd_go rfl s64) (ex_field rfl) ?_
                    refine ow_val rfl (gd_go rfl s64) (ex_load1 rfl (by first | exact ld_own1 0 rfl rfl | exact ld_own1 1 rfl rfl | exact ld_own1 2 rfl rfl | exact ld_own1 3 rfl rfl | exact ld_own1 4 rfl rfl | exact ld_own1 5 rfl rfl | exact ld_own1 6 rfl rfl | exact ld_own1 7 rfl rfl | exact ld_ownG1 0 rfl rfl | exact ld_ownG1 1 rfl rfl | exact ld_imm1 (by assumption))) ?_
                    refine ow_val rfl (gd_go rfl s64) (ex_neq rfl rfl) ?_
                    refine ow_val rfl rfl (ex_pickt rfl s64 rfl) ?_
                    refine ow_nil ?_
                    exact qw_meet (subL_meet 24 68 (lkv rfl (by first | rfl | (simp_all; done) | (simp_all <;> omega))) rfl rfl) (fun w h => h)
                  ·
                    refine ow_skip rfl (gd_no rfl s64) ?_
                    refine ow_skip rfl (gd_no rfl s64) ?_
                    refine ow_skip rfl (gd_no rfl s64) ?_
                    refine ow_val rfl rfl (ex_pickf rfl s64 rfl) ?_
                    refine ow_nil ?_
                    exact qw_meet (subL_meet 24 68 (lkv rfl (by first | rfl | (simp_all; done) | (simp_all <;> omega))) rfl rfl) (fun w h => h)
                ·
                  refine ow_skip rfl (gd_no rfl s59) ?_
                  refine ow_skip rfl (gd_no rfl s59) ?_
                  refine ow_skip rfl (gd_no rfl s59) ?_
                  refine ow_val rfl rfl (ex_pickf rfl s59 rfl) ?_
                  refine ow_val rfl rfl (ex_move rfl) ?_
                  refine ow_skip rfl rfl ?_
                  refine ow_skip rfl rfl ?_
                  refine ow_skip rfl rfl ?_
                  refine ow_val rfl rfl (ex_pick_f rfl rfl) ?_
                  refine ow_nil ?_
                  exact qw_meet (subL_meet 24 68 (lkv rfl (by first | rfl | (simp_all; done) | (simp_all <;> omega))) rfl rfl) (fun w h => h)
              ·
                refine ow_skip rfl (gd_no rfl s54) ?_
                refine ow_skip rfl (gd_no rfl s54) ?_
                refine ow_skip rfl (gd_no rfl s54) ?_
                refine ow_val rfl rfl (ex_pickf rfl s54 rfl) ?_
                refine ow_val rfl rfl (ex_move rfl) ?_
                refine ow_skip rfl rfl ?_
                refine ow_skip rfl rfl ?_
                refine ow_skip rfl rfl ?_
                refine ow_val rfl rfl (ex_pick_f rfl rfl) ?_
                refine ow_val rfl rfl (ex_move rfl) ?_
                refine ow_skip rfl rfl ?_
                refine ow_skip rfl rfl ?_
                refine ow_skip rfl rfl ?_
                refine ow_val rfl rfl (ex_pick_f rfl rfl) ?_
                refine ow_nil ?_
                exact qw_meet (subL_meet 24 68 (lkv rfl (by first | rfl | (simp_all; done) | (simp_all <;> omega))) rfl rfl) (fun w h => h)
            ·
              refine ow_skip rfl (gd_no rfl s49) ?_
              refine ow_skip rfl (gd_no rfl s49) ?_
              refine ow_skip rfl (gd_no rfl s49) ?_
              refine ow_val rfl rfl (ex_pickf rfl s49 rfl) ?_
              refine ow_val rfl rfl (ex_move rfl) ?_
              refine ow_skip rfl rfl ?_
              refine ow_skip rfl rfl ?_
              refine ow_skip rfl rfl ?_
              refine ow_val rfl rfl (ex_pick_f rfl rfl) ?_
              refine ow_val rfl rfl (ex_move rfl) ?_
              refine ow_skip rfl rfl ?_
              refine ow_skip rfl rfl ?_
              refine ow_skip rfl rfl ?_
              refine ow_val rfl rfl (ex_pick_f rfl rfl) ?_
              refine ow_val rfl rfl (ex_move rfl) ?_
              refine ow_skip rfl rfl ?_
              refine ow_skip rfl rfl ?_
              refine ow_skip rfl rfl ?_
              refine ow_val rfl rfl (ex_pick_f rfl rfl) ?_
              refine ow_nil ?_
              exact qw_meet (subL_meet 24 68 (lkv rfl (by first | rfl | (simp_all; done) | (simp_all <;> omega))) rfl rfl) (fun w h => h)
          ·
            refine cw_cond rfl (fun c68 => ?_) (fun c68 => ?_)
            ·
              refine cw_seq ?_
              refine cw_region ?_
              refine ow_val rfl rfl (ex_assign rfl) ?_
              refine ow_nil ?_
              refine qw_seq ?_
              refine cw_ret ?_
              refine qw_then_ret ?_
              refine qw_ret1 rfl rfl (fun w' h => ⟨congrArg (fun z => Ending.returned (.bool z)) ?_, h.ag.below⟩)
              symm
              rw [rightD_mk]
              rw [shape_go, c68]
              simp
            ·
              refine cw_skip ?_
              refine qw_seq ?_
              refine cw_seq ?_
              refine cw_seq ?_
              refine cw_region ?_
              refine ow_val rfl rfl (ex_assign rfl) ?_
              refine ow_nil ?_
              refine qw_seq ?_
              refine cw_block ?_
              refine cw_loopS (α := Nat) (fun i => [(1, .int .i64 (deep : Int)), (2, .pointer (some ⟨b2, 0, none⟩)), (6, .int .i64 (i : Int))]) (fun i => i ≤ ks.length ∧ (∀ j (h : j < ks.length), j < i → rightD ks[j] (deep + 1) = true) ∧ (∀ j (h : j + 1 < ks.length), j + 1 < i → ord ks[j] ks[j + 1] ≤ 0)) (fun i => ks.length - i) 0 (subL_cons (lkv rfl (by first | rfl | simp)) (subL_cons (lkv rfl (by first | rfl | simp)) (subL_cons (lkv rfl (by first | rfl | simp)) (subL_nil _)))) ⟨Nat.zero_le _, fun j h hj => absurd hj (Nat.not_lt_zero _), fun j h hj => absurd hj (Nat.not_lt_zero _)⟩ ?_
              intro i ⟨hle, hr, hso⟩
              refine cw_seq ?_
              refine cw_seq ?_
              refine cw_region ?_
              refine ow_val rfl rfl (ex_move rfl) ?_
              refine ow_val rfl rfl (ex_field rfl) ?_
              refine ow_val rfl rfl (ex_load1 rfl (by first | exact ld_own1 0 rfl rfl | exact ld_own1 1 rfl rfl | exact ld_own1 2 rfl rfl | exact ld_own1 3 rfl rfl | exact ld_own1 4 rfl rfl | exact ld_own1 5 rfl rfl | exact ld_own1 6 rfl rfl | exact ld_own1 7 rfl rfl | exact ld_ownG1 0 rfl rfl | exact ld_ownG1 1 rfl rfl | exact ld_imm1 (by assumption))) ?_
              refine ow_val rfl rfl (ex_len (ty := 0) rfl) ?_
              refine ow_val rfl rfl (ex_lss rfl rfl) ?_
              refine ow_nil ?_
              refine qw_seq ?_
              refine cw_cond rfl (fun c73 => ?_) (fun c73 => ?_)
              ·
                refine cw_skip ?_
                refine qw_seq ?_
                refine cw_seq ?_
                refine cw_block ?_
                refine cw_seq ?_
                have hlt : i < ks.length := by simp at c73; omega
                obtain ⟨bk, f, ck, cs, e1, e2, hc1, ht1⟩ := hk.get i hlt
                cases e1
                have hdp : deep < 16 := by simp at c21; omega
                refine cw_region ?_
                refine ow_val rfl rfl (ex_field rfl) ?_
                refine ow_val rfl rfl (ex_load1 rfl (by first | exact ld_own1 0 rfl rfl | exact ld_own1 1 rfl rfl | exact ld_own1 2 rfl rfl | exact ld_own1 3 rfl rfl | exact ld_own1 4 rfl rfl | exact ld_own1 5 rfl rfl | exact ld_own1 6 rfl rfl | exact ld_own1 7 rfl rfl | exact ld_ownG1 0 rfl rfl | exact ld_ownG1 1 rfl rfl | exact ld_imm1 (by assumption))) ?_
                refine ow_val rfl rfl (ex_move rfl) ?_
                refine ow_val rfl rfl (ex_index_nat rfl rfl (by omega)) ?_
                refine ow_val rfl rfl (ex_loadR rfl (by first | exact ld_ownN 0 rfl rfl | exact ld_ownN 1 rfl rfl | exact ld_ownN 2 rfl rfl | exact ld_ownN 3 rfl rfl | exact ld_ownN 4 rfl rfl | exact ld_ownN 5 rfl rfl | exact ld_ownN 6 rfl rfl | exact ld_ownN 7 rfl rfl | exact ld_ownGN 0 rfl rfl | exact ld_ownGN 1 rfl rfl | exact ld_immT (by assumption) (by assumption))) ?_
                refine ow_val rfl rfl (ex_move rfl) ?_
                refine ow_val rfl rfl (ex_addi (z := ((deep + 1 : Nat) : Int)) rfl rfl (by omega) (by omega) (by omega)) ?_
                refine ow_cv rfl rfl (ex_callf rfl (fun w h => callB ((ih _ (List.getElem_mem hlt) h.im ht1 (by omega))))) ?_
                refine ow_val rfl rfl (ex_assign rfl) ?_
                refine ow_nil ?_
                refine qw_seq ?_
                refine cw_seq ?_
                refine cw_seq ?_
                refine cw_region ?_
                refine ow_val rfl rfl (ex_move rfl) ?_
                refine ow_val rfl rfl (ex_not rfl) ?_
                refine ow_nil ?_
                refine qw_seq ?_
                refine cw_cond rfl (fun c85 => ?_) (fun c85 => ?_)
                ·
                  refine cw_seq ?_
                  refine cw_region ?_
                  refine ow_val rfl rfl (ex_assign rfl) ?_
                  refine ow_nil ?_
                  refine qw_seq ?_
                  refine cw_ret ?_
                  refine qw_then_ret ?_
                  refine qw_block_ret ?_
                  refine qw_then_ret ?_
                  refine qw_then_ret ?_
                  refine qw_block_ret ?_
                  refine qw_then_ret ?_
                  refine qw_ret1 rfl rfl (fun w' h => ⟨congrArg (fun z => Ending.returned (.bool z)) ?_, h.ag.below⟩)
                  symm
                  rw [rightD_mk]
                  have : rightsD ks (deep + 1) = false := by
                    cases hq : rightsD ks (deep + 1) with
                    | false => rfl
                    | true => have := rightsD_iff.1 hq i hlt; rw [this] at c85; cases c85
                  rw [this]; simp
                ·
                  refine cw_skip ?_
                  refine qw_seq ?_
                  refine cw_cut1 102 (.bool (decide (0 < (i : Int)) && decide (0 < ord (ks.getD (i - 1) zeroT) ks[i]))) ?_ ?_
                  ·
                    refine flow_sound 17 (by kernel_rfl) ?_
                    refine flow_val rfl (ex_move rfl) ?_
                    refine flow_val rfl (ex_gtr rfl rfl) ?_
                    refine flow_val rfl (ex_move rfl) ?_
                    refine flow_split rfl (fun s88 => ?_) (fun s88 => ?_)
                    ·
                      have hpos : 0 < i := by simpa using s88
                      obtain ⟨bk2, f2, ck2, cs2, e1', e2', hc2, ht2⟩ := hk.get (i - 1) (by omega)
                      cases e1'
                      rw [show ks[i - 1] = ks.getD (i - 1) zeroT by simp [List.getD_eq_getElem?_getD, show i - 1 < ks.length by omega]] at ht2
                      refine flow_val (gd_go rfl s88) (ex_field rfl) ?_
                      refine flow_val (gd_go rfl s88) (ex_load1 rfl (by first | exact ld_own1 0 rfl rfl | exact ld_own1 1 rfl rfl | exact ld_own1 2 rfl rfl | exact ld_own1 3 rfl rfl | exact ld_own1 4 rfl rfl | exact ld_own1 5 rfl rfl | exact ld_own1 6 rfl rfl | exact ld_own1 7 rfl rfl | exact ld_ownG1 0 rfl rfl | exact ld_ownG1 1 rfl rfl | exact ld_imm1 (by assumption))) ?_
                      refine flow_val (gd_go rfl s88) (ex_move rfl) ?_
                      refine flow_val (gd_go rfl s88) (ex_subi (z := ((i - 1 : Nat) : Int)) rfl rfl (by omega) (by omega) (by omega)) ?_
                      refine flow_val (gd_go rfl s88) (ex_index_nat rfl rfl (by omega)) ?_
                      refine flow_val (gd_go rfl s88) (ex_loadR rfl (by first | exact ld_ownN 0 rfl rfl | exact ld_ownN 1 rfl rfl | exact ld_ownN 2 rfl rfl | exact ld_ownN 3 rfl rfl | exact ld_ownN 4 rfl rfl | exact ld_ownN 5 rfl rfl | exact ld_ownN 6 rfl rfl | exact ld_ownN 7 rfl rfl | exact ld_ownGN 0 rfl rfl | exact ld_ownGN 1 rfl rfl | exact ld_immT (by assumption) (by assumption))) ?_
                      refine flow_val (gd_go rfl s88) (ex_field rfl) ?_
                      refine flow_val (gd_go rfl s88) (ex_load1 rfl (by first | exact ld_own1 0 rfl rfl | exact ld_own1 1 rfl rfl | exact ld_own1 2 rfl rfl | exact ld_own1 3 rfl rfl | exact ld_own1 4 rfl rfl | exact ld_own1 5 rfl rfl | exact ld_own1 6 rfl rfl | exact ld_own1 7 rfl rfl | exact ld_ownG1 0 rfl rfl | exact ld_ownG1 1 rfl rfl | exact ld_imm1 (by assumption))) ?_
                      refine flow_val (gd_go rfl s88) (ex_move rfl) ?_
                      refine flow_val (gd_go rfl s88) (ex_index_nat rfl rfl (by omega)) ?_
                      refine flow_val (gd_go rfl s88) (ex_loadR rfl (by first | exact ld_ownN 0 rfl rfl | exact ld_ownN 1 rfl rfl | exact ld_ownN 2 rfl rfl | exact ld_ownN 3 rfl rfl | exact ld_ownN 4 rfl rfl | exact ld_ownN 5 rfl rfl | exact ld_ownN 6 rfl rfl | exact ld_ownN 7 rfl rfl | exact ld_ownGN 0 rfl rfl | exact ld_ownGN 1 rfl rfl | exact ld_immT (by assumption) (by assumption))) ?_
                      refine flow_cv (gd_go rfl s88) (ex_callf rfl (fun w h => callB ((rOrder _ _ h.im ht2 ht1)))) ?_
                      refine flow_val (gd_go rfl s88) (ex_gtr rfl rfl) ?_
                      refine flow_val rfl (ex_pickt rfl s88 rfl) ?_
                      refine flow_nil ?_
                      refine fin_is ?_
                      refine fin_is ?_
                      refine fin_is ?_
                      refine fin_is ?_
                      refine fin_is ?_
                      refine fin_is ?_
                      refine fin_is ?_
                      refine fin_is ?_
                      refine fin_is ?_
                      refine fin_is ?_
                      refine fin_is ?_
                      refine fin_is ?_
                      refine fin_is ?_
                      refine fin_is ?_
                      refine fin_is ?_
                      refine fin_is ?_
                      refine fin_is ?_
                      refine fin_nil ?_
                      refine ow_nil ?_
                      exact qw_meet (subL_meet 17 102 (lkv rfl (by first | rfl | (simp_all; done) | (simp_all <;> omega))) rfl rfl) (fun w h => h)
                    ·
                      refine flow_skip (gd_no rfl s88) ?_
                      refine flow_skip (gd_no rfl s88) ?_
                      refine flow_skip (gd_no rfl s88) ?_
                      refine flow_skip (gd_no rfl s88) ?_
                      refine flow_skip (gd_no rfl s88) ?_
                      refine flow_skip (gd_no rfl s88) ?_
                      refine flow_skip (gd_no rfl s88) ?_
                      refine flow_skip (gd_no rfl s88) ?_
                      refine flow_skip (gd_no rfl s88) ?_
                      refine flow_skip (gd_no rfl s88) ?_
                      refine flow_skip (gd_no rfl s88) ?_
                      refine flow_skip (gd_no rfl s88) ?_
                      refine flow_skip (gd_no rfl s88) ?_
                      refine flow_val rfl (ex_pickf rfl s88 rfl) ?_
                      refine flow_nil ?_
                      refine fin_is ?_
                      refine fin_is ?_
                      refine fin_is ?_
                      refine fin_is ?_
                      refine fin_is ?_
                      refine fin_is ?_
                      refine fin_is ?_
                      refine fin_is ?_
                      refine fin_is ?_
                      refine fin_is ?_
                      refine fin_is ?_
                      refine fin_is ?_
                      refine fin_is ?_
                      refine fin_is ?_
                      refine fin_is ?_
                      refine fin_is ?_
                      refine fin_is ?_
                      refine fin_nil ?_
                      refine ow_nil ?_
                      exact qw_meet (subL_meet 17 102 (lkv rfl (by first | rfl | (simp_all; done) | (simp_all <;> omega))) rfl rfl) (fun w h => h)
                  ·
                    refine cw_cond rfl (fun c102 => ?_) (fun c102 => ?_)
                    ·
                      refine cw_seq ?_
                      refine cw_region ?_
                      refine ow_val rfl rfl (ex_assign rfl) ?_
                      refine ow_nil ?_
                      refine qw_seq ?_
                      refine cw_ret ?_
                      refine qw_block_ret ?_
                      refine qw_then_ret ?_
                      refine qw_then_ret ?_
                      refine qw_block_ret ?_
                      refine qw_then_ret ?_
                      refine qw_ret1 rfl rfl (fun w' h => ⟨congrArg (fun z => Ending.returned (.bool z)) ?_, h.ag.below⟩)
                      symm
                      rw [rightD_mk]
                      have : sorted ks = false := by
                        cases hq : sorted ks with
                        | false => rfl
                        | true =>
                          simp only [Bool.and_eq_true, decide_eq_true_eq] at c102
                          have := sorted_iff.1 hq (i - 1) (by omega)
                          have e : i - 1 + 1 = i := by omega
                          simp only [e] at this
                          rw [List.getD_eq_getElem?_getD, List.getElem?_eq_getElem (show i - 1 < ks.length by omega), Option.getD_some] at c102
                          omega
                      rw [this]; simp
                    ·
                      refine cw_skip ?_
                      refine qw_block_normal ?_
                      refine qw_seq ?_
                      refine cw_region ?_
                      refine ow_val rfl rfl (ex_move rfl) ?_
                      refine ow_val rfl rfl (ex_addi (z := ((i + 1 : Nat) : Int)) rfl rfl (by omega) (by omega) (by omega)) ?_
                      refine ow_val rfl rfl (ex_assign rfl) ?_
                      refine ow_nil ?_
                      exact qw_roundS (i + 1) (by omega) (subL_cons (lkv rfl (by first | rfl | simp)) (subL_cons (lkv rfl (by first | rfl | simp)) (subL_cons (lkv rfl (by first | rfl | simp)) (subL_nil _)))) ⟨by omega, fun j h hj => by
                        by_cases e : j = i
                        · subst e; simpa using c85
                        · exact hr j h (by omega), fun j h hj => by
                        by_cases e : j + 1 = i
                        · subst e
                          have : ord (ks.getD j zeroT) ks[j + 1] ≤ 0 := by simpa using c102
                          rwa [List.getD_eq_getElem?_getD, List.getElem?_eq_getElem (show j < ks.length by omega), Option.getD_some] at this
                        · exact hso j h (by omega)⟩
              ·
                refine cw_exit ?_
                refine qw_then_exit ?_
                refine qw_then_exit ?_
                refine qw_block_exit ?_
                refine qw_seq ?_
                refine cw_seq ?_
                refine cw_region ?_
                refine ow_val rfl rfl (ex_assign rfl) ?_
                refine ow_nil ?_
                refine qw_seq ?_
                refine cw_ret ?_
                refine qw_ret1 rfl rfl (fun w' h => ⟨congrArg (fun z => Ending.returned (.bool z)) ?_, h.ag.below⟩)
                symm
                rw [rightD_mk]
                have hsh : shape o n d ks = true := by
                  rw [shape_go, c44, c68]
                  simp at c21 ⊢
                  exact ⟨c21.2.1, by omega⟩
                have hdp : deep < 16 := by simp at c21; omega
                have he : i = ks.length := by simp at c73; omega
                rw [hsh, rightsD_iff.2 (fun j h => hr j h (by omega)), sorted_iff.2 (fun j h => hso j h (by omega))]
                simp [hdp]
set_option maxHeartbeats 400000 in
theorem rRight (t : T) {σ : Hp} {cs : List Value} {w : World} (hi : Imm σ w) (ht : TermC σ cs t) : Calls Tryz.prog 75 #[.agg cs.toArray] w fun e w' => e = .returned (.bool (right t)) ∧ Below w.heap.size w w' := by
  have ht0 := ht
  obtain ⟨dv, kv, rfl, ho, hn, hd, hk⟩ := ht.opn
  refine enter (St w (fun _ => False) σ [] []) Tryz.func75 rfl Tryz.ntmps75 rfl (St.start hi) ?_
  refine cw_seq ?_
  refine cw_region ?_
  refine ow_blk rfl rfl (exw_box rfl) ?_; intro b1
  refine ow_val rfl rfl (ex_assign rfl) ?_
  refine ow_nil ?_
  refine qw_seq ?_
  refine cw_seq ?_
  refine cw_region ?_
  refine ow_val rfl rfl (ex_loadR rfl (by first | exact ld_ownN 0 rfl rfl | exact ld_ownN 1 rfl rfl | exact ld_ownN 2 rfl rfl | exact ld_ownN 3 rfl rfl | exact ld_ownN 4 rfl rfl | exact ld_ownN 5 rfl rfl | exact ld_ownN 6 rfl rfl | exact ld_ownN 7 rfl rfl | exact ld_ownGN 0 rfl rfl | exact ld_ownGN 1 rfl rfl | exact ld_immT (by assumption) (by assumption))) ?_
  refine ow_cv rfl rfl (ex_callf rfl (fun w h => callB ((rRightD t (deep := 0) h.im ht0 (by omega))))) ?_
  refine ow_val rfl rfl (ex_assign rfl) ?_
  refine ow_nil ?_
  refine qw_seq ?_
  refine cw_ret ?_
  refine qw_ret1 rfl rfl (fun w' h => ⟨rfl, h.ag.below⟩)
end Go.Proofs.YtnjomdjkbbhdoaaGreatDoor
namespace Go.Proofs.YtnjomdjkbbhdoaaGreatDoor
open Go.RowKit
set_option linter.unusedVariables false
set_option linter.unusedSimpArgs false
set_option maxRecDepth 100000
set_option maxHeartbeats 400000 in
theorem rPut {ks : List T} {x : T} {σ : Hp} {lv : Value} {cx : List Value} {w : World} (hi : Imm σ w) (hk : KidsV σ lv ks) (hx : TermC σ cx x) (hlen : ks.length < maxKids) :
    Calls Tryz.prog 90 #[lv, .agg cx.toArray] w (GiveR (RepK (putB ks x)) σ w) := by
  have hx0 := hx
  have hk0 := hk
  obtain ⟨dv, kv, rfl, ho, hn, hd, hkx⟩ := hx.opn
  obtain ⟨p, c, xs, rfl, hc, hm, hrow, hsrc⟩ := hk.row
  have hm2 := hlen
  unfold maxKids at hm2
  have hxl := hrow.len
  have hml : (2199023255553 : Nat) ≤ maxLen := by unfold maxLen; omega
  refine enter (St w (fun _ => False) σ [] []) Tryz.func90 rfl Tryz.ntmps90 rfl (St.start hi) ?_
  refine cw_seq ?_
  refine cw_region ?_
  refine ow_blk rfl rfl (exw_box rfl) ?_; intro b3
  refine ow_val rfl rfl (ex_assign rfl) ?_
  refine ow_nil ?_
  refine qw_seq ?_
  refine cw_seq ?_
  refine cw_region ?_
  refine ow_val rfl rfl (ex_move rfl) ?_
  refine ow_val rfl rfl (ex_len (ty := 0) rfl) ?_
  refine ow_val rfl rfl (ex_assign rfl) ?_
  refine ow_nil ?_
  refine qw_seq ?_
  refine cw_seq ?_
  refine cw_block ?_
  refine cw_loopS (α := Nat) (fun i => [(0, .slice p ks.length c), (3, .pointer (some ⟨b3, 0, none⟩)), (5, .int .i64 (i : Int))]) (fun i => i ≤ ks.length ∧ backAt ks x ks.length = backAt ks x i) (fun i => i) ks.length (subL_cons (lkv rfl (by first | rfl | simp)) (subL_cons (lkv rfl (by first | rfl | simp)) (subL_cons (lkv rfl (by first | rfl | simp)) (subL_nil _)))) ⟨Nat.le_refl _, rfl⟩ ?_
  intro i ⟨hle, hba⟩
  refine cw_seq ?_
  refine cw_cut1 20 (.bool (decide (0 < (i : Int)) && decide (0 < ord (ks.getD (i - 1) zeroT) x))) ?_ ?_
  ·
    refine flow_sound 12 (by kernel_rfl) ?_
    refine flow_val rfl (ex_move rfl) ?_
    refine flow_val rfl (ex_gtr rfl rfl) ?_
    refine flow_val rfl (ex_move rfl) ?_
    refine flow_split rfl (fun s11 => ?_) (fun s11 => ?_)
    ·
      have hpos : 0 < i := by simpa using s11
      obtain ⟨bk2, f2, ck2, cs2, e1', e2', hc2, ht2⟩ := hk0.get (i - 1) (by omega)
      cases e1'
      rw [show ks[i - 1] = ks.getD (i - 1) zeroT by simp [List.getD_eq_getElem?_getD, show i - 1 < ks.length by omega]] at ht2
      refine flow_val (gd_go rfl s11) (ex_move rfl) ?_
      refine flow_val (gd_go rfl s11) (ex_move rfl) ?_
      refine flow_val (gd_go rfl s11) (ex_subi (z := ((i - 1 : Nat) : Int)) rfl rfl (by omega) (by omega) (by omega)) ?_
      refine flow_val (gd_go rfl s11) (ex_index_nat rfl rfl (by omega)) ?_
      refine flow_val (gd_go rfl s11) (ex_loadR rfl (by first | exact ld_ownN 0 rfl rfl | exact ld_ownN 1 rfl rfl | exact ld_ownN 2 rfl rfl | exact ld_ownN 3 rfl rfl | exact ld_ownN 4 rfl rfl | exact ld_ownN 5 rfl rfl | exact ld_ownN 6 rfl rfl | exact ld_ownN 7 rfl rfl | exact ld_ownGN 0 rfl rfl | exact ld_ownGN 1 rfl rfl | exact ld_immT (by assumption) (by assumption))) ?_
      refine flow_val (gd_go rfl s11) (ex_loadR rfl (by first | exact ld_ownN 0 rfl rfl | exact ld_ownN 1 rfl rfl | exact ld_ownN 2 rfl rfl | exact ld_ownN 3 rfl rfl | exact ld_ownN 4 rfl rfl | exact ld_ownN 5 rfl rfl | exact ld_ownN 6 rfl rfl | exact ld_ownN 7 rfl rfl | exact ld_ownGN 0 rfl rfl | exact ld_ownGN 1 rfl rfl | exact ld_immT (by assumption) (by assumption))) ?_
      refine flow_cv (gd_go rfl s11) (ex_callf rfl (fun w h => callB ((rOrder _ _ h.im ht2 hx0)))) ?_
      refine flow_val (gd_go rfl s11) (ex_gtr rfl rfl) ?_
      refine flow_val rfl (ex_pickt rfl s11 rfl) ?_
      refine flow_nil ?_
      refine fin_is ?_
      refine fin_is ?_
      refine fin_is ?_
      refine fin_is ?_
      refine fin_is ?_
      refine fin_is ?_
      refine fin_is ?_
      refine fin_is ?_
      refine fin_is ?_
      refine fin_is ?_
      refine fin_is ?_
      refine fin_is ?_
      refine fin_nil ?_
      refine ow_nil ?_
      exact qw_meet (subL_meet 12 20 (lkv rfl (by first | rfl | (simp_all; done) | (simp_all <;> omega))) rfl rfl) (fun w h => h)
    ·
      refine flow_skip (gd_no rfl s11) ?_
      refine flow_skip (gd_no rfl s11) ?_
      refine flow_skip (gd_no rfl s11) ?_
      refine flow_skip (gd_no rfl s11) ?_
      refine flow_skip (gd_no rfl s11) ?_
      refine flow_skip (gd_no rfl s11) ?_
      refine flow_skip (gd_no rfl s11) ?_
      refine flow_skip (gd_no rfl s11) ?_
      refine flow_val rfl (ex_pickf rfl s11 rfl) ?_
      refine flow_nil ?_
      refine fin_is ?_
      refine fin_is ?_
      refine fin_is ?_
      refine fin_is ?_
      refine fin_is ?_
      refine fin_is ?_
      refine fin_is ?_
      refine fin_is ?_
      refine fin_is ?_
      refine fin_is ?_
      refine fin_is ?_
      refine fin_is ?_
      refine fin_nil ?_
      refine ow_nil ?_
      exact qw_meet (subL_meet 12 20 (lkv rfl (by first | rfl | (simp_all; done) | (simp_all <;> omega))) rfl rfl) (fun w h => h)
  ·
    refine cw_cond rfl (fun c20 => ?_) (fun c20 => ?_)
    ·
      refine cw_skip ?_
      refine qw_seq ?_
      refine cw_block ?_
      have hpos : 0 < i := by simp at c20; omega
      refine cw_region ?_
      refine ow_val rfl rfl (ex_move rfl) ?_
      refine ow_val rfl rfl (ex_subi (z := ((i - 1 : Nat) : Int)) rfl rfl (by omega) (by omega) (by omega)) ?_
      refine ow_val rfl rfl (ex_assign rfl) ?_
      refine ow_nil ?_
      refine qw_block_normal ?_
      exact qw_roundS (i - 1) (by omega) (subL_cons (lkv rfl (by first | rfl | simp)) (subL_cons (lkv rfl (by first | rfl | simp)) (subL_cons (lkv rfl (by first | rfl | simp)) (subL_nil _)))) ⟨by omega, by
        obtain ⟨j, rfl⟩ : ∃ j, i = j + 1 := ⟨i - 1, by omega⟩
        simp only [Bool.and_eq_true, decide_eq_true_eq] at c20
        rw [hba, backAt, if_pos (show 0 < ord (ks.getD j zeroT) x from c20.2)]; rfl⟩
    ·
      refine cw_exit ?_
      refine qw_then_exit ?_
      refine qw_then_exit ?_
      refine qw_block_exit ?_
      refine qw_seq ?_
      refine cw_seq ?_
      refine cw_region ?_
      refine ow_slit rfl rfl exw_slit0 ?_; intro b23
      refine ow_mono (fun w h => h.toG) ?_
      refine ow_val rfl rfl (ex_move rfl) ?_
      refine ow_val rfl rfl (ex_move rfl) ?_
      refine ow_val rfl rfl (ex_slice_hi rfl rfl (by omega)) ?_
      refine ow_app1 rfl rfl (exw_append1 (news := xs.take (i * 4)) rfl rfl (OwnSl.lit0 32 4 b23) (by rw [List.length_take, hxl]; omega) ?_ (fun u hu => hrow.oneCell u (List.mem_of_mem_take hu)) (by omega) (by omega)) (fun v27 G27 hO27 hz27 => ?_)
      · rcases hsrc with h0 | ⟨b, f, hp, hca⟩
        · left; subst h0; simp at hle; exact hle
        · right; exact ⟨b, f, hp, fun w h => (hca.take _).range h.im⟩
      refine ow_val rfl rfl (ex_assign rfl) ?_
      refine ow_nil ?_
      refine qw_seq ?_
      refine cw_seq ?_
      refine cw_region ?_
      refine ow_val rfl rfl (ex_move rfl) ?_
      refine ow_val rfl rfl (ex_loadR rfl (by first | exact ld_ownN 0 rfl rfl | exact ld_ownN 1 rfl rfl | exact ld_ownN 2 rfl rfl | exact ld_ownN 3 rfl rfl | exact ld_ownN 4 rfl rfl | exact ld_ownN 5 rfl rfl | exact ld_ownN 6 rfl rfl | exact ld_ownN 7 rfl rfl | exact ld_ownGN 0 rfl rfl | exact ld_ownGN 1 rfl rfl | exact ld_immT (by assumption) (by assumption))) ?_
      refine ow_slit rfl rfl (exw_slit1 rfl rfl) ?_; intro b30
      refine ow_app1 rfl rfl (exw_append1 (news := [.int .i64 x.op, .int .i64 x.num, dv, kv]) rfl rfl hO27 rfl (.inr ⟨_, _, rfl, (ld_ownN (k := 4) 0 rfl rfl).2⟩) hx0.one (by omega) (by omega)) (fun v31 G31 hO31 hz31 => ?_)
      refine ow_val rfl rfl (ex_assign rfl) ?_
      refine ow_nil ?_
      refine qw_seq ?_
      refine cw_seq ?_
      refine cw_region ?_
      refine ow_val rfl rfl (ex_move rfl) ?_
      refine ow_val rfl rfl (ex_move rfl) ?_
      refine ow_val rfl rfl (ex_move rfl) ?_
      refine ow_val rfl rfl (ex_slice_lo rfl rfl (by omega) hc) ?_
      refine ow_app1 rfl rfl (exw_append1 (news := xs.drop (i * 4)) rfl rfl hO31 (by rw [List.length_drop, hxl]; omega) ?_ (fun u hu => hrow.oneCell u (List.mem_of_mem_drop hu)) (by omega) (by omega)) (fun v36 G36 hO36 hz36 => ?_)
      · rcases hsrc with h0 | ⟨b, f, hp, hca⟩
        · left; subst h0; simp
        · by_cases hlast : ks.length - i = 0
          · exact .inl hlast
          · right; rw [if_neg (by omega), hp]; exact ⟨b, f + i * 4, by simp [addr_add], fun w h => (hca.drop _).range h.im⟩
      refine ow_val rfl rfl (ex_assign rfl) ?_
      refine ow_nil ?_
      refine qw_seq ?_
      refine cw_ret ?_
      refine qw_ret1 rfl rfl (fun w' h => ?_)
      have hend : backAt ks x i = i := by
        cases i with
        | zero => rfl
        | succ j =>
          simp only [Bool.and_eq_false_iff, decide_eq_false_iff_not] at c20
          rcases c20 with c20 | c20
          · omega
          · rw [backAt, if_neg (show ¬ 0 < ord (ks.getD j zeroT) x from c20)]
      have hrows : RowC σ (([] ++ xs.take (i * 4)) ++ [.int .i64 x.op, .int .i64 x.num, dv, kv] ++ xs.drop (i * 4)) (ks.take i ++ [x] ++ ks.drop i) := by
        rw [List.nil_append]; exact ((hrow.take i).append (RowC.one hx0)).append (hrow.drop i)
      obtain ⟨σ', h1, h2, h3, h4⟩ := freezeG (Gr := []) (by simpa using h) (fun _ h => h) hO36 hrows (by simp; omega)
      refine h2.gives h1 h4 ?_
      unfold RepK putB
      rw [hba, hend]
      simpa using h3
end Go.Proofs.YtnjomdjkbbhdoaaGreatDoor
