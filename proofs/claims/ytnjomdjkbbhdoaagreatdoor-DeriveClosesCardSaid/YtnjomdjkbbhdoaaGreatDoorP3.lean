/-
  What the law DeriveCloses needs, part 3.
  No condition.
-/
import Derived.Test.YtnjomdjkbbhdoaaGreatDoorP2
set_option linter.unusedVariables false
set_option linter.unusedSimpArgs false
set_option linter.unusedSectionVars false
namespace Go.Proofs.YtnjomdjkbbhdoaaGreatDoor
open Go.RowKit
set_option linter.unusedVariables false
set_option linter.unusedSimpArgs false
set_option maxRecDepth 100000
set_option maxHeartbeats 400000 in
theorem pBytesClone {d : List UInt8} {σ : Hp} {v : Value} {w : World} (hi : Imm σ w) (hd : BytesV σ v d) : Calls Tryz.prog 68 #[v] w (GiveR (RepB d) σ w) := by
  have hd0 := hd
  obtain ⟨pd, cd, rfl, hcd, hmd, hsrc⟩ := hd.row
  have hmd2 := hmd
  unfold maxData at hmd2
  have hml : (140737488355328 : Nat) ≤ maxLen := by unfold maxLen; omega
  refine enter (St w (fun _ => False) σ [] []) Tryz.func68 rfl Tryz.ntmps68 rfl (St.start hi) ?_
  refine cw_seq ?_
  refine cw_region ?_
  refine ow_val rfl rfl (ex_assign rfl) ?_
  refine ow_nil ?_
  refine qw_seq ?_
  refine cw_seq ?_
  refine cw_seq ?_
  refine cw_region ?_
  refine ow_val rfl rfl (ex_move rfl) ?_
  refine ow_val rfl rfl (ex_isnil rfl) ?_
  refine ow_nil ?_
  refine qw_seq ?_
  refine cw_cond rfl (fun c4 => ?_) (fun c4 => ?_)
  ·
    refine cw_seq ?_
    refine cw_region ?_
    refine ow_val rfl rfl (ex_assign rfl) ?_
    refine ow_nil ?_
    refine qw_seq ?_
    refine cw_ret ?_
    refine qw_then_ret ?_
    refine qw_ret1 rfl rfl (fun w' h => ?_)
    have : d = [] := by
      rcases hsrc with h0 | ⟨b, o, hp, _⟩
      · exact List.eq_nil_of_length_eq_zero h0
      · rw [hp] at c4; cases c4
    rw [this]
    exact h.gives (Le.refl _) (Fresh.refl _ _) (BytesV.nil σ)
  ·
    refine cw_skip ?_
    refine qw_seq ?_
    refine cw_seq ?_
    refine cw_region ?_
    refine ow_slit rfl rfl exw_slit0 ?_; intro b5
    refine ow_mono (fun w h => h.toG) ?_
    refine ow_val rfl rfl (ex_move rfl) ?_
    refine ow_app1 rfl rfl (exw_append1 (news := d.map byteV) rfl rfl (OwnSl.lit0 5 1 b5) (by simp) (hsrc.imp id fun ⟨b, f, hp, hca⟩ => ⟨b, f, hp, fun w h => hca.range h.im⟩) (bytes_one d) (by omega) (by omega)) (fun v7 G7 hO7 hz7 => ?_)
    refine ow_val rfl rfl (ex_assign rfl) ?_
    refine ow_nil ?_
    refine qw_seq ?_
    refine cw_ret ?_
    refine qw_ret1 rfl rfl (fun w' h => ?_)
    obtain ⟨σ', h1, h2, h3, h4⟩ := freezeB (Gr := []) (by simpa using h) (fun _ h => h) hO7 (by simp) hmd
    exact h2.gives h1 h4 h3
set_option maxHeartbeats 400000 in
theorem pTermsClone {ks : List T} {p : Option Addr} {c : Nat} {xs : List Value} {σ : Hp} {w : World} (hi : Imm σ w) (hx : RowC σ xs ks) (hm : ks.length ≤ maxKids) (hsrc : ks = [] ∨ ∃ b f, p = some ⟨b, f, none⟩ ∧ CellsAt σ b f xs) : Calls Tryz.prog 79 #[.slice p ks.length c] w (GiveO 32 4 ks.length xs w) := by
  have hm2 := hm
  unfold maxKids at hm2
  have hxl := hx.len
  have hml : (2199023255553 : Nat) ≤ maxLen := by unfold maxLen; omega
  refine enter (St w (fun _ => False) σ [] []) Tryz.func79 rfl Tryz.ntmps79 rfl (St.start hi) ?_
  refine cw_seq ?_
  refine cw_region ?_
  refine ow_val rfl rfl (ex_assign rfl) ?_
  refine ow_nil ?_
  refine qw_seq ?_
  refine cw_seq ?_
  refine cw_seq ?_
  refine cw_region ?_
  refine ow_val rfl rfl (ex_move rfl) ?_
  refine ow_val rfl rfl (ex_isnil rfl) ?_
  refine ow_nil ?_
  refine qw_seq ?_
  refine cw_cond rfl (fun c4 => ?_) (fun c4 => ?_)
  ·
    refine cw_seq ?_
    refine cw_region ?_
    refine ow_val rfl rfl (ex_assign rfl) ?_
    refine ow_nil ?_
    refine qw_seq ?_
    refine cw_ret ?_
    refine qw_then_ret ?_
    refine qw_ret1 rfl rfl (fun w' h => ?_)
    have : ks = [] := by
      rcases hsrc with h0 | ⟨b, o, hp, _⟩
      · exact h0
      · rw [hp] at c4; cases c4
    subst this
    simp only [RowC] at hx
    subst hx
    exact h.givesO (OwnSl.nil _ _)
  ·
    refine cw_skip ?_
    refine qw_seq ?_
    refine cw_seq ?_
    refine cw_region ?_
    refine ow_slit rfl rfl exw_slit0 ?_; intro b5
    refine ow_mono (fun w h => h.toG) ?_
    refine ow_val rfl rfl (ex_move rfl) ?_
    refine ow_app1 rfl rfl (exw_append1 (news := xs) rfl rfl (OwnSl.lit0 32 4 b5) hxl (hsrc.imp (fun h => by rw [h]; rfl) fun ⟨b, f, hp, hca⟩ => ⟨b, f, hp, fun w h => hca.range h.im⟩) hx.oneCell (by omega) (by omega)) (fun v7 G7 hO7 hz7 => ?_)
    refine ow_val rfl rfl (ex_assign rfl) ?_
    refine ow_nil ?_
    refine qw_seq ?_
    refine cw_ret ?_
    refine qw_ret1 rfl rfl (fun w' h => ?_)
    rw [Nat.zero_add, List.nil_append] at hO7
    exact h.givesO hO7
set_option maxHeartbeats 400000 in
theorem pNorm0 {o n : Int} {d : List UInt8} {σ : Hp} {cs : List Value} {w : World} (hi : Imm σ w) (ht : TermC σ cs (.mk o n d [])) : Calls Tryz.prog 48 #[.agg cs.toArray] w (GiveR (RepT (norm (.mk o n d []))) σ w) := by
  obtain ⟨dv, kv, rfl, ho, hn, hd, hk⟩ := ht.opn
  simp only [T.kids, T.op, T.num, T.data] at *
  obtain ⟨p, c, xs, rfl, hc, hm, hrow, hsrc⟩ := hk.row
  have hm2 := hm
  unfold maxKids at hm2
  simp only [RowC] at hrow
  subst hrow
  refine enter (St w (fun _ => False) σ [] []) Tryz.func48 rfl Tryz.ntmps48 rfl (St.start hi) ?_
  refine cw_seq ?_
  refine cw_region ?_
  refine ow_blk rfl rfl (exw_box rfl) ?_; intro b1
  refine ow_blk rfl rfl exw_alloc ?_; intro b2
  refine ow_nil ?_
  refine qw_seq ?_
  refine cw_seq ?_
  refine cw_region ?_
  refine ow_val rfl rfl (ex_field rfl) ?_
  refine ow_val rfl rfl (ex_load1 rfl (by first | exact ld_own1 0 rfl rfl | exact ld_own1 1 rfl rfl | exact ld_own1 2 rfl rfl | exact ld_own1 3 rfl rfl | exact ld_own1 4 rfl rfl | exact ld_own1 5 rfl rfl | exact ld_own1 6 rfl rfl | exact ld_own1 7 rfl rfl | exact ld_ownG1 0 rfl rfl | exact ld_ownG1 1 rfl rfl | exact ld_imm1 (by assumption))) ?_
  refine ow_cr rfl rfl (ex_callf rfl (fun w h => callR (pBytesClone h.im hd))) (fun v7 σ1 hl1 hf1 hb7 => ?_)
  refine ow_val rfl rfl (ex_field rfl) ?_
  refine ow_u rfl (exu_store1 1 rfl rfl rfl (BytesV.cell hb7).1 (BytesV.cell hb7).2 rfl) ?_
  refine ow_nil ?_
  refine qw_seq ?_
  refine cw_seq ?_
  refine cw_region ?_
  refine ow_val rfl rfl (ex_field rfl) ?_
  refine ow_val rfl rfl (ex_load1 rfl (by first | exact ld_own1 0 rfl rfl | exact ld_own1 1 rfl rfl | exact ld_own1 2 rfl rfl | exact ld_own1 3 rfl rfl | exact ld_own1 4 rfl rfl | exact ld_own1 5 rfl rfl | exact ld_own1 6 rfl rfl | exact ld_own1 7 rfl rfl | exact ld_ownG1 0 rfl rfl | exact ld_ownG1 1 rfl rfl | exact ld_imm1 (by assumption))) ?_
  refine ow_co rfl rfl (ex_callf rfl (fun w h => callO (pTermsClone (ks := []) (xs := []) h.im rfl (Nat.zero_le _) (.inl rfl)))) (fun v11 G11 hO11 => ?_)
  obtain ⟨q, c2, rfl⟩ : ∃ q c2, v11 = .slice q 0 c2 := by
    rcases hO11.2 with ⟨rfl, _⟩ | ⟨g, c2, cur, rfl, _⟩
    · exact ⟨_, _, rfl⟩
    · exact ⟨_, _, rfl⟩
  refine ow_val rfl rfl (ex_field rfl) ?_
  refine ow_u rfl (exu_store1 1 rfl rfl rfl rfl rfl rfl) ?_
  refine ow_nil ?_
  refine qw_seq ?_
  refine cw_seq ?_
  refine cw_seq ?_
  refine cw_region ?_
  refine ow_val rfl rfl (ex_field rfl) ?_
  refine ow_val rfl rfl (ex_load1 rfl (by first | exact ld_own1 0 rfl rfl | exact ld_own1 1 rfl rfl | exact ld_own1 2 rfl rfl | exact ld_own1 3 rfl rfl | exact ld_own1 4 rfl rfl | exact ld_own1 5 rfl rfl | exact ld_own1 6 rfl rfl | exact ld_own1 7 rfl rfl | exact ld_ownG1 0 rfl rfl | exact ld_ownG1 1 rfl rfl | exact ld_imm1 (by assumption))) ?_
  refine ow_val rfl rfl (ex_len (ty := 0) rfl) ?_
  refine ow_val rfl rfl (ex_move rfl) ?_
  refine ow_nil ?_
  refine qw_seq ?_
  refine cw_block ?_
  refine cw_loopS (α := Unit) (fun _ => [(1, .pointer (some ⟨b1, 0, none⟩)), (2, .pointer (some ⟨b2, 0, none⟩)), (14, .slice q 0 c2), (15, .int .i64 (0 : Int)), (16, .int .i64 (0 : Int))]) (fun _ => True) (fun _ => 0) () (subL_cons (lkv rfl (by first | rfl | simp)) (subL_cons (lkv rfl (by first | rfl | simp)) (subL_cons (lkv rfl (by first | rfl | simp)) (subL_cons (lkv rfl (by first | rfl | simp)) (subL_cons (lkv rfl (by first | rfl | simp)) (subL_nil _)))))) trivial ?_
  intro _ _
  refine cw_seq ?_
  refine cw_region ?_
  refine ow_val rfl rfl (ex_lss rfl rfl) ?_
  refine ow_nil ?_
  refine qw_seq ?_
  refine cw_seq ?_
  refine cw_cond rfl (fun c17 => ?_) (fun c17 => ?_)
  ·
    simp at c17
  ·
    refine cw_exit ?_
    refine qw_then_exit ?_
    refine qw_then_exit ?_
    refine qw_block_exit ?_
    refine qw_seq ?_
    refine cw_seq ?_
    refine cw_seq ?_
    refine cw_region ?_
    refine ow_val rfl rfl (ex_field rfl) ?_
    refine ow_val rfl rfl (ex_load1 rfl (by first | exact ld_own1 0 rfl rfl | exact ld_own1 1 rfl rfl | exact ld_own1 2 rfl rfl | exact ld_own1 3 rfl rfl | exact ld_own1 4 rfl rfl | exact ld_own1 5 rfl rfl | exact ld_own1 6 rfl rfl | exact ld_own1 7 rfl rfl | exact ld_ownG1 0 rfl rfl | exact ld_ownG1 1 rfl rfl | exact ld_imm1 (by assumption))) ?_
    refine ow_val rfl rfl (ex_eql rfl rfl) ?_
    refine ow_nil ?_
    refine qw_seq ?_
    refine cw_cond rfl (fun c30 => ?_) (fun c30 => ?_)
    ·
      refine cw_region ?_
      refine ow_val rfl rfl (ex_field rfl) ?_
      refine ow_val rfl rfl (ex_load1 rfl (by first | exact ld_own1 0 rfl rfl | exact ld_own1 1 rfl rfl | exact ld_own1 2 rfl rfl | exact ld_own1 3 rfl rfl | exact ld_own1 4 rfl rfl | exact ld_own1 5 rfl rfl | exact ld_own1 6 rfl rfl | exact ld_own1 7 rfl rfl | exact ld_ownG1 0 rfl rfl | exact ld_ownG1 1 rfl rfl | exact ld_imm1 (by assumption))) ?_
      refine ow_cv rfl rfl (ex_callf rfl (fun w h => callB (pSort0))) ?_
      refine ow_nil ?_
      refine qw_seq ?_
      refine cw_seq ?_
      refine cw_region ?_
      refine ow_val rfl rfl (ex_loadR rfl (by first | exact ld_ownN 0 rfl rfl | exact ld_ownN 1 rfl rfl | exact ld_ownN 2 rfl rfl | exact ld_ownN 3 rfl rfl | exact ld_ownN 4 rfl rfl | exact ld_ownN 5 rfl rfl | exact ld_ownN 6 rfl rfl | exact ld_ownN 7 rfl rfl | exact ld_ownGN 0 rfl rfl | exact ld_ownGN 1 rfl rfl | exact ld_immT (by assumption) (by assumption))) ?_
      refine ow_u rfl (exu_storeN 0 rfl rfl rfl rfl (four_one (BytesV.cell hb7).2 rfl) rfl) ?_
      refine ow_nil ?_
      refine qw_seq ?_
      refine cw_ret ?_
      refine qw_retC rfl rfl (ld_ownN 0 rfl rfl) (fun w' h => ?_)
      obtain ⟨σ', h1, h2, h3, h4⟩ := freezeG (ts := []) (Gr := []) (by simpa using h) (fun _ h => h) hO11 rfl (Nat.zero_le _)
      refine h2.gives (hl1.trans h1) (hf1.trans h4) ⟨_, rfl, ?_⟩
      rw [norm_mk, show (if o = 7 then sortB [] (norms []) else norms []) = ([] : List T) by split <;> rfl]
      exact TermC.mk ho hn (BytesV.le h1 hb7) h3
    ·
      refine cw_skip ?_
      refine qw_seq ?_
      refine cw_seq ?_
      refine cw_region ?_
      refine ow_val rfl rfl (ex_loadR rfl (by first | exact ld_ownN 0 rfl rfl | exact ld_ownN 1 rfl rfl | exact ld_ownN 2 rfl rfl | exact ld_ownN 3 rfl rfl | exact ld_ownN 4 rfl rfl | exact ld_ownN 5 rfl rfl | exact ld_ownN 6 rfl rfl | exact ld_ownN 7 rfl rfl | exact ld_ownGN 0 rfl rfl | exact ld_ownGN 1 rfl rfl | exact ld_immT (by assumption) (by assumption))) ?_
      refine ow_u rfl (exu_storeN 0 rfl rfl rfl rfl (four_one (BytesV.cell hb7).2 rfl) rfl) ?_
      refine ow_nil ?_
      refine qw_seq ?_
      refine cw_ret ?_
      refine qw_retC rfl rfl (ld_ownN 0 rfl rfl) (fun w' h => ?_)
      obtain ⟨σ', h1, h2, h3, h4⟩ := freezeG (ts := []) (Gr := []) (by simpa using h) (fun _ h => h) hO11 rfl (Nat.zero_le _)
      refine h2.gives (hl1.trans h1) (hf1.trans h4) ⟨_, rfl, ?_⟩
      rw [norm_mk, show (if o = 7 then sortB [] (norms []) else norms []) = ([] : List T) by split <;> rfl]
      exact TermC.mk ho hn (BytesV.le h1 hb7) h3
set_option maxHeartbeats 400000 in
theorem pNormN {o : Int} {n : Int} {d : List UInt8} {ks : List T} {B : Nat} (hS : SortsAt Tryz.prog 80 66 32 B) (hBm : B ≤ maxKids) (ih : ∀ k, k ∈ ks → ∀ {σ : Hp} {cs : List Value} {w : World}, Imm σ w → TermC σ cs k → Calls Tryz.prog 48 #[.agg cs.toArray] w (GiveR (RepT (norm k)) σ w)) (hB : ks.length ≤ B) (hpos : 0 < ks.length) {σ : Hp} {cs : List Value} {w : World} (hi : Imm σ w) (ht : TermC σ cs (.mk o n d ks)) : Calls Tryz.prog 48 #[.agg cs.toArray] w (GiveR (RepT (norm (.mk o n d ks))) σ w) := by
  obtain ⟨dv, kv, rfl, ho, hn, hd, hk⟩ := ht.opn
  simp only [T.kids, T.op, T.num, T.data] at *
  obtain ⟨p, c, xs, rfl, hc, hm, hrow, hsrc⟩ := hk.row
  have hm2 := hm
  unfold maxKids at hm2
  refine enter (St w (fun _ => False) σ [] []) Tryz.func48 rfl Tryz.ntmps48 rfl (St.start hi) ?_
  refine cw_seq ?_
  refine cw_region ?_
  refine ow_blk rfl rfl (exw_box rfl) ?_; intro b1
  refine ow_blk rfl rfl exw_alloc ?_; intro b2
  refine ow_nil ?_
  refine qw_seq ?_
  refine cw_seq ?_
  refine cw_region ?_
  refine ow_val rfl rfl (ex_field rfl) ?_
  refine ow_val rfl rfl (ex_load1 rfl (by first | exact ld_own1 0 rfl rfl | exact ld_own1 1 rfl rfl | exact ld_own1 2 rfl rfl | exact ld_own1 3 rfl rfl | exact ld_own1 4 rfl rfl | exact ld_own1 5 rfl rfl | exact ld_own1 6 rfl rfl | exact ld_own1 7 rfl rfl | exact ld_ownG1 0 rfl rfl | exact ld_ownG1 1 rfl rfl | exact ld_imm1 (by assumption))) ?_
  refine ow_cr rfl rfl (ex_callf rfl (fun w h => callR (pBytesClone h.im hd))) (fun v7 σ1 hl1 hf1 hb7 => ?_)
  refine ow_val rfl rfl (ex_field rfl) ?_
  refine ow_u rfl (exu_store1 1 rfl rfl rfl (BytesV.cell hb7).1 (BytesV.cell hb7).2 rfl) ?_
  refine ow_nil ?_
  refine qw_seq ?_
  refine cw_seq ?_
  refine cw_region ?_
  refine ow_val rfl rfl (ex_field rfl) ?_
  refine ow_val rfl rfl (ex_load1 rfl (by first | exact ld_own1 0 rfl rfl | exact ld_own1 1 rfl rfl | exact ld_own1 2 rfl rfl | exact ld_own1 3 rfl rfl | exact ld_own1 4 rfl rfl | exact ld_own1 5 rfl rfl | exact ld_own1 6 rfl rfl | exact ld_own1 7 rfl rfl | exact ld_ownG1 0 rfl rfl | exact ld_ownG1 1 rfl rfl | exact ld_imm1 (by assumption))) ?_
  refine ow_co rfl rfl (ex_callf rfl (fun w h => callO (pTermsClone h.im (hrow.le hl1) hm (hsrc.imp id fun ⟨b, f, hp, hca⟩ => ⟨b, f, hp, hca.le hl1⟩)))) (fun v11 G11 hO11 => ?_)
  obtain ⟨g, c2, tl, rfl, rfl, hc2, hcm2, hxl2⟩ := hO11.open hpos
  refine ow_mono (fun w h => h.ofG) ?_
  refine ow_val rfl rfl (ex_field rfl) ?_
  refine ow_u rfl (exu_store1 2 rfl rfl rfl rfl rfl rfl) ?_
  refine ow_nil ?_
  refine qw_seq ?_
  refine cw_seq ?_
  refine cw_seq ?_
  refine cw_region ?_
  refine ow_val rfl rfl (ex_field rfl) ?_
  refine ow_val rfl rfl (ex_load1 rfl (by first | exact ld_own1 0 rfl rfl | exact ld_own1 1 rfl rfl | exact ld_own1 2 rfl rfl | exact ld_own1 3 rfl rfl | exact ld_own1 4 rfl rfl | exact ld_own1 5 rfl rfl | exact ld_own1 6 rfl rfl | exact ld_own1 7 rfl rfl | exact ld_ownG1 0 rfl rfl | exact ld_ownG1 1 rfl rfl | exact ld_imm1 (by assumption))) ?_
  refine ow_val rfl rfl (ex_len (ty := 0) rfl) ?_
  refine ow_val rfl rfl (ex_move rfl) ?_
  refine ow_nil ?_
  refine qw_seq ?_
  refine cw_block ?_
  refine cw_loopH3 (fun (i : Nat) (τ : Hp) (ys : List Value) => [(1, .pointer (some ⟨b1, 0, none⟩)), (2, .pointer (some ⟨b2, 0, none⟩)), (14, .slice (some ⟨g, 0, none⟩) ks.length c2), (15, .int .i64 (ks.length : Int)), (16, .int .i64 (i : Int))]) (fun i τ ys => i ≤ ks.length ∧ Le σ1 τ ∧ Fresh σ1 τ w ∧ RowC τ ys (norms (ks.take i) ++ ks.drop i)) (fun i τ ys => τ) (fun i τ ys => [(g, rowO ys tl 32), (b2, .cells (Value.agg #[.int .i64 0, .int .i64 0, .slice none 0 0, .slice none 0 0]).cells 32), (b1, .cells #[.int .i64 o, .int .i64 n, v7, .slice (some ⟨g, 0, none⟩) ks.length c2] 32)]) (fun i τ ys => []) (fun i τ ys => ks.length - i) 0 σ1 xs (subL_cons (lkv rfl (by first | rfl | simp)) (subL_cons (lkv rfl (by first | rfl | simp)) (subL_cons (lkv rfl (by first | rfl | simp)) (subL_cons (lkv rfl (by first | rfl | simp)) (subL_cons (lkv rfl (by first | rfl | simp)) (subL_nil _)))))) ⟨Nat.zero_le _, Le.refl _, Fresh.refl _ _, by simpa [norms] using hrow.le hl1⟩ (fun w h => h) ?_
  intro i τ ys ⟨hle, hl, hf, hry⟩
  refine cw_seq ?_
  refine cw_region ?_
  refine ow_val rfl rfl (ex_lss rfl rfl) ?_
  refine ow_nil ?_
  refine qw_seq ?_
  refine cw_seq ?_
  refine cw_cond rfl (fun c17 => ?_) (fun c17 => ?_)
  ·
    refine cw_skip ?_
    refine qw_seq ?_
    refine cw_seq ?_
    refine cw_block ?_
    refine cw_seq ?_
    have hlt : i < ks.length := by simpa using c17
    have hnl : (norms (ks.take i) ++ ks.drop i).length = ks.length := by rw [List.length_append, norms_len, List.length_take, List.length_drop]; omega
    obtain ⟨ce, hte, hxe⟩ := hry.at i (by omega)
    rw [norms_at ks i hlt] at hte
    have hyl := hry.len
    have hte' := hte
    obtain ⟨d1, k1, rfl, _, _, _, _⟩ := hte'.opn
    refine cw_region ?_
    refine ow_val rfl rfl (ex_move rfl) ?_
    refine ow_val rfl rfl (ex_index_nat rfl rfl (by omega)) ?_
    refine ow_val rfl rfl (ex_loadR rfl (ld_rowH 0 rfl hte.len hxe)) ?_
    refine ow_blk rfl rfl exw_alloc ?_; intro b4
    refine ow_val rfl rfl (ex_assign rfl) ?_
    refine ow_u rfl (exu_storeN 0 rfl rfl rfl rfl hte.one rfl) ?_
    refine ow_nil ?_
    refine qw_seq ?_
    refine flow_sound 6 (by kernel_rfl) ?_
    refine flow_val rfl (ex_field rfl) ?_
    refine flow_val rfl (ex_load1 rfl (by first | exact ld_own1 0 rfl rfl | exact ld_own1 1 rfl rfl | exact ld_own1 2 rfl rfl | exact ld_own1 3 rfl rfl | exact ld_own1 4 rfl rfl | exact ld_own1 5 rfl rfl | exact ld_own1 6 rfl rfl | exact ld_own1 7 rfl rfl | exact ld_ownG1 0 rfl rfl | exact ld_ownG1 1 rfl rfl | exact ld_imm1 (by assumption))) ?_
    refine flow_val rfl (ex_move rfl) ?_
    refine flow_val rfl (ex_loadR rfl (by first | exact ld_ownN 0 rfl rfl | exact ld_ownN 1 rfl rfl | exact ld_ownN 2 rfl rfl | exact ld_ownN 3 rfl rfl | exact ld_ownN 4 rfl rfl | exact ld_ownN 5 rfl rfl | exact ld_ownN 6 rfl rfl | exact ld_ownN 7 rfl rfl | exact ld_ownGN 0 rfl rfl | exact ld_ownGN 1 rfl rfl | exact ld_immT (by assumption) (by assumption))) ?_
    refine flow_cr rfl (ex_callf rfl (fun w h => callR (ih _ (List.getElem_mem hlt) h.im hte))) ?_
    refine flow_val rfl (ex_index_nat rfl rfl (by omega)) ?_
    refine flow_nil ?_
    refine fin_is ?_
    refine fin_satR (Le.refl _) (fun v25 τ2 hl2 hf2 hr25 => ?_)
    refine fin_is ?_
    refine fin_is ?_
    refine fin_is ?_
    refine fin_is ?_
    refine fin_nil ?_
    obtain ⟨cn, rfl, htn⟩ := hr25
    refine ow_u rfl (exu_storeX 1 rfl rfl rfl htn.len htn.one (by omega)) ?_
    refine ow_nil ?_
    refine qw_block_normal ?_
    refine qw_seq ?_
    refine cw_region ?_
    refine ow_val rfl rfl (ex_addi (z := ((i + 1 : Nat) : Int)) rfl rfl (by omega) (by omega) (by omega)) ?_
    refine ow_val rfl rfl (ex_move rfl) ?_
    refine ow_nil ?_
    exact qw_roundH3 (i + 1) τ2 (setX ys i cn) (by omega) (subL_cons (lkv rfl (by first | rfl | simp)) (subL_cons (lkv rfl (by first | rfl | simp)) (subL_cons (lkv rfl (by first | rfl | simp)) (subL_cons (lkv rfl (by first | rfl | simp)) (subL_cons (lkv rfl (by first | rfl | simp)) (subL_nil _)))))) ⟨by omega, hl.trans hl2, hf.trans hf2, by rw [← norms_set ks i hlt]; exact (hry.le hl2).set i htn (by omega)⟩ (fun w h => h.drop (List.sublist_cons_self _ _))
  ·
    have he : i = ks.length := by simp at c17; omega
    subst he
    have hrw : RowC τ ys (norms ks) := by rw [List.take_length, List.drop_length, List.append_nil] at hry; exact hry
    refine cw_exit ?_
    refine qw_then_exit ?_
    refine qw_then_exit ?_
    refine qw_block_exit ?_
    refine qw_seq ?_
    refine cw_seq ?_
    refine cw_seq ?_
    refine cw_region ?_
    refine ow_val rfl rfl (ex_field rfl) ?_
    refine ow_val rfl rfl (ex_load1 rfl (by first | exact ld_own1 0 rfl rfl | exact ld_own1 1 rfl rfl | exact ld_own1 2 rfl rfl | exact ld_own1 3 rfl rfl | exact ld_own1 4 rfl rfl | exact ld_own1 5 rfl rfl | exact ld_own1 6 rfl rfl | exact ld_own1 7 rfl rfl | exact ld_ownG1 0 rfl rfl | exact ld_ownG1 1 rfl rfl | exact ld_imm1 (by assumption))) ?_
    refine ow_val rfl rfl (ex_eql rfl rfl) ?_
    refine ow_nil ?_
    refine qw_seq ?_
    refine cw_cond rfl (fun c30 => ?_) (fun c30 => ?_)
    ·
      have ho7 : o = 7 := by simpa using c30
      refine cw_region ?_
      refine ow_val rfl rfl (ex_field rfl) ?_
      refine ow_val rfl rfl (ex_load1 rfl (by first | exact ld_own1 0 rfl rfl | exact ld_own1 1 rfl rfl | exact ld_own1 2 rfl rfl | exact ld_own1 3 rfl rfl | exact ld_own1 4 rfl rfl | exact ld_own1 5 rfl rfl | exact ld_own1 6 rfl rfl | exact ld_own1 7 rfl rfl | exact ld_ownG1 0 rfl rfl | exact ld_ownG1 1 rfl rfl | exact ld_imm1 (by assumption))) ?_
      refine ow_cmd rfl rfl (ex_callf rfl (fun w h => callM (hS (norms_len ks).symm h.im (h.own (p := (g, rowO ys tl 32)) List.mem_cons_self) (h.fresh (p := (g, rowO ys tl 32)) List.mem_cons_self) hrw (by rw [norms_len]; exact hB) (by rw [norms_len]; exact hc2)))) (fun v33 us zs hR hr2 => ?_)
      refine ow_nil ?_
      refine qw_seq ?_
      refine cw_seq ?_
      refine cw_region ?_
      refine ow_val rfl rfl (ex_loadR rfl (by first | exact ld_ownN 0 rfl rfl | exact ld_ownN 1 rfl rfl | exact ld_ownN 2 rfl rfl | exact ld_ownN 3 rfl rfl | exact ld_ownN 4 rfl rfl | exact ld_ownN 5 rfl rfl | exact ld_ownN 6 rfl rfl | exact ld_ownN 7 rfl rfl | exact ld_ownGN 0 rfl rfl | exact ld_ownGN 1 rfl rfl | exact ld_immT (by assumption) (by assumption))) ?_
      refine ow_u rfl (exu_storeN 1 rfl rfl rfl rfl (four_one (BytesV.cell hb7).2 rfl) rfl) ?_
      refine ow_nil ?_
      refine qw_seq ?_
      refine cw_ret ?_
      refine qw_retC rfl rfl (ld_ownN 1 rfl rfl) (fun w' h => ?_)
      have hus := sortB_is hR.1 hR.2
      subst hus
      have hfr := hr2
      have hul : (sortB [] (norms ks)).length = ks.length := by rw [sortB_len, norms_len]; simp
      obtain ⟨σ', h1, h2, h3, h4⟩ := freezeG (Gr := []) (by simpa using h.toG) (fun _ h => h) (OwnSl.close (by rw [hfr.len, hul]) hc2 hcm2 (by rw [List.length_append] at hxl2 ⊢; have q1 := hfr.len; have q2 := hrow.len; rw [hul] at q1; omega)) hfr (by omega)
      refine h2.gives ((hl1.trans hl).trans h1) ((hf1.trans hf).trans h4) ⟨_, rfl, ?_⟩
      rw [norm_mk, if_pos ho7]
      exact TermC.mk ho hn (BytesV.le (hl.trans h1) hb7) h3
    ·
      refine cw_skip ?_
      refine qw_seq ?_
      refine cw_seq ?_
      refine cw_region ?_
      refine ow_val rfl rfl (ex_loadR rfl (by first | exact ld_ownN 0 rfl rfl | exact ld_ownN 1 rfl rfl | exact ld_ownN 2 rfl rfl | exact ld_ownN 3 rfl rfl | exact ld_ownN 4 rfl rfl | exact ld_ownN 5 rfl rfl | exact ld_ownN 6 rfl rfl | exact ld_ownN 7 rfl rfl | exact ld_ownGN 0 rfl rfl | exact ld_ownGN 1 rfl rfl | exact ld_immT (by assumption) (by assumption))) ?_
      refine ow_u rfl (exu_storeN 1 rfl rfl rfl rfl (four_one (BytesV.cell hb7).2 rfl) rfl) ?_
      refine ow_nil ?_
      refine qw_seq ?_
      refine cw_ret ?_
      refine qw_retC rfl rfl (ld_ownN 1 rfl rfl) (fun w' h => ?_)
      have ho7 : o ≠ 7 := by simpa using c30
      have hfr := hrw
      have hul : (norms ks).length = ks.length := norms_len ks
      obtain ⟨σ', h1, h2, h3, h4⟩ := freezeG (Gr := []) (by simpa using h.toG) (fun _ h => h) (OwnSl.close (by rw [hfr.len, hul]) hc2 hcm2 (by rw [List.length_append] at hxl2 ⊢; have q1 := hfr.len; have q2 := hrow.len; rw [hul] at q1; omega)) hfr (by omega)
      refine h2.gives ((hl1.trans hl).trans h1) ((hf1.trans hf).trans h4) ⟨_, rfl, ?_⟩
      rw [norm_mk, if_neg ho7]
      exact TermC.mk ho hn (BytesV.le (hl.trans h1) hb7) h3
theorem pNorm {B : Nat} (hS : SortsAt Tryz.prog 80 66 32 B) (hBm : B ≤ maxKids) : ∀ (t : T), slim B t → ∀ {σ : Hp} {cs : List Value} {w : World}, Imm σ w → TermC σ cs t → Calls Tryz.prog 48 #[.agg cs.toArray] w (GiveR (RepT (norm t)) σ w) := by
  intro t
  induction t using T.ind with
  | _ o n d ks ih =>
    intro hsl σ cs w hi ht
    obtain ⟨h1, h2⟩ := slim_mk.1 hsl
    rcases Nat.eq_zero_or_pos ks.length with h0 | h0
    · obtain rfl := List.eq_nil_of_length_eq_zero h0
      exact pNorm0 hi ht
    · exact pNormN hS hBm (fun k hk => ih k hk (h2 k hk)) h1 h0 hi ht
end Go.Proofs.YtnjomdjkbbhdoaaGreatDoor
namespace Go.Proofs.YtnjomdjkbbhdoaaGreatDoor
set_option linter.unusedVariables false
set_option maxRecDepth 100000
instance : PtrT Tryz.prog 25 80 := ⟨Tryz.underlying25, _, rfl⟩
instance : PtrT Tryz.prog 26 63 := ⟨Tryz.underlying26, _, rfl⟩
instance : PtrT Tryz.prog 84 89 := ⟨Tryz.underlying84, _, rfl⟩
instance : PtrT Tryz.prog 128 130 := ⟨Tryz.underlying128, _, rfl⟩
instance : BldT Tryz.prog 128 130 180 5 := ⟨Tryz.underlying128, Tryz.underlying180, ⟨_, rfl, of_decide_eq_true (by kernel_rfl)⟩, by kernel_rfl, by decide⟩
instance : ArrT Tryz.prog 141 4 := ⟨2, Tryz.underlying141, by kernel_rfl, Tryz.underlying2⟩
instance : PtrT Tryz.prog 148 5 := ⟨Tryz.underlying148, _, rfl⟩
instance : UStrT Tryz.prog 148 5 := ⟨Tryz.underlying148, by kernel_rfl⟩
instance : PtrT Tryz.prog 177 3 := ⟨Tryz.underlying177, _, rfl⟩
instance : PtrT Tryz.prog 188 173 := ⟨Tryz.underlying188, _, rfl⟩
instance : ByteZ Tryz.prog 5 := ⟨fun i h => by cases h; rfl⟩
instance : NoEscT Tryz.prog 152 := ⟨⟨_, Tryz.func152, by kernel_rfl, rfl, by kernel_rfl, by kernel_rfl⟩⟩
end Go.Proofs.YtnjomdjkbbhdoaaGreatDoor
namespace Go.Proofs
open Go.Shelf
def Tryz.laysM173_ren : Go.Shelf.Ren := ⟨fun | 173 => 116 | 246 => 140 | 283 => 153 | 284 => 154 | 285 => 155 | 286 => 156 | 129 => 136 | 317 => 160 | 318 => 161 | 319 => 162 | 320 => 163 | 337 => 164 | 338 => 165 | n => n, fun | 2 => 2 | 3 => 3 | 9 => 9 | 4 => 4 | 171 => 183 | 0 => 0 | 53 => 165 | 37 => 30 | 5 => 5 | 173 => 185 | 212 => 193 | 51 => 163 | 20 => 20 | 213 => 194 | 46 => 115 | 232 => 195 | 233 => 196 | n => n, fun | 17 => 1 | 18 => 2 | 19 => 3 | n => n⟩
theorem Tryz.laysM173 : Go.Proofs.LaysM.n173 Tryz.prog Tryz.laysM173_ren := {
  mixed := by kernel_rfl
  f129 := Tryz.func136.trans (congrArg some (by kernel_rfl))
  f173 := Tryz.func116.trans (congrArg some (by kernel_rfl))
  f246 := Tryz.func140.trans (congrArg some (by kernel_rfl))
  f283 := Tryz.func153.trans (congrArg some (by kernel_rfl))
  f284 := Tryz.func154.trans (congrArg some (by kernel_rfl))
  f285 := Tryz.func155.trans (congrArg some (by kernel_rfl))
  f286 := Tryz.func156.trans (congrArg some (by kernel_rfl))
  f317 := Tryz.func160.trans (congrArg some (by kernel_rfl))
  f318 := Tryz.func161.trans (congrArg some (by kernel_rfl))
  f319 := Tryz.func162.trans (congrArg some (by kernel_rfl))
  f320 := Tryz.func163.trans (congrArg some (by kernel_rfl))
  f337 := Tryz.func164.trans (congrArg some (by kernel_rfl))
  f338 := Tryz.func165.trans (congrArg some (by kernel_rfl))
  t0 := Tryz.underlying0
  a0 := Tryz.isAgg0
  z0 := Tryz.sizeOf0
  v0 := Tryz.zeroValue0
  t2 := Tryz.underlying2
  a2 := Tryz.isAgg2
  z2 := Tryz.sizeOf2
  v2 := Tryz.zeroValue2
  t3 := Tryz.underlying3
  a3 := Tryz.isAgg3
  z3 := Tryz.sizeOf3
  v3 := Tryz.zeroValue3
  t4 := Tryz.underlying4
  a4 := Tryz.isAgg4
  z4 := Tryz.sizeOf4
  v4 := Tryz.zeroValue4
  t5 := Tryz.underlying5
  a5 := Tryz.isAgg5
  z5 := Tryz.sizeOf5
  v5 := Tryz.zeroValue5
  t9 := Tryz.underlying9
  a9 := Tryz.isAgg9
  z9 := Tryz.sizeOf9
  v9 := Tryz.zeroValue9
  t20 := Tryz.underlying20
  a20 := Tryz.isAgg20
  z20 := Tryz.sizeOf20
  v20 := Tryz.zeroValue20
  t37 := Tryz.underlying30
  a37 := Tryz.isAgg30
  z37 := Tryz.sizeOf30
  v37 := Tryz.zeroValue30
  t46 := Tryz.underlying115
  a46 := Tryz.isAgg115
  z46 := Tryz.sizeOf115
  v46 := Tryz.zeroValue115
  t51 := Tryz.underlying163
  a51 := Tryz.isAgg163
  z51 := Tryz.sizeOf163
  v51 := Tryz.zeroValue163
  t53 := Tryz.underlying165
  a53 := Tryz.isAgg165
  z53 := Tryz.sizeOf165
  v53 := Tryz.zeroValue165
  t171 := Tryz.underlying183
  a171 := Tryz.isAgg183
  z171 := Tryz.sizeOf183
  v171 := Tryz.zeroValue183
  t173 := Tryz.underlying185
  a173 := Tryz.isAgg185
  z173 := Tryz.sizeOf185
  v173 := Tryz.zeroValue185
  t212 := Tryz.underlying193
  a212 := Tryz.isAgg193
  z212 := Tryz.sizeOf193
  v212 := Tryz.zeroValue193
  t213 := Tryz.underlying194
  a213 := Tryz.isAgg194
  z213 := Tryz.sizeOf194
  t232 := Tryz.underlying195
  a232 := Tryz.isAgg195
  z232 := Tryz.sizeOf195
  v232 := Tryz.zeroValue195
  t233 := Tryz.underlying196
  a233 := Tryz.isAgg196
  z233 := Tryz.sizeOf196
  v233 := Tryz.zeroValue196
  g17 := by kernel_rfl
  g18 := by kernel_rfl
  g19 := by kernel_rfl
  i0 := by kernel_rfl
  i2 := by kernel_rfl
  i3 := by kernel_rfl
  i4 := by kernel_rfl
  i5 := by kernel_rfl
  i9 := by kernel_rfl
  i20 := by kernel_rfl
  i37 := by kernel_rfl
  i46 := by kernel_rfl
  i51 := by kernel_rfl
  i53 := by kernel_rfl
  i171 := by kernel_rfl
  i173 := by kernel_rfl
  i212 := by kernel_rfl
  i232 := by kernel_rfl
  i233 := by kernel_rfl
  m17 := by kernel_rfl
  m18 := by kernel_rfl
  m19 := by kernel_rfl }
open Go.RowKit Go.Sort Go.Lib in
theorem Tryz.strconv_FormatInt_10 (n : Int) (h0 : -9223372036854775808 ≤ n) (h1 : n ≤ 9223372036854775807) (w : World) (htab : Lib.TabIs Tryz.prog w "internal/strconv.uint64pow10" .u64 Lib.pow10Tab) :
    Calls Tryz.prog 116 #[.int .i64 n, .int .i64 10] w fun e w' => e = .returned (.string ⟨(Lib.itoa n).toArray⟩) ∧ ∃ k os, w' = grow (w.drewN k) os := Any.strconv_FormatInt_10 Tryz.laysM173 n h0 h1 w htab
def Tryz.laysNm220_ren : Go.Shelf.Ren := ⟨fun | 20 => 84 | n => n, fun | 22 => 23 | 3 => 3 | 4 => 4 | 0 => 0 | n => n, fun | n => n⟩
theorem Tryz.laysNm220 : Go.Proofs.Lays2.n20 Tryz.prog Tryz.laysNm220_ren := {
  mixed := by kernel_rfl
  f20 := Tryz.func84.trans (congrArg some (by kernel_rfl))
  t0 := Tryz.underlying0
  a0 := Tryz.isAgg0
  z0 := Tryz.sizeOf0
  v0 := Tryz.zeroValue0
  t3 := Tryz.underlying3
  a3 := Tryz.isAgg3
  z3 := Tryz.sizeOf3
  v3 := Tryz.zeroValue3
  t4 := Tryz.underlying4
  a4 := Tryz.isAgg4
  z4 := Tryz.sizeOf4
  v4 := Tryz.zeroValue4
  t22 := Tryz.underlying23
  a22 := Tryz.isAgg23
  z22 := Tryz.sizeOf23
  v22 := Tryz.zeroValue23
  i3 := by kernel_rfl }
open Go.RowKit Go.Lib Go.Sort in
theorem Tryz.slices_Compact_int (blk off cap : Nat) (zs : List Int) (w : World) (hH : Holds (Value.int .i64) w blk off zs.toArray) (hsz : zs.length ≤ 9223372036854775807) (hcap : zs.length ≤ cap) :
    Calls Tryz.prog 84 #[.slice (some ⟨blk, off, none⟩) zs.length cap] w fun e w' => e = .returned (.slice (some ⟨blk, off, none⟩) (Lib.compact zs).length cap) ∧ ∃ q, w' = putRow (Value.int .i64) (Sort.ahead w q) blk off (Lib.compact zs ++ List.replicate (zs.length - (Lib.compact zs).length) 0).toArray := Any.slices_Compact_int Tryz.laysNm220 blk off cap zs w hH hsz hcap
open Go.RowKit Go.Lib Go.Sort in
theorem Tryz.slices_Compact_int_empty (a : Option Addr) (cap : Nat) (w : World) :
    Calls Tryz.prog 84 #[.slice a 0 cap] w fun e w' => e = .returned (.slice a 0 cap) ∧ w' = w := Any.slices_Compact_int_empty Tryz.laysNm220 a cap w
def Tryz.laysNm223_ren : Go.Shelf.Ren := ⟨fun | 23 => 151 | n => n, fun | 22 => 23 | 3 => 3 | 4 => 4 | 0 => 0 | n => n, fun | n => n⟩
theorem Tryz.laysNm223 : Go.Proofs.Lays2.n23 Tryz.prog Tryz.laysNm223_ren := {
  mixed := by kernel_rfl
  f23 := Tryz.func151.trans (congrArg some (by kernel_rfl))
  t0 := Tryz.underlying0
  a0 := Tryz.isAgg0
  z0 := Tryz.sizeOf0
  v0 := Tryz.zeroValue0
  t3 := Tryz.underlying3
  a3 := Tryz.isAgg3
  z3 := Tryz.sizeOf3
  v3 := Tryz.zeroValue3
  t4 := Tryz.underlying4
  a4 := Tryz.isAgg4
  z4 := Tryz.sizeOf4
  v4 := Tryz.zeroValue4
  t22 := Tryz.underlying23
  a22 := Tryz.isAgg23
  z22 := Tryz.sizeOf23
  v22 := Tryz.zeroValue23
  i3 := by kernel_rfl }
open Go.RowKit Go.Lib Go.Sort in
theorem Tryz.slices_Delete_int (blk off cap i j : Nat) (zs : List Int) (w : World) (hH : Holds (Value.int .i64) w blk off zs.toArray) (hcap : zs.length ≤ cap) (hm : cap ≤ 9223372036854775807) (hij : i ≤ j) (hj : j ≤ zs.length) :
    Calls Tryz.prog 151 #[.slice (some ⟨blk, off, none⟩) zs.length cap, .int .i64 i, .int .i64 j] w fun e w' => e = .returned (.slice (some ⟨blk, off, none⟩) (zs.length - (j - i)) cap) ∧ ∃ q, w' = putRow (Value.int .i64) (Sort.ahead w q) blk off (zs.take i ++ zs.drop j ++ List.replicate (j - i) 0).toArray := Any.slices_Delete_int Tryz.laysNm223 blk off cap i j zs w hH hcap hm hij hj
def Tryz.laysSlM5_f83_ren : Go.Shelf.Ren := ⟨fun | 5 => 83 | 8 => 106 | 7 => 105 | 19 => 135 | 20 => 136 | 10 => 126 | 11 => 127 | 12 => 128 | 13 => 129 | 14 => 130 | 15 => 131 | 16 => 132 | 17 => 133 | 18 => 134 | 30 => 144 | 31 => 145 | 32 => 146 | 33 => 147 | 34 => 148 | 35 => 149 | 40 => 159 | n => n, fun | 23 => 23 | 25 => 3 | 3 => 3 | 32 => 115 | 22 => 23 | 0 => 0 | 44 => 163 | 46 => 165 | 4 => 4 | 36 => 156 | 35 => 155 | 41 => 70 | 5 => 5 | 9 => 9 | 53 => 173 | 57 => 177 | 63 => 188 | 64 => 189 | n => n, fun | n => n⟩
theorem Tryz.laysSlM5_f83 : Go.Proofs.SlLaysM.n5 Tryz.prog Tryz.laysSlM5_f83_ren := {
  mixed := by kernel_rfl
  f5 := ⟨Tryz.f83.name, by decide, Tryz.func83.trans (congrArg some (by kernel_rfl))⟩
  f7 := ⟨Tryz.f105.name, by decide, Tryz.func105.trans (congrArg some (by kernel_rfl))⟩
  f8 := Tryz.func106.trans (congrArg some (by kernel_rfl))
  f10 := ⟨Tryz.f126.name, by decide, Tryz.func126.trans (congrArg some (by kernel_rfl))⟩
  f11 := ⟨Tryz.f127.name, by decide, Tryz.func127.trans (congrArg some (by kernel_rfl))⟩
  f12 := ⟨Tryz.f128.name, by decide, Tryz.func128.trans (congrArg some (by kernel_rfl))⟩
  f13 := ⟨Tryz.f129.name, by decide, Tryz.func129.trans (congrArg some (by kernel_rfl))⟩
  f14 := ⟨Tryz.f130.name, by decide, Tryz.func130.trans (congrArg some (by kernel_rfl))⟩
  f15 := ⟨Tryz.f131.name, by decide, Tryz.func131.trans (congrArg some (by kernel_rfl))⟩
  f16 := ⟨Tryz.f132.name, by decide, Tryz.func132.trans (congrArg some (by kernel_rfl))⟩
  f17 := ⟨Tryz.f133.name, by decide, Tryz.func133.trans (congrArg some (by kernel_rfl))⟩
  f18 := ⟨Tryz.f134.name, by decide, Tryz.func134.trans (congrArg some (by kernel_rfl))⟩
  f19 := Tryz.func135.trans (congrArg some (by kernel_rfl))
  f20 := Tryz.func136.trans (congrArg some (by kernel_rfl))
  f30 := ⟨Tryz.f144.name, by decide, Tryz.func144.trans (congrArg some (by kernel_rfl))⟩
  f31 := Tryz.func145.trans (congrArg some (by kernel_rfl))
  f32 := Tryz.func146.trans (congrArg some (by kernel_rfl))
  f33 := ⟨Tryz.f147.name, by decide, Tryz.func147.trans (congrArg some (by kernel_rfl))⟩
  f34 := ⟨Tryz.f148.name, by decide, Tryz.func148.trans (congrArg some (by kernel_rfl))⟩
  f35 := ⟨Tryz.f149.name, by decide, Tryz.func149.trans (congrArg some (by kernel_rfl))⟩
  f40 := ⟨Tryz.f159.name, by decide, Tryz.func159.trans (congrArg some (by kernel_rfl))⟩
  t0 := Tryz.underlying0
  a0 := Tryz.isAgg0
  z0 := Tryz.sizeOf0
  v0 := Tryz.zeroValue0
  t3 := Tryz.underlying3
  a3 := Tryz.isAgg3
  z3 := Tryz.sizeOf3
  v3 := Tryz.zeroValue3
  t4 := Tryz.underlying4
  a4 := Tryz.isAgg4
  z4 := Tryz.sizeOf4
  v4 := Tryz.zeroValue4
  t5 := Tryz.underlying5
  a5 := Tryz.isAgg5
  z5 := Tryz.sizeOf5
  v5 := Tryz.zeroValue5
  t9 := Tryz.underlying9
  a9 := Tryz.isAgg9
  z9 := Tryz.sizeOf9
  v9 := Tryz.zeroValue9
  t22 := Tryz.underlying23
  a22 := Tryz.isAgg23
  z22 := Tryz.sizeOf23
  v22 := Tryz.zeroValue23
  t23 := Tryz.underlying23
  a23 := Tryz.isAgg23
  z23 := Tryz.sizeOf23
  v23 := Tryz.zeroValue23
  t25 := Tryz.underlying3
  a25 := Tryz.isAgg3
  z25 := Tryz.sizeOf3
  v25 := Tryz.zeroValue3
  t32 := Tryz.underlying115
  a32 := Tryz.isAgg115
  z32 := Tryz.sizeOf115
  v32 := Tryz.zeroValue115
  t35 := Tryz.underlying155
  a35 := Tryz.isAgg155
  z35 := Tryz.sizeOf155
  v35 := Tryz.zeroValue155
  t36 := Tryz.underlying156
  a36 := Tryz.isAgg156
  z36 := Tryz.sizeOf156
  v36 := Tryz.zeroValue156
  t41 := Tryz.underlying70
  a41 := Tryz.isAgg70
  z41 := Tryz.sizeOf70
  v41 := Tryz.zeroValue70
  t44 := Tryz.underlying163
  a44 := Tryz.isAgg163
  z44 := Tryz.sizeOf163
  v44 := Tryz.zeroValue163
  t46 := Tryz.underlying165
  a46 := Tryz.isAgg165
  z46 := Tryz.sizeOf165
  v46 := Tryz.zeroValue165
  t53 := Tryz.underlying173
  a53 := Tryz.isAgg173
  z53 := Tryz.sizeOf173
  v53 := Tryz.zeroValue173
  t57 := Tryz.underlying177
  a57 := Tryz.isAgg177
  z57 := Tryz.sizeOf177
  v57 := Tryz.zeroValue177
  t63 := Tryz.underlying188
  a63 := Tryz.isAgg188
  z63 := Tryz.sizeOf188
  v63 := Tryz.zeroValue188
  t64 := Tryz.underlying189
  a64 := Tryz.isAgg189
  z64 := Tryz.sizeOf189
  v64 := Tryz.zeroValue189 }
open Go.Sort Go.RowKit in
theorem Tryz.slices_Sort_int (blk off cap : Nat) (zs : List Int) (w : World) (hH : Holds (Value.int .i64) w blk off zs.toArray) (hblk : blk < w.heap.size) (hsz : zs.length < 4611686018427387904) :
    Calls Tryz.prog 83 #[.slice (some ⟨blk, off, none⟩) zs.length cap] w fun e w' =>
      e = .returned (.tuple #[]) ∧ ∃ n os, w' = grow (putRow (Value.int .i64) (Sort.ahead w n) blk off (zs.mergeSort fun x y => decide (x ≤ y)).toArray) os := AnyM.slices_Sort_int Tryz.laysSlM5_f83 blk off cap zs w hH hblk hsz
open Go.RowKit Go.Sort in
theorem Tryz.slices_Sort_int_none (p : Option Addr) (cap : Nat) (w : World) :
    Calls Tryz.prog 83 #[.slice p 0 cap] w fun e w' => e = .returned (.tuple #[]) ∧ w' = w := AnyM.slices_Sort_int_none Tryz.laysSlM5_f83 p cap w
end Go.Proofs
namespace Go.Proofs.YtnjomdjkbbhdoaaGreatDoor
open Go.RowKit
set_option linter.unusedVariables false
set_option linter.unusedSimpArgs false
set_option maxRecDepth 100000
theorem pFormatInt {n : Int} (h0 : -9223372036854775808 ≤ n ∧ n ≤ 9223372036854775807) {σ : Hp} {w : World} (hi : Imm σ w) (ht : TabC Tryz.prog σ) : Calls Tryz.prog 116 #[.int .i64 n, .int .i64 10] w fun e w' => e = .returned (.string (strOf (Lib.itoa n))) ∧ Below w.heap.size w w' :=
  (Tryz.strconv_FormatInt_10 n h0.1 h0.2 w (ht.is hi)).mono fun e w' ⟨he, k, os, hw⟩ => by subst hw; exact ⟨he, below_sgrow w k os⟩
set_option maxHeartbeats 400000 in
theorem pCopy0 {b : Nat} {sv : Value} {Gs : List (Nat × Obj)} {σ : Hp} {w : World} (hi : Has σ ((b, .cells #[.pointer none, sv] 130) :: Gs) w) : Calls Tryz.prog 139 #[.pointer (some ⟨b, 0, none⟩)] w (GiveK (fun _ u K' => u = .tuple #[] ∧ K' = (b, .cells #[.pointer (some ⟨b, 0, none⟩), sv] 130) :: Gs) σ ((b, .cells #[.pointer none, sv] 130) :: Gs) w) := by
  refine enter (St w (keysOf ((b, .cells #[.pointer none, sv] 130) :: Gs)) σ [] ((b, .cells #[.pointer none, sv] 130) :: Gs)) Tryz.func139 rfl Tryz.ntmps139 rfl (Has.start hi) ?_
  refine cw_seq ?_
  refine cw_region ?_
  refine ow_val rfl rfl (ex_move rfl) ?_
  refine ow_val rfl rfl (ex_nilck rfl) ?_
  refine ow_val rfl rfl (ex_field rfl) ?_
  refine ow_val rfl rfl (ex_load1 rfl (by first | exact ld_own1 0 rfl rfl | exact ld_own1 1 rfl rfl | exact ld_own1 2 rfl rfl | exact ld_own1 3 rfl rfl | exact ld_own1 4 rfl rfl | exact ld_own1 5 rfl rfl | exact ld_own1 6 rfl rfl | exact ld_own1 7 rfl rfl | exact ld_ownG1 0 rfl rfl | exact ld_ownG1 1 rfl rfl | exact ld_imm1 (by assumption))) ?_
  refine ow_val rfl rfl (ex_ptrnil rfl) ?_
  refine ow_nil ?_
  refine qw_seq ?_
  refine cw_cond rfl (fun c6 => ?_) (fun c6 => ?_)
  ·
    refine cw_region ?_
    refine ow_val rfl rfl (ex_move rfl) ?_
    refine ow_val rfl rfl (ex_move rfl) ?_
    refine ow_val rfl rfl (ex_tounsafe (te := 5) (tb := 130) inferInstance rfl (fun w h => h.ownG (p := (b, _)) List.mem_cons_self)) ?_
    refine ow_val rfl rfl (ex_noesc rfl) ?_
    refine ow_val rfl rfl (ex_fromunsafe (te := 5) (tb := 130) inferInstance rfl (fun w h => h.ownG (p := (b, _)) List.mem_cons_self)) ?_
    refine ow_val rfl rfl (ex_nilck rfl) ?_
    refine ow_val rfl rfl (ex_field rfl) ?_
    refine ow_u rfl (exu_storeG1 0 rfl rfl rfl rfl rfl rfl) ?_
    refine ow_nil ?_
    refine qw_end0 rfl (fun w' h => h.givesK (Le.refl _) (Fresh.refl _ _) ⟨rfl, rfl⟩)
  ·
    simp at c6
set_option maxHeartbeats 400000 in
theorem pCopy1 {b : Nat} {sv : Value} {Gs : List (Nat × Obj)} {σ : Hp} {w : World} (hi : Has σ ((b, .cells #[.pointer (some ⟨b, 0, none⟩), sv] 130) :: Gs) w) : Calls Tryz.prog 139 #[.pointer (some ⟨b, 0, none⟩)] w (GiveK (fun _ u K' => u = .tuple #[] ∧ K' = (b, .cells #[.pointer (some ⟨b, 0, none⟩), sv] 130) :: Gs) σ ((b, .cells #[.pointer (some ⟨b, 0, none⟩), sv] 130) :: Gs) w) := by
  refine enter (St w (keysOf ((b, .cells #[.pointer (some ⟨b, 0, none⟩), sv] 130) :: Gs)) σ [] ((b, .cells #[.pointer (some ⟨b, 0, none⟩), sv] 130) :: Gs)) Tryz.func139 rfl Tryz.ntmps139 rfl (Has.start hi) ?_
  refine cw_seq ?_
  refine cw_region ?_
  refine ow_val rfl rfl (ex_move rfl) ?_
  refine ow_val rfl rfl (ex_nilck rfl) ?_
  refine ow_val rfl rfl (ex_field rfl) ?_
  refine ow_val rfl rfl (ex_load1 rfl (by first | exact ld_own1 0 rfl rfl | exact ld_own1 1 rfl rfl | exact ld_own1 2 rfl rfl | exact ld_own1 3 rfl rfl | exact ld_own1 4 rfl rfl | exact ld_own1 5 rfl rfl | exact ld_own1 6 rfl rfl | exact ld_own1 7 rfl rfl | exact ld_ownG1 0 rfl rfl | exact ld_ownG1 1 rfl rfl | exact ld_imm1 (by assumption))) ?_
  refine ow_val rfl rfl (ex_ptrnil rfl) ?_
  refine ow_nil ?_
  refine qw_seq ?_
  refine cw_cond rfl (fun c6 => ?_) (fun c6 => ?_)
  ·
    simp at c6
  ·
    refine cw_seq ?_
    refine cw_region ?_
    refine ow_val rfl rfl (ex_move rfl) ?_
    refine ow_val rfl rfl (ex_nilck rfl) ?_
    refine ow_val rfl rfl (ex_field rfl) ?_
    refine ow_val rfl rfl (ex_load1 rfl (by first | exact ld_own1 0 rfl rfl | exact ld_own1 1 rfl rfl | exact ld_own1 2 rfl rfl | exact ld_own1 3 rfl rfl | exact ld_own1 4 rfl rfl | exact ld_own1 5 rfl rfl | exact ld_own1 6 rfl rfl | exact ld_own1 7 rfl rfl | exact ld_ownG1 0 rfl rfl | exact ld_ownG1 1 rfl rfl | exact ld_imm1 (by assumption))) ?_
    refine ow_val rfl rfl (ex_move rfl) ?_
    refine ow_val rfl rfl (ex_ptrself rfl rfl) ?_
    refine ow_nil ?_
    refine qw_seq ?_
    refine cw_cond rfl (fun c19 => ?_) (fun c19 => ?_)
    ·
      cases c19
    ·
      refine cw_skip ?_
      refine qw_end0 rfl (fun w' h => h.givesK (Le.refl _) (Fresh.refl _ _) ⟨rfl, rfl⟩)
theorem pCopyCheck {b : Nat} {p sv : Value} {Gs : List (Nat × Obj)} {σ : Hp} {w : World} (hi : Has σ ((b, .cells #[p, sv] 130) :: Gs) w) (hp : p = .pointer none ∨ p = .pointer (some ⟨b, 0, none⟩)) : Calls Tryz.prog 139 #[.pointer (some ⟨b, 0, none⟩)] w (GiveK (fun _ u K' => u = .tuple #[] ∧ K' = (b, .cells #[.pointer (some ⟨b, 0, none⟩), sv] 130) :: Gs) σ ((b, .cells #[p, sv] 130) :: Gs) w) := by
  rcases hp with rfl | rfl
  · exact pCopy0 hi
  · exact pCopy1 hi
set_option maxHeartbeats 400000 in
theorem pWriteString {b : Nat} {bs s : List UInt8} {σ : Hp} {K : List (Nat × Obj)} {w : World} (hi : Has σ K w) (hb : BldK 130 5 b bs σ K) (hl : bs.length + s.length ≤ 140737488355328) : Calls Tryz.prog 115 #[.pointer (some ⟨b, 0, none⟩), .string (strOf s)] w (GiveK (fun σ' u K' => BldK 130 5 b (bs ++ s) σ' K') σ K w) := by
  obtain ⟨p, sv, Gs, rfl, hp, hO⟩ := hb
  refine enter (St w (keysOf ((b, .cells #[p, sv] 130) :: Gs)) σ [] ((b, .cells #[p, sv] 130) :: Gs)) Tryz.func115 rfl Tryz.ntmps115 rfl (Has.start hi) ?_
  refine cw_seq ?_
  refine cw_region ?_
  refine ow_val rfl rfl (ex_assign rfl) ?_
  refine ow_val rfl rfl (ex_assign rfl) ?_
  refine ow_nil ?_
  refine qw_seq ?_
  refine cw_seq ?_
  refine cw_region ?_
  refine ow_val rfl rfl (ex_move rfl) ?_
  refine ow_ckE rfl rfl (ex_callf rfl (fun w h => pCopyCheck h.hasE hp)) (fun v7 σ7 K7 hl7 hf7 hr7 => ?_)
  obtain ⟨rfl, rfl⟩ := hr7
  refine ow_nil ?_
  refine qw_seq ?_
  refine cw_seq ?_
  refine cw_region ?_
  refine ow_val rfl rfl (ex_move rfl) ?_
  refine ow_val rfl rfl (ex_move rfl) ?_
  refine ow_val rfl rfl (ex_nilck rfl) ?_
  refine ow_val rfl rfl (ex_field rfl) ?_
  refine ow_val rfl rfl (ex_load1 rfl (by first | exact ld_own1 0 rfl rfl | exact ld_own1 1 rfl rfl | exact ld_own1 2 rfl rfl | exact ld_own1 3 rfl rfl | exact ld_own1 4 rfl rfl | exact ld_own1 5 rfl rfl | exact ld_own1 6 rfl rfl | exact ld_own1 7 rfl rfl | exact ld_ownG1 0 rfl rfl | exact ld_ownG1 1 rfl rfl | exact ld_imm1 (by assumption))) ?_
  refine ow_val rfl rfl (ex_move rfl) ?_
  refine ow_mono (fun w h => h.ofG) ?_
  refine ow_appS1 rfl rfl rfl rfl hO hl (fun v14 G14 hO14 => ?_)
  refine ow_val rfl rfl (ex_nilck rfl) ?_
  refine ow_val rfl rfl (ex_field rfl) ?_
  refine ow_u rfl (exu_store1 0 rfl rfl rfl hO14.cell.1 hO14.cell.2 rfl) ?_
  refine ow_nil ?_
  refine qw_seq ?_
  refine cw_seq ?_
  refine cw_region ?_
  refine ow_val rfl rfl (ex_move rfl) ?_
  refine ow_val rfl rfl (ex_lenstr (ty := 0) rfl) ?_
  refine ow_val rfl rfl (ex_assign rfl) ?_
  refine ow_val rfl rfl (ex_assign rfl) ?_
  refine ow_nil ?_
  refine qw_seq ?_
  refine cw_ret ?_
  refine qw_ret2 rfl rfl rfl (fun w' h => (St.toG h).givesK hl7 hf7 ⟨_, _, _, rfl, .inr rfl, ?_⟩)
  rw [List.length_append, List.map_append]
  exact hO14
set_option maxHeartbeats 400000 in
theorem pWriteBytes {b : Nat} {bs s : List UInt8} {v : Value} {σ : Hp} {K : List (Nat × Obj)} {w : World} (hi : Has σ K w) (hb : BldK 130 5 b bs σ K) (hv : BytesV σ v s) (hl : bs.length + s.length ≤ 140737488355328) : Calls Tryz.prog 117 #[.pointer (some ⟨b, 0, none⟩), v] w (GiveK (fun σ' u K' => BldK 130 5 b (bs ++ s) σ' K') σ K w) := by
  obtain ⟨p, sv, Gs, rfl, hp, hO⟩ := hb
  obtain ⟨q, c, rfl, hc, hm, hsrc⟩ := hv.row
  have hml : (140737488355328 : Nat) ≤ maxLen := by unfold maxLen; omega
  refine enter (St w (keysOf ((b, .cells #[p, sv] 130) :: Gs)) σ [] ((b, .cells #[p, sv] 130) :: Gs)) Tryz.func117 rfl Tryz.ntmps117 rfl (Has.start hi) ?_
  refine cw_seq ?_
  refine cw_region ?_
  refine ow_val rfl rfl (ex_assign rfl) ?_
  refine ow_val rfl rfl (ex_assign rfl) ?_
  refine ow_nil ?_
  refine qw_seq ?_
  refine cw_seq ?_
  refine cw_region ?_
  refine ow_val rfl rfl (ex_move rfl) ?_
  refine ow_ckE rfl rfl (ex_callf rfl (fun w h => pCopyCheck h.hasE hp)) (fun v7 σ7 K7 hl7 hf7 hr7 => ?_)
  obtain ⟨rfl, rfl⟩ := hr7
  refine ow_nil ?_
  refine qw_seq ?_
  refine cw_seq ?_
  refine cw_region ?_
  refine ow_val rfl rfl (ex_move rfl) ?_
  refine ow_val rfl rfl (ex_move rfl) ?_
  refine ow_val rfl rfl (ex_nilck rfl) ?_
  refine ow_val rfl rfl (ex_field rfl) ?_
  refine ow_val rfl rfl (ex_load1 rfl (by first | exact ld_own1 0 rfl rfl | exact ld_own1 1 rfl rfl | exact ld_own1 2 rfl rfl | exact ld_own1 3 rfl rfl | exact ld_own1 4 rfl rfl | exact ld_own1 5 rfl rfl | exact ld_own1 6 rfl rfl | exact ld_own1 7 rfl rfl | exact ld_ownG1 0 rfl rfl | exact ld_ownG1 1 rfl rfl | exact ld_imm1 (by assumption))) ?_
  refine ow_val rfl rfl (ex_move rfl) ?_
  refine ow_mono (fun w h => h.ofG) ?_
  refine ow_app1 rfl rfl (exw_append1 (news := s.map byteV) rfl rfl hO (by simp) (hsrc.imp id fun ⟨b, f, hp, hca⟩ => ⟨b, f, hp, fun w h => (hca.le hl7).range h.im⟩) (bytes_one s) (by omega) (by omega)) (fun v14 G14 hO14 hz14 => ?_)
  refine ow_val rfl rfl (ex_nilck rfl) ?_
  refine ow_val rfl rfl (ex_field rfl) ?_
  refine ow_u rfl (exu_store1 0 rfl rfl rfl hO14.cell.1 hO14.cell.2 rfl) ?_
  refine ow_nil ?_
  refine qw_seq ?_
  refine cw_seq ?_
  refine cw_region ?_
  refine ow_val rfl rfl (ex_move rfl) ?_
  refine ow_val rfl rfl (ex_len (ty := 0) rfl) ?_
  refine ow_val rfl rfl (ex_assign rfl) ?_
  refine ow_val rfl rfl (ex_assign rfl) ?_
  refine ow_nil ?_
  refine qw_seq ?_
  refine cw_ret ?_
  refine qw_ret2 rfl rfl rfl (fun w' h => (St.toG h).givesK hl7 hf7 ⟨_, _, _, rfl, .inr rfl, ?_⟩)
  rw [List.length_append, List.map_append]
  exact hO14
set_option maxHeartbeats 400000 in
theorem pBldString {b : Nat} {bs : List UInt8} {σ : Hp} {K : List (Nat × Obj)} {w : World} (hi : Has σ K w) (hb : BldK 130 5 b bs σ K) (hne : bs ≠ []) (hl : bs.length ≤ 140737488355328) : Calls Tryz.prog 100 #[.pointer (some ⟨b, 0, none⟩)] w (GiveK (fun σ' u K' => u = .string (strOf bs) ∧ K' = []) σ K w) := by
  obtain ⟨p, sv, Gs, rfl, hp, hO⟩ := hb
  have hpos : 0 < bs.length := List.length_pos_iff.2 hne
  obtain ⟨g, c, tl, rfl, rfl, hnc, hcm, hlen⟩ := hO.open hpos
  refine enter (St w (keysOf [(b, .cells #[p, .slice (some ⟨g, 0, none⟩) bs.length c] 130), (g, rowO (bs.map byteV) tl 5)]) σ [] [(b, .cells #[p, .slice (some ⟨g, 0, none⟩) bs.length c] 130), (g, rowO (bs.map byteV) tl 5)]) Tryz.func100 rfl Tryz.ntmps100 rfl (Has.start hi) ?_
  refine cw_seq ?_
  refine cw_region ?_
  refine ow_val rfl rfl (ex_assign rfl) ?_
  refine ow_nil ?_
  refine qw_seq ?_
  refine cw_seq ?_
  refine flow_sound 10 (by kernel_rfl) ?_
  refine flow_val rfl (ex_move rfl) ?_
  refine flow_val rfl (ex_nilck rfl) ?_
  refine flow_val rfl (ex_field rfl) ?_
  refine flow_val rfl (ex_load1 rfl (by first | exact ld_own1 0 rfl rfl | exact ld_own1 1 rfl rfl | exact ld_own1 2 rfl rfl | exact ld_own1 3 rfl rfl | exact ld_own1 4 rfl rfl | exact ld_own1 5 rfl rfl | exact ld_own1 6 rfl rfl | exact ld_own1 7 rfl rfl | exact ld_ownG1 0 rfl rfl | exact ld_ownG1 1 rfl rfl | exact ld_imm1 (by assumption))) ?_
  refine flow_val rfl (ex_sldata rfl (by omega)) ?_
  refine flow_val rfl (ex_move rfl) ?_
  refine flow_val rfl (ex_nilck rfl) ?_
  refine flow_val rfl (ex_field rfl) ?_
  refine flow_val rfl (ex_load1 rfl (by first | exact ld_own1 0 rfl rfl | exact ld_own1 1 rfl rfl | exact ld_own1 2 rfl rfl | exact ld_own1 3 rfl rfl | exact ld_own1 4 rfl rfl | exact ld_own1 5 rfl rfl | exact ld_own1 6 rfl rfl | exact ld_own1 7 rfl rfl | exact ld_ownG1 0 rfl rfl | exact ld_ownG1 1 rfl rfl | exact ld_imm1 (by assumption))) ?_
  refine flow_val rfl (ex_len (ty := 0) rfl) ?_
  refine flow_nil ?_
  refine fin_is ?_
  refine fin_is ?_
  refine fin_is ?_
  refine fin_is ?_
  refine fin_is ?_
  refine fin_is ?_
  refine fin_is ?_
  refine fin_is ?_
  refine fin_is ?_
  refine fin_is ?_
  refine fin_nil ?_
  refine ow_mono (fun w h => h.permG (List.Perm.swap _ _ _)) ?_
  refine ow_ustr (arr := (bs.map byteV ++ tl).toArray) rfl rfl rfl rfl hne (by simp) (by omega) (by simp) ?_
  refine ow_val rfl rfl (ex_assign rfl) ?_
  refine ow_nil ?_
  refine qw_seq ?_
  refine cw_ret ?_
  refine qw_ret1 rfl rfl (fun w' h => (h.dropG (List.nil_sublist _)).givesK (Le.refl _) (Fresh.refl _ _) ⟨rfl, rfl⟩)
set_option maxHeartbeats 400000 in
theorem pWrite : ∀ (t : T) {b : Nat} {bs : List UInt8} {ct : List Value} {σ : Hp} {K : List (Nat × Obj)} {w : World}, Has σ K w → TabC Tryz.prog σ → BldK 130 5 b bs σ K → TermC σ ct t → bs.length + (keyB t).length ≤ 140737488355328 → Calls Tryz.prog 99 #[.pointer (some ⟨b, 0, none⟩), .agg ct.toArray] w (GiveK (fun σ' u K' => BldK 130 5 b (bs ++ keyB t) σ' K') σ K w) := by
  intro t
  induction t using T.ind with
  | _ o n d ks ih =>
  intro b bs ct σ K w hi htab hb ht hlim
  obtain ⟨dv, kv, rfl, ho, hn, hd, hk⟩ := ht.opn
  simp only [T.kids, T.op, T.num, T.data] at *
  obtain ⟨p, c, rfl, hc, hm⟩ := hk.slice
  obtain ⟨pd, cd, rfl, hcd, hmd⟩ := hd.slice
  have hm2 := hm
  have hmd2 := hmd
  unfold maxKids at hm2
  unfold maxData at hmd2
  rw [keyB_mk] at hlim
  simp only [List.length_append] at hlim
  have hzs : ∀ z ∈ [o, n, (d.length : Int), (ks.length : Int)], -9223372036854775808 ≤ z ∧ z ≤ 9223372036854775807 := by
    intro z hz
    simp only [List.mem_cons, List.not_mem_nil, or_false] at hz
    rcases hz with rfl | rfl | rfl | rfl <;> omega
  have hhd := hdrB_head o n d.length ks.length
  have hhl : (hdrB [o, n, (d.length : Int), (ks.length : Int)]).length = (headB o n d.length ks.length).length := by rw [hhd]
  refine enter (St w (keysOf K) σ [] K) Tryz.func99 rfl Tryz.ntmps99 rfl (Has.start hi) ?_
  refine cw_seq ?_
  refine cw_region ?_
  refine ow_blk rfl rfl (exw_box rfl) ?_; intro b3
  refine ow_nil ?_
  refine qw_seq ?_
  refine cw_seq ?_
  refine cw_seq ?_
  refine cw_region ?_
  refine ow_val rfl rfl (ex_field rfl) ?_
  refine ow_val rfl rfl (ex_load1 rfl (by first | exact ld_own1 0 rfl rfl | exact ld_own1 1 rfl rfl | exact ld_own1 2 rfl rfl | exact ld_own1 3 rfl rfl | exact ld_own1 4 rfl rfl | exact ld_own1 5 rfl rfl | exact ld_own1 6 rfl rfl | exact ld_own1 7 rfl rfl | exact ld_ownG1 0 rfl rfl | exact ld_ownG1 1 rfl rfl | exact ld_imm1 (by assumption))) ?_
  refine ow_val rfl rfl (ex_field rfl) ?_
  refine ow_val rfl rfl (ex_load1 rfl (by first | exact ld_own1 0 rfl rfl | exact ld_own1 1 rfl rfl | exact ld_own1 2 rfl rfl | exact ld_own1 3 rfl rfl | exact ld_own1 4 rfl rfl | exact ld_own1 5 rfl rfl | exact ld_own1 6 rfl rfl | exact ld_own1 7 rfl rfl | exact ld_ownG1 0 rfl rfl | exact ld_ownG1 1 rfl rfl | exact ld_imm1 (by assumption))) ?_
  refine ow_val rfl rfl (ex_field rfl) ?_
  refine ow_val rfl rfl (ex_load1 rfl (by first | exact ld_own1 0 rfl rfl | exact ld_own1 1 rfl rfl | exact ld_own1 2 rfl rfl | exact ld_own1 3 rfl rfl | exact ld_own1 4 rfl rfl | exact ld_own1 5 rfl rfl | exact ld_own1 6 rfl rfl | exact ld_own1 7 rfl rfl | exact ld_ownG1 0 rfl rfl | exact ld_ownG1 1 rfl rfl | exact ld_imm1 (by assumption))) ?_
  refine ow_val rfl rfl (ex_len (ty := 0) rfl) ?_
  refine ow_val rfl rfl (ex_field rfl) ?_
  refine ow_val rfl rfl (ex_load1 rfl (by first | exact ld_own1 0 rfl rfl | exact ld_own1 1 rfl rfl | exact ld_own1 2 rfl rfl | exact ld_own1 3 rfl rfl | exact ld_own1 4 rfl rfl | exact ld_own1 5 rfl rfl | exact ld_own1 6 rfl rfl | exact ld_own1 7 rfl rfl | exact ld_ownG1 0 rfl rfl | exact ld_ownG1 1 rfl rfl | exact ld_imm1 (by assumption))) ?_
  refine ow_val rfl rfl (ex_len (ty := 0) rfl) ?_
  refine ow_val rfl rfl (ex_build (parts := [(0, _), (1, _), (2, _), (3, _)]) (cells := (intsV [o, n, (d.length : Int), (ks.length : Int)]).toArray) rfl (by kernel_rfl)) ?_
  refine ow_val rfl rfl (ex_move rfl) ?_
  refine ow_nil ?_
  refine qw_seq ?_
  refine cw_block ?_
  refine cw_loop3 (fun (i : Nat) (τ : Hp) (K' : List (Nat × Obj)) => [(0, .pointer (some ⟨b, 0, none⟩)), (3, .pointer (some ⟨b3, 0, none⟩)), (18, .agg (intsV [o, n, (d.length : Int), (ks.length : Int)]).toArray), (19, .int .i64 (i : Int))]) (fun i τ K' => i ≤ 4 ∧ Le σ τ ∧ Fresh σ τ w ∧ BldK 130 5 b (bs ++ hdrB ([o, n, (d.length : Int), (ks.length : Int)].take i)) τ K') (fun i τ K' => τ) (fun i τ K' => K') (fun i _ _ => 4 - i) 0 σ K (subL_cons (lkv rfl (by first | rfl | simp)) (subL_cons (lkv rfl (by first | rfl | simp)) (subL_cons (lkv rfl (by first | rfl | simp)) (subL_cons (lkv rfl (by first | rfl | simp)) (subL_nil _))))) ⟨Nat.zero_le _, Le.refl _, Fresh.refl _ _, by simpa [hdrB] using hb⟩ (fun w h => h) ?_
  intro i τ K' ⟨hle, hlt, hft, hbk⟩
  refine cw_seq ?_
  refine cw_region ?_
  refine ow_val rfl rfl (ex_lss rfl rfl) ?_
  refine ow_nil ?_
  refine qw_seq ?_
  refine cw_seq ?_
  refine cw_cond rfl (fun c20 => ?_) (fun c20 => ?_)
  ·
    refine cw_skip ?_
    refine qw_seq ?_
    refine cw_seq ?_
    refine cw_block ?_
    refine cw_seq ?_
    have hlt4 : i < 4 := by have := of_decide_eq_true c20; omega
    have hz := hzs [o, n, (d.length : Int), (ks.length : Int)][i] (List.getElem_mem (by simp; omega))
    have hzl := itoa_len hz
    have hst := hdrB_take [o, n, (d.length : Int), (ks.length : Int)] i (by simp; omega)
    have hsl := hdrB_take_le [o, n, (d.length : Int), (ks.length : Int)] (i + 1)
    rw [hst] at hsl
    simp only [List.length_append, List.length_cons, List.length_nil] at hsl
    refine cw_region ?_
    refine ow_val rfl rfl (ex_arr rfl rfl (show i < [o, n, (d.length : Int), (ks.length : Int)].length by simp; omega) rfl) ?_
    refine ow_val rfl rfl (ex_assign rfl) ?_
    refine ow_nil ?_
    refine qw_seq ?_
    refine cw_region ?_
    refine ow_val rfl rfl (ex_move rfl) ?_
    refine ow_val rfl rfl (ex_move rfl) ?_
    refine ow_cv rfl rfl (ex_callf rfl (fun w h => callB ((pFormatInt hz h.im (htab.le hlt))))) ?_
    refine ow_val rfl rfl (ex_stradd (b := [44]) rfl rfl (by simp only [List.length_cons, List.length_nil]; omega)) ?_
    refine ow_ckE rfl rfl (ex_callf rfl (fun w h => pWriteString h.hasE hbk (by simp only [List.length_append, List.length_cons, List.length_nil]; omega))) (fun v26 τ26 K26 hl26 hf26 hr26 => ?_)
    refine ow_nil ?_
    refine qw_block_normal ?_
    refine qw_seq ?_
    refine cw_region ?_
    refine ow_val rfl rfl (ex_addi (z := ((i + 1 : Nat) : Int)) rfl rfl (by omega) (by omega) (by omega)) ?_
    refine ow_val rfl rfl (ex_move rfl) ?_
    refine ow_nil ?_
    refine qw_round3 (i + 1) τ26 K26 (by omega) (subL_cons (lkv rfl (by first | rfl | simp)) (subL_cons (lkv rfl (by first | rfl | simp)) (subL_cons (lkv rfl (by first | rfl | simp)) (subL_cons (lkv rfl (by first | rfl | simp)) (subL_nil _))))) ⟨by omega, hlt.trans hl26, hft.trans hf26, ?_⟩ (fun w h => h)
    rw [hst, ← List.append_assoc]
    exact hr26
  ·
    refine cw_exit ?_
    refine qw_then_exit ?_
    refine qw_then_exit ?_
    refine qw_block_exit ?_
    refine qw_seq ?_
    refine cw_seq ?_
    have he4 : i = 4 := by have := of_decide_eq_false c20; omega
    subst he4
    rw [show ([o, n, (d.length : Int), (ks.length : Int)].take 4) = [o, n, (d.length : Int), (ks.length : Int)] from rfl, hhd] at hbk
    refine cw_region ?_
    refine ow_val rfl rfl (ex_move rfl) ?_
    refine ow_val rfl rfl (ex_field rfl) ?_
    refine ow_val rfl rfl (ex_load1 rfl (by first | exact ld_own1 0 rfl rfl | exact ld_own1 1 rfl rfl | exact ld_own1 2 rfl rfl | exact ld_own1 3 rfl rfl | exact ld_own1 4 rfl rfl | exact ld_own1 5 rfl rfl | exact ld_own1 6 rfl rfl | exact ld_own1 7 rfl rfl | exact ld_ownG1 0 rfl rfl | exact ld_ownG1 1 rfl rfl | exact ld_imm1 (by assumption))) ?_
    refine ow_ckE rfl rfl (ex_callf rfl (fun w h => pWriteBytes h.hasE hbk (hd.le hlt) (by simp only [List.length_append]; omega))) (fun v31 τ31 K31 hl31 hf31 hr31 => ?_)
    refine ow_nil ?_
    refine qw_seq ?_
    refine cw_seq ?_
    refine cw_region ?_
    refine ow_val rfl rfl (ex_field rfl) ?_
    refine ow_val rfl rfl (ex_load1 rfl (by first | exact ld_own1 0 rfl rfl | exact ld_own1 1 rfl rfl | exact ld_own1 2 rfl rfl | exact ld_own1 3 rfl rfl | exact ld_own1 4 rfl rfl | exact ld_own1 5 rfl rfl | exact ld_own1 6 rfl rfl | exact ld_own1 7 rfl rfl | exact ld_ownG1 0 rfl rfl | exact ld_ownG1 1 rfl rfl | exact ld_imm1 (by assumption))) ?_
    refine ow_val rfl rfl (ex_len (ty := 0) rfl) ?_
    refine ow_val rfl rfl (ex_move rfl) ?_
    refine ow_nil ?_
    refine qw_seq ?_
    refine cw_block ?_
    refine cw_loop3 (fun (j : Nat) (τ : Hp) (K' : List (Nat × Obj)) => [(0, .pointer (some ⟨b, 0, none⟩)), (3, .pointer (some ⟨b3, 0, none⟩)), (33, .slice p ks.length c), (34, .int .i64 (ks.length : Int)), (35, .int .i64 (j : Int))]) (fun j τ K' => j ≤ ks.length ∧ Le σ τ ∧ Fresh σ τ w ∧ BldK 130 5 b (bs ++ headB o n d.length ks.length ++ d ++ keysB (ks.take j)) τ K') (fun i τ K' => τ) (fun i τ K' => K') (fun j _ _ => ks.length - j) 0 τ31 K31 (subL_cons (lkv rfl (by first | rfl | simp)) (subL_cons (lkv rfl (by first | rfl | simp)) (subL_cons (lkv rfl (by first | rfl | simp)) (subL_cons (lkv rfl (by first | rfl | simp)) (subL_cons (lkv rfl (by first | rfl | simp)) (subL_nil _)))))) ⟨Nat.zero_le _, hlt.trans hl31, hft.trans hf31, by simpa [keysB] using hr31⟩ (fun w h => h) ?_
    intro j τj Kj ⟨hlej, hlj, hfj, hbj⟩
    refine cw_seq ?_
    refine cw_region ?_
    refine ow_val rfl rfl (ex_lss rfl rfl) ?_
    refine ow_nil ?_
    refine qw_seq ?_
    refine cw_seq ?_
    refine cw_cond rfl (fun c36 => ?_) (fun c36 => ?_)
    ·
      refine cw_skip ?_
      refine qw_seq ?_
      refine cw_seq ?_
      refine cw_block ?_
      refine cw_seq ?_
      have hlt2 : j < ks.length := by simpa using c36
      obtain ⟨bk, f, c', cs, e1, e2, hc1, ht1⟩ := hk.get j hlt2
      cases e1
      have ht1' := ht1
      obtain ⟨d9, k9, rfl, _, _, _, _⟩ := ht1'.opn
      have hst := keysB_take ks j hlt2
      have hsl := keysB_take_le ks (j + 1)
      rw [hst, List.length_append] at hsl
      refine cw_region ?_
      refine ow_val rfl rfl (ex_index_nat rfl rfl (by omega)) ?_
      refine ow_val rfl rfl (ex_loadR rfl (ld_immT (hc1.le hlj) (ht1.le hlj))) ?_
      refine ow_blk rfl rfl exw_alloc ?_; intro b7
      refine ow_u rfl (exu_storeN 0 rfl rfl rfl rfl ht1.one rfl) ?_
      refine ow_nil ?_
      refine qw_seq ?_
      refine cw_region ?_
      refine ow_val rfl rfl (ex_move rfl) ?_
      refine ow_val rfl rfl (ex_loadR rfl (by first | exact ld_ownN 0 rfl rfl | exact ld_ownN 1 rfl rfl | exact ld_ownN 2 rfl rfl | exact ld_ownN 3 rfl rfl | exact ld_ownN 4 rfl rfl | exact ld_ownN 5 rfl rfl | exact ld_ownN 6 rfl rfl | exact ld_ownN 7 rfl rfl | exact ld_ownGN 0 rfl rfl | exact ld_ownGN 1 rfl rfl | exact ld_immT (by assumption) (by assumption))) ?_
      refine ow_ckE rfl rfl (ex_callf rfl (fun w h => ih _ (List.getElem_mem hlt2) h.hasE (htab.le hlj) hbj (ht1.le hlj) (by simp only [List.length_append]; omega))) (fun v41 τ41 K41 hl41 hf41 hr41 => ?_)
      refine ow_nil ?_
      refine qw_block_normal ?_
      refine qw_seq ?_
      refine cw_region ?_
      refine ow_val rfl rfl (ex_addi (z := ((j + 1 : Nat) : Int)) rfl rfl (by omega) (by omega) (by omega)) ?_
      refine ow_val rfl rfl (ex_move rfl) ?_
      refine ow_nil ?_
      refine qw_round3 (j + 1) τ41 K41 (by omega) (subL_cons (lkv rfl (by first | rfl | simp)) (subL_cons (lkv rfl (by first | rfl | simp)) (subL_cons (lkv rfl (by first | rfl | simp)) (subL_cons (lkv rfl (by first | rfl | simp)) (subL_cons (lkv rfl (by first | rfl | simp)) (subL_nil _)))))) ⟨by omega, hlj.trans hl41, hfj.trans hf41, ?_⟩ (fun w h => h.drop (List.sublist_cons_self _ _))
      rw [hst, ← List.append_assoc]
      exact hr41
    ·
      refine cw_exit ?_
      refine qw_then_exit ?_
      refine qw_then_exit ?_
      refine qw_block_exit ?_
      refine qw_end0 rfl (fun w' h => (h.drop (List.nil_sublist _)).givesK hlj hfj ?_)
      have he : j = ks.length := by simp at c36; omega
      subst he
      rw [List.take_length] at hbj
      rw [keyB_mk]
      simpa [List.append_assoc] using hbj
set_option maxHeartbeats 400000 in
theorem pKey (t : T) {ct : List Value} {σ : Hp} {w : World} (hi : Imm σ w) (htab : TabC Tryz.prog σ) (ht : TermC σ ct t) (hl : (keyB t).length ≤ 140737488355328) : Calls Tryz.prog 70 #[.agg ct.toArray] w fun e w' => e = .returned (.string (strOf (keyB t))) ∧ Below w.heap.size w w' := by
  have ht0 := ht
  obtain ⟨dv, kv, rfl, ho, hn, hd, hk⟩ := ht.opn
  have hne : keyB t ≠ [] := by
    cases t
    rw [keyB_mk]
    simp [headB]
  refine enter (St w (fun _ => False) σ [] []) Tryz.func70 rfl Tryz.ntmps70 rfl (St.start hi) ?_
  refine cw_seq ?_
  refine cw_region ?_
  refine ow_blk rfl rfl (exw_box rfl) ?_; intro b1
  refine ow_val rfl rfl (ex_assign rfl) ?_
  refine ow_nil ?_
  refine qw_seq ?_
  refine cw_seq ?_
  refine cw_region ?_
  refine ow_blk rfl rfl exw_alloc ?_; intro b3
  refine ow_nil ?_
  refine qw_seq ?_
  refine cw_seq ?_
  refine cw_region ?_
  refine ow_val rfl rfl (ex_loadR rfl (by first | exact ld_ownN 0 rfl rfl | exact ld_ownN 1 rfl rfl | exact ld_ownN 2 rfl rfl | exact ld_ownN 3 rfl rfl | exact ld_ownN 4 rfl rfl | exact ld_ownN 5 rfl rfl | exact ld_ownN 6 rfl rfl | exact ld_ownN 7 rfl rfl | exact ld_ownGN 0 rfl rfl | exact ld_ownGN 1 rfl rfl | exact ld_immT (by assumption) (by assumption))) ?_
  refine ow_mono (fun w h => h.toG) ?_
  refine ow_ckE rfl rfl (ex_callf rfl (fun w h => pWrite t (bs := []) h.hasE htab ⟨.pointer none, .slice none 0 0, [], rfl, .inl rfl, OwnSl.nil _ _⟩ ht0 (by simpa using hl))) (fun v5 τ5 K5 hl5 hf5 hr5 => ?_)
  rw [List.nil_append] at hr5
  refine ow_nil ?_
  refine qw_seq ?_
  refine cw_seq ?_
  refine cw_region ?_
  refine ow_ckE rfl rfl (ex_callf rfl (fun w h => pBldString h.hasE hr5 hne hl)) (fun v6 τ6 K6 hl6 hf6 hr6 => ?_)
  obtain ⟨rfl, rfl⟩ := hr6
  refine ow_val rfl rfl (ex_assign rfl) ?_
  refine ow_nil ?_
  refine qw_seq ?_
  refine cw_ret ?_
  refine qw_ret1 rfl rfl (fun w' h => ⟨rfl, h.ag.below⟩)
end Go.Proofs.YtnjomdjkbbhdoaaGreatDoor
namespace Go.Proofs.YtnjomdjkbbhdoaaGreatDoor
open Go.RowKit
set_option linter.unusedVariables false
structure SeenV (σ : Hp) (b : Nat) (ts : List T) (p : Option Addr) (c m : Nat) : Prop where
  c0 : CellsAt σ b 0 [.slice p ts.length c]
  c1 : CellsAt σ b 1 [.map (some m)]
  mp : σ m = some (mapObj ts)
  cap : ts.length ≤ c
  few : ts.length ≤ 4096
  tab : TabI ts
theorem OwnSl.slice {e size n : Nat} {v : Value} {xs : List Value} {Gs : List (Nat × Obj)} (h : OwnSl e size v n xs Gs) : ∃ p c, v = .slice p n c ∧ n ≤ c := by
  rcases h.2 with ⟨rfl, rfl, _⟩ | ⟨g, c, cur, rfl, _, h2, _⟩
  · exact ⟨_, _, rfl, Nat.le_refl _⟩
  · exact ⟨_, _, rfl, h2⟩
theorem VaultK.seen {tv te : TypeId} {b : Nat} {ts : List T} {σ τ : Hp} {K : List (Nat × Obj)} (h : VaultK tv te b ts σ K) (hs : ∀ q ∈ K, τ q.1 = some q.2) : ∃ p c m, SeenV τ b ts p c m := by
  obtain ⟨sv, xs, m, Gs, rfl, hO, hr, ht, hl⟩ := h
  obtain ⟨p, c, rfl, hc⟩ := hO.slice
  exact ⟨p, c, m, CellsAt.of1 (hs _ (List.mem_cons_self)) rfl, CellsAt.of1 (hs _ (List.mem_cons_self)) rfl, hs (m, mapObj ts) (by simp), hc, hl, ht⟩
theorem VaultK.seenX {tv te : TypeId} {b : Nat} {ts : List T} {σ : Hp} {K : List (Nat × Obj)} {w : World} (h : VaultK tv te b ts σ K) (hi : Has σ K w) : ∃ p c m, SeenV (exts σ K) b ts p c m :=
  h.seen fun q hq => exts_get hi.nd hq
theorem VaultK.nd {tv te : TypeId} {b : Nat} {ts : List T} {σ : Hp} {K : List (Nat × Obj)} (h : VaultK tv te b ts σ K) : TabI ts ∧ ts.length ≤ 4096 := by
  obtain ⟨sv, xs, m, Gs, rfl, hO, hr, ht, hl⟩ := h
  exact ⟨ht, hl⟩
theorem setX_snoc {xs co cs : List Value} {n : Nat} (hx : xs.length = n * 4) (hc : co.length = 4) : setX (xs ++ co) n cs = xs ++ cs := by
  unfold setX
  rw [List.take_append, List.drop_append, ← hx, List.take_length, Nat.sub_self, List.take_zero, List.append_nil, List.drop_eq_nil_of_le (by omega), show xs.length + 4 - xs.length = co.length by omega, List.drop_length]
  simp
def mostN : Nat → Nat
  | 0 => 0
  | n + 1 => 1 + 4 * mostN n
theorem mostN_16 : mostN 16 ≤ maxKids := by decide
theorem sizes_len {B : Nat} : ∀ {ks : List T}, (∀ k ∈ ks, size k ≤ B) → sizes ks ≤ ks.length * B
  | [], _ => by simp [sizes]
  | k :: r, h => by
    have h1 := h k (by simp)
    have h2 := sizes_len (B := B) (ks := r) (fun x hx => h x (List.mem_cons_of_mem _ hx))
    simp only [sizes, List.length_cons, Nat.add_mul]
    omega
theorem rightD_size : ∀ (t : T) {dp : Nat}, rightD t dp = true → size t ≤ mostN (16 - dp) := by
  intro t
  induction t using T.ind with
  | _ o n d ks ih =>
    intro dp h
    rw [rightD_mk] at h
    simp only [Bool.and_eq_true, decide_eq_true_eq] at h
    obtain ⟨⟨⟨h1, h2⟩, h3⟩, h4⟩ := h
    have hk := shape_kids h2
    have hb : ∀ k ∈ ks, size k ≤ mostN (16 - (dp + 1)) := fun k hm => by
      obtain ⟨i, hi, rfl⟩ := List.mem_iff_getElem.1 hm
      exact ih _ hm (rightsD_iff.1 h3 i hi)
    have hks := sizes_len hb
    have hm : ks.length * mostN (16 - (dp + 1)) ≤ 4 * mostN (16 - (dp + 1)) := Nat.mul_le_mul_right _ hk
    rw [show 16 - dp = (16 - (dp + 1)) + 1 by omega]
    simp only [size, mostN]
    omega
theorem right_size {t : T} (h : right t = true) : size t ≤ maxKids := Nat.le_trans (rightD_size t h) mostN_16
theorem right_slim {t : T} (h : right t = true) : norm t = t ∧ slim 19 t := ⟨(right_norm h).1, slim_mono (by decide) _ (right_norm h).2⟩
theorem zeroT_c (σ : Hp) : TermC σ [.int .i64 0, .int .i64 0, .slice none 0 0, .slice none 0 0] zeroT := TermC.mk (by omega) (by omega) (BytesV.nil σ) (KidsV.nil σ)
theorem right_lim {t : T} (h : right t = true) : (keyB t).length ≤ 140737488355328 := Nat.le_trans (right_key h) (by unfold maxKey; decide)
theorem putVs_len (ks ts : List T) (i : Nat) : (putVs (ks.take i) ts).length ≤ ts.length + sizes (ks.take i) := by
  obtain ⟨es, h, h2, _⟩ := putVs_ext (ks.take i) ts
  rw [h, List.length_append]; omega
end Go.Proofs.YtnjomdjkbbhdoaaGreatDoor
namespace Go.Proofs.YtnjomdjkbbhdoaaGreatDoor
open Go.RowKit
set_option linter.unusedVariables false
def drawT (N : Nat) (l : List Oper) (n : Nat) : Bool :=
  Nat.blt n l.length && ownDst N (l.take n) && aheadB 0 l && (match l[n]? with
    | some o => waitsB l o [] n
    | none => false) && (List.range l.length).all fun t => decide (t ≤ n) || (match l[t]? with
      | some o => memN n (depsL o.after.toList)
      | none => false)
theorem flow_soundT {P : Program} {l : List Oper} {L : TL} {S : World → Prop} [hSta : Sta S] {N : Nat} {Q : Exit → Act → World → Prop} {id : Nat} [hm : MixT P] (n : Nat) (hB : drawT N l n = true)
    (h : Flow P l (Go.Proofs.YtnjomdjkbbhdoaaGreatDoor.cut (l.take n) L) S N (fun K => ∀ a w, Fr N (Go.Proofs.YtnjomdjkbbhdoaaGreatDoor.cut (l.take n) L) a → S w → (∀ e ∈ K, ∃ v, a.tmps[e.d]? = some v ∧ e.p.holds w v) → wpAny P .any l.toArray Q (l.length - n) (firsts n l.length) a w) (l.take n) 0 []) :
    CW P (.region id l.toArray true) Q N L S := by
  simp only [drawT, Bool.and_eq_true] at hB
  obtain ⟨⟨⟨⟨hn, hown⟩, hahead⟩, hwt⟩, hstar⟩ := hB
  have hn2 : n < l.length := by have := hn; simp [Nat.blt] at this; omega
  have hn' : n ≤ l.length := by omega
  obtain ⟨on, hon, hwn⟩ : ∃ o, l[n]? = some o ∧ waitsB l o [] n = true := by
    cases hl : l[n]? with
    | none => rw [hl] at hwt; cases hwt
    | some o => rw [hl] at hwt; exact ⟨o, rfl, hwt⟩
  obtain ⟨Kf, hfin, -, hK, hcov, huni⟩ := flow_all (l.take n) 0 [] (fun j hj => by
    rw [List.length_take] at hj
    rw [List.getElem?_take_of_lt (by omega)]; simp) (fun _ he => absurd he List.not_mem_nil) h
  have hK' : ∀ e ∈ Kf, e.j < n ∧ ∃ o, l[e.j]? = some o ∧ o.dst = some e.d ∧ e.p.pers ∧ ∀ a w, Fr N (Go.Proofs.YtnjomdjkbbhdoaaGreatDoor.cut (l.take n) L) a → S w →
      (∀ e' ∈ Kf, edge o.after.toList e'.j = true → ∃ v, a.tmps[e'.d]? = some v ∧ e'.p.holds w v) → stepOK P l o a w e.p := fun e he => by
    rcases hK e he with h0 | ⟨_, h1, h2⟩
    · cases h0
    · exact ⟨by rw [List.length_take] at h1; omega, h2⟩
  have hsz : l.toArray.size = l.length := by simp
  have key : ∀ (g : Nat) (listed : Array Bool) (a : Act) (w : World), HeadInv .any l.toArray n listed → cnt listed n = g → Fr N (Go.Proofs.YtnjomdjkbbhdoaaGreatDoor.cut (l.take n) L) a → S w →
      (∀ e ∈ Kf, listed.getD e.j true = true → ∃ v, a.tmps[e.d]? = some v ∧ e.p.holds w v) → wpAny P .any l.toArray Q (g + (l.length - n)) listed a w := by
    intro g
    induction g with
    | zero =>
      intro listed a w inv hc hf hs hk
      have hall := cnt_zero hc
      have hlist : listed = firsts n l.length := by
        apply Array.ext_getElem?
        intro i
        have hs1 : listed.size = l.length := by rw [inv.size, hsz]
        unfold firsts
        rcases Nat.lt_or_ge i n with h1 | h1
        · have := hall i h1
          have hi : i < listed.size := by omega
          simp [hi] at this
          simp [hi, this, List.getElem?_append, h1]
        · rcases Nat.lt_or_ge i l.length with h2 | h2
          · have := inv.tail i h1 (by rw [hsz]; exact h2)
            have hi : i < listed.size := by omega
            simp [hi] at this
            simp [hi, this, List.getElem?_append, show ¬ i < n by omega, show i - n < l.length - n by omega]
          · rw [Array.getElem?_eq_none (by omega)]
            simp [List.getElem?_append, show ¬ i < n by omega, show ¬ i - n < l.length - n by omega]
      have hw := hfin a w hf hs (fun e he => hk e he (hall e.j (hK' e he).1))
      rw [hlist, Nat.zero_add]
      exact hw
    | succ g ih =>
      intro listed a w inv hc hf hs hk
      rw [show g + 1 + (l.length - n) = (g + (l.length - n)) + 1 by omega]
      obtain ⟨i0, hi0, hun0, hbelow⟩ := cnt_pos (show 0 < cnt listed n by omega)
      have hs1 : listed.size = l.length := by rw [inv.size, hsz]
      have hready : i0 ∈ Region.ready .any l.toArray listed := by
        have hlt : i0 < l.length := by omega
        refine mem_ready.2 ⟨hun0, l[i0], by simp [hlt], fun e he hb => ?_⟩
        have h1 := ahead_get hahead i0 l[i0] (by simp [hlt]) e he hb
        have h2 := hbelow e.on (by omega)
        have hlt2 : e.on < listed.size := by omega
        simp [hlt2] at h2 ⊢
        exact h2
      refine ⟨fun hnil => (by rw [hnil] at hready; cases hready), fun i hi => ?_⟩
      have hin : i < n := by
        rcases Nat.lt_or_ge i n with h1 | h1
        · exact h1
        · obtain ⟨_, oi, hoi, hdeps⟩ := mem_ready.1 hi
          have hlt : i < l.length := by have := (Array.getElem?_eq_some_iff.1 hoi).1; simpa using this
          have hoi' : l[i]? = some oi := by simpa using hoi
          rcases Nat.eq_or_lt_of_le h1 with h2 | h2
          · subst h2
            have : oi = on := Option.some.inj (hoi'.symm.trans hon)
            subst this
            have h3 := (List.all_eq_true.1 hwn) i0 (List.mem_range.2 hi0)
            simp only [memN, Bool.false_or] at h3
            have h4 := clos_listed inv n _ (fun x hx => by
              obtain ⟨e, he, hej, heb⟩ := depsL_mem hx
              rw [← hej]; exact hdeps e (by simpa using he) heb) i0 (memN_mem h3)
            have hlt2 : i0 < listed.size := by omega
            simp [hlt2] at h4 hun0
            rw [h4] at hun0; cases hun0
          · have h3 := (List.all_eq_true.1 hstar) i (List.mem_range.2 hlt)
            simp only [Bool.or_eq_true, decide_eq_true_eq] at h3
            have h4 := h3.resolve_left (by omega)
            rw [hoi'] at h4
            obtain ⟨e, he, hej, heb⟩ := depsL_mem (memN_mem h4)
            have h5 := hdeps e (by simpa using he) heb
            rw [hej] at h5
            have h6 := inv.tail n (Nat.le_refl _) (by rw [hsz]; exact hn2)
            have hlt2 : n < listed.size := by omega
            simp [hlt2] at h5 h6
            rw [h5] at h6; cases h6
      obtain ⟨huni1, oi, hoi, hdeps⟩ := mem_ready.1 hi
      have hoi' : l[i]? = some oi := by simpa using hoi
      obtain ⟨e, heK, hej⟩ := hcov i (by rw [List.length_take]; omega)
      have hej' : e.j = i := by omega
      obtain ⟨_, o, ho, hod, hpers, hstep⟩ := hK' e heK
      rw [hej'] at ho
      have : o = oi := Option.some.inj (ho.symm.trans hoi')
      subst this
      have hdn : e.d < N := by
        obtain ⟨d, hd1, hd2⟩ := ownDst_get hown i o (by rw [List.getElem?_take_of_lt hin]; exact ho)
        rw [hod] at hd1; cases hd1; exact hd2
      have hcutd : ∀ v, lk (Go.Proofs.YtnjomdjkbbhdoaaGreatDoor.cut (l.take n) L) e.d = some v → False := fun v hv => by
        have h1 := (lk_cut hv).1
        rw [anyDst_of (List.mem_of_getElem? (l := l.take n) (i := i) (by rw [List.getElem?_take_of_lt hin]; exact ho)) hod] at h1
        cases h1
      have hso := hstep a w hf hs (fun e' he' hed => by
        obtain ⟨x, hx, hxj, hxb⟩ := edge_mem hed
        have h1 := hdeps x (by simpa using hx) hxb
        rw [hxj] at h1
        have h2 : e'.j < n := (hK' e' he').1
        refine hk e' he' ?_
        have hlt2 : e'.j < listed.size := by omega
        simp [hlt2] at h1 ⊢
        exact h1)
      have next : ∀ v w', Below w.heap.size w w' → e.p.holds w' v → wpAny P .any l.toArray Q (g + (l.length - n)) (listed.setIfInBounds i true) (a.put o.dst v) w' := by
        intro v w' hb hv
        rw [hod]
        refine ih _ _ _ (inv.set hi hin) (by have := cnt_set huni1 n hin; omega) ?_ (hSta.keep w w' hs hb) ?_
        · have hp := hf.put v (d := e.d) (by simp [Nat.blt]; omega)
          exact ⟨hp.df, hp.sz, fun k u hu => hp.get k u (by
            rw [lk_cons]
            split
            · rename_i hk2; subst hk2; exact (hcutd u hu).elim
            · exact hu)⟩
        · intro x hx hxl
          by_cases hxi : x.j = i
          · have : x = e := huni x hx e heK (Nat.zero_le _) (by omega)
            subst this
            exact ⟨v, by simp [Act.put, hf.sz, hdn], hv⟩
          · rw [getD_set_ne true (fun h => hxi h.symm)] at hxl
            obtain ⟨u, hu, hxu⟩ := hk x hx hxl
            obtain ⟨hxn, ox, hox, hxd, hxp, _⟩ := hK' x hx
            have hne : e.d ≠ x.d := fun hee => by
              have := ownDst_ne hown i x.j o ox e.d (by rw [List.getElem?_take_of_lt hin]; exact ho) (by rw [List.getElem?_take_of_lt hxn]; exact hox) hod (by rw [hee]; exact hxd)
              omega
            refine ⟨u, ?_, VP.pers_keep hxp hxu hb⟩
            simp only [Act.put]
            rw [Array.getElem?_setIfInBounds_ne hne]
            exact hu
      unfold wpOp
      simp only [hoi]
      unfold stepOK at hso
      split
      · rename_i hw
        rw [if_pos hw] at hso
        exact .inl (wp_false hso (fun a' w' ⟨v, ha, hb, hv⟩ => by rw [ha]; exact next v w' hb hv))
      · rename_i hw
        rw [if_neg hw] at hso
        exact next undef w (Below.refl _ _) hso
  intro a w hf hs
  refine wp_region_any hm.ok ?_
  have hrep : ∀ j, (Array.replicate l.toArray.size false).getD j false = false := fun j => getD_replicate_false _ _
  have := key n (Array.replicate l.toArray.size false) a w.drew
    ⟨by simp, fun j oj hj hl => (by rw [hrep] at hl; cases hl), fun t ht ht' => by simp at ht'; simp [ht']⟩
    (by rw [hsz]; exact cnt_fresh _ _ hn') (fr_cut hf (lk_cut_sub L)) (hSta.keep _ _ hs (Below.drewB w)) (fun e he hl => by
      have h1 := (hK' e he).1
      simp [show e.j < l.length by omega] at hl)
  rw [show n + (l.length - n) = l.toArray.size by rw [hsz]; omega] at this
  exact this
def AnyW (P : Program) (l : List Oper) (Q : Exit → Act → World → Prop) (k : Nat) (listed : Array Bool) (N : Nat) (L : TL) (S : World → Prop) : Prop :=
  ∀ a w, Fr N L a → S w → wpAny P .any l.toArray Q k listed a w
def NextW (P : Program) (l : List Oper) (Q : Exit → Act → World → Prop) (k : Nat) (listed : Array Bool) (N : Nat) (L : TL) (S : World → Prop) (i : Nat) : Prop :=
  ∀ a w, Fr N L a → S w → wpOp P l.toArray Q i (wpAny P .any l.toArray Q k (listed.setIfInBounds i true)) a w
section
variable {P : Program} {l : List Oper} {Q : Exit → Act → World → Prop} {k : Nat} {listed : Array Bool} {N : Nat} {L : TL} {S : World → Prop} {i j : Nat} {d : Nat} {ty : TypeId} {pos : String} {af : Array Edge} {op : Op}
theorem any_done (hr : Region.ready .any l.toArray listed = []) (h : QW Q .normal N L S) : AnyW P l Q 0 listed N L S := fun a w hf hs => ⟨hr, h a w hf hs⟩
theorem any_one (hr : Region.ready .any l.toArray listed = [i]) (h : NextW P l Q k listed N L S i) : AnyW P l Q (k + 1) listed N L S := fun a w hf hs => by
  refine ⟨fun hn => (by rw [hr] at hn; cases hn), fun x hx => ?_⟩
  rw [hr] at hx
  simp only [List.mem_singleton] at hx
  subst hx
  exact h a w hf hs
theorem any_two (hr : Region.ready .any l.toArray listed = [i, j]) (h : NextW P l Q k listed N L S i) (h' : NextW P l Q k listed N L S j) : AnyW P l Q (k + 1) listed N L S := fun a w hf hs => by
  refine ⟨fun hn => (by rw [hr] at hn; cases hn), fun x hx => ?_⟩
  rw [hr] at hx
  simp only [List.mem_cons, List.not_mem_nil, or_false] at hx
  rcases hx with rfl | rfl
  · exact h a w hf hs
  · exact h' a w hf hs
theorem next_val {v : Value} (ho : l[i]? = some ⟨some d, op, ty, pos, af, none⟩) (hN : Nat.blt d N = true) (h : Ex P op N L S v) (c : AnyW P l Q k (listed.setIfInBounds i true) N ((d, v) :: L) S) : NextW P l Q k listed N L S i := fun a w hf hs => by
  unfold wpOp
  rw [show l.toArray[i]? = some ⟨some d, op, ty, pos, af, none⟩ by simpa using ho]
  simp only
  rw [if_pos (by simp [Region.wanted])]
  refine .inl ?_
  unfold Oper.wp
  rw [h a w hf hs]
  exact c _ _ (hf.put _ hN) hs
theorem next_u {S' : World → Prop} (ho : l[i]? = some ⟨none, op, ty, pos, af, none⟩) (h : ExU P op N L S S') (c : AnyW P l Q k (listed.setIfInBounds i true) N L S') : NextW P l Q k listed N L S i := fun a w hf hs => by
  unfold wpOp
  rw [show l.toArray[i]? = some ⟨none, op, ty, pos, af, none⟩ by simpa using ho]
  simp only
  rw [if_pos (by simp [Region.wanted])]
  refine .inl ?_
  unfold Oper.wp
  obtain ⟨w', h1, h2⟩ := h a w hf hs none ty pos af none
  rw [h1]
  exact c _ _ hf h2
theorem next_w {T : Value → World → Prop} (ho : l[i]? = some ⟨some d, op, ty, pos, af, none⟩) (hN : Nat.blt d N = true) (h : ExW P op N L S T) (c : ∀ v, AnyW P l Q k (listed.setIfInBounds i true) N ((d, v) :: L) (T v)) : NextW P l Q k listed N L S i := fun a w hf hs => by
  unfold wpOp
  rw [show l.toArray[i]? = some ⟨some d, op, ty, pos, af, none⟩ by simpa using ho]
  simp only
  rw [if_pos (by simp [Region.wanted])]
  refine .inl ?_
  unfold Oper.wp
  obtain ⟨v, w', h1, h2⟩ := h a w hf hs (some d) ty pos af none
  rw [h1]
  exact c v _ _ (hf.put _ hN) h2
theorem next_app1 {w0 : World} {M : Nat → Prop} {σ : Hp} {H Gs : List (Nat × Obj)} {R : Value → List (Nat × Obj) → Prop} {z : Value → Prop} (ho : l[i]? = some ⟨some d, op, ty, pos, af, none⟩) (hN : Nat.blt d N = true)
    (h : ExW P op N L (St w0 M σ H Gs) (fun v' w' => ∃ Gs', R v' Gs' ∧ z v' ∧ St w0 M σ H Gs' w')) (c : ∀ v' Gs', R v' Gs' → z v' → AnyW P l Q k (listed.setIfInBounds i true) N ((d, v') :: L) (St w0 M σ H Gs')) : NextW P l Q k listed N L (St w0 M σ H Gs) i :=
  next_w ho hN h fun v' a w hf ⟨Gs', h1, hz, h2⟩ => c v' Gs' h1 hz a w hf h2
theorem any_mono {S' : World → Prop} (hS : ∀ w, S w → S' w) (h : AnyW P l Q k listed N L S') : AnyW P l Q k listed N L S := fun a w hf hs => h a w hf (hS w hs)
theorem next_mono {S' : World → Prop} (hS : ∀ w, S w → S' w) (h : NextW P l Q k listed N L S' i) : NextW P l Q k listed N L S i := fun a w hf hs => h a w hf (hS w hs)
def FinT (P : Program) (l : List Oper) (Q : Exit → Act → World → Prop) (k : Nat) (listed : Array Bool) (N : Nat) (L : TL) (S : World → Prop) (K : List KE) : Prop :=
  ∀ a w, Fr N L a → S w → (∀ e ∈ K, ∃ v, a.tmps[e.d]? = some v ∧ e.p.holds w v) → wpAny P .any l.toArray Q k listed a w
theorem fint_nil (h : AnyW P l Q k listed N L S) : FinT P l Q k listed N L S [] := fun a w hf hs _ => h a w hf hs
theorem fint_is {v : Value} {K : List KE} (h : FinT P l Q k listed N ((d, v) :: L) S K) : FinT P l Q k listed N L S (⟨j, d, .is v⟩ :: K) := fun a w hf hs hk => by
  obtain ⟨u, hu, hp⟩ := hk _ List.mem_cons_self
  have : u = v := hp
  subst this
  exact h a w (fr_add hf hu) hs (fun e he => hk e (List.mem_cons_of_mem _ he))
theorem fint_satR {Rep : Hp → Value → Prop} [MonoR Rep] {w0 : World} {M : Nat → Prop} {σ σ1 : Hp} {H G : List (Nat × Obj)} {K : List KE} (hle : Le σ σ1) (h : ∀ v σ', Le σ1 σ' → Fresh σ1 σ' w0 → Rep σ' v → FinT P l Q k listed N ((d, v) :: L) (St w0 M σ' H G) K) :
    FinT P l Q k listed N L (St w0 M σ1 H G) (⟨j, d, .sat (QR Rep σ w0 (H ++ G))⟩ :: K) := fun a w hf hs hk => by
  obtain ⟨u, hu, hp⟩ := hk _ List.mem_cons_self
  obtain ⟨τ, h1, h2, h3, h4, h5⟩ := hp
  refine h u (join σ1 τ) (le_join _ _) (fun b o e => ?_) (MonoR.mono (le_join' hs.im h3) h4) a w (fr_add hf hu) (hs.le (hs.im.join h3) fun p hp => ?_) (fun e he => hk e (List.mem_cons_of_mem _ he))
  · unfold join at e
    cases he : σ1 b with
    | none =>
      rw [he] at e
      rcases h2 b o (by simpa using e) with h6 | h6
      · rw [hle b o h6] at he; cases he
      · exact .inr h6
    | some o' => rw [he] at e; simp at e; subst e; exact .inl rfl
  · unfold join; rw [hs.fresh hp, h5 p hp]; rfl
theorem flow_nilT {L0 : TL} {n : Nat} {K : List KE} (h : FinT P l Q (l.length - n) (firsts n l.length) N L0 S K) :
    Flow P l L0 S N (fun K => ∀ a w, Fr N L0 a → S w → (∀ e ∈ K, ∃ v, a.tmps[e.d]? = some v ∧ e.p.holds w v) → wpAny P .any l.toArray Q (l.length - n) (firsts n l.length) a w) [] i K := h
end
end Go.Proofs.YtnjomdjkbbhdoaaGreatDoor
namespace Go.Proofs.YtnjomdjkbbhdoaaGreatDoor
open Go.RowKit
set_option linter.unusedVariables false
def partsFrom : Nat → List Value → List (Nat × Value)
  | _, [] => []
  | k, v :: r => (k, v) :: partsFrom (k + 1) r
theorem fill_from : ∀ (vs : List Value) (k : Nat) (arr : Array Value), (∀ v ∈ vs, v.cells = #[v]) → k + vs.length ≤ arr.size →
    Instr.fill (fun i => some (i * 1, 1)) arr (partsFrom k vs) = some (arr.toList.take k ++ vs ++ arr.toList.drop (k + vs.length)).toArray
  | [], k, arr, _, h => by simp [partsFrom, Instr.fill]
  | v :: r, k, arr, h1, h => by
    have hv := h1 v (by simp)
    simp only [List.length_cons] at h
    have ih := fill_from r (k + 1) (arr.setIfInBounds k v) (fun u hu => h1 u (List.mem_cons_of_mem _ hu)) (by simp; omega)
    simp only [partsFrom, Instr.fill, hv]
    have e0 : (#[v].zipIdx.foldl (fun cs (c, j) => cs.setIfInBounds (k * 1 + j) c) arr) = arr.setIfInBounds k v := by simp
    simp only [List.size_toArray, List.length_cons, List.length_nil, Nat.zero_add]
    rw [if_neg (by simp; omega), e0, ih]
    have hk : k < arr.toList.length := by simp; omega
    have hset : (arr.setIfInBounds k v).toList = arr.toList.take k ++ (v :: arr.toList.drop (k + 1)) := by
      rw [Array.toList_setIfInBounds, List.set_eq_take_append_cons_drop, if_pos hk]
    have htl : (arr.toList.take k).length = k := by rw [List.length_take]; omega
    have key : ∀ (A B : List Value), A.length = k → (A ++ v :: B).take (k + 1) = A ++ [v] ∧ (A ++ v :: B).drop (k + 1 + r.length) = B.drop r.length := by
      rintro A B rfl
      constructor
      · rw [List.take_append, List.take_of_length_le (by omega)]
        simp
      · rw [show A.length + 1 + r.length = A.length + (r.length + 1) by omega, List.drop_append]
        simp
    rw [hset, (key _ _ htl).1, (key _ _ htl).2, List.drop_drop, show k + 1 + r.length = k + (v :: r).length by simp; omega]
    simp
section
variable {P : Program} {N : Nat} {L : TL} {S : World → Prop} {w0 : World} {M : Nat → Prop} {σ : Hp} {H G : List (Nat × Obj)}
theorem exw_slitN {t e bytes len : Nat} [h : AppT P t e 1 bytes] {parts : List (Nat × Operand)} {vs : List Value} (hp : partsV L parts = some (partsFrom 0 vs)) (h1 : ∀ v ∈ vs, v.cells = #[v]) (hl : vs.length = len) (h0 : 0 < len) (hm : len ≤ 1000000) :
    ExW P (.buildSlice t len parts.toArray) N L (St w0 M σ H G) (fun u w => ∃ b, u = .slice (some ⟨b, 0, none⟩) len len ∧ St w0 M σ ((b, .cells vs.toArray e) :: H) G w) := by
  obtain ⟨k1, ⟨i, z, k2, k3, k4, _, k6⟩, k7⟩ := h.ok
  refine exw_slit (parts := parts) hp k1 ⟨i, z, k2, k3, by rw [k4]; omega, ?_⟩
  rw [if_neg (by rw [k4]; omega), k4]
  have := fill_from vs 0 ((Array.range (len * 1)).map (z.cells[· % z.cells.size]!)) h1 (by simp [hl])
  rw [this]
  congr 2
  simp [hl]
theorem OwnSl.lit {e b : Nat} {xs : List Value} (h : xs.length ≤ maxLen) : OwnSl e 1 (.slice (some ⟨b, 0, none⟩) xs.length xs.length) xs.length xs [(b, .cells xs.toArray e (0, 0))] :=
  ⟨by simp, .inr ⟨b, xs.length, xs.toArray, rfl, rfl, Nat.le_refl _, h, by simp, by simp⟩⟩
end
section
variable {P : Program} {l0 : List Oper} {Q : Exit → Act → World → Prop} {l rest : List Oper} {N : Nat} {L : TL} {d : Nat} {ty : TypeId} {pos : String} {af : Array Edge} {g : Option (Nat × Bool)} {op : Op} {w0 : World} {M : Nat → Prop} {σ : Hp} {H G : List (Nat × Obj)} {R : Hp → Value → List (Nat × Obj) → Prop}
theorem ow_frzH {arr : Array Value} {e b : Nat} (hM : ∀ b, M b → False) (k : ∀ σ', Le σ σ' → Fresh σ σ' w0 → σ' b = some (.cells arr e (0, 0)) → OW P l0 Q l N L (St w0 M σ' H G)) : OW P l0 Q l N L (St w0 M σ ((b, .cells arr e) :: H) G) := fun a w hf hs => by
  refine k (ext σ b (.cells arr e)) (le_ext (hs.fresh (p := (b, .cells arr e)) (by simp))) (fun x o hx => ?_) (ext_self _ _ _) a w hf hs.freeze
  unfold ext at hx
  split at hx
  · rename_i hb; subst hb; exact .inr ((St0.mo hs (x, .cells arr e) (by simp)).resolve_left (hM _))
  · exact .inl hx
theorem ow_ck0E (hN : Nat.blt d N = true) (hg : gd l0 L g = some true) (h : ExC P op N L (St w0 M σ H []) (TK R σ []))
    (k : ∀ u σ' K', Le σ σ' → Fresh σ σ' w0 → R σ' u K' → OW P l0 Q rest N ((d, u) :: L) (St w0 M σ' H K')) : OW P l0 Q (⟨some d, op, ty, pos, af, g⟩ :: rest) N L (St w0 M σ H []) :=
  ow_ck0 hN hg h fun u σ' K' h1 h2 h3 => by simpa using k u σ' K' h1 h2 h3
end
theorem freezeR {w0 w : World} {M : Nat → Prop} {σ : Hp} {H Gs Gr : List (Nat × Obj)} {e size : Nat} {v : Value} {n : Nat} {xs : List Value} (hs : St w0 M σ H (Gs ++ Gr) w) (hM : ∀ b, M b → False) (hO : OwnSl e size v n xs Gs) :
    ∃ σ', Le σ σ' ∧ Fresh σ σ' w0 ∧ St w0 M σ' H Gr w ∧ ∃ p c, v = .slice p n c ∧ n ≤ c ∧ (n = 0 ∨ ∃ b, p = some ⟨b, 0, none⟩ ∧ CellsAt σ' b 0 xs) := by
  rcases hO.2 with ⟨rfl, rfl, rfl⟩ | ⟨g, c, cur, rfl, rfl, h2, h3, h4, h5⟩
  · exact ⟨σ, Le.refl _, Fresh.refl _ _, hs, none, 0, rfl, Nat.le_refl _, .inl rfl⟩
  · have hs1 : St w0 M σ ((g, .cells cur e (0, 0)) :: H) Gr w := hs.ofG
    refine ⟨ext σ g (.cells cur e (0, 0)), le_ext (hs.fresh (p := (g, .cells cur e (0, 0))) (by simp)), fun b o hb => ?_, hs1.freeze, _, c, rfl, h2, .inr ⟨g, rfl, cur, e, (0, 0), ext_self _ _ _, fun j u hj => ?_⟩⟩
    · unfold ext at hb
      split at hb
      · rename_i hbg; subst hbg; exact .inr ((St0.mo hs (b, .cells cur e (0, 0)) (by simp)).resolve_left (hM _))
      · exact .inl hb
    · rw [← h5, List.getElem?_take] at hj
      split at hj
      · simpa using hj
      · cases hj
theorem intsV_app (a b : List Int) : intsV (a ++ b) = intsV a ++ intsV b := by simp [intsV]
theorem CellsAt.int {σ : Hp} {b o : Nat} {zs : List Int} (h : CellsAt σ b o (intsV zs)) {i : Nat} (hi : i < zs.length) : CellsAt σ b (o + i * 1) [.int .i64 zs[i]] := by
  obtain ⟨arr, ty, fz, h1, h2⟩ := h
  refine ⟨arr, ty, fz, h1, fun j v hj => ?_⟩
  cases j with
  | zero =>
    simp at hj; subst hj
    simpa using h2 i _ (intsV_get hi)
  | succ j => simp at hj
theorem CellsAt.of4 {σ : Hp} {b : Nat} {ty : TypeId} {fz : Nat × Nat} {v0 v1 v2 v3 : Value} (h : σ b = some (.cells #[v0, v1, v2, v3] ty fz)) : CellsAt σ b 0 [v0, v1, v2, v3] := ⟨_, ty, fz, h, fun j v hj => by simpa using hj⟩
theorem KidsV.one {σ : Hp} {b : Nat} {cs : List Value} {t : T} (h : CellsAt σ b 0 cs) (ht : TermC σ cs t) : KidsV σ (.slice (some ⟨b, 0, none⟩) 1 1) [t] :=
  ⟨_, 1, rfl, Nat.le_refl _, by simp [maxKids], .inr ⟨b, 0, rfl, by simp only [ElemsC]; exact ⟨⟨cs, h, ht⟩, trivial⟩⟩⟩
def atomOne : T := .mk 1 1 [] []
def pubOne : T := .mk 2 0 [] [atomOne]
theorem atomOne_c (σ : Hp) : TermC σ [.int .i64 1, .int .i64 1, .slice none 0 0, .slice none 0 0] atomOne := TermC.mk (by omega) (by omega) (BytesV.nil σ) (KidsV.nil σ)
theorem intern_pub : intern [] pubOne = (1, 0, [atomOne, pubOne]) := by
  unfold intern
  rw [if_pos (by decide), if_neg (by decide), if_neg (by decide)]
  rfl
def tailB (n k : Nat) : List UInt8 := (List.range k).map fun j => UInt8.ofNat (n / 2 ^ (8 * (5 - j)))
def bytesN (n : Int) : List UInt8 := if 0 ≤ n ∧ n < 281474976710656 then 0xc1 :: 0x5e :: tailB n.toNat 6 else []
theorem tailB_len (n k : Nat) : (tailB n k).length = k := by simp [tailB]
theorem tailB_succ (n k : Nat) : tailB n (k + 1) = tailB n k ++ [UInt8.ofNat (n / 2 ^ (8 * (5 - k)))] := by simp [tailB, List.range_succ]
theorem bytesN_in {n : Nat} (h : n < 281474976710656) : bytesN (n : Int) = 0xc1 :: 0x5e :: tailB n 6 := by unfold bytesN; rw [if_pos (by omega)]; rfl
theorem bytes_cells (d : List UInt8) : ∀ v ∈ d.map byteV, v.cells = #[v] := fun v hv => by
  obtain ⟨b, _, rfl⟩ := List.mem_map.1 hv; rfl
def RepBN (d : List UInt8) (σ : Hp) (v : Value) : Prop := BytesV σ v d ∧ (d = [] → v = .slice none 0 0)
instance (d : List UInt8) : MonoR (RepBN d) := ⟨fun hl h => ⟨h.1.le hl, h.2⟩⟩
end Go.Proofs.YtnjomdjkbbhdoaaGreatDoor
namespace Go.Proofs.YtnjomdjkbbhdoaaGreatDoor
set_option linter.unusedVariables false
theorem intern_pos {ts : List T} {t : T} (h : (intern ts t).2.1 = 0) : (intern ts t).1 = posT (intern ts t).2.2 t ∧ 0 ≤ posT (intern ts t).2.2 t ∧ right t = true := by
  unfold intern at h ⊢
  by_cases hr : right t = true
  · rw [if_pos hr] at h ⊢
    by_cases hp : 0 ≤ posT ts t
    · rw [if_pos hp]; exact ⟨rfl, hp, hr⟩
    · rw [if_neg hp] at h ⊢
      by_cases hl : 4096 < ts.length + size t
      · rw [if_pos hl] at h; exact absurd (show (2 : Int) = 0 from h) (by decide)
      · rw [if_neg hl]
        exact ⟨(numV_is t ts).symm, posT_iff.2 (mem_putV t ts), hr⟩
  · rw [if_neg hr] at h; exact absurd (show (51 : Int) = 0 from h) (by decide)
theorem intern_ext (ts : List T) (t : T) : ∃ es, (intern ts t).2.2 = ts ++ es := by
  unfold intern
  split
  · split
    · exact ⟨[], by simp⟩
    · split
      · exact ⟨[], by simp⟩
      · obtain ⟨es, e, _⟩ := putV_ext t ts
        exact ⟨es, e⟩
  · exact ⟨[], by simp⟩
def NumsOK (ls ts : List T) (nums : List Int) : Prop := ∀ j (h : j < nums.length) (h' : j < ls.length), nums[j] = -1 ∨ (0 ≤ posT ts ls[j] ∧ nums[j] = posT ts ls[j])
def numI (ts : List T) (t : T) : Int := if (intern ts t).2.1 = 0 then (intern ts t).1 else -1
theorem NumsOK.nil (ls ts : List T) : NumsOK ls ts [] := fun j h => absurd h (Nat.not_lt_zero _)
theorem NumsOK.step {ls ts : List T} {nums : List Int} (h : NumsOK ls ts nums) (hi : nums.length < ls.length) : NumsOK ls (intern ts ls[nums.length]).2.2 (nums ++ [numI ts ls[nums.length]]) := by
  obtain ⟨es, e⟩ := intern_ext ts ls[nums.length]
  intro j hj hj'
  by_cases hlt : j < nums.length
  · rw [List.getElem_append_left hlt]
    rcases h j hlt hj' with h1 | ⟨h1, h2⟩
    · exact .inl h1
    · right
      rw [e, posT_old h1]
      exact ⟨h1, h2⟩
  · have : j = nums.length := by simp at hj; omega
    subst this
    simp only [List.getElem_append_right (Nat.le_refl _), Nat.sub_self, List.getElem_cons_zero]
    unfold numI
    by_cases h0 : (intern ts ls[nums.length]).2.1 = 0
    · obtain ⟨k1, k2, _⟩ := intern_pos h0
      rw [if_pos h0]
      exact .inr ⟨k2, k1⟩
    · rw [if_neg h0]; exact .inl rfl
theorem posT_eq {ts : List T} {a b : T} (ha : 0 ≤ posT ts a) (hb : 0 ≤ posT ts b) : posT ts a = posT ts b ↔ ord a b = 0 := by
  constructor
  · intro h
    obtain ⟨i, hi⟩ : ∃ i : Nat, posT ts a = (i : Int) := ⟨(posT ts a).toNat, by omega⟩
    have h1 := posT_is hi
    have h2 := posT_is (h ▸ hi)
    rw [h1] at h2
    cases h2
    exact ord_self a
  · intro h
    rw [ord_zero.1 h]
end Go.Proofs.YtnjomdjkbbhdoaaGreatDoor
namespace Go.Proofs.YtnjomdjkbbhdoaaGreatDoor
open Go.RowKit Go.ChangeShapes
set_option linter.unusedVariables false
structure Bulky {H : Type} (bk : DataW H → Nat) : Prop where
  lit : ∀ l, 1 ≤ bk (.lit l)
  nil : 1 ≤ bk .nil
  agg : ∀ ps, (ps.map bk).sum + 1 ≤ bk (.agg ps)
  slice : ∀ es sp, (es.map bk).sum + 1 ≤ bk (.slice es sp)
mutual
def bulkT : T → Nat
  | .mk _ _ d ks => 5 + d.length + bulkTs ks
def bulkTs : List T → Nat
  | [] => 0
  | k :: r => bulkT k + bulkTs r
end
theorem keyB_bulk' : ∀ (t : T) {σ : Hp} {cs : List Value}, TermC σ cs t → (keyB t).length ≤ 20 * bulkT t := by
  intro t
  induction t using T.ind with
  | _ o n d ks ih =>
    intro σ cs h
    obtain ⟨dv, kv, rfl, ho, hn, hd, hk⟩ := h.opn
    simp only [T.kids, T.op, T.num, T.data] at *
    obtain ⟨p, c, rfl, hc, hm⟩ := hk.slice
    obtain ⟨pd, cd, rfl, hcd, hmd⟩ := hd.slice
    unfold maxKids at hm
    unfold maxData at hmd
    have hh := headB_len (d := d.length) (k := ks.length) ho hn (by omega) (by omega)
    have key : ∀ (l : List T), (∀ k ∈ l, (keyB k).length ≤ 20 * bulkT k) → (keysB l).length ≤ 20 * bulkTs l := by
      intro l
      induction l with
      | nil => intro _; simp [keysB]
      | cons k r ihl =>
        intro hl
        have h1 := hl k (by simp)
        have h2 := ihl (fun x hx => hl x (List.mem_cons_of_mem _ hx))
        simp only [keysB, List.length_append, bulkTs]; omega
    have hks := key ks (fun k hkm => by
      obtain ⟨i, hi, rfl⟩ := List.mem_iff_getElem.1 hkm
      obtain ⟨b, f, c', cs', _, _, _, ht⟩ := hk.get i hi
      exact ih _ (List.getElem_mem hi) ht)
    simp only [keyB, bulkT, List.length_append]
    omega
theorem KidsV.key {σ : Hp} {v : Value} {ks : List T} {t : T} (h : KidsV σ v ks) (ht : t ∈ ks) : (keyB t).length ≤ 20 * bulkT t := by
  obtain ⟨i, hi, rfl⟩ := List.mem_iff_getElem.1 ht
  obtain ⟨b, f, c', cs', _, _, _, ht⟩ := h.get i hi
  exact keyB_bulk' _ ht
theorem bulkTs_sum : ∀ {ts : List T} {es : List Nat}, ts.length ≤ es.length → (∀ i (h : i < ts.length) (h' : i < es.length), bulkT ts[i] ≤ es[i]) → bulkTs ts ≤ es.sum
  | [], es, _, _ => by simp [bulkTs]
  | t :: r, [], h, _ => by simp at h
  | t :: r, e :: es, h, hb => by
    have h1 := hb 0 (by simp) (by simp)
    have h2 := bulkTs_sum (ts := r) (es := es) (by simpa using h) (fun i hi hi' => hb (i + 1) (by simpa using hi) (by simpa using hi'))
    simp only [bulkTs, List.sum_cons]
    simp only [List.getElem_cons_zero] at h1
    omega
theorem length_le_sum : ∀ {es : List Nat}, (∀ e ∈ es, 1 ≤ e) → es.length ≤ es.sum
  | [], _ => by simp
  | e :: r, h => by
    have h1 := h e (by simp)
    have h2 := length_le_sum (es := r) (fun x hx => h x (List.mem_cons_of_mem _ hx))
    simp only [List.length_cons, List.sum_cons]; omega
section
variable {H : Type} {enc : TypeId × Value → H} {P : Program} {w : World} {bk : DataW H → Nat}
theorem read_bytesU (B : Bulky bk) {t e : TypeId} {fuel : Nat} {v : Value} {x : DataW H × List MemPlace} (hu : P.underlying t = some (.slice e)) (he : P.underlying e = some (.int .u8)) (hc : P.cellsOf e = 1) (hb : P.bytesOf e = 1)
    (h : DataW.trod enc P w 0 (fun _ => true) true fuel t [v] = some x) (hw : ∀ n ∈ x.1.weights P t, n ≤ reachBytes) : ∃ d, BytesV (nowH w) v d ∧ d.length + 1 ≤ bk x.1 := by
  rcases open_ints hu he hc h with ⟨hcs, hx⟩ | ⟨a, len, cap, zs, hcs, _, hl, hm, hz, hx, hcell, hwf⟩
  · simp at hcs
    subst hcs
    subst hx
    exact ⟨[], BytesV.nil _, by simpa using B.nil⟩
  · simp at hcs
    subst hcs
    subst hx
    have hlz : len ≤ zs.length := by simp at hz; omega
    have hreach : zs.length ≤ reachBytes := by
      have := hw _ (by simp only [DataW.weights, hu]; exact List.mem_cons_self)
      rw [hb, Nat.mul_one] at this
      simp only [lits, List.length_map, List.length_take, List.length_drop] at this
      omega
    have hd : ((zs.take len).map fun z => z.toNat.toUInt8).map byteV = (zs.take len).map fun z => Value.int .u8 z := by
      rw [List.map_map]
      apply List.map_congr_left
      intro z hz'
      have := hwf z (List.mem_of_mem_take hz')
      have : 0 ≤ z ∧ z ≤ 255 := by simpa [Lit.wf, IntKind.min, IntKind.max, IntKind.signed, IntKind.bits] using this
      simp only [Function.comp, byteV]
      congr 1
      have h256 : z.toNat < 256 := by omega
      rw [show (z.toNat.toUInt8).toNat = z.toNat by simp [Nat.toUInt8, Nat.mod_eq_of_lt h256]]
      omega
    have hlen : ((zs.take len).map fun z => z.toNat.toUInt8).length = len := by simp; omega
    have hbk : len + 1 ≤ bk (DataW.slice (lits .u8 (zs.take len)) (lits .u8 (zs.drop len)) : DataW H) := by
      refine Nat.le_trans (Nat.add_le_add_right ?_ 1) (B.slice _ _)
      have h1 := length_le_sum (es := (lits (H := H) .u8 (zs.take len)).map bk) (fun e he => by
        obtain ⟨y, hy, rfl⟩ := List.mem_map.1 he
        obtain ⟨z, _, rfl⟩ := List.mem_map.1 hy
        exact B.lit _)
      simp only [lits, List.length_map, List.length_take] at h1
      simp only [lits]
      omega
    refine ⟨(zs.take len).map fun z => z.toNat.toUInt8, ⟨some a, cap, by rw [hlen], by rw [hlen]; exact hl, by rw [hlen]; unfold maxData; unfold reachBytes at hreach; omega, ?_⟩, by rw [hlen]; exact hbk⟩
    by_cases h0 : len = 0
    · left; subst h0; simp
    · right
      have hsp : a.spot = none := (cell_open (hcell 0 (by omega))).1
      obtain ⟨b, o, sp⟩ := a
      have hsp' : sp = none := hsp
      subst hsp'
      refine ⟨b, o, rfl, ?_⟩
      rw [hd]
      refine cellsAt_now (fun e => ?_) (fun i u hi => ?_)
      · have := congrArg List.length e
        rw [List.length_map, List.length_take, List.length_nil] at this
        omega
      · rw [List.getElem?_map, List.getElem?_take] at hi
        split at hi
        · rename_i hil
          have := hcell i (Nat.lt_of_lt_of_le hil hlz)
          rw [addr_add] at this
          rw [this, List.getD_eq_getElem?_getD]
          cases hz' : zs[i]? with
          | none => rw [hz'] at hi; simp at hi
          | some z => rw [hz'] at hi; simpa using hi
        · simp at hi
theorem read_termU (B : Bulky bk) {t : TypeId} [hT : TermTy P t] : ∀ (fuel : Nat) {cs : List Value} {x : DataW H × List MemPlace}, DataW.trod enc P w 0 (fun _ => true) true fuel t cs = some x → (∀ n ∈ x.1.weights P t, n ≤ reachBytes) → ∃ u, TermC (nowH w) cs u ∧ bulkT u ≤ bk x.1 := by
  obtain ⟨f0, f1, f2, f3, e, hu, hct, hbt, ⟨a1, a2, a3⟩, ⟨b1, b2, b3⟩, ⟨c1, c2, c3, c4, c5, c6⟩, ⟨d1, d2, d3⟩⟩ := hT.ok
  intro fuel
  induction fuel using Nat.strongRecOn with
  | _ fuel ih =>
    intro cs x h hw
    obtain ⟨xs, n, hfu, rfl, hl, hlen, hf⟩ := DataW.trod_struct hu h
    rw [hct] at hl
    match xs, hlen with
    | [y0, y1, y2, y3], _ =>
      have q0 := hf 0 f0 rfl
      have q1 := hf 1 f1 rfl
      have q2 := hf 2 f2 rfl
      have q3 := hf 3 f3 rfl
      rw [a2, a3] at q0
      rw [b2, b3] at q1
      rw [c2, c3] at q2
      rw [d2, d3] at q3
      obtain ⟨v0, v1, v2, v3, rfl⟩ : ∃ v0 v1 v2 v3, cs = [v0, v1, v2, v3] := by
        match cs, hl with
        | [v0, v1, v2, v3], _ => exact ⟨v0, v1, v2, v3, rfl⟩
      simp at q0 q1 q2 q3
      obtain ⟨i0, e0, x0, w0⟩ := DataW.trod_int a1 q0
      obtain ⟨i1, e1, x1, w1⟩ := DataW.trod_int b1 q1
      simp at e0 e1
      subst e0 e1
      have r0 : -9223372036854775808 ≤ i0 ∧ i0 ≤ 9223372036854775807 := by simpa [Lit.wf, IntKind.min, IntKind.max, IntKind.signed, IntKind.bits] using w0
      have r1 : -9223372036854775808 ≤ i1 ∧ i1 ≤ 9223372036854775807 := by simpa [Lit.wf, IntKind.min, IntKind.max, IntKind.signed, IntKind.bits] using w1
      have hparts : ∀ n, n ∈ y0.1.weights P f0.type ∨ n ∈ y1.1.weights P f1.type ∨ n ∈ y2.1.weights P f2.type ∨ n ∈ y3.1.weights P f3.type → n ≤ reachBytes := fun n hn => hw n (by
        simp only [DataW.weights, hu, List.map_cons, List.map_nil, DataW.weightsEach, List.mem_append, List.append_nil]
        rcases hn with h | h | h | h
        · exact .inl h
        · exact .inr (.inl h)
        · exact .inr (.inr (.inl h))
        · exact .inr (.inr (.inr h)))
      obtain ⟨d, hd, hdb⟩ := read_bytesU B c1 c4 c5 c6 q2 (fun n hn => hparts n (Or.inr (Or.inr (Or.inl hn))))
      have hk : ∃ ks, KidsV (nowH w) v3 ks ∧ bulkTs ks + 1 ≤ bk y3.1 := by
        rcases DataW.trod_slice d1 q3 with ⟨hcs, hx⟩ | ⟨a, len, cap, elems, rest, m, hfm, hcs, hx, _, hlc, hcm, hel, helem, hrest, _⟩
        · simp at hcs; subst hcs; subst hx; exact ⟨[], KidsV.nil _, by simpa [bulkTs] using B.nil⟩
        · simp at hcs
          subst hcs
          have hwk : ∀ n ∈ (DataW.slice (elems.map (·.1)) (rest.map (·.1))).weights P f3.type, n ≤ reachBytes := fun n hn => hparts n (Or.inr (Or.inr (Or.inr (by rw [hx]; exact hn))))
          simp only [DataW.weights, d1] at hwk
          have hlen : len * 64 ≤ reachBytes := by
            have := hwk _ List.mem_cons_self
            rw [hbt] at this
            simp only [List.length_map] at this
            have h2 : len * 64 ≤ (elems.length + rest.length) * 64 := Nat.mul_le_mul_right _ (by omega)
            omega
          have hwe : ∀ (l : List (DataW H)), (∀ n ∈ DataW.weightsAll P t l, n ≤ reachBytes) → ∀ y ∈ l, ∀ n ∈ y.weights P t, n ≤ reachBytes := by
            intro l
            induction l with
            | nil => intro _ y hy; cases hy
            | cons z r ihl =>
              intro hz y hy n hn
              simp only [DataW.weightsAll] at hz
              rcases List.mem_cons.1 hy with rfl | hy
              · exact hz n (List.mem_append_left _ hn)
              · exact ihl (fun n hn => hz n (List.mem_append_right _ hn)) y hy n hn
          have hwel := hwe (elems.map (·.1)) (fun n hn => hwk n (List.mem_cons_of_mem _ (List.mem_append_left _ hn)))
          have hspot : 0 < len → a.spot = none := fun h0 => by
            have h1 := helem 0 h0
            rw [List.getElem?_eq_getElem (show 0 < elems.length by omega), hct] at h1
            cases hc : w.cells? 0 (a.add (0 * 4)) 4 with
            | none => rw [hc] at h1; simp at h1
            | some cs' =>
              obtain ⟨_, hl4, hcell⟩ := World.cells?_some hc
              have h2 := hcell 0 (by omega)
              rw [List.getElem?_eq_getElem (by omega)] at h2
              have := (cell_open h2).1
              simpa [Addr.add] using this
          obtain ⟨ts, ht1, ht2⟩ := list_of (q := fun i u => (∃ cs', CellsAt (nowH w) a.block (a.off + i * 4) cs' ∧ TermC (nowH w) cs' u) ∧ ∀ h : i < elems.length, bulkT u ≤ bk elems[i].1) len (fun i hi => by
            have h1 := helem i hi
            rw [List.getElem?_eq_getElem (show i < elems.length by omega), hct] at h1
            cases hc : w.cells? 0 (a.add (i * 4)) 4 with
            | none => rw [hc] at h1; simp at h1
            | some cs' =>
              rw [hc] at h1
              simp only [Option.bind_some] at h1
              obtain ⟨_, hl4, hcell⟩ := World.cells?_some hc
              obtain ⟨u, hu', hub⟩ := ih m (by omega) h1 (fun n hn => hwel _ (List.mem_map.2 ⟨elems[i], List.getElem_mem _, rfl⟩) n hn)
              have hsp := hspot (by omega)
              refine ⟨u, ⟨cs', ?_, hu'⟩, fun _ => hub⟩
              obtain ⟨b, o, sp⟩ := a
              have hsp' : sp = none := hsp
              subst hsp'
              refine cellsAt_now (fun e => by rw [e] at hl4; simp at hl4) (fun j v hj => ?_)
              have := hcell j (by have := (List.getElem?_eq_some_iff.1 hj).1; omega)
              rw [addr_add, addr_add] at this
              rw [this]; exact hj)
          have hbk : bulkTs ts + 1 ≤ bk y3.1 := by
            rw [hx]
            refine Nat.le_trans (Nat.add_le_add_right ?_ 1) (B.slice _ _)
            refine bulkTs_sum (by simp; omega) (fun i hi hi' => ?_)
            simp only [List.getElem_map]
            exact (ht2 i hi).2 _
          refine ⟨ts, ⟨some a, cap, by rw [ht1], by rw [ht1]; exact hlc, by rw [ht1]; unfold maxKids; unfold reachBytes at hlen; omega, ?_⟩, hbk⟩
          by_cases h0 : ts = []
          · exact Or.inl h0
          · right
            have hpos : 0 < ts.length := List.length_pos_iff.2 h0
            have hsp := hspot (by omega)
            obtain ⟨b, o, sp⟩ := a
            have hsp' : sp = none := hsp
            subst hsp'
            exact ⟨b, o, rfl, ElemsC.of fun i hi => (ht2 i hi).1⟩
      obtain ⟨ks, hk, hkb⟩ := hk
      refine ⟨.mk i0 i1 d ks, TermC.mk r0 r1 hd hk, Nat.le_trans ?_ (B.agg _)⟩
      have hl0 : 1 ≤ bk y0.1 := by rw [x0]; exact B.lit _
      have hl1 : 1 ≤ bk y1.1 := by rw [x1]; exact B.lit _
      simp only [List.map_cons, List.map_nil, List.sum_cons, List.sum_nil, bulkT]
      omega
theorem read_kidsU (B : Bulky bk) {t ts : TypeId} [hT : TermTy P t] {fuel : Nat} {v3 : Value} {x : DataW H × List MemPlace} (d1 : P.underlying ts = some (.slice t)) (h : DataW.trod enc P w 0 (fun _ => true) true fuel ts [v3] = some x)
    (hw : ∀ n ∈ x.1.weights P ts, n ≤ reachBytes) : ∃ ks, KidsV (nowH w) v3 ks ∧ bulkTs ks + 1 ≤ bk x.1 := by
  obtain ⟨f0, f1, f2, f3, e, hu, hct, hbt, _⟩ := hT.ok
  rcases DataW.trod_slice d1 h with ⟨hcs, hx⟩ | ⟨a, len, cap, elems, rest, m, hfm, hcs, hx, _, hlc, hcm, hel, helem, hrest, _⟩
  · simp at hcs; subst hcs; subst hx; exact ⟨[], KidsV.nil _, by simpa [bulkTs] using B.nil⟩
  · simp at hcs
    subst hcs
    have hwk : ∀ n ∈ (DataW.slice (elems.map (·.1)) (rest.map (·.1))).weights P ts, n ≤ reachBytes := fun n hn => hw n (by rw [hx]; exact hn)
    simp only [DataW.weights, d1] at hwk
    have hlen : len * 64 ≤ reachBytes := by
      have := hwk _ List.mem_cons_self
      rw [hbt] at this
      simp only [List.length_map] at this
      have h2 : len * 64 ≤ (elems.length + rest.length) * 64 := Nat.mul_le_mul_right _ (by omega)
      omega
    have hwe : ∀ (l : List (DataW H)), (∀ n ∈ DataW.weightsAll P t l, n ≤ reachBytes) → ∀ y ∈ l, ∀ n ∈ y.weights P t, n ≤ reachBytes := by
      intro l
      induction l with
      | nil => intro _ y hy; cases hy
      | cons z r ihl =>
        intro hz y hy n hn
        simp only [DataW.weightsAll] at hz
        rcases List.mem_cons.1 hy with rfl | hy
        · exact hz n (List.mem_append_left _ hn)
        · exact ihl (fun n hn => hz n (List.mem_append_right _ hn)) y hy n hn
    have hwel := hwe (elems.map (·.1)) (fun n hn => hwk n (List.mem_cons_of_mem _ (List.mem_append_left _ hn)))
    have hspot : 0 < len → a.spot = none := fun h0 => by
      have h1 := helem 0 h0
      rw [List.getElem?_eq_getElem (show 0 < elems.length by omega), hct] at h1
      cases hc : w.cells? 0 (a.add (0 * 4)) 4 with
      | none => rw [hc] at h1; simp at h1
      | some cs' =>
        obtain ⟨_, hl4, hcell⟩ := World.cells?_some hc
        have h2 := hcell 0 (by omega)
        rw [List.getElem?_eq_getElem (by omega)] at h2
        have := (cell_open h2).1
        simpa [Addr.add] using this
    obtain ⟨ts, ht1, ht2⟩ := list_of (q := fun i u => (∃ cs', CellsAt (nowH w) a.block (a.off + i * 4) cs' ∧ TermC (nowH w) cs' u) ∧ ∀ h : i < elems.length, bulkT u ≤ bk elems[i].1) len (fun i hi => by
      have h1 := helem i hi
      rw [List.getElem?_eq_getElem (show i < elems.length by omega), hct] at h1
      cases hc : w.cells? 0 (a.add (i * 4)) 4 with
      | none => rw [hc] at h1; simp at h1
      | some cs' =>
        rw [hc] at h1
        simp only [Option.bind_some] at h1
        obtain ⟨_, hl4, hcell⟩ := World.cells?_some hc
        obtain ⟨u, hu', hub⟩ := read_termU B m h1 (fun n hn => hwel _ (List.mem_map.2 ⟨elems[i], List.getElem_mem _, rfl⟩) n hn)
        have hsp := hspot (by omega)
        refine ⟨u, ⟨cs', ?_, hu'⟩, fun _ => hub⟩
        obtain ⟨b, o, sp⟩ := a
        have hsp' : sp = none := hsp
        subst hsp'
        refine cellsAt_now (fun e => by rw [e] at hl4; simp at hl4) (fun j v hj => ?_)
        have := hcell j (by have := (List.getElem?_eq_some_iff.1 hj).1; omega)
        rw [addr_add, addr_add] at this
        rw [this]; exact hj)
    have hbk : bulkTs ts + 1 ≤ bk x.1 := by
      rw [hx]
      refine Nat.le_trans (Nat.add_le_add_right ?_ 1) (B.slice _ _)
      refine bulkTs_sum (by simp; omega) (fun i hi hi' => ?_)
      simp only [List.getElem_map]
      exact (ht2 i hi).2 _
    refine ⟨ts, ⟨some a, cap, by rw [ht1], by rw [ht1]; exact hlc, by rw [ht1]; unfold maxKids; unfold reachBytes at hlen; omega, ?_⟩, hbk⟩
    by_cases h0 : ts = []
    · exact Or.inl h0
    · right
      have hpos : 0 < ts.length := List.length_pos_iff.2 h0
      have hsp := hspot (by omega)
      obtain ⟨b, o, sp⟩ := a
      have hsp' : sp = none := hsp
      subst hsp'
      exact ⟨b, o, rfl, ElemsC.of fun i hi => (ht2 i hi).1⟩
end
mutual
def cnt1 {H : Type} : DataW H → Nat
  | .lit _ => 1
  | .nil => 1
  | .ptr _ => 1
  | .slice es _ => cnts1 es + 1
  | .agg ps => cnts1 ps + 1
  | .iface _ _ => 1
  | .map _ => 1
  | .held _ => 1
def cnts1 {H : Type} : List (DataW H) → Nat
  | [] => 0
  | d :: r => cnt1 d + cnts1 r
end
theorem cnts1_sum {H : Type} : ∀ l : List (DataW H), cnts1 l = (l.map cnt1).sum
  | [] => by simp [cnts1]
  | d :: r => by simp [cnts1, cnts1_sum r]
theorem bulkOne (H : Type) : Bulky (H := H) cnt1 where
  lit := fun l => by simp [cnt1]
  nil := by simp [cnt1]
  agg := fun ps => by simp [cnt1, cnts1_sum]
  slice := fun es sp => by simp [cnt1, cnts1_sum]
end Go.Proofs.YtnjomdjkbbhdoaaGreatDoor
namespace Go.Proofs.YtnjomdjkbbhdoaaGreatDoor
open Go.RowKit
set_option linter.unusedVariables false
end Go.Proofs.YtnjomdjkbbhdoaaGreatDoor
namespace Go.Proofs.YtnjomdjkbbhdoaaGreatDoor
open Go.RowKit
set_option linter.unusedVariables false
def gatherT (ts : List T) : List Int → Option (List T)
  | [] => some []
  | h :: r => if (termV ts h).2 = true then (gatherT ts r).map ((termV ts h).1 :: ·) else none
def madeV (ts : List T) (g : List T → T × Bool) (hs : List Int) : Int × Int × List T :=
  match gatherT ts hs with
  | none => (-1, 71, ts)
  | some l => if (g l).2 = true then intern ts (g l).1 else (-1, 72, ts)
def ofT (op : Int) (d : List UInt8) (l : List T) : T × Bool := (.mk op 0 d l, true)
theorem madeV_some {ts : List T} {g : List T → T × Bool} {hs : List Int} {l : List T} (h : gatherT ts hs = some l) : madeV ts g hs = if (g l).2 = true then intern ts (g l).1 else (-1, 72, ts) := by
  unfold madeV; rw [h]
theorem madeV_none {ts : List T} {g : List T → T × Bool} {hs : List Int} (h : gatherT ts hs = none) : madeV ts g hs = (-1, 71, ts) := by
  unfold madeV; rw [h]
theorem madeV_tab {ts : List T} {g : List T → T × Bool} {hs : List Int} (h : TabI ts) : TabI (madeV ts g hs).2.2 := by
  unfold madeV
  split
  · exact h
  · split
    · exact intern_tab h
    · exact h
def IntsV (σ : Hp) (v : Value) (zs : List Int) : Prop := ∃ p c, v = .slice p zs.length c ∧ zs.length ≤ c ∧ (zs = [] ∨ ∃ b o, p = some ⟨b, o, none⟩ ∧ CellsAt σ b o (intsV zs))
theorem IntsV.le {σ τ : Hp} (hl : Le σ τ) {v : Value} {zs : List Int} (h : IntsV σ v zs) : IntsV τ v zs := by
  obtain ⟨p, c, h1, h2, h3⟩ := h
  exact ⟨p, c, h1, h2, h3.imp id fun ⟨b, o, e, k⟩ => ⟨b, o, e, k.le hl⟩⟩
theorem IntsV.nil (σ : Hp) : IntsV σ (.slice none 0 0) [] := ⟨none, 0, rfl, Nat.le_refl _, .inl rfl⟩
theorem IntsV.lit {σ : Hp} {b : Nat} {ty : TypeId} {fz : Nat × Nat} {zs : List Int} {n : Nat} (h : σ b = some (.cells (intsV zs).toArray ty fz)) (hn : zs.length = n) : IntsV σ (.slice (some ⟨b, 0, none⟩) n n) zs := by
  subst hn
  exact ⟨_, zs.length, rfl, Nat.le_refl _, .inr ⟨b, 0, rfl, _, ty, fz, h, fun j v hj => by simpa using hj⟩⟩
theorem St.frz1 {w0 w : World} {M : Nat → Prop} {σ : Hp} {H G : List (Nat × Obj)} {b : Nat} {o : Obj} (hs : St w0 M σ ((b, o) :: H) G w) (hM : M b → False) : ∃ σ', Le σ σ' ∧ Fresh σ σ' w0 ∧ σ' b = some o ∧ St w0 M σ' H G w := by
  refine ⟨ext σ b o, le_ext (hs.fresh (p := (b, o)) (by simp)), fun x ob hx => ?_, ext_self _ _ _, hs.freeze⟩
  unfold ext at hx
  split at hx
  · rename_i hb; subst hb; exact .inr ((St0.mo hs (x, o) (by simp)).resolve_left hM)
  · exact .inl hx
theorem Has.of_im {σ σK : Hp} {K : List (Nat × Obj)} {w w' : World} (h : Has σ K w) (hi : Imm σK w') (hle : Le (Go.Proofs.YtnjomdjkbbhdoaaGreatDoor.exts σ K) σK) : Has σ K w' :=
  ⟨fun b o e => hi b o (hle b o (h.le b o e)), fun p hp => hi _ _ (hle _ _ (exts_get h.nd hp)), h.dj, h.nd⟩
theorem Has.next {σ σ1 σK : Hp} {K : List (Nat × Obj)} {w w' : World} (h : Has σ K w) (hf : Fresh σ σ1 w) (hi : Imm σK w') (hle : Le (Go.Proofs.YtnjomdjkbbhdoaaGreatDoor.exts σ K) σK) (h1 : Le σ1 σK) : Has σ1 K w' :=
  ⟨fun b o e => hi b o (h1 b o e), fun p hp => hi _ _ (hle _ _ (exts_get h.nd hp)), fun p hp => by
    cases e : σ1 p.1 with
    | none => rfl
    | some o =>
      rcases hf p.1 o e with h2 | h2
      · rw [h.dj p hp] at h2; cases h2
      · have := (Array.getElem?_eq_some_iff.1 (h.ow p hp)).1; omega, h.nd⟩
def RepBoth (x y : T) (is : Bool) (σ : Hp) (u : Value) : Prop := ∃ cx cy, u = .tuple #[.agg cx.toArray, .agg cy.toArray, .bool is] ∧ TermC σ cx x ∧ TermC σ cy y
instance (x y : T) (is : Bool) : MonoR (RepBoth x y is) := ⟨fun hl ⟨cx, cy, e, h1, h2⟩ => ⟨cx, cy, e, h1.le hl, h2.le hl⟩⟩
def RepBB (d : List UInt8) (is : Bool) (σ : Hp) (u : Value) : Prop := ∃ v, u = .tuple #[v, .bool is] ∧ BytesV σ v d
instance (d : List UInt8) (is : Bool) : MonoR (RepBB d is) := ⟨fun hl ⟨v, e, h⟩ => ⟨v, e, h.le hl⟩⟩
theorem keyed_one {t : T} (h : right t = true) (ho : t.op = 2 ∨ t.op = 3 ∨ t.op = 4 ∨ t.op = 6) : t.kids.length = 1 := by
  have := (right_shape h).1
  unfold shape at this
  simp only [Bool.and_eq_true] at this
  have h2 := this.2
  rw [if_neg (by omega), if_neg (by omega)] at h2
  simpa using h2
def RepOf (F : FuncId) (op : Int) (d : List UInt8) (σ : Hp) (u : Value) : Prop := ∃ b2 b3 v, u = .func (.func F) #[] #[.pointer (some ⟨b2, 0, none⟩), .pointer (some ⟨b3, 0, none⟩)] ∧ CellsAt σ b2 0 [.int .i64 op] ∧ CellsAt σ b3 0 [v] ∧ BytesV σ v d
instance (F : FuncId) (op : Int) (d : List UInt8) : MonoR (RepOf F op d) := ⟨fun hl ⟨b2, b3, v, e, h1, h2, h3⟩ => ⟨b2, b3, v, e, h1.le hl, h2.le hl, h3.le hl⟩⟩
section
variable {P : Program} {l0 : List Oper} {Q : Exit → Act → World → Prop} {l rest : List Oper} {N : Nat} {L : TL} {d : Nat} {ty : TypeId} {pos : String} {af : Array Edge} {g : Option (Nat × Bool)} {w0 : World} {M : Nat → Prop} {σ : Hp} {H G : List (Nat × Obj)}
theorem ow_frzO {o : Obj} {b : Nat} (hM : ∀ b, M b → False) (k : ∀ σ', Le σ σ' → Fresh σ σ' w0 → σ' b = some o → OW P l0 Q l N L (St w0 M σ' H G)) : OW P l0 Q l N L (St w0 M σ ((b, o) :: H) G) := fun a w hf hs => by
  obtain ⟨σ', h1, h2, h3, h4⟩ := hs.frz1 (hM b)
  exact k σ' h1 h2 h3 a w hf h4
end
theorem BytesV.lit {σ : Hp} {b : Nat} {ty : TypeId} {fz : Nat × Nat} {d : List UInt8} {n : Nat} (h : σ b = some (.cells (d.map byteV).toArray ty fz)) (hn : d.length = n) (hm : d.length ≤ maxData) : BytesV σ (.slice (some ⟨b, 0, none⟩) n n) d := by
  subst hn
  exact ⟨_, d.length, rfl, Nat.le_refl _, hm, .inr ⟨b, 0, rfl, _, ty, fz, h, fun j v hj => by simpa using hj⟩⟩
section
variable {P : Program} {N : Nat} {L : TL} {S : World → Prop}
theorem ex_streql {t u : TypeId} {x y : Operand} {a b : List UInt8} (hx : ev L x = some (.string (strOf a))) (hy : ev L y = some (.string (strOf b))) : Ex P (.binOp .eql t x y u) N L S (.bool (a == b)) := fun ac w hf hS d ty pos af g => by
  simp [execOp, hf.eval hx, hf.eval hy, eqGuard, binOp, Op.stringOp, strOf_toList]
end
end Go.Proofs.YtnjomdjkbbhdoaaGreatDoor
namespace Go.Proofs.YtnjomdjkbbhdoaaGreatDoor
open Go.RowKit
set_option linter.unusedVariables false
set_option linter.unusedSimpArgs false
set_option maxRecDepth 100000
set_option maxHeartbeats 400000 in
theorem pNew {σ : Hp} {w : World} (hi : Imm σ w) : Calls Tryz.prog 44 #[] w (GiveK (fun σ' u K' => ∃ b, u = .pointer (some ⟨b, 0, none⟩) ∧ VaultK 80 32 b [] σ' K') σ [] w) := by
  refine enter (St w (keysOf []) σ [] []) Tryz.func44 rfl Tryz.ntmps44 rfl (Has.start (Has.nil hi)) ?_
  refine cw_seq ?_
  refine cw_region ?_
  refine ow_val rfl rfl (ex_assign rfl) ?_
  refine ow_nil ?_
  refine qw_seq ?_
  refine cw_seq ?_
  refine cw_region ?_
  refine ow_mkmap rfl rfl exw_mkmap ?_
  intro m
  refine ow_val rfl rfl (ex_build (parts := [(1, _)]) (cells := #[.slice none 0 0, .map (some m)]) rfl (by kernel_rfl)) ?_
  refine ow_blk rfl rfl (exw_box rfl) ?_; intro b3
  refine ow_val rfl rfl (ex_assign rfl) ?_
  refine ow_nil ?_
  refine qw_seq ?_
  refine cw_ret ?_
  refine qw_ret1 rfl rfl (fun w' h => (St.flip h).givesK (Le.refl _) (Fresh.refl _ _) ⟨_, rfl, .slice none 0 0, [], m, [], rfl, OwnSl.nil _ _, rfl, TabI.nil, by simp⟩)
set_option maxHeartbeats 400000 in
theorem pLen {b c m : Nat} {p : Option Addr} {ts : List T} {σ : Hp} {w : World} (hi : Imm σ w) (hv : SeenV σ b ts p c m) : Calls Tryz.prog 37 #[.pointer (some ⟨b, 0, none⟩)] w fun e w' => e = .returned (.int .i64 (ts.length : Int)) ∧ Below w.heap.size w w' := by
  have hc0 := hv.c0
  refine enter (St w (fun _ => False) σ [] []) Tryz.func37 rfl Tryz.ntmps37 rfl (St.start hi) ?_
  refine cw_seq ?_
  refine cw_region ?_
  refine ow_val rfl rfl (ex_assign rfl) ?_
  refine ow_nil ?_
  refine qw_seq ?_
  refine cw_seq ?_
  refine cw_region ?_
  refine ow_val rfl rfl (ex_move rfl) ?_
  refine ow_val rfl rfl (ex_nilck rfl) ?_
  refine ow_val rfl rfl (ex_field rfl) ?_
  refine ow_val rfl rfl (ex_load1 rfl (by first | exact ld_own1 0 rfl rfl | exact ld_own1 1 rfl rfl | exact ld_own1 2 rfl rfl | exact ld_own1 3 rfl rfl | exact ld_own1 4 rfl rfl | exact ld_own1 5 rfl rfl | exact ld_own1 6 rfl rfl | exact ld_own1 7 rfl rfl | exact ld_ownG1 0 rfl rfl | exact ld_ownG1 1 rfl rfl | exact ld_imm1 (by assumption))) ?_
  refine ow_val rfl rfl (ex_len (ty := 0) rfl) ?_
  refine ow_val rfl rfl (ex_assign rfl) ?_
  refine ow_nil ?_
  refine qw_seq ?_
  refine cw_ret ?_
  refine qw_ret1 rfl rfl (fun w' h => ⟨rfl, h.ag.below⟩)
set_option maxHeartbeats 400000 in
theorem pFind (t : T) {b c m : Nat} {p : Option Addr} {ts : List T} {ct : List Value} {σ : Hp} {w : World} (hi : Imm σ w) (htab : TabC Tryz.prog σ) (hv : SeenV σ b ts p c m) (ht : TermC σ ct t) (hl : (keyB t).length ≤ 140737488355328) : Calls Tryz.prog 41 #[.pointer (some ⟨b, 0, none⟩), .agg ct.toArray] w fun e w' => e = .returned (.tuple #[.int .i64 (posT ts t), .bool (decide (0 ≤ posT ts t))]) ∧ Below w.heap.size w w' := by
  have hc1 := hv.c1
  have ht0 := ht
  obtain ⟨dv, kv, rfl, ho, hn, hd, hk⟩ := ht.opn
  refine enter (St w (fun _ => False) σ [] []) Tryz.func41 rfl Tryz.ntmps41 rfl (St.start hi) ?_
  refine cw_seq ?_
  refine cw_region ?_
  refine ow_blk rfl rfl (exw_box rfl) ?_; intro b3
  refine ow_val rfl rfl (ex_assign rfl) ?_
  refine ow_val rfl rfl (ex_assign rfl) ?_
  refine ow_nil ?_
  refine qw_seq ?_
  refine cw_seq ?_
  refine cw_seq ?_
  refine flow_sound 12 (by kernel_rfl) ?_
  refine flow_val rfl (ex_move rfl) ?_
  refine flow_val rfl (ex_nilck rfl) ?_
  refine flow_val rfl (ex_field rfl) ?_
  refine flow_val rfl (ex_load1 rfl (by first | exact ld_own1 0 rfl rfl | exact ld_own1 1 rfl rfl | exact ld_own1 2 rfl rfl | exact ld_own1 3 rfl rfl | exact ld_own1 4 rfl rfl | exact ld_own1 5 rfl rfl | exact ld_own1 6 rfl rfl | exact ld_own1 7 rfl rfl | exact ld_ownG1 0 rfl rfl | exact ld_ownG1 1 rfl rfl | exact ld_imm1 (by assumption))) ?_
  refine flow_val rfl (ex_loadR rfl (by first | exact ld_ownN 0 rfl rfl | exact ld_ownN 1 rfl rfl | exact ld_ownN 2 rfl rfl | exact ld_ownN 3 rfl rfl | exact ld_ownN 4 rfl rfl | exact ld_ownN 5 rfl rfl | exact ld_ownN 6 rfl rfl | exact ld_ownN 7 rfl rfl | exact ld_ownGN 0 rfl rfl | exact ld_ownGN 1 rfl rfl | exact ld_immT (by assumption) (by assumption))) ?_
  refine flow_cv rfl (ex_callf rfl (fun w h => callB ((pKey t h.im htab ht0 hl)))) ?_
  refine flow_val rfl (ex_mapget rfl rfl (fun w h => h.im _ _ hv.mp)) ?_
  refine flow_val rfl (ex_move rfl) ?_
  refine flow_val rfl (ex_extract rfl rfl) ?_
  refine flow_val rfl (ex_extract rfl rfl) ?_
  refine flow_val rfl (ex_assign rfl) ?_
  refine flow_val rfl (ex_assign rfl) ?_
  refine flow_nil ?_
  refine fin_is ?_
  refine fin_is ?_
  refine fin_is ?_
  refine fin_is ?_
  refine fin_is ?_
  refine fin_is ?_
  refine fin_is ?_
  refine fin_is ?_
  refine fin_is ?_
  refine fin_is ?_
  refine fin_is ?_
  refine fin_is ?_
  refine fin_nil ?_
  refine ow_nil ?_
  refine qw_seq ?_
  refine cw_seq ?_
  refine cw_region ?_
  refine ow_val rfl rfl (ex_move rfl) ?_
  refine ow_nil ?_
  refine qw_seq ?_
  refine cw_cond rfl (fun c18 => ?_) (fun c18 => ?_)
  ·
    refine cw_seq ?_
    refine cw_region ?_
    refine ow_val rfl rfl (ex_move rfl) ?_
    refine ow_val rfl rfl (ex_assign rfl) ?_
    refine ow_val rfl rfl (ex_assign rfl) ?_
    refine ow_nil ?_
    refine qw_seq ?_
    refine cw_ret ?_
    refine qw_then_ret ?_
    refine qw_ret2 rfl rfl rfl (fun w' h => ⟨?_, h.ag.below⟩)
    have h0 := of_decide_eq_true c18
    rw [if_pos h0, decide_eq_true h0]
  ·
    refine cw_skip ?_
    refine qw_seq ?_
    refine cw_seq ?_
    refine cw_region ?_
    refine ow_val rfl rfl (ex_assign rfl) ?_
    refine ow_val rfl rfl (ex_assign rfl) ?_
    refine ow_nil ?_
    refine qw_seq ?_
    refine cw_ret ?_
    refine qw_ret2 rfl rfl rfl (fun w' h => ⟨?_, h.ag.below⟩)
    have h0 := of_decide_eq_false c18
    rw [posT_none h0]
    rfl
set_option maxHeartbeats 400000 in
theorem pTerm {b : Nat} {n : Int} {ts : List T} {σ : Hp} {K : List (Nat × Obj)} {w : World} (hi : Has σ K w) (hv : VaultK 80 32 b ts σ K) : Calls Tryz.prog 11 #[.pointer (some ⟨b, 0, none⟩), .int .i64 n] w (GiveR (RepTB (termV ts n).1 (termV ts n).2) σ w) := by
  obtain ⟨sv, xs, m, Gs, rfl, hO, hrow, hti, hfew⟩ := hv
  obtain ⟨p, c, rfl, hcap, hsrc⟩ := hO.seen (σ := exts σ ((b, .cells #[sv, .map (some m)] 80) :: (m, mapObj ts) :: Gs)) (fun q hq => exts_get hi.nd (by simp [hq]))
  have hc0 : CellsAt (exts σ ((b, .cells #[.slice p ts.length c, .map (some m)] 80) :: (m, mapObj ts) :: Gs)) b 0 [.slice p ts.length c] := CellsAt.of1 (exts_get hi.nd List.mem_cons_self) rfl
  have hlt := hi.le
  have him := hi.exts
  generalize exts σ ((b, .cells #[.slice p ts.length c, .map (some m)] 80) :: (m, mapObj ts) :: Gs) = σK at *
  refine enter (St w (fun _ => False) σK [] []) Tryz.func11 rfl Tryz.ntmps11 rfl (St.start him) ?_
  refine cw_seq ?_
  refine cw_region ?_
  refine ow_blk rfl rfl exw_alloc ?_; intro b4
  refine ow_val rfl rfl (ex_assign rfl) ?_
  refine ow_nil ?_
  refine qw_seq ?_
  refine cw_seq ?_
  refine cw_seq ?_
  refine cw_region ?_
  refine ow_val rfl rfl (ex_move rfl) ?_
  refine ow_val rfl rfl (ex_lss rfl rfl) ?_
  refine ow_val rfl rfl (ex_move rfl) ?_
  refine ow_split (g := some (2, false)) rfl (fun s8 => ?_) (fun s8 => ?_)
  ·
    refine ow_skip rfl (gd_no rfl s8) ?_
    refine ow_skip rfl (gd_no rfl s8) ?_
    refine ow_skip rfl (gd_no rfl s8) ?_
    refine ow_skip rfl (gd_no rfl s8) ?_
    refine ow_skip rfl (gd_no rfl s8) ?_
    refine ow_skip rfl (gd_no rfl s8) ?_
    refine ow_skip rfl (gd_no rfl s8) ?_
    refine ow_val rfl rfl (ex_pickt rfl s8 rfl) ?_
    refine ow_nil ?_
    refine qw_seq ?_
    refine cw_cond_t rfl ?_
    refine cw_seq ?_
    refine cw_region ?_
    refine ow_val rfl rfl (ex_build (parts := []) (cells := #[.int .i64 0, .int .i64 0, .slice none 0 0, .slice none 0 0]) rfl (by kernel_rfl)) ?_
    refine ow_u rfl (exu_storeN 0 (cs := [.int .i64 0, .int .i64 0, .slice none 0 0, .slice none 0 0]) rfl rfl rfl rfl (zeroT_c σ).one rfl) ?_
    refine ow_val rfl rfl (ex_assign rfl) ?_
    refine ow_nil ?_
    refine qw_seq ?_
    refine cw_ret ?_
    refine qw_then_ret ?_
    refine qw_retC1 rfl rfl (ld_ownN 0 rfl rfl) rfl (fun w' h => ?_)
    have e : termV ts n = (zeroT, false) := by
      have h8 := of_decide_eq_true s8
      unfold termV
      rw [if_neg (by omega)]
    rw [e]
    exact h.givesS hlt (Le.refl _) (Fresh.refl _ _) ⟨_, rfl, zeroT_c σ⟩
  ·
    refine ow_val rfl (gd_go rfl s8) (ex_move rfl) ?_
    refine ow_val rfl (gd_go rfl s8) (ex_move rfl) ?_
    refine ow_val rfl (gd_go rfl s8) (ex_nilck rfl) ?_
    refine ow_val rfl (gd_go rfl s8) (ex_field rfl) ?_
    refine ow_val rfl (gd_go rfl s8) (ex_load1 rfl (by first | exact ld_own1 0 rfl rfl | exact ld_own1 1 rfl rfl | exact ld_own1 2 rfl rfl | exact ld_own1 3 rfl rfl | exact ld_own1 4 rfl rfl | exact ld_own1 5 rfl rfl | exact ld_own1 6 rfl rfl | exact ld_own1 7 rfl rfl | exact ld_ownG1 0 rfl rfl | exact ld_ownG1 1 rfl rfl | exact ld_imm1 (by assumption))) ?_
    refine ow_val rfl (gd_go rfl s8) (ex_len (ty := 0) rfl) ?_
    refine ow_val rfl (gd_go rfl s8) (ex_geq rfl rfl) ?_
    refine ow_val rfl rfl (ex_pickf rfl s8 rfl) ?_
    refine ow_nil ?_
    refine qw_seq ?_
    refine cw_cond rfl (fun c16 => ?_) (fun c16 => ?_)
    ·
      refine cw_seq ?_
      refine cw_region ?_
      refine ow_val rfl rfl (ex_build (parts := []) (cells := #[.int .i64 0, .int .i64 0, .slice none 0 0, .slice none 0 0]) rfl (by kernel_rfl)) ?_
      refine ow_u rfl (exu_storeN 0 (cs := [.int .i64 0, .int .i64 0, .slice none 0 0, .slice none 0 0]) rfl rfl rfl rfl (zeroT_c σ).one rfl) ?_
      refine ow_val rfl rfl (ex_assign rfl) ?_
      refine ow_nil ?_
      refine qw_seq ?_
      refine cw_ret ?_
      refine qw_then_ret ?_
      refine qw_retC1 rfl rfl (ld_ownN 0 rfl rfl) rfl (fun w' h => ?_)
      have e : termV ts n = (zeroT, false) := by
        have h8 := of_decide_eq_true c16
        unfold termV
        rw [if_neg (by omega)]
      rw [e]
      exact h.givesS hlt (Le.refl _) (Fresh.refl _ _) ⟨_, rfl, zeroT_c σ⟩
    ·
      refine cw_skip ?_
      refine qw_seq ?_
      refine cw_seq ?_
      obtain ⟨hn0, hn1⟩ : 0 ≤ n ∧ n < ts.length := by
        first | (simp at *; omega) | (simp at *; constructor <;> omega)
      obtain ⟨i, rfl⟩ : ∃ i : Nat, n = (i : Int) := ⟨n.toNat, by omega⟩
      have hil : i < ts.length := by omega
      obtain ⟨cs, htc, hcs⟩ := hrow.at i hil
      obtain ⟨bb, ob, rfl, hcb⟩ := hsrc.resolve_left (by omega)
      have hca : CellsAt σK bb (ob + i * 4) cs := by rw [← hcs]; exact (hcb.drop (i * 4)).take 4
      have hcl := htc.len
      refine cw_region ?_
      refine ow_val rfl rfl (ex_move rfl) ?_
      refine ow_val rfl rfl (ex_nilck rfl) ?_
      refine ow_val rfl rfl (ex_field rfl) ?_
      refine ow_val rfl rfl (ex_load1 rfl (by first | exact ld_own1 0 rfl rfl | exact ld_own1 1 rfl rfl | exact ld_own1 2 rfl rfl | exact ld_own1 3 rfl rfl | exact ld_own1 4 rfl rfl | exact ld_own1 5 rfl rfl | exact ld_own1 6 rfl rfl | exact ld_own1 7 rfl rfl | exact ld_ownG1 0 rfl rfl | exact ld_ownG1 1 rfl rfl | exact ld_imm1 (by assumption))) ?_
      refine ow_val rfl rfl (ex_move rfl) ?_
      refine ow_val rfl rfl (ex_index_nat rfl rfl (by omega)) ?_
      refine ow_val rfl rfl (ex_loadR rfl ⟨hcl, fun w h => hca.range h.im⟩) ?_
      refine ow_crs rfl rfl hlt (ex_callf rfl (fun w h => callR (pNorm pSortsS (by unfold maxKids; omega) _ (right_slim (hti.rt _ (List.getElem_mem hil))).2 (fun b o e => h.im b o (hlt b o e)) htc))) (fun v25 τ τK hl hf hr hlk hle => ?_)
      rw [(right_slim (hti.rt _ (List.getElem_mem hil))).1] at hr
      obtain ⟨c25, rfl, ht25⟩ := hr
      have ht25' := ht25
      obtain ⟨d25, k25, rfl, _, _, _, _⟩ := ht25'.opn
      refine ow_u rfl (exu_storeN 0 rfl rfl rfl rfl ht25.one rfl) ?_
      refine ow_val rfl rfl (ex_assign rfl) ?_
      refine ow_nil ?_
      refine qw_seq ?_
      refine cw_ret ?_
      refine qw_retC1 rfl rfl (ld_ownN 0 rfl rfl) rfl (fun w' h => ?_)
      have e : termV ts (i : Int) = (ts[i], true) := by
        unfold termV
        rw [if_pos ⟨hn0, hn1⟩]
        simp [List.getD_eq_getElem?_getD, hil]
      rw [e]
      exact h.givesS hle hl hf ⟨_, rfl, ht25⟩
set_option maxHeartbeats 400000 in
theorem pPut : ∀ (t : T) {b : Nat} {ts : List T} {ct : List Value} {σ : Hp} {K : List (Nat × Obj)} {w : World}, Has σ K w → TabC Tryz.prog σ → VaultK 80 32 b ts σ K → TermC σ ct t → right t = true → (0 ≤ posT ts t ∨ ts.length + size t ≤ 4096) → Calls Tryz.prog 74 #[.pointer (some ⟨b, 0, none⟩), .agg ct.toArray] w (GiveK (fun σ' u K' => u = .int .i64 (numV t ts) ∧ VaultK 80 32 b (putV t ts) σ' K') σ K w) := by
  intro t
  induction t using T.ind with
  | _ o n d ks ih =>
  intro b ts ct σ K w hi htab hv ht hr hroom
  have ht0 := ht
  obtain ⟨dv, kv, rfl, ho, hn, hd, hk⟩ := ht.opn
  simp only [T.kids, T.op, T.num, T.data] at *
  obtain ⟨p, c, rfl, hc, hm⟩ := hk.slice
  have hm2 := hm
  unfold maxKids at hm2
  obtain ⟨pv, cv, mv, hs⟩ := hv.seenX hi
  have hlim := right_lim hr
  have hslim := right_slim hr
  refine enter (St w (keysOf K) σ [] K) Tryz.func74 rfl Tryz.ntmps74 rfl (Has.start hi) ?_
  refine cw_seq ?_
  refine cw_region ?_
  refine ow_blk rfl rfl (exw_box rfl) ?_; intro b3
  refine ow_val rfl rfl (ex_assign rfl) ?_
  refine ow_nil ?_
  refine qw_seq ?_
  refine cw_seq ?_
  refine cw_region ?_
  refine ow_val rfl rfl (ex_loadR rfl (by first | exact ld_ownN 0 rfl rfl | exact ld_ownN 1 rfl rfl | exact ld_ownN 2 rfl rfl | exact ld_ownN 3 rfl rfl | exact ld_ownN 4 rfl rfl | exact ld_ownN 5 rfl rfl | exact ld_ownN 6 rfl rfl | exact ld_ownN 7 rfl rfl | exact ld_ownGN 0 rfl rfl | exact ld_ownGN 1 rfl rfl | exact ld_immT (by assumption) (by assumption))) ?_
  refine ow_cv rfl rfl (ex_callf rfl (fun w h => callB ((pKey _ h.im htab ht0 hlim)))) ?_
  refine ow_val rfl rfl (ex_assign rfl) ?_
  refine ow_nil ?_
  refine qw_seq ?_
  refine cw_seq ?_
  refine cw_seq ?_
  refine cw_region ?_
  refine ow_val rfl rfl (ex_move rfl) ?_
  refine ow_val rfl rfl (ex_nilck rfl) ?_
  refine ow_val rfl rfl (ex_field rfl) ?_
  refine ow_val rfl rfl (ex_load1 rfl (fun w h => hs.c1.cell h.hasE.exts)) ?_
  refine ow_val rfl rfl (ex_move rfl) ?_
  refine ow_val rfl rfl (ex_mapget rfl rfl (fun w h => h.hasE.exts _ _ hs.mp)) ?_
  refine ow_val rfl rfl (ex_move rfl) ?_
  refine ow_val rfl rfl (ex_extract rfl rfl) ?_
  refine ow_val rfl rfl (ex_extract rfl rfl) ?_
  refine ow_val rfl rfl (ex_assign rfl) ?_
  refine ow_val rfl rfl (ex_assign rfl) ?_
  refine ow_nil ?_
  refine qw_seq ?_
  refine cw_seq ?_
  refine cw_region ?_
  refine ow_val rfl rfl (ex_move rfl) ?_
  refine ow_nil ?_
  refine qw_seq ?_
  refine cw_cond rfl (fun c22 => ?_) (fun c22 => ?_)
  ·
    refine cw_seq ?_
    refine cw_region ?_
    refine ow_val rfl rfl (ex_move rfl) ?_
    refine ow_val rfl rfl (ex_assign rfl) ?_
    refine ow_nil ?_
    refine qw_seq ?_
    refine cw_ret ?_
    refine qw_then_ret ?_
    refine qw_ret1 rfl rfl (fun w' h => ?_)
    have h0 := of_decide_eq_true c22
    refine (h.drop (List.nil_sublist _)).givesK (Le.refl _) (Fresh.refl _ _) ⟨?_, ?_⟩
    · unfold numV
      rw [if_pos h0, if_pos h0]
    · rw [putV_mk, if_pos h0]
      exact hv
  ·
    have hnp : ¬ 0 ≤ posT ts (.mk o n d ks) := of_decide_eq_false c22
    have hsz := hroom.resolve_left hnp
    simp only [size] at hsz
    refine cw_skip ?_
    refine qw_seq ?_
    refine cw_seq ?_
    refine cw_seq ?_
    refine cw_region ?_
    refine ow_val rfl rfl (ex_field rfl) ?_
    refine ow_val rfl rfl (ex_load1 rfl (by first | exact ld_own1 0 rfl rfl | exact ld_own1 1 rfl rfl | exact ld_own1 2 rfl rfl | exact ld_own1 3 rfl rfl | exact ld_own1 4 rfl rfl | exact ld_own1 5 rfl rfl | exact ld_own1 6 rfl rfl | exact ld_own1 7 rfl rfl | exact ld_ownG1 0 rfl rfl | exact ld_ownG1 1 rfl rfl | exact ld_imm1 (by assumption))) ?_
    refine ow_val rfl rfl (ex_len (ty := 0) rfl) ?_
    refine ow_val rfl rfl (ex_move rfl) ?_
    refine ow_nil ?_
    refine qw_seq ?_
    refine cw_block ?_
    refine cw_loop3 (fun (j : Nat) (τ : Hp) (K' : List (Nat × Obj)) => [(0, .pointer (some ⟨b, 0, none⟩)), (3, .pointer (some ⟨b3, 0, none⟩)), (5, .string (strOf (keyB (.mk o n d ks)))), (25, .slice p ks.length c), (26, .int .i64 (ks.length : Int)), (27, .int .i64 (j : Int))]) (fun j τ K' => j ≤ ks.length ∧ Le σ τ ∧ Fresh σ τ w ∧ VaultK 80 32 b (putVs (ks.take j) ts) τ K') (fun j τ K' => τ) (fun j τ K' => K') (fun j _ _ => ks.length - j) 0 σ K (subL_cons (lkv rfl (by first | rfl | simp)) (subL_cons (lkv rfl (by first | rfl | simp)) (subL_cons (lkv rfl (by first | rfl | simp)) (subL_cons (lkv rfl (by first | rfl | simp)) (subL_cons (lkv rfl (by first | rfl | simp)) (subL_cons (lkv rfl (by first | rfl | simp)) (subL_nil _))))))) ⟨Nat.zero_le _, Le.refl _, Fresh.refl _ _, by simpa [putVs] using hv⟩ (fun w h => h) ?_
    intro j τj Kj ⟨hlej, hlj, hfj, hvj⟩
    refine cw_seq ?_
    refine cw_region ?_
    refine ow_val rfl rfl (ex_lss rfl rfl) ?_
    refine ow_nil ?_
    refine qw_seq ?_
    refine cw_seq ?_
    refine cw_cond rfl (fun c28 => ?_) (fun c28 => ?_)
    ·
      refine cw_skip ?_
      refine qw_seq ?_
      refine cw_seq ?_
      refine cw_block ?_
      refine cw_seq ?_
      have hltj : j < ks.length := by have := of_decide_eq_true c28; omega
      obtain ⟨bk, f, c', cs, e1, e2, hc1, ht1⟩ := hk.get j hltj
      cases e1
      have ht1' := ht1
      obtain ⟨d9, k9, rfl, _, _, _, _⟩ := ht1'.opn
      have hst := putVs_take ks ts j hltj
      have hpl := putVs_len ks ts j
      have hs1 := sizes_take ks j hltj
      have hs2 := sizes_take_le ks (j + 1)
      refine cw_region ?_
      refine ow_val rfl rfl (ex_index_nat rfl rfl (by omega)) ?_
      refine ow_val rfl rfl (ex_loadR rfl (ld_immT (hc1.le hlj) (ht1.le hlj))) ?_
      refine ow_blk rfl rfl exw_alloc ?_; intro b9
      refine ow_u rfl (exu_storeN 0 rfl rfl rfl rfl ht1.one rfl) ?_
      refine ow_nil ?_
      refine qw_seq ?_
      refine cw_region ?_
      refine ow_val rfl rfl (ex_move rfl) ?_
      refine ow_val rfl rfl (ex_loadR rfl (by first | exact ld_ownN 0 rfl rfl | exact ld_ownN 1 rfl rfl | exact ld_ownN 2 rfl rfl | exact ld_ownN 3 rfl rfl | exact ld_ownN 4 rfl rfl | exact ld_ownN 5 rfl rfl | exact ld_ownN 6 rfl rfl | exact ld_ownN 7 rfl rfl | exact ld_ownGN 0 rfl rfl | exact ld_ownGN 1 rfl rfl | exact ld_immT (by assumption) (by assumption))) ?_
      refine ow_ckE rfl rfl (ex_callf rfl (fun w h => ih _ (List.getElem_mem hltj) h.hasE (htab.le hlj) hvj (ht1.le hlj) (right_in (t := .mk o n d ks) hr (List.getElem_mem hltj)) (.inr (by omega)))) (fun v33 τ33 K33 hl33 hf33 hr33 => ?_)
      refine ow_nil ?_
      refine qw_block_normal ?_
      refine qw_seq ?_
      refine cw_region ?_
      refine ow_val rfl rfl (ex_addi (z := ((j + 1 : Nat) : Int)) rfl rfl (by omega) (by omega) (by omega)) ?_
      refine ow_val rfl rfl (ex_move rfl) ?_
      refine ow_nil ?_
      refine qw_round3 (j + 1) τ33 K33 (by omega) (subL_cons (lkv rfl (by first | rfl | simp)) (subL_cons (lkv rfl (by first | rfl | simp)) (subL_cons (lkv rfl (by first | rfl | simp)) (subL_cons (lkv rfl (by first | rfl | simp)) (subL_cons (lkv rfl (by first | rfl | simp)) (subL_cons (lkv rfl (by first | rfl | simp)) (subL_nil _))))))) ⟨by omega, hlj.trans hl33, hfj.trans hf33, ?_⟩ (fun w h => h.drop (List.sublist_cons_self _ _))
      rw [hst]
      exact hr33.2
    ·
      refine cw_exit ?_
      refine qw_then_exit ?_
      refine qw_then_exit ?_
      refine qw_block_exit ?_
      refine qw_seq ?_
      refine cw_seq ?_
      have he : j = ks.length := by have := of_decide_eq_false c28; omega
      subst he
      rw [List.take_length] at hvj
      have hpl := putVs_len ks ts ks.length
      rw [List.take_length] at hpl
      have hnew := putVs_new (t := .mk o n d ks) hnp
      simp only [T.kids] at hnew
      obtain ⟨sv, xs, m, Gs, rfl, hO, hrow, hti, hfew⟩ := hvj
      obtain ⟨pq, cq, rfl, hcq⟩ := hO.slice
      refine cw_region ?_
      refine ow_val rfl rfl (ex_move rfl) ?_
      refine ow_val rfl rfl (ex_nilck rfl) ?_
      refine ow_val rfl rfl (ex_field rfl) ?_
      refine ow_val rfl rfl (ex_load1 rfl (by first | exact ld_own1 0 rfl rfl | exact ld_own1 1 rfl rfl | exact ld_own1 2 rfl rfl | exact ld_own1 3 rfl rfl | exact ld_own1 4 rfl rfl | exact ld_own1 5 rfl rfl | exact ld_own1 6 rfl rfl | exact ld_own1 7 rfl rfl | exact ld_ownG1 0 rfl rfl | exact ld_ownG1 1 rfl rfl | exact ld_imm1 (by assumption))) ?_
      refine ow_val rfl rfl (ex_len (ty := 0) rfl) ?_
      refine ow_val rfl rfl (ex_assign rfl) ?_
      refine ow_nil ?_
      refine qw_seq ?_
      refine cw_cut [(0, .pointer (some ⟨b, 0, none⟩)), (5, .string (strOf (keyB (.mk o n d ks)))), (10, .int .i64 ((putVs ks ts).length : Int))] (fun w' => ∃ (τ5 : Hp) (c45 : List Value) (g cg : Nat) (tl : List Value), (Le τj τ5 ∧ Fresh τj τ5 w ∧ TermC τ5 c45 (.mk o n d ks) ∧ (putVs ks ts).length + 1 ≤ cg ∧ cg ≤ maxLen ∧ (xs ++ c45 ++ tl).length = cg * 4) ∧ St w (keysOf K) τ5 [(g, rowO (xs ++ c45) tl 32), (m, mapObj (putVs ks ts)), (b, .cells #[.slice (some ⟨g, 0, none⟩) ((putVs ks ts).length + 1) cg, .map (some m)] 80)] [] w') ?_ ?_
      ·
        refine flow_soundT 8 (by kernel_rfl) ?_
        refine flow_val rfl (ex_move rfl) ?_
        refine flow_val rfl (ex_nilck rfl) ?_
        refine flow_val rfl (ex_field rfl) ?_
        refine flow_val rfl (ex_load1 rfl (by first | exact ld_own1 0 rfl rfl | exact ld_own1 1 rfl rfl | exact ld_own1 2 rfl rfl | exact ld_own1 3 rfl rfl | exact ld_own1 4 rfl rfl | exact ld_own1 5 rfl rfl | exact ld_own1 6 rfl rfl | exact ld_own1 7 rfl rfl | exact ld_ownG1 0 rfl rfl | exact ld_ownG1 1 rfl rfl | exact ld_imm1 (by assumption))) ?_
        refine flow_val rfl (ex_loadR rfl (by first | exact ld_ownN 0 rfl rfl | exact ld_ownN 1 rfl rfl | exact ld_ownN 2 rfl rfl | exact ld_ownN 3 rfl rfl | exact ld_ownN 4 rfl rfl | exact ld_ownN 5 rfl rfl | exact ld_ownN 6 rfl rfl | exact ld_ownN 7 rfl rfl | exact ld_ownGN 0 rfl rfl | exact ld_ownGN 1 rfl rfl | exact ld_immT (by assumption) (by assumption))) ?_
        refine flow_cr rfl (ex_callf rfl (fun w h => callR (pNorm pSortsS (by unfold maxKids; omega) _ hslim.2 h.im (ht0.le hlj)))) ?_
        refine flow_val rfl (ex_len (ty := 0) rfl) ?_
        refine flow_sat QR.pers (obk (ob_one rfl rfl (zeroT_c _))) ?_
        refine flow_nilT ?_
        refine fint_satR (Le.refl _) (fun v47 τ7 hl7 hf7 hr7 => ?_)
        obtain ⟨bo, co, rfl, hco, htco⟩ := hr7
        refine fint_is ?_
        refine fint_satR hl7 (fun v45 τ5 hl5 hf5 hr5 => ?_)
        rw [hslim.1] at hr5
        obtain ⟨c45, rfl, ht45⟩ := hr5
        refine fint_is ?_
        refine fint_is ?_
        refine fint_is ?_
        refine fint_is ?_
        refine fint_is ?_
        refine fint_nil ?_
        refine any_one (i := 8) (by kernel_rfl) ?_
        refine next_mono (fun w h => h.ofG.ofG) ?_
        refine next_app1 rfl rfl (exw_append1 (news := co) rfl rfl hO (by simp [htco.len]) (.inr ⟨_, _, rfl, fun w h => (hco.le hl5).range h.im⟩) htco.one (by unfold maxLen; omega) (by omega)) (fun v48 G48 hO48 hz48 => ?_)
        obtain ⟨g, cg, tl, rfl, rfl, hg1, hg2, hg3⟩ := hO48.open (by omega)
        refine any_mono (fun w h => h.ofG) ?_
        refine any_two (i := 9) (j := 11) (by kernel_rfl) ?_ ?_
        ·
          refine next_val rfl rfl (ex_index_nat rfl rfl (by omega)) ?_
          refine any_two (i := 10) (j := 11) (by kernel_rfl) ?_ ?_
          ·
            refine next_u rfl (exu_storeX 0 rfl rfl rfl ht45.len ht45.one (by simp [hrow.len, htco.len])) ?_
            refine any_one (i := 11) (by kernel_rfl) ?_
            refine next_val rfl rfl (ex_nilck rfl) ?_
            refine any_one (i := 12) (by kernel_rfl) ?_
            refine next_val rfl rfl (ex_field rfl) ?_
            refine any_one (i := 13) (by kernel_rfl) ?_
            refine next_u rfl (exu_store1 2 rfl rfl rfl rfl rfl rfl) ?_
            refine any_done (by kernel_rfl) ?_
            refine qw_meet (subL_cons (lkv rfl (by first | rfl | simp)) (subL_cons (lkv rfl (by first | rfl | simp)) (subL_cons (lkv rfl (by first | rfl | simp)) (subL_nil _)))) (fun w' h => ⟨τ5, c45, g, cg, tl, ⟨hl7.trans hl5, hf7.trans hf5, ht45, hg1, hg2, by have h1 := ht45.len; have h2 := htco.len; simp only [List.length_append] at hg3 ⊢; omega⟩, ?_⟩)
            have h1 : St w (keysOf K) τ5 [(g, rowO (setX (xs ++ co) (putVs ks ts).length c45) tl 32), (m, mapObj (putVs ks ts)), (b, .cells #[.slice (some ⟨g, 0, none⟩) ((putVs ks ts).length + 1) cg, .map (some m)] 80)] [] w' := h.drop (.cons_cons _ (.cons_cons _ (.cons_cons _ (List.nil_sublist _))))
            rwa [setX_snoc hrow.len htco.len] at h1
          ·
            refine next_val rfl rfl (ex_nilck rfl) ?_
            refine any_two (i := 10) (j := 12) (by kernel_rfl) ?_ ?_
            ·
              refine next_u rfl (exu_storeX 0 rfl rfl rfl ht45.len ht45.one (by simp [hrow.len, htco.len])) ?_
              refine any_one (i := 12) (by kernel_rfl) ?_
              refine next_val rfl rfl (ex_field rfl) ?_
              refine any_one (i := 13) (by kernel_rfl) ?_
              refine next_u rfl (exu_store1 2 rfl rfl rfl rfl rfl rfl) ?_
              refine any_done (by kernel_rfl) ?_
              refine qw_meet (subL_cons (lkv rfl (by first | rfl | simp)) (subL_cons (lkv rfl (by first | rfl | simp)) (subL_cons (lkv rfl (by first | rfl | simp)) (subL_nil _)))) (fun w' h => ⟨τ5, c45, g, cg, tl, ⟨hl7.trans hl5, hf7.trans hf5, ht45, hg1, hg2, by have h1 := ht45.len; have h2 := htco.len; simp only [List.length_append] at hg3 ⊢; omega⟩, ?_⟩)
              have h1 : St w (keysOf K) τ5 [(g, rowO (setX (xs ++ co) (putVs ks ts).length c45) tl 32), (m, mapObj (putVs ks ts)), (b, .cells #[.slice (some ⟨g, 0, none⟩) ((putVs ks ts).length + 1) cg, .map (some m)] 80)] [] w' := h.drop (.cons_cons _ (.cons_cons _ (.cons_cons _ (List.nil_sublist _))))
              rwa [setX_snoc hrow.len htco.len] at h1
            ·
              refine next_val rfl rfl (ex_field rfl) ?_
              refine any_two (i := 10) (j := 13) (by kernel_rfl) ?_ ?_
              ·
                refine next_u rfl (exu_storeX 0 rfl rfl rfl ht45.len ht45.one (by simp [hrow.len, htco.len])) ?_
                refine any_one (i := 13) (by kernel_rfl) ?_
                refine next_u rfl (exu_store1 2 rfl rfl rfl rfl rfl rfl) ?_
                refine any_done (by kernel_rfl) ?_
                refine qw_meet (subL_cons (lkv rfl (by first | rfl | simp)) (subL_cons (lkv rfl (by first | rfl | simp)) (subL_cons (lkv rfl (by first | rfl | simp)) (subL_nil _)))) (fun w' h => ⟨τ5, c45, g, cg, tl, ⟨hl7.trans hl5, hf7.trans hf5, ht45, hg1, hg2, by have h1 := ht45.len; have h2 := htco.len; simp only [List.length_append] at hg3 ⊢; omega⟩, ?_⟩)
                have h1 : St w (keysOf K) τ5 [(g, rowO (setX (xs ++ co) (putVs ks ts).length c45) tl 32), (m, mapObj (putVs ks ts)), (b, .cells #[.slice (some ⟨g, 0, none⟩) ((putVs ks ts).length + 1) cg, .map (some m)] 80)] [] w' := h.drop (.cons_cons _ (.cons_cons _ (.cons_cons _ (List.nil_sublist _))))
                rwa [setX_snoc hrow.len htco.len] at h1
              ·
                refine next_u rfl (exu_store1 2 rfl rfl rfl rfl rfl rfl) ?_
                refine any_one (i := 10) (by kernel_rfl) ?_
                refine next_u rfl (exu_storeX 0 rfl rfl rfl ht45.len ht45.one (by simp [hrow.len, htco.len])) ?_
                refine any_done (by kernel_rfl) ?_
                refine qw_meet (subL_cons (lkv rfl (by first | rfl | simp)) (subL_cons (lkv rfl (by first | rfl | simp)) (subL_cons (lkv rfl (by first | rfl | simp)) (subL_nil _)))) (fun w' h => ⟨τ5, c45, g, cg, tl, ⟨hl7.trans hl5, hf7.trans hf5, ht45, hg1, hg2, by have h1 := ht45.len; have h2 := htco.len; simp only [List.length_append] at hg3 ⊢; omega⟩, ?_⟩)
                have h1 : St w (keysOf K) τ5 [(g, rowO (setX (xs ++ co) (putVs ks ts).length c45) tl 32), (m, mapObj (putVs ks ts)), (b, .cells #[.slice (some ⟨g, 0, none⟩) ((putVs ks ts).length + 1) cg, .map (some m)] 80)] [] w' := h.drop (.cons_cons _ (.cons_cons _ (.cons_cons _ (List.nil_sublist _))))
                rwa [setX_snoc hrow.len htco.len] at h1
        ·
          refine next_val rfl rfl (ex_nilck rfl) ?_
          refine any_two (i := 9) (j := 12) (by kernel_rfl) ?_ ?_
          ·
            refine next_val rfl rfl (ex_index_nat rfl rfl (by omega)) ?_
            refine any_two (i := 10) (j := 12) (by kernel_rfl) ?_ ?_
            ·
              refine next_u rfl (exu_storeX 0 rfl rfl rfl ht45.len ht45.one (by simp [hrow.len, htco.len])) ?_
              refine any_one (i := 12) (by kernel_rfl) ?_
              refine next_val rfl rfl (ex_field rfl) ?_
              refine any_one (i := 13) (by kernel_rfl) ?_
              refine next_u rfl (exu_store1 2 rfl rfl rfl rfl rfl rfl) ?_
              refine any_done (by kernel_rfl) ?_
              refine qw_meet (subL_cons (lkv rfl (by first | rfl | simp)) (subL_cons (lkv rfl (by first | rfl | simp)) (subL_cons (lkv rfl (by first | rfl | simp)) (subL_nil _)))) (fun w' h => ⟨τ5, c45, g, cg, tl, ⟨hl7.trans hl5, hf7.trans hf5, ht45, hg1, hg2, by have h1 := ht45.len; have h2 := htco.len; simp only [List.length_append] at hg3 ⊢; omega⟩, ?_⟩)
              have h1 : St w (keysOf K) τ5 [(g, rowO (setX (xs ++ co) (putVs ks ts).length c45) tl 32), (m, mapObj (putVs ks ts)), (b, .cells #[.slice (some ⟨g, 0, none⟩) ((putVs ks ts).length + 1) cg, .map (some m)] 80)] [] w' := h.drop (.cons_cons _ (.cons_cons _ (.cons_cons _ (List.nil_sublist _))))
              rwa [setX_snoc hrow.len htco.len] at h1
            ·
              refine next_val rfl rfl (ex_field rfl) ?_
              refine any_two (i := 10) (j := 13) (by kernel_rfl) ?_ ?_
              ·
                refine next_u rfl (exu_storeX 0 rfl rfl rfl ht45.len ht45.one (by simp [hrow.len, htco.len])) ?_
                refine any_one (i := 13) (by kernel_rfl) ?_
                refine next_u rfl (exu_store1 2 rfl rfl rfl rfl rfl rfl) ?_
                refine any_done (by kernel_rfl) ?_
                refine qw_meet (subL_cons (lkv rfl (by first | rfl | simp)) (subL_cons (lkv rfl (by first | rfl | simp)) (subL_cons (lkv rfl (by first | rfl | simp)) (subL_nil _)))) (fun w' h => ⟨τ5, c45, g, cg, tl, ⟨hl7.trans hl5, hf7.trans hf5, ht45, hg1, hg2, by have h1 := ht45.len; have h2 := htco.len; simp only [List.length_append] at hg3 ⊢; omega⟩, ?_⟩)
                have h1 : St w (keysOf K) τ5 [(g, rowO (setX (xs ++ co) (putVs ks ts).length c45) tl 32), (m, mapObj (putVs ks ts)), (b, .cells #[.slice (some ⟨g, 0, none⟩) ((putVs ks ts).length + 1) cg, .map (some m)] 80)] [] w' := h.drop (.cons_cons _ (.cons_cons _ (.cons_cons _ (List.nil_sublist _))))
                rwa [setX_snoc hrow.len htco.len] at h1
              ·
                refine next_u rfl (exu_store1 2 rfl rfl rfl rfl rfl rfl) ?_
                refine any_one (i := 10) (by kernel_rfl) ?_
                refine next_u rfl (exu_storeX 0 rfl rfl rfl ht45.len ht45.one (by simp [hrow.len, htco.len])) ?_
                refine any_done (by kernel_rfl) ?_
                refine qw_meet (subL_cons (lkv rfl (by first | rfl | simp)) (subL_cons (lkv rfl (by first | rfl | simp)) (subL_cons (lkv rfl (by first | rfl | simp)) (subL_nil _)))) (fun w' h => ⟨τ5, c45, g, cg, tl, ⟨hl7.trans hl5, hf7.trans hf5, ht45, hg1, hg2, by have h1 := ht45.len; have h2 := htco.len; simp only [List.length_append] at hg3 ⊢; omega⟩, ?_⟩)
                have h1 : St w (keysOf K) τ5 [(g, rowO (setX (xs ++ co) (putVs ks ts).length c45) tl 32), (m, mapObj (putVs ks ts)), (b, .cells #[.slice (some ⟨g, 0, none⟩) ((putVs ks ts).length + 1) cg, .map (some m)] 80)] [] w' := h.drop (.cons_cons _ (.cons_cons _ (.cons_cons _ (List.nil_sublist _))))
                rwa [setX_snoc hrow.len htco.len] at h1
          ·
            refine next_val rfl rfl (ex_field rfl) ?_
            refine any_two (i := 9) (j := 13) (by kernel_rfl) ?_ ?_
            ·
              refine next_val rfl rfl (ex_index_nat rfl rfl (by omega)) ?_
              refine any_two (i := 10) (j := 13) (by kernel_rfl) ?_ ?_
              ·
                refine next_u rfl (exu_storeX 0 rfl rfl rfl ht45.len ht45.one (by simp [hrow.len, htco.len])) ?_
                refine any_one (i := 13) (by kernel_rfl) ?_
                refine next_u rfl (exu_store1 2 rfl rfl rfl rfl rfl rfl) ?_
                refine any_done (by kernel_rfl) ?_
                refine qw_meet (subL_cons (lkv rfl (by first | rfl | simp)) (subL_cons (lkv rfl (by first | rfl | simp)) (subL_cons (lkv rfl (by first | rfl | simp)) (subL_nil _)))) (fun w' h => ⟨τ5, c45, g, cg, tl, ⟨hl7.trans hl5, hf7.trans hf5, ht45, hg1, hg2, by have h1 := ht45.len; have h2 := htco.len; simp only [List.length_append] at hg3 ⊢; omega⟩, ?_⟩)
                have h1 : St w (keysOf K) τ5 [(g, rowO (setX (xs ++ co) (putVs ks ts).length c45) tl 32), (m, mapObj (putVs ks ts)), (b, .cells #[.slice (some ⟨g, 0, none⟩) ((putVs ks ts).length + 1) cg, .map (some m)] 80)] [] w' := h.drop (.cons_cons _ (.cons_cons _ (.cons_cons _ (List.nil_sublist _))))
                rwa [setX_snoc hrow.len htco.len] at h1
              ·
                refine next_u rfl (exu_store1 2 rfl rfl rfl rfl rfl rfl) ?_
                refine any_one (i := 10) (by kernel_rfl) ?_
                refine next_u rfl (exu_storeX 0 rfl rfl rfl ht45.len ht45.one (by simp [hrow.len, htco.len])) ?_
                refine any_done (by kernel_rfl) ?_
                refine qw_meet (subL_cons (lkv rfl (by first | rfl | simp)) (subL_cons (lkv rfl (by first | rfl | simp)) (subL_cons (lkv rfl (by first | rfl | simp)) (subL_nil _)))) (fun w' h => ⟨τ5, c45, g, cg, tl, ⟨hl7.trans hl5, hf7.trans hf5, ht45, hg1, hg2, by have h1 := ht45.len; have h2 := htco.len; simp only [List.length_append] at hg3 ⊢; omega⟩, ?_⟩)
                have h1 : St w (keysOf K) τ5 [(g, rowO (setX (xs ++ co) (putVs ks ts).length c45) tl 32), (m, mapObj (putVs ks ts)), (b, .cells #[.slice (some ⟨g, 0, none⟩) ((putVs ks ts).length + 1) cg, .map (some m)] 80)] [] w' := h.drop (.cons_cons _ (.cons_cons _ (.cons_cons _ (List.nil_sublist _))))
                rwa [setX_snoc hrow.len htco.len] at h1
            ·
              refine next_u rfl (exu_store1 2 rfl rfl rfl rfl rfl rfl) ?_
              refine any_one (i := 9) (by kernel_rfl) ?_
              refine next_val rfl rfl (ex_index_nat rfl rfl (by omega)) ?_
              refine any_one (i := 10) (by kernel_rfl) ?_
              refine next_u rfl (exu_storeX 0 rfl rfl rfl ht45.len ht45.one (by simp [hrow.len, htco.len])) ?_
              refine any_done (by kernel_rfl) ?_
              refine qw_meet (subL_cons (lkv rfl (by first | rfl | simp)) (subL_cons (lkv rfl (by first | rfl | simp)) (subL_cons (lkv rfl (by first | rfl | simp)) (subL_nil _)))) (fun w' h => ⟨τ5, c45, g, cg, tl, ⟨hl7.trans hl5, hf7.trans hf5, ht45, hg1, hg2, by have h1 := ht45.len; have h2 := htco.len; simp only [List.length_append] at hg3 ⊢; omega⟩, ?_⟩)
              have h1 : St w (keysOf K) τ5 [(g, rowO (setX (xs ++ co) (putVs ks ts).length c45) tl 32), (m, mapObj (putVs ks ts)), (b, .cells #[.slice (some ⟨g, 0, none⟩) ((putVs ks ts).length + 1) cg, .map (some m)] 80)] [] w' := h.drop (.cons_cons _ (.cons_cons _ (.cons_cons _ (List.nil_sublist _))))
              rwa [setX_snoc hrow.len htco.len] at h1
      ·
        refine cw_ex fun τ5 => cw_ex fun c45 => cw_ex fun g => cw_ex fun cg => cw_ex fun tl => cw_and fun ⟨hl5, hf5, ht45, hg1, hg2, hg3⟩ => ?_
        refine cw_seq ?_
        refine cw_region ?_
        refine ow_val rfl rfl (ex_move rfl) ?_
        refine ow_val rfl rfl (ex_nilck rfl) ?_
        refine ow_val rfl rfl (ex_field rfl) ?_
        refine ow_val rfl rfl (ex_load1 rfl (by first | exact ld_own1 0 rfl rfl | exact ld_own1 1 rfl rfl | exact ld_own1 2 rfl rfl | exact ld_own1 3 rfl rfl | exact ld_own1 4 rfl rfl | exact ld_own1 5 rfl rfl | exact ld_own1 6 rfl rfl | exact ld_own1 7 rfl rfl | exact ld_ownG1 0 rfl rfl | exact ld_ownG1 1 rfl rfl | exact ld_imm1 (by assumption))) ?_
        refine ow_val rfl rfl (ex_move rfl) ?_
        refine ow_val rfl rfl (ex_move rfl) ?_
        refine ow_u rfl (exu_mapput 1 rfl rfl rfl rfl hnew) ?_
        refine ow_nil ?_
        refine qw_seq ?_
        refine cw_seq ?_
        refine cw_region ?_
        refine ow_val rfl rfl (ex_move rfl) ?_
        refine ow_val rfl rfl (ex_assign rfl) ?_
        refine ow_nil ?_
        refine qw_seq ?_
        refine cw_ret ?_
        refine qw_ret1 rfl rfl (fun w' h => ?_)
        have h2 := (St.flip h).permG (List.reverse_perm _)
        have hlen1 : (putVs ks ts ++ [T.mk o n d ks]).length = (putVs ks ts).length + 1 := by simp
        have hxl := hrow.len
        have hcl5 := ht45.len
        refine h2.givesK (hlj.trans hl5) (hfj.trans hf5) ⟨?_, ?_⟩
        · unfold numV
          rw [if_neg hnp]; rfl
        · rw [putV_mk, if_neg hnp]
          refine ⟨_, xs ++ c45, m, _, rfl, ?_, (hrow.le hl5).append (RowC.one ht45), hti.snoc (fun hm => hnew (posT_iff.2 hm)) hr (fun k hk => mem_putVs ts hk), ?_⟩
          · rw [show (putVs (T.mk o n d ks).kids ts ++ [T.mk o n d ks]).length = (putVs ks ts).length + 1 from hlen1]
            exact OwnSl.close (by simp; omega) hg1 hg2 hg3
          · rw [show (putVs (T.mk o n d ks).kids ts ++ [T.mk o n d ks]).length = (putVs ks ts).length + 1 from hlen1]; omega
set_option maxHeartbeats 400000 in
theorem pIntern (t : T) {b : Nat} {ts : List T} {ct : List Value} {σ : Hp} {K : List (Nat × Obj)} {w : World} (hi : Has σ K w) (htab : TabC Tryz.prog σ) (hv : VaultK 80 32 b ts σ K) (ht : TermC σ ct t) : Calls Tryz.prog 45 #[.pointer (some ⟨b, 0, none⟩), .agg ct.toArray] w (GiveK (fun σ' u K' => u = .tuple #[.int .i64 (intern ts t).1, .int .i64 (intern ts t).2.1] ∧ VaultK 80 32 b (intern ts t).2.2 σ' K') σ K w) := by
  have ht0 := ht
  obtain ⟨dv, kv, rfl, ho, hn, hd, hk⟩ := ht.opn
  obtain ⟨pv, cv, mv, hs⟩ := hv.seenX hi
  have hfew := hs.few
  refine enter (St w (keysOf K) σ [] K) Tryz.func45 rfl Tryz.ntmps45 rfl (Has.start hi) ?_
  refine cw_seq ?_
  refine cw_region ?_
  refine ow_blk rfl rfl (exw_box rfl) ?_; intro b3
  refine ow_val rfl rfl (ex_assign rfl) ?_
  refine ow_val rfl rfl (ex_assign rfl) ?_
  refine ow_nil ?_
  refine qw_seq ?_
  refine cw_seq ?_
  refine cw_seq ?_
  refine cw_region ?_
  refine ow_val rfl rfl (ex_loadR rfl (by first | exact ld_ownN 0 rfl rfl | exact ld_ownN 1 rfl rfl | exact ld_ownN 2 rfl rfl | exact ld_ownN 3 rfl rfl | exact ld_ownN 4 rfl rfl | exact ld_ownN 5 rfl rfl | exact ld_ownN 6 rfl rfl | exact ld_ownN 7 rfl rfl | exact ld_ownGN 0 rfl rfl | exact ld_ownGN 1 rfl rfl | exact ld_immT (by assumption) (by assumption))) ?_
  refine ow_cv rfl rfl (ex_callf rfl (fun w h => callB ((pRight t h.im ht0)))) ?_
  refine ow_val rfl rfl (ex_not rfl) ?_
  refine ow_nil ?_
  refine qw_seq ?_
  refine cw_cond rfl (fun c10 => ?_) (fun c10 => ?_)
  ·
    refine cw_seq ?_
    refine cw_region ?_
    refine ow_val rfl rfl (ex_assign rfl) ?_
    refine ow_val rfl rfl (ex_assign rfl) ?_
    refine ow_nil ?_
    refine qw_seq ?_
    refine cw_ret ?_
    refine qw_then_ret ?_
    refine qw_ret2 rfl rfl rfl (fun w' h => ?_)
    have hr : ¬ right t = true := by simpa using c10
    have e : intern ts t = (-1, 51, ts) := by unfold intern; rw [if_neg hr]
    rw [e]
    exact (h.drop (List.nil_sublist _)).givesK (Le.refl _) (Fresh.refl _ _) ⟨rfl, hv⟩
  ·
    have hr : right t = true := by simpa using c10
    refine cw_skip ?_
    refine qw_seq ?_
    refine cw_seq ?_
    refine cw_seq ?_
    refine cw_region ?_
    refine ow_val rfl rfl (ex_move rfl) ?_
    refine ow_val rfl rfl (ex_loadR rfl (by first | exact ld_ownN 0 rfl rfl | exact ld_ownN 1 rfl rfl | exact ld_ownN 2 rfl rfl | exact ld_ownN 3 rfl rfl | exact ld_ownN 4 rfl rfl | exact ld_ownN 5 rfl rfl | exact ld_ownN 6 rfl rfl | exact ld_ownN 7 rfl rfl | exact ld_ownGN 0 rfl rfl | exact ld_ownGN 1 rfl rfl | exact ld_immT (by assumption) (by assumption))) ?_
    refine ow_cv rfl rfl (ex_callf rfl (fun w h => callB ((pFind t h.hasE.exts (htab.le hi.le) hs (ht0.le hi.le) (right_lim hr))))) ?_
    refine ow_val rfl rfl (ex_move rfl) ?_
    refine ow_val rfl rfl (ex_extract rfl rfl) ?_
    refine ow_val rfl rfl (ex_extract rfl rfl) ?_
    refine ow_val rfl rfl (ex_assign rfl) ?_
    refine ow_val rfl rfl (ex_assign rfl) ?_
    refine ow_nil ?_
    refine qw_seq ?_
    refine cw_seq ?_
    refine cw_region ?_
    refine ow_val rfl rfl (ex_move rfl) ?_
    refine ow_nil ?_
    refine qw_seq ?_
    refine cw_cond rfl (fun c17 => ?_) (fun c17 => ?_)
    ·
      refine cw_seq ?_
      refine cw_region ?_
      refine ow_val rfl rfl (ex_move rfl) ?_
      refine ow_val rfl rfl (ex_assign rfl) ?_
      refine ow_val rfl rfl (ex_assign rfl) ?_
      refine ow_nil ?_
      refine qw_seq ?_
      refine cw_ret ?_
      refine qw_then_ret ?_
      refine qw_ret2 rfl rfl rfl (fun w' h => ?_)
      have h0 := of_decide_eq_true c17
      have e : intern ts t = (posT ts t, 0, ts) := by unfold intern; rw [if_pos hr, if_pos h0]
      rw [e]
      exact (h.drop (List.nil_sublist _)).givesK (Le.refl _) (Fresh.refl _ _) ⟨rfl, hv⟩
    ·
      refine cw_skip ?_
      refine qw_seq ?_
      refine cw_seq ?_
      refine cw_seq ?_
      refine flow_sound 9 (by kernel_rfl) ?_
      refine flow_val rfl (ex_loadR rfl (by first | exact ld_ownN 0 rfl rfl | exact ld_ownN 1 rfl rfl | exact ld_ownN 2 rfl rfl | exact ld_ownN 3 rfl rfl | exact ld_ownN 4 rfl rfl | exact ld_ownN 5 rfl rfl | exact ld_ownN 6 rfl rfl | exact ld_ownN 7 rfl rfl | exact ld_ownGN 0 rfl rfl | exact ld_ownGN 1 rfl rfl | exact ld_immT (by assumption) (by assumption))) ?_
      refine flow_cv rfl (ex_callf rfl (fun w h => callB ((pSize t h.im ht0 (right_size hr))))) ?_
      refine flow_val rfl (ex_move rfl) ?_
      refine flow_val rfl (ex_nilck rfl) ?_
      refine flow_val rfl (ex_field rfl) ?_
      refine flow_val rfl (ex_load1 rfl (fun w h => hs.c0.cell h.hasE.exts)) ?_
      refine flow_val rfl (ex_len (ty := 0) rfl) ?_
      refine flow_val rfl (ex_subi (z := (4096 - (ts.length : Int))) rfl rfl (by omega) (by omega) (by omega)) ?_
      refine flow_val rfl (ex_gtr rfl rfl) ?_
      refine flow_nil ?_
      refine fin_is ?_
      refine fin_is ?_
      refine fin_is ?_
      refine fin_is ?_
      refine fin_is ?_
      refine fin_is ?_
      refine fin_is ?_
      refine fin_is ?_
      refine fin_is ?_
      refine fin_nil ?_
      refine ow_nil ?_
      refine qw_seq ?_
      refine cw_cond rfl (fun c27 => ?_) (fun c27 => ?_)
      ·
        refine cw_seq ?_
        refine cw_region ?_
        refine ow_val rfl rfl (ex_assign rfl) ?_
        refine ow_val rfl rfl (ex_assign rfl) ?_
        refine ow_nil ?_
        refine qw_seq ?_
        refine cw_ret ?_
        refine qw_then_ret ?_
        refine qw_ret2 rfl rfl rfl (fun w' h => ?_)
        have h0 := of_decide_eq_false c17
        have h1 := of_decide_eq_true c27
        have e : intern ts t = (-1, 2, ts) := by unfold intern; rw [if_pos hr, if_neg h0, if_pos (by omega)]
        rw [e]
        exact (h.drop (List.nil_sublist _)).givesK (Le.refl _) (Fresh.refl _ _) ⟨rfl, hv⟩
      ·
        refine cw_skip ?_
        refine qw_seq ?_
        refine cw_seq ?_
        refine cw_region ?_
        refine ow_val rfl rfl (ex_move rfl) ?_
        refine ow_val rfl rfl (ex_loadR rfl (by first | exact ld_ownN 0 rfl rfl | exact ld_ownN 1 rfl rfl | exact ld_ownN 2 rfl rfl | exact ld_ownN 3 rfl rfl | exact ld_ownN 4 rfl rfl | exact ld_ownN 5 rfl rfl | exact ld_ownN 6 rfl rfl | exact ld_ownN 7 rfl rfl | exact ld_ownGN 0 rfl rfl | exact ld_ownGN 1 rfl rfl | exact ld_immT (by assumption) (by assumption))) ?_
        refine ow_ckE rfl rfl (ex_callf rfl (fun w h => pPut t h.hasE htab hv ht0 hr (.inr (by have := of_decide_eq_false c27; omega)))) (fun v30 τ30 K30 hl30 hf30 hr30 => ?_)
        obtain ⟨rfl, hv30⟩ := hr30
        refine ow_val rfl rfl (ex_assign rfl) ?_
        refine ow_val rfl rfl (ex_assign rfl) ?_
        refine ow_nil ?_
        refine qw_seq ?_
        refine cw_ret ?_
        refine qw_ret2 rfl rfl rfl (fun w' h => ?_)
        have h0 := of_decide_eq_false c17
        have h1 := of_decide_eq_false c27
        have e : intern ts t = (numV t ts, 0, putV t ts) := by unfold intern; rw [if_pos hr, if_neg h0, if_neg (by omega)]
        rw [e]
        exact (h.drop (List.nil_sublist _)).givesK hl30 hf30 ⟨rfl, hv30⟩
end Go.Proofs.YtnjomdjkbbhdoaaGreatDoor
namespace Go.Proofs.YtnjomdjkbbhdoaaGreatDoor
open Go.RowKit
set_option linter.unusedVariables false
set_option linter.unusedSimpArgs false
set_option maxRecDepth 100000
set_option maxHeartbeats 400000 in
theorem rRightD : ∀ (t : T) {deep : Nat} {σ : Hp} {cs : List Value} {w : World}, Imm σ w → TermC σ cs t → deep ≤ 16 → Calls Tryz.prog 102 #[.agg cs.toArray, .int .i64 (deep : Int)] w fun e w' => e = .returned (.bool (rightD t deep)) ∧ Below w.heap.size w w' := by
  intro t
  induction t using T.ind with
  | _ o n d ks ih =>
  intro deep σ cs w hi ht hde
  obtain ⟨dv, kv, rfl, ho, hn, hd, hk⟩ := ht.opn
  simp only [T.kids, T.op, T.num, T.data] at *
  obtain ⟨p, c, rfl, hc, hm⟩ := hk.slice
  obtain ⟨pd, cd, rfl, hcd, hmd⟩ := hd.slice
  have hm2 := hm
  unfold maxKids at hm2
  refine enter (St w (fun _ => False) σ [] []) Tryz.func102 rfl Tryz.ntmps102 rfl (St.start hi) ?_
  refine cw_seq ?_
  refine cw_region ?_
  refine ow_blk rfl rfl (exw_box rfl) ?_; intro b2
  refine ow_val rfl rfl (ex_assign rfl) ?_
  refine ow_nil ?_
  refine qw_seq ?_
  refine cw_seq ?_
  refine cw_region ?_
  refine ow_val rfl rfl (ex_loadR rfl (by first | exact ld_ownN 0 rfl rfl | exact ld_ownN 1 rfl rfl | exact ld_ownN 2 rfl rfl | exact ld_ownN 3 rfl rfl | exact ld_ownN 4 rfl rfl | exact ld_ownN 5 rfl rfl | exact ld_ownN 6 rfl rfl | exact ld_ownN 7 rfl rfl | exact ld_ownGN 0 rfl rfl | exact ld_ownGN 1 rfl rfl | exact ld_immT (by assumption) (by assumption))) ?_
  refine ow_cv rfl rfl (ex_callf rfl (fun w h => callB ((rKids h.im hk)))) ?_
  refine ow_val rfl rfl (ex_assign rfl) ?_
  refine ow_nil ?_
  refine qw_seq ?_
  refine cw_seq ?_
  refine cw_cut1 21 (.bool (decide (16 ≤ (deep : Int)) || (!kidsOK o ks || decide (8192 < (d.length : Int))))) ?_ ?_
  ·
    refine cw_region ?_
    refine ow_val rfl rfl (ex_move rfl) ?_
    refine ow_val rfl rfl (ex_geq rfl rfl) ?_
    refine ow_val rfl rfl (ex_move rfl) ?_
    refine ow_split (g := some (2, false)) rfl (fun s12 => ?_) (fun s12 => ?_)
    ·
      refine ow_skip rfl (gd_no rfl s12) ?_
      refine ow_skip rfl (gd_no rfl s12) ?_
      refine ow_val rfl rfl (ex_pickt rfl s12 rfl) ?_
      refine ow_val rfl rfl (ex_move rfl) ?_
      refine ow_skip rfl rfl ?_
      refine ow_skip rfl rfl ?_
      refine ow_skip rfl rfl ?_
      refine ow_skip rfl rfl ?_
      refine ow_val rfl rfl (ex_pick_t rfl rfl) ?_
      refine ow_nil ?_
      exact qw_meet (subL_meet 12 21 (lkv rfl (by first | rfl | (simp_all; done) | (simp_all <;> omega))) rfl rfl) (fun w h => h)
    ·
      refine ow_val rfl (gd_go rfl s12) (ex_move rfl) ?_
      refine ow_val rfl (gd_go rfl s12) (ex_not rfl) ?_
      refine ow_val rfl rfl (ex_pickf rfl s12 rfl) ?_
      refine ow_val rfl rfl (ex_move rfl) ?_
      refine ow_split (g := some (6, false)) rfl (fun s16 => ?_) (fun s16 => ?_)
      ·
        refine ow_skip rfl (gd_no rfl s16) ?_
        refine ow_skip rfl (gd_no rfl s16) ?_
        refine ow_skip rfl (gd_no rfl s16) ?_
        refine ow_skip rfl (gd_no rfl s16) ?_
        refine ow_val rfl rfl (ex_pickt rfl s16 rfl) ?_
        refine ow_nil ?_
        exact qw_meet (subL_meet 12 21 (lkv rfl (by first | rfl | (simp_all; done) | (simp_all <;> omega))) rfl rfl) (fun w h => h)
      ·
        refine ow_val rfl (gd_go rfl s16) (ex_field rfl) ?_
        refine ow_val rfl (gd_go rfl s16) (ex_load1 rfl (by first | exact ld_own1 0 rfl rfl | exact ld_own1 1 rfl rfl | exact ld_own1 2 rfl rfl | exact ld_own1 3 rfl rfl | exact ld_own1 4 rfl rfl | exact ld_own1 5 rfl rfl | exact ld_own1 6 rfl rfl | exact ld_own1 7 rfl rfl | exact ld_ownG1 0 rfl rfl | exact ld_ownG1 1 rfl rfl | exact ld_imm1 (by assumption))) ?_
        refine ow_val rfl (gd_go rfl s16) (ex_len (ty := 0) rfl) ?_
        refine ow_val rfl (gd_go rfl s16) (ex_gtr rfl rfl) ?_
        refine ow_val rfl rfl (ex_pickf rfl s16 rfl) ?_
        refine ow_nil ?_
        exact qw_meet (subL_meet 12 21 (lkv rfl (by first | rfl | (simp_all; done) | (simp_all <;> omega))) rfl rfl) (fun w h => h)
  ·
    refine cw_cond rfl (fun c21 => ?_) (fun c21 => ?_)
    ·
      refine cw_seq ?_
      refine cw_region ?_
      refine ow_val rfl rfl (ex_assign rfl) ?_
      refine ow_nil ?_
      refine qw_seq ?_
      refine cw_ret ?_
      refine qw_then_ret ?_
      refine qw_ret1 rfl rfl (fun w' h => ⟨congrArg (fun z => Ending.returned (.bool z)) ?_, h.ag.below⟩)
      symm
      rw [rightD_mk]
      simp at c21
      rcases c21 with c21 | c21 | c21
      · simp [show ¬ deep < 16 by omega]
      · simp [shape_go, c21]
      · simp [shape_go, c21]
    ·
      refine cw_skip ?_
      refine qw_seq ?_
      refine cw_seq ?_
      refine cw_cut1 44 (.bool (decide (o = 1) && (decide (n < 0) || decide (1099511627776 < n)) || decide (o ≠ 1) && decide (n ≠ 0))) ?_ ?_
      ·
        refine cw_region ?_
        refine ow_val rfl rfl (ex_field rfl) ?_
        refine ow_val rfl rfl (ex_load1 rfl (by first | exact ld_own1 0 rfl rfl | exact ld_own1 1 rfl rfl | exact ld_own1 2 rfl rfl | exact ld_own1 3 rfl rfl | exact ld_own1 4 rfl rfl | exact ld_own1 5 rfl rfl | exact ld_own1 6 rfl rfl | exact ld_own1 7 rfl rfl | exact ld_ownG1 0 rfl rfl | exact ld_ownG1 1 rfl rfl | exact ld_imm1 (by assumption))) ?_
        refine ow_val rfl rfl (ex_eql rfl rfl) ?_
        refine ow_val rfl rfl (ex_move rfl) ?_
        refine ow_split (g := some (3, true)) rfl (fun s25 => ?_) (fun s25 => ?_)
        ·
          refine ow_val rfl (gd_go rfl s25) (ex_field rfl) ?_
          refine ow_val rfl (gd_go rfl s25) (ex_load1 rfl (by first | exact ld_own1 0 rfl rfl | exact ld_own1 1 rfl rfl | exact ld_own1 2 rfl rfl | exact ld_own1 3 rfl rfl | exact ld_own1 4 rfl rfl | exact ld_own1 5 rfl rfl | exact ld_own1 6 rfl rfl | exact ld_own1 7 rfl rfl | exact ld_ownG1 0 rfl rfl | exact ld_ownG1 1 rfl rfl | exact ld_imm1 (by assumption))) ?_
          refine ow_val rfl (gd_go rfl s25) (ex_lss rfl rfl) ?_
          refine ow_val rfl (gd_go rfl s25) (ex_move rfl) ?_
          refine ow_split (g := some (7, false)) rfl (fun s29 => ?_) (fun s29 => ?_)
          ·
            refine ow_skip rfl (gd_no rfl s29) ?_
            refine ow_skip rfl (gd_no rfl s29) ?_
            refine ow_skip rfl (gd_no rfl s29) ?_
            refine ow_val rfl (gd_go rfl s25) (ex_pickt rfl s29 rfl) ?_
            refine ow_val rfl rfl (ex_pickt rfl s25 rfl) ?_
            refine ow_val rfl rfl (ex_move rfl) ?_
            refine ow_skip rfl rfl ?_
            refine ow_skip rfl rfl ?_
            refine ow_skip rfl rfl ?_
            refine ow_skip rfl rfl ?_
            refine ow_skip rfl rfl ?_
            refine ow_skip rfl rfl ?_
            refine ow_skip rfl rfl ?_
            refine ow_skip rfl rfl ?_
            refine ow_val rfl rfl (ex_pick_t rfl rfl) ?_
            refine ow_nil ?_
            exact qw_meet (subL_meet 23 44 (lkv rfl (by first | rfl | (simp_all; done) | (simp_all <;> omega))) rfl rfl) (fun w h => h)
          ·
            refine ow_val rfl (gd_go rfl s29) (ex_field rfl) ?_
            refine ow_val rfl (gd_go rfl s29) (ex_load1 rfl (by first | exact ld_own1 0 rfl rfl | exact ld_own1 1 rfl rfl | exact ld_own1 2 rfl rfl | exact ld_own1 3 rfl rfl | exact ld_own1 4 rfl rfl | exact ld_own1 5 rfl rfl | exact ld_own1 6 rfl rfl | exact ld_own1 7 rfl rfl | exact ld_ownG1 0 rfl rfl | exact ld_ownG1 1 rfl rfl | exact ld_imm1 (by assumption))) ?_
            refine ow_val rfl (gd_go rfl s29) (ex_gtr rfl rfl) ?_
            refine ow_val rfl (gd_go rfl s25) (ex_pickf rfl s29 rfl) ?_
            refine ow_val rfl rfl (ex_pickt rfl s25 rfl) ?_
            refine ow_val rfl rfl (ex_move rfl) ?_
            refine ow_split (g := some (13, false)) rfl (fun s35 => ?_) (fun s35 => ?_)
            ·
              refine ow_skip rfl (gd_no rfl s35) ?_
              refine ow_skip rfl (gd_no rfl s35) ?_
              refine ow_skip rfl (gd_no rfl s35) ?_
              refine ow_skip rfl (gd_no rfl s35) ?_
              refine ow_skip rfl rfl ?_
              refine ow_skip rfl rfl ?_
              refine ow_skip rfl rfl ?_
              refine ow_skip rfl (gd_no rfl s35) ?_
              refine ow_val rfl rfl (ex_pickt rfl s35 rfl) ?_
              refine ow_nil ?_
              exact qw_meet (subL_meet 23 44 (lkv rfl (by first | rfl | (simp_all; done) | (simp_all <;> omega))) rfl rfl) (fun w h => h)
            ·
              refine ow_val rfl (gd_go rfl s35) (ex_field rfl) ?_
              refine ow_val rfl (gd_go rfl s35) (ex_load1 rfl (by first | exact ld_own1 0 rfl rfl | exact ld_own1 1 rfl rfl | exact ld_own1 2 rfl rfl | exact ld_own1 3 rfl rfl | exact ld_own1 4 rfl rfl | exact ld_own1 5 rfl rfl | exact ld_own1 6 rfl rfl | exact ld_own1 7 rfl rfl | exact ld_ownG1 0 rfl rfl | exact ld_ownG1 1 rfl rfl | exact ld_imm1 (by assumption))) ?_
              refine ow_val rfl (gd_go rfl s35) (ex_neq rfl rfl) ?_
              refine ow_val rfl (gd_go rfl s35) (ex_move rfl) ?_
              refine ow_split (g := some (17, true)) rfl (fun s39 => ?_) (fun s39 => ?_)
              ·
                refine ow_val rfl (gd_go rfl s39) (ex_field rfl) ?_
                refine ow_val rfl (gd_go rfl s39) (ex_load1 rfl (by first | exact ld_own1 0 rfl rfl | exact ld_own1 1 rfl rfl | exact ld_own1 2 rfl rfl | exact ld_own1 3 rfl rfl | exact ld_own1 4 rfl rfl | exact ld_own1 5 rfl rfl | exact ld_own1 6 rfl rfl | exact ld_own1 7 rfl rfl | exact ld_ownG1 0 rfl rfl | exact ld_ownG1 1 rfl rfl | exact ld_imm1 (by assumption))) ?_
                refine ow_val rfl (gd_go rfl s39) (ex_neq rfl rfl) ?_
                refine ow_val rfl (gd_go rfl s35) (ex_pickt rfl s39 rfl) ?_
                refine ow_val rfl rfl (ex_pickf rfl s35 rfl) ?_
                refine ow_nil ?_
                exact qw_meet (subL_meet 23 44 (lkv rfl (by first | rfl | (simp_all; done) | (simp_all <;> omega))) rfl rfl) (fun w h => h)
              ·
                refine ow_skip rfl (gd_no rfl s39) ?_
                refine ow_skip rfl (gd_no rfl s39) ?_
                refine ow_skip rfl (gd_no rfl s39) ?_
                refine ow_val rfl (gd_go rfl s35) (ex_pickf rfl s39 rfl) ?_
                refine ow_val rfl rfl (ex_pickf rfl s35 rfl) ?_
                refine ow_nil ?_
                exact qw_meet (subL_meet 23 44 (lkv rfl (by first | rfl | (simp_all; done) | (simp_all <;> omega))) rfl rfl) (fun w h => h)
        ·
          refine ow_skip rfl (gd_no rfl s25) ?_
          refine ow_skip rfl (gd_no rfl s25) ?_
          refine ow_skip rfl (gd_no rfl s25) ?_
          refine ow_skip rfl (gd_no rfl s25) ?_
          refine ow_skip rfl rfl ?_
          refine ow_skip rfl rfl ?_
          refine ow_skip rfl rfl ?_
          refine ow_skip rfl (gd_no rfl s25) ?_
          refine ow_val rfl rfl (ex_pickf rfl s25 rfl) ?_
          refine ow_val rfl rfl (ex_move rfl) ?_
          refine ow_val rfl rfl (ex_field rfl) ?_
          refine ow_val rfl rfl (ex_load1 rfl (by first | exact ld_own1 0 rfl rfl | exact ld_own1 1 rfl rfl | exact ld_own1 2 rfl rfl | exact ld_own1 3 rfl rfl | exact ld_own1 4 rfl rfl | exact ld_own1 5 rfl rfl | exact ld_own1 6 rfl rfl | exact ld_own1 7 rfl rfl | exact ld_ownG1 0 rfl rfl | exact ld_ownG1 1 rfl rfl | exact ld_imm1 (by assumption))) ?_
          refine ow_val rfl rfl (ex_neq rfl rfl) ?_
          refine ow_val rfl rfl (ex_move rfl) ?_
          refine ow_split (g := some (17, true)) rfl (fun s39 => ?_) (fun s39 => ?_)
          ·
            refine ow_val rfl (gd_go rfl s39) (ex_field rfl) ?_
            refine ow_val rfl (gd_go rfl s39) (ex_load1 rfl (by first | exact ld_own1 0 rfl rfl | exact ld_own1 1 rfl rfl | exact ld_own1 2 rfl rfl | exact ld_own1 3 rfl rfl | exact ld_own1 4 rfl rfl | exact ld_own1 5 rfl rfl | exact ld_own1 6 rfl rfl | exact ld_own1 7 rfl rfl | exact ld_ownG1 0 rfl rfl | exact ld_ownG1 1 rfl rfl | exact ld_imm1 (by assumption))) ?_
            refine ow_val rfl (gd_go rfl s39) (ex_neq rfl rfl) ?_
            refine ow_val rfl rfl (ex_pickt rfl s39 rfl) ?_
            refine ow_val rfl rfl (ex_pick_f rfl rfl) ?_
            refine ow_nil ?_
            exact qw_meet (subL_meet 23 44 (lkv rfl (by first | rfl | (simp_all; done) | (simp_all <;> omega))) rfl rfl) (fun w h => h)
          ·
            refine ow_skip rfl (gd_no rfl s39) ?_
            refine ow_skip rfl (gd_no rfl s39) ?_
            refine ow_skip rfl (gd_no rfl s39) ?_
            refine ow_val rfl rfl (ex_pickf rfl s39 rfl) ?_
            refine ow_val rfl rfl (ex_pick_f rfl rfl) ?_
            refine ow_nil ?_
            exact qw_meet (subL_meet 23 44 (lkv rfl (by first | rfl | (simp_all; done) | (simp_all <;> omega))) rfl rfl) (fun w h => h)
      ·
        refine cw_cond rfl (fun c44 => ?_) (fun c44 => ?_)
        ·
          refine cw_seq ?_
          refine cw_region ?_
          refine ow_val rfl rfl (ex_assign rfl) ?_
          refine ow_nil ?_
          refine qw_seq ?_
          refine cw_ret ?_
          refine qw_then_ret ?_
          refine qw_ret1 rfl rfl (fun w' h => ⟨congrArg (fun z => Ending.returned (.bool z)) ?_, h.ag.below⟩)
          symm
          rw [rightD_mk]
          rw [shape_go, c44]
          simp
        ·
          refine cw_skip ?_
          refine qw_seq ?_
          refine cw_seq ?_
          refine cw_cut1 68 (.bool (decide (0 < (d.length : Int)) && decide (o ≠ 3) && decide (o ≠ 4) && decide (o ≠ 5) && decide (o ≠ 6))) ?_ ?_
          ·
            refine cw_region ?_
            refine ow_val rfl rfl (ex_field rfl) ?_
            refine ow_val rfl rfl (ex_load1 rfl (by first | exact ld_own1 0 rfl rfl | exact ld_own1 1 rfl rfl | exact ld_own1 2 rfl rfl | exact ld_own1 3 rfl rfl | exact ld_own1 4 rfl rfl | exact ld_own1 5 rfl rfl | exact ld_own1 6 rfl rfl | exact ld_own1 7 rfl rfl | exact ld_ownG1 0 rfl rfl | exact ld_ownG1 1 rfl rfl | exact ld_imm1 (by assumption))) ?_
            refine ow_val rfl rfl (ex_len (ty := 0) rfl) ?_
            refine ow_val rfl rfl (ex_gtr rfl rfl) ?_
            refine ow_val rfl rfl (ex_move rfl) ?_
            refine ow_split (g := some (4, true)) rfl (fun s49 => ?_) (fun s49 => ?_)
            ·
              refine ow_val rfl (gd_go rfl s49) (ex_field rfl) ?_
              refine ow_val rfl (gd_go rfl s49) (ex_load1 rfl (by first | exact ld_own1 0 rfl rfl | exact ld_own1 1 rfl rfl | exact ld_own1 2 rfl rfl | exact ld_own1 3 rfl rfl | exact ld_own1 4 rfl rfl | exact ld_own1 5 rfl rfl | exact ld_own1 6 rfl rfl | exact ld_own1 7 rfl rfl | exact ld_ownG1 0 rfl rfl | exact ld_ownG1 1 rfl rfl | exact ld_imm1 (by assumption))) ?_
              refine ow_val rfl (gd_go rfl s49) (ex_neq rfl rfl) ?_
              refine ow_val rfl rfl (ex_pickt rfl s49 rfl) ?_
              refine ow_val rfl rfl (ex_move rfl) ?_
              refine ow_split (g := some (9, true)) rfl (fun s54 => ?_) (fun s54 => ?_)
              ·
                refine ow_val rfl (gd_go rfl s54) (ex_field rfl) ?_
                refine ow_val rfl (gd_go rfl s54) (ex_load1 rfl (by first | exact ld_own1 0 rfl rfl | exact ld_own1 1 rfl rfl | exact ld_own1 2 rfl rfl | exact ld_own1 3 rfl rfl | exact ld_own1 4 rfl rfl | exact ld_own1 5 rfl rfl | exact ld_own1 6 rfl rfl | exact ld_own1 7 rfl rfl | exact ld_ownG1 0 rfl rfl | exact ld_ownG1 1 rfl rfl | exact ld_imm1 (by assumption))) ?_
                refine ow_val rfl (gd_go rfl s54) (ex_neq rfl rfl) ?_
                refine ow_val rfl rfl (ex_pickt rfl s54 rfl) ?_
                refine ow_val rfl rfl (ex_move rfl) ?_
                refine ow_split (g := some (14, true)) rfl (fun s59 => ?_) (fun s59 => ?_)
                ·
                  refine ow_val rfl (gd_go rfl s59) (ex_field rfl) ?_
                  refine ow_val rfl (gd_go rfl s59) (ex_load1 rfl (by first | exact ld_own1 0 rfl rfl | exact ld_own1 1 rfl rfl | exact ld_own1 2 rfl rfl | exact ld_own1 3 rfl rfl | exact ld_own1 4 rfl rfl | exact ld_own1 5 rfl rfl | exact ld_own1 6 rfl rfl | exact ld_own1 7 rfl rfl | exact ld_ownG1 0 rfl rfl | exact ld_ownG1 1 rfl rfl | exact ld_imm1 (by assumption))) ?_
                  refine ow_val rfl (gd_go rfl s59) (ex_neq rfl rfl) ?_
                  refine ow_val rfl rfl (ex_pickt rfl s59 rfl) ?_
                  refine ow_val rfl rfl (ex_move rfl) ?_
                  refine ow_split (g := some (19, true)) rfl (fun s64 => ?_) (fun s64 => ?_)
                  ·
                    refine ow_val rfl (gd_go rfl s64) (ex_field rfl) ?_
                    refine ow_val rfl (gd_go rfl s64) (ex_load1 rfl (by first | exact ld_own1 0 rfl rfl | exact ld_own1 1 rfl rfl | exact ld_own1 2 rfl rfl | exact ld_own1 3 rfl rfl | exact ld_own1 4 rfl rfl | exact ld_own1 5 rfl rfl | exact ld_own1 6 rfl rfl | exact ld_own1 7 rfl rfl | exact ld_ownG1 0 rfl rfl | exact ld_ownG1 1 rfl rfl | exact ld_imm1 (by assumption))) ?_
                    refine ow_val rfl (gd_go rfl s64) (ex_neq rfl rfl) ?_
                    refine ow_val rfl rfl (ex_pickt rfl s64 rfl) ?_
                    refine ow_nil ?_
                    exact qw_meet (subL_meet 24 68 (lkv rfl (by first | rfl | (simp_all; done) | (simp_all <;> omega))) rfl rfl) (fun w h => h)
                  ·
                    refine ow_skip rfl (gd_no rfl s64) ?_
                    refine ow_skip rfl (gd_no rfl s64) ?_
                    refine ow_skip rfl (gd_no rfl s64) ?_
                    refine ow_val rfl rfl (ex_pickf rfl s64 rfl) ?_
                    refine ow_nil ?_
                    exact qw_meet (subL_meet 24 68 (lkv rfl (by first | rfl | (simp_all; done) | (simp_all <;> omega))) rfl rfl) (fun w h => h)
                ·
                  refine ow_skip rfl (gd_no rfl s59) ?_
                  refine ow_skip rfl (gd_no rfl s59) ?_
                  refine ow_skip rfl (gd_no rfl s59) ?_
                  refine ow_val rfl rfl (ex_pickf rfl s59 rfl) ?_
                  refine ow_val rfl rfl (ex_move rfl) ?_
                  refine ow_skip rfl rfl ?_
                  refine ow_skip rfl rfl ?_
                  refine ow_skip rfl rfl ?_
                  refine ow_val rfl rfl (ex_pick_f rfl rfl) ?_
                  refine ow_nil ?_
                  exact qw_meet (subL_meet 24 68 (lkv rfl (by first | rfl | (simp_all; done) | (simp_all <;> omega))) rfl rfl) (fun w h => h)
              ·
                refine ow_skip rfl (gd_no rfl s54) ?_
                refine ow_skip rfl (gd_no rfl s54) ?_
                refine ow_skip rfl (gd_no rfl s54) ?_
                refine ow_val rfl rfl (ex_pickf rfl s54 rfl) ?_
                refine ow_val rfl rfl (ex_move rfl) ?_
                refine ow_skip rfl rfl ?_
                refine ow_skip rfl rfl ?_
                refine ow_skip rfl rfl ?_
                refine ow_val rfl rfl (ex_pick_f rfl rfl) ?_
                refine ow_val rfl rfl (ex_move rfl) ?_
                refine ow_skip rfl rfl ?_
                refine ow_skip rfl rfl ?_
                refine ow_skip rfl rfl ?_
                refine ow_val rfl rfl (ex_pick_f rfl rfl) ?_
                refine ow_nil ?_
                exact qw_meet (subL_meet 24 68 (lkv rfl (by first | rfl | (simp_all; done) | (simp_all <;> omega))) rfl rfl) (fun w h => h)
            ·
              refine ow_skip rfl (gd_no rfl s49) ?_
              refine ow_skip rfl (gd_no rfl s49) ?_
              refine ow_skip rfl (gd_no rfl s49) ?_
              refine ow_val rfl rfl (ex_pickf rfl s49 rfl) ?_
              refine ow_val rfl rfl (ex_move rfl) ?_
              refine ow_skip rfl rfl ?_
              refine ow_skip rfl rfl ?_
              refine ow_skip rfl rfl ?_
              refine ow_val rfl rfl (ex_pick_f rfl rfl) ?_
              refine ow_val rfl rfl (ex_move rfl) ?_
              refine ow_skip rfl rfl ?_
              refine ow_skip rfl rfl ?_
              refine ow_skip rfl rfl ?_
              refine ow_val rfl rfl (ex_pick_f rfl rfl) ?_
              refine ow_val rfl rfl (ex_move rfl) ?_
              refine ow_skip rfl rfl ?_
              refine ow_skip rfl rfl ?_
              refine ow_skip rfl rfl ?_
              refine ow_val rfl rfl (ex_pick_f rfl rfl) ?_
              refine ow_nil ?_
              exact qw_meet (subL_meet 24 68 (lkv rfl (by first | rfl | (simp_all; done) | (simp_all <;> omega))) rfl rfl) (fun w h => h)
          ·
            refine cw_cond rfl (fun c68 => ?_) (fun c68 => ?_)
            ·
              refine cw_seq ?_
              refine cw_region ?_
              refine ow_val rfl rfl (ex_assign rfl) ?_
              refine ow_nil ?_
              refine qw_seq ?_
              refine cw_ret ?_
              refine qw_then_ret ?_
              refine qw_ret1 rfl rfl (fun w' h => ⟨congrArg (fun z => Ending.returned (.bool z)) ?_, h.ag.below⟩)
              symm
              rw [rightD_mk]
              rw [shape_go, c68]
              simp
            ·
              refine cw_skip ?_
              refine qw_seq ?_
              refine cw_seq ?_
              refine cw_seq ?_
              refine cw_region ?_
              refine ow_val rfl rfl (ex_assign rfl) ?_
              refine ow_nil ?_
              refine qw_seq ?_
              refine cw_block ?_
              refine cw_loopS (α := Nat) (fun i => [(1, .int .i64 (deep : Int)), (2, .pointer (some ⟨b2, 0, none⟩)), (6, .int .i64 (i : Int))]) (fun i => i ≤ ks.length ∧ (∀ j (h : j < ks.length), j < i → rightD ks[j] (deep + 1) = true) ∧ (∀ j (h : j + 1 < ks.length), j + 1 < i → ord ks[j] ks[j + 1] ≤ 0)) (fun i => ks.length - i) 0 (subL_cons (lkv rfl (by first | rfl | simp)) (subL_cons (lkv rfl (by first | rfl | simp)) (subL_cons (lkv rfl (by first | rfl | simp)) (subL_nil _)))) ⟨Nat.zero_le _, fun j h hj => absurd hj (Nat.not_lt_zero _), fun j h hj => absurd hj (Nat.not_lt_zero _)⟩ ?_
              intro i ⟨hle, hr, hso⟩
              refine cw_seq ?_
              refine cw_seq ?_
              refine cw_region ?_
              refine ow_val rfl rfl (ex_move rfl) ?_
              refine ow_val rfl rfl (ex_field rfl) ?_
              refine ow_val rfl rfl (ex_load1 rfl (by first | exact ld_own1 0 rfl rfl | exact ld_own1 1 rfl rfl | exact ld_own1 2 rfl rfl | exact ld_own1 3 rfl rfl | exact ld_own1 4 rfl rfl | exact ld_own1 5 rfl rfl | exact ld_own1 6 rfl rfl | exact ld_own1 7 rfl rfl | exact ld_ownG1 0 rfl rfl | exact ld_ownG1 1 rfl rfl | exact ld_imm1 (by assumption))) ?_
              refine ow_val rfl rfl (ex_len (ty := 0) rfl) ?_
              refine ow_val rfl rfl (ex_lss rfl rfl) ?_
              refine ow_nil ?_
              refine qw_seq ?_
              refine cw_cond rfl (fun c73 => ?_) (fun c73 => ?_)
              ·
                refine cw_skip ?_
                refine qw_seq ?_
                refine cw_seq ?_
                refine cw_block ?_
                refine cw_seq ?_
                have hlt : i < ks.length := by simp at c73; omega
                obtain ⟨bk, f, ck, cs, e1, e2, hc1, ht1⟩ := hk.get i hlt
                cases e1
                have hdp : deep < 16 := by simp at c21; omega
                refine cw_region ?_
                refine ow_val rfl rfl (ex_field rfl) ?_
                refine ow_val rfl rfl (ex_load1 rfl (by first | exact ld_own1 0 rfl rfl | exact ld_own1 1 rfl rfl | exact ld_own1 2 rfl rfl | exact ld_own1 3 rfl rfl | exact ld_own1 4 rfl rfl | exact ld_own1 5 rfl rfl | exact ld_own1 6 rfl rfl | exact ld_own1 7 rfl rfl | exact ld_ownG1 0 rfl rfl | exact ld_ownG1 1 rfl rfl | exact ld_imm1 (by assumption))) ?_
                refine ow_val rfl rfl (ex_move rfl) ?_
                refine ow_val rfl rfl (ex_index_nat rfl rfl (by omega)) ?_
                refine ow_val rfl rfl (ex_loadR rfl (by first | exact ld_ownN 0 rfl rfl | exact ld_ownN 1 rfl rfl | exact ld_ownN 2 rfl rfl | exact ld_ownN 3 rfl rfl | exact ld_ownN 4 rfl rfl | exact ld_ownN 5 rfl rfl | exact ld_ownN 6 rfl rfl | exact ld_ownN 7 rfl rfl | exact ld_ownGN 0 rfl rfl | exact ld_ownGN 1 rfl rfl | exact ld_immT (by assumption) (by assumption))) ?_
                refine ow_val rfl rfl (ex_move rfl) ?_
                refine ow_val rfl rfl (ex_addi (z := ((deep + 1 : Nat) : Int)) rfl rfl (by omega) (by omega) (by omega)) ?_
                refine ow_cv rfl rfl (ex_callf rfl (fun w h => callB ((ih _ (List.getElem_mem hlt) h.im ht1 (by omega))))) ?_
                refine ow_val rfl rfl (ex_assign rfl) ?_
                refine ow_nil ?_
                refine qw_seq ?_
                refine cw_seq ?_
                refine cw_seq ?_
                refine cw_region ?_
                refine ow_val rfl rfl (ex_move rfl) ?_
                refine ow_val rfl rfl (ex_not rfl) ?_
                refine ow_nil ?_
                refine qw_seq ?_
                refine cw_cond rfl (fun c85 => ?_) (fun c85 => ?_)
                ·
                  refine cw_seq ?_
                  refine cw_region ?_
                  refine ow_val rfl rfl (ex_assign rfl) ?_
                  refine ow_nil ?_
                  refine qw_seq ?_
                  refine cw_ret ?_
                  refine qw_then_ret ?_
                  refine qw_block_ret ?_
                  refine qw_then_ret ?_
                  refine qw_then_ret ?_
                  refine qw_block_ret ?_
                  refine qw_then_ret ?_
                  refine qw_ret1 rfl rfl (fun w' h => ⟨congrArg (fun z => Ending.returned (.bool z)) ?_, h.ag.below⟩)
                  symm
                  rw [rightD_mk]
                  have : rightsD ks (deep + 1) = false := by
                    cases hq : rightsD ks (deep + 1) with
                    | false => rfl
                    | true => have := rightsD_iff.1 hq i hlt; rw [this] at c85; cases c85
                  rw [this]; simp
                ·
                  refine cw_skip ?_
                  refine qw_seq ?_
                  refine cw_cut1 102 (.bool (decide (0 < (i : Int)) && decide (0 < ord (ks.getD (i - 1) zeroT) ks[i]))) ?_ ?_
                  ·
                    refine flow_sound 17 (by kernel_rfl) ?_
                    refine flow_val rfl (ex_move rfl) ?_
                    refine flow_val rfl (ex_gtr rfl rfl) ?_
                    refine flow_val rfl (ex_move rfl) ?_
                    refine flow_split rfl (fun s88 => ?_) (fun s88 => ?_)
                    ·
                      have hpos : 0 < i := by simpa using s88
                      obtain ⟨bk2, f2, ck2, cs2, e1', e2', hc2, ht2⟩ := hk.get (i - 1) (by omega)
                      cases e1'
                      rw [show ks[i - 1] = ks.getD (i - 1) zeroT by simp [List.getD_eq_getElem?_getD, show i - 1 < ks.length by omega]] at ht2
                      refine flow_val (gd_go rfl s88) (ex_field rfl) ?_
                      refine flow_val (gd_go rfl s88) (ex_load1 rfl (by first | exact ld_own1 0 rfl rfl | exact ld_own1 1 rfl rfl | exact ld_own1 2 rfl rfl | exact ld_own1 3 rfl rfl | exact ld_own1 4 rfl rfl | exact ld_own1 5 rfl rfl | exact ld_own1 6 rfl rfl | exact ld_own1 7 rfl rfl | exact ld_ownG1 0 rfl rfl | exact ld_ownG1 1 rfl rfl | exact ld_imm1 (by assumption))) ?_
                      refine flow_val (gd_go rfl s88) (ex_move rfl) ?_
                      refine flow_val (gd_go rfl s88) (ex_subi (z := ((i - 1 : Nat) : Int)) rfl rfl (by omega) (by omega) (by omega)) ?_
                      refine flow_val (gd_go rfl s88) (ex_index_nat rfl rfl (by omega)) ?_
                      refine flow_val (gd_go rfl s88) (ex_loadR rfl (by first | exact ld_ownN 0 rfl rfl | exact ld_ownN 1 rfl rfl | exact ld_ownN 2 rfl rfl | exact ld_ownN 3 rfl rfl | exact ld_ownN 4 rfl rfl | exact ld_ownN 5 rfl rfl | exact ld_ownN 6 rfl rfl | exact ld_ownN 7 rfl rfl | exact ld_ownGN 0 rfl rfl | exact ld_ownGN 1 rfl rfl | exact ld_immT (by assumption) (by assumption))) ?_
                      refine flow_val (gd_go rfl s88) (ex_field rfl) ?_
                      refine flow_val (gd_go rfl s88) (ex_load1 rfl (by first | exact ld_own1 0 rfl rfl | exact ld_own1 1 rfl rfl | exact ld_own1 2 rfl rfl | exact ld_own1 3 rfl rfl | exact ld_own1 4 rfl rfl | exact ld_own1 5 rfl rfl | exact ld_own1 6 rfl rfl | exact ld_own1 7 rfl rfl | exact ld_ownG1 0 rfl rfl | exact ld_ownG1 1 rfl rfl | exact ld_imm1 (by assumption))) ?_
                      refine flow_val (gd_go rfl s88) (ex_move rfl) ?_
                      refine flow_val (gd_go rfl s88) (ex_index_nat rfl rfl (by omega)) ?_
                      refine flow_val (gd_go rfl s88) (ex_loadR rfl (by first | exact ld_ownN 0 rfl rfl | exact ld_ownN 1 rfl rfl | exact ld_ownN 2 rfl rfl | exact ld_ownN 3 rfl rfl | exact ld_ownN 4 rfl rfl | exact ld_ownN 5 rfl rfl | exact ld_ownN 6 rfl rfl | exact ld_ownN 7 rfl rfl | exact ld_ownGN 0 rfl rfl | exact ld_ownGN 1 rfl rfl | exact ld_immT (by assumption) (by assumption))) ?_
                      refine flow_cv (gd_go rfl s88) (ex_callf rfl (fun w h => callB ((rOrder _ _ h.im ht2 ht1)))) ?_
                      refine flow_val (gd_go rfl s88) (ex_gtr rfl rfl) ?_
                      refine flow_val rfl (ex_pickt rfl s88 rfl) ?_
                      refine flow_nil ?_
                      refine fin_is ?_
                      refine fin_is ?_
                      refine fin_is ?_
                      refine fin_is ?_
                      refine fin_is ?_
                      refine fin_is ?_
                      refine fin_is ?_
                      refine fin_is ?_
                      refine fin_is ?_
                      refine fin_is ?_
                      refine fin_is ?_
                      refine fin_is ?_
                      refine fin_is ?_
                      refine fin_is ?_
                      refine fin_is ?_
                      refine fin_is ?_
                      refine fin_is ?_
                      refine fin_nil ?_
                      refine ow_nil ?_
                      exact qw_meet (subL_meet 17 102 (lkv rfl (by first | rfl | (simp_all; done) | (simp_all <;> omega))) rfl rfl) (fun w h => h)
                    ·
                      refine flow_skip (gd_no rfl s88) ?_
                      refine flow_skip (gd_no rfl s88) ?_
                      refine flow_skip (gd_no rfl s88) ?_
                      refine flow_skip (gd_no rfl s88) ?_
                      refine flow_skip (gd_no rfl s88) ?_
                      refine flow_skip (gd_no rfl s88) ?_
                      refine flow_skip (gd_no rfl s88) ?_
                      refine flow_skip (gd_no rfl s88) ?_
                      refine flow_skip (gd_no rfl s88) ?_
                      refine flow_skip (gd_no rfl s88) ?_
                      refine flow_skip (gd_no rfl s88) ?_
                      refine flow_skip (gd_no rfl s88) ?_
                      refine flow_skip (gd_no rfl s88) ?_
                      refine flow_val rfl (ex_pickf rfl s88 rfl) ?_
                      refine flow_nil ?_
                      refine fin_is ?_
                      refine fin_is ?_
                      refine fin_is ?_
                      refine fin_is ?_
                      refine fin_is ?_
                      refine fin_is ?_
                      refine fin_is ?_
                      refine fin_is ?_
                      refine fin_is ?_
                      refine fin_is ?_
                      refine fin_is ?_
                      refine fin_is ?_
                      refine fin_is ?_
                      refine fin_is ?_
                      refine fin_is ?_
                      refine fin_is ?_
                      refine fin_is ?_
                      refine fin_nil ?_
                      refine ow_nil ?_
                      exact qw_meet (subL_meet 17 102 (lkv rfl (by first | rfl | (simp_all; done) | (simp_all <;> omega))) rfl rfl) (fun w h => h)
                  ·
                    refine cw_cond rfl (fun c102 => ?_) (fun c102 => ?_)
                    ·
                      refine cw_seq ?_
                      refine cw_region ?_
                      refine ow_val rfl rfl (ex_assign rfl) ?_
                      refine ow_nil ?_
                      refine qw_seq ?_
                      refine cw_ret ?_
                      refine qw_block_ret ?_
                      refine qw_then_ret ?_
                      refine qw_then_ret ?_
                      refine qw_block_ret ?_
                      refine qw_then_ret ?_
                      refine qw_ret1 rfl rfl (fun w' h => ⟨congrArg (fun z => Ending.returned (.bool z)) ?_, h.ag.below⟩)
                      symm
                      rw [rightD_mk]
                      have : sorted ks = false := by
                        cases hq : sorted ks with
                        | false => rfl
                        | true =>
                          simp only [Bool.and_eq_true, decide_eq_true_eq] at c102
                          have := sorted_iff.1 hq (i - 1) (by omega)
                          have e : i - 1 + 1 = i := by omega
                          simp only [e] at this
                          rw [List.getD_eq_getElem?_getD, List.getElem?_eq_getElem (show i - 1 < ks.length by omega), Option.getD_some] at c102
                          omega
                      rw [this]; simp
                    ·
                      refine cw_skip ?_
                      refine qw_block_normal ?_
                      refine qw_seq ?_
                      refine cw_region ?_
                      refine ow_val rfl rfl (ex_move rfl) ?_
                      refine ow_val rfl rfl (ex_addi (z := ((i + 1 : Nat) : Int)) rfl rfl (by omega) (by omega) (by omega)) ?_
                      refine ow_val rfl rfl (ex_assign rfl) ?_
                      refine ow_nil ?_
                      exact qw_roundS (i + 1) (by omega) (subL_cons (lkv rfl (by first | rfl | simp)) (subL_cons (lkv rfl (by first | rfl | simp)) (subL_cons (lkv rfl (by first | rfl | simp)) (subL_nil _)))) ⟨by omega, fun j h hj => by
                        by_cases e : j = i
                        · subst e; simpa using c85
                        · exact hr j h (by omega), fun j h hj => by
                        by_cases e : j + 1 = i
                        · subst e
                          have : ord (ks.getD j zeroT) ks[j + 1] ≤ 0 := by simpa using c102
                          rwa [List.getD_eq_getElem?_getD, List.getElem?_eq_getElem (show j < ks.length by omega), Option.getD_some] at this
                        · exact hso j h (by omega)⟩
              ·
                refine cw_exit ?_
                refine qw_then_exit ?_
                refine qw_then_exit ?_
                refine qw_block_exit ?_
                refine qw_seq ?_
                refine cw_seq ?_
                refine cw_region ?_
                refine ow_val rfl rfl (ex_assign rfl) ?_
                refine ow_nil ?_
                refine qw_seq ?_
                refine cw_ret ?_
                refine qw_ret1 rfl rfl (fun w' h => ⟨congrArg (fun z => Ending.returned (.bool z)) ?_, h.ag.below⟩)
                symm
                rw [rightD_mk]
                have hsh : shape o n d ks = true := by
                  rw [shape_go, c44, c68]
                  simp at c21 ⊢
                  exact ⟨c21.2.1, by omega⟩
                have hdp : deep < 16 := by simp at c21; omega
                have he : i = ks.length := by simp at c73; omega
                rw [hsh, rightsD_iff.2 (fun j h => hr j h (by omega)), sorted_iff.2 (fun j h => hso j h (by omega))]
                simp [hdp]
set_option maxHeartbeats 400000 in
theorem rRight (t : T) {σ : Hp} {cs : List Value} {w : World} (hi : Imm σ w) (ht : TermC σ cs t) : Calls Tryz.prog 75 #[.agg cs.toArray] w fun e w' => e = .returned (.bool (right t)) ∧ Below w.heap.size w w' := by
  have ht0 := ht
  obtain ⟨dv, kv, rfl, ho, hn, hd, hk⟩ := ht.opn
  refine enter (St w (fun _ => False) σ [] []) Tryz.func75 rfl Tryz.ntmps75 rfl (St.start hi) ?_
  refine cw_seq ?_
  refine cw_region ?_
  refine ow_blk rfl rfl (exw_box rfl) ?_; intro b1
  refine ow_val rfl rfl (ex_assign rfl) ?_
  refine ow_nil ?_
  refine qw_seq ?_
  refine cw_seq ?_
  refine cw_region ?_
  refine ow_val rfl rfl (ex_loadR rfl (by first | exact ld_ownN 0 rfl rfl | exact ld_ownN 1 rfl rfl | exact ld_ownN 2 rfl rfl | exact ld_ownN 3 rfl rfl | exact ld_ownN 4 rfl rfl | exact ld_ownN 5 rfl rfl | exact ld_ownN 6 rfl rfl | exact ld_ownN 7 rfl rfl | exact ld_ownGN 0 rfl rfl | exact ld_ownGN 1 rfl rfl | exact ld_immT (by assumption) (by assumption))) ?_
  refine ow_cv rfl rfl (ex_callf rfl (fun w h => callB ((rRightD t (deep := 0) h.im ht0 (by omega))))) ?_
  refine ow_val rfl rfl (ex_assign rfl) ?_
  refine ow_nil ?_
  refine qw_seq ?_
  refine cw_ret ?_
  refine qw_ret1 rfl rfl (fun w' h => ⟨rfl, h.ag.below⟩)
end Go.Proofs.YtnjomdjkbbhdoaaGreatDoor
namespace Go.Proofs.YtnjomdjkbbhdoaaGreatDoor
open Go.RowKit
set_option linter.unusedVariables false
set_option linter.unusedSimpArgs false
set_option maxRecDepth 100000
set_option maxHeartbeats 400000 in
theorem rFind (t : T) {b : Nat} {sv : Value} {ts : List T} {ct : List Value} {σ : Hp} {w : World} (hi : Imm σ w) (hc0 : CellsAt σ b 0 [sv]) (hks : KidsV σ sv ts) (ht : TermC σ ct t) : Calls Tryz.prog 76 #[.pointer (some ⟨b, 0, none⟩), .agg ct.toArray] w fun e w' => e = .returned (.tuple #[.int .i64 (posT ts t), .bool (decide (0 ≤ posT ts t))]) ∧ Below w.heap.size w w' := by
  have ht0 := ht
  obtain ⟨dv, kv, rfl, ho, hn, hd, hk⟩ := ht.opn
  obtain ⟨p, c, rfl, hcl, hml⟩ := hks.slice
  have hm2 := hml
  unfold maxKids at hm2
  refine enter (St w (fun _ => False) σ [] []) Tryz.func76 rfl Tryz.ntmps76 rfl (St.start hi) ?_
  refine cw_seq ?_
  refine cw_region ?_
  refine ow_blk rfl rfl (exw_box rfl) ?_; intro b3
  refine ow_val rfl rfl (ex_assign rfl) ?_
  refine ow_val rfl rfl (ex_assign rfl) ?_
  refine ow_nil ?_
  refine qw_seq ?_
  refine cw_seq ?_
  refine cw_seq ?_
  refine cw_region ?_
  refine ow_val rfl rfl (ex_assign rfl) ?_
  refine ow_nil ?_
  refine qw_seq ?_
  refine cw_block ?_
  refine cw_loopS (α := Nat) (fun i => [(0, .pointer (some ⟨b, 0, none⟩)), (3, .pointer (some ⟨b3, 0, none⟩)), (6, .int .i64 (i : Int))]) (fun i => i ≤ ts.length ∧ ∀ j (h : j < ts.length), j < i → decide (ord ts[j] t = 0) = false) (fun i => ts.length - i) 0 (subL_cons (lkv rfl (by first | rfl | simp)) (subL_cons (lkv rfl (by first | rfl | simp)) (subL_cons (lkv rfl (by first | rfl | simp)) (subL_nil _)))) ⟨Nat.zero_le _, fun j _ h => absurd h (Nat.not_lt_zero _)⟩ ?_
  intro i ⟨hle, hno⟩
  refine cw_seq ?_
  refine cw_seq ?_
  refine cw_region ?_
  refine ow_val rfl rfl (ex_move rfl) ?_
  refine ow_val rfl rfl (ex_move rfl) ?_
  refine ow_val rfl rfl (ex_nilck rfl) ?_
  refine ow_val rfl rfl (ex_field rfl) ?_
  refine ow_val rfl rfl (ex_load1 rfl (by first | exact ld_own1 0 rfl rfl | exact ld_own1 1 rfl rfl | exact ld_own1 2 rfl rfl | exact ld_own1 3 rfl rfl | exact ld_own1 4 rfl rfl | exact ld_own1 5 rfl rfl | exact ld_own1 6 rfl rfl | exact ld_own1 7 rfl rfl | exact ld_ownG1 0 rfl rfl | exact ld_ownG1 1 rfl rfl | exact ld_imm1 (by assumption))) ?_
  refine ow_val rfl rfl (ex_len (ty := 0) rfl) ?_
  refine ow_val rfl rfl (ex_lss rfl rfl) ?_
  refine ow_nil ?_
  refine qw_seq ?_
  refine cw_cond rfl (fun c13 => ?_) (fun c13 => ?_)
  ·
    refine cw_skip ?_
    refine qw_seq ?_
    refine cw_seq ?_
    refine cw_block ?_
    refine cw_seq ?_
    have hlt : i < ts.length := by have := of_decide_eq_true c13; omega
    obtain ⟨bk, f, c', cs, e1, e2, hc1, ht1⟩ := hks.get i hlt
    cases e1
    refine flow_sound 9 (by kernel_rfl) ?_
    refine flow_val rfl (ex_move rfl) ?_
    refine flow_val rfl (ex_nilck rfl) ?_
    refine flow_val rfl (ex_field rfl) ?_
    refine flow_val rfl (ex_load1 rfl (by first | exact ld_own1 0 rfl rfl | exact ld_own1 1 rfl rfl | exact ld_own1 2 rfl rfl | exact ld_own1 3 rfl rfl | exact ld_own1 4 rfl rfl | exact ld_own1 5 rfl rfl | exact ld_own1 6 rfl rfl | exact ld_own1 7 rfl rfl | exact ld_ownG1 0 rfl rfl | exact ld_ownG1 1 rfl rfl | exact ld_imm1 (by assumption))) ?_
    refine flow_val rfl (ex_move rfl) ?_
    refine flow_val rfl (ex_index_nat rfl rfl (by omega)) ?_
    refine flow_val rfl (ex_loadR rfl (ld_immT hc1 ht1)) ?_
    refine flow_val rfl (ex_loadR rfl (by first | exact ld_ownN 0 rfl rfl | exact ld_ownN 1 rfl rfl | exact ld_ownN 2 rfl rfl | exact ld_ownN 3 rfl rfl | exact ld_ownN 4 rfl rfl | exact ld_ownN 5 rfl rfl | exact ld_ownN 6 rfl rfl | exact ld_ownN 7 rfl rfl | exact ld_ownGN 0 rfl rfl | exact ld_ownGN 1 rfl rfl | exact ld_immT (by assumption) (by assumption))) ?_
    refine flow_cv rfl (ex_callf rfl (fun w h => callB ((rSame _ _ h.im ht1 ht0)))) ?_
    refine flow_nil ?_
    refine fin_is ?_
    refine fin_is ?_
    refine fin_is ?_
    refine fin_is ?_
    refine fin_is ?_
    refine fin_is ?_
    refine fin_is ?_
    refine fin_is ?_
    refine fin_is ?_
    refine fin_nil ?_
    refine ow_nil ?_
    refine qw_seq ?_
    refine cw_cond rfl (fun c24 => ?_) (fun c24 => ?_)
    ·
      refine cw_seq ?_
      refine cw_region ?_
      refine ow_val rfl rfl (ex_move rfl) ?_
      refine ow_val rfl rfl (ex_assign rfl) ?_
      refine ow_val rfl rfl (ex_assign rfl) ?_
      refine ow_nil ?_
      refine qw_seq ?_
      refine cw_ret ?_
      refine qw_block_ret ?_
      refine qw_then_ret ?_
      refine qw_then_ret ?_
      refine qw_block_ret ?_
      refine qw_then_ret ?_
      refine qw_ret2 rfl rfl rfl (fun w' h => ⟨?_, h.ag.below⟩)
      have e : posT ts t = (i : Int) := findI_at hlt c24 hno
      rw [e, decide_eq_true (show (0 : Int) ≤ (i : Int) by omega)]
    ·
      refine cw_skip ?_
      refine qw_block_normal ?_
      refine qw_seq ?_
      refine cw_region ?_
      refine ow_val rfl rfl (ex_move rfl) ?_
      refine ow_val rfl rfl (ex_addi (z := ((i + 1 : Nat) : Int)) rfl rfl (by omega) (by omega) (by omega)) ?_
      refine ow_val rfl rfl (ex_assign rfl) ?_
      refine ow_nil ?_
      exact qw_roundS (i + 1) (by omega) (subL_cons (lkv rfl (by first | rfl | simp)) (subL_cons (lkv rfl (by first | rfl | simp)) (subL_cons (lkv rfl (by first | rfl | simp)) (subL_nil _)))) ⟨by omega, fun j hj hji => by
        rcases Nat.lt_or_eq_of_le (Nat.le_of_lt_succ hji) with h1 | h1
        · exact hno j hj h1
        · subst h1; exact c24⟩
  ·
    refine cw_exit ?_
    refine qw_then_exit ?_
    refine qw_then_exit ?_
    refine qw_block_exit ?_
    refine qw_seq ?_
    refine cw_seq ?_
    refine cw_region ?_
    refine ow_val rfl rfl (ex_assign rfl) ?_
    refine ow_val rfl rfl (ex_assign rfl) ?_
    refine ow_nil ?_
    refine qw_seq ?_
    refine cw_ret ?_
    refine qw_ret2 rfl rfl rfl (fun w' h => ⟨?_, h.ag.below⟩)
    have hge : ts.length ≤ i := by have := of_decide_eq_false c13; omega
    have e : posT ts t = -1 := findI_none (fun j hj => hno j hj (by omega))
    rw [e]
    rfl
theorem RefK.seenX {b : Nat} {ts : List T} {σ : Hp} {K : List (Nat × Obj)} {w : World} (h : RefK 63 32 b ts σ K) (hi : Has σ K w) : ∃ sv, CellsAt (exts σ K) b 0 [sv] ∧ KidsV (exts σ K) sv ts := by
  obtain ⟨sv, xs, Gs, rfl, hO, hr, hl⟩ := h
  obtain ⟨p, c, rfl, hc, hsrc⟩ := hO.seen (σ := exts σ ((b, .cells #[sv] 63) :: Gs)) (fun q hq => exts_get hi.nd (by simp [hq]))
  refine ⟨_, CellsAt.of1 (exts_get hi.nd List.mem_cons_self) rfl, p, c, rfl, hc, by unfold maxKids; omega, ?_⟩
  rcases hsrc with h0 | ⟨bb, o, e, hcb⟩
  · exact .inl (List.eq_nil_of_length_eq_zero h0)
  · exact .inr ⟨bb, o, e, (hr.le hi.le).elems hcb⟩
theorem rFindK (t : T) {b : Nat} {ts : List T} {ct : List Value} {σ : Hp} {K : List (Nat × Obj)} {w : World} (hi : Has σ K w) (hv : RefK 63 32 b ts σ K) (ht : TermC σ ct t) : Calls Tryz.prog 76 #[.pointer (some ⟨b, 0, none⟩), .agg ct.toArray] w fun e w' => e = .returned (.tuple #[.int .i64 (posT ts t), .bool (decide (0 ≤ posT ts t))]) ∧ Below w.heap.size w w' :=
  let ⟨_, h1, h2⟩ := hv.seenX hi
  rFind t hi.exts h1 h2 (ht.le hi.le)
set_option maxHeartbeats 400000 in
theorem rPutV : ∀ (t : T) {b : Nat} {ts : List T} {ct : List Value} {σ : Hp} {K : List (Nat × Obj)} {w : World}, Has σ K w → RefK 63 32 b ts σ K → TermC σ ct t → (0 ≤ posT ts t ∨ ts.length + size t ≤ 4096) → Calls Tryz.prog 78 #[.pointer (some ⟨b, 0, none⟩), .agg ct.toArray] w (GiveK (fun σ' u K' => u = .int .i64 (numV t ts) ∧ RefK 63 32 b (putV t ts) σ' K') σ K w) := by
  intro t
  induction t using T.ind with
  | _ o n d ks ih =>
  intro b ts ct σ K w hi hv ht hroom
  have ht0 := ht
  obtain ⟨dv, kv, rfl, ho, hn, hd, hk⟩ := ht.opn
  simp only [T.kids, T.op, T.num, T.data] at *
  obtain ⟨p, c, rfl, hc, hm⟩ := hk.slice
  have hm2 := hm
  unfold maxKids at hm2
  refine enter (St w (keysOf K) σ [] K) Tryz.func78 rfl Tryz.ntmps78 rfl (Has.start hi) ?_
  refine cw_seq ?_
  refine cw_region ?_
  refine ow_blk rfl rfl (exw_box rfl) ?_; intro b3
  refine ow_val rfl rfl (ex_assign rfl) ?_
  refine ow_nil ?_
  refine qw_seq ?_
  refine cw_seq ?_
  refine cw_region ?_
  refine ow_val rfl rfl (ex_move rfl) ?_
  refine ow_val rfl rfl (ex_loadR rfl (by first | exact ld_ownN 0 rfl rfl | exact ld_ownN 1 rfl rfl | exact ld_ownN 2 rfl rfl | exact ld_ownN 3 rfl rfl | exact ld_ownN 4 rfl rfl | exact ld_ownN 5 rfl rfl | exact ld_ownN 6 rfl rfl | exact ld_ownN 7 rfl rfl | exact ld_ownGN 0 rfl rfl | exact ld_ownGN 1 rfl rfl | exact ld_immT (by assumption) (by assumption))) ?_
  refine ow_cv rfl rfl (ex_callf rfl (fun w h => callB ((rFindK _ h.hasE hv ht0)))) ?_
  refine ow_val rfl rfl (ex_move rfl) ?_
  refine ow_val rfl rfl (ex_extract rfl rfl) ?_
  refine ow_val rfl rfl (ex_extract rfl rfl) ?_
  refine ow_val rfl rfl (ex_assign rfl) ?_
  refine ow_val rfl rfl (ex_assign rfl) ?_
  refine ow_nil ?_
  refine qw_seq ?_
  refine cw_seq ?_
  refine cw_seq ?_
  refine cw_region ?_
  refine ow_val rfl rfl (ex_move rfl) ?_
  refine ow_nil ?_
  refine qw_seq ?_
  refine cw_cond rfl (fun c14 => ?_) (fun c14 => ?_)
  ·
    refine cw_seq ?_
    refine cw_region ?_
    refine ow_val rfl rfl (ex_move rfl) ?_
    refine ow_val rfl rfl (ex_assign rfl) ?_
    refine ow_nil ?_
    refine qw_seq ?_
    refine cw_ret ?_
    refine qw_then_ret ?_
    refine qw_ret1 rfl rfl (fun w' h => ?_)
    have h0 := of_decide_eq_true c14
    refine (h.drop (List.nil_sublist _)).givesK (Le.refl _) (Fresh.refl _ _) ⟨?_, ?_⟩
    · unfold numV
      rw [if_pos h0]
    · rw [putV_mk, if_pos h0]
      exact hv
  ·
    have hnp : ¬ 0 ≤ posT ts (.mk o n d ks) := of_decide_eq_false c14
    have hsz := hroom.resolve_left hnp
    simp only [size] at hsz
    refine cw_skip ?_
    refine qw_seq ?_
    refine cw_seq ?_
    refine cw_seq ?_
    refine cw_region ?_
    refine ow_val rfl rfl (ex_assign rfl) ?_
    refine ow_nil ?_
    refine qw_seq ?_
    refine cw_block ?_
    refine cw_loop3 (fun (j : Nat) (τ : Hp) (K' : List (Nat × Obj)) => [(0, .pointer (some ⟨b, 0, none⟩)), (3, .pointer (some ⟨b3, 0, none⟩)), (7, .int .i64 (j : Int))]) (fun j τ K' => j ≤ ks.length ∧ Le σ τ ∧ Fresh σ τ w ∧ RefK 63 32 b (putVs (ks.take j) ts) τ K') (fun j τ K' => τ) (fun j τ K' => K') (fun j _ _ => ks.length - j) 0 σ K (subL_cons (lkv rfl (by first | rfl | simp)) (subL_cons (lkv rfl (by first | rfl | simp)) (subL_cons (lkv rfl (by first | rfl | simp)) (subL_nil _)))) ⟨Nat.zero_le _, Le.refl _, Fresh.refl _ _, by simpa [putVs] using hv⟩ (fun w h => h) ?_
    intro j τj Kj ⟨hlej, hlj, hfj, hvj⟩
    refine cw_seq ?_
    refine cw_seq ?_
    refine cw_region ?_
    refine ow_val rfl rfl (ex_move rfl) ?_
    refine ow_val rfl rfl (ex_field rfl) ?_
    refine ow_val rfl rfl (ex_load1 rfl (by first | exact ld_own1 0 rfl rfl | exact ld_own1 1 rfl rfl | exact ld_own1 2 rfl rfl | exact ld_own1 3 rfl rfl | exact ld_own1 4 rfl rfl | exact ld_own1 5 rfl rfl | exact ld_own1 6 rfl rfl | exact ld_own1 7 rfl rfl | exact ld_ownG1 0 rfl rfl | exact ld_ownG1 1 rfl rfl | exact ld_imm1 (by assumption))) ?_
    refine ow_val rfl rfl (ex_len (ty := 0) rfl) ?_
    refine ow_val rfl rfl (ex_lss rfl rfl) ?_
    refine ow_nil ?_
    refine qw_seq ?_
    refine cw_cond rfl (fun c20 => ?_) (fun c20 => ?_)
    ·
      refine cw_skip ?_
      refine qw_seq ?_
      refine cw_seq ?_
      refine cw_block ?_
      have hltj : j < ks.length := by have := of_decide_eq_true c20; omega
      obtain ⟨bk, f, c', cs, e1, e2, hc1, ht1⟩ := hk.get j hltj
      cases e1
      have hst := putVs_take ks ts j hltj
      have hpl := putVs_len ks ts j
      have hs1 := sizes_take ks j hltj
      have hs2 := sizes_take_le ks (j + 1)
      refine cw_region ?_
      refine ow_val rfl rfl (ex_move rfl) ?_
      refine ow_val rfl rfl (ex_field rfl) ?_
      refine ow_val rfl rfl (ex_load1 rfl (by first | exact ld_own1 0 rfl rfl | exact ld_own1 1 rfl rfl | exact ld_own1 2 rfl rfl | exact ld_own1 3 rfl rfl | exact ld_own1 4 rfl rfl | exact ld_own1 5 rfl rfl | exact ld_own1 6 rfl rfl | exact ld_own1 7 rfl rfl | exact ld_ownG1 0 rfl rfl | exact ld_ownG1 1 rfl rfl | exact ld_imm1 (by assumption))) ?_
      refine ow_val rfl rfl (ex_move rfl) ?_
      refine ow_val rfl rfl (ex_index_nat rfl rfl (by omega)) ?_
      refine ow_val rfl rfl (ex_loadR rfl (ld_immT (hc1.le hlj) (ht1.le hlj))) ?_
      refine ow_ckE rfl rfl (ex_callf rfl (fun w h => ih _ (List.getElem_mem hltj) h.hasE hvj (ht1.le hlj) (.inr (by omega)))) (fun v29 τ33 K33 hl33 hf33 hr33 => ?_)
      refine ow_nil ?_
      refine qw_block_normal ?_
      refine qw_seq ?_
      refine cw_region ?_
      refine ow_val rfl rfl (ex_move rfl) ?_
      refine ow_val rfl rfl (ex_addi (z := ((j + 1 : Nat) : Int)) rfl rfl (by omega) (by omega) (by omega)) ?_
      refine ow_val rfl rfl (ex_assign rfl) ?_
      refine ow_nil ?_
      refine qw_round3 (j + 1) τ33 K33 (by omega) (subL_cons (lkv rfl (by first | rfl | simp)) (subL_cons (lkv rfl (by first | rfl | simp)) (subL_cons (lkv rfl (by first | rfl | simp)) (subL_nil _)))) ⟨by omega, hlj.trans hl33, hfj.trans hf33, ?_⟩ (fun w h => h)
      rw [hst]
      exact hr33.2
    ·
      have he : j = ks.length := by have := of_decide_eq_false c20; omega
      subst he
      rw [List.take_length] at hvj
      have hpl := putVs_len ks ts ks.length
      rw [List.take_length] at hpl
      have hnew := putVs_new (t := .mk o n d ks) hnp
      simp only [T.kids] at hnew
      obtain ⟨sv, xs, Gs, rfl, hO, hrow, hfew⟩ := hvj
      obtain ⟨pq, cq, rfl, hcq⟩ := hO.slice
      refine cw_exit ?_
      refine qw_then_exit ?_
      refine qw_then_exit ?_
      refine qw_block_exit ?_
      refine qw_seq ?_
      refine cw_cut [(0, .pointer (some ⟨b, 0, none⟩))] (fun w' => ∃ (τ5 : Hp) (c45 : List Value) (g cg : Nat) (tl : List Value), (Le τj τ5 ∧ Fresh τj τ5 w ∧ TermC τ5 c45 (.mk o n d ks) ∧ (putVs ks ts).length + 1 ≤ cg ∧ cg ≤ maxLen ∧ (xs ++ c45 ++ tl).length = cg * 4) ∧ St w (keysOf K) τ5 [(g, rowO (xs ++ c45) tl 32), (b, .cells #[.slice (some ⟨g, 0, none⟩) ((putVs ks ts).length + 1) cg] 63)] [] w') ?_ ?_
      ·
        refine flow_soundT 7 (by kernel_rfl) ?_
        refine flow_val rfl (ex_move rfl) ?_
        refine flow_val rfl (ex_nilck rfl) ?_
        refine flow_val rfl (ex_field rfl) ?_
        refine flow_val rfl (ex_load1 rfl (by first | exact ld_own1 0 rfl rfl | exact ld_own1 1 rfl rfl | exact ld_own1 2 rfl rfl | exact ld_own1 3 rfl rfl | exact ld_own1 4 rfl rfl | exact ld_own1 5 rfl rfl | exact ld_own1 6 rfl rfl | exact ld_own1 7 rfl rfl | exact ld_ownG1 0 rfl rfl | exact ld_ownG1 1 rfl rfl | exact ld_imm1 (by assumption))) ?_
        refine flow_val rfl (ex_loadR rfl (by first | exact ld_ownN 0 rfl rfl | exact ld_ownN 1 rfl rfl | exact ld_ownN 2 rfl rfl | exact ld_ownN 3 rfl rfl | exact ld_ownN 4 rfl rfl | exact ld_ownN 5 rfl rfl | exact ld_ownN 6 rfl rfl | exact ld_ownN 7 rfl rfl | exact ld_ownGN 0 rfl rfl | exact ld_ownGN 1 rfl rfl | exact ld_immT (by assumption) (by assumption))) ?_
        refine flow_val rfl (ex_len (ty := 0) rfl) ?_
        refine flow_sat QR.pers (obk (ob_one rfl rfl (zeroT_c _))) ?_
        refine flow_nilT ?_
        refine fint_satR (Le.refl _) (fun v47 τ7 hl7 hf7 hr7 => ?_)
        obtain ⟨bo, co, rfl, hco, htco⟩ := hr7
        have ht45 := (ht0.le hlj).le hl7
        refine fint_is ?_
        refine fint_is ?_
        refine fint_is ?_
        refine fint_is ?_
        refine fint_is ?_
        refine fint_is ?_
        refine fint_nil ?_
        refine any_one (i := 7) (by kernel_rfl) ?_
        refine next_mono (fun w h => h.ofG) ?_
        refine next_app1 rfl rfl (exw_append1 (news := co) rfl rfl hO (by simp [htco.len]) (.inr ⟨_, _, rfl, fun w h => hco.range h.im⟩) htco.one (by unfold maxLen; omega) (by omega)) (fun v48 G48 hO48 hz48 => ?_)
        obtain ⟨g, cg, tl, rfl, rfl, hg1, hg2, hg3⟩ := hO48.open (by omega)
        refine any_mono (fun w h => h.ofG) ?_
        refine any_two (i := 8) (j := 10) (by kernel_rfl) ?_ ?_
        ·
          refine next_val rfl rfl (ex_index_nat rfl rfl (by omega)) ?_
          refine any_two (i := 9) (j := 10) (by kernel_rfl) ?_ ?_
          ·
            refine next_u rfl (exu_storeX 0 rfl rfl rfl ht45.len ht45.one (by simp [hrow.len, htco.len])) ?_
            refine any_one (i := 10) (by kernel_rfl) ?_
            refine next_val rfl rfl (ex_nilck rfl) ?_
            refine any_one (i := 11) (by kernel_rfl) ?_
            refine next_val rfl rfl (ex_field rfl) ?_
            refine any_one (i := 12) (by kernel_rfl) ?_
            refine next_u rfl (exu_store1 1 rfl rfl rfl rfl rfl rfl) ?_
            refine any_done (by kernel_rfl) ?_
            refine qw_meet (subL_cons (lkv rfl (by first | rfl | simp)) (subL_nil _)) (fun w' h => ⟨τ7, _, g, cg, tl, ⟨hl7, hf7, ht45, hg1, hg2, by have h1 := ht45.len; have h2 := htco.len; simp only [List.length_append] at hg3 ⊢; omega⟩, ?_⟩)
            have h1 := h.drop (.cons_cons _ (.cons_cons _ (List.nil_sublist _)))
            rwa [setX_snoc hrow.len htco.len] at h1
          ·
            refine next_val rfl rfl (ex_nilck rfl) ?_
            refine any_two (i := 9) (j := 11) (by kernel_rfl) ?_ ?_
            ·
              refine next_u rfl (exu_storeX 0 rfl rfl rfl ht45.len ht45.one (by simp [hrow.len, htco.len])) ?_
              refine any_one (i := 11) (by kernel_rfl) ?_
              refine next_val rfl rfl (ex_field rfl) ?_
              refine any_one (i := 12) (by kernel_rfl) ?_
              refine next_u rfl (exu_store1 1 rfl rfl rfl rfl rfl rfl) ?_
              refine any_done (by kernel_rfl) ?_
              refine qw_meet (subL_cons (lkv rfl (by first | rfl | simp)) (subL_nil _)) (fun w' h => ⟨τ7, _, g, cg, tl, ⟨hl7, hf7, ht45, hg1, hg2, by have h1 := ht45.len; have h2 := htco.len; simp only [List.length_append] at hg3 ⊢; omega⟩, ?_⟩)
              have h1 := h.drop (.cons_cons _ (.cons_cons _ (List.nil_sublist _)))
              rwa [setX_snoc hrow.len htco.len] at h1
            ·
              refine next_val rfl rfl (ex_field rfl) ?_
              refine any_two (i := 9) (j := 12) (by kernel_rfl) ?_ ?_
              ·
                refine next_u rfl (exu_storeX 0 rfl rfl rfl ht45.len ht45.one (by simp [hrow.len, htco.len])) ?_
                refine any_one (i := 12) (by kernel_rfl) ?_
                refine next_u rfl (exu_store1 1 rfl rfl rfl rfl rfl rfl) ?_
                refine any_done (by kernel_rfl) ?_
                refine qw_meet (subL_cons (lkv rfl (by first | rfl | simp)) (subL_nil _)) (fun w' h => ⟨τ7, _, g, cg, tl, ⟨hl7, hf7, ht45, hg1, hg2, by have h1 := ht45.len; have h2 := htco.len; simp only [List.length_append] at hg3 ⊢; omega⟩, ?_⟩)
                have h1 := h.drop (.cons_cons _ (.cons_cons _ (List.nil_sublist _)))
                rwa [setX_snoc hrow.len htco.len] at h1
              ·
                refine next_u rfl (exu_store1 1 rfl rfl rfl rfl rfl rfl) ?_
                refine any_one (i := 9) (by kernel_rfl) ?_
                refine next_u rfl (exu_storeX 0 rfl rfl rfl ht45.len ht45.one (by simp [hrow.len, htco.len])) ?_
                refine any_done (by kernel_rfl) ?_
                refine qw_meet (subL_cons (lkv rfl (by first | rfl | simp)) (subL_nil _)) (fun w' h => ⟨τ7, _, g, cg, tl, ⟨hl7, hf7, ht45, hg1, hg2, by have h1 := ht45.len; have h2 := htco.len; simp only [List.length_append] at hg3 ⊢; omega⟩, ?_⟩)
                have h1 := h.drop (.cons_cons _ (.cons_cons _ (List.nil_sublist _)))
                rwa [setX_snoc hrow.len htco.len] at h1
        ·
          refine next_val rfl rfl (ex_nilck rfl) ?_
          refine any_two (i := 8) (j := 11) (by kernel_rfl) ?_ ?_
          ·
            refine next_val rfl rfl (ex_index_nat rfl rfl (by omega)) ?_
            refine any_two (i := 9) (j := 11) (by kernel_rfl) ?_ ?_
            ·
              refine next_u rfl (exu_storeX 0 rfl rfl rfl ht45.len ht45.one (by simp [hrow.len, htco.len])) ?_
              refine any_one (i := 11) (by kernel_rfl) ?_
              refine next_val rfl rfl (ex_field rfl) ?_
              refine any_one (i := 12) (by kernel_rfl) ?_
              refine next_u rfl (exu_store1 1 rfl rfl rfl rfl rfl rfl) ?_
              refine any_done (by kernel_rfl) ?_
              refine qw_meet (subL_cons (lkv rfl (by first | rfl | simp)) (subL_nil _)) (fun w' h => ⟨τ7, _, g, cg, tl, ⟨hl7, hf7, ht45, hg1, hg2, by have h1 := ht45.len; have h2 := htco.len; simp only [List.length_append] at hg3 ⊢; omega⟩, ?_⟩)
              have h1 := h.drop (.cons_cons _ (.cons_cons _ (List.nil_sublist _)))
              rwa [setX_snoc hrow.len htco.len] at h1
            ·
              refine next_val rfl rfl (ex_field rfl) ?_
              refine any_two (i := 9) (j := 12) (by kernel_rfl) ?_ ?_
              ·
                refine next_u rfl (exu_storeX 0 rfl rfl rfl ht45.len ht45.one (by simp [hrow.len, htco.len])) ?_
                refine any_one (i := 12) (by kernel_rfl) ?_
                refine next_u rfl (exu_store1 1 rfl rfl rfl rfl rfl rfl) ?_
                refine any_done (by kernel_rfl) ?_
                refine qw_meet (subL_cons (lkv rfl (by first | rfl | simp)) (subL_nil _)) (fun w' h => ⟨τ7, _, g, cg, tl, ⟨hl7, hf7, ht45, hg1, hg2, by have h1 := ht45.len; have h2 := htco.len; simp only [List.length_append] at hg3 ⊢; omega⟩, ?_⟩)
                have h1 := h.drop (.cons_cons _ (.cons_cons _ (List.nil_sublist _)))
                rwa [setX_snoc hrow.len htco.len] at h1
              ·
                refine next_u rfl (exu_store1 1 rfl rfl rfl rfl rfl rfl) ?_
                refine any_one (i := 9) (by kernel_rfl) ?_
                refine next_u rfl (exu_storeX 0 rfl rfl rfl ht45.len ht45.one (by simp [hrow.len, htco.len])) ?_
                refine any_done (by kernel_rfl) ?_
                refine qw_meet (subL_cons (lkv rfl (by first | rfl | simp)) (subL_nil _)) (fun w' h => ⟨τ7, _, g, cg, tl, ⟨hl7, hf7, ht45, hg1, hg2, by have h1 := ht45.len; have h2 := htco.len; simp only [List.length_append] at hg3 ⊢; omega⟩, ?_⟩)
                have h1 := h.drop (.cons_cons _ (.cons_cons _ (List.nil_sublist _)))
                rwa [setX_snoc hrow.len htco.len] at h1
          ·
            refine next_val rfl rfl (ex_field rfl) ?_
            refine any_two (i := 8) (j := 12) (by kernel_rfl) ?_ ?_
            ·
              refine next_val rfl rfl (ex_index_nat rfl rfl (by omega)) ?_
              refine any_two (i := 9) (j := 12) (by kernel_rfl) ?_ ?_
              ·
                refine next_u rfl (exu_storeX 0 rfl rfl rfl ht45.len ht45.one (by simp [hrow.len, htco.len])) ?_
                refine any_one (i := 12) (by kernel_rfl) ?_
                refine next_u rfl (exu_store1 1 rfl rfl rfl rfl rfl rfl) ?_
                refine any_done (by kernel_rfl) ?_
                refine qw_meet (subL_cons (lkv rfl (by first | rfl | simp)) (subL_nil _)) (fun w' h => ⟨τ7, _, g, cg, tl, ⟨hl7, hf7, ht45, hg1, hg2, by have h1 := ht45.len; have h2 := htco.len; simp only [List.length_append] at hg3 ⊢; omega⟩, ?_⟩)
                have h1 := h.drop (.cons_cons _ (.cons_cons _ (List.nil_sublist _)))
                rwa [setX_snoc hrow.len htco.len] at h1
              ·
                refine next_u rfl (exu_store1 1 rfl rfl rfl rfl rfl rfl) ?_
                refine any_one (i := 9) (by kernel_rfl) ?_
                refine next_u rfl (exu_storeX 0 rfl rfl rfl ht45.len ht45.one (by simp [hrow.len, htco.len])) ?_
                refine any_done (by kernel_rfl) ?_
                refine qw_meet (subL_cons (lkv rfl (by first | rfl | simp)) (subL_nil _)) (fun w' h => ⟨τ7, _, g, cg, tl, ⟨hl7, hf7, ht45, hg1, hg2, by have h1 := ht45.len; have h2 := htco.len; simp only [List.length_append] at hg3 ⊢; omega⟩, ?_⟩)
                have h1 := h.drop (.cons_cons _ (.cons_cons _ (List.nil_sublist _)))
                rwa [setX_snoc hrow.len htco.len] at h1
            ·
              refine next_u rfl (exu_store1 1 rfl rfl rfl rfl rfl rfl) ?_
              refine any_one (i := 8) (by kernel_rfl) ?_
              refine next_val rfl rfl (ex_index_nat rfl rfl (by omega)) ?_
              refine any_one (i := 9) (by kernel_rfl) ?_
              refine next_u rfl (exu_storeX 0 rfl rfl rfl ht45.len ht45.one (by simp [hrow.len, htco.len])) ?_
              refine any_done (by kernel_rfl) ?_
              refine qw_meet (subL_cons (lkv rfl (by first | rfl | simp)) (subL_nil _)) (fun w' h => ⟨τ7, _, g, cg, tl, ⟨hl7, hf7, ht45, hg1, hg2, by have h1 := ht45.len; have h2 := htco.len; simp only [List.length_append] at hg3 ⊢; omega⟩, ?_⟩)
              have h1 := h.drop (.cons_cons _ (.cons_cons _ (List.nil_sublist _)))
              rwa [setX_snoc hrow.len htco.len] at h1
      ·
        refine cw_ex fun τ5 => cw_ex fun c45 => cw_ex fun g => cw_ex fun cg => cw_ex fun tl => cw_and fun ⟨hl5, hf5, ht45, hg1, hg2, hg3⟩ => ?_
        refine cw_seq ?_
        refine cw_region ?_
        refine ow_val rfl rfl (ex_move rfl) ?_
        refine ow_val rfl rfl (ex_nilck rfl) ?_
        refine ow_val rfl rfl (ex_field rfl) ?_
        refine ow_val rfl rfl (ex_load1 rfl (by first | exact ld_own1 0 rfl rfl | exact ld_own1 1 rfl rfl | exact ld_own1 2 rfl rfl | exact ld_own1 3 rfl rfl | exact ld_own1 4 rfl rfl | exact ld_own1 5 rfl rfl | exact ld_own1 6 rfl rfl | exact ld_own1 7 rfl rfl | exact ld_ownG1 0 rfl rfl | exact ld_ownG1 1 rfl rfl | exact ld_imm1 (by assumption))) ?_
        refine ow_val rfl rfl (ex_len (ty := 0) rfl) ?_
        refine ow_val rfl rfl (ex_subi (z := (((putVs ks ts).length : Nat) : Int)) rfl rfl (by omega) (by omega) (by omega)) ?_
        refine ow_val rfl rfl (ex_assign rfl) ?_
        refine ow_nil ?_
        refine qw_seq ?_
        refine cw_ret ?_
        refine qw_ret1 rfl rfl (fun w' h => ?_)
        have h2 := (St.flip h).permG (List.reverse_perm _)
        have hlen1 : (putVs ks ts ++ [T.mk o n d ks]).length = (putVs ks ts).length + 1 := by simp
        have hxl := hrow.len
        have hcl5 := ht45.len
        refine h2.givesK (hlj.trans hl5) (hfj.trans hf5) ⟨?_, ?_⟩
        · unfold numV
          rw [if_neg hnp]; rfl
        · rw [putV_mk, if_neg hnp]
          refine ⟨_, xs ++ c45, _, rfl, ?_, (hrow.le hl5).append (RowC.one ht45), ?_⟩
          · rw [show (putVs (T.mk o n d ks).kids ts ++ [T.mk o n d ks]).length = (putVs ks ts).length + 1 from hlen1]
            exact OwnSl.close (by simp; omega) hg1 hg2 hg3
          · rw [show (putVs (T.mk o n d ks).kids ts ++ [T.mk o n d ks]).length = (putVs ks ts).length + 1 from hlen1]; omega
set_option maxHeartbeats 400000 in
theorem rIntern (t : T) {b : Nat} {ts : List T} {ct : List Value} {σ : Hp} {K : List (Nat × Obj)} {w : World} (hi : Has σ K w) (hv : RefK 63 32 b ts σ K) (ht : TermC σ ct t) : Calls Tryz.prog 47 #[.pointer (some ⟨b, 0, none⟩), .agg ct.toArray] w (GiveK (fun σ' u K' => u = .tuple #[.int .i64 (intern ts t).1, .int .i64 (intern ts t).2.1] ∧ RefK 63 32 b (intern ts t).2.2 σ' K') σ K w) := by
  have ht0 := ht
  obtain ⟨dv, kv, rfl, ho, hn, hd, hk⟩ := ht.opn
  obtain ⟨sv, hc0, hks⟩ := hv.seenX hi
  obtain ⟨psv, csv, rfl, _, _⟩ := hks.slice
  have hfew : ts.length ≤ 4096 := by
    obtain ⟨_, _, _, _, _, _, h⟩ := hv
    exact h
  refine enter (St w (keysOf K) σ [] K) Tryz.func47 rfl Tryz.ntmps47 rfl (Has.start hi) ?_
  refine cw_seq ?_
  refine cw_region ?_
  refine ow_blk rfl rfl (exw_box rfl) ?_; intro b3
  refine ow_val rfl rfl (ex_assign rfl) ?_
  refine ow_val rfl rfl (ex_assign rfl) ?_
  refine ow_nil ?_
  refine qw_seq ?_
  refine cw_seq ?_
  refine cw_region ?_
  refine ow_val rfl rfl (ex_loadR rfl (by first | exact ld_ownN 0 rfl rfl | exact ld_ownN 1 rfl rfl | exact ld_ownN 2 rfl rfl | exact ld_ownN 3 rfl rfl | exact ld_ownN 4 rfl rfl | exact ld_ownN 5 rfl rfl | exact ld_ownN 6 rfl rfl | exact ld_ownN 7 rfl rfl | exact ld_ownGN 0 rfl rfl | exact ld_ownGN 1 rfl rfl | exact ld_immT (by assumption) (by assumption))) ?_
  refine ow_cv rfl rfl (ex_callf rfl (fun w h => callB ((rRight t h.im ht0)))) ?_
  refine ow_val rfl rfl (ex_assign rfl) ?_
  refine ow_nil ?_
  refine qw_seq ?_
  refine cw_seq ?_
  refine cw_seq ?_
  refine cw_region ?_
  refine ow_val rfl rfl (ex_move rfl) ?_
  refine ow_val rfl rfl (ex_not rfl) ?_
  refine ow_nil ?_
  refine qw_seq ?_
  refine cw_cond rfl (fun c12 => ?_) (fun c12 => ?_)
  ·
    refine cw_seq ?_
    refine cw_region ?_
    refine ow_val rfl rfl (ex_assign rfl) ?_
    refine ow_val rfl rfl (ex_assign rfl) ?_
    refine ow_nil ?_
    refine qw_seq ?_
    refine cw_ret ?_
    refine qw_then_ret ?_
    refine qw_ret2 rfl rfl rfl (fun w' h => ?_)
    have hr : ¬ right t = true := by simpa using c12
    have e : intern ts t = (-1, 51, ts) := by unfold intern; rw [if_neg hr]
    rw [e]
    exact (h.drop (List.nil_sublist _)).givesK (Le.refl _) (Fresh.refl _ _) ⟨rfl, hv⟩
  ·
    have hr : right t = true := by simpa using c12
    have hsz9 := right_size hr
    unfold maxKids at hsz9
    refine cw_skip ?_
    refine qw_seq ?_
    refine cw_seq ?_
    refine cw_region ?_
    refine ow_val rfl rfl (ex_move rfl) ?_
    refine ow_val rfl rfl (ex_loadR rfl (by first | exact ld_ownN 0 rfl rfl | exact ld_ownN 1 rfl rfl | exact ld_ownN 2 rfl rfl | exact ld_ownN 3 rfl rfl | exact ld_ownN 4 rfl rfl | exact ld_ownN 5 rfl rfl | exact ld_ownN 6 rfl rfl | exact ld_ownN 7 rfl rfl | exact ld_ownGN 0 rfl rfl | exact ld_ownGN 1 rfl rfl | exact ld_immT (by assumption) (by assumption))) ?_
    refine ow_cv rfl rfl (ex_callf rfl (fun w h => callB ((rFindK t h.hasE hv ht0)))) ?_
    refine ow_val rfl rfl (ex_move rfl) ?_
    refine ow_val rfl rfl (ex_extract rfl rfl) ?_
    refine ow_val rfl rfl (ex_extract rfl rfl) ?_
    refine ow_val rfl rfl (ex_assign rfl) ?_
    refine ow_val rfl rfl (ex_assign rfl) ?_
    refine ow_nil ?_
    refine qw_seq ?_
    refine cw_seq ?_
    refine cw_seq ?_
    refine cw_region ?_
    refine ow_val rfl rfl (ex_move rfl) ?_
    refine ow_nil ?_
    refine qw_seq ?_
    refine cw_cond rfl (fun c19 => ?_) (fun c19 => ?_)
    ·
      refine cw_seq ?_
      refine cw_region ?_
      refine ow_val rfl rfl (ex_move rfl) ?_
      refine ow_val rfl rfl (ex_assign rfl) ?_
      refine ow_val rfl rfl (ex_assign rfl) ?_
      refine ow_nil ?_
      refine qw_seq ?_
      refine cw_ret ?_
      refine qw_then_ret ?_
      refine qw_ret2 rfl rfl rfl (fun w' h => ?_)
      have h0 := of_decide_eq_true c19
      have e : intern ts t = (posT ts t, 0, ts) := by unfold intern; rw [if_pos hr, if_pos h0]
      rw [e]
      exact (h.drop (List.nil_sublist _)).givesK (Le.refl _) (Fresh.refl _ _) ⟨rfl, hv⟩
    ·
      refine cw_skip ?_
      refine qw_seq ?_
      refine cw_seq ?_
      refine cw_seq ?_
      refine flow_sound 9 (by kernel_rfl) ?_
      refine flow_val rfl (ex_move rfl) ?_
      refine flow_val rfl (ex_nilck rfl) ?_
      refine flow_val rfl (ex_field rfl) ?_
      refine flow_val rfl (ex_load1 rfl (fun w h => hc0.cell h.hasE.exts)) ?_
      refine flow_val rfl (ex_len (ty := 0) rfl) ?_
      refine flow_val rfl (ex_loadR rfl (by first | exact ld_ownN 0 rfl rfl | exact ld_ownN 1 rfl rfl | exact ld_ownN 2 rfl rfl | exact ld_ownN 3 rfl rfl | exact ld_ownN 4 rfl rfl | exact ld_ownN 5 rfl rfl | exact ld_ownN 6 rfl rfl | exact ld_ownN 7 rfl rfl | exact ld_ownGN 0 rfl rfl | exact ld_ownGN 1 rfl rfl | exact ld_immT (by assumption) (by assumption))) ?_
      refine flow_cv rfl (ex_callf rfl (fun w h => callB ((rSize t h.im ht0 (right_size hr))))) ?_
      refine flow_val rfl (ex_addi (z := ((ts.length : Int) + (size t : Int))) rfl rfl (by omega) (by omega) (by omega)) ?_
      refine flow_val rfl (ex_gtr rfl rfl) ?_
      refine flow_nil ?_
      refine fin_is ?_
      refine fin_is ?_
      refine fin_is ?_
      refine fin_is ?_
      refine fin_is ?_
      refine fin_is ?_
      refine fin_is ?_
      refine fin_is ?_
      refine fin_is ?_
      refine fin_nil ?_
      refine ow_nil ?_
      refine qw_seq ?_
      refine cw_cond rfl (fun c29 => ?_) (fun c29 => ?_)
      ·
        refine cw_seq ?_
        refine cw_region ?_
        refine ow_val rfl rfl (ex_assign rfl) ?_
        refine ow_val rfl rfl (ex_assign rfl) ?_
        refine ow_nil ?_
        refine qw_seq ?_
        refine cw_ret ?_
        refine qw_then_ret ?_
        refine qw_ret2 rfl rfl rfl (fun w' h => ?_)
        have h0 := of_decide_eq_false c19
        have h1 := of_decide_eq_true c29
        have e : intern ts t = (-1, 2, ts) := by unfold intern; rw [if_pos hr, if_neg h0, if_pos (by omega)]
        rw [e]
        exact (h.drop (List.nil_sublist _)).givesK (Le.refl _) (Fresh.refl _ _) ⟨rfl, hv⟩
      ·
        refine cw_skip ?_
        refine qw_seq ?_
        refine cw_seq ?_
        refine cw_region ?_
        refine ow_val rfl rfl (ex_move rfl) ?_
        refine ow_val rfl rfl (ex_loadR rfl (by first | exact ld_ownN 0 rfl rfl | exact ld_ownN 1 rfl rfl | exact ld_ownN 2 rfl rfl | exact ld_ownN 3 rfl rfl | exact ld_ownN 4 rfl rfl | exact ld_ownN 5 rfl rfl | exact ld_ownN 6 rfl rfl | exact ld_ownN 7 rfl rfl | exact ld_ownGN 0 rfl rfl | exact ld_ownGN 1 rfl rfl | exact ld_immT (by assumption) (by assumption))) ?_
        refine ow_ckE rfl rfl (ex_callf rfl (fun w h => rPutV t h.hasE hv ht0 (.inr (by have := of_decide_eq_false c29; omega)))) (fun v32 τ30 K30 hl30 hf30 hr30 => ?_)
        obtain ⟨rfl, hv30⟩ := hr30
        refine ow_val rfl rfl (ex_assign rfl) ?_
        refine ow_val rfl rfl (ex_assign rfl) ?_
        refine ow_nil ?_
        refine qw_seq ?_
        refine cw_ret ?_
        refine qw_ret2 rfl rfl rfl (fun w' h => ?_)
        have h0 := of_decide_eq_false c19
        have h1 := of_decide_eq_false c29
        have e : intern ts t = (numV t ts, 0, putV t ts) := by unfold intern; rw [if_pos hr, if_neg h0, if_neg (by omega)]
        rw [e]
        exact (h.drop (List.nil_sublist _)).givesK hl30 hf30 ⟨rfl, hv30⟩
end Go.Proofs.YtnjomdjkbbhdoaaGreatDoor
namespace Go.Proofs.YtnjomdjkbbhdoaaGreatDoor
open Go.RowKit
set_option linter.unusedVariables false
set_option linter.unusedSimpArgs false
set_option maxRecDepth 100000
theorem pLenK {b : Nat} {ts : List T} {σ : Hp} {K : List (Nat × Obj)} {w : World} (hi : Has σ K w) (hv : VaultK 80 32 b ts σ K) : Calls Tryz.prog 37 #[.pointer (some ⟨b, 0, none⟩)] w fun e w' => e = .returned (.int .i64 (ts.length : Int)) ∧ Below w.heap.size w w' :=
  let ⟨_, _, _, h⟩ := hv.seenX hi
  pLen hi.exts h
end Go.Proofs.YtnjomdjkbbhdoaaGreatDoor
namespace Go.Proofs.YtnjomdjkbbhdoaaGreatDoor
open Go.RowKit
set_option linter.unusedVariables false
set_option linter.unusedSimpArgs false
set_option maxRecDepth 100000
set_option maxHeartbeats 400000 in
theorem pBytesEq {x y : List UInt8} {vx vy : Value} {σ : Hp} {w : World} (hi : Imm σ w) (hx : BytesV σ vx x) (hy : BytesV σ vy y) : Calls Tryz.prog 65 #[vx, vy] w fun e w' => e = .returned (.bool (x == y)) ∧ Below w.heap.size w w' := by
  refine enter (St w (fun _ => False) σ [] []) Tryz.func65 rfl Tryz.ntmps65 rfl (St.start hi) ?_
  refine cw_seq ?_
  refine cw_region ?_
  refine ow_val rfl rfl (ex_assign rfl) ?_
  refine ow_nil ?_
  refine qw_seq ?_
  refine cw_seq ?_
  refine cw_region ?_
  refine ow_val rfl rfl (ex_move rfl) ?_
  refine ow_val rfl rfl (ex_tostr rfl (by assumption) (fun w h => h.im)) ?_
  refine ow_val rfl rfl (ex_move rfl) ?_
  refine ow_val rfl rfl (ex_tostr rfl (by assumption) (fun w h => h.im)) ?_
  refine ow_val rfl rfl (ex_streql rfl rfl) ?_
  refine ow_val rfl rfl (ex_assign rfl) ?_
  refine ow_nil ?_
  refine qw_seq ?_
  refine cw_ret ?_
  refine qw_ret1 rfl rfl (fun w' h => ⟨rfl, h.ag.below⟩)
end Go.Proofs.YtnjomdjkbbhdoaaGreatDoor
namespace Go.Proofs.YtnjomdjkbbhdoaaGreatDoor
open Go.RowKit
set_option linter.unusedVariables false
set_option linter.unusedSimpArgs false
theorem CellsAt.off {σ : Hp} {b o : Nat} {xs : List Value} (h : CellsAt σ b o xs) (i : Nat) : CellsAt σ b (o + i * 1) (xs.drop i) := by
  obtain ⟨arr, ty, fz, h1, h2⟩ := h
  refine ⟨arr, ty, fz, h1, fun j v hj => ?_⟩
  rw [List.getElem?_drop] at hj
  have := h2 _ v hj
  rw [← this]; congr 1; omega
theorem BytesV.hi {σ : Hp} {p : Option Addr} {n c : Nat} {d : List UInt8} (h : BytesV σ (.slice p n c) d) {j : Nat} (hj : j ≤ d.length) : BytesV σ (.slice p j c) (d.take j) := by
  obtain ⟨p', c', e, h1, h2, h3⟩ := h
  cases e
  refine ⟨p, c, by rw [List.length_take]; congr 1; omega, by rw [List.length_take]; omega, by rw [List.length_take]; omega, ?_⟩
  rcases h3 with rfl | ⟨b, o, rfl, hc⟩
  · exact .inl (by simp)
  · exact .inr ⟨b, o, rfl, by rw [List.map_take]; exact hc.take j⟩
theorem BytesV.lo {σ : Hp} {p : Option Addr} {n c : Nat} {d : List UInt8} (h : BytesV σ (.slice p n c) d) {i : Nat} (hi : i ≤ d.length) : BytesV σ (.slice (if c = i then p else p.map (·.add (i * 1))) (n - i) (c - i)) (d.drop i) := by
  obtain ⟨p', c', e, h1, h2, h3⟩ := h
  cases e
  refine ⟨_, _, by rw [List.length_drop], by rw [List.length_drop]; omega, by rw [List.length_drop]; omega, ?_⟩
  by_cases hl : i = d.length
  · exact .inl (by simp [hl])
  · rcases h3 with rfl | ⟨b, o, rfl, hc⟩
    · exact .inl (by simp)
    · rw [if_neg (by omega)]
      exact .inr ⟨b, o + i * 1, by simp [Addr.add], by rw [List.map_drop]; exact hc.off i⟩
theorem BytesV.mid {σ : Hp} {b o n c : Nat} {d : List UInt8} (h : BytesV σ (.slice (some ⟨b, o, none⟩) n c) d) {i j : Nat} (hi : i ≤ j) (hj : j ≤ d.length) : BytesV σ (.slice (some (if c = i then ⟨b, o, none⟩ else ⟨b, o + i * 1, none⟩)) (j - i) (c - i)) ((d.drop i).take (j - i)) := by
  have h1 := h.lo (i := i) (by omega)
  have e : (if c = i then some ⟨b, o, none⟩ else (some ⟨b, o, none⟩ : Option Addr).map (·.add (i * 1))) = some (if c = i then ⟨b, o, none⟩ else ⟨b, o + i * 1, none⟩) := by
    split
    · rfl
    · simp [Addr.add]
  rw [e] at h1
  exact h1.hi (by rw [List.length_drop]; omega)
theorem BytesV.ptr {σ : Hp} {p : Option Addr} {n c : Nat} {d : List UInt8} (h : BytesV σ (.slice p n c) d) (h0 : 0 < d.length) : ∃ b o, p = some ⟨b, o, none⟩ ∧ CellsAt σ b o (d.map byteV) := by
  obtain ⟨p', c', e, h1, h2, h3⟩ := h
  cases e
  rcases h3 with rfl | h3
  · simp at h0
  · exact h3
theorem CellsAt.byte {σ : Hp} {b o : Nat} {d : List UInt8} (h : CellsAt σ b o (d.map byteV)) {i : Nat} (hi : i < d.length) : CellsAt σ b (o + i * 1) [.int .u8 ((d.getD i 0).toNat : Int)] := by
  obtain ⟨arr, ty, fz, h1, h2⟩ := h
  refine ⟨arr, ty, fz, h1, fun j v hj => ?_⟩
  cases j with
  | zero =>
    simp at hj; subst hj
    simpa using h2 i _ (by simp [List.getElem?_eq_getElem hi, List.getD_eq_getElem?_getD, byteV])
  | succ j => simp at hj
section
variable {P : Program} {N : Nat} {L : TL} {S : World → Prop}
theorem ex_shlN {t u : TypeId} {x y : Operand} {k : IntKind} {n s : Nat} (hx : ev L x = some (.int .i64 (n : Int))) (hy : ev L y = some (.int k (s : Int))) (hs : s ≤ 62) (hb : n * 2 ^ s ≤ 9223372036854775807) : Ex P (.binOp .shl t x y u) N L S (.int .i64 ((n * 2 ^ s : Nat) : Int)) := fun a w hf hsw d ty pos af g => by
  have he : ∀ w, (eqGuard .shl t x y (.int .i64 (n : Int)) (.int k (s : Int))).run P w = .ok () w := fun w => by simp [eqGuard]
  have hb : ∀ w, (binOp .shl t (.int .i64 (n : Int)) (.int k (s : Int))).run P w = .ok (.int .i64 ((n * 2 ^ s : Nat) : Int)) w := fun w => by
    have h2 : ¬ (s : Int) < 0 := by omega
    have h4 : ¬ (64 ≤ s) := by omega
    have hw : IntKind.i64.wrap ((n : Int) * 2 ^ s) = (n : Int) * 2 ^ s := by
      have e : (n : Int) * 2 ^ s = ((n * 2 ^ s : Nat) : Int) := by simp
      rw [e]; exact i64_of (by omega) (by omega)
    simp [binOp, Op.shift, h2, IntKind.bits, h4, hw]
  simp [execOp, hf.eval hx, hf.eval hy, he, hb]
theorem ex_b2i {s t : TypeId} {x : Operand} {z : Int} (hs : P.underlying s = some (.int .u8)) (ht : P.underlying t = some (.int .i64)) (hx : ev L x = some (.int .u8 z)) (h0 : 0 ≤ z) (h1 : z ≤ 255) :
    Ex P (.convert s t x) N L S (.int .i64 z) := fun a w hf hsw d ty pos af g => by
  have hw : IntKind.i64.wrap z = z := i64_of (by omega) (by omega)
  simp [execOp, hf.eval hx, convert, run_underlying hs, run_underlying ht, Conv.intToInt, hw]
theorem ex_orN {t u : TypeId} {x y : Operand} {n c : Nat} (hx : ev L x = some (.int .i64 ((n * 256 : Nat) : Int))) (hy : ev L y = some (.int .i64 (c : Int))) (hc : c < 256) (hb : n * 256 + c ≤ 9223372036854775807) : Ex P (.binOp .or t x y u) N L S (.int .i64 ((256 * n + c : Nat) : Int)) := fun a w hf hsw d ty pos af g => by
  have he : ∀ w, (eqGuard .or t x y (.int .i64 ((n * 256 : Nat) : Int)) (.int .i64 (c : Int))).run P w = .ok () w := fun w => by simp [eqGuard]
  have hb : ∀ w, (binOp .or t (.int .i64 ((n * 256 : Nat) : Int)) (.int .i64 (c : Int))).run P w = .ok (.int .i64 ((256 * n + c : Nat) : Int)) w := fun w => by
    have e1 : (BitVec.ofInt 64 ((n * 256 : Nat) : Int) ||| BitVec.ofInt 64 (c : Int)).toNat = 256 * n + c := by
      rw [BitVec.ofInt_natCast, BitVec.ofInt_natCast, BitVec.toNat_or, BitVec.toNat_ofNat, BitVec.toNat_ofNat, Nat.mod_eq_of_lt (by omega), Nat.mod_eq_of_lt (by omega)]
      have := Nat.two_pow_add_eq_or_of_lt (i := 8) (b := c) (by omega) n
      rw [show n * 256 = 2 ^ 8 * n by omega, ← this]
    have hw : IntKind.i64.wrap ((256 * n + c : Nat) : Int) = ((256 * n + c : Nat) : Int) := i64_of (by omega) (by omega)
    simp only [binOp]
    rw [if_neg (by simp)]
    simp only [Op.intBits]
    show (pure (Value.int .i64 (IntKind.i64.wrap ((BitVec.ofInt 64 ((n * 256 : Nat) : Int) ||| BitVec.ofInt 64 (c : Int)).toNat))) : Sem Value).run P w = _
    rw [e1, hw]; rfl
  generalize ((n * 256 : Nat) : Int) = z at hx he hb
  generalize ((256 * n + c : Nat) : Int) = r at hb ⊢
  simp [execOp, hf.eval hx, hf.eval hy, he, hb]
theorem ex_orR {t u : TypeId} {x y : Operand} {n c r : Nat} (hx : ev L x = some (.int .i64 ((n * 2 ^ 8 : Nat) : Int))) (hy : ev L y = some (.int .i64 (c : Int))) (hc : c < 256) (hb : n * 256 + c ≤ 9223372036854775807) (hr : 256 * n + c = r) : Ex P (.binOp .or t x y u) N L S (.int .i64 (r : Int)) := by
  subst hr
  exact ex_orN hx hy hc hb
end
def RepBy (d : List UInt8) (σ : Hp) (v : Value) : Prop := BytesV σ v d
instance (d : List UInt8) : MonoR (RepBy d) := ⟨fun hl h => BytesV.le hl h⟩
def mentN (n : Int) : List UInt8 := if 0 ≤ n ∧ n < 281474976710656 then 4 :: 8 :: bytesN n else []
theorem bytesN_len {n : Int} (h : 0 ≤ n ∧ n < 281474976710656) : (bytesN n).length = 8 := by
  unfold bytesN; rw [if_pos h]; simp [tailB_len]
def beN (l : List UInt8) : Nat := l.foldl (fun a c => 256 * a + c.toNat) 0
theorem beN_snoc (l : List UInt8) (c : UInt8) : beN (l ++ [c]) = 256 * beN l + c.toNat := by simp [beN, List.foldl_append]
theorem beN_take {l : List UInt8} {i : Nat} (h : i < l.length) : beN (l.take (i + 1)) = 256 * beN (l.take i) + (l.getD i 0).toNat := by
  rw [List.take_succ_eq_append_getElem h, beN_snoc]
  simp [List.getD_eq_getElem?_getD, h]
theorem byte_lt (c : UInt8) : c.toNat < 256 := c.toNat_lt
theorem drop_getD (d : List UInt8) (i k : Nat) : (d.drop i).getD k 0 = d.getD (i + k) 0 := by simp [List.getD_eq_getElem?_getD, List.getElem?_drop]
theorem beN_lt : ∀ (k : Nat) (l : List UInt8), l.length = k → beN l < 256 ^ k
  | 0, l, h => by
    obtain rfl := List.eq_nil_of_length_eq_zero h
    simp [beN]
  | k + 1, l, h => by
    have hk : k < l.length := by omega
    have h1 := beN_lt k (l.take k) (by rw [List.length_take]; omega)
    have h2 := beN_take hk
    rw [List.take_of_length_le (by omega)] at h2
    have h3 := byte_lt (l.getD k 0)
    rw [h2, Nat.pow_succ]
    omega
theorem beN_small {l : List UInt8} (h : l.length ≤ 6) : beN l < 281474976710656 := by
  have := beN_lt l.length l rfl
  have h2 : 256 ^ l.length ≤ 256 ^ 6 := Nat.pow_le_pow_right (by decide) h
  omega
def hpB (q d : List UInt8) : Bool := decide (q.length ≤ d.length) && (d.take q.length == q)
def numB (d : List UInt8) : Int × Bool := if hpB [193, 94] d = true ∧ (d.drop 2).length = 6 then (((beN (d.drop 2) : Nat) : Int), true) else (-1, false)
theorem getD_eq {d : List UInt8} {i : Nat} {c : UInt8} : ((d.getD i 0).toNat : Int) = (c.toNat : Int) ↔ d.getD i 0 = c := by
  constructor
  · intro h
    have : (d.getD i 0).toNat = c.toNat := by omega
    exact UInt8.toNat.inj this
  · intro h; rw [h]
theorem hp_two {d : List UInt8} {a b : UInt8} (h : 2 ≤ d.length) : hpB [a, b] d = (decide (d.getD 0 0 = a) && decide (d.getD 1 0 = b)) := by
  match d, h with
  | x :: y :: r, _ =>
    unfold hpB
    simp only [List.length_cons, List.length_nil, List.take_succ_cons, List.take_zero, List.getD_cons_zero, List.getD_cons_succ]
    rw [Bool.eq_iff_iff]
    simp
theorem numB_in {d : List UInt8} (h : d.length = 8) (h0 : d.getD 0 0 = 193) (h1 : d.getD 1 0 = 94) : numB d = (((beN (d.drop 2) : Nat) : Int), true) := by
  unfold numB
  rw [if_pos ⟨by rw [hp_two (by omega), h0, h1]; decide, by rw [List.length_drop]; omega⟩]
theorem numB_out {d : List UInt8} (h : ¬ (d.length = 8 ∧ d.getD 0 0 = 193 ∧ d.getD 1 0 = 94)) : numB d = (-1, false) := by
  unfold numB
  rw [if_neg]
  rintro ⟨h1, h2⟩
  rw [List.length_drop] at h2
  rw [hp_two (by omega)] at h1
  simp only [Bool.and_eq_true, decide_eq_true_eq] at h1
  exact h ⟨by omega, h1.1, h1.2⟩
theorem numB_ge {d : List UInt8} (h : (numB d).2 = true) : 0 ≤ (numB d).1 ∧ (numB d).1 < 281474976710656 := by
  unfold numB at h ⊢
  split at h
  · rename_i hc
    rw [if_pos hc]
    have := beN_small (l := d.drop 2) (by omega)
    simp only
    omega
  · cases h
end Go.Proofs.YtnjomdjkbbhdoaaGreatDoor
namespace Go.Proofs.YtnjomdjkbbhdoaaGreatDoor
open Go.RowKit
set_option linter.unusedVariables false
set_option linter.unusedSimpArgs false
set_option maxRecDepth 100000
set_option maxHeartbeats 400000 in
theorem pHasPre {d q : List UInt8} {v u : Value} {σ : Hp} {w : World} (hi : Imm σ w) (hd : BytesV σ v d) (hq : BytesV σ u q) : Calls Tryz.prog 125 #[v, u] w fun e w' => e = .returned (.bool (hpB q d)) ∧ Below w.heap.size w w' := by
  obtain ⟨p, c, rfl, hc1, _⟩ := hd.slice
  obtain ⟨p2, c2, rfl, hc2, _⟩ := hq.slice
  refine enter (St w (fun _ => False) σ [] []) Tryz.func125 rfl Tryz.ntmps125 rfl (St.start hi) ?_
  refine cw_seq ?_
  refine cw_region ?_
  refine ow_val rfl rfl (ex_assign rfl) ?_
  refine ow_nil ?_
  refine qw_seq ?_
  refine cw_seq ?_
  refine cw_region ?_
  refine ow_val rfl rfl (ex_move rfl) ?_
  refine ow_val rfl rfl (ex_len (ty := 0) rfl) ?_
  refine ow_val rfl rfl (ex_move rfl) ?_
  refine ow_val rfl rfl (ex_len (ty := 0) rfl) ?_
  refine ow_val rfl rfl (ex_geq rfl rfl) ?_
  refine ow_val rfl rfl (ex_move rfl) ?_
  refine ow_split (g := some (5, true)) rfl (fun s10 => ?_) (fun s10 => ?_)
  ·
    refine ow_val rfl (gd_go rfl s10) (ex_move rfl) ?_
    refine ow_val rfl (gd_go rfl s10) (ex_move rfl) ?_
    refine ow_val rfl (gd_go rfl s10) (ex_len (ty := 0) rfl) ?_
    refine ow_val rfl (gd_go rfl s10) (ex_slice_hi rfl rfl (by have := of_decide_eq_true s10; omega)) ?_
    refine ow_val rfl (gd_go rfl s10) (ex_move rfl) ?_
    refine ow_cv rfl (gd_go rfl s10) (ex_callf rfl (fun w h => callB ((pBytesEq h.im (hd.hi (by have := of_decide_eq_true s10; omega)) hq)))) ?_
    refine ow_val rfl rfl (ex_pickt rfl s10 rfl) ?_
    refine ow_val rfl rfl (ex_assign rfl) ?_
    refine ow_nil ?_
    refine qw_seq ?_
    refine cw_ret ?_
    refine qw_ret1 rfl rfl (fun w' h => ⟨congrArg (fun z => Ending.returned (.bool z)) ?_, h.ag.below⟩)
    unfold hpB
    first | (rw [show decide (q.length ≤ d.length) = true from by have := of_decide_eq_true s10; exact decide_eq_true (by omega)]; rfl) | (rw [show decide (q.length ≤ d.length) = false from by have := of_decide_eq_false s10; exact decide_eq_false (by omega)]; rfl)
  ·
    refine ow_skip rfl (gd_no rfl s10) ?_
    refine ow_skip rfl (gd_no rfl s10) ?_
    refine ow_skip rfl (gd_no rfl s10) ?_
    refine ow_skip rfl (gd_no rfl s10) ?_
    refine ow_skip rfl (gd_no rfl s10) ?_
    refine ow_skip rfl (gd_no rfl s10) ?_
    refine ow_val rfl rfl (ex_pickf rfl s10 rfl) ?_
    refine ow_val rfl rfl (ex_assign rfl) ?_
    refine ow_nil ?_
    refine qw_seq ?_
    refine cw_ret ?_
    refine qw_ret1 rfl rfl (fun w' h => ⟨congrArg (fun z => Ending.returned (.bool z)) ?_, h.ag.below⟩)
    unfold hpB
    first | (rw [show decide (q.length ≤ d.length) = true from by have := of_decide_eq_true s10; exact decide_eq_true (by omega)]; rfl) | (rw [show decide (q.length ≤ d.length) = false from by have := of_decide_eq_false s10; exact decide_eq_false (by omega)]; rfl)
set_option maxHeartbeats 400000 in
theorem pCutPre {d q : List UInt8} {v u : Value} {σ : Hp} {w : World} (hi : Imm σ w) (hd : BytesV σ v d) (hq : BytesV σ u q) : Calls Tryz.prog 104 #[v, u] w (GiveR (RepBB (if hpB q d = true then d.drop q.length else d) (hpB q d)) σ w) := by
  obtain ⟨p, c, rfl, hc1, _⟩ := hd.slice
  obtain ⟨p2, c2, rfl, hc2, _⟩ := hq.slice
  refine enter (St w (fun _ => False) σ [] []) Tryz.func104 rfl Tryz.ntmps104 rfl (St.start hi) ?_
  refine cw_seq ?_
  refine cw_region ?_
  refine ow_val rfl rfl (ex_assign rfl) ?_
  refine ow_val rfl rfl (ex_assign rfl) ?_
  refine ow_nil ?_
  refine qw_seq ?_
  refine cw_seq ?_
  refine cw_seq ?_
  refine cw_region ?_
  refine ow_val rfl rfl (ex_move rfl) ?_
  refine ow_val rfl rfl (ex_move rfl) ?_
  refine ow_cv rfl rfl (ex_callf rfl (fun w h => callB ((pHasPre h.im hd hq)))) ?_
  refine ow_val rfl rfl (ex_not rfl) ?_
  refine ow_nil ?_
  refine qw_seq ?_
  refine cw_cond rfl (fun c9 => ?_) (fun c9 => ?_)
  ·
    have hb : hpB q d = false := by simpa using c9
    refine cw_seq ?_
    refine cw_region ?_
    refine ow_val rfl rfl (ex_move rfl) ?_
    refine ow_val rfl rfl (ex_assign rfl) ?_
    refine ow_val rfl rfl (ex_assign rfl) ?_
    refine ow_nil ?_
    refine qw_seq ?_
    refine cw_ret ?_
    refine qw_then_ret ?_
    refine qw_ret2 rfl rfl rfl (fun w' h => h.gives (Le.refl _) (Fresh.refl _ _) ?_)
    rw [hb]
    exact ⟨_, rfl, hd⟩
  ·
    have hb : hpB q d = true := by simpa using c9
    have hql : q.length ≤ d.length := by unfold hpB at hb; simp only [Bool.and_eq_true, decide_eq_true_eq] at hb; exact hb.1
    refine cw_skip ?_
    refine qw_seq ?_
    refine cw_seq ?_
    refine cw_region ?_
    refine ow_val rfl rfl (ex_move rfl) ?_
    refine ow_val rfl rfl (ex_move rfl) ?_
    refine ow_val rfl rfl (ex_len (ty := 0) rfl) ?_
    refine ow_val rfl rfl (ex_slice_lo rfl rfl hql hc1) ?_
    refine ow_val rfl rfl (ex_assign rfl) ?_
    refine ow_val rfl rfl (ex_assign rfl) ?_
    refine ow_nil ?_
    refine qw_seq ?_
    refine cw_ret ?_
    refine qw_ret2 rfl rfl rfl (fun w' h => h.gives (Le.refl _) (Fresh.refl _ _) ?_)
    rw [hb]
    exact ⟨_, rfl, hd.lo hql⟩
set_option maxHeartbeats 400000 in
theorem pNumber {d : List UInt8} {v : Value} {σ : Hp} {w : World} (hi : Imm σ w) (hd : BytesV σ v d) : Calls Tryz.prog 82 #[v] w fun e w' => e = .returned (.tuple #[.int .i64 (numB d).1, .bool (numB d).2]) ∧ Below w.heap.size w w' := by
  refine enter (St w (fun _ => False) σ [] []) Tryz.func82 rfl Tryz.ntmps82 rfl (St.start hi) ?_
  refine cw_seq ?_
  refine cw_region ?_
  refine ow_val rfl rfl (ex_assign rfl) ?_
  refine ow_val rfl rfl (ex_assign rfl) ?_
  refine ow_nil ?_
  refine qw_seq ?_
  refine cw_seq ?_
  refine cw_region ?_
  refine ow_val rfl rfl (ex_move rfl) ?_
  refine ow_slit rfl rfl (exw_slitN (vs := ([193, 94] : List UInt8).map byteV) (by kernel_rfl) (bytes_cells _) rfl (by decide) (by decide)) ?_; intro b11
  refine ow_frzO (fun _ h => h) (fun σ4 hl4 hf4 hb4 => ?_)
  have hq4 : BytesV σ4 (.slice (some ⟨b11, 0, none⟩) 2 2) [193, 94] := BytesV.lit hb4 rfl (by decide)
  refine ow_cr rfl rfl (ex_callf rfl (fun w h => callR (pCutPre h.im (hd.le hl4) hq4))) (fun v12 σ5 hl5 hf5 hr5 => ?_)
  generalize hr12 : (if hpB [193, 94] d = true then d.drop ([193, 94] : List UInt8).length else d) = r12 at hr5
  obtain ⟨u12, rfl, hu12⟩ := hr5
  obtain ⟨p12, c12, rfl, hcc, _⟩ := hu12.slice
  refine ow_val rfl rfl (ex_move rfl) ?_
  refine ow_val rfl rfl (ex_extract rfl rfl) ?_
  refine ow_val rfl rfl (ex_extract rfl rfl) ?_
  refine ow_val rfl rfl (ex_assign rfl) ?_
  refine ow_val rfl rfl (ex_assign rfl) ?_
  refine ow_nil ?_
  refine qw_seq ?_
  refine cw_seq ?_
  refine cw_seq ?_
  refine cw_region ?_
  refine ow_val rfl rfl (ex_move rfl) ?_
  refine ow_val rfl rfl (ex_not rfl) ?_
  refine ow_val rfl rfl (ex_move rfl) ?_
  refine ow_split (g := some (2, false)) rfl (fun s17 => ?_) (fun s17 => ?_)
  ·
    have hno : numB d = (-1, false) := by
      have hh : hpB [193, 94] d = false := by simpa using s17
      unfold numB; rw [if_neg (by simp [hh])]
    refine ow_skip rfl (gd_no rfl s17) ?_
    refine ow_skip rfl (gd_no rfl s17) ?_
    refine ow_skip rfl (gd_no rfl s17) ?_
    refine ow_val rfl rfl (ex_pickt rfl s17 rfl) ?_
    refine ow_nil ?_
    refine qw_seq ?_
    refine cw_cond_t rfl ?_
    refine cw_seq ?_
    refine cw_region ?_
    refine ow_val rfl rfl (ex_assign rfl) ?_
    refine ow_val rfl rfl (ex_assign rfl) ?_
    refine ow_nil ?_
    refine qw_seq ?_
    refine cw_ret ?_
    refine qw_then_ret ?_
    refine qw_ret2 rfl rfl rfl (fun w' h => ⟨congrArg Ending.returned ?_, h.ag.below⟩)
    rw [hno]
  ·
    have hpt : hpB [193, 94] d = true := by simpa using s17
    have hrd : r12 = d.drop 2 := by rw [← hr12, if_pos hpt]; rfl
    subst hrd
    refine ow_val rfl (gd_go rfl s17) (ex_move rfl) ?_
    refine ow_val rfl (gd_go rfl s17) (ex_len (ty := 0) rfl) ?_
    refine ow_val rfl (gd_go rfl s17) (ex_neq rfl rfl) ?_
    refine ow_val rfl rfl (ex_pickf rfl s17 rfl) ?_
    refine ow_nil ?_
    refine qw_seq ?_
    refine cw_cond rfl (fun c21 => ?_) (fun c21 => ?_)
    ·
      have hno : numB d = (-1, false) := by
        have := of_decide_eq_true c21; unfold numB; exact if_neg (fun hc => this (by have := hc.2; omega))
      refine cw_seq ?_
      refine cw_region ?_
      refine ow_val rfl rfl (ex_assign rfl) ?_
      refine ow_val rfl rfl (ex_assign rfl) ?_
      refine ow_nil ?_
      refine qw_seq ?_
      refine cw_ret ?_
      refine qw_then_ret ?_
      refine qw_ret2 rfl rfl rfl (fun w' h => ⟨congrArg Ending.returned ?_, h.ag.below⟩)
      rw [hno]
    ·
      refine cw_skip ?_
      refine qw_seq ?_
      refine cw_seq ?_
      have h6 : (d.drop 2).length = 6 := by have := of_decide_eq_false c21; omega
      obtain ⟨bq, oq, rfl, hc12⟩ := hu12.ptr (by omega)
      refine cw_region ?_
      refine ow_val rfl rfl (ex_assign rfl) ?_
      refine ow_nil ?_
      refine qw_seq ?_
      refine cw_seq ?_
      refine cw_seq ?_
      refine cw_region ?_
      refine ow_val rfl rfl (ex_move rfl) ?_
      refine ow_val rfl rfl (ex_len (ty := 0) rfl) ?_
      refine ow_val rfl rfl (ex_move rfl) ?_
      refine ow_nil ?_
      refine qw_seq ?_
      refine cw_block ?_
      refine cw_loopS (α := Nat) (fun i => [(6, .int .i64 (beN ((d.drop 2).take i) : Int)), (22, .slice (some ⟨bq, oq, none⟩) (d.drop 2).length c12), (23, .int .i64 ((d.drop 2).length : Int)), (24, .int .i64 (i : Int))]) (fun i => i ≤ 6) (fun i => 6 - i) 0 (subL_cons (lkv rfl (by first | rfl | simp)) (subL_cons (lkv rfl (by first | rfl | simp)) (subL_cons (lkv rfl (by first | rfl | simp)) (subL_cons (lkv rfl (by first | rfl | simp)) (subL_nil _))))) (Nat.zero_le _) ?_
      intro i hlei
      refine cw_seq ?_
      refine cw_region ?_
      refine ow_val rfl rfl (ex_lss rfl rfl) ?_
      refine ow_nil ?_
      refine qw_seq ?_
      refine cw_seq ?_
      refine cw_cond rfl (fun c25 => ?_) (fun c25 => ?_)
      ·
        have hlti : i < (d.drop 2).length := by have := of_decide_eq_true c25; omega
        have hb6 := beN_small (l := (d.drop 2).take i) (by rw [List.length_take]; omega)
        have hby := byte_lt ((d.drop 2).getD i 0)
        have htk := beN_take hlti
        refine cw_skip ?_
        refine qw_seq ?_
        refine cw_seq ?_
        refine cw_block ?_
        refine cw_seq ?_
        refine cw_region ?_
        refine ow_val rfl rfl (ex_index_nat rfl rfl (by omega)) ?_
        refine ow_val rfl rfl (ex_load1 rfl (ld_imm1 (hc12.byte hlti))) ?_
        refine ow_val rfl rfl (ex_assign rfl) ?_
        refine ow_nil ?_
        refine qw_seq ?_
        refine cw_region ?_
        refine ow_val rfl rfl (ex_move rfl) ?_
        refine ow_val rfl rfl (ex_shlN (n := beN ((d.drop 2).take i)) (s := 8) rfl rfl (by decide) (by omega)) ?_
        refine ow_val rfl rfl (ex_move rfl) ?_
        refine ow_val rfl rfl (ex_b2i Tryz.underlying5 Tryz.underlying3 rfl (by omega) (by have := byte_lt ((d.drop 2).getD i 0); omega)) ?_
        refine ow_val rfl rfl (ex_addi (z := ((beN ((d.drop 2).take (i + 1)) : Nat) : Int)) rfl rfl (by omega) (by omega) (by omega)) ?_
        refine ow_val rfl rfl (ex_assign rfl) ?_
        refine ow_nil ?_
        refine qw_block_normal ?_
        refine qw_seq ?_
        refine cw_region ?_
        refine ow_val rfl rfl (ex_addi (z := ((i + 1 : Nat) : Int)) rfl rfl (by omega) (by omega) (by omega)) ?_
        refine ow_val rfl rfl (ex_move rfl) ?_
        refine ow_nil ?_
        exact qw_roundS (i + 1) (by omega) (subL_cons (lkv rfl (by first | rfl | simp)) (subL_cons (lkv rfl (by first | rfl | simp)) (subL_cons (lkv rfl (by first | rfl | simp)) (subL_cons (lkv rfl (by first | rfl | simp)) (subL_nil _))))) (by omega)
      ·
        have he : i = 6 := by have := of_decide_eq_false c25; omega
        subst he
        refine cw_exit ?_
        refine qw_then_exit ?_
        refine qw_then_exit ?_
        refine qw_block_exit ?_
        refine qw_seq ?_
        refine cw_seq ?_
        refine cw_region ?_
        refine ow_val rfl rfl (ex_move rfl) ?_
        refine ow_val rfl rfl (ex_assign rfl) ?_
        refine ow_val rfl rfl (ex_assign rfl) ?_
        refine ow_nil ?_
        refine qw_seq ?_
        refine cw_ret ?_
        refine qw_ret2 rfl rfl rfl (fun w' h => ⟨congrArg Ending.returned ?_, h.ag.below⟩)
        rw [List.take_of_length_le (by omega)]
        unfold numB
        rw [if_pos ⟨hpt, h6⟩]
set_option maxHeartbeats 400000 in
theorem rNumber {d : List UInt8} {v : Value} {σ : Hp} {w : World} (hi : Imm σ w) (hd : BytesV σ v d) : Calls Tryz.prog 71 #[v] w fun e w' => e = .returned (.tuple #[.int .i64 (numB d).1, .bool (numB d).2]) ∧ Below w.heap.size w w' := by
  obtain ⟨p, c, rfl, hc1, _⟩ := hd.slice
  refine enter (St w (fun _ => False) σ [] []) Tryz.func71 rfl Tryz.ntmps71 rfl (St.start hi) ?_
  refine cw_seq ?_
  refine cw_region ?_
  refine ow_val rfl rfl (ex_assign rfl) ?_
  refine ow_val rfl rfl (ex_assign rfl) ?_
  refine ow_nil ?_
  refine qw_seq ?_
  refine cw_seq ?_
  refine cw_seq ?_
  refine cw_region ?_
  refine ow_val rfl rfl (ex_move rfl) ?_
  refine ow_val rfl rfl (ex_len (ty := 0) rfl) ?_
  refine ow_val rfl rfl (ex_neq rfl rfl) ?_
  refine ow_val rfl rfl (ex_move rfl) ?_
  refine ow_split (g := some (3, false)) rfl (fun s9 => ?_) (fun s9 => ?_)
  ·
    have hno : ¬ (d.length = 8 ∧ d.getD 0 0 = 193 ∧ d.getD 1 0 = 94) := fun hc => by have := of_decide_eq_true s9; omega
    refine ow_skip rfl (gd_no rfl s9) ?_
    refine ow_skip rfl (gd_no rfl s9) ?_
    refine ow_skip rfl (gd_no rfl s9) ?_
    refine ow_skip rfl (gd_no rfl s9) ?_
    refine ow_val rfl rfl (ex_pickt rfl s9 rfl) ?_
    refine ow_val rfl rfl (ex_move rfl) ?_
    refine ow_skip rfl rfl ?_
    refine ow_skip rfl rfl ?_
    refine ow_skip rfl rfl ?_
    refine ow_skip rfl rfl ?_
    refine ow_val rfl rfl (ex_pick_t rfl rfl) ?_
    refine ow_nil ?_
    refine qw_seq ?_
    refine cw_cond_t rfl ?_
    refine cw_seq ?_
    refine cw_region ?_
    refine ow_val rfl rfl (ex_assign rfl) ?_
    refine ow_val rfl rfl (ex_assign rfl) ?_
    refine ow_nil ?_
    refine qw_seq ?_
    refine cw_ret ?_
    refine qw_then_ret ?_
    refine qw_ret2 rfl rfl rfl (fun w' h => ⟨congrArg Ending.returned ?_, h.ag.below⟩)
    rw [numB_out hno]
  ·
    have h8 : d.length = 8 := by have := of_decide_eq_false s9; omega
    obtain ⟨b, o, rfl, hc⟩ := hd.ptr (by omega)
    refine ow_val rfl (gd_go rfl s9) (ex_move rfl) ?_
    refine ow_val rfl (gd_go rfl s9) (ex_index_nat (i := 0) rfl rfl (by omega)) ?_
    refine ow_val rfl (gd_go rfl s9) (ex_load1 rfl (ld_imm1 (hc.byte (i := 0) (by omega)))) ?_
    refine ow_val rfl (gd_go rfl s9) (ex_neq rfl rfl) ?_
    refine ow_val rfl rfl (ex_pickf rfl s9 rfl) ?_
    refine ow_val rfl rfl (ex_move rfl) ?_
    refine ow_split (g := some (9, false)) rfl (fun s15 => ?_) (fun s15 => ?_)
    ·
      have hno : ¬ (d.length = 8 ∧ d.getD 0 0 = 193 ∧ d.getD 1 0 = 94) := fun hc => (of_decide_eq_true s15) (getD_eq.2 hc.2.1)
      refine ow_skip rfl (gd_no rfl s15) ?_
      refine ow_skip rfl (gd_no rfl s15) ?_
      refine ow_skip rfl (gd_no rfl s15) ?_
      refine ow_skip rfl (gd_no rfl s15) ?_
      refine ow_val rfl rfl (ex_pickt rfl s15 rfl) ?_
      refine ow_nil ?_
      refine qw_seq ?_
      refine cw_cond_t rfl ?_
      refine cw_seq ?_
      refine cw_region ?_
      refine ow_val rfl rfl (ex_assign rfl) ?_
      refine ow_val rfl rfl (ex_assign rfl) ?_
      refine ow_nil ?_
      refine qw_seq ?_
      refine cw_ret ?_
      refine qw_then_ret ?_
      refine qw_ret2 rfl rfl rfl (fun w' h => ⟨congrArg Ending.returned ?_, h.ag.below⟩)
      rw [numB_out hno]
    ·
      have hd0 : d.getD 0 0 = 193 := getD_eq.1 (Decidable.not_not.1 (of_decide_eq_false s15))
      refine ow_val rfl (gd_go rfl s15) (ex_move rfl) ?_
      refine ow_val rfl (gd_go rfl s15) (ex_index_nat (i := 1) rfl rfl (by omega)) ?_
      refine ow_val rfl (gd_go rfl s15) (ex_load1 rfl (ld_imm1 (hc.byte (i := 1) (by omega)))) ?_
      refine ow_val rfl (gd_go rfl s15) (ex_neq rfl rfl) ?_
      refine ow_val rfl rfl (ex_pickf rfl s15 rfl) ?_
      refine ow_nil ?_
      refine qw_seq ?_
      refine cw_cond rfl (fun c20 => ?_) (fun c20 => ?_)
      ·
        have hno : ¬ (d.length = 8 ∧ d.getD 0 0 = 193 ∧ d.getD 1 0 = 94) := fun hc => (of_decide_eq_true c20) (getD_eq.2 hc.2.2)
        refine cw_seq ?_
        refine cw_region ?_
        refine ow_val rfl rfl (ex_assign rfl) ?_
        refine ow_val rfl rfl (ex_assign rfl) ?_
        refine ow_nil ?_
        refine qw_seq ?_
        refine cw_ret ?_
        refine qw_then_ret ?_
        refine qw_ret2 rfl rfl rfl (fun w' h => ⟨congrArg Ending.returned ?_, h.ag.below⟩)
        rw [numB_out hno]
      ·
        have hd1 : d.getD 1 0 = 94 := getD_eq.1 (Decidable.not_not.1 (of_decide_eq_false c20))
        refine cw_skip ?_
        refine qw_seq ?_
        refine cw_seq ?_
        refine cw_region ?_
        refine ow_val rfl rfl (ex_assign rfl) ?_
        refine ow_nil ?_
        refine qw_seq ?_
        refine cw_seq ?_
        refine cw_seq ?_
        refine cw_region ?_
        refine ow_val rfl rfl (ex_assign rfl) ?_
        refine ow_nil ?_
        refine qw_seq ?_
        refine cw_block ?_
        refine cw_loopS (α := Nat) (fun k => [(0, .slice (some ⟨b, o, none⟩) d.length c), (4, .int .i64 (beN ((d.drop 2).take k) : Int)), (5, .int .i64 ((2 + k : Nat) : Int))]) (fun k => k ≤ 6) (fun k => 6 - k) 0 (subL_cons (lkv rfl (by first | rfl | simp)) (subL_cons (lkv rfl (by first | rfl | simp)) (subL_cons (lkv rfl (by first | rfl | simp)) (subL_nil _)))) (Nat.zero_le _) ?_
        intro k hlei
        refine cw_seq ?_
        refine cw_seq ?_
        refine cw_region ?_
        refine ow_val rfl rfl (ex_move rfl) ?_
        refine ow_val rfl rfl (ex_lss rfl rfl) ?_
        refine ow_nil ?_
        refine qw_seq ?_
        refine cw_cond rfl (fun c22 => ?_) (fun c22 => ?_)
        ·
          have hk6 : k < 6 := by have := of_decide_eq_true c22; omega
          have hlti : k < (d.drop 2).length := by have := of_decide_eq_true c22; rw [List.length_drop]; omega
          have hb6 := beN_small (l := (d.drop 2).take k) (by rw [List.length_take]; omega)
          have hby := byte_lt (d.getD (2 + k) 0)
          have htk := beN_take hlti
          rw [drop_getD] at htk
          refine cw_skip ?_
          refine qw_seq ?_
          refine cw_seq ?_
          refine cw_block ?_
          refine cw_region ?_
          refine ow_val rfl rfl (ex_move rfl) ?_
          refine ow_val rfl rfl (ex_shlN (n := beN ((d.drop 2).take k)) (s := 8) rfl rfl (by decide) (by omega)) ?_
          refine ow_val rfl rfl (ex_move rfl) ?_
          refine ow_val rfl rfl (ex_move rfl) ?_
          refine ow_val rfl rfl (ex_index_nat (i := 2 + k) rfl rfl (by omega)) ?_
          refine ow_val rfl rfl (ex_load1 rfl (ld_imm1 (hc.byte (i := 2 + k) (by omega)))) ?_
          refine ow_val rfl rfl (ex_b2i Tryz.underlying5 Tryz.underlying3 rfl (by omega) (by omega)) ?_
          refine ow_val rfl rfl (ex_orR (r := beN ((d.drop 2).take (k + 1))) rfl rfl hby (by omega) htk.symm) ?_
          refine ow_val rfl rfl (ex_assign rfl) ?_
          refine ow_nil ?_
          refine qw_block_normal ?_
          refine qw_seq ?_
          refine cw_region ?_
          refine ow_val rfl rfl (ex_move rfl) ?_
          refine ow_val rfl rfl (ex_addi (z := ((2 + (k + 1) : Nat) : Int)) rfl rfl (by omega) (by omega) (by omega)) ?_
          refine ow_val rfl rfl (ex_assign rfl) ?_
          refine ow_nil ?_
          exact qw_roundS (k + 1) (by omega) (subL_cons (lkv rfl (by first | rfl | simp)) (subL_cons (lkv rfl (by first | rfl | simp)) (subL_cons (lkv rfl (by first | rfl | simp)) (subL_nil _)))) (by omega)
        ·
          have he : k = 6 := by have := of_decide_eq_false c22; omega
          subst he
          refine cw_exit ?_
          refine qw_then_exit ?_
          refine qw_then_exit ?_
          refine qw_block_exit ?_
          refine qw_seq ?_
          refine cw_seq ?_
          refine cw_region ?_
          refine ow_val rfl rfl (ex_move rfl) ?_
          refine ow_val rfl rfl (ex_assign rfl) ?_
          refine ow_val rfl rfl (ex_assign rfl) ?_
          refine ow_nil ?_
          refine qw_seq ?_
          refine cw_ret ?_
          refine qw_ret2 rfl rfl rfl (fun w' h => ⟨congrArg Ending.returned ?_, h.ag.below⟩)
          rw [numB_in h8 hd0 hd1, List.take_of_length_le (by rw [List.length_drop]; omega)]
end Go.Proofs.YtnjomdjkbbhdoaaGreatDoor
