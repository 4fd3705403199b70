/-
  Walks of the program: a term, its powers in order.
  No condition.
-/
import Derived.Test.YtnjomdjkbbhdoaaDoorWb5
namespace Go.Proofs.YtnjomdjkbbhdoaaDoor
open Go.RowKit
set_option linter.unusedVariables false
set_option linter.unusedSimpArgs false
set_option maxRecDepth 100000

set_option maxHeartbeats 400000 in
theorem pBytesClone {d : List UInt8} {σ : Hp} {v : Value} {w : World} (hi : Imm σ w) (hd : BytesV σ v d) : Calls Tryd.prog 58 #[v] w (GiveR (RepB d) σ w) := by
  have hd0 := hd
  obtain ⟨pd, cd, rfl, hcd, hmd, hsrc⟩ := hd.row
  have hmd2 := hmd
  unfold maxData at hmd2
  have hml : (140737488355328 : Nat) ≤ maxLen := by unfold maxLen; omega
  refine enter (St w (fun _ => False) σ [] []) Tryd.func58 rfl Tryd.ntmps58 rfl (St.start hi) ?_
  refine cw_seq ?_
  refine cw_region ?_
  refine ow_val rfl rfl (ex_assign rfl) ?_
  refine ow_nil ?_
  refine qw_seq ?_
  refine cw_seq ?_
  refine cw_seq ?_
  refine cw_region ?_
  refine ow_val rfl rfl (ex_move rfl) ?_
  refine ow_val rfl rfl (ex_isnil rfl) ?_
  refine ow_nil ?_
  refine qw_seq ?_
  refine cw_cond rfl (fun c4 => ?_) (fun c4 => ?_)
  ·
    refine cw_seq ?_
    refine cw_region ?_
    refine ow_val rfl rfl (ex_assign rfl) ?_
    refine ow_nil ?_
    refine qw_seq ?_
    refine cw_ret ?_
    refine qw_then_ret ?_
    refine qw_ret1 rfl rfl (fun w' h => ?_)
    have : d = [] := by
      rcases hsrc with h0 | ⟨b, o, hp, _⟩
      · exact List.eq_nil_of_length_eq_zero h0
      · rw [hp] at c4; cases c4
    rw [this]
    exact h.gives (Le.refl _) (Fresh.refl _ _) (BytesV.nil σ)
  ·
    refine cw_skip ?_
    refine qw_seq ?_
    refine cw_seq ?_
    refine cw_region ?_
    refine ow_slit rfl rfl exw_slit0 ?_; intro b5
    refine ow_mono (fun w h => h.toG) ?_
    refine ow_val rfl rfl (ex_move rfl) ?_
    refine ow_app1 rfl rfl (exw_append1 (news := d.map byteV) rfl rfl (OwnSl.lit0 5 1 b5) (by simp) (hsrc.imp id fun ⟨b, f, hp, hca⟩ => ⟨b, f, hp, fun w h => hca.range h.im⟩) (bytes_one d) (by omega) (by omega)) (fun v7 G7 hO7 hz7 => ?_)
    refine ow_val rfl rfl (ex_assign rfl) ?_
    refine ow_nil ?_
    refine qw_seq ?_
    refine cw_ret ?_
    refine qw_ret1 rfl rfl (fun w' h => ?_)
    obtain ⟨σ', h1, h2, h3, h4⟩ := freezeB (Gr := []) (by simpa using h) (fun _ h => h) hO7 (by simp) hmd
    exact h2.gives h1 h4 h3

set_option maxHeartbeats 400000 in
theorem pTermsClone {ks : List T} {p : Option Addr} {c : Nat} {xs : List Value} {σ : Hp} {w : World} (hi : Imm σ w) (hx : RowC σ xs ks) (hm : ks.length ≤ maxKids) (hsrc : ks = [] ∨ ∃ b f, p = some ⟨b, f, none⟩ ∧ CellsAt σ b f xs) : Calls Tryd.prog 69 #[.slice p ks.length c] w (GiveO 30 4 ks.length xs w) := by
  have hm2 := hm
  unfold maxKids at hm2
  have hxl := hx.len
  have hml : (2199023255553 : Nat) ≤ maxLen := by unfold maxLen; omega
  refine enter (St w (fun _ => False) σ [] []) Tryd.func69 rfl Tryd.ntmps69 rfl (St.start hi) ?_
  refine cw_seq ?_
  refine cw_region ?_
  refine ow_val rfl rfl (ex_assign rfl) ?_
  refine ow_nil ?_
  refine qw_seq ?_
  refine cw_seq ?_
  refine cw_seq ?_
  refine cw_region ?_
  refine ow_val rfl rfl (ex_move rfl) ?_
  refine ow_val rfl rfl (ex_isnil rfl) ?_
  refine ow_nil ?_
  refine qw_seq ?_
  refine cw_cond rfl (fun c4 => ?_) (fun c4 => ?_)
  ·
    refine cw_seq ?_
    refine cw_region ?_
    refine ow_val rfl rfl (ex_assign rfl) ?_
    refine ow_nil ?_
    refine qw_seq ?_
    refine cw_ret ?_
    refine qw_then_ret ?_
    refine qw_ret1 rfl rfl (fun w' h => ?_)
    have : ks = [] := by
      rcases hsrc with h0 | ⟨b, o, hp, _⟩
      · exact h0
      · rw [hp] at c4; cases c4
    subst this
    simp only [RowC] at hx
    subst hx
    exact h.givesO (OwnSl.nil _ _)
  ·
    refine cw_skip ?_
    refine qw_seq ?_
    refine cw_seq ?_
    refine cw_region ?_
    refine ow_slit rfl rfl exw_slit0 ?_; intro b5
    refine ow_mono (fun w h => h.toG) ?_
    refine ow_val rfl rfl (ex_move rfl) ?_
    refine ow_app1 rfl rfl (exw_append1 (news := xs) rfl rfl (OwnSl.lit0 30 4 b5) hxl (hsrc.imp (fun h => by rw [h]; rfl) fun ⟨b, f, hp, hca⟩ => ⟨b, f, hp, fun w h => hca.range h.im⟩) hx.oneCell (by omega) (by omega)) (fun v7 G7 hO7 hz7 => ?_)
    refine ow_val rfl rfl (ex_assign rfl) ?_
    refine ow_nil ?_
    refine qw_seq ?_
    refine cw_ret ?_
    refine qw_ret1 rfl rfl (fun w' h => ?_)
    rw [Nat.zero_add, List.nil_append] at hO7
    exact h.givesO hO7

set_option maxHeartbeats 400000 in
theorem pNorm0 {o n : Int} {d : List UInt8} {σ : Hp} {cs : List Value} {w : World} (hi : Imm σ w) (ht : TermC σ cs (.mk o n d [])) : Calls Tryd.prog 51 #[.agg cs.toArray] w (GiveR (RepT (norm (.mk o n d []))) σ w) := by
  obtain ⟨dv, kv, rfl, ho, hn, hd, hk⟩ := ht.opn
  simp only [T.kids, T.op, T.num, T.data] at *
  obtain ⟨p, c, xs, rfl, hc, hm, hrow, hsrc⟩ := hk.row
  have hm2 := hm
  unfold maxKids at hm2
  simp only [RowC] at hrow
  subst hrow
  refine enter (St w (fun _ => False) σ [] []) Tryd.func51 rfl Tryd.ntmps51 rfl (St.start hi) ?_
  refine cw_seq ?_
  refine cw_region ?_
  refine ow_blk rfl rfl (exw_box rfl) ?_; intro b1
  refine ow_blk rfl rfl exw_alloc ?_; intro b2
  refine ow_nil ?_
  refine qw_seq ?_
  refine cw_seq ?_
  refine cw_region ?_
  refine ow_val rfl rfl (ex_field rfl) ?_
  refine ow_val rfl rfl (ex_load1 rfl (by first | exact ld_own1 0 rfl rfl | exact ld_own1 1 rfl rfl | exact ld_own1 2 rfl rfl | exact ld_own1 3 rfl rfl | exact ld_own1 4 rfl rfl | exact ld_own1 5 rfl rfl | exact ld_own1 6 rfl rfl | exact ld_own1 7 rfl rfl | exact ld_ownG1 0 rfl rfl | exact ld_ownG1 1 rfl rfl | exact ld_imm1 (by assumption))) ?_
  refine ow_cr rfl rfl (ex_callf rfl (fun w h => callR (pBytesClone h.im hd))) (fun v7 σ1 hl1 hf1 hb7 => ?_)
  refine ow_val rfl rfl (ex_field rfl) ?_
  refine ow_u rfl (exu_store1 1 rfl rfl rfl (BytesV.cell hb7).1 (BytesV.cell hb7).2 rfl) ?_
  refine ow_nil ?_
  refine qw_seq ?_
  refine cw_seq ?_
  refine cw_region ?_
  refine ow_val rfl rfl (ex_field rfl) ?_
  refine ow_val rfl rfl (ex_load1 rfl (by first | exact ld_own1 0 rfl rfl | exact ld_own1 1 rfl rfl | exact ld_own1 2 rfl rfl | exact ld_own1 3 rfl rfl | exact ld_own1 4 rfl rfl | exact ld_own1 5 rfl rfl | exact ld_own1 6 rfl rfl | exact ld_own1 7 rfl rfl | exact ld_ownG1 0 rfl rfl | exact ld_ownG1 1 rfl rfl | exact ld_imm1 (by assumption))) ?_
  refine ow_co rfl rfl (ex_callf rfl (fun w h => callO (pTermsClone (ks := []) (xs := []) h.im rfl (Nat.zero_le _) (.inl rfl)))) (fun v11 G11 hO11 => ?_)
  obtain ⟨q, c2, rfl⟩ : ∃ q c2, v11 = .slice q 0 c2 := by
    rcases hO11.2 with ⟨rfl, _⟩ | ⟨g, c2, cur, rfl, _⟩
    · exact ⟨_, _, rfl⟩
    · exact ⟨_, _, rfl⟩
  refine ow_val rfl rfl (ex_field rfl) ?_
  refine ow_u rfl (exu_store1 1 rfl rfl rfl rfl rfl rfl) ?_
  refine ow_nil ?_
  refine qw_seq ?_
  refine cw_seq ?_
  refine cw_seq ?_
  refine cw_region ?_
  refine ow_val rfl rfl (ex_field rfl) ?_
  refine ow_val rfl rfl (ex_load1 rfl (by first | exact ld_own1 0 rfl rfl | exact ld_own1 1 rfl rfl | exact ld_own1 2 rfl rfl | exact ld_own1 3 rfl rfl | exact ld_own1 4 rfl rfl | exact ld_own1 5 rfl rfl | exact ld_own1 6 rfl rfl | exact ld_own1 7 rfl rfl | exact ld_ownG1 0 rfl rfl | exact ld_ownG1 1 rfl rfl | exact ld_imm1 (by assumption))) ?_
  refine ow_val rfl rfl (ex_len (ty := 0) rfl) ?_
  refine ow_val rfl rfl (ex_move rfl) ?_
  refine ow_nil ?_
  refine qw_seq ?_
  refine cw_block ?_
  refine cw_loopS (α := Unit) (fun _ => [(1, .pointer (some ⟨b1, 0, none⟩)), (2, .pointer (some ⟨b2, 0, none⟩)), (14, .slice q 0 c2), (15, .int .i64 (0 : Int)), (16, .int .i64 (0 : Int))]) (fun _ => True) (fun _ => 0) () (subL_cons (lkv rfl (by first | rfl | simp)) (subL_cons (lkv rfl (by first | rfl | simp)) (subL_cons (lkv rfl (by first | rfl | simp)) (subL_cons (lkv rfl (by first | rfl | simp)) (subL_cons (lkv rfl (by first | rfl | simp)) (subL_nil _)))))) trivial ?_
  intro _ _
  refine cw_seq ?_
  refine cw_region ?_
  refine ow_val rfl rfl (ex_lss rfl rfl) ?_
  refine ow_nil ?_
  refine qw_seq ?_
  refine cw_seq ?_
  refine cw_cond rfl (fun c17 => ?_) (fun c17 => ?_)
  ·
    simp at c17
  ·
    refine cw_exit ?_
    refine qw_then_exit ?_
    refine qw_then_exit ?_
    refine qw_block_exit ?_
    refine qw_seq ?_
    refine cw_seq ?_
    refine cw_seq ?_
    refine cw_region ?_
    refine ow_val rfl rfl (ex_field rfl) ?_
    refine ow_val rfl rfl (ex_load1 rfl (by first | exact ld_own1 0 rfl rfl | exact ld_own1 1 rfl rfl | exact ld_own1 2 rfl rfl | exact ld_own1 3 rfl rfl | exact ld_own1 4 rfl rfl | exact ld_own1 5 rfl rfl | exact ld_own1 6 rfl rfl | exact ld_own1 7 rfl rfl | exact ld_ownG1 0 rfl rfl | exact ld_ownG1 1 rfl rfl | exact ld_imm1 (by assumption))) ?_
    refine ow_val rfl rfl (ex_eql rfl rfl) ?_
    refine ow_nil ?_
    refine qw_seq ?_
    refine cw_cond rfl (fun c30 => ?_) (fun c30 => ?_)
    ·
      refine cw_region ?_
      refine ow_val rfl rfl (ex_field rfl) ?_
      refine ow_val rfl rfl (ex_load1 rfl (by first | exact ld_own1 0 rfl rfl | exact ld_own1 1 rfl rfl | exact ld_own1 2 rfl rfl | exact ld_own1 3 rfl rfl | exact ld_own1 4 rfl rfl | exact ld_own1 5 rfl rfl | exact ld_own1 6 rfl rfl | exact ld_own1 7 rfl rfl | exact ld_ownG1 0 rfl rfl | exact ld_ownG1 1 rfl rfl | exact ld_imm1 (by assumption))) ?_
      refine ow_cv rfl rfl (ex_callf rfl (fun w h => callB (pSort0))) ?_
      refine ow_nil ?_
      refine qw_seq ?_
      refine cw_seq ?_
      refine cw_region ?_
      refine ow_val rfl rfl (ex_loadR rfl (by first | exact ld_ownN 0 rfl rfl | exact ld_ownN 1 rfl rfl | exact ld_ownN 2 rfl rfl | exact ld_ownN 3 rfl rfl | exact ld_ownN 4 rfl rfl | exact ld_ownN 5 rfl rfl | exact ld_ownN 6 rfl rfl | exact ld_ownN 7 rfl rfl | exact ld_ownGN 0 rfl rfl | exact ld_ownGN 1 rfl rfl | exact ld_immT (by assumption) (by assumption))) ?_
      refine ow_u rfl (exu_storeN 0 rfl rfl rfl rfl (four_one (BytesV.cell hb7).2 rfl) rfl) ?_
      refine ow_nil ?_
      refine qw_seq ?_
      refine cw_ret ?_
      refine qw_retC rfl rfl (ld_ownN 0 rfl rfl) (fun w' h => ?_)
      obtain ⟨σ', h1, h2, h3, h4⟩ := freezeG (ts := []) (Gr := []) (by simpa using h) (fun _ h => h) hO11 rfl (Nat.zero_le _)
      refine h2.gives (hl1.trans h1) (hf1.trans h4) ⟨_, rfl, ?_⟩
      rw [norm_mk, show (if o = 7 then sortB [] (norms []) else norms []) = ([] : List T) by split <;> rfl]
      exact TermC.mk ho hn (BytesV.le h1 hb7) h3
    ·
      refine cw_skip ?_
      refine qw_seq ?_
      refine cw_seq ?_
      refine cw_region ?_
      refine ow_val rfl rfl (ex_loadR rfl (by first | exact ld_ownN 0 rfl rfl | exact ld_ownN 1 rfl rfl | exact ld_ownN 2 rfl rfl | exact ld_ownN 3 rfl rfl | exact ld_ownN 4 rfl rfl | exact ld_ownN 5 rfl rfl | exact ld_ownN 6 rfl rfl | exact ld_ownN 7 rfl rfl | exact ld_ownGN 0 rfl rfl | exact ld_ownGN 1 rfl rfl | exact ld_immT (by assumption) (by assumption))) ?_
      refine ow_u rfl (exu_storeN 0 rfl rfl rfl rfl (four_one (BytesV.cell hb7).2 rfl) rfl) ?_
      refine ow_nil ?_
      refine qw_seq ?_
      refine cw_ret ?_
      refine qw_retC rfl rfl (ld_ownN 0 rfl rfl) (fun w' h => ?_)
      obtain ⟨σ', h1, h2, h3, h4⟩ := freezeG (ts := []) (Gr := []) (by simpa using h) (fun _ h => h) hO11 rfl (Nat.zero_le _)
      refine h2.gives (hl1.trans h1) (hf1.trans h4) ⟨_, rfl, ?_⟩
      rw [norm_mk, show (if o = 7 then sortB [] (norms []) else norms []) = ([] : List T) by split <;> rfl]
      exact TermC.mk ho hn (BytesV.le h1 hb7) h3

set_option maxHeartbeats 400000 in
theorem pNormN {o : Int} {n : Int} {d : List UInt8} {ks : List T} {B : Nat} (hS : SortsAt Tryd.prog 70 57 30 B) (hBm : B ≤ maxKids) (ih : ∀ k, k ∈ ks → ∀ {σ : Hp} {cs : List Value} {w : World}, Imm σ w → TermC σ cs k → Calls Tryd.prog 51 #[.agg cs.toArray] w (GiveR (RepT (norm k)) σ w)) (hB : ks.length ≤ B) (hpos : 0 < ks.length) {σ : Hp} {cs : List Value} {w : World} (hi : Imm σ w) (ht : TermC σ cs (.mk o n d ks)) : Calls Tryd.prog 51 #[.agg cs.toArray] w (GiveR (RepT (norm (.mk o n d ks))) σ w) := by
  obtain ⟨dv, kv, rfl, ho, hn, hd, hk⟩ := ht.opn
  simp only [T.kids, T.op, T.num, T.data] at *
  obtain ⟨p, c, xs, rfl, hc, hm, hrow, hsrc⟩ := hk.row
  have hm2 := hm
  unfold maxKids at hm2
  refine enter (St w (fun _ => False) σ [] []) Tryd.func51 rfl Tryd.ntmps51 rfl (St.start hi) ?_
  refine cw_seq ?_
  refine cw_region ?_
  refine ow_blk rfl rfl (exw_box rfl) ?_; intro b1
  refine ow_blk rfl rfl exw_alloc ?_; intro b2
  refine ow_nil ?_
  refine qw_seq ?_
  refine cw_seq ?_
  refine cw_region ?_
  refine ow_val rfl rfl (ex_field rfl) ?_
  refine ow_val rfl rfl (ex_load1 rfl (by first | exact ld_own1 0 rfl rfl | exact ld_own1 1 rfl rfl | exact ld_own1 2 rfl rfl | exact ld_own1 3 rfl rfl | exact ld_own1 4 rfl rfl | exact ld_own1 5 rfl rfl | exact ld_own1 6 rfl rfl | exact ld_own1 7 rfl rfl | exact ld_ownG1 0 rfl rfl | exact ld_ownG1 1 rfl rfl | exact ld_imm1 (by assumption))) ?_
  refine ow_cr rfl rfl (ex_callf rfl (fun w h => callR (pBytesClone h.im hd))) (fun v7 σ1 hl1 hf1 hb7 => ?_)
  refine ow_val rfl rfl (ex_field rfl) ?_
  refine ow_u rfl (exu_store1 1 rfl rfl rfl (BytesV.cell hb7).1 (BytesV.cell hb7).2 rfl) ?_
  refine ow_nil ?_
  refine qw_seq ?_
  refine cw_seq ?_
  refine cw_region ?_
  refine ow_val rfl rfl (ex_field rfl) ?_
  refine ow_val rfl rfl (ex_load1 rfl (by first | exact ld_own1 0 rfl rfl | exact ld_own1 1 rfl rfl | exact ld_own1 2 rfl rfl | exact ld_own1 3 rfl rfl | exact ld_own1 4 rfl rfl | exact ld_own1 5 rfl rfl | exact ld_own1 6 rfl rfl | exact ld_own1 7 rfl rfl | exact ld_ownG1 0 rfl rfl | exact ld_ownG1 1 rfl rfl | exact ld_imm1 (by assumption))) ?_
  refine ow_co rfl rfl (ex_callf rfl (fun w h => callO (pTermsClone h.im (hrow.le hl1) hm (hsrc.imp id fun ⟨b, f, hp, hca⟩ => ⟨b, f, hp, hca.le hl1⟩)))) (fun v11 G11 hO11 => ?_)
  obtain ⟨g, c2, tl, rfl, rfl, hc2, hcm2, hxl2⟩ := hO11.open hpos
  refine ow_mono (fun w h => h.ofG) ?_
  refine ow_val rfl rfl (ex_field rfl) ?_
  refine ow_u rfl (exu_store1 2 rfl rfl rfl rfl rfl rfl) ?_
  refine ow_nil ?_
  refine qw_seq ?_
  refine cw_seq ?_
  refine cw_seq ?_
  refine cw_region ?_
  refine ow_val rfl rfl (ex_field rfl) ?_
  refine ow_val rfl rfl (ex_load1 rfl (by first | exact ld_own1 0 rfl rfl | exact ld_own1 1 rfl rfl | exact ld_own1 2 rfl rfl | exact ld_own1 3 rfl rfl | exact ld_own1 4 rfl rfl | exact ld_own1 5 rfl rfl | exact ld_own1 6 rfl rfl | exact ld_own1 7 rfl rfl | exact ld_ownG1 0 rfl rfl | exact ld_ownG1 1 rfl rfl | exact ld_imm1 (by assumption))) ?_
  refine ow_val rfl rfl (ex_len (ty := 0) rfl) ?_
  refine ow_val rfl rfl (ex_move rfl) ?_
  refine ow_nil ?_
  refine qw_seq ?_
  refine cw_block ?_
  refine cw_loopH3 (fun (i : Nat) (τ : Hp) (ys : List Value) => [(1, .pointer (some ⟨b1, 0, none⟩)), (2, .pointer (some ⟨b2, 0, none⟩)), (14, .slice (some ⟨g, 0, none⟩) ks.length c2), (15, .int .i64 (ks.length : Int)), (16, .int .i64 (i : Int))]) (fun i τ ys => i ≤ ks.length ∧ Le σ1 τ ∧ Fresh σ1 τ w ∧ RowC τ ys (norms (ks.take i) ++ ks.drop i)) (fun i τ ys => τ) (fun i τ ys => [(g, rowO ys tl 30), (b2, .cells (Value.agg #[.int .i64 0, .int .i64 0, .slice none 0 0, .slice none 0 0]).cells 30), (b1, .cells #[.int .i64 o, .int .i64 n, v7, .slice (some ⟨g, 0, none⟩) ks.length c2] 30)]) (fun i τ ys => []) (fun i τ ys => ks.length - i) 0 σ1 xs (subL_cons (lkv rfl (by first | rfl | simp)) (subL_cons (lkv rfl (by first | rfl | simp)) (subL_cons (lkv rfl (by first | rfl | simp)) (subL_cons (lkv rfl (by first | rfl | simp)) (subL_cons (lkv rfl (by first | rfl | simp)) (subL_nil _)))))) ⟨Nat.zero_le _, Le.refl _, Fresh.refl _ _, by simpa [norms] using hrow.le hl1⟩ (fun w h => h) ?_
  intro i τ ys ⟨hle, hl, hf, hry⟩
  refine cw_seq ?_
  refine cw_region ?_
  refine ow_val rfl rfl (ex_lss rfl rfl) ?_
  refine ow_nil ?_
  refine qw_seq ?_
  refine cw_seq ?_
  refine cw_cond rfl (fun c17 => ?_) (fun c17 => ?_)
  ·
    refine cw_skip ?_
    refine qw_seq ?_
    refine cw_seq ?_
    refine cw_block ?_
    refine cw_seq ?_
    have hlt : i < ks.length := by simpa using c17
    have hnl : (norms (ks.take i) ++ ks.drop i).length = ks.length := by rw [List.length_append, norms_len, List.length_take, List.length_drop]; omega
    obtain ⟨ce, hte, hxe⟩ := hry.at i (by omega)
    rw [norms_at ks i hlt] at hte
    have hyl := hry.len
    have hte' := hte
    obtain ⟨d1, k1, rfl, _, _, _, _⟩ := hte'.opn
    refine cw_region ?_
    refine ow_val rfl rfl (ex_move rfl) ?_
    refine ow_val rfl rfl (ex_index_nat rfl rfl (by omega)) ?_
    refine ow_val rfl rfl (ex_loadR rfl (ld_rowH 0 rfl hte.len hxe)) ?_
    refine ow_blk rfl rfl exw_alloc ?_; intro b4
    refine ow_val rfl rfl (ex_assign rfl) ?_
    refine ow_u rfl (exu_storeN 0 rfl rfl rfl rfl hte.one rfl) ?_
    refine ow_nil ?_
    refine qw_seq ?_
    refine flow_sound 6 (by kernel_rfl) ?_
    refine flow_val rfl (ex_field rfl) ?_
    refine flow_val rfl (ex_load1 rfl (by first | exact ld_own1 0 rfl rfl | exact ld_own1 1 rfl rfl | exact ld_own1 2 rfl rfl | exact ld_own1 3 rfl rfl | exact ld_own1 4 rfl rfl | exact ld_own1 5 rfl rfl | exact ld_own1 6 rfl rfl | exact ld_own1 7 rfl rfl | exact ld_ownG1 0 rfl rfl | exact ld_ownG1 1 rfl rfl | exact ld_imm1 (by assumption))) ?_
    refine flow_val rfl (ex_move rfl) ?_
    refine flow_val rfl (ex_loadR rfl (by first | exact ld_ownN 0 rfl rfl | exact ld_ownN 1 rfl rfl | exact ld_ownN 2 rfl rfl | exact ld_ownN 3 rfl rfl | exact ld_ownN 4 rfl rfl | exact ld_ownN 5 rfl rfl | exact ld_ownN 6 rfl rfl | exact ld_ownN 7 rfl rfl | exact ld_ownGN 0 rfl rfl | exact ld_ownGN 1 rfl rfl | exact ld_immT (by assumption) (by assumption))) ?_
    refine flow_cr rfl (ex_callf rfl (fun w h => callR (ih _ (List.getElem_mem hlt) h.im hte))) ?_
    refine flow_val rfl (ex_index_nat rfl rfl (by omega)) ?_
    refine flow_nil ?_
    refine fin_is ?_
    refine fin_satR (Le.refl _) (fun v25 τ2 hl2 hf2 hr25 => ?_)
    refine fin_is ?_
    refine fin_is ?_
    refine fin_is ?_
    refine fin_is ?_
    refine fin_nil ?_
    obtain ⟨cn, rfl, htn⟩ := hr25
    refine ow_u rfl (exu_storeX 1 rfl rfl rfl htn.len htn.one (by omega)) ?_
    refine ow_nil ?_
    refine qw_block_normal ?_
    refine qw_seq ?_
    refine cw_region ?_
    refine ow_val rfl rfl (ex_addi (z := ((i + 1 : Nat) : Int)) rfl rfl (by omega) (by omega) (by omega)) ?_
    refine ow_val rfl rfl (ex_move rfl) ?_
    refine ow_nil ?_
    exact qw_roundH3 (i + 1) τ2 (setX ys i cn) (by omega) (subL_cons (lkv rfl (by first | rfl | simp)) (subL_cons (lkv rfl (by first | rfl | simp)) (subL_cons (lkv rfl (by first | rfl | simp)) (subL_cons (lkv rfl (by first | rfl | simp)) (subL_cons (lkv rfl (by first | rfl | simp)) (subL_nil _)))))) ⟨by omega, hl.trans hl2, hf.trans hf2, by rw [← norms_set ks i hlt]; exact (hry.le hl2).set i htn (by omega)⟩ (fun w h => h.drop (List.sublist_cons_self _ _))
  ·
    have he : i = ks.length := by simp at c17; omega
    subst he
    have hrw : RowC τ ys (norms ks) := by rw [List.take_length, List.drop_length, List.append_nil] at hry; exact hry
    refine cw_exit ?_
    refine qw_then_exit ?_
    refine qw_then_exit ?_
    refine qw_block_exit ?_
    refine qw_seq ?_
    refine cw_seq ?_
    refine cw_seq ?_
    refine cw_region ?_
    refine ow_val rfl rfl (ex_field rfl) ?_
    refine ow_val rfl rfl (ex_load1 rfl (by first | exact ld_own1 0 rfl rfl | exact ld_own1 1 rfl rfl | exact ld_own1 2 rfl rfl | exact ld_own1 3 rfl rfl | exact ld_own1 4 rfl rfl | exact ld_own1 5 rfl rfl | exact ld_own1 6 rfl rfl | exact ld_own1 7 rfl rfl | exact ld_ownG1 0 rfl rfl | exact ld_ownG1 1 rfl rfl | exact ld_imm1 (by assumption))) ?_
    refine ow_val rfl rfl (ex_eql rfl rfl) ?_
    refine ow_nil ?_
    refine qw_seq ?_
    refine cw_cond rfl (fun c30 => ?_) (fun c30 => ?_)
    ·
      have ho7 : o = 7 := by simpa using c30
      refine cw_region ?_
      refine ow_val rfl rfl (ex_field rfl) ?_
      refine ow_val rfl rfl (ex_load1 rfl (by first | exact ld_own1 0 rfl rfl | exact ld_own1 1 rfl rfl | exact ld_own1 2 rfl rfl | exact ld_own1 3 rfl rfl | exact ld_own1 4 rfl rfl | exact ld_own1 5 rfl rfl | exact ld_own1 6 rfl rfl | exact ld_own1 7 rfl rfl | exact ld_ownG1 0 rfl rfl | exact ld_ownG1 1 rfl rfl | exact ld_imm1 (by assumption))) ?_
      refine ow_cmd rfl rfl (ex_callf rfl (fun w h => callM (hS (norms_len ks).symm h.im (h.own (p := (g, rowO ys tl 30)) List.mem_cons_self) (h.fresh (p := (g, rowO ys tl 30)) List.mem_cons_self) hrw (by rw [norms_len]; exact hB) (by rw [norms_len]; exact hc2)))) (fun v33 us zs hR hr2 => ?_)
      refine ow_nil ?_
      refine qw_seq ?_
      refine cw_seq ?_
      refine cw_region ?_
      refine ow_val rfl rfl (ex_loadR rfl (by first | exact ld_ownN 0 rfl rfl | exact ld_ownN 1 rfl rfl | exact ld_ownN 2 rfl rfl | exact ld_ownN 3 rfl rfl | exact ld_ownN 4 rfl rfl | exact ld_ownN 5 rfl rfl | exact ld_ownN 6 rfl rfl | exact ld_ownN 7 rfl rfl | exact ld_ownGN 0 rfl rfl | exact ld_ownGN 1 rfl rfl | exact ld_immT (by assumption) (by assumption))) ?_
      refine ow_u rfl (exu_storeN 1 rfl rfl rfl rfl (four_one (BytesV.cell hb7).2 rfl) rfl) ?_
      refine ow_nil ?_
      refine qw_seq ?_
      refine cw_ret ?_
      refine qw_retC rfl rfl (ld_ownN 1 rfl rfl) (fun w' h => ?_)
      have hus := sortB_is hR.1 hR.2
      subst hus
      have hfr := hr2
      have hul : (sortB [] (norms ks)).length = ks.length := by rw [sortB_len, norms_len]; simp
      obtain ⟨σ', h1, h2, h3, h4⟩ := freezeG (Gr := []) (by simpa using h.toG) (fun _ h => h) (OwnSl.close (by rw [hfr.len, hul]) hc2 hcm2 (by rw [List.length_append] at hxl2 ⊢; have q1 := hfr.len; have q2 := hrow.len; rw [hul] at q1; omega)) hfr (by omega)
      refine h2.gives ((hl1.trans hl).trans h1) ((hf1.trans hf).trans h4) ⟨_, rfl, ?_⟩
      rw [norm_mk, if_pos ho7]
      exact TermC.mk ho hn (BytesV.le (hl.trans h1) hb7) h3
    ·
      refine cw_skip ?_
      refine qw_seq ?_
      refine cw_seq ?_
      refine cw_region ?_
      refine ow_val rfl rfl (ex_loadR rfl (by first | exact ld_ownN 0 rfl rfl | exact ld_ownN 1 rfl rfl | exact ld_ownN 2 rfl rfl | exact ld_ownN 3 rfl rfl | exact ld_ownN 4 rfl rfl | exact ld_ownN 5 rfl rfl | exact ld_ownN 6 rfl rfl | exact ld_ownN 7 rfl rfl | exact ld_ownGN 0 rfl rfl | exact ld_ownGN 1 rfl rfl | exact ld_immT (by assumption) (by assumption))) ?_
      refine ow_u rfl (exu_storeN 1 rfl rfl rfl rfl (four_one (BytesV.cell hb7).2 rfl) rfl) ?_
      refine ow_nil ?_
      refine qw_seq ?_
      refine cw_ret ?_
      refine qw_retC rfl rfl (ld_ownN 1 rfl rfl) (fun w' h => ?_)
      have ho7 : o ≠ 7 := by simpa using c30
      have hfr := hrw
      have hul : (norms ks).length = ks.length := norms_len ks
      obtain ⟨σ', h1, h2, h3, h4⟩ := freezeG (Gr := []) (by simpa using h.toG) (fun _ h => h) (OwnSl.close (by rw [hfr.len, hul]) hc2 hcm2 (by rw [List.length_append] at hxl2 ⊢; have q1 := hfr.len; have q2 := hrow.len; rw [hul] at q1; omega)) hfr (by omega)
      refine h2.gives ((hl1.trans hl).trans h1) ((hf1.trans hf).trans h4) ⟨_, rfl, ?_⟩
      rw [norm_mk, if_neg ho7]
      exact TermC.mk ho hn (BytesV.le (hl.trans h1) hb7) h3

theorem pNorm {B : Nat} (hS : SortsAt Tryd.prog 70 57 30 B) (hBm : B ≤ maxKids) : ∀ (t : T), slim B t → ∀ {σ : Hp} {cs : List Value} {w : World}, Imm σ w → TermC σ cs t → Calls Tryd.prog 51 #[.agg cs.toArray] w (GiveR (RepT (norm t)) σ w) := by
  intro t
  induction t using T.ind with
  | _ o n d ks ih =>
    intro hsl σ cs w hi ht
    obtain ⟨h1, h2⟩ := slim_mk.1 hsl
    rcases Nat.eq_zero_or_pos ks.length with h0 | h0
    · obtain rfl := List.eq_nil_of_length_eq_zero h0
      exact pNorm0 hi ht
    · exact pNormN hS hBm (fun k hk => ih k hk (h2 k hk)) h1 h0 hi ht

end Go.Proofs.YtnjomdjkbbhdoaaDoor
