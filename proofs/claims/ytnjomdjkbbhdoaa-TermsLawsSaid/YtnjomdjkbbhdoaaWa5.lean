/-
  Walks of the reference: a term, its powers in order.
  No condition.
-/
import Derived.Test.YtnjomdjkbbhdoaaWa4
namespace Go.Proofs.Ytnjomdjkbbhdoaa
open Go.RowKit
set_option linter.unusedVariables false
set_option linter.unusedSimpArgs false
set_option maxRecDepth 100000

set_option maxHeartbeats 400000 in
theorem rNorm7 {n : Int} {d : List UInt8} {ks : List T} (ih : ∀ k, k ∈ ks → ∀ {σ : Hp} {cs : List Value} {w : World}, Imm σ w → TermC σ cs k → Calls Try.prog 22 #[.agg cs.toArray] w (GiveR (RepT (norm k)) σ w)) {σ : Hp} {cs : List Value} {w : World} (hi : Imm σ w) (ht : TermC σ cs (.mk 7 n d ks)) :
    Calls Try.prog 22 #[.agg cs.toArray] w (GiveR (RepT (norm (.mk 7 n d ks))) σ w) := by
  obtain ⟨dv, kv, rfl, ho, hn, hd, hk⟩ := ht.opn
  simp only [T.kids, T.op, T.num, T.data] at *
  obtain ⟨p, c, rfl, hc, hm⟩ := hk.slice
  have hm2 := hm
  unfold maxKids at hm2
  have hml : (2199023255553 : Nat) ≤ maxLen := by unfold maxLen; omega
  refine enter (St w (fun _ => False) σ [] []) Try.func22 rfl Try.ntmps22 rfl (St.start hi) ?_
  refine cw_seq ?_
  refine cw_region ?_
  refine ow_blk rfl rfl (exw_box rfl) ?_; intro b1
  refine ow_blk rfl rfl exw_alloc ?_; intro b2
  refine ow_nil ?_
  refine qw_seq ?_
  refine cw_seq ?_
  refine cw_region ?_
  refine ow_val rfl rfl (ex_assign rfl) ?_
  refine ow_nil ?_
  refine qw_seq ?_
  refine cw_seq ?_
  refine cw_seq ?_
  refine cw_region ?_
  refine ow_val rfl rfl (ex_assign rfl) ?_
  refine ow_nil ?_
  refine qw_seq ?_
  refine cw_block ?_
  refine cw_loop3 (fun (i : Nat) (τ : Hp) (v : Value) => [(1, .pointer (some ⟨b1, 0, none⟩)), (2, .pointer (some ⟨b2, 0, none⟩)), (3, v), (4, .int .i64 (i : Int))]) (fun i τ v => i ≤ ks.length ∧ Le σ τ ∧ Fresh σ τ w ∧ KidsV τ v (sortB [] (norms (ks.take i)))) (fun i τ v => τ) (fun i τ v => []) (fun i τ v => ks.length - i) 0 σ (.slice none 0 0) (subL_cons (lkv rfl (by first | rfl | simp)) (subL_cons (lkv rfl (by first | rfl | simp)) (subL_cons (lkv rfl (by first | rfl | simp)) (subL_cons (lkv rfl (by first | rfl | simp)) (subL_nil _))))) ⟨Nat.zero_le _, Le.refl _, Fresh.refl _ _, KidsV.nil σ⟩ (fun w h => h) ?_
  intro i τ v ⟨hle, hl, hf, hacc⟩
  refine cw_seq ?_
  refine cw_seq ?_
  refine cw_region ?_
  refine ow_val rfl rfl (ex_move rfl) ?_
  refine ow_val rfl rfl (ex_field rfl) ?_
  refine ow_val rfl rfl (ex_load1 rfl (by first | exact ld_own1 0 rfl rfl | exact ld_own1 1 rfl rfl | exact ld_own1 2 rfl rfl | exact ld_own1 3 rfl rfl | exact ld_own1 4 rfl rfl | exact ld_own1 5 rfl rfl | exact ld_own1 6 rfl rfl | exact ld_own1 7 rfl rfl | exact ld_imm1 (by assumption))) ?_
  refine ow_val rfl rfl (ex_len (ty := 0) rfl) ?_
  refine ow_val rfl rfl (ex_lss rfl rfl) ?_
  refine ow_nil ?_
  refine qw_seq ?_
  refine cw_cond rfl (fun c10 => ?_) (fun c10 => ?_)
  ·
    refine cw_skip ?_
    refine qw_seq ?_
    refine cw_seq ?_
    refine cw_block ?_
    refine cw_seq ?_
    have hlt : i < ks.length := by simpa using c10
    obtain ⟨bk, f, ck, cs, e1, e2, hc1, ht1⟩ := (hk.le hl).get i hlt
    cases e1
    refine cw_region ?_
    refine ow_val rfl rfl (ex_field rfl) ?_
    refine ow_val rfl rfl (ex_load1 rfl (by first | exact ld_own1 0 rfl rfl | exact ld_own1 1 rfl rfl | exact ld_own1 2 rfl rfl | exact ld_own1 3 rfl rfl | exact ld_own1 4 rfl rfl | exact ld_own1 5 rfl rfl | exact ld_own1 6 rfl rfl | exact ld_own1 7 rfl rfl | exact ld_imm1 (by assumption))) ?_
    refine ow_val rfl rfl (ex_move rfl) ?_
    refine ow_val rfl rfl (ex_index_nat rfl rfl (by omega)) ?_
    refine ow_val rfl rfl (ex_loadR rfl (by first | exact ld_ownN 0 rfl rfl | exact ld_ownN 1 rfl rfl | exact ld_ownN 2 rfl rfl | exact ld_ownN 3 rfl rfl | exact ld_ownN 4 rfl rfl | exact ld_ownN 5 rfl rfl | exact ld_ownN 6 rfl rfl | exact ld_ownN 7 rfl rfl | exact ld_immT (by assumption) (by assumption))) ?_
    refine ow_cr rfl rfl (ex_callf rfl (fun w h => callR (ih _ (List.getElem_mem hlt) h.im ht1))) (fun u18 τ2 hl2 hf2 hr18 => ?_)
    obtain ⟨cn, rfl, htn⟩ := hr18
    have htn0 := htn
    obtain ⟨dn, kn, rfl, _, _, _, _⟩ := htn0.opn
    refine ow_blk rfl rfl exw_alloc ?_; intro b5
    refine ow_u rfl (exu_storeN 0 rfl rfl rfl rfl htn.one rfl) ?_
    refine ow_nil ?_
    refine qw_seq ?_
    refine cw_seq ?_
    refine cw_region ?_
    refine ow_val rfl rfl (ex_field rfl) ?_
    refine ow_val rfl rfl (ex_load1 rfl (by first | exact ld_own1 0 rfl rfl | exact ld_own1 1 rfl rfl | exact ld_own1 2 rfl rfl | exact ld_own1 3 rfl rfl | exact ld_own1 4 rfl rfl | exact ld_own1 5 rfl rfl | exact ld_own1 6 rfl rfl | exact ld_own1 7 rfl rfl | exact ld_imm1 (by assumption))) ?_
    refine ow_val rfl rfl (ex_eql rfl rfl) ?_
    refine ow_nil ?_
    refine qw_seq ?_
    refine cw_cond rfl (fun c21 => ?_) (fun c21 => ?_)
    ·
      refine cw_region ?_
      refine ow_val rfl rfl (ex_move rfl) ?_
      refine ow_val rfl rfl (ex_loadR rfl (by first | exact ld_ownN 0 rfl rfl | exact ld_ownN 1 rfl rfl | exact ld_ownN 2 rfl rfl | exact ld_ownN 3 rfl rfl | exact ld_ownN 4 rfl rfl | exact ld_ownN 5 rfl rfl | exact ld_ownN 6 rfl rfl | exact ld_ownN 7 rfl rfl | exact ld_immT (by assumption) (by assumption))) ?_
      refine ow_cr rfl rfl (ex_callf rfl (fun w h => callR (rPut h.im (hacc.le hl2) htn (by rw [sortB_len, norms_len, List.length_take]; unfold maxKids; simp; omega)))) (fun u24 τ3 hl3 hf3 hr24 => ?_)
      refine ow_val rfl rfl (ex_assign rfl) ?_
      refine ow_nil ?_
      refine qw_block_normal ?_
      refine qw_seq ?_
      refine cw_region ?_
      refine ow_val rfl rfl (ex_move rfl) ?_
      refine ow_val rfl rfl (ex_addi (z := ((i + 1 : Nat) : Int)) rfl rfl (by omega) (by omega) (by omega)) ?_
      refine ow_val rfl rfl (ex_assign rfl) ?_
      refine ow_nil ?_
      exact qw_round3 (i + 1) τ3 u24 (by omega) (subL_cons (lkv rfl (by first | rfl | simp)) (subL_cons (lkv rfl (by first | rfl | simp)) (subL_cons (lkv rfl (by first | rfl | simp)) (subL_cons (lkv rfl (by first | rfl | simp)) (subL_nil _))))) ⟨by omega, (hl.trans hl2).trans hl3, (hf.trans hf2).trans hf3, by rw [norms_take ks i hlt, sortB_app]; exact hr24⟩ (fun w h => h.drop (List.sublist_cons_self _ _))
    ·
      simp at c21
  ·
    refine cw_exit ?_
    refine qw_then_exit ?_
    refine qw_then_exit ?_
    refine qw_block_exit ?_
    refine qw_seq ?_
    refine cw_seq ?_
    obtain ⟨pa, ca, hva, _, _⟩ := hacc.slice
    have hone : v.oneCell' = true := by rw [hva]; rfl
    have hcl : v.cells = #[v] := by rw [hva]; rfl
    obtain ⟨pd, cd, hvd, _, _⟩ := hd.slice
    have hall : ∀ u ∈ [Value.int .i64 7, .int .i64 n, dv, v], u.oneCell' = true := by
      intro u hu
      simp at hu
      rcases hu with rfl | rfl | rfl | rfl
      · rfl
      · rfl
      · rw [hvd]; rfl
      · exact hone
    refine cw_region ?_
    refine ow_val rfl rfl (ex_move rfl) ?_
    refine ow_val rfl rfl (ex_field rfl) ?_
    refine ow_u rfl (exu_store1 1 rfl rfl rfl hcl hone rfl) ?_
    refine ow_nil ?_
    refine qw_seq ?_
    refine cw_seq ?_
    refine cw_region ?_
    refine ow_val rfl rfl (ex_loadR rfl (by first | exact ld_ownN 0 rfl rfl | exact ld_ownN 1 rfl rfl | exact ld_ownN 2 rfl rfl | exact ld_ownN 3 rfl rfl | exact ld_ownN 4 rfl rfl | exact ld_ownN 5 rfl rfl | exact ld_ownN 6 rfl rfl | exact ld_ownN 7 rfl rfl | exact ld_immT (by assumption) (by assumption))) ?_
    refine ow_u rfl (exu_storeN 0 rfl rfl rfl rfl hall rfl) ?_
    refine ow_nil ?_
    refine qw_seq ?_
    refine cw_ret ?_
    refine qw_retC rfl rfl (ld_ownN 0 rfl rfl) (fun w' h => ?_)
    have he : i = ks.length := by simp at c10; omega
    refine h.gives hl hf ⟨_, rfl, ?_⟩
    rw [norm_mk, if_pos rfl]
    rw [he, List.take_length] at hacc
    exact TermC.mk ho hn (hd.le hl) hacc

set_option maxHeartbeats 400000 in
theorem rNormO {o n : Int} {d : List UInt8} {ks : List T} (h7 : o ≠ 7) (ih : ∀ k, k ∈ ks → ∀ {σ : Hp} {cs : List Value} {w : World}, Imm σ w → TermC σ cs k → Calls Try.prog 22 #[.agg cs.toArray] w (GiveR (RepT (norm k)) σ w)) {σ : Hp} {cs : List Value} {w : World} (hi : Imm σ w) (ht : TermC σ cs (.mk o n d ks)) :
    Calls Try.prog 22 #[.agg cs.toArray] w (GiveR (RepT (norm (.mk o n d ks))) σ w) := by
  obtain ⟨dv, kv, rfl, ho, hn, hd, hk⟩ := ht.opn
  simp only [T.kids, T.op, T.num, T.data] at *
  obtain ⟨p, c, rfl, hc, hm⟩ := hk.slice
  have hm2 := hm
  unfold maxKids at hm2
  have hml : (2199023255553 : Nat) ≤ maxLen := by unfold maxLen; omega
  refine enter (St w (fun _ => False) σ [] []) Try.func22 rfl Try.ntmps22 rfl (St.start hi) ?_
  refine cw_seq ?_
  refine cw_region ?_
  refine ow_blk rfl rfl (exw_box rfl) ?_; intro b1
  refine ow_blk rfl rfl exw_alloc ?_; intro b2
  refine ow_nil ?_
  refine qw_seq ?_
  refine cw_seq ?_
  refine cw_region ?_
  refine ow_val rfl rfl (ex_assign rfl) ?_
  refine ow_nil ?_
  refine qw_seq ?_
  refine cw_seq ?_
  refine cw_seq ?_
  refine cw_region ?_
  refine ow_val rfl rfl (ex_assign rfl) ?_
  refine ow_nil ?_
  refine qw_seq ?_
  refine cw_block ?_
  refine cw_loop5 (fun (i : Nat) (τ : Hp) (v : Value) (xs : List Value) (G : List (Nat × Obj)) => [(1, .pointer (some ⟨b1, 0, none⟩)), (2, .pointer (some ⟨b2, 0, none⟩)), (3, v), (4, .int .i64 (i : Int))]) (fun i τ v xs G => i ≤ ks.length ∧ Le σ τ ∧ Fresh σ τ w ∧ RowC τ xs (norms (ks.take i)) ∧ OwnSl 26 4 v i xs G) (fun i τ v xs G => τ) (fun i τ v xs G => G) (fun i τ v xs G => ks.length - i) 0 σ (.slice none 0 0) [] [] (subL_cons (lkv rfl (by first | rfl | simp)) (subL_cons (lkv rfl (by first | rfl | simp)) (subL_cons (lkv rfl (by first | rfl | simp)) (subL_cons (lkv rfl (by first | rfl | simp)) (subL_nil _))))) ⟨Nat.zero_le _, Le.refl _, Fresh.refl _ _, rfl, OwnSl.nil _ _⟩ (fun w h => h) ?_
  intro i τ v xs G ⟨hle, hl, hf, hrow, hO⟩
  refine cw_seq ?_
  refine cw_seq ?_
  refine cw_region ?_
  refine ow_val rfl rfl (ex_move rfl) ?_
  refine ow_val rfl rfl (ex_field rfl) ?_
  refine ow_val rfl rfl (ex_load1 rfl (by first | exact ld_own1 0 rfl rfl | exact ld_own1 1 rfl rfl | exact ld_own1 2 rfl rfl | exact ld_own1 3 rfl rfl | exact ld_own1 4 rfl rfl | exact ld_own1 5 rfl rfl | exact ld_own1 6 rfl rfl | exact ld_own1 7 rfl rfl | exact ld_imm1 (by assumption))) ?_
  refine ow_val rfl rfl (ex_len (ty := 0) rfl) ?_
  refine ow_val rfl rfl (ex_lss rfl rfl) ?_
  refine ow_nil ?_
  refine qw_seq ?_
  refine cw_cond rfl (fun c10 => ?_) (fun c10 => ?_)
  ·
    refine cw_skip ?_
    refine qw_seq ?_
    refine cw_seq ?_
    refine cw_block ?_
    refine cw_seq ?_
    have hlt : i < ks.length := by simpa using c10
    obtain ⟨bk, f, ck, cs, e1, e2, hc1, ht1⟩ := (hk.le hl).get i hlt
    cases e1
    refine cw_region ?_
    refine ow_val rfl rfl (ex_field rfl) ?_
    refine ow_val rfl rfl (ex_load1 rfl (by first | exact ld_own1 0 rfl rfl | exact ld_own1 1 rfl rfl | exact ld_own1 2 rfl rfl | exact ld_own1 3 rfl rfl | exact ld_own1 4 rfl rfl | exact ld_own1 5 rfl rfl | exact ld_own1 6 rfl rfl | exact ld_own1 7 rfl rfl | exact ld_imm1 (by assumption))) ?_
    refine ow_val rfl rfl (ex_move rfl) ?_
    refine ow_val rfl rfl (ex_index_nat rfl rfl (by omega)) ?_
    refine ow_val rfl rfl (ex_loadR rfl (by first | exact ld_ownN 0 rfl rfl | exact ld_ownN 1 rfl rfl | exact ld_ownN 2 rfl rfl | exact ld_ownN 3 rfl rfl | exact ld_ownN 4 rfl rfl | exact ld_ownN 5 rfl rfl | exact ld_ownN 6 rfl rfl | exact ld_ownN 7 rfl rfl | exact ld_immT (by assumption) (by assumption))) ?_
    refine ow_cr rfl rfl (ex_callf rfl (fun w h => callR (ih _ (List.getElem_mem hlt) h.im ht1))) (fun u18 τ2 hl2 hf2 hr18 => ?_)
    obtain ⟨cn, rfl, htn⟩ := hr18
    have htn0 := htn
    obtain ⟨dn, kn, rfl, _, _, _, _⟩ := htn0.opn
    refine ow_blk rfl rfl exw_alloc ?_; intro b5
    refine ow_u rfl (exu_storeN 0 rfl rfl rfl rfl htn.one rfl) ?_
    refine ow_nil ?_
    refine qw_seq ?_
    refine cw_seq ?_
    refine cw_region ?_
    refine ow_val rfl rfl (ex_field rfl) ?_
    refine ow_val rfl rfl (ex_load1 rfl (by first | exact ld_own1 0 rfl rfl | exact ld_own1 1 rfl rfl | exact ld_own1 2 rfl rfl | exact ld_own1 3 rfl rfl | exact ld_own1 4 rfl rfl | exact ld_own1 5 rfl rfl | exact ld_own1 6 rfl rfl | exact ld_own1 7 rfl rfl | exact ld_imm1 (by assumption))) ?_
    refine ow_val rfl rfl (ex_eql rfl rfl) ?_
    refine ow_nil ?_
    refine qw_seq ?_
    refine cw_cond rfl (fun c21 => ?_) (fun c21 => ?_)
    ·
      exact absurd (by simpa using c21) h7
    ·
      refine cw_region ?_
      refine ow_val rfl rfl (ex_move rfl) ?_
      refine ow_val rfl rfl (ex_loadR rfl (by first | exact ld_ownN 0 rfl rfl | exact ld_ownN 1 rfl rfl | exact ld_ownN 2 rfl rfl | exact ld_ownN 3 rfl rfl | exact ld_ownN 4 rfl rfl | exact ld_ownN 5 rfl rfl | exact ld_ownN 6 rfl rfl | exact ld_ownN 7 rfl rfl | exact ld_immT (by assumption) (by assumption))) ?_
      refine ow_slit rfl rfl (exw_slit1 rfl rfl) ?_; intro b27
      refine ow_app1 rfl rfl (exw_append1 (news := [.int .i64 (norm ks[i]).op, .int .i64 (norm ks[i]).num, dn, kn]) rfl rfl hO rfl (.inr ⟨_, _, rfl, (ld_ownN (k := 4) 0 rfl rfl).2⟩) htn.one (by omega) (by omega)) (fun v28 G28 hO28 hz28 => ?_)
      refine ow_val rfl rfl (ex_assign rfl) ?_
      refine ow_nil ?_
      refine qw_block_normal ?_
      refine qw_seq ?_
      refine cw_region ?_
      refine ow_val rfl rfl (ex_move rfl) ?_
      refine ow_val rfl rfl (ex_addi (z := ((i + 1 : Nat) : Int)) rfl rfl (by omega) (by omega) (by omega)) ?_
      refine ow_val rfl rfl (ex_assign rfl) ?_
      refine ow_nil ?_
      exact qw_round5 (i + 1) τ2 v28 _ G28 (by omega) (subL_cons (lkv rfl (by first | rfl | simp)) (subL_cons (lkv rfl (by first | rfl | simp)) (subL_cons (lkv rfl (by first | rfl | simp)) (subL_cons (lkv rfl (by first | rfl | simp)) (subL_nil _))))) ⟨by omega, hl.trans hl2, hf.trans hf2, by rw [norms_take ks i hlt]; exact (hrow.le hl2).append (RowC.one htn), hO28⟩ (fun w h => h.drop ((List.sublist_cons_self _ _).trans (List.sublist_cons_self _ _)))
  ·
    refine cw_exit ?_
    refine qw_then_exit ?_
    refine qw_then_exit ?_
    refine qw_block_exit ?_
    refine qw_seq ?_
    refine cw_seq ?_
    have hone : v.oneCell' = true := by
      rcases hO.2 with ⟨rfl, _⟩ | ⟨g, c, cur, rfl, _⟩ <;> rfl
    have hcl : v.cells = #[v] := by
      rcases hO.2 with ⟨rfl, _⟩ | ⟨g, c, cur, rfl, _⟩ <;> rfl
    obtain ⟨pd, cd, hvd, _, _⟩ := hd.slice
    have hall : ∀ u ∈ [Value.int .i64 o, .int .i64 n, dv, v], u.oneCell' = true := by
      intro u hu
      simp at hu
      rcases hu with rfl | rfl | rfl | rfl
      · rfl
      · rfl
      · rw [hvd]; rfl
      · exact hone
    refine cw_region ?_
    refine ow_val rfl rfl (ex_move rfl) ?_
    refine ow_val rfl rfl (ex_field rfl) ?_
    refine ow_u rfl (exu_store1 1 rfl rfl rfl hcl hone rfl) ?_
    refine ow_nil ?_
    refine qw_seq ?_
    refine cw_seq ?_
    refine cw_region ?_
    refine ow_val rfl rfl (ex_loadR rfl (by first | exact ld_ownN 0 rfl rfl | exact ld_ownN 1 rfl rfl | exact ld_ownN 2 rfl rfl | exact ld_ownN 3 rfl rfl | exact ld_ownN 4 rfl rfl | exact ld_ownN 5 rfl rfl | exact ld_ownN 6 rfl rfl | exact ld_ownN 7 rfl rfl | exact ld_immT (by assumption) (by assumption))) ?_
    refine ow_u rfl (exu_storeN 0 rfl rfl rfl rfl hall rfl) ?_
    refine ow_nil ?_
    refine qw_seq ?_
    refine cw_ret ?_
    refine qw_retC rfl rfl (ld_ownN 0 rfl rfl) (fun w' h => ?_)
    have he : i = ks.length := by simp at c10; omega
    obtain ⟨σ', h1, h2, h3, h4⟩ := freezeG (Gr := []) (by simpa using h) (fun _ h => h) hO hrow (by rw [norms_len, List.length_take]; omega)
    refine h2.gives (hl.trans h1) (hf.trans h4) ⟨_, rfl, ?_⟩
    rw [norm_mk, if_neg h7]
    rw [he, List.take_length] at h3
    exact TermC.mk ho hn (hd.le (hl.trans h1)) h3

theorem rNorm : ∀ (t : T) {σ : Hp} {cs : List Value} {w : World}, Imm σ w → TermC σ cs t → Calls Try.prog 22 #[.agg cs.toArray] w (GiveR (RepT (norm t)) σ w) := by
  intro t
  induction t using T.ind with
  | _ o n d ks ih =>
    intro σ cs w hi ht
    by_cases h7 : o = 7
    · subst h7; exact rNorm7 ih hi ht
    · exact rNormO h7 ih hi ht

end Go.Proofs.Ytnjomdjkbbhdoaa
