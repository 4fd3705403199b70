/-
  Walks of the program: which terms are right.
  No condition.
-/
import Derived.Test.YtnjomdjkbbhdoaaDoorWb2
namespace Go.Proofs.YtnjomdjkbbhdoaaDoor
open Go.RowKit
set_option linter.unusedVariables false
set_option linter.unusedSimpArgs false
set_option maxRecDepth 100000

theorem pAmong' {b : Nat} {zs : List Int} {o : Int} {k : Bool} {σ : Hp} {w : World} (hk : k = decide (o ∈ zs)) (hi : Imm σ w) (hc : CellsAt σ b 0 (intsV zs)) (hl : zs.length < 1000) : Calls Tryd.prog 85 #[.int .i64 o, .slice (some ⟨b, 0, none⟩) zs.length zs.length] w fun e w' => e = .returned (.bool k) ∧ Below w.heap.size w w' := by
  rw [hk]; exact pAmong hi hc hl


set_option maxHeartbeats 400000 in
theorem pIndexFunc {ks : List T} {p : T → Bool} {b : Nat} {z : Int} (hp : ∀ k, k ∈ ks → ∀ {σ : Hp} {cs : List Value} {w : World}, Imm σ w → TermC σ cs k → CellsAt σ b 0 [.int .i64 z] → Calls Tryd.prog 86 #[.agg cs.toArray, .pointer (some ⟨b, 0, none⟩)] w fun e w' => e = .returned (.bool (p k)) ∧ Below w.heap.size w w') {σ : Hp} {v : Value} {w : World} (hi : Imm σ w) (hk : KidsV σ v ks) (hb : CellsAt σ b 0 [.int .i64 z]) : Calls Tryd.prog 108 #[v, .func (.func 86) #[] #[.pointer (some ⟨b, 0, none⟩)]] w fun e w' => e = .returned (.int .i64 (findI p ks)) ∧ Below w.heap.size w w' := by
  obtain ⟨q, c, rfl, hc, hm⟩ := hk.slice
  have hm2 := hm
  unfold maxKids at hm2
  refine enter (St w (fun _ => False) σ [] []) Tryd.func108 rfl Tryd.ntmps108 rfl (St.start hi) ?_
  refine cw_seq ?_
  refine cw_region ?_
  refine ow_val rfl rfl (ex_assign rfl) ?_
  refine ow_nil ?_
  refine qw_seq ?_
  refine cw_seq ?_
  refine cw_seq ?_
  refine cw_region ?_
  refine ow_val rfl rfl (ex_move rfl) ?_
  refine ow_val rfl rfl (ex_len (ty := 0) rfl) ?_
  refine ow_val rfl rfl (ex_move rfl) ?_
  refine ow_nil ?_
  refine qw_seq ?_
  refine cw_block ?_
  refine cw_loopS (α := Nat) (fun i => [(0, .slice q ks.length c), (1, .func (.func 86) #[] #[.pointer (some ⟨b, 0, none⟩)]), (7, .int .i64 (ks.length : Int)), (8, .int .i64 (i : Int))]) (fun i => i ≤ ks.length ∧ ∀ j (h : j < ks.length), j < i → p ks[j] = false) (fun i => ks.length - i) 0 (subL_cons (lkv rfl (by first | rfl | simp)) (subL_cons (lkv rfl (by first | rfl | simp)) (subL_cons (lkv rfl (by first | rfl | simp)) (subL_cons (lkv rfl (by first | rfl | simp)) (subL_nil _))))) ⟨Nat.zero_le _, fun j _ h => absurd h (Nat.not_lt_zero _)⟩ ?_
  intro i ⟨hle, hz⟩
  refine cw_seq ?_
  refine cw_region ?_
  refine ow_val rfl rfl (ex_lss rfl rfl) ?_
  refine ow_nil ?_
  refine qw_seq ?_
  refine cw_seq ?_
  refine cw_cond rfl (fun c9 => ?_) (fun c9 => ?_)
  ·
    refine cw_skip ?_
    refine qw_seq ?_
    refine cw_seq ?_
    refine cw_block ?_
    refine cw_seq ?_
    refine cw_region ?_
    refine ow_val rfl rfl (ex_move rfl) ?_
    refine ow_val rfl rfl (ex_assign rfl) ?_
    refine ow_nil ?_
    refine qw_seq ?_
    refine cw_seq ?_
    have hlt : i < ks.length := by simpa using c9
    obtain ⟨bk, f, ck, cs, e1, e2, hc1, ht1⟩ := hk.get i hlt
    cases e1
    refine cw_region ?_
    refine ow_val rfl rfl (ex_move rfl) ?_
    refine ow_val rfl rfl (ex_move rfl) ?_
    refine ow_val rfl rfl (ex_move rfl) ?_
    refine ow_val rfl rfl (ex_index_nat rfl rfl (by omega)) ?_
    refine ow_val rfl rfl (ex_loadR rfl (by first | exact ld_ownN 0 rfl rfl | exact ld_ownN 1 rfl rfl | exact ld_ownN 2 rfl rfl | exact ld_ownN 3 rfl rfl | exact ld_ownN 4 rfl rfl | exact ld_ownN 5 rfl rfl | exact ld_ownN 6 rfl rfl | exact ld_ownN 7 rfl rfl | exact ld_ownGN 0 rfl rfl | exact ld_ownGN 1 rfl rfl | exact ld_immT (by assumption) (by assumption))) ?_
    refine ow_cv rfl rfl (ex_call (cs := [.pointer (some ⟨b, 0, none⟩)]) rfl rfl (fun w h => callB ((hp _ (List.getElem_mem hlt) h.im ht1 hb)))) ?_
    refine ow_nil ?_
    refine qw_seq ?_
    refine cw_cond rfl (fun c16 => ?_) (fun c16 => ?_)
    ·
      refine cw_seq ?_
      refine cw_region ?_
      refine ow_val rfl rfl (ex_move rfl) ?_
      refine ow_val rfl rfl (ex_assign rfl) ?_
      refine ow_nil ?_
      refine qw_seq ?_
      refine cw_ret ?_
      refine qw_block_ret ?_
      refine qw_then_ret ?_
      refine qw_then_ret ?_
      refine qw_block_ret ?_
      refine qw_then_ret ?_
      refine qw_ret1 rfl rfl (fun w' h => ⟨congrArg (fun z => Ending.returned (.int .i64 z)) ?_, h.ag.below⟩)
      rw [findI_at hlt c16 hz]
    ·
      refine cw_skip ?_
      refine qw_block_normal ?_
      refine qw_seq ?_
      refine cw_region ?_
      refine ow_val rfl rfl (ex_addi (z := ((i + 1 : Nat) : Int)) rfl rfl (by omega) (by omega) (by omega)) ?_
      refine ow_val rfl rfl (ex_move rfl) ?_
      refine ow_nil ?_
      exact qw_roundS (i + 1) (by omega) (subL_cons (lkv rfl (by first | rfl | simp)) (subL_cons (lkv rfl (by first | rfl | simp)) (subL_cons (lkv rfl (by first | rfl | simp)) (subL_cons (lkv rfl (by first | rfl | simp)) (subL_nil _))))) ⟨by omega, fun j h hj => by
        by_cases e : j = i
        · subst e; exact c16
        · exact hz j h (by omega)⟩
  ·
    refine cw_exit ?_
    refine qw_then_exit ?_
    refine qw_then_exit ?_
    refine qw_block_exit ?_
    refine qw_seq ?_
    refine cw_seq ?_
    refine cw_region ?_
    refine ow_val rfl rfl (ex_assign rfl) ?_
    refine ow_nil ?_
    refine qw_seq ?_
    refine cw_ret ?_
    refine qw_ret1 rfl rfl (fun w' h => ⟨congrArg (fun z => Ending.returned (.int .i64 z)) ?_, h.ag.below⟩)
    have he : i = ks.length := by simp at c9; omega
    rw [findI_none (fun j h => hz j h (by omega))]

set_option maxHeartbeats 400000 in
theorem pContainsFunc {ks : List T} {p : T → Bool} {b : Nat} {z : Int} (hp : ∀ k, k ∈ ks → ∀ {σ : Hp} {cs : List Value} {w : World}, Imm σ w → TermC σ cs k → CellsAt σ b 0 [.int .i64 z] → Calls Tryd.prog 86 #[.agg cs.toArray, .pointer (some ⟨b, 0, none⟩)] w fun e w' => e = .returned (.bool (p k)) ∧ Below w.heap.size w w') {σ : Hp} {v : Value} {w : World} (hi : Imm σ w) (hk : KidsV σ v ks) (hb : CellsAt σ b 0 [.int .i64 z]) : Calls Tryd.prog 87 #[v, .func (.func 86) #[] #[.pointer (some ⟨b, 0, none⟩)]] w fun e w' => e = .returned (.bool (ks.any p)) ∧ Below w.heap.size w w' := by
  refine enter (St w (fun _ => False) σ [] []) Tryd.func87 rfl Tryd.ntmps87 rfl (St.start hi) ?_
  refine cw_seq ?_
  refine cw_region ?_
  refine ow_val rfl rfl (ex_assign rfl) ?_
  refine ow_nil ?_
  refine qw_seq ?_
  refine cw_seq ?_
  refine cw_region ?_
  refine ow_val rfl rfl (ex_move rfl) ?_
  refine ow_val rfl rfl (ex_move rfl) ?_
  refine ow_cv rfl rfl (ex_callf rfl (fun w h => callB ((pIndexFunc hp h.im hk hb)))) ?_
  refine ow_val rfl rfl (ex_geq rfl rfl) ?_
  refine ow_val rfl rfl (ex_assign rfl) ?_
  refine ow_nil ?_
  refine qw_seq ?_
  refine cw_ret ?_
  refine qw_ret1 rfl rfl (fun w' h => ⟨congrArg (fun z => Ending.returned (.bool z)) ?_, h.ag.below⟩)
  exact findI_any p ks

set_option maxHeartbeats 400000 in
theorem pIsSorted {ks : List T} {σ : Hp} {v : Value} {w : World} (hi : Imm σ w) (hk : KidsV σ v ks) : Calls Tryd.prog 88 #[v, .func (.func 57) #[] #[]] w fun e w' => e = .returned (.bool (sorted ks)) ∧ Below w.heap.size w w' := by
  obtain ⟨q, c, rfl, hc, hm⟩ := hk.slice
  have hm2 := hm
  unfold maxKids at hm2
  refine enter (St w (fun _ => False) σ [] []) Tryd.func88 rfl Tryd.ntmps88 rfl (St.start hi) ?_
  refine cw_seq ?_
  refine cw_region ?_
  refine ow_val rfl rfl (ex_assign rfl) ?_
  refine ow_nil ?_
  refine qw_seq ?_
  refine cw_seq ?_
  refine cw_seq ?_
  refine cw_region ?_
  refine ow_val rfl rfl (ex_move rfl) ?_
  refine ow_val rfl rfl (ex_len (ty := 0) rfl) ?_
  refine ow_val rfl rfl (ex_subi (z := ((ks.length : Int) - 1)) rfl rfl (by omega) (by omega) (by omega)) ?_
  refine ow_val rfl rfl (ex_assign rfl) ?_
  refine ow_nil ?_
  refine qw_seq ?_
  refine cw_block ?_
  refine cw_loopS (α := Int) (fun i => [(0, .slice q ks.length c), (1, .func (.func 57) #[] #[]), (5, .int .i64 i)]) (fun i => -1 ≤ i ∧ i < ks.length ∧ ∀ j (h : j + 1 < ks.length), i ≤ (j : Int) → ord ks[j] ks[j + 1] ≤ 0) (fun i => i.toNat) ((ks.length : Int) - 1) (subL_cons (lkv rfl (by first | rfl | simp)) (subL_cons (lkv rfl (by first | rfl | simp)) (subL_cons (lkv rfl (by first | rfl | simp)) (subL_nil _)))) ⟨by omega, by omega, fun j h hj => absurd hj (by omega)⟩ ?_
  intro i ⟨hge, hle, hz⟩
  refine cw_seq ?_
  refine cw_seq ?_
  refine cw_region ?_
  refine ow_val rfl rfl (ex_move rfl) ?_
  refine ow_val rfl rfl (ex_gtr rfl rfl) ?_
  refine ow_nil ?_
  refine qw_seq ?_
  refine cw_cond rfl (fun c10 => ?_) (fun c10 => ?_)
  ·
    refine cw_skip ?_
    refine qw_seq ?_
    refine cw_seq ?_
    refine cw_block ?_
    refine cw_seq ?_
    obtain ⟨m, rfl⟩ : ∃ m : Nat, i = (m : Int) := ⟨i.toNat, by simp at c10; omega⟩
    have hpos : 0 < m := by simp at c10; omega
    have hlt : m < ks.length := by omega
    obtain ⟨bk, f, ck, cs, e1, e2, hc1, ht1⟩ := hk.get m hlt
    cases e1
    obtain ⟨bk2, f2, ck2, cs2, e1', e2', hc2, ht2⟩ := hk.get (m - 1) (by omega)
    cases e1'
    refine flow_sound 12 (by kernel_rfl) ?_
    refine flow_val rfl (ex_move rfl) ?_
    refine flow_val rfl (ex_move rfl) ?_
    refine flow_val rfl (ex_move rfl) ?_
    refine flow_val rfl (ex_index_nat rfl rfl (by omega)) ?_
    refine flow_val rfl (ex_loadR rfl (by first | exact ld_ownN 0 rfl rfl | exact ld_ownN 1 rfl rfl | exact ld_ownN 2 rfl rfl | exact ld_ownN 3 rfl rfl | exact ld_ownN 4 rfl rfl | exact ld_ownN 5 rfl rfl | exact ld_ownN 6 rfl rfl | exact ld_ownN 7 rfl rfl | exact ld_ownGN 0 rfl rfl | exact ld_ownGN 1 rfl rfl | exact ld_immT (by assumption) (by assumption))) ?_
    refine flow_val rfl (ex_move rfl) ?_
    refine flow_val rfl (ex_move rfl) ?_
    refine flow_val rfl (ex_subi (z := ((m - 1 : Nat) : Int)) rfl rfl (by omega) (by omega) (by omega)) ?_
    refine flow_val rfl (ex_index_nat rfl rfl (by omega)) ?_
    refine flow_val rfl (ex_loadR rfl (by first | exact ld_ownN 0 rfl rfl | exact ld_ownN 1 rfl rfl | exact ld_ownN 2 rfl rfl | exact ld_ownN 3 rfl rfl | exact ld_ownN 4 rfl rfl | exact ld_ownN 5 rfl rfl | exact ld_ownN 6 rfl rfl | exact ld_ownN 7 rfl rfl | exact ld_ownGN 0 rfl rfl | exact ld_ownGN 1 rfl rfl | exact ld_immT (by assumption) (by assumption))) ?_
    refine flow_cv rfl (ex_call (cs := []) rfl rfl (fun w h => callB ((pOrder _ _ h.im ht1 ht2)))) ?_
    refine flow_val rfl (ex_lss rfl rfl) ?_
    refine flow_nil ?_
    refine fin_is ?_
    refine fin_is ?_
    refine fin_is ?_
    refine fin_is ?_
    refine fin_is ?_
    refine fin_is ?_
    refine fin_is ?_
    refine fin_is ?_
    refine fin_is ?_
    refine fin_is ?_
    refine fin_is ?_
    refine fin_is ?_
    refine fin_nil ?_
    refine ow_nil ?_
    refine qw_seq ?_
    refine cw_cond rfl (fun c24 => ?_) (fun c24 => ?_)
    ·
      refine cw_seq ?_
      refine cw_region ?_
      refine ow_val rfl rfl (ex_assign rfl) ?_
      refine ow_nil ?_
      refine qw_seq ?_
      refine cw_ret ?_
      refine qw_block_ret ?_
      refine qw_then_ret ?_
      refine qw_then_ret ?_
      refine qw_block_ret ?_
      refine qw_then_ret ?_
      refine qw_ret1 rfl rfl (fun w' h => ⟨congrArg (fun z => Ending.returned (.bool z)) ?_, h.ag.below⟩)
      symm
      cases hq : sorted ks with
      | false => rfl
      | true =>
        have := sorted_iff.1 hq (m - 1) (by omega)
        have e2 : m - 1 + 1 = m := by omega
        simp only [e2] at this
        rw [ord_neg] at this
        simp at c24
        omega
    ·
      refine cw_skip ?_
      refine qw_block_normal ?_
      refine qw_seq ?_
      refine cw_region ?_
      refine ow_val rfl rfl (ex_move rfl) ?_
      refine ow_val rfl rfl (ex_subi (z := ((m : Int) - 1)) rfl rfl (by omega) (by omega) (by omega)) ?_
      refine ow_val rfl rfl (ex_assign rfl) ?_
      refine ow_nil ?_
      exact qw_roundS ((m : Int) - 1) (by omega) (subL_cons (lkv rfl (by first | rfl | simp)) (subL_cons (lkv rfl (by first | rfl | simp)) (subL_cons (lkv rfl (by first | rfl | simp)) (subL_nil _)))) ⟨by omega, by omega, fun j h hj => by
        by_cases e : j = m - 1
        · subst e
          simp at c24
          rw [ord_neg]
          have e2 : m - 1 + 1 = m := by omega
          simp only [e2]
          omega
        · exact hz j h (by omega)⟩
  ·
    refine cw_exit ?_
    refine qw_then_exit ?_
    refine qw_then_exit ?_
    refine qw_block_exit ?_
    refine qw_seq ?_
    refine cw_seq ?_
    refine cw_region ?_
    refine ow_val rfl rfl (ex_assign rfl) ?_
    refine ow_nil ?_
    refine qw_seq ?_
    refine cw_ret ?_
    refine qw_ret1 rfl rfl (fun w' h => ⟨congrArg (fun z => Ending.returned (.bool z)) ?_, h.ag.below⟩)
    symm
    exact sorted_iff.2 (fun j h => hz j h (by simp at c10; omega))

set_option maxHeartbeats 400000 in
theorem pRight1 {t : T} {deep b : Nat} (hde : deep ≤ 100) (ih : ∀ {σ : Hp} {cs : List Value} {w : World}, Imm σ w → TermC σ cs t → Calls Tryd.prog 67 #[.agg cs.toArray, .int .i64 ((deep + 1 : Nat) : Int)] w fun e w' => e = .returned (.bool (rightD t (deep + 1))) ∧ Below w.heap.size w w') {σ : Hp} {cs : List Value} {w : World} (hi : Imm σ w) (ht : TermC σ cs t) (hb : CellsAt σ b 0 [.int .i64 (deep : Int)]) : Calls Tryd.prog 86 #[.agg cs.toArray, .pointer (some ⟨b, 0, none⟩)] w fun e w' => e = .returned (.bool (!rightD t (deep + 1))) ∧ Below w.heap.size w w' := by
  have ht0 := ht
  obtain ⟨dv, kv, rfl, ho, hn, hd, hk⟩ := ht.opn
  refine enter (St w (fun _ => False) σ [] []) Tryd.func86 rfl Tryd.ntmps86 rfl (St.start hi) ?_
  refine cw_seq ?_
  refine cw_region ?_
  refine ow_blk rfl rfl (exw_box rfl) ?_; intro b2
  refine ow_val rfl rfl (ex_assign rfl) ?_
  refine ow_nil ?_
  refine qw_seq ?_
  refine cw_seq ?_
  refine cw_region ?_
  refine ow_val rfl rfl (ex_loadR rfl (by first | exact ld_ownN 0 rfl rfl | exact ld_ownN 1 rfl rfl | exact ld_ownN 2 rfl rfl | exact ld_ownN 3 rfl rfl | exact ld_ownN 4 rfl rfl | exact ld_ownN 5 rfl rfl | exact ld_ownN 6 rfl rfl | exact ld_ownN 7 rfl rfl | exact ld_ownGN 0 rfl rfl | exact ld_ownGN 1 rfl rfl | exact ld_immT (by assumption) (by assumption))) ?_
  refine ow_val rfl rfl (ex_load1 rfl (by first | exact ld_own1 0 rfl rfl | exact ld_own1 1 rfl rfl | exact ld_own1 2 rfl rfl | exact ld_own1 3 rfl rfl | exact ld_own1 4 rfl rfl | exact ld_own1 5 rfl rfl | exact ld_own1 6 rfl rfl | exact ld_own1 7 rfl rfl | exact ld_ownG1 0 rfl rfl | exact ld_ownG1 1 rfl rfl | exact ld_imm1 (by assumption))) ?_
  refine ow_val rfl rfl (ex_addi (z := ((deep + 1 : Nat) : Int)) rfl rfl (by omega) (by omega) (by omega)) ?_
  refine ow_cv rfl rfl (ex_callf rfl (fun w h => callB ((ih h.im ht0)))) ?_
  refine ow_val rfl rfl (ex_not rfl) ?_
  refine ow_val rfl rfl (ex_assign rfl) ?_
  refine ow_nil ?_
  refine qw_seq ?_
  refine cw_ret ?_
  refine qw_ret1 rfl rfl (fun w' h => ⟨rfl, h.ag.below⟩)

set_option maxHeartbeats 400000 in
theorem pRightD : ∀ (t : T) {deep : Nat} {σ : Hp} {cs : List Value} {w : World}, Imm σ w → TermC σ cs t → deep ≤ 16 → Calls Tryd.prog 67 #[.agg cs.toArray, .int .i64 (deep : Int)] w fun e w' => e = .returned (.bool (rightD t deep)) ∧ Below w.heap.size w w' := by
  intro t
  induction t using T.ind with
  | _ o n d ks ih =>
  intro deep σ cs w hi ht hde
  obtain ⟨dv, kv, rfl, ho, hn, hd, hk⟩ := ht.opn
  simp only [T.kids, T.op, T.num, T.data] at *
  obtain ⟨p, c, rfl, hc, hm⟩ := hk.slice
  obtain ⟨pd, cd, rfl, hcd, hmd⟩ := hd.slice
  have hm2 := hm
  unfold maxKids at hm2
  obtain ⟨kA, hkA⟩ : ∃ b, b = decide (o ∈ [(3 : Int), 4, 6]) := ⟨_, rfl⟩
  obtain ⟨kB, hkB⟩ : ∃ b, b = decide (o ∈ [(1 : Int), 5]) := ⟨_, rfl⟩
  refine enter (St w (fun _ => False) σ [] []) Tryd.func67 rfl Tryd.ntmps67 rfl (St.start hi) ?_
  refine cw_seq ?_
  refine cw_region ?_
  refine ow_blk rfl rfl (exw_box rfl) ?_; intro b2
  refine ow_blk rfl rfl (exw_box rfl) ?_; intro b3
  refine ow_val rfl rfl (ex_assign rfl) ?_
  refine ow_nil ?_
  refine qw_seq ?_
  refine cw_seq ?_
  refine cw_region ?_
  refine ow_val rfl rfl (ex_field rfl) ?_
  refine ow_val rfl rfl (ex_load1 rfl (by first | exact ld_own1 0 rfl rfl | exact ld_own1 1 rfl rfl | exact ld_own1 2 rfl rfl | exact ld_own1 3 rfl rfl | exact ld_own1 4 rfl rfl | exact ld_own1 5 rfl rfl | exact ld_own1 6 rfl rfl | exact ld_own1 7 rfl rfl | exact ld_ownG1 0 rfl rfl | exact ld_ownG1 1 rfl rfl | exact ld_imm1 (by assumption))) ?_
  refine ow_val rfl rfl (ex_len (ty := 0) rfl) ?_
  refine ow_val rfl rfl (ex_assign rfl) ?_
  refine ow_nil ?_
  refine qw_seq ?_
  refine cw_seq ?_
  refine cw_region ?_
  refine ow_val rfl rfl (ex_field rfl) ?_
  refine ow_val rfl rfl (ex_load1 rfl (by first | exact ld_own1 0 rfl rfl | exact ld_own1 1 rfl rfl | exact ld_own1 2 rfl rfl | exact ld_own1 3 rfl rfl | exact ld_own1 4 rfl rfl | exact ld_own1 5 rfl rfl | exact ld_own1 6 rfl rfl | exact ld_own1 7 rfl rfl | exact ld_ownG1 0 rfl rfl | exact ld_ownG1 1 rfl rfl | exact ld_imm1 (by assumption))) ?_
  refine ow_slit rfl rfl (exw_slit3 rfl rfl rfl rfl rfl rfl) ?_; intro b13
  refine ow_cv rfl rfl (ex_callf rfl (fun w h => callB ((pAmong' (zs := [3, 4, 6]) hkA h.freeze.im (CellsAt.ext_self σ (fun j v hj => by simpa [intsV] using hj)) (by simp))))) ?_
  refine ow_val rfl rfl (ex_assign rfl) ?_
  refine ow_mono (fun w h => h.drop (List.sublist_cons_self _ _)) ?_
  refine ow_nil ?_
  refine qw_seq ?_
  refine cw_seq ?_
  refine cw_block ?_
  refine cw_cut1 15 (.bool (decide ((deep : Int) = 16) || (decide (8192 < (d.length : Int)) || decide (n < 0) || decide (1099511627776 < n)))) ?_ ?_
  ·
    refine cw_seq ?_
    refine cw_region ?_
    refine ow_val rfl rfl (ex_load1 rfl (by first | exact ld_own1 0 rfl rfl | exact ld_own1 1 rfl rfl | exact ld_own1 2 rfl rfl | exact ld_own1 3 rfl rfl | exact ld_own1 4 rfl rfl | exact ld_own1 5 rfl rfl | exact ld_own1 6 rfl rfl | exact ld_own1 7 rfl rfl | exact ld_ownG1 0 rfl rfl | exact ld_ownG1 1 rfl rfl | exact ld_imm1 (by assumption))) ?_
    refine ow_val rfl rfl (ex_eql rfl rfl) ?_
    refine ow_val rfl rfl (ex_assign rfl) ?_
    refine ow_nil ?_
    refine qw_seq ?_
    refine cw_cond rfl (fun c15 => ?_) (fun c15 => ?_)
    ·
      refine cw_skip ?_
      exact qw_meet (subL_meet 3 15 (lkv rfl (by clear hkA hkB; first | rfl | (simp only [*, Bool.false_or, Bool.true_or, Bool.or_false, Bool.or_true, Bool.true_and, Bool.false_and, Bool.and_true, Bool.and_false]; done) | (simp_all; done) | (simp_all <;> omega))) rfl rfl) (fun w h => h)
    ·
      refine cw_seq ?_
      refine cw_region ?_
      refine ow_val rfl rfl (ex_field rfl) ?_
      refine ow_val rfl rfl (ex_load1 rfl (by first | exact ld_own1 0 rfl rfl | exact ld_own1 1 rfl rfl | exact ld_own1 2 rfl rfl | exact ld_own1 3 rfl rfl | exact ld_own1 4 rfl rfl | exact ld_own1 5 rfl rfl | exact ld_own1 6 rfl rfl | exact ld_own1 7 rfl rfl | exact ld_ownG1 0 rfl rfl | exact ld_ownG1 1 rfl rfl | exact ld_imm1 (by assumption))) ?_
      refine ow_val rfl rfl (ex_len (ty := 0) rfl) ?_
      refine ow_val rfl rfl (ex_gtr rfl rfl) ?_
      refine ow_val rfl rfl (ex_assign rfl) ?_
      refine ow_nil ?_
      refine qw_seq ?_
      refine cw_cond rfl (fun c15 => ?_) (fun c15 => ?_)
      ·
        refine cw_skip ?_
        exact qw_meet (subL_meet 8 15 (lkv rfl (by clear hkA hkB; first | rfl | (simp only [*, Bool.false_or, Bool.true_or, Bool.or_false, Bool.or_true, Bool.true_and, Bool.false_and, Bool.and_true, Bool.and_false]; done) | (simp_all; done) | (simp_all <;> omega))) rfl rfl) (fun w h => h)
      ·
        refine cw_seq ?_
        refine cw_region ?_
        refine ow_val rfl rfl (ex_field rfl) ?_
        refine ow_val rfl rfl (ex_load1 rfl (by first | exact ld_own1 0 rfl rfl | exact ld_own1 1 rfl rfl | exact ld_own1 2 rfl rfl | exact ld_own1 3 rfl rfl | exact ld_own1 4 rfl rfl | exact ld_own1 5 rfl rfl | exact ld_own1 6 rfl rfl | exact ld_own1 7 rfl rfl | exact ld_ownG1 0 rfl rfl | exact ld_ownG1 1 rfl rfl | exact ld_imm1 (by assumption))) ?_
        refine ow_val rfl rfl (ex_lss rfl rfl) ?_
        refine ow_val rfl rfl (ex_assign rfl) ?_
        refine ow_nil ?_
        refine qw_seq ?_
        refine cw_cond rfl (fun c15 => ?_) (fun c15 => ?_)
        ·
          refine cw_skip ?_
          exact qw_meet (subL_meet 12 15 (lkv rfl (by clear hkA hkB; first | rfl | (simp only [*, Bool.false_or, Bool.true_or, Bool.or_false, Bool.or_true, Bool.true_and, Bool.false_and, Bool.and_true, Bool.and_false]; done) | (simp_all; done) | (simp_all <;> omega))) rfl rfl) (fun w h => h)
        ·
          refine cw_region ?_
          refine ow_val rfl rfl (ex_field rfl) ?_
          refine ow_val rfl rfl (ex_load1 rfl (by first | exact ld_own1 0 rfl rfl | exact ld_own1 1 rfl rfl | exact ld_own1 2 rfl rfl | exact ld_own1 3 rfl rfl | exact ld_own1 4 rfl rfl | exact ld_own1 5 rfl rfl | exact ld_own1 6 rfl rfl | exact ld_own1 7 rfl rfl | exact ld_ownG1 0 rfl rfl | exact ld_ownG1 1 rfl rfl | exact ld_imm1 (by assumption))) ?_
          refine ow_val rfl rfl (ex_gtr rfl rfl) ?_
          refine ow_val rfl rfl (ex_assign rfl) ?_
          refine ow_nil ?_
          exact qw_meet (subL_meet 16 15 (lkv rfl (by clear hkA hkB; first | rfl | (simp only [*, Bool.false_or, Bool.true_or, Bool.or_false, Bool.or_true, Bool.true_and, Bool.false_and, Bool.and_true, Bool.and_false]; done) | (simp_all; done) | (simp_all <;> omega))) rfl rfl) (fun w h => h)
  ·
    refine cw_cond rfl (fun c15 => ?_) (fun c15 => ?_)
    ·
      refine cw_seq ?_
      refine cw_region ?_
      refine ow_val rfl rfl (ex_assign rfl) ?_
      refine ow_nil ?_
      refine qw_seq ?_
      refine cw_ret ?_
      refine qw_block_ret ?_
      refine qw_then_ret ?_
      refine qw_ret1 rfl rfl (fun w' h => ⟨congrArg (fun z => Ending.returned (.bool z)) ?_, h.ag.below⟩)
      symm
      rw [rightD_mk]
      simp only [Bool.or_eq_true, decide_eq_true_eq] at c15
      rcases c15 with c15 | c15
      · rw [show decide (deep < 16) = false by rw [decide_eq_false_iff_not]; omega]; rfl
      · rw [shape_prog hkA hkB]
        have : (decide (8192 < (d.length : Int)) || decide (n < 0) || decide (1099511627776 < n)) = true := by simpa using c15
        rw [this]; simp
    ·
      refine cw_cut1 28 (.bool (decide (0 < n) && decide (o ≠ 1) || decide (0 < (d.length : Int)) && !kA && decide (o ≠ 5))) ?_ ?_
      ·
        refine cw_seq ?_
        refine cw_region ?_
        refine ow_val rfl rfl (ex_field rfl) ?_
        refine ow_val rfl rfl (ex_load1 rfl (by first | exact ld_own1 0 rfl rfl | exact ld_own1 1 rfl rfl | exact ld_own1 2 rfl rfl | exact ld_own1 3 rfl rfl | exact ld_own1 4 rfl rfl | exact ld_own1 5 rfl rfl | exact ld_own1 6 rfl rfl | exact ld_own1 7 rfl rfl | exact ld_ownG1 0 rfl rfl | exact ld_ownG1 1 rfl rfl | exact ld_imm1 (by assumption))) ?_
        refine ow_val rfl rfl (ex_gtr rfl rfl) ?_
        refine ow_val rfl rfl (ex_move rfl) ?_
        refine ow_split (g := some (3, true)) rfl (fun s32 => ?_) (fun s32 => ?_)
        ·
          refine ow_val rfl (gd_go rfl s32) (ex_field rfl) ?_
          refine ow_val rfl (gd_go rfl s32) (ex_load1 rfl (by first | exact ld_own1 0 rfl rfl | exact ld_own1 1 rfl rfl | exact ld_own1 2 rfl rfl | exact ld_own1 3 rfl rfl | exact ld_own1 4 rfl rfl | exact ld_own1 5 rfl rfl | exact ld_own1 6 rfl rfl | exact ld_own1 7 rfl rfl | exact ld_ownG1 0 rfl rfl | exact ld_ownG1 1 rfl rfl | exact ld_imm1 (by assumption))) ?_
          refine ow_val rfl (gd_go rfl s32) (ex_neq rfl rfl) ?_
          refine ow_val rfl rfl (ex_pickt rfl s32 rfl) ?_
          refine ow_val rfl rfl (ex_assign rfl) ?_
          refine ow_nil ?_
          refine qw_seq ?_
          refine cw_cond rfl (fun c28 => ?_) (fun c28 => ?_)
          ·
            refine cw_skip ?_
            exact qw_meet (subL_meet 9 28 (lkv rfl (by clear hkA hkB; first | rfl | (simp only [*, Bool.false_or, Bool.true_or, Bool.or_false, Bool.or_true, Bool.true_and, Bool.false_and, Bool.and_true, Bool.and_false]; done) | (simp_all; done) | (simp_all <;> omega))) rfl rfl) (fun w h => h)
          ·
            refine cw_region ?_
            refine ow_val rfl rfl (ex_field rfl) ?_
            refine ow_val rfl rfl (ex_load1 rfl (by first | exact ld_own1 0 rfl rfl | exact ld_own1 1 rfl rfl | exact ld_own1 2 rfl rfl | exact ld_own1 3 rfl rfl | exact ld_own1 4 rfl rfl | exact ld_own1 5 rfl rfl | exact ld_own1 6 rfl rfl | exact ld_own1 7 rfl rfl | exact ld_ownG1 0 rfl rfl | exact ld_ownG1 1 rfl rfl | exact ld_imm1 (by assumption))) ?_
            refine ow_val rfl rfl (ex_len (ty := 0) rfl) ?_
            refine ow_val rfl rfl (ex_gtr rfl rfl) ?_
            refine ow_val rfl rfl (ex_move rfl) ?_
            refine ow_split (g := some (4, true)) rfl (fun s41 => ?_) (fun s41 => ?_)
            ·
              refine ow_val rfl (gd_go rfl s41) (ex_move rfl) ?_
              refine ow_val rfl (gd_go rfl s41) (ex_not rfl) ?_
              refine ow_val rfl rfl (ex_pickt rfl s41 rfl) ?_
              refine ow_val rfl rfl (ex_move rfl) ?_
              refine ow_split (g := some (8, true)) rfl (fun s45 => ?_) (fun s45 => ?_)
              ·
                refine ow_val rfl (gd_go rfl s45) (ex_field rfl) ?_
                refine ow_val rfl (gd_go rfl s45) (ex_load1 rfl (by first | exact ld_own1 0 rfl rfl | exact ld_own1 1 rfl rfl | exact ld_own1 2 rfl rfl | exact ld_own1 3 rfl rfl | exact ld_own1 4 rfl rfl | exact ld_own1 5 rfl rfl | exact ld_own1 6 rfl rfl | exact ld_own1 7 rfl rfl | exact ld_ownG1 0 rfl rfl | exact ld_ownG1 1 rfl rfl | exact ld_imm1 (by assumption))) ?_
                refine ow_val rfl (gd_go rfl s45) (ex_neq rfl rfl) ?_
                refine ow_val rfl rfl (ex_pickt rfl s45 rfl) ?_
                refine ow_val rfl rfl (ex_assign rfl) ?_
                refine ow_nil ?_
                exact qw_meet (subL_meet 23 28 (lkv rfl (by clear hkA hkB; first | rfl | (simp only [*, Bool.false_or, Bool.true_or, Bool.or_false, Bool.or_true, Bool.true_and, Bool.false_and, Bool.and_true, Bool.and_false]; done) | (simp_all; done) | (simp_all <;> omega))) rfl rfl) (fun w h => h)
              ·
                refine ow_skip rfl (gd_no rfl s45) ?_
                refine ow_skip rfl (gd_no rfl s45) ?_
                refine ow_skip rfl (gd_no rfl s45) ?_
                refine ow_val rfl rfl (ex_pickf rfl s45 rfl) ?_
                refine ow_val rfl rfl (ex_assign rfl) ?_
                refine ow_nil ?_
                exact qw_meet (subL_meet 23 28 (lkv rfl (by clear hkA hkB; first | rfl | (simp only [*, Bool.false_or, Bool.true_or, Bool.or_false, Bool.or_true, Bool.true_and, Bool.false_and, Bool.and_true, Bool.and_false]; done) | (simp_all; done) | (simp_all <;> omega))) rfl rfl) (fun w h => h)
            ·
              refine ow_skip rfl (gd_no rfl s41) ?_
              refine ow_skip rfl (gd_no rfl s41) ?_
              refine ow_val rfl rfl (ex_pickf rfl s41 rfl) ?_
              refine ow_val rfl rfl (ex_move rfl) ?_
              refine ow_skip rfl rfl ?_
              refine ow_skip rfl rfl ?_
              refine ow_skip rfl rfl ?_
              refine ow_val rfl rfl (ex_pick_f rfl rfl) ?_
              refine ow_val rfl rfl (ex_assign rfl) ?_
              refine ow_nil ?_
              exact qw_meet (subL_meet 23 28 (lkv rfl (by clear hkA hkB; first | rfl | (simp only [*, Bool.false_or, Bool.true_or, Bool.or_false, Bool.or_true, Bool.true_and, Bool.false_and, Bool.and_true, Bool.and_false]; done) | (simp_all; done) | (simp_all <;> omega))) rfl rfl) (fun w h => h)
        ·
          refine ow_skip rfl (gd_no rfl s32) ?_
          refine ow_skip rfl (gd_no rfl s32) ?_
          refine ow_skip rfl (gd_no rfl s32) ?_
          refine ow_val rfl rfl (ex_pickf rfl s32 rfl) ?_
          refine ow_val rfl rfl (ex_assign rfl) ?_
          refine ow_nil ?_
          refine qw_seq ?_
          refine cw_cond_f rfl ?_
          refine cw_region ?_
          refine ow_val rfl rfl (ex_field rfl) ?_
          refine ow_val rfl rfl (ex_load1 rfl (by first | exact ld_own1 0 rfl rfl | exact ld_own1 1 rfl rfl | exact ld_own1 2 rfl rfl | exact ld_own1 3 rfl rfl | exact ld_own1 4 rfl rfl | exact ld_own1 5 rfl rfl | exact ld_own1 6 rfl rfl | exact ld_own1 7 rfl rfl | exact ld_ownG1 0 rfl rfl | exact ld_ownG1 1 rfl rfl | exact ld_imm1 (by assumption))) ?_
          refine ow_val rfl rfl (ex_len (ty := 0) rfl) ?_
          refine ow_val rfl rfl (ex_gtr rfl rfl) ?_
          refine ow_val rfl rfl (ex_move rfl) ?_
          refine ow_split (g := some (4, true)) rfl (fun s41 => ?_) (fun s41 => ?_)
          ·
            refine ow_val rfl (gd_go rfl s41) (ex_move rfl) ?_
            refine ow_val rfl (gd_go rfl s41) (ex_not rfl) ?_
            refine ow_val rfl rfl (ex_pickt rfl s41 rfl) ?_
            refine ow_val rfl rfl (ex_move rfl) ?_
            refine ow_split (g := some (8, true)) rfl (fun s45 => ?_) (fun s45 => ?_)
            ·
              refine ow_val rfl (gd_go rfl s45) (ex_field rfl) ?_
              refine ow_val rfl (gd_go rfl s45) (ex_load1 rfl (by first | exact ld_own1 0 rfl rfl | exact ld_own1 1 rfl rfl | exact ld_own1 2 rfl rfl | exact ld_own1 3 rfl rfl | exact ld_own1 4 rfl rfl | exact ld_own1 5 rfl rfl | exact ld_own1 6 rfl rfl | exact ld_own1 7 rfl rfl | exact ld_ownG1 0 rfl rfl | exact ld_ownG1 1 rfl rfl | exact ld_imm1 (by assumption))) ?_
              refine ow_val rfl (gd_go rfl s45) (ex_neq rfl rfl) ?_
              refine ow_val rfl rfl (ex_pickt rfl s45 rfl) ?_
              refine ow_val rfl rfl (ex_assign rfl) ?_
              refine ow_nil ?_
              exact qw_meet (subL_meet 23 28 (lkv rfl (by clear hkA hkB; first | rfl | (simp only [*, Bool.false_or, Bool.true_or, Bool.or_false, Bool.or_true, Bool.true_and, Bool.false_and, Bool.and_true, Bool.and_false]; done) | (simp_all; done) | (simp_all <;> omega))) rfl rfl) (fun w h => h)
            ·
              refine ow_skip rfl (gd_no rfl s45) ?_
              refine ow_skip rfl (gd_no rfl s45) ?_
              refine ow_skip rfl (gd_no rfl s45) ?_
              refine ow_val rfl rfl (ex_pickf rfl s45 rfl) ?_
              refine ow_val rfl rfl (ex_assign rfl) ?_
              refine ow_nil ?_
              exact qw_meet (subL_meet 23 28 (lkv rfl (by clear hkA hkB; first | rfl | (simp only [*, Bool.false_or, Bool.true_or, Bool.or_false, Bool.or_true, Bool.true_and, Bool.false_and, Bool.and_true, Bool.and_false]; done) | (simp_all; done) | (simp_all <;> omega))) rfl rfl) (fun w h => h)
          ·
            refine ow_skip rfl (gd_no rfl s41) ?_
            refine ow_skip rfl (gd_no rfl s41) ?_
            refine ow_val rfl rfl (ex_pickf rfl s41 rfl) ?_
            refine ow_val rfl rfl (ex_move rfl) ?_
            refine ow_skip rfl rfl ?_
            refine ow_skip rfl rfl ?_
            refine ow_skip rfl rfl ?_
            refine ow_val rfl rfl (ex_pick_f rfl rfl) ?_
            refine ow_val rfl rfl (ex_assign rfl) ?_
            refine ow_nil ?_
            exact qw_meet (subL_meet 23 28 (lkv rfl (by clear hkA hkB; first | rfl | (simp only [*, Bool.false_or, Bool.true_or, Bool.or_false, Bool.or_true, Bool.true_and, Bool.false_and, Bool.and_true, Bool.and_false]; done) | (simp_all; done) | (simp_all <;> omega))) rfl rfl) (fun w h => h)
      ·
        refine cw_cond rfl (fun c28 => ?_) (fun c28 => ?_)
        ·
          refine cw_seq ?_
          refine cw_region ?_
          refine ow_val rfl rfl (ex_assign rfl) ?_
          refine ow_nil ?_
          refine qw_seq ?_
          refine cw_ret ?_
          refine qw_block_ret ?_
          refine qw_then_ret ?_
          refine qw_ret1 rfl rfl (fun w' h => ⟨congrArg (fun z => Ending.returned (.bool z)) ?_, h.ag.below⟩)
          symm
          rw [rightD_mk]
          rw [shape_prog hkA hkB, c28]; simp
        ·
          refine cw_cut1 50 (.bool (kB && decide ((ks.length : Int) ≠ 0) || (kA || decide (o = 2)) && decide ((ks.length : Int) ≠ 1) || decide (o = 7) && decide (4 < (ks.length : Int)))) ?_ ?_
          ·
            refine cw_cut1 50 (.bool (kB && decide ((ks.length : Int) ≠ 0))) ?_ ?_
            ·
              refine cw_region ?_
              refine ow_val rfl rfl (ex_field rfl) ?_
              refine ow_val rfl rfl (ex_load1 rfl (by first | exact ld_own1 0 rfl rfl | exact ld_own1 1 rfl rfl | exact ld_own1 2 rfl rfl | exact ld_own1 3 rfl rfl | exact ld_own1 4 rfl rfl | exact ld_own1 5 rfl rfl | exact ld_own1 6 rfl rfl | exact ld_own1 7 rfl rfl | exact ld_ownG1 0 rfl rfl | exact ld_ownG1 1 rfl rfl | exact ld_imm1 (by assumption))) ?_
              refine ow_slit rfl rfl (exw_slit2 rfl rfl rfl rfl) ?_; intro b53
              refine ow_cv rfl rfl (ex_callf rfl (fun w h => callB ((pAmong' (zs := [1, 5]) hkB h.freeze.im (CellsAt.ext_self σ (fun j v hj => by simpa [intsV] using hj)) (by simp))))) ?_
              refine ow_val rfl rfl (ex_move rfl) ?_
              refine ow_split (g := some (4, true)) rfl (fun s55 => ?_) (fun s55 => ?_)
              ·
                refine ow_val rfl (gd_go rfl s55) (ex_move rfl) ?_
                refine ow_val rfl (gd_go rfl s55) (ex_neq rfl rfl) ?_
                refine ow_val rfl rfl (ex_pickt rfl s55 rfl) ?_
                refine ow_val rfl rfl (ex_assign rfl) ?_
                refine ow_mono (fun w h => h.drop (List.sublist_cons_self _ _)) ?_
                refine ow_nil ?_
                exact qw_meet (subL_meet 9 50 (lkv rfl (by clear hkA hkB; first | rfl | (simp only [*, Bool.false_or, Bool.true_or, Bool.or_false, Bool.or_true, Bool.true_and, Bool.false_and, Bool.and_true, Bool.and_false]; done) | (simp_all; done) | (simp_all <;> omega))) rfl rfl) (fun w h => h)
              ·
                refine ow_skip rfl (gd_no rfl s55) ?_
                refine ow_skip rfl (gd_no rfl s55) ?_
                refine ow_val rfl rfl (ex_pickf rfl s55 rfl) ?_
                refine ow_val rfl rfl (ex_assign rfl) ?_
                refine ow_mono (fun w h => h.drop (List.sublist_cons_self _ _)) ?_
                refine ow_nil ?_
                exact qw_meet (subL_meet 9 50 (lkv rfl (by clear hkA hkB; first | rfl | (simp only [*, Bool.false_or, Bool.true_or, Bool.or_false, Bool.or_true, Bool.true_and, Bool.false_and, Bool.and_true, Bool.and_false]; done) | (simp_all; done) | (simp_all <;> omega))) rfl rfl) (fun w h => h)
            ·
              refine cw_cond rfl (fun c50 => ?_) (fun c50 => ?_)
              ·
                refine cw_skip ?_
                exact qw_meet (subL_meet 1 50 (lkv rfl (by clear hkA hkB; first | rfl | (simp only [*, Bool.false_or, Bool.true_or, Bool.or_false, Bool.or_true, Bool.true_and, Bool.false_and, Bool.and_true, Bool.and_false]; done) | (simp_all; done) | (simp_all <;> omega))) rfl rfl) (fun w h => h)
              ·
                refine cw_cut1 50 (.bool ((kA || decide (o = 2)) && decide ((ks.length : Int) ≠ 1))) ?_ ?_
                ·
                  refine cw_region ?_
                  refine ow_val rfl rfl (ex_move rfl) ?_
                  refine ow_val rfl rfl (ex_move rfl) ?_
                  refine ow_split (g := some (1, false)) rfl (fun s60 => ?_) (fun s60 => ?_)
                  ·
                    refine ow_skip rfl (gd_no rfl s60) ?_
                    refine ow_skip rfl (gd_no rfl s60) ?_
                    refine ow_skip rfl (gd_no rfl s60) ?_
                    refine ow_val rfl rfl (ex_pickt rfl s60 rfl) ?_
                    refine ow_val rfl rfl (ex_move rfl) ?_
                    refine ow_val rfl rfl (ex_move rfl) ?_
                    refine ow_val rfl rfl (ex_neq rfl rfl) ?_
                    refine ow_val rfl rfl (ex_pick_t rfl rfl) ?_
                    refine ow_val rfl rfl (ex_assign rfl) ?_
                    refine ow_nil ?_
                    exact qw_meet (subL_meet 11 50 (lkv rfl (by clear hkA hkB; first | rfl | (simp only [*, Bool.false_or, Bool.true_or, Bool.or_false, Bool.or_true, Bool.true_and, Bool.false_and, Bool.and_true, Bool.and_false]; done) | (simp_all; done) | (simp_all <;> omega))) rfl rfl) (fun w h => h)
                  ·
                    refine ow_val rfl (gd_go rfl s60) (ex_field rfl) ?_
                    refine ow_val rfl (gd_go rfl s60) (ex_load1 rfl (by first | exact ld_own1 0 rfl rfl | exact ld_own1 1 rfl rfl | exact ld_own1 2 rfl rfl | exact ld_own1 3 rfl rfl | exact ld_own1 4 rfl rfl | exact ld_own1 5 rfl rfl | exact ld_own1 6 rfl rfl | exact ld_own1 7 rfl rfl | exact ld_ownG1 0 rfl rfl | exact ld_ownG1 1 rfl rfl | exact ld_imm1 (by assumption))) ?_
                    refine ow_val rfl (gd_go rfl s60) (ex_eql rfl rfl) ?_
                    refine ow_val rfl rfl (ex_pickf rfl s60 rfl) ?_
                    refine ow_val rfl rfl (ex_move rfl) ?_
                    refine ow_split (g := some (6, true)) rfl (fun s65 => ?_) (fun s65 => ?_)
                    ·
                      refine ow_val rfl (gd_go rfl s65) (ex_move rfl) ?_
                      refine ow_val rfl (gd_go rfl s65) (ex_neq rfl rfl) ?_
                      refine ow_val rfl rfl (ex_pickt rfl s65 rfl) ?_
                      refine ow_val rfl rfl (ex_assign rfl) ?_
                      refine ow_nil ?_
                      exact qw_meet (subL_meet 11 50 (lkv rfl (by clear hkA hkB; first | rfl | (simp only [*, Bool.false_or, Bool.true_or, Bool.or_false, Bool.or_true, Bool.true_and, Bool.false_and, Bool.and_true, Bool.and_false]; done) | (simp_all; done) | (simp_all <;> omega))) rfl rfl) (fun w h => h)
                    ·
                      refine ow_skip rfl (gd_no rfl s65) ?_
                      refine ow_skip rfl (gd_no rfl s65) ?_
                      refine ow_val rfl rfl (ex_pickf rfl s65 rfl) ?_
                      refine ow_val rfl rfl (ex_assign rfl) ?_
                      refine ow_nil ?_
                      exact qw_meet (subL_meet 11 50 (lkv rfl (by clear hkA hkB; first | rfl | (simp only [*, Bool.false_or, Bool.true_or, Bool.or_false, Bool.or_true, Bool.true_and, Bool.false_and, Bool.and_true, Bool.and_false]; done) | (simp_all; done) | (simp_all <;> omega))) rfl rfl) (fun w h => h)
                ·
                  refine cw_cond rfl (fun c50 => ?_) (fun c50 => ?_)
                  ·
                    refine cw_skip ?_
                    exact qw_meet (subL_meet 2 50 (lkv rfl (by clear hkA hkB; first | rfl | (simp only [*, Bool.false_or, Bool.true_or, Bool.or_false, Bool.or_true, Bool.true_and, Bool.false_and, Bool.and_true, Bool.and_false]; done) | (simp_all; done) | (simp_all <;> omega))) rfl rfl) (fun w h => h)
                  ·
                    refine cw_region ?_
                    refine ow_val rfl rfl (ex_field rfl) ?_
                    refine ow_val rfl rfl (ex_load1 rfl (by first | exact ld_own1 0 rfl rfl | exact ld_own1 1 rfl rfl | exact ld_own1 2 rfl rfl | exact ld_own1 3 rfl rfl | exact ld_own1 4 rfl rfl | exact ld_own1 5 rfl rfl | exact ld_own1 6 rfl rfl | exact ld_own1 7 rfl rfl | exact ld_ownG1 0 rfl rfl | exact ld_ownG1 1 rfl rfl | exact ld_imm1 (by assumption))) ?_
                    refine ow_val rfl rfl (ex_eql rfl rfl) ?_
                    refine ow_val rfl rfl (ex_move rfl) ?_
                    refine ow_split (g := some (3, true)) rfl (fun s72 => ?_) (fun s72 => ?_)
                    ·
                      refine ow_val rfl (gd_go rfl s72) (ex_move rfl) ?_
                      refine ow_val rfl (gd_go rfl s72) (ex_gtr rfl rfl) ?_
                      refine ow_val rfl rfl (ex_pickt rfl s72 rfl) ?_
                      refine ow_val rfl rfl (ex_assign rfl) ?_
                      refine ow_nil ?_
                      exact qw_meet (subL_meet 10 50 (lkv rfl (by clear hkA hkB; first | rfl | (simp only [*, Bool.false_or, Bool.true_or, Bool.or_false, Bool.or_true, Bool.true_and, Bool.false_and, Bool.and_true, Bool.and_false]; done) | (simp_all; done) | (simp_all <;> omega))) rfl rfl) (fun w h => h)
                    ·
                      refine ow_skip rfl (gd_no rfl s72) ?_
                      refine ow_skip rfl (gd_no rfl s72) ?_
                      refine ow_val rfl rfl (ex_pickf rfl s72 rfl) ?_
                      refine ow_val rfl rfl (ex_assign rfl) ?_
                      refine ow_nil ?_
                      exact qw_meet (subL_meet 10 50 (lkv rfl (by clear hkA hkB; first | rfl | (simp only [*, Bool.false_or, Bool.true_or, Bool.or_false, Bool.or_true, Bool.true_and, Bool.false_and, Bool.and_true, Bool.and_false]; done) | (simp_all; done) | (simp_all <;> omega))) rfl rfl) (fun w h => h)
          ·
            refine cw_cond rfl (fun c50 => ?_) (fun c50 => ?_)
            ·
              refine cw_seq ?_
              refine cw_region ?_
              refine ow_val rfl rfl (ex_assign rfl) ?_
              refine ow_nil ?_
              refine qw_seq ?_
              refine cw_ret ?_
              refine qw_block_ret ?_
              refine qw_then_ret ?_
              refine qw_ret1 rfl rfl (fun w' h => ⟨congrArg (fun z => Ending.returned (.bool z)) ?_, h.ag.below⟩)
              symm
              rw [rightD_mk]
              rw [shape_prog hkA hkB, c50]; simp
            ·
              refine cw_cut1 76 (.bool (decide (o < 1) || decide (7 < o))) ?_ ?_
              ·
                refine cw_seq ?_
                refine cw_region ?_
                refine ow_val rfl rfl (ex_field rfl) ?_
                refine ow_val rfl rfl (ex_load1 rfl (by first | exact ld_own1 0 rfl rfl | exact ld_own1 1 rfl rfl | exact ld_own1 2 rfl rfl | exact ld_own1 3 rfl rfl | exact ld_own1 4 rfl rfl | exact ld_own1 5 rfl rfl | exact ld_own1 6 rfl rfl | exact ld_own1 7 rfl rfl | exact ld_ownG1 0 rfl rfl | exact ld_ownG1 1 rfl rfl | exact ld_imm1 (by assumption))) ?_
                refine ow_val rfl rfl (ex_lss rfl rfl) ?_
                refine ow_val rfl rfl (ex_assign rfl) ?_
                refine ow_nil ?_
                refine qw_seq ?_
                refine cw_cond rfl (fun c76 => ?_) (fun c76 => ?_)
                ·
                  refine cw_skip ?_
                  exact qw_meet (subL_meet 4 76 (lkv rfl (by clear hkA hkB; first | rfl | (simp only [*, Bool.false_or, Bool.true_or, Bool.or_false, Bool.or_true, Bool.true_and, Bool.false_and, Bool.and_true, Bool.and_false]; done) | (simp_all; done) | (simp_all <;> omega))) rfl rfl) (fun w h => h)
                ·
                  refine cw_region ?_
                  refine ow_val rfl rfl (ex_field rfl) ?_
                  refine ow_val rfl rfl (ex_load1 rfl (by first | exact ld_own1 0 rfl rfl | exact ld_own1 1 rfl rfl | exact ld_own1 2 rfl rfl | exact ld_own1 3 rfl rfl | exact ld_own1 4 rfl rfl | exact ld_own1 5 rfl rfl | exact ld_own1 6 rfl rfl | exact ld_own1 7 rfl rfl | exact ld_ownG1 0 rfl rfl | exact ld_ownG1 1 rfl rfl | exact ld_imm1 (by assumption))) ?_
                  refine ow_val rfl rfl (ex_gtr rfl rfl) ?_
                  refine ow_val rfl rfl (ex_assign rfl) ?_
                  refine ow_nil ?_
                  exact qw_meet (subL_meet 8 76 (lkv rfl (by clear hkA hkB; first | rfl | (simp only [*, Bool.false_or, Bool.true_or, Bool.or_false, Bool.or_true, Bool.true_and, Bool.false_and, Bool.and_true, Bool.and_false]; done) | (simp_all; done) | (simp_all <;> omega))) rfl rfl) (fun w h => h)
              ·
                refine cw_cond rfl (fun c76 => ?_) (fun c76 => ?_)
                ·
                  refine cw_seq ?_
                  refine cw_region ?_
                  refine ow_val rfl rfl (ex_assign rfl) ?_
                  refine ow_nil ?_
                  refine qw_seq ?_
                  refine cw_ret ?_
                  refine qw_block_ret ?_
                  refine qw_then_ret ?_
                  refine qw_ret1 rfl rfl (fun w' h => ⟨congrArg (fun z => Ending.returned (.bool z)) ?_, h.ag.below⟩)
                  symm
                  rw [rightD_mk]
                  rw [shape_prog hkA hkB, c76]; simp
                ·
                  refine cw_skip ?_
                  refine qw_block_normal ?_
                  refine qw_seq ?_
                  refine cw_seq ?_
                  have hdp : deep < 16 := by simp at c15; omega
                  have hsh : shape o n d ks = true := by
                    rw [shape_prog hkA hkB]
                    simp only [Bool.or_eq_false_iff] at c15
                    rw [c28, c50, c76, c15.2.1.1, c15.2.1.2, c15.2.2]
                    rfl
                  refine cw_region ?_
                  refine ow_val rfl rfl (ex_makeFunc rfl rfl) ?_
                  refine ow_val rfl rfl (ex_assign rfl) ?_
                  refine ow_nil ?_
                  refine qw_seq ?_
                  refine cw_seq ?_
                  refine cw_region ?_
                  refine ow_val rfl rfl (ex_field rfl) ?_
                  refine ow_val rfl rfl (ex_load1 rfl (by first | exact ld_own1 0 rfl rfl | exact ld_own1 1 rfl rfl | exact ld_own1 2 rfl rfl | exact ld_own1 3 rfl rfl | exact ld_own1 4 rfl rfl | exact ld_own1 5 rfl rfl | exact ld_own1 6 rfl rfl | exact ld_own1 7 rfl rfl | exact ld_ownG1 0 rfl rfl | exact ld_ownG1 1 rfl rfl | exact ld_imm1 (by assumption))) ?_
                  refine ow_val rfl rfl (ex_move rfl) ?_
                  refine ow_cv rfl rfl (ex_callf rfl (fun w h => callB ((pContainsFunc (p := fun k => !rightD k (deep + 1)) (fun k hk' {_ _ _} hi' ht' hb' => pRight1 (by omega) (fun hi'' ht'' => ih k hk' hi'' ht'' (by omega)) hi' ht' hb') (σ := ext σ b3 (.cells #[.int .i64 (deep : Int)] 3)) h.freeze.im (hk.le (le_ext (h.fresh (List.mem_append_left [] List.mem_cons_self)))) (CellsAt.ext_self σ (fun j v hj => by simpa using hj)))))) ?_
                  refine ow_val rfl rfl (ex_not rfl) ?_
                  refine ow_val rfl rfl (ex_move rfl) ?_
                  refine ow_split (g := some (5, true)) rfl (fun s89 => ?_) (fun s89 => ?_)
                  ·
                    refine ow_val rfl (gd_go rfl s89) (ex_field rfl) ?_
                    refine ow_val rfl (gd_go rfl s89) (ex_load1 rfl (by first | exact ld_own1 0 rfl rfl | exact ld_own1 1 rfl rfl | exact ld_own1 2 rfl rfl | exact ld_own1 3 rfl rfl | exact ld_own1 4 rfl rfl | exact ld_own1 5 rfl rfl | exact ld_own1 6 rfl rfl | exact ld_own1 7 rfl rfl | exact ld_ownG1 0 rfl rfl | exact ld_ownG1 1 rfl rfl | exact ld_imm1 (by assumption))) ?_
                    refine ow_cv rfl (gd_go rfl s89) (ex_callf rfl (fun w h => callB ((pIsSorted h.im hk)))) ?_
                    refine ow_val rfl rfl (ex_pickt rfl s89 rfl) ?_
                    refine ow_val rfl rfl (ex_assign rfl) ?_
                    refine ow_nil ?_
                    refine qw_seq ?_
                    refine cw_ret ?_
                    refine qw_ret1 rfl rfl (fun w' h => ⟨congrArg (fun z => Ending.returned (.bool z)) ?_, h.ag.below⟩)
                    symm
                    rw [rightD_mk]
                    rw [hsh, rightsD_any, s89]
                    simp [hdp]
                  ·
                    refine ow_skip rfl (gd_no rfl s89) ?_
                    refine ow_skip rfl (gd_no rfl s89) ?_
                    refine ow_skip rfl (gd_no rfl s89) ?_
                    refine ow_val rfl rfl (ex_pickf rfl s89 rfl) ?_
                    refine ow_val rfl rfl (ex_assign rfl) ?_
                    refine ow_nil ?_
                    refine qw_seq ?_
                    refine cw_ret ?_
                    refine qw_ret1 rfl rfl (fun w' h => ⟨congrArg (fun z => Ending.returned (.bool z)) ?_, h.ag.below⟩)
                    symm
                    rw [rightD_mk]
                    rw [rightsD_any, s89]
                    simp

set_option maxHeartbeats 400000 in
theorem pRight (t : T) {σ : Hp} {cs : List Value} {w : World} (hi : Imm σ w) (ht : TermC σ cs t) : Calls Tryd.prog 46 #[.agg cs.toArray] w fun e w' => e = .returned (.bool (right t)) ∧ Below w.heap.size w w' := by
  have ht0 := ht
  obtain ⟨dv, kv, rfl, ho, hn, hd, hk⟩ := ht.opn
  refine enter (St w (fun _ => False) σ [] []) Tryd.func46 rfl Tryd.ntmps46 rfl (St.start hi) ?_
  refine cw_seq ?_
  refine cw_region ?_
  refine ow_blk rfl rfl (exw_box rfl) ?_; intro b1
  refine ow_val rfl rfl (ex_assign rfl) ?_
  refine ow_nil ?_
  refine qw_seq ?_
  refine cw_seq ?_
  refine cw_region ?_
  refine ow_val rfl rfl (ex_loadR rfl (by first | exact ld_ownN 0 rfl rfl | exact ld_ownN 1 rfl rfl | exact ld_ownN 2 rfl rfl | exact ld_ownN 3 rfl rfl | exact ld_ownN 4 rfl rfl | exact ld_ownN 5 rfl rfl | exact ld_ownN 6 rfl rfl | exact ld_ownN 7 rfl rfl | exact ld_ownGN 0 rfl rfl | exact ld_ownGN 1 rfl rfl | exact ld_immT (by assumption) (by assumption))) ?_
  refine ow_cv rfl rfl (ex_callf rfl (fun w h => callB ((pRightD t (deep := 0) h.im ht0 (by omega))))) ?_
  refine ow_val rfl rfl (ex_assign rfl) ?_
  refine ow_nil ?_
  refine qw_seq ?_
  refine cw_ret ?_
  refine qw_ret1 rfl rfl (fun w' h => ⟨rfl, h.ag.below⟩)
end Go.Proofs.YtnjomdjkbbhdoaaDoor
