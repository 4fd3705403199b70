/-
  Walks: what is made of handles.
  No condition.
-/
import Derived.Test.YtnjomdjkbbhdoaaDoorWd4
import Derived.Test.YtnjomdjkbbhdoaaDoorMC
namespace Go.Proofs.YtnjomdjkbbhdoaaDoor
open Go.RowKit
set_option linter.unusedVariables false
set_option linter.unusedSimpArgs false
set_option maxRecDepth 100000

set_option maxHeartbeats 400000 in
theorem pOf1 {op : Int} {d : List UInt8} {ls : List T} {lv v : Value} {b2 b3 : Nat} {σ : Hp} {w : World} (hi : Imm σ w) (hl : KidsV σ lv ls) (h2 : CellsAt σ b2 0 [.int .i64 op]) (h3 : CellsAt σ b3 0 [v]) (hd : BytesV σ v d) (hop : -9223372036854775808 ≤ op ∧ op ≤ 9223372036854775807) : Calls Tryd.prog 73 #[lv, .pointer (some ⟨b2, 0, none⟩), .pointer (some ⟨b3, 0, none⟩)] w (GiveR (RepTB (ofT op d ls).1 (ofT op d ls).2) σ w) := by
  obtain ⟨p, c, rfl, _, _⟩ := hl.slice
  obtain ⟨pd, cd, rfl, _, _⟩ := hd.slice
  have htp : TermC σ [.int .i64 op, .int .i64 0, .slice pd d.length cd, .slice p ls.length c] (.mk op 0 d ls) := TermC.mk hop (by omega) hd hl
  refine enter (St w (fun _ => False) σ [] []) Tryd.func73 rfl Tryd.ntmps73 rfl (St.start hi) ?_
  refine cw_seq ?_
  refine cw_region ?_
  refine ow_blk rfl rfl exw_alloc ?_; intro b4
  refine ow_val rfl rfl (ex_assign rfl) ?_
  refine ow_nil ?_
  refine qw_seq ?_
  refine cw_seq ?_
  refine cw_region ?_
  refine ow_val rfl rfl (ex_load1 rfl (by first | exact ld_own1 0 rfl rfl | exact ld_own1 1 rfl rfl | exact ld_own1 2 rfl rfl | exact ld_own1 3 rfl rfl | exact ld_own1 4 rfl rfl | exact ld_own1 5 rfl rfl | exact ld_own1 6 rfl rfl | exact ld_own1 7 rfl rfl | exact ld_ownG1 0 rfl rfl | exact ld_ownG1 1 rfl rfl | exact ld_imm1 (by assumption))) ?_
  refine ow_val rfl rfl (ex_load1 rfl (by first | exact ld_own1 0 rfl rfl | exact ld_own1 1 rfl rfl | exact ld_own1 2 rfl rfl | exact ld_own1 3 rfl rfl | exact ld_own1 4 rfl rfl | exact ld_own1 5 rfl rfl | exact ld_own1 6 rfl rfl | exact ld_own1 7 rfl rfl | exact ld_ownG1 0 rfl rfl | exact ld_ownG1 1 rfl rfl | exact ld_imm1 (by assumption))) ?_
  refine ow_val rfl rfl (ex_move rfl) ?_
  refine ow_val rfl rfl (ex_build (parts := [(0, _), (2, _), (3, _)]) (cells := #[.int .i64 op, .int .i64 0, .slice pd d.length cd, .slice p ls.length c]) rfl (by kernel_rfl)) ?_
  refine ow_u rfl (exu_storeN 0 (cs := [.int .i64 op, .int .i64 0, .slice pd d.length cd, .slice p ls.length c]) rfl rfl rfl rfl htp.one rfl) ?_
  refine ow_val rfl rfl (ex_assign rfl) ?_
  refine ow_nil ?_
  refine qw_seq ?_
  refine cw_ret ?_
  refine qw_retC1 rfl rfl (ld_ownN 0 rfl rfl) rfl (fun w' h => ?_)
  exact h.gives (Le.refl _) (Fresh.refl _ _) ⟨_, rfl, htp⟩

set_option maxHeartbeats 400000 in
theorem pOf {op : Int} {d : List UInt8} {v : Value} {σ : Hp} {w : World} (hi : Imm σ w) (hd : BytesV σ v d) : Calls Tryd.prog 55 #[.int .i64 op, v] w (GiveR (RepOf 73 op d) σ w) := by
  obtain ⟨pd, cd, rfl, _, _⟩ := hd.slice
  refine enter (St w (fun _ => False) σ [] []) Tryd.func55 rfl Tryd.ntmps55 rfl (St.start hi) ?_
  refine cw_seq ?_
  refine cw_region ?_
  refine ow_blk rfl rfl (exw_box rfl) ?_; intro b2
  refine ow_blk rfl rfl (exw_box rfl) ?_; intro b3
  refine ow_val rfl rfl (ex_assign rfl) ?_
  refine ow_nil ?_
  refine qw_seq ?_
  refine cw_seq ?_
  refine cw_region ?_
  refine ow_val rfl rfl (ex_makeFunc rfl rfl) ?_
  refine ow_val rfl rfl (ex_assign rfl) ?_
  refine ow_nil ?_
  refine qw_seq ?_
  refine cw_ret ?_
  refine qw_ret1 rfl rfl (fun w' h => ?_)
  obtain ⟨σ1, l1, f1, e1, h1⟩ := St.frz1 h id
  obtain ⟨σ2, l2, f2, e2, h2⟩ := St.frz1 h1 id
  exact h2.gives (l1.trans l2) (f1.trans f2) ⟨b2, b3, _, rfl, CellsAt.of1 e2 rfl, CellsAt.of1 (l2 _ _ e1) rfl, hd.le (l1.trans l2)⟩

set_option maxHeartbeats 400000 in
theorem pAtom1 {n : Int} {ls : List T} {lv : Value} {b1 : Nat} {σ : Hp} {w : World} (hi : Imm σ w) (hl : KidsV σ lv ls) (h1 : CellsAt σ b1 0 [.int .i64 n]) (hn : -9223372036854775808 ≤ n ∧ n ≤ 9223372036854775807) : Calls Tryd.prog 72 #[lv, .pointer (some ⟨b1, 0, none⟩)] w (GiveR (RepTB (.mk 1 n [] []) true) σ w) := by
  obtain ⟨p, c, rfl, _, _⟩ := hl.slice
  have htp : TermC σ [.int .i64 1, .int .i64 n, .slice none 0 0, .slice none 0 0] (.mk 1 n [] []) := TermC.mk (by omega) hn (BytesV.nil σ) (KidsV.nil σ)
  refine enter (St w (fun _ => False) σ [] []) Tryd.func72 rfl Tryd.ntmps72 rfl (St.start hi) ?_
  refine cw_seq ?_
  refine cw_region ?_
  refine ow_blk rfl rfl exw_alloc ?_; intro b3
  refine ow_val rfl rfl (ex_assign rfl) ?_
  refine ow_nil ?_
  refine qw_seq ?_
  refine cw_seq ?_
  refine cw_region ?_
  refine ow_val rfl rfl (ex_load1 rfl (by first | exact ld_own1 0 rfl rfl | exact ld_own1 1 rfl rfl | exact ld_own1 2 rfl rfl | exact ld_own1 3 rfl rfl | exact ld_own1 4 rfl rfl | exact ld_own1 5 rfl rfl | exact ld_own1 6 rfl rfl | exact ld_own1 7 rfl rfl | exact ld_ownG1 0 rfl rfl | exact ld_ownG1 1 rfl rfl | exact ld_imm1 (by assumption))) ?_
  refine ow_val rfl rfl (ex_build (parts := [(0, _), (1, _)]) (cells := #[.int .i64 1, .int .i64 n, .slice none 0 0, .slice none 0 0]) rfl (by kernel_rfl)) ?_
  refine ow_u rfl (exu_storeN 0 (cs := [.int .i64 1, .int .i64 n, .slice none 0 0, .slice none 0 0]) rfl rfl rfl rfl htp.one rfl) ?_
  refine ow_val rfl rfl (ex_assign rfl) ?_
  refine ow_nil ?_
  refine qw_seq ?_
  refine cw_ret ?_
  refine qw_retC1 rfl rfl (ld_ownN 0 rfl rfl) rfl (fun w' h => ?_)
  exact h.gives (Le.refl _) (Fresh.refl _ _) ⟨_, rfl, htp⟩

set_option maxHeartbeats 400000 in
theorem pPow1 {x y : T} {lv : Value} {σ : Hp} {w : World} (hi : Imm σ w) (hl : KidsV σ lv [x, y]) : Calls Tryd.prog 60 #[lv] w (GiveR (RepTB (powG [x, y]).1 (powG [x, y]).2) σ w) := by
  obtain ⟨bk, f, c, c0, rfl, hc, hc0, ht0⟩ := hl.get 0 (by simp)
  obtain ⟨bk', f', c', c1, e1, _, hc1, ht1⟩ := hl.get 1 (by simp)
  cases e1
  simp only [List.getElem_cons_zero, List.getElem_cons_succ] at ht0 ht1
  refine enter (St w (fun _ => False) σ [] []) Tryd.func60 rfl Tryd.ntmps60 rfl (St.start hi) ?_
  refine cw_seq ?_
  refine cw_region ?_
  refine ow_blk rfl rfl exw_alloc ?_; intro b2
  refine ow_val rfl rfl (ex_assign rfl) ?_
  refine ow_nil ?_
  refine qw_seq ?_
  refine cw_seq ?_
  refine flow_soundT 6 (by kernel_rfl) ?_
  refine flow_val rfl (ex_move rfl) ?_
  refine flow_val rfl (ex_index_nat (i := 0) rfl rfl (by simp)) ?_
  refine flow_val rfl (ex_loadR rfl (ld_immT hc0 ht0)) ?_
  refine flow_val rfl (ex_move rfl) ?_
  refine flow_val rfl (ex_index_nat (i := 1) rfl rfl (by simp)) ?_
  refine flow_val rfl (ex_loadR rfl (ld_immT hc1 ht1)) ?_
  refine flow_nilT ?_
  refine fint_is ?_
  refine fint_is ?_
  refine fint_is ?_
  refine fint_is ?_
  refine fint_is ?_
  refine fint_is ?_
  refine fint_nil ?_
  refine any_one (i := 6) (by kernel_rfl) ?_
  refine next_cr rfl rfl (ex_callf rfl (fun w h => callR (pPow h.im ht0 ht1))) (fun v10 τ hl hf hr10 => ?_)
  obtain ⟨c10, rfl, ht10⟩ := hr10
  have ht10' := ht10
  obtain ⟨d10, k10, rfl, _, _, _, _⟩ := ht10'.opn
  refine any_two (i := 7) (j := 8) (by kernel_rfl) ?_ ?_
  ·
    refine next_val rfl rfl (ex_extract rfl rfl) ?_
    refine any_one (i := 8) (by kernel_rfl) ?_
    refine next_val rfl rfl (ex_extract rfl rfl) ?_
    refine any_one (i := 9) (by kernel_rfl) ?_
    refine next_u rfl (exu_storeN 0 rfl rfl rfl rfl ht10.one rfl) ?_
    refine any_one (i := 10) (by kernel_rfl) ?_
    refine next_val rfl rfl (ex_assign rfl) ?_
    refine any_done (by kernel_rfl) ?_
    refine qw_seq ?_
    refine cw_ret ?_
    refine qw_retC1 rfl rfl (ld_ownN 0 rfl rfl) rfl (fun w' h => ?_)
    exact h.gives hl hf ⟨_, rfl, ht10⟩
  ·
    refine next_val rfl rfl (ex_extract rfl rfl) ?_
    refine any_one (i := 7) (by kernel_rfl) ?_
    refine next_val rfl rfl (ex_extract rfl rfl) ?_
    refine any_one (i := 9) (by kernel_rfl) ?_
    refine next_u rfl (exu_storeN 0 rfl rfl rfl rfl ht10.one rfl) ?_
    refine any_one (i := 10) (by kernel_rfl) ?_
    refine next_val rfl rfl (ex_assign rfl) ?_
    refine any_done (by kernel_rfl) ?_
    refine qw_seq ?_
    refine cw_ret ?_
    refine qw_retC1 rfl rfl (ld_ownN 0 rfl rfl) rfl (fun w' h => ?_)
    exact h.gives hl hf ⟨_, rfl, ht10⟩

set_option maxHeartbeats 400000 in
theorem pMade {F : FuncId} [FnT Tryd.prog F] {caps : List Value} {g : List T → T × Bool} {hs : List Int} {b : Nat} {ts : List T} {hv : Value} {σ : Hp} {K : List (Nat × Obj)} {w : World} (hi : Has σ K w) (htab : TabC Tryd.prog σ) (hvk : VaultK 68 30 b ts σ K) (hz : IntsV σ hv hs) (hlen : hs.length ≤ 4)
    (hof : ∀ {σ' : Hp} {w' : World} {lv : Value} {l : List T}, Le σ σ' → Imm σ' w' → KidsV σ' lv l → l.length = hs.length → Calls Tryd.prog F (lv :: caps).toArray w' (GiveR (RepTB (g l).1 (g l).2) σ' w')) :
    Calls Tryd.prog 54 #[.pointer (some ⟨b, 0, none⟩), .func (.func F) #[] caps.toArray, hv] w (GiveK (fun σ' u K' => u = .tuple #[.int .i64 (madeV ts g hs).1, .int .i64 (madeV ts g hs).2.1] ∧ VaultK 68 30 b (madeV ts g hs).2.2 σ' K') σ K w) := by
  obtain ⟨pz, cz, rfl, hcz, hsrc⟩ := hz
  refine enter (St w (keysOf K) σ [] K) Tryd.func54 rfl Tryd.ntmps54 rfl (Has.start hi) ?_
  refine cw_seq ?_
  refine cw_region ?_
  refine ow_val rfl rfl (ex_assign rfl) ?_
  refine ow_val rfl rfl (ex_assign rfl) ?_
  refine ow_nil ?_
  refine qw_seq ?_
  refine cw_seq ?_
  refine cw_region ?_
  refine ow_val rfl rfl (ex_assign rfl) ?_
  refine ow_nil ?_
  refine qw_seq ?_
  refine cw_seq ?_
  refine cw_seq ?_
  refine cw_region ?_
  refine ow_val rfl rfl (ex_move rfl) ?_
  refine ow_val rfl rfl (ex_ptrnil rfl) ?_
  refine ow_nil ?_
  refine qw_seq ?_
  refine cw_cond rfl (fun c16 => ?_) (fun c16 => ?_)
  ·
    simp at c16
  ·
    refine cw_skip ?_
    refine qw_seq ?_
    refine cw_seq ?_
    refine cw_seq ?_
    refine cw_region ?_
    refine ow_val rfl rfl (ex_move rfl) ?_
    refine ow_val rfl rfl (ex_len (ty := 0) rfl) ?_
    refine ow_val rfl rfl (ex_move rfl) ?_
    refine ow_nil ?_
    refine qw_seq ?_
    refine cw_block ?_
    refine cw_loop5 (fun (l : List T) (v8 : Value) (xs : List Value) (Gs : List (Nat × Obj)) (τ : Hp) => [(0, .pointer (some ⟨b, 0, none⟩)), (1, .func (.func F) #[] caps.toArray), (8, v8), (17, .slice pz hs.length cz), (18, .int .i64 (hs.length : Int)), (19, .int .i64 (l.length : Int))]) (fun l v8 xs Gs τ => l.length ≤ hs.length ∧ Le σ τ ∧ Fresh σ τ w ∧ OwnSl 30 4 v8 l.length xs Gs ∧ RowC τ xs l ∧ gatherT ts (hs.take l.length) = some l) (fun l v8 xs Gs τ => τ) (fun l v8 xs Gs τ => Gs ++ K) (fun l _ _ _ _ => hs.length - l.length) [] (.slice none 0 0) [] [] σ (subL_cons (lkv rfl (by first | rfl | simp)) (subL_cons (lkv rfl (by first | rfl | simp)) (subL_cons (lkv rfl (by first | rfl | simp)) (subL_cons (lkv rfl (by first | rfl | simp)) (subL_cons (lkv rfl (by first | rfl | simp)) (subL_cons (lkv rfl (by first | rfl | simp)) (subL_nil _))))))) ⟨Nat.zero_le _, Le.refl _, Fresh.refl _ _, OwnSl.nil _ _, rfl, rfl⟩ (fun w h => h) ?_
    intro l v8 xs Gs τ ⟨hle, hl, hf, hO, hrow, hgl⟩
    refine cw_seq ?_
    refine cw_region ?_
    refine ow_val rfl rfl (ex_lss rfl rfl) ?_
    refine ow_nil ?_
    refine qw_seq ?_
    refine cw_seq ?_
    refine cw_cond rfl (fun c20 => ?_) (fun c20 => ?_)
    ·
      refine cw_skip ?_
      refine qw_seq ?_
      refine cw_seq ?_
      refine cw_block ?_
      refine cw_seq ?_
      have hlt : l.length < hs.length := by have := of_decide_eq_true c20; omega
      obtain ⟨bz, oz, rfl, hcb⟩ := hsrc.resolve_left (fun e => by subst e; simp at hlt)
      have hgs := gatherT_snoc hlt hgl
      refine cw_region ?_
      refine ow_val rfl rfl (ex_index_nat rfl rfl (by omega)) ?_
      refine ow_val rfl rfl (ex_load1 rfl (ld_imm1 ((hcb.le hl).int hlt))) ?_
      refine ow_val rfl rfl (ex_assign rfl) ?_
      refine ow_nil ?_
      refine qw_seq ?_
      refine cw_seq ?_
      refine cw_region ?_
      refine ow_val rfl rfl (ex_move rfl) ?_
      refine ow_val rfl rfl (ex_move rfl) ?_
      refine ow_cr rfl rfl (ex_callf rfl (fun w h => callR (pTerm (h.permG List.perm_append_comm).has (hvk.le hl)))) (fun v26 τ26 hl26 hf26 hr26 => ?_)
      obtain ⟨c26, rfl, ht26⟩ := hr26
      have ht26' := ht26
      obtain ⟨d26, k26, rfl, _, _, _, _⟩ := ht26'.opn
      refine ow_val rfl rfl (ex_move rfl) ?_
      refine ow_val rfl rfl (ex_extract rfl rfl) ?_
      refine ow_val rfl rfl (ex_extract rfl rfl) ?_
      refine ow_blk rfl rfl exw_alloc ?_; intro b11
      refine ow_u rfl (exu_storeN 0 rfl rfl rfl rfl ht26.one rfl) ?_
      refine ow_val rfl rfl (ex_assign rfl) ?_
      refine ow_nil ?_
      refine qw_seq ?_
      refine cw_seq ?_
      refine cw_seq ?_
      refine cw_region ?_
      refine ow_val rfl rfl (ex_move rfl) ?_
      refine ow_val rfl rfl (ex_not rfl) ?_
      refine ow_nil ?_
      refine qw_seq ?_
      refine cw_cond rfl (fun c30 => ?_) (fun c30 => ?_)
      ·
        have hbad : ¬ (termV ts hs[l.length]).2 = true := by simpa using c30
        rw [if_neg hbad] at hgs
        have hall := gatherT_bad hgs
        refine cw_seq ?_
        refine cw_region ?_
        refine ow_val rfl rfl (ex_assign rfl) ?_
        refine ow_val rfl rfl (ex_assign rfl) ?_
        refine ow_nil ?_
        refine qw_seq ?_
        refine cw_ret ?_
        refine qw_then_ret ?_
        refine qw_block_ret ?_
        refine qw_then_ret ?_
        refine qw_then_ret ?_
        refine qw_block_ret ?_
        refine qw_then_ret ?_
        refine qw_ret2 rfl rfl rfl (fun w' h => ?_)
        rw [madeV_none hall]
        exact ((h.drop (List.nil_sublist _)).dropG (List.sublist_append_right _ _)).givesK (hl.trans hl26) (hf.trans hf26) ⟨rfl, hvk.le (hl.trans hl26)⟩
      ·
        have hgood : (termV ts hs[l.length]).2 = true := by simpa using c30
        rw [if_pos hgood] at hgs
        refine cw_skip ?_
        refine qw_seq ?_
        refine cw_region ?_
        refine ow_val rfl rfl (ex_move rfl) ?_
        refine ow_val rfl rfl (ex_loadR rfl (by first | exact ld_ownN 0 rfl rfl | exact ld_ownN 1 rfl rfl | exact ld_ownN 2 rfl rfl | exact ld_ownN 3 rfl rfl | exact ld_ownN 4 rfl rfl | exact ld_ownN 5 rfl rfl | exact ld_ownN 6 rfl rfl | exact ld_ownN 7 rfl rfl | exact ld_ownGN 0 rfl rfl | exact ld_ownGN 1 rfl rfl | exact ld_immT (by assumption) (by assumption))) ?_
        refine ow_slit rfl rfl (exw_slit1 rfl rfl) ?_; intro b33
        refine ow_app rfl rfl (exw_append (news := [.int .i64 (termV ts hs[l.length]).1.op, .int .i64 (termV ts hs[l.length]).1.num, d26, k26]) rfl rfl hO rfl (.inr ⟨_, _, rfl, (ld_ownN (k := 4) 0 rfl rfl).2⟩) ht26.one (by unfold maxLen; omega) (by omega)) (fun v34 G34 hO34 hz34 => ?_)
        refine ow_val rfl rfl (ex_assign rfl) ?_
        refine ow_nil ?_
        refine qw_block_normal ?_
        refine qw_seq ?_
        refine cw_region ?_
        refine ow_val rfl rfl (ex_addi (z := ((l.length + 1 : Nat) : Int)) rfl rfl (by omega) (by omega) (by omega)) ?_
        refine ow_val rfl rfl (ex_move rfl) ?_
        refine ow_nil ?_
        refine qw_round5 (l ++ [(termV ts hs[l.length]).1]) v34 _ G34 τ26 (by simp; omega) (subL_cons (lkv rfl (by first | rfl | simp)) (subL_cons (lkv rfl (by first | rfl | simp)) (subL_cons (lkv rfl (by first | rfl | simp)) (subL_cons (lkv rfl (by first | rfl | simp)) (subL_cons (lkv rfl (by first | rfl | simp)) (subL_cons (lkv rfl (by first | rfl | simp)) (subL_nil _))))))) ⟨by simp; omega, hl.trans hl26, hf.trans hf26, ?_, (hrow.le hl26).append (RowC.one ht26), ?_⟩ (fun w h => h.drop (List.nil_sublist _))
        · rw [List.length_append]; exact hO34
        · rw [List.length_append]; exact hgs
    ·
      refine cw_exit ?_
      refine qw_then_exit ?_
      refine qw_then_exit ?_
      refine qw_block_exit ?_
      refine qw_seq ?_
      refine cw_seq ?_
      have hfull : l.length = hs.length := by have := of_decide_eq_false c20; omega
      rw [hfull, List.take_length] at hgl
      refine cw_frzGK hO hrow (by unfold maxKids; omega) (fun σ5 hl5 hf5 hks => ?_)
      have hks' := hks
      obtain ⟨p8, c8, rfl, _, _⟩ := hks'.slice
      refine cw_region ?_
      refine ow_val rfl rfl (ex_move rfl) ?_
      refine ow_val rfl rfl (ex_move rfl) ?_
      refine ow_cr rfl rfl (ex_call (f := F) (cs := caps) rfl rfl (fun w h => callR (hof (hl.trans hl5) h.im hks hfull))) (fun v39 τ39 hl39 hf39 hr39 => ?_)
      obtain ⟨c39, rfl, ht39⟩ := hr39
      have ht39' := ht39
      obtain ⟨d39, k39, rfl, _, _, _, _⟩ := ht39'.opn
      refine ow_val rfl rfl (ex_move rfl) ?_
      refine ow_val rfl rfl (ex_extract rfl rfl) ?_
      refine ow_val rfl rfl (ex_extract rfl rfl) ?_
      refine ow_blk rfl rfl exw_alloc ?_; intro b13
      refine ow_u rfl (exu_storeN 0 rfl rfl rfl rfl ht39.one rfl) ?_
      refine ow_val rfl rfl (ex_assign rfl) ?_
      refine ow_nil ?_
      refine qw_seq ?_
      refine cw_seq ?_
      refine cw_seq ?_
      refine cw_region ?_
      refine ow_val rfl rfl (ex_move rfl) ?_
      refine ow_val rfl rfl (ex_not rfl) ?_
      refine ow_nil ?_
      refine qw_seq ?_
      refine cw_cond rfl (fun c43 => ?_) (fun c43 => ?_)
      ·
        have hng : ¬ (g l).2 = true := by simpa using c43
        refine cw_seq ?_
        refine cw_region ?_
        refine ow_val rfl rfl (ex_assign rfl) ?_
        refine ow_val rfl rfl (ex_assign rfl) ?_
        refine ow_nil ?_
        refine qw_seq ?_
        refine cw_ret ?_
        refine qw_then_ret ?_
        refine qw_ret2 rfl rfl rfl (fun w' h => ?_)
        rw [madeV_some hgl, if_neg hng]
        exact (h.drop (List.nil_sublist _)).givesK ((hl.trans hl5).trans hl39) ((hf.trans hf5).trans hf39) ⟨rfl, hvk.le ((hl.trans hl5).trans hl39)⟩
      ·
        have hyg : (g l).2 = true := by simpa using c43
        have hl9 := (hl.trans hl5).trans hl39
        refine cw_skip ?_
        refine qw_seq ?_
        refine cw_seq ?_
        refine cw_region ?_
        refine ow_val rfl rfl (ex_move rfl) ?_
        refine ow_val rfl rfl (ex_loadR rfl (by first | exact ld_ownN 0 rfl rfl | exact ld_ownN 1 rfl rfl | exact ld_ownN 2 rfl rfl | exact ld_ownN 3 rfl rfl | exact ld_ownN 4 rfl rfl | exact ld_ownN 5 rfl rfl | exact ld_ownN 6 rfl rfl | exact ld_ownN 7 rfl rfl | exact ld_ownGN 0 rfl rfl | exact ld_ownGN 1 rfl rfl | exact ld_immT (by assumption) (by assumption))) ?_
        refine ow_ckE rfl rfl (ex_callf rfl (fun w h => pIntern (g l).1 h.hasE (htab.le hl9) (hvk.le hl9) ht39)) (fun v46 τ46 K46 hl46 hf46 hr46 => ?_)
        obtain ⟨rfl, hv46⟩ := hr46
        refine ow_val rfl rfl (ex_extract rfl rfl) ?_
        refine ow_val rfl rfl (ex_extract rfl rfl) ?_
        refine ow_val rfl rfl (ex_assign rfl) ?_
        refine ow_val rfl rfl (ex_assign rfl) ?_
        refine ow_nil ?_
        refine qw_seq ?_
        refine cw_ret ?_
        refine qw_ret2 rfl rfl rfl (fun w' h => ?_)
        rw [madeV_some hgl, if_pos hyg]
        exact (h.drop (List.nil_sublist _)).givesK (hl9.trans hl46) (((hf.trans hf5).trans hf39).trans hf46) ⟨rfl, hv46⟩
end Go.Proofs.YtnjomdjkbbhdoaaDoor
