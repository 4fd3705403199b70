/-
  What the law VaultTellsUpto needs, part 3.
  No condition.
-/
import Derived.Test.YtnjomdjkbbhdoaaDoorP2
set_option linter.unusedVariables false
set_option linter.unusedSimpArgs false
set_option linter.unusedSectionVars false
namespace Go.Proofs.YtnjomdjkbbhdoaaDoor
open Go.RowKit
set_option linter.unusedVariables false
set_option linter.unusedSimpArgs false
set_option maxRecDepth 100000
theorem pFormatInt {n : Int} (h0 : -9223372036854775808 ≤ n ∧ n ≤ 9223372036854775807) {σ : Hp} {w : World} (hi : Imm σ w) (ht : TabC Tryd.prog σ) : Calls Tryd.prog 83 #[.int .i64 n, .int .i64 10] w fun e w' => e = .returned (.string (strOf (Lib.itoa n))) ∧ Below w.heap.size w w' :=
  (Tryd.strconv_FormatInt_10 n h0.1 h0.2 w (ht.is hi)).mono fun e w' ⟨he, k, os, hw⟩ => by subst hw; exact ⟨he, below_sgrow w k os⟩
set_option maxHeartbeats 400000 in
theorem pCopy0 {b : Nat} {sv : Value} {Gs : List (Nat × Obj)} {σ : Hp} {w : World} (hi : Has σ ((b, .cells #[.pointer none, sv] 87) :: Gs) w) : Calls Tryd.prog 105 #[.pointer (some ⟨b, 0, none⟩)] w (GiveK (fun _ u K' => u = .tuple #[] ∧ K' = (b, .cells #[.pointer (some ⟨b, 0, none⟩), sv] 87) :: Gs) σ ((b, .cells #[.pointer none, sv] 87) :: Gs) w) := by
  refine enter (St w (keysOf ((b, .cells #[.pointer none, sv] 87) :: Gs)) σ [] ((b, .cells #[.pointer none, sv] 87) :: Gs)) Tryd.func105 rfl Tryd.ntmps105 rfl (Has.start hi) ?_
  refine cw_seq ?_
  refine cw_region ?_
  refine ow_val rfl rfl (ex_move rfl) ?_
  refine ow_val rfl rfl (ex_nilck rfl) ?_
  refine ow_val rfl rfl (ex_field rfl) ?_
  refine ow_val rfl rfl (ex_load1 rfl (by first | exact ld_own1 0 rfl rfl | exact ld_own1 1 rfl rfl | exact ld_own1 2 rfl rfl | exact ld_own1 3 rfl rfl | exact ld_own1 4 rfl rfl | exact ld_own1 5 rfl rfl | exact ld_own1 6 rfl rfl | exact ld_own1 7 rfl rfl | exact ld_ownG1 0 rfl rfl | exact ld_ownG1 1 rfl rfl | exact ld_imm1 (by assumption))) ?_
  refine ow_val rfl rfl (ex_ptrnil rfl) ?_
  refine ow_nil ?_
  refine qw_seq ?_
  refine cw_cond rfl (fun c6 => ?_) (fun c6 => ?_)
  ·
    refine cw_region ?_
    refine ow_val rfl rfl (ex_move rfl) ?_
    refine ow_val rfl rfl (ex_move rfl) ?_
    refine ow_val rfl rfl (ex_tounsafe (te := 5) (tb := 87) inferInstance rfl (fun w h => h.ownG (p := (b, _)) List.mem_cons_self)) ?_
    refine ow_val rfl rfl (ex_noesc rfl) ?_
    refine ow_val rfl rfl (ex_fromunsafe (te := 5) (tb := 87) inferInstance rfl (fun w h => h.ownG (p := (b, _)) List.mem_cons_self)) ?_
    refine ow_val rfl rfl (ex_nilck rfl) ?_
    refine ow_val rfl rfl (ex_field rfl) ?_
    refine ow_u rfl (exu_storeG1 0 rfl rfl rfl rfl rfl rfl) ?_
    refine ow_nil ?_
    refine qw_end0 rfl (fun w' h => h.givesK (Le.refl _) (Fresh.refl _ _) ⟨rfl, rfl⟩)
  ·
    simp at c6
set_option maxHeartbeats 400000 in
theorem pCopy1 {b : Nat} {sv : Value} {Gs : List (Nat × Obj)} {σ : Hp} {w : World} (hi : Has σ ((b, .cells #[.pointer (some ⟨b, 0, none⟩), sv] 87) :: Gs) w) : Calls Tryd.prog 105 #[.pointer (some ⟨b, 0, none⟩)] w (GiveK (fun _ u K' => u = .tuple #[] ∧ K' = (b, .cells #[.pointer (some ⟨b, 0, none⟩), sv] 87) :: Gs) σ ((b, .cells #[.pointer (some ⟨b, 0, none⟩), sv] 87) :: Gs) w) := by
  refine enter (St w (keysOf ((b, .cells #[.pointer (some ⟨b, 0, none⟩), sv] 87) :: Gs)) σ [] ((b, .cells #[.pointer (some ⟨b, 0, none⟩), sv] 87) :: Gs)) Tryd.func105 rfl Tryd.ntmps105 rfl (Has.start hi) ?_
  refine cw_seq ?_
  refine cw_region ?_
  refine ow_val rfl rfl (ex_move rfl) ?_
  refine ow_val rfl rfl (ex_nilck rfl) ?_
  refine ow_val rfl rfl (ex_field rfl) ?_
  refine ow_val rfl rfl (ex_load1 rfl (by first | exact ld_own1 0 rfl rfl | exact ld_own1 1 rfl rfl | exact ld_own1 2 rfl rfl | exact ld_own1 3 rfl rfl | exact ld_own1 4 rfl rfl | exact ld_own1 5 rfl rfl | exact ld_own1 6 rfl rfl | exact ld_own1 7 rfl rfl | exact ld_ownG1 0 rfl rfl | exact ld_ownG1 1 rfl rfl | exact ld_imm1 (by assumption))) ?_
  refine ow_val rfl rfl (ex_ptrnil rfl) ?_
  refine ow_nil ?_
  refine qw_seq ?_
  refine cw_cond rfl (fun c6 => ?_) (fun c6 => ?_)
  ·
    simp at c6
  ·
    refine cw_seq ?_
    refine cw_region ?_
    refine ow_val rfl rfl (ex_move rfl) ?_
    refine ow_val rfl rfl (ex_nilck rfl) ?_
    refine ow_val rfl rfl (ex_field rfl) ?_
    refine ow_val rfl rfl (ex_load1 rfl (by first | exact ld_own1 0 rfl rfl | exact ld_own1 1 rfl rfl | exact ld_own1 2 rfl rfl | exact ld_own1 3 rfl rfl | exact ld_own1 4 rfl rfl | exact ld_own1 5 rfl rfl | exact ld_own1 6 rfl rfl | exact ld_own1 7 rfl rfl | exact ld_ownG1 0 rfl rfl | exact ld_ownG1 1 rfl rfl | exact ld_imm1 (by assumption))) ?_
    refine ow_val rfl rfl (ex_move rfl) ?_
    refine ow_val rfl rfl (ex_ptrself rfl rfl) ?_
    refine ow_nil ?_
    refine qw_seq ?_
    refine cw_cond rfl (fun c19 => ?_) (fun c19 => ?_)
    ·
      cases c19
    ·
      refine cw_skip ?_
      refine qw_end0 rfl (fun w' h => h.givesK (Le.refl _) (Fresh.refl _ _) ⟨rfl, rfl⟩)
theorem pCopyCheck {b : Nat} {p sv : Value} {Gs : List (Nat × Obj)} {σ : Hp} {w : World} (hi : Has σ ((b, .cells #[p, sv] 87) :: Gs) w) (hp : p = .pointer none ∨ p = .pointer (some ⟨b, 0, none⟩)) : Calls Tryd.prog 105 #[.pointer (some ⟨b, 0, none⟩)] w (GiveK (fun _ u K' => u = .tuple #[] ∧ K' = (b, .cells #[.pointer (some ⟨b, 0, none⟩), sv] 87) :: Gs) σ ((b, .cells #[p, sv] 87) :: Gs) w) := by
  rcases hp with rfl | rfl
  · exact pCopy0 hi
  · exact pCopy1 hi
set_option maxHeartbeats 400000 in
theorem pWriteString {b : Nat} {bs s : List UInt8} {σ : Hp} {K : List (Nat × Obj)} {w : World} (hi : Has σ K w) (hb : BldK 87 5 b bs σ K) (hl : bs.length + s.length ≤ 140737488355328) : Calls Tryd.prog 82 #[.pointer (some ⟨b, 0, none⟩), .string (strOf s)] w (GiveK (fun σ' u K' => BldK 87 5 b (bs ++ s) σ' K') σ K w) := by
  obtain ⟨p, sv, Gs, rfl, hp, hO⟩ := hb
  refine enter (St w (keysOf ((b, .cells #[p, sv] 87) :: Gs)) σ [] ((b, .cells #[p, sv] 87) :: Gs)) Tryd.func82 rfl Tryd.ntmps82 rfl (Has.start hi) ?_
  refine cw_seq ?_
  refine cw_region ?_
  refine ow_val rfl rfl (ex_assign rfl) ?_
  refine ow_val rfl rfl (ex_assign rfl) ?_
  refine ow_nil ?_
  refine qw_seq ?_
  refine cw_seq ?_
  refine cw_region ?_
  refine ow_val rfl rfl (ex_move rfl) ?_
  refine ow_ckE rfl rfl (ex_callf rfl (fun w h => pCopyCheck h.hasE hp)) (fun v7 σ7 K7 hl7 hf7 hr7 => ?_)
  obtain ⟨rfl, rfl⟩ := hr7
  refine ow_nil ?_
  refine qw_seq ?_
  refine cw_seq ?_
  refine cw_region ?_
  refine ow_val rfl rfl (ex_move rfl) ?_
  refine ow_val rfl rfl (ex_move rfl) ?_
  refine ow_val rfl rfl (ex_nilck rfl) ?_
  refine ow_val rfl rfl (ex_field rfl) ?_
  refine ow_val rfl rfl (ex_load1 rfl (by first | exact ld_own1 0 rfl rfl | exact ld_own1 1 rfl rfl | exact ld_own1 2 rfl rfl | exact ld_own1 3 rfl rfl | exact ld_own1 4 rfl rfl | exact ld_own1 5 rfl rfl | exact ld_own1 6 rfl rfl | exact ld_own1 7 rfl rfl | exact ld_ownG1 0 rfl rfl | exact ld_ownG1 1 rfl rfl | exact ld_imm1 (by assumption))) ?_
  refine ow_val rfl rfl (ex_move rfl) ?_
  refine ow_mono (fun w h => h.ofG) ?_
  refine ow_appS1 rfl rfl rfl rfl hO hl (fun v14 G14 hO14 => ?_)
  refine ow_val rfl rfl (ex_nilck rfl) ?_
  refine ow_val rfl rfl (ex_field rfl) ?_
  refine ow_u rfl (exu_store1 0 rfl rfl rfl hO14.cell.1 hO14.cell.2 rfl) ?_
  refine ow_nil ?_
  refine qw_seq ?_
  refine cw_seq ?_
  refine cw_region ?_
  refine ow_val rfl rfl (ex_move rfl) ?_
  refine ow_val rfl rfl (ex_lenstr (ty := 0) rfl) ?_
  refine ow_val rfl rfl (ex_assign rfl) ?_
  refine ow_val rfl rfl (ex_assign rfl) ?_
  refine ow_nil ?_
  refine qw_seq ?_
  refine cw_ret ?_
  refine qw_ret2 rfl rfl rfl (fun w' h => (St.toG h).givesK hl7 hf7 ⟨_, _, _, rfl, .inr rfl, ?_⟩)
  rw [List.length_append, List.map_append]
  exact hO14
set_option maxHeartbeats 400000 in
theorem pWriteBytes {b : Nat} {bs s : List UInt8} {v : Value} {σ : Hp} {K : List (Nat × Obj)} {w : World} (hi : Has σ K w) (hb : BldK 87 5 b bs σ K) (hv : BytesV σ v s) (hl : bs.length + s.length ≤ 140737488355328) : Calls Tryd.prog 84 #[.pointer (some ⟨b, 0, none⟩), v] w (GiveK (fun σ' u K' => BldK 87 5 b (bs ++ s) σ' K') σ K w) := by
  obtain ⟨p, sv, Gs, rfl, hp, hO⟩ := hb
  obtain ⟨q, c, rfl, hc, hm, hsrc⟩ := hv.row
  have hml : (140737488355328 : Nat) ≤ maxLen := by unfold maxLen; omega
  refine enter (St w (keysOf ((b, .cells #[p, sv] 87) :: Gs)) σ [] ((b, .cells #[p, sv] 87) :: Gs)) Tryd.func84 rfl Tryd.ntmps84 rfl (Has.start hi) ?_
  refine cw_seq ?_
  refine cw_region ?_
  refine ow_val rfl rfl (ex_assign rfl) ?_
  refine ow_val rfl rfl (ex_assign rfl) ?_
  refine ow_nil ?_
  refine qw_seq ?_
  refine cw_seq ?_
  refine cw_region ?_
  refine ow_val rfl rfl (ex_move rfl) ?_
  refine ow_ckE rfl rfl (ex_callf rfl (fun w h => pCopyCheck h.hasE hp)) (fun v7 σ7 K7 hl7 hf7 hr7 => ?_)
  obtain ⟨rfl, rfl⟩ := hr7
  refine ow_nil ?_
  refine qw_seq ?_
  refine cw_seq ?_
  refine cw_region ?_
  refine ow_val rfl rfl (ex_move rfl) ?_
  refine ow_val rfl rfl (ex_move rfl) ?_
  refine ow_val rfl rfl (ex_nilck rfl) ?_
  refine ow_val rfl rfl (ex_field rfl) ?_
  refine ow_val rfl rfl (ex_load1 rfl (by first | exact ld_own1 0 rfl rfl | exact ld_own1 1 rfl rfl | exact ld_own1 2 rfl rfl | exact ld_own1 3 rfl rfl | exact ld_own1 4 rfl rfl | exact ld_own1 5 rfl rfl | exact ld_own1 6 rfl rfl | exact ld_own1 7 rfl rfl | exact ld_ownG1 0 rfl rfl | exact ld_ownG1 1 rfl rfl | exact ld_imm1 (by assumption))) ?_
  refine ow_val rfl rfl (ex_move rfl) ?_
  refine ow_mono (fun w h => h.ofG) ?_
  refine ow_app1 rfl rfl (exw_append1 (news := s.map byteV) rfl rfl hO (by simp) (hsrc.imp id fun ⟨b, f, hp, hca⟩ => ⟨b, f, hp, fun w h => (hca.le hl7).range h.im⟩) (bytes_one s) (by omega) (by omega)) (fun v14 G14 hO14 hz14 => ?_)
  refine ow_val rfl rfl (ex_nilck rfl) ?_
  refine ow_val rfl rfl (ex_field rfl) ?_
  refine ow_u rfl (exu_store1 0 rfl rfl rfl hO14.cell.1 hO14.cell.2 rfl) ?_
  refine ow_nil ?_
  refine qw_seq ?_
  refine cw_seq ?_
  refine cw_region ?_
  refine ow_val rfl rfl (ex_move rfl) ?_
  refine ow_val rfl rfl (ex_len (ty := 0) rfl) ?_
  refine ow_val rfl rfl (ex_assign rfl) ?_
  refine ow_val rfl rfl (ex_assign rfl) ?_
  refine ow_nil ?_
  refine qw_seq ?_
  refine cw_ret ?_
  refine qw_ret2 rfl rfl rfl (fun w' h => (St.toG h).givesK hl7 hf7 ⟨_, _, _, rfl, .inr rfl, ?_⟩)
  rw [List.length_append, List.map_append]
  exact hO14
set_option maxHeartbeats 400000 in
theorem pBldString {b : Nat} {bs : List UInt8} {σ : Hp} {K : List (Nat × Obj)} {w : World} (hi : Has σ K w) (hb : BldK 87 5 b bs σ K) (hne : bs ≠ []) (hl : bs.length ≤ 140737488355328) : Calls Tryd.prog 66 #[.pointer (some ⟨b, 0, none⟩)] w (GiveK (fun σ' u K' => u = .string (strOf bs) ∧ K' = []) σ K w) := by
  obtain ⟨p, sv, Gs, rfl, hp, hO⟩ := hb
  have hpos : 0 < bs.length := List.length_pos_iff.2 hne
  obtain ⟨g, c, tl, rfl, rfl, hnc, hcm, hlen⟩ := hO.open hpos
  refine enter (St w (keysOf [(b, .cells #[p, .slice (some ⟨g, 0, none⟩) bs.length c] 87), (g, rowO (bs.map byteV) tl 5)]) σ [] [(b, .cells #[p, .slice (some ⟨g, 0, none⟩) bs.length c] 87), (g, rowO (bs.map byteV) tl 5)]) Tryd.func66 rfl Tryd.ntmps66 rfl (Has.start hi) ?_
  refine cw_seq ?_
  refine cw_region ?_
  refine ow_val rfl rfl (ex_assign rfl) ?_
  refine ow_nil ?_
  refine qw_seq ?_
  refine cw_seq ?_
  refine flow_sound 10 (by kernel_rfl) ?_
  refine flow_val rfl (ex_move rfl) ?_
  refine flow_val rfl (ex_nilck rfl) ?_
  refine flow_val rfl (ex_field rfl) ?_
  refine flow_val rfl (ex_load1 rfl (by first | exact ld_own1 0 rfl rfl | exact ld_own1 1 rfl rfl | exact ld_own1 2 rfl rfl | exact ld_own1 3 rfl rfl | exact ld_own1 4 rfl rfl | exact ld_own1 5 rfl rfl | exact ld_own1 6 rfl rfl | exact ld_own1 7 rfl rfl | exact ld_ownG1 0 rfl rfl | exact ld_ownG1 1 rfl rfl | exact ld_imm1 (by assumption))) ?_
  refine flow_val rfl (ex_sldata rfl (by omega)) ?_
  refine flow_val rfl (ex_move rfl) ?_
  refine flow_val rfl (ex_nilck rfl) ?_
  refine flow_val rfl (ex_field rfl) ?_
  refine flow_val rfl (ex_load1 rfl (by first | exact ld_own1 0 rfl rfl | exact ld_own1 1 rfl rfl | exact ld_own1 2 rfl rfl | exact ld_own1 3 rfl rfl | exact ld_own1 4 rfl rfl | exact ld_own1 5 rfl rfl | exact ld_own1 6 rfl rfl | exact ld_own1 7 rfl rfl | exact ld_ownG1 0 rfl rfl | exact ld_ownG1 1 rfl rfl | exact ld_imm1 (by assumption))) ?_
  refine flow_val rfl (ex_len (ty := 0) rfl) ?_
  refine flow_nil ?_
  refine fin_is ?_
  refine fin_is ?_
  refine fin_is ?_
  refine fin_is ?_
  refine fin_is ?_
  refine fin_is ?_
  refine fin_is ?_
  refine fin_is ?_
  refine fin_is ?_
  refine fin_is ?_
  refine fin_nil ?_
  refine ow_mono (fun w h => h.permG (List.Perm.swap _ _ _)) ?_
  refine ow_ustr (arr := (bs.map byteV ++ tl).toArray) rfl rfl rfl rfl hne (by simp) (by omega) (by simp) ?_
  refine ow_val rfl rfl (ex_assign rfl) ?_
  refine ow_nil ?_
  refine qw_seq ?_
  refine cw_ret ?_
  refine qw_ret1 rfl rfl (fun w' h => (h.dropG (List.nil_sublist _)).givesK (Le.refl _) (Fresh.refl _ _) ⟨rfl, rfl⟩)
set_option maxHeartbeats 400000 in
theorem pWrite : ∀ (t : T) {b : Nat} {bs : List UInt8} {ct : List Value} {σ : Hp} {K : List (Nat × Obj)} {w : World}, Has σ K w → TabC Tryd.prog σ → BldK 87 5 b bs σ K → TermC σ ct t → bs.length + (keyB t).length ≤ 140737488355328 → Calls Tryd.prog 65 #[.pointer (some ⟨b, 0, none⟩), .agg ct.toArray] w (GiveK (fun σ' u K' => BldK 87 5 b (bs ++ keyB t) σ' K') σ K w) := by
  intro t
  induction t using T.ind with
  | _ o n d ks ih =>
  intro b bs ct σ K w hi htab hb ht hlim
  obtain ⟨dv, kv, rfl, ho, hn, hd, hk⟩ := ht.opn
  simp only [T.kids, T.op, T.num, T.data] at *
  obtain ⟨p, c, rfl, hc, hm⟩ := hk.slice
  obtain ⟨pd, cd, rfl, hcd, hmd⟩ := hd.slice
  have hm2 := hm
  have hmd2 := hmd
  unfold maxKids at hm2
  unfold maxData at hmd2
  rw [keyB_mk] at hlim
  simp only [List.length_append] at hlim
  have hzs : ∀ z ∈ [o, n, (d.length : Int), (ks.length : Int)], -9223372036854775808 ≤ z ∧ z ≤ 9223372036854775807 := by
    intro z hz
    simp only [List.mem_cons, List.not_mem_nil, or_false] at hz
    rcases hz with rfl | rfl | rfl | rfl <;> omega
  have hhd := hdrB_head o n d.length ks.length
  have hhl : (hdrB [o, n, (d.length : Int), (ks.length : Int)]).length = (headB o n d.length ks.length).length := by rw [hhd]
  refine enter (St w (keysOf K) σ [] K) Tryd.func65 rfl Tryd.ntmps65 rfl (Has.start hi) ?_
  refine cw_seq ?_
  refine cw_region ?_
  refine ow_blk rfl rfl (exw_box rfl) ?_; intro b3
  refine ow_nil ?_
  refine qw_seq ?_
  refine cw_seq ?_
  refine cw_seq ?_
  refine cw_region ?_
  refine ow_val rfl rfl (ex_field rfl) ?_
  refine ow_val rfl rfl (ex_load1 rfl (by first | exact ld_own1 0 rfl rfl | exact ld_own1 1 rfl rfl | exact ld_own1 2 rfl rfl | exact ld_own1 3 rfl rfl | exact ld_own1 4 rfl rfl | exact ld_own1 5 rfl rfl | exact ld_own1 6 rfl rfl | exact ld_own1 7 rfl rfl | exact ld_ownG1 0 rfl rfl | exact ld_ownG1 1 rfl rfl | exact ld_imm1 (by assumption))) ?_
  refine ow_val rfl rfl (ex_field rfl) ?_
  refine ow_val rfl rfl (ex_load1 rfl (by first | exact ld_own1 0 rfl rfl | exact ld_own1 1 rfl rfl | exact ld_own1 2 rfl rfl | exact ld_own1 3 rfl rfl | exact ld_own1 4 rfl rfl | exact ld_own1 5 rfl rfl | exact ld_own1 6 rfl rfl | exact ld_own1 7 rfl rfl | exact ld_ownG1 0 rfl rfl | exact ld_ownG1 1 rfl rfl | exact ld_imm1 (by assumption))) ?_
  refine ow_val rfl rfl (ex_field rfl) ?_
  refine ow_val rfl rfl (ex_load1 rfl (by first | exact ld_own1 0 rfl rfl | exact ld_own1 1 rfl rfl | exact ld_own1 2 rfl rfl | exact ld_own1 3 rfl rfl | exact ld_own1 4 rfl rfl | exact ld_own1 5 rfl rfl | exact ld_own1 6 rfl rfl | exact ld_own1 7 rfl rfl | exact ld_ownG1 0 rfl rfl | exact ld_ownG1 1 rfl rfl | exact ld_imm1 (by assumption))) ?_
  refine ow_val rfl rfl (ex_len (ty := 0) rfl) ?_
  refine ow_val rfl rfl (ex_field rfl) ?_
  refine ow_val rfl rfl (ex_load1 rfl (by first | exact ld_own1 0 rfl rfl | exact ld_own1 1 rfl rfl | exact ld_own1 2 rfl rfl | exact ld_own1 3 rfl rfl | exact ld_own1 4 rfl rfl | exact ld_own1 5 rfl rfl | exact ld_own1 6 rfl rfl | exact ld_own1 7 rfl rfl | exact ld_ownG1 0 rfl rfl | exact ld_ownG1 1 rfl rfl | exact ld_imm1 (by assumption))) ?_
  refine ow_val rfl rfl (ex_len (ty := 0) rfl) ?_
  refine ow_val rfl rfl (ex_build (parts := [(0, _), (1, _), (2, _), (3, _)]) (cells := (intsV [o, n, (d.length : Int), (ks.length : Int)]).toArray) rfl (by kernel_rfl)) ?_
  refine ow_val rfl rfl (ex_move rfl) ?_
  refine ow_nil ?_
  refine qw_seq ?_
  refine cw_block ?_
  refine cw_loop3 (fun (i : Nat) (τ : Hp) (K' : List (Nat × Obj)) => [(0, .pointer (some ⟨b, 0, none⟩)), (3, .pointer (some ⟨b3, 0, none⟩)), (18, .agg (intsV [o, n, (d.length : Int), (ks.length : Int)]).toArray), (19, .int .i64 (i : Int))]) (fun i τ K' => i ≤ 4 ∧ Le σ τ ∧ Fresh σ τ w ∧ BldK 87 5 b (bs ++ hdrB ([o, n, (d.length : Int), (ks.length : Int)].take i)) τ K') (fun i τ K' => τ) (fun i τ K' => K') (fun i _ _ => 4 - i) 0 σ K (subL_cons (lkv rfl (by first | rfl | simp)) (subL_cons (lkv rfl (by first | rfl | simp)) (subL_cons (lkv rfl (by first | rfl | simp)) (subL_cons (lkv rfl (by first | rfl | simp)) (subL_nil _))))) ⟨Nat.zero_le _, Le.refl _, Fresh.refl _ _, by simpa [hdrB] using hb⟩ (fun w h => h) ?_
  intro i τ K' ⟨hle, hlt, hft, hbk⟩
  refine cw_seq ?_
  refine cw_region ?_
  refine ow_val rfl rfl (ex_lss rfl rfl) ?_
  refine ow_nil ?_
  refine qw_seq ?_
  refine cw_seq ?_
  refine cw_cond rfl (fun c20 => ?_) (fun c20 => ?_)
  ·
    refine cw_skip ?_
    refine qw_seq ?_
    refine cw_seq ?_
    refine cw_block ?_
    refine cw_seq ?_
    have hlt4 : i < 4 := by have := of_decide_eq_true c20; omega
    have hz := hzs [o, n, (d.length : Int), (ks.length : Int)][i] (List.getElem_mem (by simp; omega))
    have hzl := itoa_len hz
    have hst := hdrB_take [o, n, (d.length : Int), (ks.length : Int)] i (by simp; omega)
    have hsl := hdrB_take_le [o, n, (d.length : Int), (ks.length : Int)] (i + 1)
    rw [hst] at hsl
    simp only [List.length_append, List.length_cons, List.length_nil] at hsl
    refine cw_region ?_
    refine ow_val rfl rfl (ex_arr rfl rfl (show i < [o, n, (d.length : Int), (ks.length : Int)].length by simp; omega) rfl) ?_
    refine ow_val rfl rfl (ex_assign rfl) ?_
    refine ow_nil ?_
    refine qw_seq ?_
    refine cw_region ?_
    refine ow_val rfl rfl (ex_move rfl) ?_
    refine ow_val rfl rfl (ex_move rfl) ?_
    refine ow_cv rfl rfl (ex_callf rfl (fun w h => callB ((pFormatInt hz h.im (htab.le hlt))))) ?_
    refine ow_val rfl rfl (ex_stradd (b := [44]) rfl rfl (by simp only [List.length_cons, List.length_nil]; omega)) ?_
    refine ow_ckE rfl rfl (ex_callf rfl (fun w h => pWriteString h.hasE hbk (by simp only [List.length_append, List.length_cons, List.length_nil]; omega))) (fun v26 τ26 K26 hl26 hf26 hr26 => ?_)
    refine ow_nil ?_
    refine qw_block_normal ?_
    refine qw_seq ?_
    refine cw_region ?_
    refine ow_val rfl rfl (ex_addi (z := ((i + 1 : Nat) : Int)) rfl rfl (by omega) (by omega) (by omega)) ?_
    refine ow_val rfl rfl (ex_move rfl) ?_
    refine ow_nil ?_
    refine qw_round3 (i + 1) τ26 K26 (by omega) (subL_cons (lkv rfl (by first | rfl | simp)) (subL_cons (lkv rfl (by first | rfl | simp)) (subL_cons (lkv rfl (by first | rfl | simp)) (subL_cons (lkv rfl (by first | rfl | simp)) (subL_nil _))))) ⟨by omega, hlt.trans hl26, hft.trans hf26, ?_⟩ (fun w h => h)
    rw [hst, ← List.append_assoc]
    exact hr26
  ·
    refine cw_exit ?_
    refine qw_then_exit ?_
    refine qw_then_exit ?_
    refine qw_block_exit ?_
    refine qw_seq ?_
    refine cw_seq ?_
    have he4 : i = 4 := by have := of_decide_eq_false c20; omega
    subst he4
    rw [show ([o, n, (d.length : Int), (ks.length : Int)].take 4) = [o, n, (d.length : Int), (ks.length : Int)] from rfl, hhd] at hbk
    refine cw_region ?_
    refine ow_val rfl rfl (ex_move rfl) ?_
    refine ow_val rfl rfl (ex_field rfl) ?_
    refine ow_val rfl rfl (ex_load1 rfl (by first | exact ld_own1 0 rfl rfl | exact ld_own1 1 rfl rfl | exact ld_own1 2 rfl rfl | exact ld_own1 3 rfl rfl | exact ld_own1 4 rfl rfl | exact ld_own1 5 rfl rfl | exact ld_own1 6 rfl rfl | exact ld_own1 7 rfl rfl | exact ld_ownG1 0 rfl rfl | exact ld_ownG1 1 rfl rfl | exact ld_imm1 (by assumption))) ?_
    refine ow_ckE rfl rfl (ex_callf rfl (fun w h => pWriteBytes h.hasE hbk (hd.le hlt) (by simp only [List.length_append]; omega))) (fun v31 τ31 K31 hl31 hf31 hr31 => ?_)
    refine ow_nil ?_
    refine qw_seq ?_
    refine cw_seq ?_
    refine cw_region ?_
    refine ow_val rfl rfl (ex_field rfl) ?_
    refine ow_val rfl rfl (ex_load1 rfl (by first | exact ld_own1 0 rfl rfl | exact ld_own1 1 rfl rfl | exact ld_own1 2 rfl rfl | exact ld_own1 3 rfl rfl | exact ld_own1 4 rfl rfl | exact ld_own1 5 rfl rfl | exact ld_own1 6 rfl rfl | exact ld_own1 7 rfl rfl | exact ld_ownG1 0 rfl rfl | exact ld_ownG1 1 rfl rfl | exact ld_imm1 (by assumption))) ?_
    refine ow_val rfl rfl (ex_len (ty := 0) rfl) ?_
    refine ow_val rfl rfl (ex_move rfl) ?_
    refine ow_nil ?_
    refine qw_seq ?_
    refine cw_block ?_
    refine cw_loop3 (fun (j : Nat) (τ : Hp) (K' : List (Nat × Obj)) => [(0, .pointer (some ⟨b, 0, none⟩)), (3, .pointer (some ⟨b3, 0, none⟩)), (33, .slice p ks.length c), (34, .int .i64 (ks.length : Int)), (35, .int .i64 (j : Int))]) (fun j τ K' => j ≤ ks.length ∧ Le σ τ ∧ Fresh σ τ w ∧ BldK 87 5 b (bs ++ headB o n d.length ks.length ++ d ++ keysB (ks.take j)) τ K') (fun i τ K' => τ) (fun i τ K' => K') (fun j _ _ => ks.length - j) 0 τ31 K31 (subL_cons (lkv rfl (by first | rfl | simp)) (subL_cons (lkv rfl (by first | rfl | simp)) (subL_cons (lkv rfl (by first | rfl | simp)) (subL_cons (lkv rfl (by first | rfl | simp)) (subL_cons (lkv rfl (by first | rfl | simp)) (subL_nil _)))))) ⟨Nat.zero_le _, hlt.trans hl31, hft.trans hf31, by simpa [keysB] using hr31⟩ (fun w h => h) ?_
    intro j τj Kj ⟨hlej, hlj, hfj, hbj⟩
    refine cw_seq ?_
    refine cw_region ?_
    refine ow_val rfl rfl (ex_lss rfl rfl) ?_
    refine ow_nil ?_
    refine qw_seq ?_
    refine cw_seq ?_
    refine cw_cond rfl (fun c36 => ?_) (fun c36 => ?_)
    ·
      refine cw_skip ?_
      refine qw_seq ?_
      refine cw_seq ?_
      refine cw_block ?_
      refine cw_seq ?_
      have hlt2 : j < ks.length := by simpa using c36
      obtain ⟨bk, f, c', cs, e1, e2, hc1, ht1⟩ := hk.get j hlt2
      cases e1
      have ht1' := ht1
      obtain ⟨d9, k9, rfl, _, _, _, _⟩ := ht1'.opn
      have hst := keysB_take ks j hlt2
      have hsl := keysB_take_le ks (j + 1)
      rw [hst, List.length_append] at hsl
      refine cw_region ?_
      refine ow_val rfl rfl (ex_index_nat rfl rfl (by omega)) ?_
      refine ow_val rfl rfl (ex_loadR rfl (ld_immT (hc1.le hlj) (ht1.le hlj))) ?_
      refine ow_blk rfl rfl exw_alloc ?_; intro b7
      refine ow_u rfl (exu_storeN 0 rfl rfl rfl rfl ht1.one rfl) ?_
      refine ow_nil ?_
      refine qw_seq ?_
      refine cw_region ?_
      refine ow_val rfl rfl (ex_move rfl) ?_
      refine ow_val rfl rfl (ex_loadR rfl (by first | exact ld_ownN 0 rfl rfl | exact ld_ownN 1 rfl rfl | exact ld_ownN 2 rfl rfl | exact ld_ownN 3 rfl rfl | exact ld_ownN 4 rfl rfl | exact ld_ownN 5 rfl rfl | exact ld_ownN 6 rfl rfl | exact ld_ownN 7 rfl rfl | exact ld_ownGN 0 rfl rfl | exact ld_ownGN 1 rfl rfl | exact ld_immT (by assumption) (by assumption))) ?_
      refine ow_ckE rfl rfl (ex_callf rfl (fun w h => ih _ (List.getElem_mem hlt2) h.hasE (htab.le hlj) hbj (ht1.le hlj) (by simp only [List.length_append]; omega))) (fun v41 τ41 K41 hl41 hf41 hr41 => ?_)
      refine ow_nil ?_
      refine qw_block_normal ?_
      refine qw_seq ?_
      refine cw_region ?_
      refine ow_val rfl rfl (ex_addi (z := ((j + 1 : Nat) : Int)) rfl rfl (by omega) (by omega) (by omega)) ?_
      refine ow_val rfl rfl (ex_move rfl) ?_
      refine ow_nil ?_
      refine qw_round3 (j + 1) τ41 K41 (by omega) (subL_cons (lkv rfl (by first | rfl | simp)) (subL_cons (lkv rfl (by first | rfl | simp)) (subL_cons (lkv rfl (by first | rfl | simp)) (subL_cons (lkv rfl (by first | rfl | simp)) (subL_cons (lkv rfl (by first | rfl | simp)) (subL_nil _)))))) ⟨by omega, hlj.trans hl41, hfj.trans hf41, ?_⟩ (fun w h => h.drop (List.sublist_cons_self _ _))
      rw [hst, ← List.append_assoc]
      exact hr41
    ·
      refine cw_exit ?_
      refine qw_then_exit ?_
      refine qw_then_exit ?_
      refine qw_block_exit ?_
      refine qw_end0 rfl (fun w' h => (h.drop (List.nil_sublist _)).givesK hlj hfj ?_)
      have he : j = ks.length := by simp at c36; omega
      subst he
      rw [List.take_length] at hbj
      rw [keyB_mk]
      simpa [List.append_assoc] using hbj
set_option maxHeartbeats 400000 in
theorem pKey (t : T) {ct : List Value} {σ : Hp} {w : World} (hi : Imm σ w) (htab : TabC Tryd.prog σ) (ht : TermC σ ct t) (hl : (keyB t).length ≤ 140737488355328) : Calls Tryd.prog 45 #[.agg ct.toArray] w fun e w' => e = .returned (.string (strOf (keyB t))) ∧ Below w.heap.size w w' := by
  have ht0 := ht
  obtain ⟨dv, kv, rfl, ho, hn, hd, hk⟩ := ht.opn
  have hne : keyB t ≠ [] := by
    cases t
    rw [keyB_mk]
    simp [headB]
  refine enter (St w (fun _ => False) σ [] []) Tryd.func45 rfl Tryd.ntmps45 rfl (St.start hi) ?_
  refine cw_seq ?_
  refine cw_region ?_
  refine ow_blk rfl rfl (exw_box rfl) ?_; intro b1
  refine ow_val rfl rfl (ex_assign rfl) ?_
  refine ow_nil ?_
  refine qw_seq ?_
  refine cw_seq ?_
  refine cw_region ?_
  refine ow_blk rfl rfl exw_alloc ?_; intro b3
  refine ow_nil ?_
  refine qw_seq ?_
  refine cw_seq ?_
  refine cw_region ?_
  refine ow_val rfl rfl (ex_loadR rfl (by first | exact ld_ownN 0 rfl rfl | exact ld_ownN 1 rfl rfl | exact ld_ownN 2 rfl rfl | exact ld_ownN 3 rfl rfl | exact ld_ownN 4 rfl rfl | exact ld_ownN 5 rfl rfl | exact ld_ownN 6 rfl rfl | exact ld_ownN 7 rfl rfl | exact ld_ownGN 0 rfl rfl | exact ld_ownGN 1 rfl rfl | exact ld_immT (by assumption) (by assumption))) ?_
  refine ow_mono (fun w h => h.toG) ?_
  refine ow_ckE rfl rfl (ex_callf rfl (fun w h => pWrite t (bs := []) h.hasE htab ⟨.pointer none, .slice none 0 0, [], rfl, .inl rfl, OwnSl.nil _ _⟩ ht0 (by simpa using hl))) (fun v5 τ5 K5 hl5 hf5 hr5 => ?_)
  rw [List.nil_append] at hr5
  refine ow_nil ?_
  refine qw_seq ?_
  refine cw_seq ?_
  refine cw_region ?_
  refine ow_ckE rfl rfl (ex_callf rfl (fun w h => pBldString h.hasE hr5 hne hl)) (fun v6 τ6 K6 hl6 hf6 hr6 => ?_)
  obtain ⟨rfl, rfl⟩ := hr6
  refine ow_val rfl rfl (ex_assign rfl) ?_
  refine ow_nil ?_
  refine qw_seq ?_
  refine cw_ret ?_
  refine qw_ret1 rfl rfl (fun w' h => ⟨rfl, h.ag.below⟩)
end Go.Proofs.YtnjomdjkbbhdoaaDoor
namespace Go.Proofs.YtnjomdjkbbhdoaaDoor
open Go.RowKit
set_option linter.unusedVariables false
structure SeenV (σ : Hp) (b : Nat) (ts : List T) (p : Option Addr) (c m : Nat) : Prop where
  c0 : CellsAt σ b 0 [.slice p ts.length c]
  c1 : CellsAt σ b 1 [.map (some m)]
  mp : σ m = some (mapObj ts)
  cap : ts.length ≤ c
  few : ts.length ≤ 4096
  tab : TabI ts
theorem OwnSl.slice {e size n : Nat} {v : Value} {xs : List Value} {Gs : List (Nat × Obj)} (h : OwnSl e size v n xs Gs) : ∃ p c, v = .slice p n c ∧ n ≤ c := by
  rcases h.2 with ⟨rfl, rfl, _⟩ | ⟨g, c, cur, rfl, _, h2, _⟩
  · exact ⟨_, _, rfl, Nat.le_refl _⟩
  · exact ⟨_, _, rfl, h2⟩
theorem VaultK.seen {tv te : TypeId} {b : Nat} {ts : List T} {σ τ : Hp} {K : List (Nat × Obj)} (h : VaultK tv te b ts σ K) (hs : ∀ q ∈ K, τ q.1 = some q.2) : ∃ p c m, SeenV τ b ts p c m := by
  obtain ⟨sv, xs, m, Gs, rfl, hO, hr, ht, hl⟩ := h
  obtain ⟨p, c, rfl, hc⟩ := hO.slice
  exact ⟨p, c, m, CellsAt.of1 (hs _ (List.mem_cons_self)) rfl, CellsAt.of1 (hs _ (List.mem_cons_self)) rfl, hs (m, mapObj ts) (by simp), hc, hl, ht⟩
theorem VaultK.seenX {tv te : TypeId} {b : Nat} {ts : List T} {σ : Hp} {K : List (Nat × Obj)} {w : World} (h : VaultK tv te b ts σ K) (hi : Has σ K w) : ∃ p c m, SeenV (exts σ K) b ts p c m :=
  h.seen fun q hq => exts_get hi.nd hq
theorem VaultK.nd {tv te : TypeId} {b : Nat} {ts : List T} {σ : Hp} {K : List (Nat × Obj)} (h : VaultK tv te b ts σ K) : TabI ts ∧ ts.length ≤ 4096 := by
  obtain ⟨sv, xs, m, Gs, rfl, hO, hr, ht, hl⟩ := h
  exact ⟨ht, hl⟩
theorem setX_snoc {xs co cs : List Value} {n : Nat} (hx : xs.length = n * 4) (hc : co.length = 4) : setX (xs ++ co) n cs = xs ++ cs := by
  unfold setX
  rw [List.take_append, List.drop_append, ← hx, List.take_length, Nat.sub_self, List.take_zero, List.append_nil, List.drop_eq_nil_of_le (by omega), show xs.length + 4 - xs.length = co.length by omega, List.drop_length]
  simp
def mostN : Nat → Nat
  | 0 => 0
  | n + 1 => 1 + 4 * mostN n
theorem mostN_16 : mostN 16 ≤ maxKids := by decide
theorem sizes_len {B : Nat} : ∀ {ks : List T}, (∀ k ∈ ks, size k ≤ B) → sizes ks ≤ ks.length * B
  | [], _ => by simp [sizes]
  | k :: r, h => by
    have h1 := h k (by simp)
    have h2 := sizes_len (B := B) (ks := r) (fun x hx => h x (List.mem_cons_of_mem _ hx))
    simp only [sizes, List.length_cons, Nat.add_mul]
    omega
theorem rightD_size : ∀ (t : T) {dp : Nat}, rightD t dp = true → size t ≤ mostN (16 - dp) := by
  intro t
  induction t using T.ind with
  | _ o n d ks ih =>
    intro dp h
    rw [rightD_mk] at h
    simp only [Bool.and_eq_true, decide_eq_true_eq] at h
    obtain ⟨⟨⟨h1, h2⟩, h3⟩, h4⟩ := h
    have hk := shape_kids h2
    have hb : ∀ k ∈ ks, size k ≤ mostN (16 - (dp + 1)) := fun k hm => by
      obtain ⟨i, hi, rfl⟩ := List.mem_iff_getElem.1 hm
      exact ih _ hm (rightsD_iff.1 h3 i hi)
    have hks := sizes_len hb
    have hm : ks.length * mostN (16 - (dp + 1)) ≤ 4 * mostN (16 - (dp + 1)) := Nat.mul_le_mul_right _ hk
    rw [show 16 - dp = (16 - (dp + 1)) + 1 by omega]
    simp only [size, mostN]
    omega
theorem right_size {t : T} (h : right t = true) : size t ≤ maxKids := Nat.le_trans (rightD_size t h) mostN_16
theorem right_slim {t : T} (h : right t = true) : norm t = t ∧ slim 19 t := ⟨(right_norm h).1, slim_mono (by decide) _ (right_norm h).2⟩
theorem zeroT_c (σ : Hp) : TermC σ [.int .i64 0, .int .i64 0, .slice none 0 0, .slice none 0 0] zeroT := TermC.mk (by omega) (by omega) (BytesV.nil σ) (KidsV.nil σ)
theorem right_lim {t : T} (h : right t = true) : (keyB t).length ≤ 140737488355328 := Nat.le_trans (right_key h) (by unfold maxKey; decide)
theorem putVs_len (ks ts : List T) (i : Nat) : (putVs (ks.take i) ts).length ≤ ts.length + sizes (ks.take i) := by
  obtain ⟨es, h, h2, _⟩ := putVs_ext (ks.take i) ts
  rw [h, List.length_append]; omega
end Go.Proofs.YtnjomdjkbbhdoaaDoor
namespace Go.Proofs.YtnjomdjkbbhdoaaDoor
open Go.RowKit
set_option linter.unusedVariables false
def drawT (N : Nat) (l : List Oper) (n : Nat) : Bool :=
  Nat.blt n l.length && ownDst N (l.take n) && aheadB 0 l && (match l[n]? with
    | some o => waitsB l o [] n
    | none => false) && (List.range l.length).all fun t => decide (t ≤ n) || (match l[t]? with
      | some o => memN n (depsL o.after.toList)
      | none => false)
theorem flow_soundT {P : Program} {l : List Oper} {L : TL} {S : World → Prop} [hSta : Sta S] {N : Nat} {Q : Exit → Act → World → Prop} {id : Nat} [hm : MixT P] (n : Nat) (hB : drawT N l n = true)
    (h : Flow P l (Go.Proofs.YtnjomdjkbbhdoaaDoor.cut (l.take n) L) S N (fun K => ∀ a w, Fr N (Go.Proofs.YtnjomdjkbbhdoaaDoor.cut (l.take n) L) a → S w → (∀ e ∈ K, ∃ v, a.tmps[e.d]? = some v ∧ e.p.holds w v) → wpAny P .any l.toArray Q (l.length - n) (firsts n l.length) a w) (l.take n) 0 []) :
    CW P (.region id l.toArray true) Q N L S := by
  simp only [drawT, Bool.and_eq_true] at hB
  obtain ⟨⟨⟨⟨hn, hown⟩, hahead⟩, hwt⟩, hstar⟩ := hB
  have hn2 : n < l.length := by have := hn; simp [Nat.blt] at this; omega
  have hn' : n ≤ l.length := by omega
  obtain ⟨on, hon, hwn⟩ : ∃ o, l[n]? = some o ∧ waitsB l o [] n = true := by
    cases hl : l[n]? with
    | none => rw [hl] at hwt; cases hwt
    | some o => rw [hl] at hwt; exact ⟨o, rfl, hwt⟩
  obtain ⟨Kf, hfin, -, hK, hcov, huni⟩ := flow_all (l.take n) 0 [] (fun j hj => by
    rw [List.length_take] at hj
    rw [List.getElem?_take_of_lt (by omega)]; simp) (fun _ he => absurd he List.not_mem_nil) h
  have hK' : ∀ e ∈ Kf, e.j < n ∧ ∃ o, l[e.j]? = some o ∧ o.dst = some e.d ∧ e.p.pers ∧ ∀ a w, Fr N (Go.Proofs.YtnjomdjkbbhdoaaDoor.cut (l.take n) L) a → S w →
      (∀ e' ∈ Kf, edge o.after.toList e'.j = true → ∃ v, a.tmps[e'.d]? = some v ∧ e'.p.holds w v) → stepOK P l o a w e.p := fun e he => by
    rcases hK e he with h0 | ⟨_, h1, h2⟩
    · cases h0
    · exact ⟨by rw [List.length_take] at h1; omega, h2⟩
  have hsz : l.toArray.size = l.length := by simp
  have key : ∀ (g : Nat) (listed : Array Bool) (a : Act) (w : World), HeadInv .any l.toArray n listed → cnt listed n = g → Fr N (Go.Proofs.YtnjomdjkbbhdoaaDoor.cut (l.take n) L) a → S w →
      (∀ e ∈ Kf, listed.getD e.j true = true → ∃ v, a.tmps[e.d]? = some v ∧ e.p.holds w v) → wpAny P .any l.toArray Q (g + (l.length - n)) listed a w := by
    intro g
    induction g with
    | zero =>
      intro listed a w inv hc hf hs hk
      have hall := cnt_zero hc
      have hlist : listed = firsts n l.length := by
        apply Array.ext_getElem?
        intro i
        have hs1 : listed.size = l.length := by rw [inv.size, hsz]
        unfold firsts
        rcases Nat.lt_or_ge i n with h1 | h1
        · have := hall i h1
          have hi : i < listed.size := by omega
          simp [hi] at this
          simp [hi, this, List.getElem?_append, h1]
        · rcases Nat.lt_or_ge i l.length with h2 | h2
          · have := inv.tail i h1 (by rw [hsz]; exact h2)
            have hi : i < listed.size := by omega
            simp [hi] at this
            simp [hi, this, List.getElem?_append, show ¬ i < n by omega, show i - n < l.length - n by omega]
          · rw [Array.getElem?_eq_none (by omega)]
            simp [List.getElem?_append, show ¬ i < n by omega, show ¬ i - n < l.length - n by omega]
      have hw := hfin a w hf hs (fun e he => hk e he (hall e.j (hK' e he).1))
      rw [hlist, Nat.zero_add]
      exact hw
    | succ g ih =>
      intro listed a w inv hc hf hs hk
      rw [show g + 1 + (l.length - n) = (g + (l.length - n)) + 1 by omega]
      obtain ⟨i0, hi0, hun0, hbelow⟩ := cnt_pos (show 0 < cnt listed n by omega)
      have hs1 : listed.size = l.length := by rw [inv.size, hsz]
      have hready : i0 ∈ Region.ready .any l.toArray listed := by
        have hlt : i0 < l.length := by omega
        refine mem_ready.2 ⟨hun0, l[i0], by simp [hlt], fun e he hb => ?_⟩
        have h1 := ahead_get hahead i0 l[i0] (by simp [hlt]) e he hb
        have h2 := hbelow e.on (by omega)
        have hlt2 : e.on < listed.size := by omega
        simp [hlt2] at h2 ⊢
        exact h2
      refine ⟨fun hnil => (by rw [hnil] at hready; cases hready), fun i hi => ?_⟩
      have hin : i < n := by
        rcases Nat.lt_or_ge i n with h1 | h1
        · exact h1
        · obtain ⟨_, oi, hoi, hdeps⟩ := mem_ready.1 hi
          have hlt : i < l.length := by have := (Array.getElem?_eq_some_iff.1 hoi).1; simpa using this
          have hoi' : l[i]? = some oi := by simpa using hoi
          rcases Nat.eq_or_lt_of_le h1 with h2 | h2
          · subst h2
            have : oi = on := Option.some.inj (hoi'.symm.trans hon)
            subst this
            have h3 := (List.all_eq_true.1 hwn) i0 (List.mem_range.2 hi0)
            simp only [memN, Bool.false_or] at h3
            have h4 := clos_listed inv n _ (fun x hx => by
              obtain ⟨e, he, hej, heb⟩ := depsL_mem hx
              rw [← hej]; exact hdeps e (by simpa using he) heb) i0 (memN_mem h3)
            have hlt2 : i0 < listed.size := by omega
            simp [hlt2] at h4 hun0
            rw [h4] at hun0; cases hun0
          · have h3 := (List.all_eq_true.1 hstar) i (List.mem_range.2 hlt)
            simp only [Bool.or_eq_true, decide_eq_true_eq] at h3
            have h4 := h3.resolve_left (by omega)
            rw [hoi'] at h4
            obtain ⟨e, he, hej, heb⟩ := depsL_mem (memN_mem h4)
            have h5 := hdeps e (by simpa using he) heb
            rw [hej] at h5
            have h6 := inv.tail n (Nat.le_refl _) (by rw [hsz]; exact hn2)
            have hlt2 : n < listed.size := by omega
            simp [hlt2] at h5 h6
            rw [h5] at h6; cases h6
      obtain ⟨huni1, oi, hoi, hdeps⟩ := mem_ready.1 hi
      have hoi' : l[i]? = some oi := by simpa using hoi
      obtain ⟨e, heK, hej⟩ := hcov i (by rw [List.length_take]; omega)
      have hej' : e.j = i := by omega
      obtain ⟨_, o, ho, hod, hpers, hstep⟩ := hK' e heK
      rw [hej'] at ho
      have : o = oi := Option.some.inj (ho.symm.trans hoi')
      subst this
      have hdn : e.d < N := by
        obtain ⟨d, hd1, hd2⟩ := ownDst_get hown i o (by rw [List.getElem?_take_of_lt hin]; exact ho)
        rw [hod] at hd1; cases hd1; exact hd2
      have hcutd : ∀ v, lk (Go.Proofs.YtnjomdjkbbhdoaaDoor.cut (l.take n) L) e.d = some v → False := fun v hv => by
        have h1 := (lk_cut hv).1
        rw [anyDst_of (List.mem_of_getElem? (l := l.take n) (i := i) (by rw [List.getElem?_take_of_lt hin]; exact ho)) hod] at h1
        cases h1
      have hso := hstep a w hf hs (fun e' he' hed => by
        obtain ⟨x, hx, hxj, hxb⟩ := edge_mem hed
        have h1 := hdeps x (by simpa using hx) hxb
        rw [hxj] at h1
        have h2 : e'.j < n := (hK' e' he').1
        refine hk e' he' ?_
        have hlt2 : e'.j < listed.size := by omega
        simp [hlt2] at h1 ⊢
        exact h1)
      have next : ∀ v w', Below w.heap.size w w' → e.p.holds w' v → wpAny P .any l.toArray Q (g + (l.length - n)) (listed.setIfInBounds i true) (a.put o.dst v) w' := by
        intro v w' hb hv
        rw [hod]
        refine ih _ _ _ (inv.set hi hin) (by have := cnt_set huni1 n hin; omega) ?_ (hSta.keep w w' hs hb) ?_
        · have hp := hf.put v (d := e.d) (by simp [Nat.blt]; omega)
          exact ⟨hp.df, hp.sz, fun k u hu => hp.get k u (by
            rw [lk_cons]
            split
            · rename_i hk2; subst hk2; exact (hcutd u hu).elim
            · exact hu)⟩
        · intro x hx hxl
          by_cases hxi : x.j = i
          · have : x = e := huni x hx e heK (Nat.zero_le _) (by omega)
            subst this
            exact ⟨v, by simp [Act.put, hf.sz, hdn], hv⟩
          · rw [getD_set_ne true (fun h => hxi h.symm)] at hxl
            obtain ⟨u, hu, hxu⟩ := hk x hx hxl
            obtain ⟨hxn, ox, hox, hxd, hxp, _⟩ := hK' x hx
            have hne : e.d ≠ x.d := fun hee => by
              have := ownDst_ne hown i x.j o ox e.d (by rw [List.getElem?_take_of_lt hin]; exact ho) (by rw [List.getElem?_take_of_lt hxn]; exact hox) hod (by rw [hee]; exact hxd)
              omega
            refine ⟨u, ?_, VP.pers_keep hxp hxu hb⟩
            simp only [Act.put]
            rw [Array.getElem?_setIfInBounds_ne hne]
            exact hu
      unfold wpOp
      simp only [hoi]
      unfold stepOK at hso
      split
      · rename_i hw
        rw [if_pos hw] at hso
        exact .inl (wp_false hso (fun a' w' ⟨v, ha, hb, hv⟩ => by rw [ha]; exact next v w' hb hv))
      · rename_i hw
        rw [if_neg hw] at hso
        exact next undef w (Below.refl _ _) hso
  intro a w hf hs
  refine wp_region_any hm.ok ?_
  have hrep : ∀ j, (Array.replicate l.toArray.size false).getD j false = false := fun j => getD_replicate_false _ _
  have := key n (Array.replicate l.toArray.size false) a w.drew
    ⟨by simp, fun j oj hj hl => (by rw [hrep] at hl; cases hl), fun t ht ht' => by simp at ht'; simp [ht']⟩
    (by rw [hsz]; exact cnt_fresh _ _ hn') (fr_cut hf (lk_cut_sub L)) (hSta.keep _ _ hs (Below.drewB w)) (fun e he hl => by
      have h1 := (hK' e he).1
      simp [show e.j < l.length by omega] at hl)
  rw [show n + (l.length - n) = l.toArray.size by rw [hsz]; omega] at this
  exact this
def AnyW (P : Program) (l : List Oper) (Q : Exit → Act → World → Prop) (k : Nat) (listed : Array Bool) (N : Nat) (L : TL) (S : World → Prop) : Prop :=
  ∀ a w, Fr N L a → S w → wpAny P .any l.toArray Q k listed a w
def NextW (P : Program) (l : List Oper) (Q : Exit → Act → World → Prop) (k : Nat) (listed : Array Bool) (N : Nat) (L : TL) (S : World → Prop) (i : Nat) : Prop :=
  ∀ a w, Fr N L a → S w → wpOp P l.toArray Q i (wpAny P .any l.toArray Q k (listed.setIfInBounds i true)) a w
section
variable {P : Program} {l : List Oper} {Q : Exit → Act → World → Prop} {k : Nat} {listed : Array Bool} {N : Nat} {L : TL} {S : World → Prop} {i j : Nat} {d : Nat} {ty : TypeId} {pos : String} {af : Array Edge} {op : Op}
theorem any_done (hr : Region.ready .any l.toArray listed = []) (h : QW Q .normal N L S) : AnyW P l Q 0 listed N L S := fun a w hf hs => ⟨hr, h a w hf hs⟩
theorem any_one (hr : Region.ready .any l.toArray listed = [i]) (h : NextW P l Q k listed N L S i) : AnyW P l Q (k + 1) listed N L S := fun a w hf hs => by
  refine ⟨fun hn => (by rw [hr] at hn; cases hn), fun x hx => ?_⟩
  rw [hr] at hx
  simp only [List.mem_singleton] at hx
  subst hx
  exact h a w hf hs
theorem any_two (hr : Region.ready .any l.toArray listed = [i, j]) (h : NextW P l Q k listed N L S i) (h' : NextW P l Q k listed N L S j) : AnyW P l Q (k + 1) listed N L S := fun a w hf hs => by
  refine ⟨fun hn => (by rw [hr] at hn; cases hn), fun x hx => ?_⟩
  rw [hr] at hx
  simp only [List.mem_cons, List.not_mem_nil, or_false] at hx
  rcases hx with rfl | rfl
  · exact h a w hf hs
  · exact h' a w hf hs
theorem next_val {v : Value} (ho : l[i]? = some ⟨some d, op, ty, pos, af, none⟩) (hN : Nat.blt d N = true) (h : Ex P op N L S v) (c : AnyW P l Q k (listed.setIfInBounds i true) N ((d, v) :: L) S) : NextW P l Q k listed N L S i := fun a w hf hs => by
  unfold wpOp
  rw [show l.toArray[i]? = some ⟨some d, op, ty, pos, af, none⟩ by simpa using ho]
  simp only
  rw [if_pos (by simp [Region.wanted])]
  refine .inl ?_
  unfold Oper.wp
  rw [h a w hf hs]
  exact c _ _ (hf.put _ hN) hs
theorem next_u {S' : World → Prop} (ho : l[i]? = some ⟨none, op, ty, pos, af, none⟩) (h : ExU P op N L S S') (c : AnyW P l Q k (listed.setIfInBounds i true) N L S') : NextW P l Q k listed N L S i := fun a w hf hs => by
  unfold wpOp
  rw [show l.toArray[i]? = some ⟨none, op, ty, pos, af, none⟩ by simpa using ho]
  simp only
  rw [if_pos (by simp [Region.wanted])]
  refine .inl ?_
  unfold Oper.wp
  obtain ⟨w', h1, h2⟩ := h a w hf hs none ty pos af none
  rw [h1]
  exact c _ _ hf h2
theorem next_w {T : Value → World → Prop} (ho : l[i]? = some ⟨some d, op, ty, pos, af, none⟩) (hN : Nat.blt d N = true) (h : ExW P op N L S T) (c : ∀ v, AnyW P l Q k (listed.setIfInBounds i true) N ((d, v) :: L) (T v)) : NextW P l Q k listed N L S i := fun a w hf hs => by
  unfold wpOp
  rw [show l.toArray[i]? = some ⟨some d, op, ty, pos, af, none⟩ by simpa using ho]
  simp only
  rw [if_pos (by simp [Region.wanted])]
  refine .inl ?_
  unfold Oper.wp
  obtain ⟨v, w', h1, h2⟩ := h a w hf hs (some d) ty pos af none
  rw [h1]
  exact c v _ _ (hf.put _ hN) h2
theorem next_app1 {w0 : World} {M : Nat → Prop} {σ : Hp} {H Gs : List (Nat × Obj)} {R : Value → List (Nat × Obj) → Prop} {z : Value → Prop} (ho : l[i]? = some ⟨some d, op, ty, pos, af, none⟩) (hN : Nat.blt d N = true)
    (h : ExW P op N L (St w0 M σ H Gs) (fun v' w' => ∃ Gs', R v' Gs' ∧ z v' ∧ St w0 M σ H Gs' w')) (c : ∀ v' Gs', R v' Gs' → z v' → AnyW P l Q k (listed.setIfInBounds i true) N ((d, v') :: L) (St w0 M σ H Gs')) : NextW P l Q k listed N L (St w0 M σ H Gs) i :=
  next_w ho hN h fun v' a w hf ⟨Gs', h1, hz, h2⟩ => c v' Gs' h1 hz a w hf h2
theorem any_mono {S' : World → Prop} (hS : ∀ w, S w → S' w) (h : AnyW P l Q k listed N L S') : AnyW P l Q k listed N L S := fun a w hf hs => h a w hf (hS w hs)
theorem next_mono {S' : World → Prop} (hS : ∀ w, S w → S' w) (h : NextW P l Q k listed N L S' i) : NextW P l Q k listed N L S i := fun a w hf hs => h a w hf (hS w hs)
def FinT (P : Program) (l : List Oper) (Q : Exit → Act → World → Prop) (k : Nat) (listed : Array Bool) (N : Nat) (L : TL) (S : World → Prop) (K : List KE) : Prop :=
  ∀ a w, Fr N L a → S w → (∀ e ∈ K, ∃ v, a.tmps[e.d]? = some v ∧ e.p.holds w v) → wpAny P .any l.toArray Q k listed a w
theorem fint_nil (h : AnyW P l Q k listed N L S) : FinT P l Q k listed N L S [] := fun a w hf hs _ => h a w hf hs
theorem fint_is {v : Value} {K : List KE} (h : FinT P l Q k listed N ((d, v) :: L) S K) : FinT P l Q k listed N L S (⟨j, d, .is v⟩ :: K) := fun a w hf hs hk => by
  obtain ⟨u, hu, hp⟩ := hk _ List.mem_cons_self
  have : u = v := hp
  subst this
  exact h a w (fr_add hf hu) hs (fun e he => hk e (List.mem_cons_of_mem _ he))
theorem fint_satR {Rep : Hp → Value → Prop} [MonoR Rep] {w0 : World} {M : Nat → Prop} {σ σ1 : Hp} {H G : List (Nat × Obj)} {K : List KE} (hle : Le σ σ1) (h : ∀ v σ', Le σ1 σ' → Fresh σ1 σ' w0 → Rep σ' v → FinT P l Q k listed N ((d, v) :: L) (St w0 M σ' H G) K) :
    FinT P l Q k listed N L (St w0 M σ1 H G) (⟨j, d, .sat (QR Rep σ w0 (H ++ G))⟩ :: K) := fun a w hf hs hk => by
  obtain ⟨u, hu, hp⟩ := hk _ List.mem_cons_self
  obtain ⟨τ, h1, h2, h3, h4, h5⟩ := hp
  refine h u (join σ1 τ) (le_join _ _) (fun b o e => ?_) (MonoR.mono (le_join' hs.im h3) h4) a w (fr_add hf hu) (hs.le (hs.im.join h3) fun p hp => ?_) (fun e he => hk e (List.mem_cons_of_mem _ he))
  · unfold join at e
    cases he : σ1 b with
    | none =>
      rw [he] at e
      rcases h2 b o (by simpa using e) with h6 | h6
      · rw [hle b o h6] at he; cases he
      · exact .inr h6
    | some o' => rw [he] at e; simp at e; subst e; exact .inl rfl
  · unfold join; rw [hs.fresh hp, h5 p hp]; rfl
theorem flow_nilT {L0 : TL} {n : Nat} {K : List KE} (h : FinT P l Q (l.length - n) (firsts n l.length) N L0 S K) :
    Flow P l L0 S N (fun K => ∀ a w, Fr N L0 a → S w → (∀ e ∈ K, ∃ v, a.tmps[e.d]? = some v ∧ e.p.holds w v) → wpAny P .any l.toArray Q (l.length - n) (firsts n l.length) a w) [] i K := h
end
end Go.Proofs.YtnjomdjkbbhdoaaDoor
namespace Go.Proofs.YtnjomdjkbbhdoaaDoor
open Go.RowKit
set_option linter.unusedVariables false
def partsFrom : Nat → List Value → List (Nat × Value)
  | _, [] => []
  | k, v :: r => (k, v) :: partsFrom (k + 1) r
theorem fill_from : ∀ (vs : List Value) (k : Nat) (arr : Array Value), (∀ v ∈ vs, v.cells = #[v]) → k + vs.length ≤ arr.size →
    Instr.fill (fun i => some (i * 1, 1)) arr (partsFrom k vs) = some (arr.toList.take k ++ vs ++ arr.toList.drop (k + vs.length)).toArray
  | [], k, arr, _, h => by simp [partsFrom, Instr.fill]
  | v :: r, k, arr, h1, h => by
    have hv := h1 v (by simp)
    simp only [List.length_cons] at h
    have ih := fill_from r (k + 1) (arr.setIfInBounds k v) (fun u hu => h1 u (List.mem_cons_of_mem _ hu)) (by simp; omega)
    simp only [partsFrom, Instr.fill, hv]
    have e0 : (#[v].zipIdx.foldl (fun cs (c, j) => cs.setIfInBounds (k * 1 + j) c) arr) = arr.setIfInBounds k v := by simp
    simp only [List.size_toArray, List.length_cons, List.length_nil, Nat.zero_add]
    rw [if_neg (by simp; omega), e0, ih]
    have hk : k < arr.toList.length := by simp; omega
    have hset : (arr.setIfInBounds k v).toList = arr.toList.take k ++ (v :: arr.toList.drop (k + 1)) := by
      rw [Array.toList_setIfInBounds, List.set_eq_take_append_cons_drop, if_pos hk]
    have htl : (arr.toList.take k).length = k := by rw [List.length_take]; omega
    have key : ∀ (A B : List Value), A.length = k → (A ++ v :: B).take (k + 1) = A ++ [v] ∧ (A ++ v :: B).drop (k + 1 + r.length) = B.drop r.length := by
      rintro A B rfl
      constructor
      · rw [List.take_append, List.take_of_length_le (by omega)]
        simp
      · rw [show A.length + 1 + r.length = A.length + (r.length + 1) by omega, List.drop_append]
        simp
    rw [hset, (key _ _ htl).1, (key _ _ htl).2, List.drop_drop, show k + 1 + r.length = k + (v :: r).length by simp; omega]
    simp
section
variable {P : Program} {N : Nat} {L : TL} {S : World → Prop} {w0 : World} {M : Nat → Prop} {σ : Hp} {H G : List (Nat × Obj)}
theorem exw_slitN {t e bytes len : Nat} [h : AppT P t e 1 bytes] {parts : List (Nat × Operand)} {vs : List Value} (hp : partsV L parts = some (partsFrom 0 vs)) (h1 : ∀ v ∈ vs, v.cells = #[v]) (hl : vs.length = len) (h0 : 0 < len) (hm : len ≤ 1000000) :
    ExW P (.buildSlice t len parts.toArray) N L (St w0 M σ H G) (fun u w => ∃ b, u = .slice (some ⟨b, 0, none⟩) len len ∧ St w0 M σ ((b, .cells vs.toArray e) :: H) G w) := by
  obtain ⟨k1, ⟨i, z, k2, k3, k4, _, k6⟩, k7⟩ := h.ok
  refine exw_slit (parts := parts) hp k1 ⟨i, z, k2, k3, by rw [k4]; omega, ?_⟩
  rw [if_neg (by rw [k4]; omega), k4]
  have := fill_from vs 0 ((Array.range (len * 1)).map (z.cells[· % z.cells.size]!)) h1 (by simp [hl])
  rw [this]
  congr 2
  simp [hl]
theorem OwnSl.lit {e b : Nat} {xs : List Value} (h : xs.length ≤ maxLen) : OwnSl e 1 (.slice (some ⟨b, 0, none⟩) xs.length xs.length) xs.length xs [(b, .cells xs.toArray e (0, 0))] :=
  ⟨by simp, .inr ⟨b, xs.length, xs.toArray, rfl, rfl, Nat.le_refl _, h, by simp, by simp⟩⟩
theorem ex_shrN {t u : TypeId} {x y : Operand} {k : IntKind} {n s : Nat} (hx : ev L x = some (.int .i64 (n : Int))) (hy : ev L y = some (.int k (s : Int))) (hs : s ≤ 63) : Ex P (.binOp .shr t x y u) N L S (.int .i64 ((n / 2 ^ s : Nat) : Int)) := fun a w hf hsw d ty pos af g => by
  have he : ∀ w, (eqGuard .shr t x y (.int .i64 (n : Int)) (.int k (s : Int))).run P w = .ok () w := fun w => by simp [eqGuard]
  have hb : ∀ w, (binOp .shr t (.int .i64 (n : Int)) (.int k (s : Int))).run P w = .ok (.int .i64 ((n / 2 ^ s : Nat) : Int)) w := fun w => by
    have h2 : ¬ (s : Int) < 0 := by omega
    have h3 : min s IntKind.i64.bits = s := Nat.min_eq_left (by simp [IntKind.bits]; omega)
    simp [binOp, Op.shift, h2, h3, Int.fdiv_eq_ediv]
  simp [execOp, hf.eval hx, hf.eval hy, he, hb]
theorem ex_toB {s t : TypeId} {x : Operand} {n : Nat} (hs : P.underlying s = some (.int .i64)) (ht : P.underlying t = some (.int .u8)) (hx : ev L x = some (.int .i64 (n : Int))) : Ex P (.convert s t x) N L S (byteV (UInt8.ofNat n)) := fun a w hf hsw d ty pos af g => by
  have hw : IntKind.u8.wrap (n : Int) = ((UInt8.ofNat n).toNat : Int) := by
    rw [UInt8.toNat_ofNat']
    simp [IntKind.wrap, IntKind.bits, IntKind.signed]
  simp [execOp, hf.eval hx, convert, run_underlying hs, run_underlying ht, Conv.intToInt, hw, byteV]
end
section
variable {P : Program} {l0 : List Oper} {Q : Exit → Act → World → Prop} {l rest : List Oper} {N : Nat} {L : TL} {d : Nat} {ty : TypeId} {pos : String} {af : Array Edge} {g : Option (Nat × Bool)} {op : Op} {w0 : World} {M : Nat → Prop} {σ : Hp} {H G : List (Nat × Obj)} {R : Hp → Value → List (Nat × Obj) → Prop}
theorem ow_frzH {arr : Array Value} {e b : Nat} (hM : ∀ b, M b → False) (k : ∀ σ', Le σ σ' → Fresh σ σ' w0 → σ' b = some (.cells arr e (0, 0)) → OW P l0 Q l N L (St w0 M σ' H G)) : OW P l0 Q l N L (St w0 M σ ((b, .cells arr e) :: H) G) := fun a w hf hs => by
  refine k (ext σ b (.cells arr e)) (le_ext (hs.fresh (p := (b, .cells arr e)) (by simp))) (fun x o hx => ?_) (ext_self _ _ _) a w hf hs.freeze
  unfold ext at hx
  split at hx
  · rename_i hb; subst hb; exact .inr ((St0.mo hs (x, .cells arr e) (by simp)).resolve_left (hM _))
  · exact .inl hx
theorem ow_ck0E (hN : Nat.blt d N = true) (hg : gd l0 L g = some true) (h : ExC P op N L (St w0 M σ H []) (TK R σ []))
    (k : ∀ u σ' K', Le σ σ' → Fresh σ σ' w0 → R σ' u K' → OW P l0 Q rest N ((d, u) :: L) (St w0 M σ' H K')) : OW P l0 Q (⟨some d, op, ty, pos, af, g⟩ :: rest) N L (St w0 M σ H []) :=
  ow_ck0 hN hg h fun u σ' K' h1 h2 h3 => by simpa using k u σ' K' h1 h2 h3
end
theorem CellsAt.int {σ : Hp} {b o : Nat} {zs : List Int} (h : CellsAt σ b o (intsV zs)) {i : Nat} (hi : i < zs.length) : CellsAt σ b (o + i * 1) [.int .i64 zs[i]] := by
  obtain ⟨arr, ty, fz, h1, h2⟩ := h
  refine ⟨arr, ty, fz, h1, fun j v hj => ?_⟩
  cases j with
  | zero =>
    simp at hj; subst hj
    simpa using h2 i _ (intsV_get hi)
  | succ j => simp at hj
theorem CellsAt.of4 {σ : Hp} {b : Nat} {ty : TypeId} {fz : Nat × Nat} {v0 v1 v2 v3 : Value} (h : σ b = some (.cells #[v0, v1, v2, v3] ty fz)) : CellsAt σ b 0 [v0, v1, v2, v3] := ⟨_, ty, fz, h, fun j v hj => by simpa using hj⟩
theorem KidsV.one {σ : Hp} {b : Nat} {cs : List Value} {t : T} (h : CellsAt σ b 0 cs) (ht : TermC σ cs t) : KidsV σ (.slice (some ⟨b, 0, none⟩) 1 1) [t] :=
  ⟨_, 1, rfl, Nat.le_refl _, by simp [maxKids], .inr ⟨b, 0, rfl, by simp only [ElemsC]; exact ⟨⟨cs, h, ht⟩, trivial⟩⟩⟩
def atomOne : T := .mk 1 1 [] []
def pubOne : T := .mk 2 0 [] [atomOne]
theorem atomOne_c (σ : Hp) : TermC σ [.int .i64 1, .int .i64 1, .slice none 0 0, .slice none 0 0] atomOne := TermC.mk (by omega) (by omega) (BytesV.nil σ) (KidsV.nil σ)
theorem intern_pub : intern [] pubOne = (1, 0, [atomOne, pubOne]) := by
  unfold intern
  rw [if_pos (by decide), if_neg (by decide), if_neg (by decide)]
  rfl
def tailB (n k : Nat) : List UInt8 := (List.range k).map fun j => UInt8.ofNat (n / 2 ^ (8 * (5 - j)))
def bytesN (n : Int) : List UInt8 := if 0 ≤ n ∧ n < 281474976710656 then 0xc1 :: 0x5e :: tailB n.toNat 6 else []
def eightB (m : Nat) : List UInt8 := [0xc1, 0x5e, UInt8.ofNat (m / 2 ^ 40), UInt8.ofNat (m / 2 ^ 32), UInt8.ofNat (m / 2 ^ 24), UInt8.ofNat (m / 2 ^ 16), UInt8.ofNat (m / 2 ^ 8), UInt8.ofNat m]
theorem eightB_is (m : Nat) : eightB m = 0xc1 :: 0x5e :: tailB m 6 := by simp [eightB, tailB, List.range_succ]
theorem bytesN_in {n : Nat} (h : n < 281474976710656) : bytesN (n : Int) = 0xc1 :: 0x5e :: tailB n 6 := by unfold bytesN; rw [if_pos (by omega)]; rfl
theorem bytesN_out {n : Int} (h : ¬ (0 ≤ n ∧ n < 281474976710656)) : bytesN n = [] := by unfold bytesN; rw [if_neg h]
theorem bytes_cells (d : List UInt8) : ∀ v ∈ d.map byteV, v.cells = #[v] := fun v hv => by
  obtain ⟨b, _, rfl⟩ := List.mem_map.1 hv; rfl
def RepBN (d : List UInt8) (σ : Hp) (v : Value) : Prop := BytesV σ v d ∧ (d = [] → v = .slice none 0 0)
instance (d : List UInt8) : MonoR (RepBN d) := ⟨fun hl h => ⟨h.1.le hl, h.2⟩⟩
end Go.Proofs.YtnjomdjkbbhdoaaDoor
namespace Go.Proofs.YtnjomdjkbbhdoaaDoor
set_option linter.unusedVariables false
theorem intern_pos {ts : List T} {t : T} (h : (intern ts t).2.1 = 0) : (intern ts t).1 = posT (intern ts t).2.2 t ∧ 0 ≤ posT (intern ts t).2.2 t ∧ right t = true := by
  unfold intern at h ⊢
  by_cases hr : right t = true
  · rw [if_pos hr] at h ⊢
    by_cases hp : 0 ≤ posT ts t
    · rw [if_pos hp]; exact ⟨rfl, hp, hr⟩
    · rw [if_neg hp] at h ⊢
      by_cases hl : 4096 < ts.length + size t
      · rw [if_pos hl] at h; exact absurd (show (2 : Int) = 0 from h) (by decide)
      · rw [if_neg hl]
        exact ⟨(numV_is t ts).symm, posT_iff.2 (mem_putV t ts), hr⟩
  · rw [if_neg hr] at h; exact absurd (show (51 : Int) = 0 from h) (by decide)
theorem intern_ext (ts : List T) (t : T) : ∃ es, (intern ts t).2.2 = ts ++ es := by
  unfold intern
  split
  · split
    · exact ⟨[], by simp⟩
    · split
      · exact ⟨[], by simp⟩
      · obtain ⟨es, e, _⟩ := putV_ext t ts
        exact ⟨es, e⟩
  · exact ⟨[], by simp⟩
def NumsOK (ls ts : List T) (nums : List Int) : Prop := ∀ j (h : j < nums.length) (h' : j < ls.length), nums[j] = -1 ∨ (0 ≤ posT ts ls[j] ∧ nums[j] = posT ts ls[j])
def numI (ts : List T) (t : T) : Int := if (intern ts t).2.1 = 0 then (intern ts t).1 else -1
theorem NumsOK.nil (ls ts : List T) : NumsOK ls ts [] := fun j h => absurd h (Nat.not_lt_zero _)
theorem NumsOK.step {ls ts : List T} {nums : List Int} (h : NumsOK ls ts nums) (hi : nums.length < ls.length) : NumsOK ls (intern ts ls[nums.length]).2.2 (nums ++ [numI ts ls[nums.length]]) := by
  obtain ⟨es, e⟩ := intern_ext ts ls[nums.length]
  intro j hj hj'
  by_cases hlt : j < nums.length
  · rw [List.getElem_append_left hlt]
    rcases h j hlt hj' with h1 | ⟨h1, h2⟩
    · exact .inl h1
    · right
      rw [e, posT_old h1]
      exact ⟨h1, h2⟩
  · have : j = nums.length := by simp at hj; omega
    subst this
    simp only [List.getElem_append_right (Nat.le_refl _), Nat.sub_self, List.getElem_cons_zero]
    unfold numI
    by_cases h0 : (intern ts ls[nums.length]).2.1 = 0
    · obtain ⟨k1, k2, _⟩ := intern_pos h0
      rw [if_pos h0]
      exact .inr ⟨k2, k1⟩
    · rw [if_neg h0]; exact .inl rfl
end Go.Proofs.YtnjomdjkbbhdoaaDoor
namespace Go.Proofs.YtnjomdjkbbhdoaaDoor
open Go.RowKit Go.ChangeShapes
set_option linter.unusedVariables false
structure Bulky {H : Type} (bk : DataW H → Nat) : Prop where
  lit : ∀ l, 1 ≤ bk (.lit l)
  nil : 1 ≤ bk .nil
  agg : ∀ ps, (ps.map bk).sum + 1 ≤ bk (.agg ps)
  slice : ∀ es sp, (es.map bk).sum + 1 ≤ bk (.slice es sp)
mutual
def bulkT : T → Nat
  | .mk _ _ d ks => 5 + d.length + bulkTs ks
def bulkTs : List T → Nat
  | [] => 0
  | k :: r => bulkT k + bulkTs r
end
theorem keyB_bulk' : ∀ (t : T) {σ : Hp} {cs : List Value}, TermC σ cs t → (keyB t).length ≤ 20 * bulkT t := by
  intro t
  induction t using T.ind with
  | _ o n d ks ih =>
    intro σ cs h
    obtain ⟨dv, kv, rfl, ho, hn, hd, hk⟩ := h.opn
    simp only [T.kids, T.op, T.num, T.data] at *
    obtain ⟨p, c, rfl, hc, hm⟩ := hk.slice
    obtain ⟨pd, cd, rfl, hcd, hmd⟩ := hd.slice
    unfold maxKids at hm
    unfold maxData at hmd
    have hh := headB_len (d := d.length) (k := ks.length) ho hn (by omega) (by omega)
    have key : ∀ (l : List T), (∀ k ∈ l, (keyB k).length ≤ 20 * bulkT k) → (keysB l).length ≤ 20 * bulkTs l := by
      intro l
      induction l with
      | nil => intro _; simp [keysB]
      | cons k r ihl =>
        intro hl
        have h1 := hl k (by simp)
        have h2 := ihl (fun x hx => hl x (List.mem_cons_of_mem _ hx))
        simp only [keysB, List.length_append, bulkTs]; omega
    have hks := key ks (fun k hkm => by
      obtain ⟨i, hi, rfl⟩ := List.mem_iff_getElem.1 hkm
      obtain ⟨b, f, c', cs', _, _, _, ht⟩ := hk.get i hi
      exact ih _ (List.getElem_mem hi) ht)
    simp only [keyB, bulkT, List.length_append]
    omega
theorem KidsV.key {σ : Hp} {v : Value} {ks : List T} {t : T} (h : KidsV σ v ks) (ht : t ∈ ks) : (keyB t).length ≤ 20 * bulkT t := by
  obtain ⟨i, hi, rfl⟩ := List.mem_iff_getElem.1 ht
  obtain ⟨b, f, c', cs', _, _, _, ht⟩ := h.get i hi
  exact keyB_bulk' _ ht
theorem bulkTs_sum : ∀ {ts : List T} {es : List Nat}, ts.length ≤ es.length → (∀ i (h : i < ts.length) (h' : i < es.length), bulkT ts[i] ≤ es[i]) → bulkTs ts ≤ es.sum
  | [], es, _, _ => by simp [bulkTs]
  | t :: r, [], h, _ => by simp at h
  | t :: r, e :: es, h, hb => by
    have h1 := hb 0 (by simp) (by simp)
    have h2 := bulkTs_sum (ts := r) (es := es) (by simpa using h) (fun i hi hi' => hb (i + 1) (by simpa using hi) (by simpa using hi'))
    simp only [bulkTs, List.sum_cons]
    simp only [List.getElem_cons_zero] at h1
    omega
theorem length_le_sum : ∀ {es : List Nat}, (∀ e ∈ es, 1 ≤ e) → es.length ≤ es.sum
  | [], _ => by simp
  | e :: r, h => by
    have h1 := h e (by simp)
    have h2 := length_le_sum (es := r) (fun x hx => h x (List.mem_cons_of_mem _ hx))
    simp only [List.length_cons, List.sum_cons]; omega
section
variable {H : Type} {enc : TypeId × Value → H} {P : Program} {w : World} {bk : DataW H → Nat}
theorem read_bytesU (B : Bulky bk) {t e : TypeId} {fuel : Nat} {v : Value} {x : DataW H × List MemPlace} (hu : P.underlying t = some (.slice e)) (he : P.underlying e = some (.int .u8)) (hc : P.cellsOf e = 1) (hb : P.bytesOf e = 1)
    (h : DataW.trod enc P w 0 (fun _ => true) true fuel t [v] = some x) (hw : ∀ n ∈ x.1.weights P t, n ≤ reachBytes) : ∃ d, BytesV (nowH w) v d ∧ d.length + 1 ≤ bk x.1 := by
  rcases open_ints hu he hc h with ⟨hcs, hx⟩ | ⟨a, len, cap, zs, hcs, _, hl, hm, hz, hx, hcell, hwf⟩
  · simp at hcs
    subst hcs
    subst hx
    exact ⟨[], BytesV.nil _, by simpa using B.nil⟩
  · simp at hcs
    subst hcs
    subst hx
    have hlz : len ≤ zs.length := by simp at hz; omega
    have hreach : zs.length ≤ reachBytes := by
      have := hw _ (by simp only [DataW.weights, hu]; exact List.mem_cons_self)
      rw [hb, Nat.mul_one] at this
      simp only [lits, List.length_map, List.length_take, List.length_drop] at this
      omega
    have hd : ((zs.take len).map fun z => z.toNat.toUInt8).map byteV = (zs.take len).map fun z => Value.int .u8 z := by
      rw [List.map_map]
      apply List.map_congr_left
      intro z hz'
      have := hwf z (List.mem_of_mem_take hz')
      have : 0 ≤ z ∧ z ≤ 255 := by simpa [Lit.wf, IntKind.min, IntKind.max, IntKind.signed, IntKind.bits] using this
      simp only [Function.comp, byteV]
      congr 1
      have h256 : z.toNat < 256 := by omega
      rw [show (z.toNat.toUInt8).toNat = z.toNat by simp [Nat.toUInt8, Nat.mod_eq_of_lt h256]]
      omega
    have hlen : ((zs.take len).map fun z => z.toNat.toUInt8).length = len := by simp; omega
    have hbk : len + 1 ≤ bk (DataW.slice (lits .u8 (zs.take len)) (lits .u8 (zs.drop len)) : DataW H) := by
      refine Nat.le_trans (Nat.add_le_add_right ?_ 1) (B.slice _ _)
      have h1 := length_le_sum (es := (lits (H := H) .u8 (zs.take len)).map bk) (fun e he => by
        obtain ⟨y, hy, rfl⟩ := List.mem_map.1 he
        obtain ⟨z, _, rfl⟩ := List.mem_map.1 hy
        exact B.lit _)
      simp only [lits, List.length_map, List.length_take] at h1
      simp only [lits]
      omega
    refine ⟨(zs.take len).map fun z => z.toNat.toUInt8, ⟨some a, cap, by rw [hlen], by rw [hlen]; exact hl, by rw [hlen]; unfold maxData; unfold reachBytes at hreach; omega, ?_⟩, by rw [hlen]; exact hbk⟩
    by_cases h0 : len = 0
    · left; subst h0; simp
    · right
      have hsp : a.spot = none := (cell_open (hcell 0 (by omega))).1
      obtain ⟨b, o, sp⟩ := a
      have hsp' : sp = none := hsp
      subst hsp'
      refine ⟨b, o, rfl, ?_⟩
      rw [hd]
      refine cellsAt_now (fun e => ?_) (fun i u hi => ?_)
      · have := congrArg List.length e
        rw [List.length_map, List.length_take, List.length_nil] at this
        omega
      · rw [List.getElem?_map, List.getElem?_take] at hi
        split at hi
        · rename_i hil
          have := hcell i (Nat.lt_of_lt_of_le hil hlz)
          rw [addr_add] at this
          rw [this, List.getD_eq_getElem?_getD]
          cases hz' : zs[i]? with
          | none => rw [hz'] at hi; simp at hi
          | some z => rw [hz'] at hi; simpa using hi
        · simp at hi
theorem read_termU (B : Bulky bk) {t : TypeId} [hT : TermTy P t] : ∀ (fuel : Nat) {cs : List Value} {x : DataW H × List MemPlace}, DataW.trod enc P w 0 (fun _ => true) true fuel t cs = some x → (∀ n ∈ x.1.weights P t, n ≤ reachBytes) → ∃ u, TermC (nowH w) cs u ∧ bulkT u ≤ bk x.1 := by
  obtain ⟨f0, f1, f2, f3, e, hu, hct, hbt, ⟨a1, a2, a3⟩, ⟨b1, b2, b3⟩, ⟨c1, c2, c3, c4, c5, c6⟩, ⟨d1, d2, d3⟩⟩ := hT.ok
  intro fuel
  induction fuel using Nat.strongRecOn with
  | _ fuel ih =>
    intro cs x h hw
    obtain ⟨xs, n, hfu, rfl, hl, hlen, hf⟩ := DataW.trod_struct hu h
    rw [hct] at hl
    match xs, hlen with
    | [y0, y1, y2, y3], _ =>
      have q0 := hf 0 f0 rfl
      have q1 := hf 1 f1 rfl
      have q2 := hf 2 f2 rfl
      have q3 := hf 3 f3 rfl
      rw [a2, a3] at q0
      rw [b2, b3] at q1
      rw [c2, c3] at q2
      rw [d2, d3] at q3
      obtain ⟨v0, v1, v2, v3, rfl⟩ : ∃ v0 v1 v2 v3, cs = [v0, v1, v2, v3] := by
        match cs, hl with
        | [v0, v1, v2, v3], _ => exact ⟨v0, v1, v2, v3, rfl⟩
      simp at q0 q1 q2 q3
      obtain ⟨i0, e0, x0, w0⟩ := DataW.trod_int a1 q0
      obtain ⟨i1, e1, x1, w1⟩ := DataW.trod_int b1 q1
      simp at e0 e1
      subst e0 e1
      have r0 : -9223372036854775808 ≤ i0 ∧ i0 ≤ 9223372036854775807 := by simpa [Lit.wf, IntKind.min, IntKind.max, IntKind.signed, IntKind.bits] using w0
      have r1 : -9223372036854775808 ≤ i1 ∧ i1 ≤ 9223372036854775807 := by simpa [Lit.wf, IntKind.min, IntKind.max, IntKind.signed, IntKind.bits] using w1
      have hparts : ∀ n, n ∈ y0.1.weights P f0.type ∨ n ∈ y1.1.weights P f1.type ∨ n ∈ y2.1.weights P f2.type ∨ n ∈ y3.1.weights P f3.type → n ≤ reachBytes := fun n hn => hw n (by
        simp only [DataW.weights, hu, List.map_cons, List.map_nil, DataW.weightsEach, List.mem_append, List.append_nil]
        rcases hn with h | h | h | h
        · exact .inl h
        · exact .inr (.inl h)
        · exact .inr (.inr (.inl h))
        · exact .inr (.inr (.inr h)))
      obtain ⟨d, hd, hdb⟩ := read_bytesU B c1 c4 c5 c6 q2 (fun n hn => hparts n (Or.inr (Or.inr (Or.inl hn))))
      have hk : ∃ ks, KidsV (nowH w) v3 ks ∧ bulkTs ks + 1 ≤ bk y3.1 := by
        rcases DataW.trod_slice d1 q3 with ⟨hcs, hx⟩ | ⟨a, len, cap, elems, rest, m, hfm, hcs, hx, _, hlc, hcm, hel, helem, hrest, _⟩
        · simp at hcs; subst hcs; subst hx; exact ⟨[], KidsV.nil _, by simpa [bulkTs] using B.nil⟩
        · simp at hcs
          subst hcs
          have hwk : ∀ n ∈ (DataW.slice (elems.map (·.1)) (rest.map (·.1))).weights P f3.type, n ≤ reachBytes := fun n hn => hparts n (Or.inr (Or.inr (Or.inr (by rw [hx]; exact hn))))
          simp only [DataW.weights, d1] at hwk
          have hlen : len * 64 ≤ reachBytes := by
            have := hwk _ List.mem_cons_self
            rw [hbt] at this
            simp only [List.length_map] at this
            have h2 : len * 64 ≤ (elems.length + rest.length) * 64 := Nat.mul_le_mul_right _ (by omega)
            omega
          have hwe : ∀ (l : List (DataW H)), (∀ n ∈ DataW.weightsAll P t l, n ≤ reachBytes) → ∀ y ∈ l, ∀ n ∈ y.weights P t, n ≤ reachBytes := by
            intro l
            induction l with
            | nil => intro _ y hy; cases hy
            | cons z r ihl =>
              intro hz y hy n hn
              simp only [DataW.weightsAll] at hz
              rcases List.mem_cons.1 hy with rfl | hy
              · exact hz n (List.mem_append_left _ hn)
              · exact ihl (fun n hn => hz n (List.mem_append_right _ hn)) y hy n hn
          have hwel := hwe (elems.map (·.1)) (fun n hn => hwk n (List.mem_cons_of_mem _ (List.mem_append_left _ hn)))
          have hspot : 0 < len → a.spot = none := fun h0 => by
            have h1 := helem 0 h0
            rw [List.getElem?_eq_getElem (show 0 < elems.length by omega), hct] at h1
            cases hc : w.cells? 0 (a.add (0 * 4)) 4 with
            | none => rw [hc] at h1; simp at h1
            | some cs' =>
              obtain ⟨_, hl4, hcell⟩ := World.cells?_some hc
              have h2 := hcell 0 (by omega)
              rw [List.getElem?_eq_getElem (by omega)] at h2
              have := (cell_open h2).1
              simpa [Addr.add] using this
          obtain ⟨ts, ht1, ht2⟩ := list_of (q := fun i u => (∃ cs', CellsAt (nowH w) a.block (a.off + i * 4) cs' ∧ TermC (nowH w) cs' u) ∧ ∀ h : i < elems.length, bulkT u ≤ bk elems[i].1) len (fun i hi => by
            have h1 := helem i hi
            rw [List.getElem?_eq_getElem (show i < elems.length by omega), hct] at h1
            cases hc : w.cells? 0 (a.add (i * 4)) 4 with
            | none => rw [hc] at h1; simp at h1
            | some cs' =>
              rw [hc] at h1
              simp only [Option.bind_some] at h1
              obtain ⟨_, hl4, hcell⟩ := World.cells?_some hc
              obtain ⟨u, hu', hub⟩ := ih m (by omega) h1 (fun n hn => hwel _ (List.mem_map.2 ⟨elems[i], List.getElem_mem _, rfl⟩) n hn)
              have hsp := hspot (by omega)
              refine ⟨u, ⟨cs', ?_, hu'⟩, fun _ => hub⟩
              obtain ⟨b, o, sp⟩ := a
              have hsp' : sp = none := hsp
              subst hsp'
              refine cellsAt_now (fun e => by rw [e] at hl4; simp at hl4) (fun j v hj => ?_)
              have := hcell j (by have := (List.getElem?_eq_some_iff.1 hj).1; omega)
              rw [addr_add, addr_add] at this
              rw [this]; exact hj)
          have hbk : bulkTs ts + 1 ≤ bk y3.1 := by
            rw [hx]
            refine Nat.le_trans (Nat.add_le_add_right ?_ 1) (B.slice _ _)
            refine bulkTs_sum (by simp; omega) (fun i hi hi' => ?_)
            simp only [List.getElem_map]
            exact (ht2 i hi).2 _
          refine ⟨ts, ⟨some a, cap, by rw [ht1], by rw [ht1]; exact hlc, by rw [ht1]; unfold maxKids; unfold reachBytes at hlen; omega, ?_⟩, hbk⟩
          by_cases h0 : ts = []
          · exact Or.inl h0
          · right
            have hpos : 0 < ts.length := List.length_pos_iff.2 h0
            have hsp := hspot (by omega)
            obtain ⟨b, o, sp⟩ := a
            have hsp' : sp = none := hsp
            subst hsp'
            exact ⟨b, o, rfl, ElemsC.of fun i hi => (ht2 i hi).1⟩
      obtain ⟨ks, hk, hkb⟩ := hk
      refine ⟨.mk i0 i1 d ks, TermC.mk r0 r1 hd hk, Nat.le_trans ?_ (B.agg _)⟩
      have hl0 : 1 ≤ bk y0.1 := by rw [x0]; exact B.lit _
      have hl1 : 1 ≤ bk y1.1 := by rw [x1]; exact B.lit _
      simp only [List.map_cons, List.map_nil, List.sum_cons, List.sum_nil, bulkT]
      omega
theorem read_kidsU (B : Bulky bk) {t ts : TypeId} [hT : TermTy P t] {fuel : Nat} {v3 : Value} {x : DataW H × List MemPlace} (d1 : P.underlying ts = some (.slice t)) (h : DataW.trod enc P w 0 (fun _ => true) true fuel ts [v3] = some x)
    (hw : ∀ n ∈ x.1.weights P ts, n ≤ reachBytes) : ∃ ks, KidsV (nowH w) v3 ks ∧ bulkTs ks + 1 ≤ bk x.1 := by
  obtain ⟨f0, f1, f2, f3, e, hu, hct, hbt, _⟩ := hT.ok
  rcases DataW.trod_slice d1 h with ⟨hcs, hx⟩ | ⟨a, len, cap, elems, rest, m, hfm, hcs, hx, _, hlc, hcm, hel, helem, hrest, _⟩
  · simp at hcs; subst hcs; subst hx; exact ⟨[], KidsV.nil _, by simpa [bulkTs] using B.nil⟩
  · simp at hcs
    subst hcs
    have hwk : ∀ n ∈ (DataW.slice (elems.map (·.1)) (rest.map (·.1))).weights P ts, n ≤ reachBytes := fun n hn => hw n (by rw [hx]; exact hn)
    simp only [DataW.weights, d1] at hwk
    have hlen : len * 64 ≤ reachBytes := by
      have := hwk _ List.mem_cons_self
      rw [hbt] at this
      simp only [List.length_map] at this
      have h2 : len * 64 ≤ (elems.length + rest.length) * 64 := Nat.mul_le_mul_right _ (by omega)
      omega
    have hwe : ∀ (l : List (DataW H)), (∀ n ∈ DataW.weightsAll P t l, n ≤ reachBytes) → ∀ y ∈ l, ∀ n ∈ y.weights P t, n ≤ reachBytes := by
      intro l
      induction l with
      | nil => intro _ y hy; cases hy
      | cons z r ihl =>
        intro hz y hy n hn
        simp only [DataW.weightsAll] at hz
        rcases List.mem_cons.1 hy with rfl | hy
        · exact hz n (List.mem_append_left _ hn)
        · exact ihl (fun n hn => hz n (List.mem_append_right _ hn)) y hy n hn
    have hwel := hwe (elems.map (·.1)) (fun n hn => hwk n (List.mem_cons_of_mem _ (List.mem_append_left _ hn)))
    have hspot : 0 < len → a.spot = none := fun h0 => by
      have h1 := helem 0 h0
      rw [List.getElem?_eq_getElem (show 0 < elems.length by omega), hct] at h1
      cases hc : w.cells? 0 (a.add (0 * 4)) 4 with
      | none => rw [hc] at h1; simp at h1
      | some cs' =>
        obtain ⟨_, hl4, hcell⟩ := World.cells?_some hc
        have h2 := hcell 0 (by omega)
        rw [List.getElem?_eq_getElem (by omega)] at h2
        have := (cell_open h2).1
        simpa [Addr.add] using this
    obtain ⟨ts, ht1, ht2⟩ := list_of (q := fun i u => (∃ cs', CellsAt (nowH w) a.block (a.off + i * 4) cs' ∧ TermC (nowH w) cs' u) ∧ ∀ h : i < elems.length, bulkT u ≤ bk elems[i].1) len (fun i hi => by
      have h1 := helem i hi
      rw [List.getElem?_eq_getElem (show i < elems.length by omega), hct] at h1
      cases hc : w.cells? 0 (a.add (i * 4)) 4 with
      | none => rw [hc] at h1; simp at h1
      | some cs' =>
        rw [hc] at h1
        simp only [Option.bind_some] at h1
        obtain ⟨_, hl4, hcell⟩ := World.cells?_some hc
        obtain ⟨u, hu', hub⟩ := read_termU B m h1 (fun n hn => hwel _ (List.mem_map.2 ⟨elems[i], List.getElem_mem _, rfl⟩) n hn)
        have hsp := hspot (by omega)
        refine ⟨u, ⟨cs', ?_, hu'⟩, fun _ => hub⟩
        obtain ⟨b, o, sp⟩ := a
        have hsp' : sp = none := hsp
        subst hsp'
        refine cellsAt_now (fun e => by rw [e] at hl4; simp at hl4) (fun j v hj => ?_)
        have := hcell j (by have := (List.getElem?_eq_some_iff.1 hj).1; omega)
        rw [addr_add, addr_add] at this
        rw [this]; exact hj)
    have hbk : bulkTs ts + 1 ≤ bk x.1 := by
      rw [hx]
      refine Nat.le_trans (Nat.add_le_add_right ?_ 1) (B.slice _ _)
      refine bulkTs_sum (by simp; omega) (fun i hi hi' => ?_)
      simp only [List.getElem_map]
      exact (ht2 i hi).2 _
    refine ⟨ts, ⟨some a, cap, by rw [ht1], by rw [ht1]; exact hlc, by rw [ht1]; unfold maxKids; unfold reachBytes at hlen; omega, ?_⟩, hbk⟩
    by_cases h0 : ts = []
    · exact Or.inl h0
    · right
      have hpos : 0 < ts.length := List.length_pos_iff.2 h0
      have hsp := hspot (by omega)
      obtain ⟨b, o, sp⟩ := a
      have hsp' : sp = none := hsp
      subst hsp'
      exact ⟨b, o, rfl, ElemsC.of fun i hi => (ht2 i hi).1⟩
end
end Go.Proofs.YtnjomdjkbbhdoaaDoor
namespace Go.Proofs.YtnjomdjkbbhdoaaDoor
open Go.RowKit
set_option linter.unusedVariables false
end Go.Proofs.YtnjomdjkbbhdoaaDoor
namespace Go.Proofs.YtnjomdjkbbhdoaaDoor
open Go.RowKit
set_option linter.unusedVariables false
def IntsV (σ : Hp) (v : Value) (zs : List Int) : Prop := ∃ p c, v = .slice p zs.length c ∧ zs.length ≤ c ∧ (zs = [] ∨ ∃ b o, p = some ⟨b, o, none⟩ ∧ CellsAt σ b o (intsV zs))
theorem IntsV.le {σ τ : Hp} (hl : Le σ τ) {v : Value} {zs : List Int} (h : IntsV σ v zs) : IntsV τ v zs := by
  obtain ⟨p, c, h1, h2, h3⟩ := h
  exact ⟨p, c, h1, h2, h3.imp id fun ⟨b, o, e, k⟩ => ⟨b, o, e, k.le hl⟩⟩
theorem IntsV.nil (σ : Hp) : IntsV σ (.slice none 0 0) [] := ⟨none, 0, rfl, Nat.le_refl _, .inl rfl⟩
theorem IntsV.lit {σ : Hp} {b : Nat} {ty : TypeId} {fz : Nat × Nat} {zs : List Int} {n : Nat} (h : σ b = some (.cells (intsV zs).toArray ty fz)) (hn : zs.length = n) : IntsV σ (.slice (some ⟨b, 0, none⟩) n n) zs := by
  subst hn
  exact ⟨_, zs.length, rfl, Nat.le_refl _, .inr ⟨b, 0, rfl, _, ty, fz, h, fun j v hj => by simpa using hj⟩⟩
theorem Has.next {σ σ1 σK : Hp} {K : List (Nat × Obj)} {w w' : World} (h : Has σ K w) (hf : Fresh σ σ1 w) (hi : Imm σK w') (hle : Le (Go.Proofs.YtnjomdjkbbhdoaaDoor.exts σ K) σK) (h1 : Le σ1 σK) : Has σ1 K w' :=
  ⟨fun b o e => hi b o (h1 b o e), fun p hp => hi _ _ (hle _ _ (exts_get h.nd hp)), fun p hp => by
    cases e : σ1 p.1 with
    | none => rfl
    | some o =>
      rcases hf p.1 o e with h2 | h2
      · rw [h.dj p hp] at h2; cases h2
      · have := (Array.getElem?_eq_some_iff.1 (h.ow p hp)).1; omega, h.nd⟩
def RepBoth (x y : T) (is : Bool) (σ : Hp) (u : Value) : Prop := ∃ cx cy, u = .tuple #[.agg cx.toArray, .agg cy.toArray, .bool is] ∧ TermC σ cx x ∧ TermC σ cy y
instance (x y : T) (is : Bool) : MonoR (RepBoth x y is) := ⟨fun hl ⟨cx, cy, e, h1, h2⟩ => ⟨cx, cy, e, h1.le hl, h2.le hl⟩⟩
def RepBB (d : List UInt8) (is : Bool) (σ : Hp) (u : Value) : Prop := ∃ v, u = .tuple #[v, .bool is] ∧ BytesV σ v d
instance (d : List UInt8) (is : Bool) : MonoR (RepBB d is) := ⟨fun hl ⟨v, e, h⟩ => ⟨v, e, h.le hl⟩⟩
def RepOf (F : FuncId) (op : Int) (d : List UInt8) (σ : Hp) (u : Value) : Prop := ∃ b2 b3 v, u = .func (.func F) #[] #[.pointer (some ⟨b2, 0, none⟩), .pointer (some ⟨b3, 0, none⟩)] ∧ CellsAt σ b2 0 [.int .i64 op] ∧ CellsAt σ b3 0 [v] ∧ BytesV σ v d
instance (F : FuncId) (op : Int) (d : List UInt8) : MonoR (RepOf F op d) := ⟨fun hl ⟨b2, b3, v, e, h1, h2, h3⟩ => ⟨b2, b3, v, e, h1.le hl, h2.le hl, h3.le hl⟩⟩
theorem BytesV.lit {σ : Hp} {b : Nat} {ty : TypeId} {fz : Nat × Nat} {d : List UInt8} {n : Nat} (h : σ b = some (.cells (d.map byteV).toArray ty fz)) (hn : d.length = n) (hm : d.length ≤ maxData) : BytesV σ (.slice (some ⟨b, 0, none⟩) n n) d := by
  subst hn
  exact ⟨_, d.length, rfl, Nat.le_refl _, hm, .inr ⟨b, 0, rfl, _, ty, fz, h, fun j v hj => by simpa using hj⟩⟩
end Go.Proofs.YtnjomdjkbbhdoaaDoor
namespace Go.Proofs.YtnjomdjkbbhdoaaDoor
open Go.RowKit
set_option linter.unusedVariables false
set_option linter.unusedSimpArgs false
set_option maxRecDepth 100000
set_option maxHeartbeats 400000 in
theorem pNew {σ : Hp} {w : World} (hi : Imm σ w) : Calls Tryd.prog 13 #[] w (GiveK (fun σ' u K' => ∃ b, u = .pointer (some ⟨b, 0, none⟩) ∧ VaultK 68 30 b [] σ' K') σ [] w) := by
  refine enter (St w (keysOf []) σ [] []) Tryd.func13 rfl Tryd.ntmps13 rfl (Has.start (Has.nil hi)) ?_
  refine cw_seq ?_
  refine cw_region ?_
  refine ow_val rfl rfl (ex_assign rfl) ?_
  refine ow_nil ?_
  refine qw_seq ?_
  refine cw_seq ?_
  refine cw_region ?_
  refine ow_mkmap rfl rfl exw_mkmap ?_
  intro m
  refine ow_val rfl rfl (ex_build (parts := [(1, _)]) (cells := #[.slice none 0 0, .map (some m)]) rfl (by kernel_rfl)) ?_
  refine ow_blk rfl rfl (exw_box rfl) ?_; intro b3
  refine ow_val rfl rfl (ex_assign rfl) ?_
  refine ow_nil ?_
  refine qw_seq ?_
  refine cw_ret ?_
  refine qw_ret1 rfl rfl (fun w' h => (St.flip h).givesK (Le.refl _) (Fresh.refl _ _) ⟨_, rfl, .slice none 0 0, [], m, [], rfl, OwnSl.nil _ _, rfl, TabI.nil, by simp⟩)
set_option maxHeartbeats 400000 in
theorem pLen {b c m : Nat} {p : Option Addr} {ts : List T} {σ : Hp} {w : World} (hi : Imm σ w) (hv : SeenV σ b ts p c m) : Calls Tryd.prog 15 #[.pointer (some ⟨b, 0, none⟩)] w fun e w' => e = .returned (.int .i64 (ts.length : Int)) ∧ Below w.heap.size w w' := by
  have hc0 := hv.c0
  refine enter (St w (fun _ => False) σ [] []) Tryd.func15 rfl Tryd.ntmps15 rfl (St.start hi) ?_
  refine cw_seq ?_
  refine cw_region ?_
  refine ow_val rfl rfl (ex_assign rfl) ?_
  refine ow_nil ?_
  refine qw_seq ?_
  refine cw_seq ?_
  refine cw_region ?_
  refine ow_val rfl rfl (ex_move rfl) ?_
  refine ow_val rfl rfl (ex_nilck rfl) ?_
  refine ow_val rfl rfl (ex_field rfl) ?_
  refine ow_val rfl rfl (ex_load1 rfl (by first | exact ld_own1 0 rfl rfl | exact ld_own1 1 rfl rfl | exact ld_own1 2 rfl rfl | exact ld_own1 3 rfl rfl | exact ld_own1 4 rfl rfl | exact ld_own1 5 rfl rfl | exact ld_own1 6 rfl rfl | exact ld_own1 7 rfl rfl | exact ld_ownG1 0 rfl rfl | exact ld_ownG1 1 rfl rfl | exact ld_imm1 (by assumption))) ?_
  refine ow_val rfl rfl (ex_len (ty := 0) rfl) ?_
  refine ow_val rfl rfl (ex_assign rfl) ?_
  refine ow_nil ?_
  refine qw_seq ?_
  refine cw_ret ?_
  refine qw_ret1 rfl rfl (fun w' h => ⟨rfl, h.ag.below⟩)
set_option maxHeartbeats 400000 in
theorem pFind (t : T) {b c m : Nat} {p : Option Addr} {ts : List T} {ct : List Value} {σ : Hp} {w : World} (hi : Imm σ w) (htab : TabC Tryd.prog σ) (hv : SeenV σ b ts p c m) (ht : TermC σ ct t) (hl : (keyB t).length ≤ 140737488355328) : Calls Tryd.prog 16 #[.pointer (some ⟨b, 0, none⟩), .agg ct.toArray] w fun e w' => e = .returned (.tuple #[.int .i64 (posT ts t), .bool (decide (0 ≤ posT ts t))]) ∧ Below w.heap.size w w' := by
  have hc1 := hv.c1
  have ht0 := ht
  obtain ⟨dv, kv, rfl, ho, hn, hd, hk⟩ := ht.opn
  refine enter (St w (fun _ => False) σ [] []) Tryd.func16 rfl Tryd.ntmps16 rfl (St.start hi) ?_
  refine cw_seq ?_
  refine cw_region ?_
  refine ow_blk rfl rfl (exw_box rfl) ?_; intro b3
  refine ow_val rfl rfl (ex_assign rfl) ?_
  refine ow_val rfl rfl (ex_assign rfl) ?_
  refine ow_nil ?_
  refine qw_seq ?_
  refine cw_seq ?_
  refine cw_seq ?_
  refine flow_sound 12 (by kernel_rfl) ?_
  refine flow_val rfl (ex_move rfl) ?_
  refine flow_val rfl (ex_nilck rfl) ?_
  refine flow_val rfl (ex_field rfl) ?_
  refine flow_val rfl (ex_load1 rfl (by first | exact ld_own1 0 rfl rfl | exact ld_own1 1 rfl rfl | exact ld_own1 2 rfl rfl | exact ld_own1 3 rfl rfl | exact ld_own1 4 rfl rfl | exact ld_own1 5 rfl rfl | exact ld_own1 6 rfl rfl | exact ld_own1 7 rfl rfl | exact ld_ownG1 0 rfl rfl | exact ld_ownG1 1 rfl rfl | exact ld_imm1 (by assumption))) ?_
  refine flow_val rfl (ex_loadR rfl (by first | exact ld_ownN 0 rfl rfl | exact ld_ownN 1 rfl rfl | exact ld_ownN 2 rfl rfl | exact ld_ownN 3 rfl rfl | exact ld_ownN 4 rfl rfl | exact ld_ownN 5 rfl rfl | exact ld_ownN 6 rfl rfl | exact ld_ownN 7 rfl rfl | exact ld_ownGN 0 rfl rfl | exact ld_ownGN 1 rfl rfl | exact ld_immT (by assumption) (by assumption))) ?_
  refine flow_cv rfl (ex_callf rfl (fun w h => callB ((pKey t h.im htab ht0 hl)))) ?_
  refine flow_val rfl (ex_mapget rfl rfl (fun w h => h.im _ _ hv.mp)) ?_
  refine flow_val rfl (ex_move rfl) ?_
  refine flow_val rfl (ex_extract rfl rfl) ?_
  refine flow_val rfl (ex_extract rfl rfl) ?_
  refine flow_val rfl (ex_assign rfl) ?_
  refine flow_val rfl (ex_assign rfl) ?_
  refine flow_nil ?_
  refine fin_is ?_
  refine fin_is ?_
  refine fin_is ?_
  refine fin_is ?_
  refine fin_is ?_
  refine fin_is ?_
  refine fin_is ?_
  refine fin_is ?_
  refine fin_is ?_
  refine fin_is ?_
  refine fin_is ?_
  refine fin_is ?_
  refine fin_nil ?_
  refine ow_nil ?_
  refine qw_seq ?_
  refine cw_seq ?_
  refine cw_region ?_
  refine ow_val rfl rfl (ex_move rfl) ?_
  refine ow_nil ?_
  refine qw_seq ?_
  refine cw_cond rfl (fun c18 => ?_) (fun c18 => ?_)
  ·
    refine cw_seq ?_
    refine cw_region ?_
    refine ow_val rfl rfl (ex_move rfl) ?_
    refine ow_val rfl rfl (ex_assign rfl) ?_
    refine ow_val rfl rfl (ex_assign rfl) ?_
    refine ow_nil ?_
    refine qw_seq ?_
    refine cw_ret ?_
    refine qw_then_ret ?_
    refine qw_ret2 rfl rfl rfl (fun w' h => ⟨?_, h.ag.below⟩)
    have h0 := of_decide_eq_true c18
    rw [if_pos h0, decide_eq_true h0]
  ·
    refine cw_skip ?_
    refine qw_seq ?_
    refine cw_seq ?_
    refine cw_region ?_
    refine ow_val rfl rfl (ex_assign rfl) ?_
    refine ow_val rfl rfl (ex_assign rfl) ?_
    refine ow_nil ?_
    refine qw_seq ?_
    refine cw_ret ?_
    refine qw_ret2 rfl rfl rfl (fun w' h => ⟨?_, h.ag.below⟩)
    have h0 := of_decide_eq_false c18
    rw [posT_none h0]
    rfl
set_option maxHeartbeats 400000 in
theorem pTerm {b : Nat} {n : Int} {ts : List T} {σ : Hp} {K : List (Nat × Obj)} {w : World} (hi : Has σ K w) (hv : VaultK 68 30 b ts σ K) : Calls Tryd.prog 22 #[.pointer (some ⟨b, 0, none⟩), .int .i64 n] w (GiveR (RepTB (termV ts n).1 (termV ts n).2) σ w) := by
  obtain ⟨sv, xs, m, Gs, rfl, hO, hrow, hti, hfew⟩ := hv
  obtain ⟨p, c, rfl, hcap, hsrc⟩ := hO.seen (σ := exts σ ((b, .cells #[sv, .map (some m)] 68) :: (m, mapObj ts) :: Gs)) (fun q hq => exts_get hi.nd (by simp [hq]))
  have hc0 : CellsAt (exts σ ((b, .cells #[.slice p ts.length c, .map (some m)] 68) :: (m, mapObj ts) :: Gs)) b 0 [.slice p ts.length c] := CellsAt.of1 (exts_get hi.nd List.mem_cons_self) rfl
  have hlt := hi.le
  have him := hi.exts
  generalize exts σ ((b, .cells #[.slice p ts.length c, .map (some m)] 68) :: (m, mapObj ts) :: Gs) = σK at *
  refine enter (St w (fun _ => False) σK [] []) Tryd.func22 rfl Tryd.ntmps22 rfl (St.start him) ?_
  refine cw_seq ?_
  refine cw_region ?_
  refine ow_blk rfl rfl exw_alloc ?_; intro b4
  refine ow_val rfl rfl (ex_assign rfl) ?_
  refine ow_nil ?_
  refine qw_seq ?_
  refine cw_seq ?_
  refine cw_seq ?_
  refine cw_region ?_
  refine ow_val rfl rfl (ex_move rfl) ?_
  refine ow_val rfl rfl (ex_lss rfl rfl) ?_
  refine ow_val rfl rfl (ex_move rfl) ?_
  refine ow_split (g := some (2, false)) rfl (fun s8 => ?_) (fun s8 => ?_)
  ·
    refine ow_skip rfl (gd_no rfl s8) ?_
    refine ow_skip rfl (gd_no rfl s8) ?_
    refine ow_skip rfl (gd_no rfl s8) ?_
    refine ow_skip rfl (gd_no rfl s8) ?_
    refine ow_skip rfl (gd_no rfl s8) ?_
    refine ow_skip rfl (gd_no rfl s8) ?_
    refine ow_skip rfl (gd_no rfl s8) ?_
    refine ow_val rfl rfl (ex_pickt rfl s8 rfl) ?_
    refine ow_nil ?_
    refine qw_seq ?_
    refine cw_cond_t rfl ?_
    refine cw_seq ?_
    refine cw_region ?_
    refine ow_val rfl rfl (ex_build (parts := []) (cells := #[.int .i64 0, .int .i64 0, .slice none 0 0, .slice none 0 0]) rfl (by kernel_rfl)) ?_
    refine ow_u rfl (exu_storeN 0 (cs := [.int .i64 0, .int .i64 0, .slice none 0 0, .slice none 0 0]) rfl rfl rfl rfl (zeroT_c σ).one rfl) ?_
    refine ow_val rfl rfl (ex_assign rfl) ?_
    refine ow_nil ?_
    refine qw_seq ?_
    refine cw_ret ?_
    refine qw_then_ret ?_
    refine qw_retC1 rfl rfl (ld_ownN 0 rfl rfl) rfl (fun w' h => ?_)
    have e : termV ts n = (zeroT, false) := by
      have h8 := of_decide_eq_true s8
      unfold termV
      rw [if_neg (by omega)]
    rw [e]
    exact h.givesS hlt (Le.refl _) (Fresh.refl _ _) ⟨_, rfl, zeroT_c σ⟩
  ·
    refine ow_val rfl (gd_go rfl s8) (ex_move rfl) ?_
    refine ow_val rfl (gd_go rfl s8) (ex_move rfl) ?_
    refine ow_val rfl (gd_go rfl s8) (ex_nilck rfl) ?_
    refine ow_val rfl (gd_go rfl s8) (ex_field rfl) ?_
    refine ow_val rfl (gd_go rfl s8) (ex_load1 rfl (by first | exact ld_own1 0 rfl rfl | exact ld_own1 1 rfl rfl | exact ld_own1 2 rfl rfl | exact ld_own1 3 rfl rfl | exact ld_own1 4 rfl rfl | exact ld_own1 5 rfl rfl | exact ld_own1 6 rfl rfl | exact ld_own1 7 rfl rfl | exact ld_ownG1 0 rfl rfl | exact ld_ownG1 1 rfl rfl | exact ld_imm1 (by assumption))) ?_
    refine ow_val rfl (gd_go rfl s8) (ex_len (ty := 0) rfl) ?_
    refine ow_val rfl (gd_go rfl s8) (ex_geq rfl rfl) ?_
    refine ow_val rfl rfl (ex_pickf rfl s8 rfl) ?_
    refine ow_nil ?_
    refine qw_seq ?_
    refine cw_cond rfl (fun c16 => ?_) (fun c16 => ?_)
    ·
      refine cw_seq ?_
      refine cw_region ?_
      refine ow_val rfl rfl (ex_build (parts := []) (cells := #[.int .i64 0, .int .i64 0, .slice none 0 0, .slice none 0 0]) rfl (by kernel_rfl)) ?_
      refine ow_u rfl (exu_storeN 0 (cs := [.int .i64 0, .int .i64 0, .slice none 0 0, .slice none 0 0]) rfl rfl rfl rfl (zeroT_c σ).one rfl) ?_
      refine ow_val rfl rfl (ex_assign rfl) ?_
      refine ow_nil ?_
      refine qw_seq ?_
      refine cw_ret ?_
      refine qw_then_ret ?_
      refine qw_retC1 rfl rfl (ld_ownN 0 rfl rfl) rfl (fun w' h => ?_)
      have e : termV ts n = (zeroT, false) := by
        have h8 := of_decide_eq_true c16
        unfold termV
        rw [if_neg (by omega)]
      rw [e]
      exact h.givesS hlt (Le.refl _) (Fresh.refl _ _) ⟨_, rfl, zeroT_c σ⟩
    ·
      refine cw_skip ?_
      refine qw_seq ?_
      refine cw_seq ?_
      obtain ⟨hn0, hn1⟩ : 0 ≤ n ∧ n < ts.length := by
        first | (simp at *; omega) | (simp at *; constructor <;> omega)
      obtain ⟨i, rfl⟩ : ∃ i : Nat, n = (i : Int) := ⟨n.toNat, by omega⟩
      have hil : i < ts.length := by omega
      obtain ⟨cs, htc, hcs⟩ := hrow.at i hil
      obtain ⟨bb, ob, rfl, hcb⟩ := hsrc.resolve_left (by omega)
      have hca : CellsAt σK bb (ob + i * 4) cs := by rw [← hcs]; exact (hcb.drop (i * 4)).take 4
      have hcl := htc.len
      refine cw_region ?_
      refine ow_val rfl rfl (ex_move rfl) ?_
      refine ow_val rfl rfl (ex_nilck rfl) ?_
      refine ow_val rfl rfl (ex_field rfl) ?_
      refine ow_val rfl rfl (ex_load1 rfl (by first | exact ld_own1 0 rfl rfl | exact ld_own1 1 rfl rfl | exact ld_own1 2 rfl rfl | exact ld_own1 3 rfl rfl | exact ld_own1 4 rfl rfl | exact ld_own1 5 rfl rfl | exact ld_own1 6 rfl rfl | exact ld_own1 7 rfl rfl | exact ld_ownG1 0 rfl rfl | exact ld_ownG1 1 rfl rfl | exact ld_imm1 (by assumption))) ?_
      refine ow_val rfl rfl (ex_move rfl) ?_
      refine ow_val rfl rfl (ex_index_nat rfl rfl (by omega)) ?_
      refine ow_val rfl rfl (ex_loadR rfl ⟨hcl, fun w h => hca.range h.im⟩) ?_
      refine ow_crs rfl rfl hlt (ex_callf rfl (fun w h => callR (pNorm pSortsS (by unfold maxKids; omega) _ (right_slim (hti.rt _ (List.getElem_mem hil))).2 (fun b o e => h.im b o (hlt b o e)) htc))) (fun v25 τ τK hl hf hr hlk hle => ?_)
      rw [(right_slim (hti.rt _ (List.getElem_mem hil))).1] at hr
      obtain ⟨c25, rfl, ht25⟩ := hr
      have ht25' := ht25
      obtain ⟨d25, k25, rfl, _, _, _, _⟩ := ht25'.opn
      refine ow_u rfl (exu_storeN 0 rfl rfl rfl rfl ht25.one rfl) ?_
      refine ow_val rfl rfl (ex_assign rfl) ?_
      refine ow_nil ?_
      refine qw_seq ?_
      refine cw_ret ?_
      refine qw_retC1 rfl rfl (ld_ownN 0 rfl rfl) rfl (fun w' h => ?_)
      have e : termV ts (i : Int) = (ts[i], true) := by
        unfold termV
        rw [if_pos ⟨hn0, hn1⟩]
        simp [List.getD_eq_getElem?_getD, hil]
      rw [e]
      exact h.givesS hle hl hf ⟨_, rfl, ht25⟩
set_option maxHeartbeats 400000 in
theorem pPut : ∀ (t : T) {b : Nat} {ts : List T} {ct : List Value} {σ : Hp} {K : List (Nat × Obj)} {w : World}, Has σ K w → TabC Tryd.prog σ → VaultK 68 30 b ts σ K → TermC σ ct t → right t = true → (0 ≤ posT ts t ∨ ts.length + size t ≤ 4096) → Calls Tryd.prog 48 #[.pointer (some ⟨b, 0, none⟩), .agg ct.toArray] w (GiveK (fun σ' u K' => u = .int .i64 (numV t ts) ∧ VaultK 68 30 b (putV t ts) σ' K') σ K w) := by
  intro t
  induction t using T.ind with
  | _ o n d ks ih =>
  intro b ts ct σ K w hi htab hv ht hr hroom
  have ht0 := ht
  obtain ⟨dv, kv, rfl, ho, hn, hd, hk⟩ := ht.opn
  simp only [T.kids, T.op, T.num, T.data] at *
  obtain ⟨p, c, rfl, hc, hm⟩ := hk.slice
  have hm2 := hm
  unfold maxKids at hm2
  obtain ⟨pv, cv, mv, hs⟩ := hv.seenX hi
  have hlim := right_lim hr
  have hslim := right_slim hr
  refine enter (St w (keysOf K) σ [] K) Tryd.func48 rfl Tryd.ntmps48 rfl (Has.start hi) ?_
  refine cw_seq ?_
  refine cw_region ?_
  refine ow_blk rfl rfl (exw_box rfl) ?_; intro b3
  refine ow_val rfl rfl (ex_assign rfl) ?_
  refine ow_nil ?_
  refine qw_seq ?_
  refine cw_seq ?_
  refine cw_region ?_
  refine ow_val rfl rfl (ex_loadR rfl (by first | exact ld_ownN 0 rfl rfl | exact ld_ownN 1 rfl rfl | exact ld_ownN 2 rfl rfl | exact ld_ownN 3 rfl rfl | exact ld_ownN 4 rfl rfl | exact ld_ownN 5 rfl rfl | exact ld_ownN 6 rfl rfl | exact ld_ownN 7 rfl rfl | exact ld_ownGN 0 rfl rfl | exact ld_ownGN 1 rfl rfl | exact ld_immT (by assumption) (by assumption))) ?_
  refine ow_cv rfl rfl (ex_callf rfl (fun w h => callB ((pKey _ h.im htab ht0 hlim)))) ?_
  refine ow_val rfl rfl (ex_assign rfl) ?_
  refine ow_nil ?_
  refine qw_seq ?_
  refine cw_seq ?_
  refine cw_seq ?_
  refine cw_region ?_
  refine ow_val rfl rfl (ex_move rfl) ?_
  refine ow_val rfl rfl (ex_nilck rfl) ?_
  refine ow_val rfl rfl (ex_field rfl) ?_
  refine ow_val rfl rfl (ex_load1 rfl (fun w h => hs.c1.cell h.hasE.exts)) ?_
  refine ow_val rfl rfl (ex_move rfl) ?_
  refine ow_val rfl rfl (ex_mapget rfl rfl (fun w h => h.hasE.exts _ _ hs.mp)) ?_
  refine ow_val rfl rfl (ex_move rfl) ?_
  refine ow_val rfl rfl (ex_extract rfl rfl) ?_
  refine ow_val rfl rfl (ex_extract rfl rfl) ?_
  refine ow_val rfl rfl (ex_assign rfl) ?_
  refine ow_val rfl rfl (ex_assign rfl) ?_
  refine ow_nil ?_
  refine qw_seq ?_
  refine cw_seq ?_
  refine cw_region ?_
  refine ow_val rfl rfl (ex_move rfl) ?_
  refine ow_nil ?_
  refine qw_seq ?_
  refine cw_cond rfl (fun c22 => ?_) (fun c22 => ?_)
  ·
    refine cw_seq ?_
    refine cw_region ?_
    refine ow_val rfl rfl (ex_move rfl) ?_
    refine ow_val rfl rfl (ex_assign rfl) ?_
    refine ow_nil ?_
    refine qw_seq ?_
    refine cw_ret ?_
    refine qw_then_ret ?_
    refine qw_ret1 rfl rfl (fun w' h => ?_)
    have h0 := of_decide_eq_true c22
    refine (h.drop (List.nil_sublist _)).givesK (Le.refl _) (Fresh.refl _ _) ⟨?_, ?_⟩
    · unfold numV
      rw [if_pos h0, if_pos h0]
    · rw [putV_mk, if_pos h0]
      exact hv
  ·
    have hnp : ¬ 0 ≤ posT ts (.mk o n d ks) := of_decide_eq_false c22
    have hsz := hroom.resolve_left hnp
    simp only [size] at hsz
    refine cw_skip ?_
    refine qw_seq ?_
    refine cw_seq ?_
    refine cw_seq ?_
    refine cw_region ?_
    refine ow_val rfl rfl (ex_field rfl) ?_
    refine ow_val rfl rfl (ex_load1 rfl (by first | exact ld_own1 0 rfl rfl | exact ld_own1 1 rfl rfl | exact ld_own1 2 rfl rfl | exact ld_own1 3 rfl rfl | exact ld_own1 4 rfl rfl | exact ld_own1 5 rfl rfl | exact ld_own1 6 rfl rfl | exact ld_own1 7 rfl rfl | exact ld_ownG1 0 rfl rfl | exact ld_ownG1 1 rfl rfl | exact ld_imm1 (by assumption))) ?_
    refine ow_val rfl rfl (ex_len (ty := 0) rfl) ?_
    refine ow_val rfl rfl (ex_move rfl) ?_
    refine ow_nil ?_
    refine qw_seq ?_
    refine cw_block ?_
    refine cw_loop3 (fun (j : Nat) (τ : Hp) (K' : List (Nat × Obj)) => [(0, .pointer (some ⟨b, 0, none⟩)), (3, .pointer (some ⟨b3, 0, none⟩)), (5, .string (strOf (keyB (.mk o n d ks)))), (25, .slice p ks.length c), (26, .int .i64 (ks.length : Int)), (27, .int .i64 (j : Int))]) (fun j τ K' => j ≤ ks.length ∧ Le σ τ ∧ Fresh σ τ w ∧ VaultK 68 30 b (putVs (ks.take j) ts) τ K') (fun j τ K' => τ) (fun j τ K' => K') (fun j _ _ => ks.length - j) 0 σ K (subL_cons (lkv rfl (by first | rfl | simp)) (subL_cons (lkv rfl (by first | rfl | simp)) (subL_cons (lkv rfl (by first | rfl | simp)) (subL_cons (lkv rfl (by first | rfl | simp)) (subL_cons (lkv rfl (by first | rfl | simp)) (subL_cons (lkv rfl (by first | rfl | simp)) (subL_nil _))))))) ⟨Nat.zero_le _, Le.refl _, Fresh.refl _ _, by simpa [putVs] using hv⟩ (fun w h => h) ?_
    intro j τj Kj ⟨hlej, hlj, hfj, hvj⟩
    refine cw_seq ?_
    refine cw_region ?_
    refine ow_val rfl rfl (ex_lss rfl rfl) ?_
    refine ow_nil ?_
    refine qw_seq ?_
    refine cw_seq ?_
    refine cw_cond rfl (fun c28 => ?_) (fun c28 => ?_)
    ·
      refine cw_skip ?_
      refine qw_seq ?_
      refine cw_seq ?_
      refine cw_block ?_
      refine cw_seq ?_
      have hltj : j < ks.length := by have := of_decide_eq_true c28; omega
      obtain ⟨bk, f, c', cs, e1, e2, hc1, ht1⟩ := hk.get j hltj
      cases e1
      have ht1' := ht1
      obtain ⟨d9, k9, rfl, _, _, _, _⟩ := ht1'.opn
      have hst := putVs_take ks ts j hltj
      have hpl := putVs_len ks ts j
      have hs1 := sizes_take ks j hltj
      have hs2 := sizes_take_le ks (j + 1)
      refine cw_region ?_
      refine ow_val rfl rfl (ex_index_nat rfl rfl (by omega)) ?_
      refine ow_val rfl rfl (ex_loadR rfl (ld_immT (hc1.le hlj) (ht1.le hlj))) ?_
      refine ow_blk rfl rfl exw_alloc ?_; intro b9
      refine ow_u rfl (exu_storeN 0 rfl rfl rfl rfl ht1.one rfl) ?_
      refine ow_nil ?_
      refine qw_seq ?_
      refine cw_region ?_
      refine ow_val rfl rfl (ex_move rfl) ?_
      refine ow_val rfl rfl (ex_loadR rfl (by first | exact ld_ownN 0 rfl rfl | exact ld_ownN 1 rfl rfl | exact ld_ownN 2 rfl rfl | exact ld_ownN 3 rfl rfl | exact ld_ownN 4 rfl rfl | exact ld_ownN 5 rfl rfl | exact ld_ownN 6 rfl rfl | exact ld_ownN 7 rfl rfl | exact ld_ownGN 0 rfl rfl | exact ld_ownGN 1 rfl rfl | exact ld_immT (by assumption) (by assumption))) ?_
      refine ow_ckE rfl rfl (ex_callf rfl (fun w h => ih _ (List.getElem_mem hltj) h.hasE (htab.le hlj) hvj (ht1.le hlj) (right_in (t := .mk o n d ks) hr (List.getElem_mem hltj)) (.inr (by omega)))) (fun v33 τ33 K33 hl33 hf33 hr33 => ?_)
      refine ow_nil ?_
      refine qw_block_normal ?_
      refine qw_seq ?_
      refine cw_region ?_
      refine ow_val rfl rfl (ex_addi (z := ((j + 1 : Nat) : Int)) rfl rfl (by omega) (by omega) (by omega)) ?_
      refine ow_val rfl rfl (ex_move rfl) ?_
      refine ow_nil ?_
      refine qw_round3 (j + 1) τ33 K33 (by omega) (subL_cons (lkv rfl (by first | rfl | simp)) (subL_cons (lkv rfl (by first | rfl | simp)) (subL_cons (lkv rfl (by first | rfl | simp)) (subL_cons (lkv rfl (by first | rfl | simp)) (subL_cons (lkv rfl (by first | rfl | simp)) (subL_cons (lkv rfl (by first | rfl | simp)) (subL_nil _))))))) ⟨by omega, hlj.trans hl33, hfj.trans hf33, ?_⟩ (fun w h => h.drop (List.sublist_cons_self _ _))
      rw [hst]
      exact hr33.2
    ·
      refine cw_exit ?_
      refine qw_then_exit ?_
      refine qw_then_exit ?_
      refine qw_block_exit ?_
      refine qw_seq ?_
      refine cw_seq ?_
      have he : j = ks.length := by have := of_decide_eq_false c28; omega
      subst he
      rw [List.take_length] at hvj
      have hpl := putVs_len ks ts ks.length
      rw [List.take_length] at hpl
      have hnew := putVs_new (t := .mk o n d ks) hnp
      simp only [T.kids] at hnew
      obtain ⟨sv, xs, m, Gs, rfl, hO, hrow, hti, hfew⟩ := hvj
      obtain ⟨pq, cq, rfl, hcq⟩ := hO.slice
      refine cw_region ?_
      refine ow_val rfl rfl (ex_move rfl) ?_
      refine ow_val rfl rfl (ex_nilck rfl) ?_
      refine ow_val rfl rfl (ex_field rfl) ?_
      refine ow_val rfl rfl (ex_load1 rfl (by first | exact ld_own1 0 rfl rfl | exact ld_own1 1 rfl rfl | exact ld_own1 2 rfl rfl | exact ld_own1 3 rfl rfl | exact ld_own1 4 rfl rfl | exact ld_own1 5 rfl rfl | exact ld_own1 6 rfl rfl | exact ld_own1 7 rfl rfl | exact ld_ownG1 0 rfl rfl | exact ld_ownG1 1 rfl rfl | exact ld_imm1 (by assumption))) ?_
      refine ow_val rfl rfl (ex_len (ty := 0) rfl) ?_
      refine ow_val rfl rfl (ex_assign rfl) ?_
      refine ow_nil ?_
      refine qw_seq ?_
      refine cw_cut [(0, .pointer (some ⟨b, 0, none⟩)), (5, .string (strOf (keyB (.mk o n d ks)))), (10, .int .i64 ((putVs ks ts).length : Int))] (fun w' => ∃ (τ5 : Hp) (c45 : List Value) (g cg : Nat) (tl : List Value), (Le τj τ5 ∧ Fresh τj τ5 w ∧ TermC τ5 c45 (.mk o n d ks) ∧ (putVs ks ts).length + 1 ≤ cg ∧ cg ≤ maxLen ∧ (xs ++ c45 ++ tl).length = cg * 4) ∧ St w (keysOf K) τ5 [(g, rowO (xs ++ c45) tl 30), (m, mapObj (putVs ks ts)), (b, .cells #[.slice (some ⟨g, 0, none⟩) ((putVs ks ts).length + 1) cg, .map (some m)] 68)] [] w') ?_ ?_
      ·
        refine flow_soundT 8 (by kernel_rfl) ?_
        refine flow_val rfl (ex_move rfl) ?_
        refine flow_val rfl (ex_nilck rfl) ?_
        refine flow_val rfl (ex_field rfl) ?_
        refine flow_val rfl (ex_load1 rfl (by first | exact ld_own1 0 rfl rfl | exact ld_own1 1 rfl rfl | exact ld_own1 2 rfl rfl | exact ld_own1 3 rfl rfl | exact ld_own1 4 rfl rfl | exact ld_own1 5 rfl rfl | exact ld_own1 6 rfl rfl | exact ld_own1 7 rfl rfl | exact ld_ownG1 0 rfl rfl | exact ld_ownG1 1 rfl rfl | exact ld_imm1 (by assumption))) ?_
        refine flow_val rfl (ex_loadR rfl (by first | exact ld_ownN 0 rfl rfl | exact ld_ownN 1 rfl rfl | exact ld_ownN 2 rfl rfl | exact ld_ownN 3 rfl rfl | exact ld_ownN 4 rfl rfl | exact ld_ownN 5 rfl rfl | exact ld_ownN 6 rfl rfl | exact ld_ownN 7 rfl rfl | exact ld_ownGN 0 rfl rfl | exact ld_ownGN 1 rfl rfl | exact ld_immT (by assumption) (by assumption))) ?_
        refine flow_cr rfl (ex_callf rfl (fun w h => callR (pNorm pSortsS (by unfold maxKids; omega) _ hslim.2 h.im (ht0.le hlj)))) ?_
        refine flow_val rfl (ex_len (ty := 0) rfl) ?_
        refine flow_sat QR.pers (obk (ob_one rfl rfl (zeroT_c _))) ?_
        refine flow_nilT ?_
        refine fint_satR (Le.refl _) (fun v47 τ7 hl7 hf7 hr7 => ?_)
        obtain ⟨bo, co, rfl, hco, htco⟩ := hr7
        refine fint_is ?_
        refine fint_satR hl7 (fun v45 τ5 hl5 hf5 hr5 => ?_)
        rw [hslim.1] at hr5
        obtain ⟨c45, rfl, ht45⟩ := hr5
        refine fint_is ?_
        refine fint_is ?_
        refine fint_is ?_
        refine fint_is ?_
        refine fint_is ?_
        refine fint_nil ?_
        refine any_one (i := 8) (by kernel_rfl) ?_
        refine next_mono (fun w h => h.ofG.ofG) ?_
        refine next_app1 rfl rfl (exw_append1 (news := co) rfl rfl hO (by simp [htco.len]) (.inr ⟨_, _, rfl, fun w h => (hco.le hl5).range h.im⟩) htco.one (by unfold maxLen; omega) (by omega)) (fun v48 G48 hO48 hz48 => ?_)
        obtain ⟨g, cg, tl, rfl, rfl, hg1, hg2, hg3⟩ := hO48.open (by omega)
        refine any_mono (fun w h => h.ofG) ?_
        refine any_two (i := 9) (j := 11) (by kernel_rfl) ?_ ?_
        ·
          refine next_val rfl rfl (ex_index_nat rfl rfl (by omega)) ?_
          refine any_two (i := 10) (j := 11) (by kernel_rfl) ?_ ?_
          ·
            refine next_u rfl (exu_storeX 0 rfl rfl rfl ht45.len ht45.one (by simp [hrow.len, htco.len])) ?_
            refine any_one (i := 11) (by kernel_rfl) ?_
            refine next_val rfl rfl (ex_nilck rfl) ?_
            refine any_one (i := 12) (by kernel_rfl) ?_
            refine next_val rfl rfl (ex_field rfl) ?_
            refine any_one (i := 13) (by kernel_rfl) ?_
            refine next_u rfl (exu_store1 2 rfl rfl rfl rfl rfl rfl) ?_
            refine any_done (by kernel_rfl) ?_
            refine qw_meet (subL_cons (lkv rfl (by first | rfl | simp)) (subL_cons (lkv rfl (by first | rfl | simp)) (subL_cons (lkv rfl (by first | rfl | simp)) (subL_nil _)))) (fun w' h => ⟨τ5, c45, g, cg, tl, ⟨hl7.trans hl5, hf7.trans hf5, ht45, hg1, hg2, by have h1 := ht45.len; have h2 := htco.len; simp only [List.length_append] at hg3 ⊢; omega⟩, ?_⟩)
            have h1 : St w (keysOf K) τ5 [(g, rowO (setX (xs ++ co) (putVs ks ts).length c45) tl 30), (m, mapObj (putVs ks ts)), (b, .cells #[.slice (some ⟨g, 0, none⟩) ((putVs ks ts).length + 1) cg, .map (some m)] 68)] [] w' := h.drop (.cons_cons _ (.cons_cons _ (.cons_cons _ (List.nil_sublist _))))
            rwa [setX_snoc hrow.len htco.len] at h1
          ·
            refine next_val rfl rfl (ex_nilck rfl) ?_
            refine any_two (i := 10) (j := 12) (by kernel_rfl) ?_ ?_
            ·
              refine next_u rfl (exu_storeX 0 rfl rfl rfl ht45.len ht45.one (by simp [hrow.len, htco.len])) ?_
              refine any_one (i := 12) (by kernel_rfl) ?_
              refine next_val rfl rfl (ex_field rfl) ?_
              refine any_one (i := 13) (by kernel_rfl) ?_
              refine next_u rfl (exu_store1 2 rfl rfl rfl rfl rfl rfl) ?_
              refine any_done (by kernel_rfl) ?_
              refine qw_meet (subL_cons (lkv rfl (by first | rfl | simp)) (subL_cons (lkv rfl (by first | rfl | simp)) (subL_cons (lkv rfl (by first | rfl | simp)) (subL_nil _)))) (fun w' h => ⟨τ5, c45, g, cg, tl, ⟨hl7.trans hl5, hf7.trans hf5, ht45, hg1, hg2, by have h1 := ht45.len; have h2 := htco.len; simp only [List.length_append] at hg3 ⊢; omega⟩, ?_⟩)
              have h1 : St w (keysOf K) τ5 [(g, rowO (setX (xs ++ co) (putVs ks ts).length c45) tl 30), (m, mapObj (putVs ks ts)), (b, .cells #[.slice (some ⟨g, 0, none⟩) ((putVs ks ts).length + 1) cg, .map (some m)] 68)] [] w' := h.drop (.cons_cons _ (.cons_cons _ (.cons_cons _ (List.nil_sublist _))))
              rwa [setX_snoc hrow.len htco.len] at h1
            ·
              refine next_val rfl rfl (ex_field rfl) ?_
              refine any_two (i := 10) (j := 13) (by kernel_rfl) ?_ ?_
              ·
                refine next_u rfl (exu_storeX 0 rfl rfl rfl ht45.len ht45.one (by simp [hrow.len, htco.len])) ?_
                refine any_one (i := 13) (by kernel_rfl) ?_
                refine next_u rfl (exu_store1 2 rfl rfl rfl rfl rfl rfl) ?_
                refine any_done (by kernel_rfl) ?_
                refine qw_meet (subL_cons (lkv rfl (by first | rfl | simp)) (subL_cons (lkv rfl (by first | rfl | simp)) (subL_cons (lkv rfl (by first | rfl | simp)) (subL_nil _)))) (fun w' h => ⟨τ5, c45, g, cg, tl, ⟨hl7.trans hl5, hf7.trans hf5, ht45, hg1, hg2, by have h1 := ht45.len; have h2 := htco.len; simp only [List.length_append] at hg3 ⊢; omega⟩, ?_⟩)
                have h1 : St w (keysOf K) τ5 [(g, rowO (setX (xs ++ co) (putVs ks ts).length c45) tl 30), (m, mapObj (putVs ks ts)), (b, .cells #[.slice (some ⟨g, 0, none⟩) ((putVs ks ts).length + 1) cg, .map (some m)] 68)] [] w' := h.drop (.cons_cons _ (.cons_cons _ (.cons_cons _ (List.nil_sublist _))))
                rwa [setX_snoc hrow.len htco.len] at h1
              ·
                refine next_u rfl (exu_store1 2 rfl rfl rfl rfl rfl rfl) ?_
                refine any_one (i := 10) (by kernel_rfl) ?_
                refine next_u rfl (exu_storeX 0 rfl rfl rfl ht45.len ht45.one (by simp [hrow.len, htco.len])) ?_
                refine any_done (by kernel_rfl) ?_
                refine qw_meet (subL_cons (lkv rfl (by first | rfl | simp)) (subL_cons (lkv rfl (by first | rfl | simp)) (subL_cons (lkv rfl (by first | rfl | simp)) (subL_nil _)))) (fun w' h => ⟨τ5, c45, g, cg, tl, ⟨hl7.trans hl5, hf7.trans hf5, ht45, hg1, hg2, by have h1 := ht45.len; have h2 := htco.len; simp only [List.length_append] at hg3 ⊢; omega⟩, ?_⟩)
                have h1 : St w (keysOf K) τ5 [(g, rowO (setX (xs ++ co) (putVs ks ts).length c45) tl 30), (m, mapObj (putVs ks ts)), (b, .cells #[.slice (some ⟨g, 0, none⟩) ((putVs ks ts).length + 1) cg, .map (some m)] 68)] [] w' := h.drop (.cons_cons _ (.cons_cons _ (.cons_cons _ (List.nil_sublist _))))
                rwa [setX_snoc hrow.len htco.len] at h1
        ·
          refine next_val rfl rfl (ex_nilck rfl) ?_
          refine any_two (i := 9) (j := 12) (by kernel_rfl) ?_ ?_
          ·
            refine next_val rfl rfl (ex_index_nat rfl rfl (by omega)) ?_
            refine any_two (i := 10) (j := 12) (by kernel_rfl) ?_ ?_
            ·
              refine next_u rfl (exu_storeX 0 rfl rfl rfl ht45.len ht45.one (by simp [hrow.len, htco.len])) ?_
              refine any_one (i := 12) (by kernel_rfl) ?_
              refine next_val rfl rfl (ex_field rfl) ?_
              refine any_one (i := 13) (by kernel_rfl) ?_
              refine next_u rfl (exu_store1 2 rfl rfl rfl rfl rfl rfl) ?_
              refine any_done (by kernel_rfl) ?_
              refine qw_meet (subL_cons (lkv rfl (by first | rfl | simp)) (subL_cons (lkv rfl (by first | rfl | simp)) (subL_cons (lkv rfl (by first | rfl | simp)) (subL_nil _)))) (fun w' h => ⟨τ5, c45, g, cg, tl, ⟨hl7.trans hl5, hf7.trans hf5, ht45, hg1, hg2, by have h1 := ht45.len; have h2 := htco.len; simp only [List.length_append] at hg3 ⊢; omega⟩, ?_⟩)
              have h1 : St w (keysOf K) τ5 [(g, rowO (setX (xs ++ co) (putVs ks ts).length c45) tl 30), (m, mapObj (putVs ks ts)), (b, .cells #[.slice (some ⟨g, 0, none⟩) ((putVs ks ts).length + 1) cg, .map (some m)] 68)] [] w' := h.drop (.cons_cons _ (.cons_cons _ (.cons_cons _ (List.nil_sublist _))))
              rwa [setX_snoc hrow.len htco.len] at h1
            ·
              refine next_val rfl rfl (ex_field rfl) ?_
              refine any_two (i := 10) (j := 13) (by kernel_rfl) ?_ ?_
              ·
                refine next_u rfl (exu_storeX 0 rfl rfl rfl ht45.len ht45.one (by simp [hrow.len, htco.len])) ?_
                refine any_one (i := 13) (by kernel_rfl) ?_
                refine next_u rfl (exu_store1 2 rfl rfl rfl rfl rfl rfl) ?_
                refine any_done (by kernel_rfl) ?_
                refine qw_meet (subL_cons (lkv rfl (by first | rfl | simp)) (subL_cons (lkv rfl (by first | rfl | simp)) (subL_cons (lkv rfl (by first | rfl | simp)) (subL_nil _)))) (fun w' h => ⟨τ5, c45, g, cg, tl, ⟨hl7.trans hl5, hf7.trans hf5, ht45, hg1, hg2, by have h1 := ht45.len; have h2 := htco.len; simp only [List.length_append] at hg3 ⊢; omega⟩, ?_⟩)
                have h1 : St w (keysOf K) τ5 [(g, rowO (setX (xs ++ co) (putVs ks ts).length c45) tl 30), (m, mapObj (putVs ks ts)), (b, .cells #[.slice (some ⟨g, 0, none⟩) ((putVs ks ts).length + 1) cg, .map (some m)] 68)] [] w' := h.drop (.cons_cons _ (.cons_cons _ (.cons_cons _ (List.nil_sublist _))))
                rwa [setX_snoc hrow.len htco.len] at h1
              ·
                refine next_u rfl (exu_store1 2 rfl rfl rfl rfl rfl rfl) ?_
                refine any_one (i := 10) (by kernel_rfl) ?_
                refine next_u rfl (exu_storeX 0 rfl rfl rfl ht45.len ht45.one (by simp [hrow.len, htco.len])) ?_
                refine any_done (by kernel_rfl) ?_
                refine qw_meet (subL_cons (lkv rfl (by first | rfl | simp)) (subL_cons (lkv rfl (by first | rfl | simp)) (subL_cons (lkv rfl (by first | rfl | simp)) (subL_nil _)))) (fun w' h => ⟨τ5, c45, g, cg, tl, ⟨hl7.trans hl5, hf7.trans hf5, ht45, hg1, hg2, by have h1 := ht45.len; have h2 := htco.len; simp only [List.length_append] at hg3 ⊢; omega⟩, ?_⟩)
                have h1 : St w (keysOf K) τ5 [(g, rowO (setX (xs ++ co) (putVs ks ts).length c45) tl 30), (m, mapObj (putVs ks ts)), (b, .cells #[.slice (some ⟨g, 0, none⟩) ((putVs ks ts).length + 1) cg, .map (some m)] 68)] [] w' := h.drop (.cons_cons _ (.cons_cons _ (.cons_cons _ (List.nil_sublist _))))
                rwa [setX_snoc hrow.len htco.len] at h1
          ·
            refine next_val rfl rfl (ex_field rfl) ?_
            refine any_two (i := 9) (j := 13) (by kernel_rfl) ?_ ?_
            ·
              refine next_val rfl rfl (ex_index_nat rfl rfl (by omega)) ?_
              refine any_two (i := 10) (j := 13) (by kernel_rfl) ?_ ?_
              ·
                refine next_u rfl (exu_storeX 0 rfl rfl rfl ht45.len ht45.one (by simp [hrow.len, htco.len])) ?_
                refine any_one (i := 13) (by kernel_rfl) ?_
                refine next_u rfl (exu_store1 2 rfl rfl rfl rfl rfl rfl) ?_
                refine any_done (by kernel_rfl) ?_
                refine qw_meet (subL_cons (lkv rfl (by first | rfl | simp)) (subL_cons (lkv rfl (by first | rfl | simp)) (subL_cons (lkv rfl (by first | rfl | simp)) (subL_nil _)))) (fun w' h => ⟨τ5, c45, g, cg, tl, ⟨hl7.trans hl5, hf7.trans hf5, ht45, hg1, hg2, by have h1 := ht45.len; have h2 := htco.len; simp only [List.length_append] at hg3 ⊢; omega⟩, ?_⟩)
                have h1 : St w (keysOf K) τ5 [(g, rowO (setX (xs ++ co) (putVs ks ts).length c45) tl 30), (m, mapObj (putVs ks ts)), (b, .cells #[.slice (some ⟨g, 0, none⟩) ((putVs ks ts).length + 1) cg, .map (some m)] 68)] [] w' := h.drop (.cons_cons _ (.cons_cons _ (.cons_cons _ (List.nil_sublist _))))
                rwa [setX_snoc hrow.len htco.len] at h1
              ·
                refine next_u rfl (exu_store1 2 rfl rfl rfl rfl rfl rfl) ?_
                refine any_one (i := 10) (by kernel_rfl) ?_
                refine next_u rfl (exu_storeX 0 rfl rfl rfl ht45.len ht45.one (by simp [hrow.len, htco.len])) ?_
                refine any_done (by kernel_rfl) ?_
                refine qw_meet (subL_cons (lkv rfl (by first | rfl | simp)) (subL_cons (lkv rfl (by first | rfl | simp)) (subL_cons (lkv rfl (by first | rfl | simp)) (subL_nil _)))) (fun w' h => ⟨τ5, c45, g, cg, tl, ⟨hl7.trans hl5, hf7.trans hf5, ht45, hg1, hg2, by have h1 := ht45.len; have h2 := htco.len; simp only [List.length_append] at hg3 ⊢; omega⟩, ?_⟩)
                have h1 : St w (keysOf K) τ5 [(g, rowO (setX (xs ++ co) (putVs ks ts).length c45) tl 30), (m, mapObj (putVs ks ts)), (b, .cells #[.slice (some ⟨g, 0, none⟩) ((putVs ks ts).length + 1) cg, .map (some m)] 68)] [] w' := h.drop (.cons_cons _ (.cons_cons _ (.cons_cons _ (List.nil_sublist _))))
                rwa [setX_snoc hrow.len htco.len] at h1
            ·
              refine next_u rfl (exu_store1 2 rfl rfl rfl rfl rfl rfl) ?_
              refine any_one (i := 9) (by kernel_rfl) ?_
              refine next_val rfl rfl (ex_index_nat rfl rfl (by omega)) ?_
              refine any_one (i := 10) (by kernel_rfl) ?_
              refine next_u rfl (exu_storeX 0 rfl rfl rfl ht45.len ht45.one (by simp [hrow.len, htco.len])) ?_
              refine any_done (by kernel_rfl) ?_
              refine qw_meet (subL_cons (lkv rfl (by first | rfl | simp)) (subL_cons (lkv rfl (by first | rfl | simp)) (subL_cons (lkv rfl (by first | rfl | simp)) (subL_nil _)))) (fun w' h => ⟨τ5, c45, g, cg, tl, ⟨hl7.trans hl5, hf7.trans hf5, ht45, hg1, hg2, by have h1 := ht45.len; have h2 := htco.len; simp only [List.length_append] at hg3 ⊢; omega⟩, ?_⟩)
              have h1 : St w (keysOf K) τ5 [(g, rowO (setX (xs ++ co) (putVs ks ts).length c45) tl 30), (m, mapObj (putVs ks ts)), (b, .cells #[.slice (some ⟨g, 0, none⟩) ((putVs ks ts).length + 1) cg, .map (some m)] 68)] [] w' := h.drop (.cons_cons _ (.cons_cons _ (.cons_cons _ (List.nil_sublist _))))
              rwa [setX_snoc hrow.len htco.len] at h1
      ·
        refine cw_ex fun τ5 => cw_ex fun c45 => cw_ex fun g => cw_ex fun cg => cw_ex fun tl => cw_and fun ⟨hl5, hf5, ht45, hg1, hg2, hg3⟩ => ?_
        refine cw_seq ?_
        refine cw_region ?_
        refine ow_val rfl rfl (ex_move rfl) ?_
        refine ow_val rfl rfl (ex_nilck rfl) ?_
        refine ow_val rfl rfl (ex_field rfl) ?_
        refine ow_val rfl rfl (ex_load1 rfl (by first | exact ld_own1 0 rfl rfl | exact ld_own1 1 rfl rfl | exact ld_own1 2 rfl rfl | exact ld_own1 3 rfl rfl | exact ld_own1 4 rfl rfl | exact ld_own1 5 rfl rfl | exact ld_own1 6 rfl rfl | exact ld_own1 7 rfl rfl | exact ld_ownG1 0 rfl rfl | exact ld_ownG1 1 rfl rfl | exact ld_imm1 (by assumption))) ?_
        refine ow_val rfl rfl (ex_move rfl) ?_
        refine ow_val rfl rfl (ex_move rfl) ?_
        refine ow_u rfl (exu_mapput 1 rfl rfl rfl rfl hnew) ?_
        refine ow_nil ?_
        refine qw_seq ?_
        refine cw_seq ?_
        refine cw_region ?_
        refine ow_val rfl rfl (ex_move rfl) ?_
        refine ow_val rfl rfl (ex_assign rfl) ?_
        refine ow_nil ?_
        refine qw_seq ?_
        refine cw_ret ?_
        refine qw_ret1 rfl rfl (fun w' h => ?_)
        have h2 := (St.flip h).permG (List.reverse_perm _)
        have hlen1 : (putVs ks ts ++ [T.mk o n d ks]).length = (putVs ks ts).length + 1 := by simp
        have hxl := hrow.len
        have hcl5 := ht45.len
        refine h2.givesK (hlj.trans hl5) (hfj.trans hf5) ⟨?_, ?_⟩
        · unfold numV
          rw [if_neg hnp]; rfl
        · rw [putV_mk, if_neg hnp]
          refine ⟨_, xs ++ c45, m, _, rfl, ?_, (hrow.le hl5).append (RowC.one ht45), hti.snoc (fun hm => hnew (posT_iff.2 hm)) hr (fun k hk => mem_putVs ts hk), ?_⟩
          · rw [show (putVs (T.mk o n d ks).kids ts ++ [T.mk o n d ks]).length = (putVs ks ts).length + 1 from hlen1]
            exact OwnSl.close (by simp; omega) hg1 hg2 hg3
          · rw [show (putVs (T.mk o n d ks).kids ts ++ [T.mk o n d ks]).length = (putVs ks ts).length + 1 from hlen1]; omega
set_option maxHeartbeats 400000 in
theorem pIntern (t : T) {b : Nat} {ts : List T} {ct : List Value} {σ : Hp} {K : List (Nat × Obj)} {w : World} (hi : Has σ K w) (htab : TabC Tryd.prog σ) (hv : VaultK 68 30 b ts σ K) (ht : TermC σ ct t) : Calls Tryd.prog 17 #[.pointer (some ⟨b, 0, none⟩), .agg ct.toArray] w (GiveK (fun σ' u K' => u = .tuple #[.int .i64 (intern ts t).1, .int .i64 (intern ts t).2.1] ∧ VaultK 68 30 b (intern ts t).2.2 σ' K') σ K w) := by
  have ht0 := ht
  obtain ⟨dv, kv, rfl, ho, hn, hd, hk⟩ := ht.opn
  obtain ⟨pv, cv, mv, hs⟩ := hv.seenX hi
  have hfew := hs.few
  refine enter (St w (keysOf K) σ [] K) Tryd.func17 rfl Tryd.ntmps17 rfl (Has.start hi) ?_
  refine cw_seq ?_
  refine cw_region ?_
  refine ow_blk rfl rfl (exw_box rfl) ?_; intro b3
  refine ow_val rfl rfl (ex_assign rfl) ?_
  refine ow_val rfl rfl (ex_assign rfl) ?_
  refine ow_nil ?_
  refine qw_seq ?_
  refine cw_seq ?_
  refine cw_seq ?_
  refine cw_region ?_
  refine ow_val rfl rfl (ex_loadR rfl (by first | exact ld_ownN 0 rfl rfl | exact ld_ownN 1 rfl rfl | exact ld_ownN 2 rfl rfl | exact ld_ownN 3 rfl rfl | exact ld_ownN 4 rfl rfl | exact ld_ownN 5 rfl rfl | exact ld_ownN 6 rfl rfl | exact ld_ownN 7 rfl rfl | exact ld_ownGN 0 rfl rfl | exact ld_ownGN 1 rfl rfl | exact ld_immT (by assumption) (by assumption))) ?_
  refine ow_cv rfl rfl (ex_callf rfl (fun w h => callB ((pRight t h.im ht0)))) ?_
  refine ow_val rfl rfl (ex_not rfl) ?_
  refine ow_nil ?_
  refine qw_seq ?_
  refine cw_cond rfl (fun c10 => ?_) (fun c10 => ?_)
  ·
    refine cw_seq ?_
    refine cw_region ?_
    refine ow_val rfl rfl (ex_assign rfl) ?_
    refine ow_val rfl rfl (ex_assign rfl) ?_
    refine ow_nil ?_
    refine qw_seq ?_
    refine cw_ret ?_
    refine qw_then_ret ?_
    refine qw_ret2 rfl rfl rfl (fun w' h => ?_)
    have hr : ¬ right t = true := by simpa using c10
    have e : intern ts t = (-1, 51, ts) := by unfold intern; rw [if_neg hr]
    rw [e]
    exact (h.drop (List.nil_sublist _)).givesK (Le.refl _) (Fresh.refl _ _) ⟨rfl, hv⟩
  ·
    have hr : right t = true := by simpa using c10
    refine cw_skip ?_
    refine qw_seq ?_
    refine cw_seq ?_
    refine cw_seq ?_
    refine cw_region ?_
    refine ow_val rfl rfl (ex_move rfl) ?_
    refine ow_val rfl rfl (ex_loadR rfl (by first | exact ld_ownN 0 rfl rfl | exact ld_ownN 1 rfl rfl | exact ld_ownN 2 rfl rfl | exact ld_ownN 3 rfl rfl | exact ld_ownN 4 rfl rfl | exact ld_ownN 5 rfl rfl | exact ld_ownN 6 rfl rfl | exact ld_ownN 7 rfl rfl | exact ld_ownGN 0 rfl rfl | exact ld_ownGN 1 rfl rfl | exact ld_immT (by assumption) (by assumption))) ?_
    refine ow_cv rfl rfl (ex_callf rfl (fun w h => callB ((pFind t h.hasE.exts (htab.le hi.le) hs (ht0.le hi.le) (right_lim hr))))) ?_
    refine ow_val rfl rfl (ex_move rfl) ?_
    refine ow_val rfl rfl (ex_extract rfl rfl) ?_
    refine ow_val rfl rfl (ex_extract rfl rfl) ?_
    refine ow_val rfl rfl (ex_assign rfl) ?_
    refine ow_val rfl rfl (ex_assign rfl) ?_
    refine ow_nil ?_
    refine qw_seq ?_
    refine cw_seq ?_
    refine cw_region ?_
    refine ow_val rfl rfl (ex_move rfl) ?_
    refine ow_nil ?_
    refine qw_seq ?_
    refine cw_cond rfl (fun c17 => ?_) (fun c17 => ?_)
    ·
      refine cw_seq ?_
      refine cw_region ?_
      refine ow_val rfl rfl (ex_move rfl) ?_
      refine ow_val rfl rfl (ex_assign rfl) ?_
      refine ow_val rfl rfl (ex_assign rfl) ?_
      refine ow_nil ?_
      refine qw_seq ?_
      refine cw_ret ?_
      refine qw_then_ret ?_
      refine qw_ret2 rfl rfl rfl (fun w' h => ?_)
      have h0 := of_decide_eq_true c17
      have e : intern ts t = (posT ts t, 0, ts) := by unfold intern; rw [if_pos hr, if_pos h0]
      rw [e]
      exact (h.drop (List.nil_sublist _)).givesK (Le.refl _) (Fresh.refl _ _) ⟨rfl, hv⟩
    ·
      refine cw_skip ?_
      refine qw_seq ?_
      refine cw_seq ?_
      refine cw_seq ?_
      refine flow_sound 9 (by kernel_rfl) ?_
      refine flow_val rfl (ex_loadR rfl (by first | exact ld_ownN 0 rfl rfl | exact ld_ownN 1 rfl rfl | exact ld_ownN 2 rfl rfl | exact ld_ownN 3 rfl rfl | exact ld_ownN 4 rfl rfl | exact ld_ownN 5 rfl rfl | exact ld_ownN 6 rfl rfl | exact ld_ownN 7 rfl rfl | exact ld_ownGN 0 rfl rfl | exact ld_ownGN 1 rfl rfl | exact ld_immT (by assumption) (by assumption))) ?_
      refine flow_cv rfl (ex_callf rfl (fun w h => callB ((pSize t h.im ht0 (right_size hr))))) ?_
      refine flow_val rfl (ex_move rfl) ?_
      refine flow_val rfl (ex_nilck rfl) ?_
      refine flow_val rfl (ex_field rfl) ?_
      refine flow_val rfl (ex_load1 rfl (fun w h => hs.c0.cell h.hasE.exts)) ?_
      refine flow_val rfl (ex_len (ty := 0) rfl) ?_
      refine flow_val rfl (ex_subi (z := (4096 - (ts.length : Int))) rfl rfl (by omega) (by omega) (by omega)) ?_
      refine flow_val rfl (ex_gtr rfl rfl) ?_
      refine flow_nil ?_
      refine fin_is ?_
      refine fin_is ?_
      refine fin_is ?_
      refine fin_is ?_
      refine fin_is ?_
      refine fin_is ?_
      refine fin_is ?_
      refine fin_is ?_
      refine fin_is ?_
      refine fin_nil ?_
      refine ow_nil ?_
      refine qw_seq ?_
      refine cw_cond rfl (fun c27 => ?_) (fun c27 => ?_)
      ·
        refine cw_seq ?_
        refine cw_region ?_
        refine ow_val rfl rfl (ex_assign rfl) ?_
        refine ow_val rfl rfl (ex_assign rfl) ?_
        refine ow_nil ?_
        refine qw_seq ?_
        refine cw_ret ?_
        refine qw_then_ret ?_
        refine qw_ret2 rfl rfl rfl (fun w' h => ?_)
        have h0 := of_decide_eq_false c17
        have h1 := of_decide_eq_true c27
        have e : intern ts t = (-1, 2, ts) := by unfold intern; rw [if_pos hr, if_neg h0, if_pos (by omega)]
        rw [e]
        exact (h.drop (List.nil_sublist _)).givesK (Le.refl _) (Fresh.refl _ _) ⟨rfl, hv⟩
      ·
        refine cw_skip ?_
        refine qw_seq ?_
        refine cw_seq ?_
        refine cw_region ?_
        refine ow_val rfl rfl (ex_move rfl) ?_
        refine ow_val rfl rfl (ex_loadR rfl (by first | exact ld_ownN 0 rfl rfl | exact ld_ownN 1 rfl rfl | exact ld_ownN 2 rfl rfl | exact ld_ownN 3 rfl rfl | exact ld_ownN 4 rfl rfl | exact ld_ownN 5 rfl rfl | exact ld_ownN 6 rfl rfl | exact ld_ownN 7 rfl rfl | exact ld_ownGN 0 rfl rfl | exact ld_ownGN 1 rfl rfl | exact ld_immT (by assumption) (by assumption))) ?_
        refine ow_ckE rfl rfl (ex_callf rfl (fun w h => pPut t h.hasE htab hv ht0 hr (.inr (by have := of_decide_eq_false c27; omega)))) (fun v30 τ30 K30 hl30 hf30 hr30 => ?_)
        obtain ⟨rfl, hv30⟩ := hr30
        refine ow_val rfl rfl (ex_assign rfl) ?_
        refine ow_val rfl rfl (ex_assign rfl) ?_
        refine ow_nil ?_
        refine qw_seq ?_
        refine cw_ret ?_
        refine qw_ret2 rfl rfl rfl (fun w' h => ?_)
        have h0 := of_decide_eq_false c17
        have h1 := of_decide_eq_false c27
        have e : intern ts t = (numV t ts, 0, putV t ts) := by unfold intern; rw [if_pos hr, if_neg h0, if_neg (by omega)]
        rw [e]
        exact (h.drop (List.nil_sublist _)).givesK hl30 hf30 ⟨rfl, hv30⟩
end Go.Proofs.YtnjomdjkbbhdoaaDoor
namespace Go.Proofs.YtnjomdjkbbhdoaaDoor
open Go.RowKit
set_option linter.unusedVariables false
set_option linter.unusedSimpArgs false
set_option maxRecDepth 100000
set_option maxHeartbeats 400000 in
theorem pNumBytes {n : Int} {σ : Hp} {w : World} (hi : Imm σ w) : Calls Tryd.prog 38 #[.int .i64 n] w (GiveR (RepBN (bytesN n)) σ w) := by
  refine enter (St w (fun _ => False) σ [] []) Tryd.func38 rfl Tryd.ntmps38 rfl (St.start hi) ?_
  refine cw_seq ?_
  refine cw_region ?_
  refine ow_val rfl rfl (ex_assign rfl) ?_
  refine ow_nil ?_
  refine qw_seq ?_
  refine cw_seq ?_
  refine cw_seq ?_
  refine cw_region ?_
  refine ow_val rfl rfl (ex_move rfl) ?_
  refine ow_val rfl rfl (ex_lss rfl rfl) ?_
  refine ow_val rfl rfl (ex_move rfl) ?_
  refine ow_split (g := some (2, false)) rfl (fun s5 => ?_) (fun s5 => ?_)
  ·
    refine ow_skip rfl (gd_no rfl s5) ?_
    refine ow_skip rfl (gd_no rfl s5) ?_
    refine ow_val rfl rfl (ex_pickt rfl s5 rfl) ?_
    refine ow_nil ?_
    refine qw_seq ?_
    refine cw_cond_t rfl ?_
    refine cw_seq ?_
    refine cw_region ?_
    refine ow_val rfl rfl (ex_assign rfl) ?_
    refine ow_nil ?_
    refine qw_seq ?_
    refine cw_ret ?_
    refine qw_then_ret ?_
    refine qw_ret1 rfl rfl (fun w' h => ?_)
    rw [bytesN_out (by have := of_decide_eq_true s5; omega)]
    exact h.gives (Le.refl _) (Fresh.refl _ _) ⟨BytesV.nil σ, fun _ => rfl⟩
  ·
    refine ow_val rfl (gd_go rfl s5) (ex_move rfl) ?_
    refine ow_val rfl (gd_go rfl s5) (ex_geq rfl rfl) ?_
    refine ow_val rfl rfl (ex_pickf rfl s5 rfl) ?_
    refine ow_nil ?_
    refine qw_seq ?_
    refine cw_cond rfl (fun c8 => ?_) (fun c8 => ?_)
    ·
      refine cw_seq ?_
      refine cw_region ?_
      refine ow_val rfl rfl (ex_assign rfl) ?_
      refine ow_nil ?_
      refine qw_seq ?_
      refine cw_ret ?_
      refine qw_then_ret ?_
      refine qw_ret1 rfl rfl (fun w' h => ?_)
      rw [bytesN_out (by have := of_decide_eq_true c8; omega)]
      exact h.gives (Le.refl _) (Fresh.refl _ _) ⟨BytesV.nil σ, fun _ => rfl⟩
    ·
      refine cw_skip ?_
      refine qw_seq ?_
      refine cw_seq ?_
      obtain ⟨hn0, hn1⟩ : 0 ≤ n ∧ n < 281474976710656 := by
        have h1 := of_decide_eq_false s5
        have h2 := of_decide_eq_false c8
        omega
      obtain ⟨m, rfl⟩ : ∃ m : Nat, n = (m : Int) := ⟨n.toNat, by omega⟩
      refine cw_region ?_
      refine ow_val rfl rfl (ex_move rfl) ?_
      refine ow_val rfl rfl (ex_shrN (s := 40) rfl rfl (by omega)) ?_
      refine ow_val rfl rfl (ex_toB Tryd.underlying3 Tryd.underlying5 rfl) ?_
      refine ow_val rfl rfl (ex_move rfl) ?_
      refine ow_val rfl rfl (ex_shrN (s := 32) rfl rfl (by omega)) ?_
      refine ow_val rfl rfl (ex_toB Tryd.underlying3 Tryd.underlying5 rfl) ?_
      refine ow_val rfl rfl (ex_move rfl) ?_
      refine ow_val rfl rfl (ex_shrN (s := 24) rfl rfl (by omega)) ?_
      refine ow_val rfl rfl (ex_toB Tryd.underlying3 Tryd.underlying5 rfl) ?_
      refine ow_val rfl rfl (ex_move rfl) ?_
      refine ow_val rfl rfl (ex_shrN (s := 16) rfl rfl (by omega)) ?_
      refine ow_val rfl rfl (ex_toB Tryd.underlying3 Tryd.underlying5 rfl) ?_
      refine ow_val rfl rfl (ex_move rfl) ?_
      refine ow_val rfl rfl (ex_shrN (s := 8) rfl rfl (by omega)) ?_
      refine ow_val rfl rfl (ex_toB Tryd.underlying3 Tryd.underlying5 rfl) ?_
      refine ow_val rfl rfl (ex_move rfl) ?_
      refine ow_val rfl rfl (ex_toB Tryd.underlying3 Tryd.underlying5 rfl) ?_
      refine ow_slit rfl rfl (exw_slitN (vs := (eightB m).map byteV) (by kernel_rfl) (bytes_cells _) rfl (by decide) (by decide)) ?_; intro b26
      refine ow_val rfl rfl (ex_assign rfl) ?_
      refine ow_nil ?_
      refine qw_seq ?_
      refine cw_ret ?_
      refine qw_ret1 rfl rfl (fun w' h => ?_)
      obtain ⟨σ', h1, h2, h3, h4⟩ := freezeB (Gr := []) (St.toG h) (fun _ h => h) (OwnSl.lit (xs := (eightB m).map byteV) (by simp [eightB, maxLen])) rfl (by simp [eightB, maxData])
      refine h2.gives h1 h4 ?_
      rw [bytesN_in (by omega), ← eightB_is]
      exact ⟨h3, fun hn => by cases hn⟩
set_option maxHeartbeats 400000 in
theorem pHead6 {σ : Hp} {w : World} (hi : Imm σ w) (htab : TabC Tryd.prog σ) : Calls Tryd.prog 12 #[] w fun e w' => e = .returned (.bool true) ∧ Below w.heap.size w w' := by
  refine enter (St w (fun _ => False) σ [] []) Tryd.func12 rfl Tryd.ntmps12 rfl (St.start hi) ?_
  refine cw_seq ?_
  refine cw_region ?_
  refine ow_val rfl rfl (ex_assign rfl) ?_
  refine ow_nil ?_
  refine qw_seq ?_
  refine cw_seq ?_
  refine cw_region ?_
  refine ow_ck0E rfl rfl (ex_callf rfl (fun w h => pNew h.im)) (fun v4 σ4 K4 hl4 hf4 hr4 => ?_)
  obtain ⟨b, rfl, hv4⟩ := hr4
  refine ow_val rfl rfl (ex_assign rfl) ?_
  refine ow_nil ?_
  refine qw_seq ?_
  refine cw_seq ?_
  refine cw_seq ?_
  refine cw_region ?_
  refine ow_val rfl rfl (ex_move rfl) ?_
  refine ow_val rfl rfl (ex_ptrnil rfl) ?_
  refine ow_nil ?_
  refine qw_seq ?_
  refine cw_cond rfl (fun c6 => ?_) (fun c6 => ?_)
  ·
    simp at c6
  ·
    refine cw_skip ?_
    refine qw_seq ?_
    refine cw_seq ?_
    refine cw_region ?_
    refine ow_val rfl rfl (ex_move rfl) ?_
    refine ow_val rfl rfl (ex_build (parts := [(0, _), (1, _)]) (cells := #[.int .i64 1, .int .i64 1, .slice none 0 0, .slice none 0 0]) rfl (by kernel_rfl)) ?_
    refine ow_slit rfl rfl (exw_slit1 rfl rfl) ?_; intro b10
    refine ow_frzH (fun _ h => h) (fun σ5 hl5 hf5 hb10 => ?_)
    have htp : TermC σ5 [.int .i64 2, .int .i64 0, .slice none 0 0, .slice (some ⟨b10, 0, none⟩) 1 1] pubOne := TermC.mk (by omega) (by omega) (BytesV.nil _) (KidsV.one (CellsAt.of4 hb10) (atomOne_c _))
    refine ow_val rfl rfl (ex_build (parts := [(0, _), (3, _)]) (cells := #[.int .i64 2, .int .i64 0, .slice none 0 0, .slice (some ⟨b10, 0, none⟩) 1 1]) rfl (by kernel_rfl)) ?_
    refine ow_ckE rfl rfl (ex_callf rfl (fun w h => pIntern pubOne h.hasE ((htab.le hl4).le hl5) (hv4.le hl5) htp)) (fun v12 σ12 K12 hl12 hf12 hr12 => ?_)
    rw [intern_pub] at hr12
    obtain ⟨rfl, hv12⟩ := hr12
    refine ow_val rfl rfl (ex_move rfl) ?_
    refine ow_val rfl rfl (ex_extract rfl rfl) ?_
    refine ow_val rfl rfl (ex_extract rfl rfl) ?_
    refine ow_val rfl rfl (ex_assign rfl) ?_
    refine ow_val rfl rfl (ex_assign rfl) ?_
    refine ow_nil ?_
    refine qw_seq ?_
    refine cw_seq ?_
    refine cw_region ?_
    refine ow_val rfl rfl (ex_move rfl) ?_
    refine ow_val rfl rfl (ex_eql rfl rfl) ?_
    refine ow_val rfl rfl (ex_move rfl) ?_
    refine ow_split (g := some (2, true)) rfl (fun s17 => ?_) (fun s17 => ?_)
    ·
      refine ow_val rfl (gd_go rfl s17) (ex_move rfl) ?_
      refine ow_val rfl (gd_go rfl s17) (ex_eql rfl rfl) ?_
      refine ow_val rfl rfl (ex_pickt rfl s17 rfl) ?_
      refine ow_val rfl rfl (ex_move rfl) ?_
      refine ow_split (g := some (6, true)) rfl (fun s21 => ?_) (fun s21 => ?_)
      ·
        refine ow_val rfl (gd_go rfl s21) (ex_move rfl) ?_
        refine ow_cv rfl (gd_go rfl s21) (ex_callf rfl (fun w h => callB (pLen h.hasE.exts (hv12.seenX h.hasE).choose_spec.choose_spec.choose_spec))) ?_
        refine ow_val rfl (gd_go rfl s21) (ex_eql rfl rfl) ?_
        refine ow_val rfl rfl (ex_pickt rfl s21 rfl) ?_
        refine ow_val rfl rfl (ex_move rfl) ?_
        refine ow_split (g := some (11, true)) rfl (fun s26 => ?_) (fun s26 => ?_)
        ·
          refine ow_cr rfl (gd_go rfl s26) (ex_callf rfl (fun w h => callR (pNumBytes h.im))) (fun v27 τ hl hf hr27 => ?_)
          obtain ⟨q27, c27, rfl, _, _⟩ := hr27.1.slice
          refine ow_val rfl (gd_go rfl s26) (ex_len (ty := 0) rfl) ?_
          refine ow_val rfl (gd_go rfl s26) (ex_eql rfl rfl) ?_
          refine ow_val rfl rfl (ex_pickt rfl s26 rfl) ?_
          refine ow_val rfl rfl (ex_assign rfl) ?_
          refine ow_nil ?_
          refine qw_seq ?_
          refine cw_ret ?_
          refine qw_ret1 rfl rfl (fun w' h => ⟨congrArg (fun z => Ending.returned (.bool z)) ?_, h.ag.below⟩)
          rfl
        ·
          exact absurd s26 (by decide)
      ·
        exact absurd s21 (by decide)
    ·
      exact absurd s17 (by decide)
end Go.Proofs.YtnjomdjkbbhdoaaDoor
namespace Go.Proofs.YtnjomdjkbbhdoaaDoor
open Go.RowKit
set_option linter.unusedVariables false
set_option linter.unusedSimpArgs false
set_option maxRecDepth 100000
theorem pLenK {b : Nat} {ts : List T} {σ : Hp} {K : List (Nat × Obj)} {w : World} (hi : Has σ K w) (hv : VaultK 68 30 b ts σ K) : Calls Tryd.prog 15 #[.pointer (some ⟨b, 0, none⟩)] w fun e w' => e = .returned (.int .i64 (ts.length : Int)) ∧ Below w.heap.size w w' :=
  let ⟨_, _, _, h⟩ := hv.seenX hi
  pLen hi.exts h
theorem pFindK (t : T) {b : Nat} {ts : List T} {ct : List Value} {σ : Hp} {K : List (Nat × Obj)} {w : World} (hi : Has σ K w) (htab : TabC Tryd.prog σ) (hv : VaultK 68 30 b ts σ K) (ht : TermC σ ct t) (hl : (keyB t).length ≤ 140737488355328) : Calls Tryd.prog 16 #[.pointer (some ⟨b, 0, none⟩), .agg ct.toArray] w fun e w' => e = .returned (.tuple #[.int .i64 (posT ts t), .bool (decide (0 ≤ posT ts t))]) ∧ Below w.heap.size w w' :=
  let ⟨_, _, _, h⟩ := hv.seenX hi
  pFind t hi.exts (htab.le hi.le) h (ht.le hi.le) hl
end Go.Proofs.YtnjomdjkbbhdoaaDoor
namespace Go.Proofs.YtnjomdjkbbhdoaaDoor
open Go.RowKit
set_option linter.unusedVariables false
set_option linter.unusedSimpArgs false
set_option linter.unusedSectionVars false
theorem noKeys (b : Nat) (h : keysOf [] b) : False := by
  obtain ⟨p, hp, _⟩ := h; cases hp
theorem Imm.agK {κ : Hp} {M : Nat → Prop} {w w' : World} (h : Imm κ w) (ha : Ag M w w') (hd : ∀ b, M b → κ b = none) : Imm κ w' := fun b o e => by
  have h1 := h b o e
  rw [ha.block b (Array.getElem?_eq_some_iff.1 h1).1 (fun hm => by rw [hd b hm] at e; cases e)]
  exact h1
theorem Imm.ag0 {κ : Hp} {w w' : World} (h : Imm κ w) (ha : Ag (keysOf []) w w') : Imm κ w' := h.agK ha fun b hb => (noKeys b hb).elim
theorem Has.keys {σ : Hp} {K : List (Nat × Obj)} {w : World} (h : Has σ K w) : ∀ b, keysOf K b → σ b = none := fun b ⟨p, hp, e⟩ => by
  subst e; exact h.dj p hp
theorem ext_le3 {σ τ : Hp} (h : Le σ τ) (b : Nat) (o : Obj) : Le (ext σ b o) (ext τ b o) := fun k u e => by
  unfold ext at e ⊢
  split at e
  · rename_i hk; rw [if_pos hk]; exact e
  · rename_i hk; rw [if_neg hk]; exact h _ _ e
theorem exts_mono {σ κ : Hp} (h : Le σ κ) : ∀ (K : List (Nat × Obj)), Le (exts σ K) (exts κ K)
  | [] => h
  | p :: r => ext_le3 (exts_mono h r) _ _
theorem SeenV.up {σ τ : Hp} {b c m : Nat} {ts : List T} {p : Option Addr} (h : SeenV σ b ts p c m) (hl : Le σ τ) : SeenV τ b ts p c m := ⟨h.c0.le hl, h.c1.le hl, hl _ _ h.mp, h.cap, h.few, h.tab⟩
theorem Has.turn {κ σ : Hp} {K : List (Nat × Obj)} {w w' : World} (h : Has κ K w) (hs : St w (keysOf K) σ [] K w') : Has κ K w' :=
  ⟨h.im.agK hs.ag h.keys, fun p hp => hs.ownG hp, h.dj, h.nd⟩
def TermS (σ κ : Hp) (cs : List Value) (t : T) : Prop := ∃ dv kv, cs = [.int .i64 t.op, .int .i64 t.num, dv, kv] ∧ (-9223372036854775808 ≤ t.op ∧ t.op ≤ 9223372036854775807) ∧ (-9223372036854775808 ≤ t.num ∧ t.num ≤ 9223372036854775807) ∧ BytesV κ dv t.data ∧ KidsV σ kv t.kids
theorem TermC.split {σ : Hp} {cs : List Value} {t : T} (h : TermC σ cs t) : TermS σ σ cs t := by
  obtain ⟨dv, kv, rfl, h1, h2, h3, h4⟩ := h.opn
  exact ⟨dv, kv, rfl, h1, h2, h3, h4⟩
theorem TermS.join {σ κ : Hp} {cs : List Value} {t : T} (h : TermS σ κ cs t) (hl : Le σ κ) : TermC κ cs t := by
  obtain ⟨dv, kv, rfl, h1, h2, h3, h4⟩ := h
  obtain ⟨o, n, d, ks⟩ := t
  obtain ⟨p, c, rfl, _⟩ := h4.slice
  exact TermC.mk h1 h2 h3 (KidsV.le hl h4)
theorem TermS.le {σ τ κ : Hp} {cs : List Value} {t : T} (h : TermS σ κ cs t) (hl : Le σ τ) : TermS τ κ cs t := by
  obtain ⟨dv, kv, rfl, h1, h2, h3, h4⟩ := h
  exact ⟨dv, kv, rfl, h1, h2, h3, KidsV.le hl h4⟩
def OwnT (U : Nat) (t : T) (σ : Hp) (u : Value) (K : List (Nat × Obj)) : Prop := ∃ dv kv, u = .agg #[.int .i64 t.op, .int .i64 t.num, dv, kv] ∧ (-9223372036854775808 ≤ t.op ∧ t.op ≤ 9223372036854775807) ∧ (-9223372036854775808 ≤ t.num ∧ t.num ≤ 9223372036854775807) ∧
  OwnSl U 1 dv t.data.length (t.data.map byteV) K ∧ t.data.length ≤ maxData ∧ KidsV σ kv t.kids
theorem OwnT.frz {U : Nat} {t : T} {σ : Hp} {u : Value} {K Gr H : List (Nat × Obj)} {w0 w : World} {M : Nat → Prop} (h : OwnT U t σ u K) (hs : St w0 M σ H (K ++ Gr) w) (hM : ∀ b, M b → False) :
    ∃ σ', Le σ σ' ∧ Fresh σ σ' w0 ∧ St w0 M σ' H Gr w ∧ RepT t σ' u := by
  obtain ⟨dv, kv, rfl, h1, h2, h3, h4, h5⟩ := h
  obtain ⟨σ', q1, q2, q3, q4⟩ := freezeB hs hM h3 rfl h4
  obtain ⟨o, n, d, ks⟩ := t
  obtain ⟨p, c, rfl, _⟩ := h5.slice
  exact ⟨σ', q1, q4, q2, _, rfl, TermC.mk h1 h2 q3 (KidsV.le q1 h5)⟩
theorem OwnT.giveR {U : Nat} {t : T} {σ : Hp} {w : World} {e : Ending} {w' : World} (h : GiveK (OwnT U t) σ [] w e w') : GiveR (RepT t) σ w e w' := by
  obtain ⟨u, rfl, σ', K', h1, h2, h3, h4⟩ := h
  obtain ⟨σ2, q1, q2, q3, q4⟩ := h3.frz (Gr := []) (by simpa using h4) noKeys
  exact ⟨u, σ2, rfl, h1.trans q1, h2.trans q2, q3.im, q4, (Ag.mono q3.ag (M' := fun _ => False) (fun k _ hk => noKeys k hk)).below⟩
theorem OwnT.seen {U : Nat} {t : T} {σ : Hp} {u : Value} {K : List (Nat × Obj)} {w : World} (h : OwnT U t σ u K) (hi : Has σ K w) : ∃ cs, u = .agg cs.toArray ∧ TermS σ (exts σ K) cs t := by
  obtain ⟨dv, kv, rfl, h1, h2, h3, h4, h5⟩ := h
  obtain ⟨p, c, rfl, q1, q2⟩ := h3.seen (σ := exts σ K) (fun q hq => exts_get hi.nd hq)
  exact ⟨_, rfl, _, kv, rfl, h1, h2, ⟨p, c, rfl, q1, h4, q2.imp (fun h => List.eq_nil_of_length_eq_zero h) id⟩, h5⟩
section
variable {P : Program} {l0 : List Oper} {Q : Exit → Act → World → Prop} {rest : List Oper} {N : Nat} {L : TL} {d : Nat} {ty : TypeId} {pos : String}
  {af : Array Edge} {g : Option (Nat × Bool)} {op : Op} {w0 : World} {M : Nat → Prop} {σ σK : Hp} {H G : List (Nat × Obj)} {R : Hp → Value → List (Nat × Obj) → Prop}
theorem ow_coG {e size n : Nat} {xs : List Value} (hN : Nat.blt d N = true) (hg : gd l0 L g = some true) (h : ExC P op N L (St w0 M σ H G) (TO e size n xs))
    (k : ∀ v Gs, OwnSl e size v n xs Gs → OW P l0 Q rest N ((d, v) :: L) (St w0 M σ H (Gs ++ G))) : OW P l0 Q (⟨some d, op, ty, pos, af, g⟩ :: rest) N L (St w0 M σ H G) :=
  ow_c hN hg h fun v a w' hf ⟨w, hs, Gs, hO, ho, hlt, hb⟩ => k v Gs hO a w' hf (by
    refine St.mutK (K := []) (by simpa using hs) (Fresh.refl _ _) (Le.refl _) ⟨.of_below hb, hs.im.below hb, fun p hp => ho p (by simpa using hp), fun p hp => ?_, fun p hp => .inr (hlt p (by simpa using hp)), by simpa using hO.nd⟩
    cases e9 : σ p.1 with
    | none => rfl
    | some o => exact absurd (hs.im.lt e9) (Nat.not_lt.2 (hlt p (by simpa using hp))))
theorem joinK {τ κ : Hp} {K' : List (Nat × Obj)} {w w' : World} (hk : Imm κ w) (h : St w (keysOf []) τ [] K' w') (hf : Fresh σ τ w) (hl : Le σ κ) : St w (keysOf []) (Go.Proofs.YtnjomdjkbbhdoaaDoor.join κ τ) [] K' w' ∧ Fresh κ (Go.Proofs.YtnjomdjkbbhdoaaDoor.join κ τ) w ∧ Le κ (Go.Proofs.YtnjomdjkbbhdoaaDoor.join κ τ) ∧ Le τ (Go.Proofs.YtnjomdjkbbhdoaaDoor.join κ τ) := by
  have hk' : Imm κ w' := hk.ag0 h.ag
  refine ⟨⟨h.ag, hk'.join h.im, fun p hp => h.ownG (by simpa using hp), fun p hp => ?_, fun p hp => St0.mo h p hp, St0.nd h⟩, fun b o e => ?_, le_join _ _, le_join' hk' h.im⟩
  · have h0 : τ p.1 = none := h.fresh hp
    have h1 : w.heap.size ≤ p.1 := (St0.mo h p hp).resolve_left (noKeys _)
    unfold Go.Proofs.YtnjomdjkbbhdoaaDoor.join
    cases e : κ p.1 with
    | none => exact h0
    | some o => exact absurd (hk.lt e) (Nat.not_lt.2 h1)
  · unfold Go.Proofs.YtnjomdjkbbhdoaaDoor.join at e
    cases h9 : κ b with
    | some o' => rw [h9] at e; simp at e; subst e; exact .inl rfl
    | none =>
      rw [h9] at e
      rcases hf b o (by simpa using e) with h6 | h6
      · have := hl b o h6; rw [h9] at this; cases this
      · exact .inr h6
theorem ow_ckS (hN : Nat.blt d N = true) (hg : gd l0 L g = some true) (hle : Le σ σK) (h : ExC P op N L (St w0 M σK H G) (TK R σ []))
    (k : ∀ u σ' σK' K', Le σ σ' → Fresh σ σ' w0 → R σ' u K' → Le σK σK' → Le σ' σK' → OW P l0 Q rest N ((d, u) :: L) (St w0 M σK' H (K' ++ G))) : OW P l0 Q (⟨some d, op, ty, pos, af, g⟩ :: rest) N L (St w0 M σK H G) :=
  ow_c hN hg h fun u a w' hf ⟨w, hs, σ', K', h1, h2, h3, h4⟩ => by
    obtain ⟨q1, q2, q3, q4⟩ := joinK hs.im h4 h2 hle
    exact k u σ' _ K' h1 (h2.mono hs.ag.size) h3 q3 q4 a w' hf (St.mutK (K := []) (by simpa using hs) q2 q3 q1)
theorem St.givesKS {w : World} {σ' : Hp} {K' : List (Nat × Obj)} {v : Value} (h : St w0 (fun _ => False) σK [] K' w) (hk : Le σ' σK) (hl : Le σ σ') (hf : Fresh σ σ' w0) (hr : R σ' v K') :
    GiveK R σ [] w0 (.returned v) w := ⟨v, rfl, σ', K', hl, hf, hr, ⟨Ag.mono h.ag (fun k _ hk => hk.elim), fun b o e => h.im b o (hk b o e), fun p hp => h.ownG (by simpa using hp), fun p hp => (by
      cases e : σ' p.1 with
      | none => rfl
      | some o => have := hk _ _ e; rw [h.fresh (by simpa using hp)] at this; cases this), fun p hp => .inr ((St0.mo h p (by simpa using hp)).resolve_left id), by simpa using St0.nd h⟩⟩
end
def RowZ (U n : Nat) (dv : Value) (K : List (Nat × Obj)) : Prop := (n = 0 ∧ (K.map (·.1)).Nodup) ∨ ∃ g c cur, dv = .slice (some ⟨g, 0, none⟩) n c ∧ K = [(g, .cells cur U (0, 0))] ∧ n ≤ cur.size ∧ ∀ j, j < n → ∃ z : Int, cur[j]? = some (.int .u8 z)
theorem OwnSl.rowZ {U : Nat} {d : List UInt8} {dv : Value} {K : List (Nat × Obj)} (h : OwnSl U 1 dv d.length (d.map byteV) K) : RowZ U d.length dv K := by
  rcases h.2 with ⟨_, h0, rfl⟩ | ⟨g, c, cur, rfl, rfl, h2, h3, h4, h5⟩
  · exact .inl ⟨h0, by simp⟩
  · refine .inr ⟨g, c, cur, rfl, rfl, by omega, fun j hj => ?_⟩
    have h6 : (cur.toList.take (d.length * 1))[j]? = (d.map byteV)[j]? := by rw [h5]
    rw [List.getElem?_take_of_lt (by omega), List.getElem?_map, List.getElem?_eq_getElem hj] at h6
    exact ⟨_, by simpa [byteV] using h6⟩
theorem over_len {arr : Array Value} {o : Nat} {v : Value} (h : o < arr.size) : (over arr o [v]).size = arr.size := by
  unfold over
  simp
  omega
theorem over_at {arr : Array Value} {o : Nat} {v : Value} (h : o < arr.size) : (over arr o [v])[o]? = some v := by
  unfold over
  have h1 : (arr.toList.take o).length = o := by simp; omega
  simp only [List.getElem?_toArray, List.append_assoc]
  rw [List.getElem?_append_right (by omega)]
  simp [h1]
theorem over_off {arr : Array Value} {o j : Nat} {v : Value} (h : o < arr.size) (hj : j ≠ o) : (over arr o [v])[j]? = arr[j]? := by
  unfold over
  have h1 : (arr.toList.take o).length = o := by simp; omega
  simp only [List.getElem?_toArray, List.append_assoc]
  rcases Nat.lt_or_ge j o with h2 | h2
  · rw [List.getElem?_append_left (by omega), List.getElem?_take_of_lt h2]
    simp
  · rw [List.getElem?_append_right (by omega), h1]
    obtain ⟨k, rfl⟩ : ∃ k, j = o + (k + 1) := ⟨j - o - 1, by omega⟩
    simp [show o + (k + 1) - o = k + 1 by omega, List.getElem?_drop, show o + 1 + k = o + (k + 1) by omega]
theorem RowZ.set {U n k g c : Nat} {cur : Array Value} {z : Int} (hk : k < n) (hn : n ≤ cur.size) (h : ∀ j, j < n → ∃ z : Int, cur[j]? = some (.int .u8 z)) :
    RowZ U n (.slice (some ⟨g, 0, none⟩) n c) [(g, .cells (over cur (0 + k * 1) [.int .u8 z]) U (0, 0))] := by
  have hk2 : 0 + k * 1 < cur.size := by omega
  refine .inr ⟨g, c, _, rfl, rfl, by rw [over_len hk2]; exact hn, fun j hj => ?_⟩
  by_cases e : j = 0 + k * 1
  · subst e; exact ⟨z, over_at hk2⟩
  · rw [over_off hk2 e]; exact h j hj
theorem RowZ.open {U n k : Nat} {dv : Value} {K : List (Nat × Obj)} (h : RowZ U n dv K) (hk : k < n) : ∃ g c cur z, dv = .slice (some ⟨g, 0, none⟩) n c ∧ K = [(g, .cells cur U (0, 0))] ∧ n ≤ cur.size ∧ (∀ j, j < n → ∃ z : Int, cur[j]? = some (.int .u8 z)) ∧ nthV cur.toList (0 + k * 1) = some (.int .u8 z) := by
  rcases h with ⟨h0, _⟩ | ⟨g, c, cur, h1, h2, h3, h4⟩
  · omega
  · obtain ⟨z, hz⟩ := h4 k hk
    exact ⟨g, c, cur, z, h1, h2, h3, h4, by rw [nthV_eq]; simpa using hz⟩
theorem St.rotG {w0 w : World} {M : Nat → Prop} {σ : Hp} {H A B C : List (Nat × Obj)} (h : St w0 M σ H (A ++ (B ++ C)) w) : St w0 M σ H (B ++ (C ++ A)) w := h.permG (by
  rw [← List.append_assoc B C A]; exact List.perm_append_comm)
theorem St.revG {w0 w : World} {M : Nat → Prop} {σ : Hp} {H A B C : List (Nat × Obj)} (h : St w0 M σ H (C ++ (B ++ A)) w) : St w0 M σ H (A ++ (B ++ C)) w := h.swapG.permG (by
  rw [← List.append_assoc B C A]; exact List.perm_append_comm)
theorem St.seesK {w0 w : World} {M : Nat → Prop} {σ : Hp} {H A B C : List (Nat × Obj)} (h : St w0 M σ H (B ++ (C ++ A)) w) : Has (exts σ A) B w := by
  have h1 : St w0 M σ H ((A ++ B) ++ C) w := by rw [List.append_assoc]; exact h.permG (by rw [← List.append_assoc B C A]; exact List.perm_append_comm)
  exact h1.has.more
theorem St.hasA {w0 w : World} {M : Nat → Prop} {σ : Hp} {H A B C : List (Nat × Obj)} (h : St w0 M σ H (B ++ (C ++ A)) w) : Has σ A w := by
  have h1 : St w0 M σ H (A ++ (B ++ C)) w := h.permG (by rw [← List.append_assoc B C A]; exact List.perm_append_comm)
  exact h1.has
theorem OwnT.le {U : Nat} {t : T} {σ τ : Hp} {u : Value} {K : List (Nat × Obj)} (h : OwnT U t σ u K) (hl : Le σ τ) : OwnT U t τ u K := by
  obtain ⟨dv, kv, e, h1, h2, h3, h4, h5⟩ := h
  exact ⟨dv, kv, e, h1, h2, h3, h4, KidsV.le hl h5⟩
theorem OwnT.seenC {U : Nat} {t : T} {σ : Hp} {cs : List Value} {K : List (Nat × Obj)} {w : World} (h : OwnT U t σ (.agg cs.toArray) K) (hi : Has σ K w) : TermS σ (exts σ K) cs t := by
  obtain ⟨cs', e, h1⟩ := h.seen hi
  have : cs = cs' := by simpa using e
  rw [this]; exact h1
end Go.Proofs.YtnjomdjkbbhdoaaDoor
namespace Go.Proofs.YtnjomdjkbbhdoaaDoor
open Go.RowKit
set_option linter.unusedVariables false
set_option linter.unusedSimpArgs false
set_option maxRecDepth 100000
set_option maxHeartbeats 400000 in
theorem rRightD : ∀ (t : T) {deep : Nat} {σ : Hp} {cs : List Value} {w : World}, Imm σ w → TermC σ cs t → deep ≤ 16 → Calls Tryd.prog 68 #[.agg cs.toArray, .int .i64 (deep : Int)] w fun e w' => e = .returned (.bool (rightD t deep)) ∧ Below w.heap.size w w' := by
  intro t
  induction t using T.ind with
  | _ o n d ks ih =>
  intro deep σ cs w hi ht hde
  obtain ⟨dv, kv, rfl, ho, hn, hd, hk⟩ := ht.opn
  simp only [T.kids, T.op, T.num, T.data] at *
  obtain ⟨p, c, rfl, hc, hm⟩ := hk.slice
  obtain ⟨pd, cd, rfl, hcd, hmd⟩ := hd.slice
  have hm2 := hm
  unfold maxKids at hm2
  refine enter (St w (fun _ => False) σ [] []) Tryd.func68 rfl Tryd.ntmps68 rfl (St.start hi) ?_
  refine cw_seq ?_
  refine cw_region ?_
  refine ow_blk rfl rfl (exw_box rfl) ?_; intro b2
  refine ow_val rfl rfl (ex_assign rfl) ?_
  refine ow_nil ?_
  refine qw_seq ?_
  refine cw_seq ?_
  refine cw_region ?_
  refine ow_val rfl rfl (ex_loadR rfl (by first | exact ld_ownN 0 rfl rfl | exact ld_ownN 1 rfl rfl | exact ld_ownN 2 rfl rfl | exact ld_ownN 3 rfl rfl | exact ld_ownN 4 rfl rfl | exact ld_ownN 5 rfl rfl | exact ld_ownN 6 rfl rfl | exact ld_ownN 7 rfl rfl | exact ld_ownGN 0 rfl rfl | exact ld_ownGN 1 rfl rfl | exact ld_immT (by assumption) (by assumption))) ?_
  refine ow_cv rfl rfl (ex_callf rfl (fun w h => callB ((rKids h.im hk)))) ?_
  refine ow_val rfl rfl (ex_assign rfl) ?_
  refine ow_nil ?_
  refine qw_seq ?_
  refine cw_seq ?_
  refine cw_cut1 21 (.bool (decide (16 ≤ (deep : Int)) || (!kidsOK o ks || decide (8192 < (d.length : Int))))) ?_ ?_
  ·
    refine cw_region ?_
    refine ow_val rfl rfl (ex_move rfl) ?_
    refine ow_val rfl rfl (ex_geq rfl rfl) ?_
    refine ow_val rfl rfl (ex_move rfl) ?_
    refine ow_split (g := some (2, false)) rfl (fun s12 => ?_) (fun s12 => ?_)
    ·
      refine ow_skip rfl (gd_no rfl s12) ?_
      refine ow_skip rfl (gd_no rfl s12) ?_
      refine ow_val rfl rfl (ex_pickt rfl s12 rfl) ?_
      refine ow_val rfl rfl (ex_move rfl) ?_
      refine ow_skip rfl rfl ?_
      refine ow_skip rfl rfl ?_
      refine ow_skip rfl rfl ?_
      refine ow_skip rfl rfl ?_
      refine ow_val rfl rfl (ex_pick_t rfl rfl) ?_
      refine ow_nil ?_
      exact qw_meet (subL_meet 12 21 (lkv rfl (by first | rfl | (simp_all; done) | (simp_all <;> omega))) rfl rfl) (fun w h => h)
    ·
      refine ow_val rfl (gd_go rfl s12) (ex_move rfl) ?_
      refine ow_val rfl (gd_go rfl s12) (ex_not rfl) ?_
      refine ow_val rfl rfl (ex_pickf rfl s12 rfl) ?_
      refine ow_val rfl rfl (ex_move rfl) ?_
      refine ow_split (g := some (6, false)) rfl (fun s16 => ?_) (fun s16 => ?_)
      ·
        refine ow_skip rfl (gd_no rfl s16) ?_
        refine ow_skip rfl (gd_no rfl s16) ?_
        refine ow_skip rfl (gd_no rfl s16) ?_
        refine ow_skip rfl (gd_no rfl s16) ?_
        refine ow_val rfl rfl (ex_pickt rfl s16 rfl) ?_
        refine ow_nil ?_
        exact qw_meet (subL_meet 12 21 (lkv rfl (by first | rfl | (simp_all; done) | (simp_all <;> omega))) rfl rfl) (fun w h => h)
      ·
        refine ow_val rfl (gd_go rfl s16) (ex_field rfl) ?_
        refine ow_val rfl (gd_go rfl s16) (ex_load1 rfl (by first | exact ld_own1 0 rfl rfl | exact ld_own1 1 rfl rfl | exact ld_own1 2 rfl rfl | exact ld_own1 3 rfl rfl | exact ld_own1 4 rfl rfl | exact ld_own1 5 rfl rfl | exact ld_own1 6 rfl rfl | exact ld_own1 7 rfl rfl | exact ld_ownG1 0 rfl rfl | exact ld_ownG1 1 rfl rfl | exact ld_imm1 (by assumption))) ?_
        refine ow_val rfl (gd_go rfl s16) (ex_len (ty := 0) rfl) ?_
        refine ow_val rfl (gd_go rfl s16) (ex_gtr rfl rfl) ?_
        refine ow_val rfl rfl (ex_pickf rfl s16 rfl) ?_
        refine ow_nil ?_
        exact qw_meet (subL_meet 12 21 (lkv rfl (by first | rfl | (simp_all; done) | (simp_all <;> omega))) rfl rfl) (fun w h => h)
  ·
    refine cw_cond rfl (fun c21 => ?_) (fun c21 => ?_)
    ·
      refine cw_seq ?_
      refine cw_region ?_
      refine ow_val rfl rfl (ex_assign rfl) ?_
      refine ow_nil ?_
      refine qw_seq ?_
      refine cw_ret ?_
      refine qw_then_ret ?_
      refine qw_ret1 rfl rfl (fun w' h => ⟨congrArg (fun z => Ending.returned (.bool z)) ?_, h.ag.below⟩)
      symm
      rw [rightD_mk]
      simp at c21
      rcases c21 with c21 | c21 | c21
      · simp [show ¬ deep < 16 by omega]
      · simp [shape_go, c21]
      · simp [shape_go, c21]
    ·
      refine cw_skip ?_
      refine qw_seq ?_
      refine cw_seq ?_
      refine cw_cut1 44 (.bool (decide (o = 1) && (decide (n < 0) || decide (1099511627776 < n)) || decide (o ≠ 1) && decide (n ≠ 0))) ?_ ?_
      ·
        refine cw_region ?_
        refine ow_val rfl rfl (ex_field rfl) ?_
        refine ow_val rfl rfl (ex_load1 rfl (by first | exact ld_own1 0 rfl rfl | exact ld_own1 1 rfl rfl | exact ld_own1 2 rfl rfl | exact ld_own1 3 rfl rfl | exact ld_own1 4 rfl rfl | exact ld_own1 5 rfl rfl | exact ld_own1 6 rfl rfl | exact ld_own1 7 rfl rfl | exact ld_ownG1 0 rfl rfl | exact ld_ownG1 1 rfl rfl | exact ld_imm1 (by assumption))) ?_
        refine ow_val rfl rfl (ex_eql rfl rfl) ?_
        refine ow_val rfl rfl (ex_move rfl) ?_
        refine ow_split (g := some (3, true)) rfl (fun s25 => ?_) (fun s25 => ?_)
        ·
          refine ow_val rfl (gd_go rfl s25) (ex_field rfl) ?_
          refine ow_val rfl (gd_go rfl s25) (ex_load1 rfl (by first | exact ld_own1 0 rfl rfl | exact ld_own1 1 rfl rfl | exact ld_own1 2 rfl rfl | exact ld_own1 3 rfl rfl | exact ld_own1 4 rfl rfl | exact ld_own1 5 rfl rfl | exact ld_own1 6 rfl rfl | exact ld_own1 7 rfl rfl | exact ld_ownG1 0 rfl rfl | exact ld_ownG1 1 rfl rfl | exact ld_imm1 (by assumption))) ?_
          refine ow_val rfl (gd_go rfl s25) (ex_lss rfl rfl) ?_
          refine ow_val rfl (gd_go rfl s25) (ex_move rfl) ?_
          refine ow_split (g := some (7, false)) rfl (fun s29 => ?_) (fun s29 => ?_)
          ·
            refine ow_skip rfl (gd_no rfl s29) ?_
            refine ow_skip rfl (gd_no rfl s29) ?_
            refine ow_skip rfl (gd_no rfl s29) ?_
            refine ow_val rfl (gd_go rfl s25) (ex_pickt rfl s29 rfl) ?_
            refine ow_val rfl rfl (ex_pickt rfl s25 rfl) ?_
            refine ow_val rfl rfl (ex_move rfl) ?_
            refine ow_skip rfl rfl ?_
            refine ow_skip rfl rfl ?_
            refine ow_skip rfl rfl ?_
            refine ow_skip rfl rfl ?_
            refine ow_skip rfl rfl ?_
            refine ow_skip rfl rfl ?_
            refine ow_skip rfl rfl ?_
            refine ow_skip rfl rfl ?_
            refine ow_val rfl rfl (ex_pick_t rfl rfl) ?_
            refine ow_nil ?_
            exact qw_meet (subL_meet 23 44 (lkv rfl (by first | rfl | (simp_all; done) | (simp_all <;> omega))) rfl rfl) (fun w h => h)
          ·
            refine ow_val rfl (gd_go rfl s29) (ex_field rfl) ?_
            refine ow_val rfl (gd_go rfl s29) (ex_load1 rfl (by first | exact ld_own1 0 rfl rfl | exact ld_own1 1 rfl rfl | exact ld_own1 2 rfl rfl | exact ld_own1 3 rfl rfl | exact ld_own1 4 rfl rfl | exact ld_own1 5 rfl rfl | exact ld_own1 6 rfl rfl | exact ld_own1 7 rfl rfl | exact ld_ownG1 0 rfl rfl | exact ld_ownG1 1 rfl rfl | exact ld_imm1 (by assumption))) ?_
            refine ow_val rfl (gd_go rfl s29) (ex_gtr rfl rfl) ?_
            refine ow_val rfl (gd_go rfl s25) (ex_pickf rfl s29 rfl) ?_
            refine ow_val rfl rfl (ex_pickt rfl s25 rfl) ?_
            refine ow_val rfl rfl (ex_move rfl) ?_
            refine ow_split (g := some (13, false)) rfl (fun s35 => ?_) (fun s35 => ?_)
            ·
              refine ow_skip rfl (gd_no rfl s35) ?_
              refine ow_skip rfl (gd_no rfl s35) ?_
              refine ow_skip rfl (gd_no rfl s35) ?_
              refine ow_skip rfl (gd_no rfl s35) ?_
              refine ow_skip rfl rfl ?_
              refine ow_skip rfl rfl ?_
              refine ow_skip rfl rfl ?_
              refine ow_skip rfl (gd_no rfl s35) ?_
              refine ow_val rfl rfl (ex_pickt rfl s35 rfl) ?_
              refine ow_nil ?_
              exact qw_meet (subL_meet 23 44 (lkv rfl (by first | rfl | (simp_all; done) | (simp_all <;> omega))) rfl rfl) (fun w h => h)
            ·
              refine ow_val rfl (gd_go rfl s35) (ex_field rfl) ?_
              refine ow_val rfl (gd_go rfl s35) (ex_load1 rfl (by first | exact ld_own1 0 rfl rfl | exact ld_own1 1 rfl rfl | exact ld_own1 2 rfl rfl | exact ld_own1 3 rfl rfl | exact ld_own1 4 rfl rfl | exact ld_own1 5 rfl rfl | exact ld_own1 6 rfl rfl | exact ld_own1 7 rfl rfl | exact ld_ownG1 0 rfl rfl | exact ld_ownG1 1 rfl rfl | exact ld_imm1 (by assumption))) ?_
              refine ow_val rfl (gd_go rfl s35) (ex_neq rfl rfl) ?_
              refine ow_val rfl (gd_go rfl s35) (ex_move rfl) ?_
              refine ow_split (g := some (17, true)) rfl (fun s39 => ?_) (fun s39 => ?_)
              ·
                refine ow_val rfl (gd_go rfl s39) (ex_field rfl) ?_
                refine ow_val rfl (gd_go rfl s39) (ex_load1 rfl (by first | exact ld_own1 0 rfl rfl | exact ld_own1 1 rfl rfl | exact ld_own1 2 rfl rfl | exact ld_own1 3 rfl rfl | exact ld_own1 4 rfl rfl | exact ld_own1 5 rfl rfl | exact ld_own1 6 rfl rfl | exact ld_own1 7 rfl rfl | exact ld_ownG1 0 rfl rfl | exact ld_ownG1 1 rfl rfl | exact ld_imm1 (by assumption))) ?_
                refine ow_val rfl (gd_go rfl s39) (ex_neq rfl rfl) ?_
                refine ow_val rfl (gd_go rfl s35) (ex_pickt rfl s39 rfl) ?_
                refine ow_val rfl rfl (ex_pickf rfl s35 rfl) ?_
                refine ow_nil ?_
                exact qw_meet (subL_meet 23 44 (lkv rfl (by first | rfl | (simp_all; done) | (simp_all <;> omega))) rfl rfl) (fun w h => h)
              ·
                refine ow_skip rfl (gd_no rfl s39) ?_
                refine ow_skip rfl (gd_no rfl s39) ?_
                refine ow_skip rfl (gd_no rfl s39) ?_
                refine ow_val rfl (gd_go rfl s35) (ex_pickf rfl s39 rfl) ?_
                refine ow_val rfl rfl (ex_pickf rfl s35 rfl) ?_
                refine ow_nil ?_
                exact qw_meet (subL_meet 23 44 (lkv rfl (by first | rfl | (simp_all; done) | (simp_all <;> omega))) rfl rfl) (fun w h => h)
        ·
          refine ow_skip rfl (gd_no rfl s25) ?_
          refine ow_skip rfl (gd_no rfl s25) ?_
          refine ow_skip rfl (gd_no rfl s25) ?_
          refine ow_skip rfl (gd_no rfl s25) ?_
          refine ow_skip rfl rfl ?_
          refine ow_skip rfl rfl ?_
          refine ow_skip rfl rfl ?_
          refine ow_skip rfl (gd_no rfl s25) ?_
          refine ow_val rfl rfl (ex_pickf rfl s25 rfl) ?_
          refine ow_val rfl rfl (ex_move rfl) ?_
          refine ow_val rfl rfl (ex_field rfl) ?_
          refine ow_val rfl rfl (ex_load1 rfl (by first | exact ld_own1 0 rfl rfl | exact ld_own1 1 rfl rfl | exact ld_own1 2 rfl rfl | exact ld_own1 3 rfl rfl | exact ld_own1 4 rfl rfl | exact ld_own1 5 rfl rfl | exact ld_own1 6 rfl rfl | exact ld_own1 7 rfl rfl | exact ld_ownG1 0 rfl rfl | exact ld_ownG1 1 rfl rfl | exact ld_imm1 (by assumption))) ?_
          refine ow_val rfl rfl (ex_neq rfl rfl) ?_
          refine ow_val rfl rfl (ex_move rfl) ?_
          refine ow_split (g := some (17, true)) rfl (fun s39 => ?_) (fun s39 => ?_)
          ·
            refine ow_val rfl (gd_go rfl s39) (ex_field rfl) ?_
            refine ow_val rfl (gd_go rfl s39) (ex_load1 rfl (by first | exact ld_own1 0 rfl rfl | exact ld_own1 1 rfl rfl | exact ld_own1 2 rfl rfl | exact ld_own1 3 rfl rfl | exact ld_own1 4 rfl rfl | exact ld_own1 5 rfl rfl | exact ld_own1 6 rfl rfl | exact ld_own1 7 rfl rfl | exact ld_ownG1 0 rfl rfl | exact ld_ownG1 1 rfl rfl | exact ld_imm1 (by assumption))) ?_
            refine ow_val rfl (gd_go rfl s39) (ex_neq rfl rfl) ?_
            refine ow_val rfl rfl (ex_pickt rfl s39 rfl) ?_
            refine ow_val rfl rfl (ex_pick_f rfl rfl) ?_
            refine ow_nil ?_
            exact qw_meet (subL_meet 23 44 (lkv rfl (by first | rfl | (simp_all; done) | (simp_all <;> omega))) rfl rfl) (fun w h => h)
          ·
            refine ow_skip rfl (gd_no rfl s39) ?_
            refine ow_skip rfl (gd_no rfl s39) ?_
            refine ow_skip rfl (gd_no rfl s39) ?_
            refine ow_val rfl rfl (ex_pickf rfl s39 rfl) ?_
            refine ow_val rfl rfl (ex_pick_f rfl rfl) ?_
            refine ow_nil ?_
            exact qw_meet (subL_meet 23 44 (lkv rfl (by first | rfl | (simp_all; done) | (simp_all <;> omega))) rfl rfl) (fun w h => h)
      ·
        refine cw_cond rfl (fun c44 => ?_) (fun c44 => ?_)
        ·
          refine cw_seq ?_
          refine cw_region ?_
          refine ow_val rfl rfl (ex_assign rfl) ?_
          refine ow_nil ?_
          refine qw_seq ?_
          refine cw_ret ?_
          refine qw_then_ret ?_
          refine qw_ret1 rfl rfl (fun w' h => ⟨congrArg (fun z => Ending.returned (.bool z)) ?_, h.ag.below⟩)
          symm
          rw [rightD_mk]
          rw [shape_go, c44]
          simp
        ·
          refine cw_skip ?_
          refine qw_seq ?_
          refine cw_seq ?_
          refine cw_cut1 68 (.bool (decide (0 < (d.length : Int)) && decide (o ≠ 3) && decide (o ≠ 4) && decide (o ≠ 5) && decide (o ≠ 6))) ?_ ?_
          ·
            refine cw_region ?_
            refine ow_val rfl rfl (ex_field rfl) ?_
            refine ow_val rfl rfl (ex_load1 rfl (by first | exact ld_own1 0 rfl rfl | exact ld_own1 1 rfl rfl | exact ld_own1 2 rfl rfl | exact ld_own1 3 rfl rfl | exact ld_own1 4 rfl rfl | exact ld_own1 5 rfl rfl | exact ld_own1 6 rfl rfl | exact ld_own1 7 rfl rfl | exact ld_ownG1 0 rfl rfl | exact ld_ownG1 1 rfl rfl | exact ld_imm1 (by assumption))) ?_
            refine ow_val rfl rfl (ex_len (ty := 0) rfl) ?_
            refine ow_val rfl rfl (ex_gtr rfl rfl) ?_
            refine ow_val rfl rfl (ex_move rfl) ?_
            refine ow_split (g := some (4, true)) rfl (fun s49 => ?_) (fun s49 => ?_)
            ·
              refine ow_val rfl (gd_go rfl s49) (ex_field rfl) ?_
              refine ow_val rfl (gd_go rfl s49) (ex_load1 rfl (by first | exact ld_own1 0 rfl rfl | exact ld_own1 1 rfl rfl | exact ld_own1 2 rfl rfl | exact ld_own1 3 rfl rfl | exact ld_own1 4 rfl rfl | exact ld_own1 5 rfl rfl | exact ld_own1 6 rfl rfl | exact ld_own1 7 rfl rfl | exact ld_ownG1 0 rfl rfl | exact ld_ownG1 1 rfl rfl | exact ld_imm1 (by assumption))) ?_
              refine ow_val rfl (gd_go rfl s49) (ex_neq rfl rfl) ?_
              refine ow_val rfl rfl (ex_pickt rfl s49 rfl) ?_
              refine ow_val rfl rfl (ex_move rfl) ?_
              refine ow_split (g := some (9, true)) rfl (fun s54 => ?_) (fun s54 => ?_)
              ·
                refine ow_val rfl (gd_go rfl s54) (ex_field rfl) ?_
                refine ow_val rfl (gd_go rfl s54) (ex_load1 rfl (by first | exact ld_own1 0 rfl rfl | exact ld_own1 1 rfl rfl | exact ld_own1 2 rfl rfl | exact ld_own1 3 rfl rfl | exact ld_own1 4 rfl rfl | exact ld_own1 5 rfl rfl | exact ld_own1 6 rfl rfl | exact ld_own1 7 rfl rfl | exact ld_ownG1 0 rfl rfl | exact ld_ownG1 1 rfl rfl | exact ld_imm1 (by assumption))) ?_
                refine ow_val rfl (gd_go rfl s54) (ex_neq rfl rfl) ?_
                refine ow_val rfl rfl (ex_pickt rfl s54 rfl) ?_
                refine ow_val rfl rfl (ex_move rfl) ?_
                refine ow_split (g := some (14, true)) rfl (fun s59 => ?_) (fun s59 => ?_)
                ·
                  refine ow_val rfl (gd_go rfl s59) (ex_field rfl) ?_
                  refine ow_val rfl (gd_go rfl s59) (ex_load1 rfl (by first | exact ld_own1 0 rfl rfl | exact ld_own1 1 rfl rfl | exact ld_own1 2 rfl rfl | exact ld_own1 3 rfl rfl | exact ld_own1 4 rfl rfl | exact ld_own1 5 rfl rfl | exact ld_own1 6 rfl rfl | exact ld_own1 7 rfl rfl | exact ld_ownG1 0 rfl rfl | exact ld_ownG1 1 rfl rfl | exact ld_imm1 (by assumption))) ?_
                  refine ow_val rfl (gd_go rfl s59) (ex_neq rfl rfl) ?_
                  refine ow_val rfl rfl (ex_pickt rfl s59 rfl) ?_
                  refine ow_val rfl rfl (ex_move rfl) ?_
                  refine ow_split (g := some (19, true)) rfl (fun s64 => ?_) (fun s64 => ?_)
                  ·
                    refine ow_val rfl (gd_go rfl s64) (ex_field rfl) ?_
                    refine ow_val rfl (gd_go rfl s64) (ex_load1 rfl (by first | exact ld_own1 0 rfl rfl | exact ld_own1 1 rfl rfl | exact ld_own1 2 rfl rfl | exact ld_own1 3 rfl rfl | exact ld_own1 4 rfl rfl | exact ld_own1 5 rfl rfl | exact ld_own1 6 rfl rfl | exact ld_own1 7 rfl rfl | exact ld_ownG1 0 rfl rfl | exact ld_ownG1 1 rfl rfl | exact ld_imm1 (by assumption))) ?_
                    refine ow_val rfl (gd_go rfl s64) (ex_neq rfl rfl) ?_
                    refine ow_val rfl rfl (ex_pickt rfl s64 rfl) ?_
                    refine ow_nil ?_
                    exact qw_meet (subL_meet 24 68 (lkv rfl (by first | rfl | (simp_all; done) | (simp_all <;> omega))) rfl rfl) (fun w h => h)
                  ·
                    refine ow_skip rfl (gd_no rfl s64) ?_
                    refine ow_skip rfl (gd_no rfl s64) ?_
                    refine ow_skip rfl (gd_no rfl s64) ?_
                    refine ow_val rfl rfl (ex_pickf rfl s64 rfl) ?_
                    refine ow_nil ?_
                    exact qw_meet (subL_meet 24 68 (lkv rfl (by first | rfl | (simp_all; done) | (simp_all <;> omega))) rfl rfl) (fun w h => h)
                ·
                  refine ow_skip rfl (gd_no rfl s59) ?_
                  refine ow_skip rfl (gd_no rfl s59) ?_
                  refine ow_skip rfl (gd_no rfl s59) ?_
                  refine ow_val rfl rfl (ex_pickf rfl s59 rfl) ?_
                  refine ow_val rfl rfl (ex_move rfl) ?_
                  refine ow_skip rfl rfl ?_
                  refine ow_skip rfl rfl ?_
                  refine ow_skip rfl rfl ?_
                  refine ow_val rfl rfl (ex_pick_f rfl rfl) ?_
                  refine ow_nil ?_
                  exact qw_meet (subL_meet 24 68 (lkv rfl (by first | rfl | (simp_all; done) | (simp_all <;> omega))) rfl rfl) (fun w h => h)
              ·
                refine ow_skip rfl (gd_no rfl s54) ?_
                refine ow_skip rfl (gd_no rfl s54) ?_
                refine ow_skip rfl (gd_no rfl s54) ?_
                refine ow_val rfl rfl (ex_pickf rfl s54 rfl) ?_
                refine ow_val rfl rfl (ex_move rfl) ?_
                refine ow_skip rfl rfl ?_
                refine ow_skip rfl rfl ?_
                refine ow_skip rfl rfl ?_
                refine ow_val rfl rfl (ex_pick_f rfl rfl) ?_
                refine ow_val rfl rfl (ex_move rfl) ?_
                refine ow_skip rfl rfl ?_
                refine ow_skip rfl rfl ?_
                refine ow_skip rfl rfl ?_
                refine ow_val rfl rfl (ex_pick_f rfl rfl) ?_
                refine ow_nil ?_
                exact qw_meet (subL_meet 24 68 (lkv rfl (by first | rfl | (simp_all; done) | (simp_all <;> omega))) rfl rfl) (fun w h => h)
            ·
              refine ow_skip rfl (gd_no rfl s49) ?_
              refine ow_skip rfl (gd_no rfl s49) ?_
              refine ow_skip rfl (gd_no rfl s49) ?_
              refine ow_val rfl rfl (ex_pickf rfl s49 rfl) ?_
              refine ow_val rfl rfl (ex_move rfl) ?_
              refine ow_skip rfl rfl ?_
              refine ow_skip rfl rfl ?_
              refine ow_skip rfl rfl ?_
              refine ow_val rfl rfl (ex_pick_f rfl rfl) ?_
              refine ow_val rfl rfl (ex_move rfl) ?_
              refine ow_skip rfl rfl ?_
              refine ow_skip rfl rfl ?_
              refine ow_skip rfl rfl ?_
              refine ow_val rfl rfl (ex_pick_f rfl rfl) ?_
              refine ow_val rfl rfl (ex_move rfl) ?_
              refine ow_skip rfl rfl ?_
              refine ow_skip rfl rfl ?_
              refine ow_skip rfl rfl ?_
              refine ow_val rfl rfl (ex_pick_f rfl rfl) ?_
              refine ow_nil ?_
              exact qw_meet (subL_meet 24 68 (lkv rfl (by first | rfl | (simp_all; done) | (simp_all <;> omega))) rfl rfl) (fun w h => h)
          ·
            refine cw_cond rfl (fun c68 => ?_) (fun c68 => ?_)
            ·
              refine cw_seq ?_
              refine cw_region ?_
              refine ow_val rfl rfl (ex_assign rfl) ?_
              refine ow_nil ?_
              refine qw_seq ?_
              refine cw_ret ?_
              refine qw_then_ret ?_
              refine qw_ret1 rfl rfl (fun w' h => ⟨congrArg (fun z => Ending.returned (.bool z)) ?_, h.ag.below⟩)
              symm
              rw [rightD_mk]
              rw [shape_go, c68]
              simp
            ·
              refine cw_skip ?_
              refine qw_seq ?_
              refine cw_seq ?_
              refine cw_seq ?_
              refine cw_region ?_
              refine ow_val rfl rfl (ex_assign rfl) ?_
              refine ow_nil ?_
              refine qw_seq ?_
              refine cw_block ?_
              refine cw_loopS (α := Nat) (fun i => [(1, .int .i64 (deep : Int)), (2, .pointer (some ⟨b2, 0, none⟩)), (6, .int .i64 (i : Int))]) (fun i => i ≤ ks.length ∧ (∀ j (h : j < ks.length), j < i → rightD ks[j] (deep + 1) = true) ∧ (∀ j (h : j + 1 < ks.length), j + 1 < i → ord ks[j] ks[j + 1] ≤ 0)) (fun i => ks.length - i) 0 (subL_cons (lkv rfl (by first | rfl | simp)) (subL_cons (lkv rfl (by first | rfl | simp)) (subL_cons (lkv rfl (by first | rfl | simp)) (subL_nil _)))) ⟨Nat.zero_le _, fun j h hj => absurd hj (Nat.not_lt_zero _), fun j h hj => absurd hj (Nat.not_lt_zero _)⟩ ?_
              intro i ⟨hle, hr, hso⟩
              refine cw_seq ?_
              refine cw_seq ?_
              refine cw_region ?_
              refine ow_val rfl rfl (ex_move rfl) ?_
              refine ow_val rfl rfl (ex_field rfl) ?_
              refine ow_val rfl rfl (ex_load1 rfl (by first | exact ld_own1 0 rfl rfl | exact ld_own1 1 rfl rfl | exact ld_own1 2 rfl rfl | exact ld_own1 3 rfl rfl | exact ld_own1 4 rfl rfl | exact ld_own1 5 rfl rfl | exact ld_own1 6 rfl rfl | exact ld_own1 7 rfl rfl | exact ld_ownG1 0 rfl rfl | exact ld_ownG1 1 rfl rfl | exact ld_imm1 (by assumption))) ?_
              refine ow_val rfl rfl (ex_len (ty := 0) rfl) ?_
              refine ow_val rfl rfl (ex_lss rfl rfl) ?_
              refine ow_nil ?_
              refine qw_seq ?_
              refine cw_cond rfl (fun c73 => ?_) (fun c73 => ?_)
              ·
                refine cw_skip ?_
                refine qw_seq ?_
                refine cw_seq ?_
                refine cw_block ?_
                refine cw_seq ?_
                have hlt : i < ks.length := by simp at c73; omega
                obtain ⟨bk, f, ck, cs, e1, e2, hc1, ht1⟩ := hk.get i hlt
                cases e1
                have hdp : deep < 16 := by simp at c21; omega
                refine cw_region ?_
                refine ow_val rfl rfl (ex_field rfl) ?_
                refine ow_val rfl rfl (ex_load1 rfl (by first | exact ld_own1 0 rfl rfl | exact ld_own1 1 rfl rfl | exact ld_own1 2 rfl rfl | exact ld_own1 3 rfl rfl | exact ld_own1 4 rfl rfl | exact ld_own1 5 rfl rfl | exact ld_own1 6 rfl rfl | exact ld_own1 7 rfl rfl | exact ld_ownG1 0 rfl rfl | exact ld_ownG1 1 rfl rfl | exact ld_imm1 (by assumption))) ?_
                refine ow_val rfl rfl (ex_move rfl) ?_
                refine ow_val rfl rfl (ex_index_nat rfl rfl (by omega)) ?_
                refine ow_val rfl rfl (ex_loadR rfl (by first | exact ld_ownN 0 rfl rfl | exact ld_ownN 1 rfl rfl | exact ld_ownN 2 rfl rfl | exact ld_ownN 3 rfl rfl | exact ld_ownN 4 rfl rfl | exact ld_ownN 5 rfl rfl | exact ld_ownN 6 rfl rfl | exact ld_ownN 7 rfl rfl | exact ld_ownGN 0 rfl rfl | exact ld_ownGN 1 rfl rfl | exact ld_immT (by assumption) (by assumption))) ?_
                refine ow_val rfl rfl (ex_move rfl) ?_
                refine ow_val rfl rfl (ex_addi (z := ((deep + 1 : Nat) : Int)) rfl rfl (by omega) (by omega) (by omega)) ?_
                refine ow_cv rfl rfl (ex_callf rfl (fun w h => callB ((ih _ (List.getElem_mem hlt) h.im ht1 (by omega))))) ?_
                refine ow_val rfl rfl (ex_assign rfl) ?_
                refine ow_nil ?_
                refine qw_seq ?_
                refine cw_seq ?_
                refine cw_seq ?_
                refine cw_region ?_
                refine ow_val rfl rfl (ex_move rfl) ?_
                refine ow_val rfl rfl (ex_not rfl) ?_
                refine ow_nil ?_
                refine qw_seq ?_
                refine cw_cond rfl (fun c85 => ?_) (fun c85 => ?_)
                ·
                  refine cw_seq ?_
                  refine cw_region ?_
                  refine ow_val rfl rfl (ex_assign rfl) ?_
                  refine ow_nil ?_
                  refine qw_seq ?_
                  refine cw_ret ?_
                  refine qw_then_ret ?_
                  refine qw_block_ret ?_
                  refine qw_then_ret ?_
                  refine qw_then_ret ?_
                  refine qw_block_ret ?_
                  refine qw_then_ret ?_
                  refine qw_ret1 rfl rfl (fun w' h => ⟨congrArg (fun z => Ending.returned (.bool z)) ?_, h.ag.below⟩)
                  symm
                  rw [rightD_mk]
                  have : rightsD ks (deep + 1) = false := by
                    cases hq : rightsD ks (deep + 1) with
                    | false => rfl
                    | true => have := rightsD_iff.1 hq i hlt; rw [this] at c85; cases c85
                  rw [this]; simp
                ·
                  refine cw_skip ?_
                  refine qw_seq ?_
                  refine cw_cut1 102 (.bool (decide (0 < (i : Int)) && decide (0 < ord (ks.getD (i - 1) zeroT) ks[i]))) ?_ ?_
                  ·
                    refine flow_sound 17 (by kernel_rfl) ?_
                    refine flow_val rfl (ex_move rfl) ?_
                    refine flow_val rfl (ex_gtr rfl rfl) ?_
                    refine flow_val rfl (ex_move rfl) ?_
                    refine flow_split rfl (fun s88 => ?_) (fun s88 => ?_)
                    ·
                      have hpos : 0 < i := by simpa using s88
                      obtain ⟨bk2, f2, ck2, cs2, e1', e2', hc2, ht2⟩ := hk.get (i - 1) (by omega)
                      cases e1'
                      rw [show ks[i - 1] = ks.getD (i - 1) zeroT by simp [List.getD_eq_getElem?_getD, show i - 1 < ks.length by omega]] at ht2
                      refine flow_val (gd_go rfl s88) (ex_field rfl) ?_
                      refine flow_val (gd_go rfl s88) (ex_load1 rfl (by first | exact ld_own1 0 rfl rfl | exact ld_own1 1 rfl rfl | exact ld_own1 2 rfl rfl | exact ld_own1 3 rfl rfl | exact ld_own1 4 rfl rfl | exact ld_own1 5 rfl rfl | exact ld_own1 6 rfl rfl | exact ld_own1 7 rfl rfl | exact ld_ownG1 0 rfl rfl | exact ld_ownG1 1 rfl rfl | exact ld_imm1 (by assumption))) ?_
                      refine flow_val (gd_go rfl s88) (ex_move rfl) ?_
                      refine flow_val (gd_go rfl s88) (ex_subi (z := ((i - 1 : Nat) : Int)) rfl rfl (by omega) (by omega) (by omega)) ?_
                      refine flow_val (gd_go rfl s88) (ex_index_nat rfl rfl (by omega)) ?_
                      refine flow_val (gd_go rfl s88) (ex_loadR rfl (by first | exact ld_ownN 0 rfl rfl | exact ld_ownN 1 rfl rfl | exact ld_ownN 2 rfl rfl | exact ld_ownN 3 rfl rfl | exact ld_ownN 4 rfl rfl | exact ld_ownN 5 rfl rfl | exact ld_ownN 6 rfl rfl | exact ld_ownN 7 rfl rfl | exact ld_ownGN 0 rfl rfl | exact ld_ownGN 1 rfl rfl | exact ld_immT (by assumption) (by assumption))) ?_
                      refine flow_val (gd_go rfl s88) (ex_field rfl) ?_
                      refine flow_val (gd_go rfl s88) (ex_load1 rfl (by first | exact ld_own1 0 rfl rfl | exact ld_own1 1 rfl rfl | exact ld_own1 2 rfl rfl | exact ld_own1 3 rfl rfl | exact ld_own1 4 rfl rfl | exact ld_own1 5 rfl rfl | exact ld_own1 6 rfl rfl | exact ld_own1 7 rfl rfl | exact ld_ownG1 0 rfl rfl | exact ld_ownG1 1 rfl rfl | exact ld_imm1 (by assumption))) ?_
                      refine flow_val (gd_go rfl s88) (ex_move rfl) ?_
                      refine flow_val (gd_go rfl s88) (ex_index_nat rfl rfl (by omega)) ?_
                      refine flow_val (gd_go rfl s88) (ex_loadR rfl (by first | exact ld_ownN 0 rfl rfl | exact ld_ownN 1 rfl rfl | exact ld_ownN 2 rfl rfl | exact ld_ownN 3 rfl rfl | exact ld_ownN 4 rfl rfl | exact ld_ownN 5 rfl rfl | exact ld_ownN 6 rfl rfl | exact ld_ownN 7 rfl rfl | exact ld_ownGN 0 rfl rfl | exact ld_ownGN 1 rfl rfl | exact ld_immT (by assumption) (by assumption))) ?_
                      refine flow_cv (gd_go rfl s88) (ex_callf rfl (fun w h => callB ((rOrder _ _ h.im ht2 ht1)))) ?_
                      refine flow_val (gd_go rfl s88) (ex_gtr rfl rfl) ?_
                      refine flow_val rfl (ex_pickt rfl s88 rfl) ?_
                      refine flow_nil ?_
                      refine fin_is ?_
                      refine fin_is ?_
                      refine fin_is ?_
                      refine fin_is ?_
                      refine fin_is ?_
                      refine fin_is ?_
                      refine fin_is ?_
                      refine fin_is ?_
                      refine fin_is ?_
                      refine fin_is ?_
                      refine fin_is ?_
                      refine fin_is ?_
                      refine fin_is ?_
                      refine fin_is ?_
                      refine fin_is ?_
                      refine fin_is ?_
                      refine fin_is ?_
                      refine fin_nil ?_
                      refine ow_nil ?_
                      exact qw_meet (subL_meet 17 102 (lkv rfl (by first | rfl | (simp_all; done) | (simp_all <;> omega))) rfl rfl) (fun w h => h)
                    ·
                      refine flow_skip (gd_no rfl s88) ?_
                      refine flow_skip (gd_no rfl s88) ?_
                      refine flow_skip (gd_no rfl s88) ?_
                      refine flow_skip (gd_no rfl s88) ?_
                      refine flow_skip (gd_no rfl s88) ?_
                      refine flow_skip (gd_no rfl s88) ?_
                      refine flow_skip (gd_no rfl s88) ?_
                      refine flow_skip (gd_no rfl s88) ?_
                      refine flow_skip (gd_no rfl s88) ?_
                      refine flow_skip (gd_no rfl s88) ?_
                      refine flow_skip (gd_no rfl s88) ?_
                      refine flow_skip (gd_no rfl s88) ?_
                      refine flow_skip (gd_no rfl s88) ?_
                      refine flow_val rfl (ex_pickf rfl s88 rfl) ?_
                      refine flow_nil ?_
                      refine fin_is ?_
                      refine fin_is ?_
                      refine fin_is ?_
                      refine fin_is ?_
                      refine fin_is ?_
                      refine fin_is ?_
                      refine fin_is ?_
                      refine fin_is ?_
                      refine fin_is ?_
                      refine fin_is ?_
                      refine fin_is ?_
                      refine fin_is ?_
                      refine fin_is ?_
                      refine fin_is ?_
                      refine fin_is ?_
                      refine fin_is ?_
                      refine fin_is ?_
                      refine fin_nil ?_
                      refine ow_nil ?_
                      exact qw_meet (subL_meet 17 102 (lkv rfl (by first | rfl | (simp_all; done) | (simp_all <;> omega))) rfl rfl) (fun w h => h)
                  ·
                    refine cw_cond rfl (fun c102 => ?_) (fun c102 => ?_)
                    ·
                      refine cw_seq ?_
                      refine cw_region ?_
                      refine ow_val rfl rfl (ex_assign rfl) ?_
                      refine ow_nil ?_
                      refine qw_seq ?_
                      refine cw_ret ?_
                      refine qw_block_ret ?_
                      refine qw_then_ret ?_
                      refine qw_then_ret ?_
                      refine qw_block_ret ?_
                      refine qw_then_ret ?_
                      refine qw_ret1 rfl rfl (fun w' h => ⟨congrArg (fun z => Ending.returned (.bool z)) ?_, h.ag.below⟩)
                      symm
                      rw [rightD_mk]
                      have : sorted ks = false := by
                        cases hq : sorted ks with
                        | false => rfl
                        | true =>
                          simp only [Bool.and_eq_true, decide_eq_true_eq] at c102
                          have := sorted_iff.1 hq (i - 1) (by omega)
                          have e : i - 1 + 1 = i := by omega
                          simp only [e] at this
                          rw [List.getD_eq_getElem?_getD, List.getElem?_eq_getElem (show i - 1 < ks.length by omega), Option.getD_some] at c102
                          omega
                      rw [this]; simp
                    ·
                      refine cw_skip ?_
                      refine qw_block_normal ?_
                      refine qw_seq ?_
                      refine cw_region ?_
                      refine ow_val rfl rfl (ex_move rfl) ?_
                      refine ow_val rfl rfl (ex_addi (z := ((i + 1 : Nat) : Int)) rfl rfl (by omega) (by omega) (by omega)) ?_
                      refine ow_val rfl rfl (ex_assign rfl) ?_
                      refine ow_nil ?_
                      exact qw_roundS (i + 1) (by omega) (subL_cons (lkv rfl (by first | rfl | simp)) (subL_cons (lkv rfl (by first | rfl | simp)) (subL_cons (lkv rfl (by first | rfl | simp)) (subL_nil _)))) ⟨by omega, fun j h hj => by
                        by_cases e : j = i
                        · subst e; simpa using c85
                        · exact hr j h (by omega), fun j h hj => by
                        by_cases e : j + 1 = i
                        · subst e
                          have : ord (ks.getD j zeroT) ks[j + 1] ≤ 0 := by simpa using c102
                          rwa [List.getD_eq_getElem?_getD, List.getElem?_eq_getElem (show j < ks.length by omega), Option.getD_some] at this
                        · exact hso j h (by omega)⟩
              ·
                refine cw_exit ?_
                refine qw_then_exit ?_
                refine qw_then_exit ?_
                refine qw_block_exit ?_
                refine qw_seq ?_
                refine cw_seq ?_
                refine cw_region ?_
                refine ow_val rfl rfl (ex_assign rfl) ?_
                refine ow_nil ?_
                refine qw_seq ?_
                refine cw_ret ?_
                refine qw_ret1 rfl rfl (fun w' h => ⟨congrArg (fun z => Ending.returned (.bool z)) ?_, h.ag.below⟩)
                symm
                rw [rightD_mk]
                have hsh : shape o n d ks = true := by
                  rw [shape_go, c44, c68]
                  simp at c21 ⊢
                  exact ⟨c21.2.1, by omega⟩
                have hdp : deep < 16 := by simp at c21; omega
                have he : i = ks.length := by simp at c73; omega
                rw [hsh, rightsD_iff.2 (fun j h => hr j h (by omega)), sorted_iff.2 (fun j h => hso j h (by omega))]
                simp [hdp]
set_option maxHeartbeats 400000 in
theorem rRight (t : T) {σ : Hp} {cs : List Value} {w : World} (hi : Imm σ w) (ht : TermC σ cs t) : Calls Tryd.prog 49 #[.agg cs.toArray] w fun e w' => e = .returned (.bool (right t)) ∧ Below w.heap.size w w' := by
  have ht0 := ht
  obtain ⟨dv, kv, rfl, ho, hn, hd, hk⟩ := ht.opn
  refine enter (St w (fun _ => False) σ [] []) Tryd.func49 rfl Tryd.ntmps49 rfl (St.start hi) ?_
  refine cw_seq ?_
  refine cw_region ?_
  refine ow_blk rfl rfl (exw_box rfl) ?_; intro b1
  refine ow_val rfl rfl (ex_assign rfl) ?_
  refine ow_nil ?_
  refine qw_seq ?_
  refine cw_seq ?_
  refine cw_region ?_
  refine ow_val rfl rfl (ex_loadR rfl (by first | exact ld_ownN 0 rfl rfl | exact ld_ownN 1 rfl rfl | exact ld_ownN 2 rfl rfl | exact ld_ownN 3 rfl rfl | exact ld_ownN 4 rfl rfl | exact ld_ownN 5 rfl rfl | exact ld_ownN 6 rfl rfl | exact ld_ownN 7 rfl rfl | exact ld_ownGN 0 rfl rfl | exact ld_ownGN 1 rfl rfl | exact ld_immT (by assumption) (by assumption))) ?_
  refine ow_cv rfl rfl (ex_callf rfl (fun w h => callB ((rRightD t (deep := 0) h.im ht0 (by omega))))) ?_
  refine ow_val rfl rfl (ex_assign rfl) ?_
  refine ow_nil ?_
  refine qw_seq ?_
  refine cw_ret ?_
  refine qw_ret1 rfl rfl (fun w' h => ⟨rfl, h.ag.below⟩)
end Go.Proofs.YtnjomdjkbbhdoaaDoor
namespace Go.Proofs.YtnjomdjkbbhdoaaDoor
open Go.RowKit
set_option linter.unusedVariables false
set_option linter.unusedSimpArgs false
set_option maxRecDepth 100000
set_option maxHeartbeats 400000 in
theorem rCopied : ∀ (t : T) {σ : Hp} {cs : List Value} {w : World}, Imm σ w → TermC σ cs t → Calls Tryd.prog 19 #[.agg cs.toArray] w (GiveR (RepT t) σ w) := by
  intro t
  induction t using T.ind with
  | _ o n d ks ih =>
  intro σ cs w hi ht
  obtain ⟨dv, kv, rfl, ho, hn, hd, hk⟩ := ht.opn
  simp only [T.kids, T.op, T.num, T.data] at *
  obtain ⟨p, c, rfl, hc, hm⟩ := hk.slice
  obtain ⟨pd, cd, rfl, hcd, hmd, hsrc⟩ := hd.row
  have hm2 := hm
  unfold maxKids at hm2
  have hmd2 := hmd
  unfold maxData at hmd2
  have hml : (140737488355328 : Nat) ≤ maxLen := by unfold maxLen; omega
  refine enter (St w (fun _ => False) σ [] []) Tryd.func19 rfl Tryd.ntmps19 rfl (St.start hi) ?_
  refine cw_seq ?_
  refine cw_region ?_
  refine ow_blk rfl rfl (exw_box rfl) ?_; intro b1
  refine ow_blk rfl rfl exw_alloc ?_; intro b2
  refine ow_nil ?_
  refine qw_seq ?_
  refine cw_seq ?_
  refine cw_region ?_
  refine ow_val rfl rfl (ex_field rfl) ?_
  refine ow_val rfl rfl (ex_load1 rfl (by first | exact ld_own1 0 rfl rfl | exact ld_own1 1 rfl rfl | exact ld_own1 2 rfl rfl | exact ld_own1 3 rfl rfl | exact ld_own1 4 rfl rfl | exact ld_own1 5 rfl rfl | exact ld_own1 6 rfl rfl | exact ld_own1 7 rfl rfl | exact ld_ownG1 0 rfl rfl | exact ld_ownG1 1 rfl rfl | exact ld_imm1 (by assumption))) ?_
  refine ow_val rfl rfl (ex_assign rfl) ?_
  refine ow_nil ?_
  refine qw_seq ?_
  refine cw_seq ?_
  refine cw_region ?_
  refine ow_slit rfl rfl exw_slit0 ?_; intro b7
  refine ow_mono (fun w h => h.toG) ?_
  refine ow_val rfl rfl (ex_field rfl) ?_
  refine ow_val rfl rfl (ex_load1 rfl (by first | exact ld_own1 0 rfl rfl | exact ld_own1 1 rfl rfl | exact ld_own1 2 rfl rfl | exact ld_own1 3 rfl rfl | exact ld_own1 4 rfl rfl | exact ld_own1 5 rfl rfl | exact ld_own1 6 rfl rfl | exact ld_own1 7 rfl rfl | exact ld_ownG1 0 rfl rfl | exact ld_ownG1 1 rfl rfl | exact ld_imm1 (by assumption))) ?_
  refine ow_app1 rfl rfl (exw_append1 (news := d.map byteV) rfl rfl (OwnSl.lit0 5 1 b7) (by simp) (hsrc.imp id fun ⟨b, f, hp, hca⟩ => ⟨b, f, hp, fun w h => hca.range h.im⟩) (bytes_one d) (by omega) (by omega)) (fun v10 G10 hO10 hz10 => ?_)
  refine ow_frzB (fun _ h => h) hO10 (by simp) hmd (fun σ1 hl1 hf1 hb10 => ?_)
  refine ow_val rfl rfl (ex_field rfl) ?_
  refine ow_u rfl (exu_store1 1 rfl rfl rfl hb10.cell.1 hb10.cell.2 rfl) ?_
  refine ow_nil ?_
  refine qw_seq ?_
  refine cw_seq ?_
  refine cw_region ?_
  refine ow_val rfl rfl (ex_field rfl) ?_
  refine ow_u rfl (exu_store1 1 rfl rfl rfl rfl rfl rfl) ?_
  refine ow_nil ?_
  refine qw_seq ?_
  refine cw_seq ?_
  refine cw_seq ?_
  refine cw_region ?_
  refine ow_val rfl rfl (ex_assign rfl) ?_
  refine ow_nil ?_
  refine qw_seq ?_
  refine cw_block ?_
  refine cw_loopH5 (fun (i : Nat) (τ : Hp) (v : Value) (xs : List Value) (G : List (Nat × Obj)) => [(1, .pointer (some ⟨b1, 0, none⟩)), (2, .pointer (some ⟨b2, 0, none⟩)), (3, .slice p ks.length c), (4, .int .i64 (i : Int))]) (fun i τ v xs G => i ≤ ks.length ∧ Le σ1 τ ∧ Fresh σ1 τ w ∧ RowC τ xs (ks.take i) ∧ OwnSl 30 4 v i xs G) (fun i τ v xs G => τ) (fun i τ v xs G => [(b2, .cells (Value.agg #[.int .i64 0, .int .i64 0, .slice none 0 0, .slice none 0 0]).cells 30), (b1, .cells #[.int .i64 o, .int .i64 n, v10, v] 30)]) (fun i τ v xs G => G) (fun i τ v xs G => ks.length - i) 0 σ1 (.slice none 0 0) [] [] (subL_cons (lkv rfl (by first | rfl | simp)) (subL_cons (lkv rfl (by first | rfl | simp)) (subL_cons (lkv rfl (by first | rfl | simp)) (subL_cons (lkv rfl (by first | rfl | simp)) (subL_nil _))))) ⟨Nat.zero_le _, Le.refl _, Fresh.refl _ _, rfl, OwnSl.nil _ _⟩ (fun w h => h) ?_
  intro i τ v xs G ⟨hle, hl, hf, hrow, hO⟩
  refine cw_seq ?_
  refine cw_seq ?_
  refine cw_region ?_
  refine ow_val rfl rfl (ex_move rfl) ?_
  refine ow_val rfl rfl (ex_move rfl) ?_
  refine ow_val rfl rfl (ex_len (ty := 0) rfl) ?_
  refine ow_val rfl rfl (ex_lss rfl rfl) ?_
  refine ow_nil ?_
  refine qw_seq ?_
  refine cw_cond rfl (fun c16 => ?_) (fun c16 => ?_)
  ·
    refine cw_skip ?_
    refine qw_seq ?_
    refine cw_seq ?_
    refine cw_block ?_
    have hlt : i < ks.length := by simpa using c16
    obtain ⟨bk, f, ck, cs, e1, e2, hc1, ht1⟩ := (hk.le (hl1.trans hl)).get i hlt
    cases e1
    refine flow_sound 8 (by kernel_rfl) ?_
    refine flow_val rfl (ex_field rfl) ?_
    refine flow_val rfl (ex_load1 rfl (by first | exact ld_own1 0 rfl rfl | exact ld_own1 1 rfl rfl | exact ld_own1 2 rfl rfl | exact ld_own1 3 rfl rfl | exact ld_own1 4 rfl rfl | exact ld_own1 5 rfl rfl | exact ld_own1 6 rfl rfl | exact ld_own1 7 rfl rfl | exact ld_ownG1 0 rfl rfl | exact ld_ownG1 1 rfl rfl | exact ld_imm1 (by assumption))) ?_
    refine flow_val rfl (ex_move rfl) ?_
    refine flow_val rfl (ex_move rfl) ?_
    refine flow_val rfl (ex_index_nat rfl rfl (by omega)) ?_
    refine flow_val rfl (ex_loadR rfl (by first | exact ld_ownN 0 rfl rfl | exact ld_ownN 1 rfl rfl | exact ld_ownN 2 rfl rfl | exact ld_ownN 3 rfl rfl | exact ld_ownN 4 rfl rfl | exact ld_ownN 5 rfl rfl | exact ld_ownN 6 rfl rfl | exact ld_ownN 7 rfl rfl | exact ld_ownGN 0 rfl rfl | exact ld_ownGN 1 rfl rfl | exact ld_immT (by assumption) (by assumption))) ?_
    refine flow_cr rfl (ex_callf rfl (fun w h => callR (ih _ (List.getElem_mem hlt) h.im ht1))) ?_
    refine flow_sat (q := QR (RepOne (ks[i]'hlt)) τ w ([(b2, .cells (Value.agg #[.int .i64 0, .int .i64 0, .slice none 0 0, .slice none 0 0]).cells 30), (b1, .cells #[.int .i64 o, .int .i64 n, v10, v] 30)] ++ G)) QR.pers (obk_sat 25 rfl (fun v25 => ob_open (fun τ' hl' hf' hr' => ?_))) ?_
    · obtain ⟨co, rfl, hco⟩ := hr'
      exact ob_up hl' hf' (ob_one rfl rfl hco)
    refine flow_nil ?_
    refine fin_satR (Le.refl _) (fun v26 τ2 hl2 hf2 hr26 => ?_)
    refine fin_drop ?_
    refine fin_is ?_
    refine fin_is ?_
    refine fin_is ?_
    refine fin_is ?_
    refine fin_is ?_
    refine fin_is ?_
    refine fin_nil ?_
    obtain ⟨bo, co, rfl, hco, htco⟩ := hr26
    refine ow_app1 rfl rfl (exw_append1 (news := co) rfl rfl hO (by rw [htco.len]) (.inr ⟨_, _, rfl, fun w h => hco.range h.im⟩) htco.one (by omega) (by omega)) (fun v27 G27 hO27 hz27 => ?_)
    refine ow_val rfl rfl (ex_field rfl) ?_
    refine ow_u rfl (exu_store1 1 rfl rfl rfl hO27.cell.1 hO27.cell.2 rfl) ?_
    refine ow_nil ?_
    refine qw_block_normal ?_
    refine qw_seq ?_
    refine cw_region ?_
    refine ow_val rfl rfl (ex_move rfl) ?_
    refine ow_val rfl rfl (ex_addi (z := ((i + 1 : Nat) : Int)) rfl rfl (by omega) (by omega) (by omega)) ?_
    refine ow_val rfl rfl (ex_assign rfl) ?_
    refine ow_nil ?_
    exact qw_roundH5 (i + 1) τ2 v27 _ G27 (by omega) (subL_cons (lkv rfl (by first | rfl | simp)) (subL_cons (lkv rfl (by first | rfl | simp)) (subL_cons (lkv rfl (by first | rfl | simp)) (subL_cons (lkv rfl (by first | rfl | simp)) (subL_nil _))))) ⟨by omega, hl.trans hl2, hf.trans hf2, by rw [List.take_succ_eq_append_getElem hlt]; exact (hrow.le hl2).append (RowC.one htco), hO27⟩ (fun w h => h)
  ·
    refine cw_exit ?_
    refine qw_then_exit ?_
    refine qw_then_exit ?_
    refine qw_block_exit ?_
    refine qw_seq ?_
    refine cw_seq ?_
    refine cw_region ?_
    refine ow_val rfl rfl (ex_loadR rfl (by first | exact ld_ownN 0 rfl rfl | exact ld_ownN 1 rfl rfl | exact ld_ownN 2 rfl rfl | exact ld_ownN 3 rfl rfl | exact ld_ownN 4 rfl rfl | exact ld_ownN 5 rfl rfl | exact ld_ownN 6 rfl rfl | exact ld_ownN 7 rfl rfl | exact ld_ownGN 0 rfl rfl | exact ld_ownGN 1 rfl rfl | exact ld_immT (by assumption) (by assumption))) ?_
    refine ow_u rfl (exu_storeN 0 rfl rfl rfl rfl (four_one hb10.cell.2 hO.cell.2) rfl) ?_
    refine ow_nil ?_
    refine qw_seq ?_
    refine cw_ret ?_
    refine qw_retC rfl rfl (ld_ownN 0 rfl rfl) (fun w' h => ?_)
    have he : i = ks.length := by simp at c16; omega
    rw [he, List.take_length] at hrow
    obtain ⟨σ', h1, h2, h3, h4⟩ := freezeG (Gr := []) (by simpa using h) (fun _ h => h) hO hrow hm
    refine h2.gives ((hl1.trans hl).trans h1) ((hf1.trans hf).trans h4) ⟨_, rfl, ?_⟩
    exact TermC.mk ho hn (hb10.le (hl.trans h1)) h3
end Go.Proofs.YtnjomdjkbbhdoaaDoor
namespace Go.Proofs.YtnjomdjkbbhdoaaDoor
open Go.RowKit
set_option linter.unusedVariables false
set_option linter.unusedSimpArgs false
set_option maxRecDepth 100000
set_option maxHeartbeats 400000 in
theorem pBytesCloneO {d : List UInt8} {σ : Hp} {v : Value} {w : World} (hi : Imm σ w) (hd : BytesV σ v d) : Calls Tryd.prog 58 #[v] w (GiveO 5 1 d.length (d.map byteV) w) := by
  have hd0 := hd
  obtain ⟨pd, cd, rfl, hcd, hmd, hsrc⟩ := hd.row
  have hmd2 := hmd
  unfold maxData at hmd2
  have hml : (140737488355328 : Nat) ≤ maxLen := by unfold maxLen; omega
  refine enter (St w (fun _ => False) σ [] []) Tryd.func58 rfl Tryd.ntmps58 rfl (St.start hi) ?_
  refine cw_seq ?_
  refine cw_region ?_
  refine ow_val rfl rfl (ex_assign rfl) ?_
  refine ow_nil ?_
  refine qw_seq ?_
  refine cw_seq ?_
  refine cw_seq ?_
  refine cw_region ?_
  refine ow_val rfl rfl (ex_move rfl) ?_
  refine ow_val rfl rfl (ex_isnil rfl) ?_
  refine ow_nil ?_
  refine qw_seq ?_
  refine cw_cond rfl (fun c4 => ?_) (fun c4 => ?_)
  ·
    refine cw_seq ?_
    refine cw_region ?_
    refine ow_val rfl rfl (ex_assign rfl) ?_
    refine ow_nil ?_
    refine qw_seq ?_
    refine cw_ret ?_
    refine qw_then_ret ?_
    refine qw_ret1 rfl rfl (fun w' h => ?_)
    have : d = [] := by
      rcases hsrc with h0 | ⟨b, o, hp, _⟩
      · exact List.eq_nil_of_length_eq_zero h0
      · rw [hp] at c4; cases c4
    subst this
    exact h.givesO (OwnSl.nil _ _)
  ·
    refine cw_skip ?_
    refine qw_seq ?_
    refine cw_seq ?_
    refine cw_region ?_
    refine ow_slit rfl rfl exw_slit0 ?_; intro b5
    refine ow_mono (fun w h => h.toG) ?_
    refine ow_val rfl rfl (ex_move rfl) ?_
    refine ow_app1 rfl rfl (exw_append1 (news := d.map byteV) rfl rfl (OwnSl.lit0 5 1 b5) (by simp) (hsrc.imp id fun ⟨b, f, hp, hca⟩ => ⟨b, f, hp, fun w h => hca.range h.im⟩) (bytes_one d) (by omega) (by omega)) (fun v7 G7 hO7 hz7 => ?_)
    refine ow_val rfl rfl (ex_assign rfl) ?_
    refine ow_nil ?_
    refine qw_seq ?_
    refine cw_ret ?_
    refine qw_ret1 rfl rfl (fun w' h => ?_)
    rw [Nat.zero_add, List.nil_append] at hO7
    exact h.givesO hO7
set_option maxHeartbeats 400000 in
theorem pNorm0O {o n : Int} {d : List UInt8} {σ κ : Hp} {cs : List Value} {w : World} (hi : Imm σ w) (hik : Imm κ w) (ht : TermS σ κ cs (.mk o n d [])) : Calls Tryd.prog 51 #[.agg cs.toArray] w (GiveK (OwnT 5 (norm (.mk o n d []))) σ [] w) := by
  obtain ⟨dv, kv, rfl, ho, hn, hd, hk⟩ := ht
  simp only [T.kids, T.op, T.num, T.data] at *
  obtain ⟨p, c, xs, rfl, hc, hm, hrow, hsrc⟩ := hk.row
  have hm2 := hm
  unfold maxKids at hm2
  obtain ⟨pd0, cd0, rfl, _, hmd0⟩ := hd.slice
  simp only [RowC] at hrow
  subst hrow
  refine enter (St w (keysOf []) σ [] []) Tryd.func51 rfl Tryd.ntmps51 rfl (Has.start (Has.nil hi)) ?_
  refine cw_seq ?_
  refine cw_region ?_
  refine ow_blk rfl rfl (exw_box rfl) ?_; intro b1
  refine ow_blk rfl rfl exw_alloc ?_; intro b2
  refine ow_nil ?_
  refine qw_seq ?_
  refine cw_seq ?_
  refine cw_region ?_
  refine ow_val rfl rfl (ex_field rfl) ?_
  refine ow_val rfl rfl (ex_load1 rfl (by first | exact ld_own1 0 rfl rfl | exact ld_own1 1 rfl rfl | exact ld_own1 2 rfl rfl | exact ld_own1 3 rfl rfl | exact ld_own1 4 rfl rfl | exact ld_own1 5 rfl rfl | exact ld_own1 6 rfl rfl | exact ld_own1 7 rfl rfl | exact ld_ownG1 0 rfl rfl | exact ld_ownG1 1 rfl rfl | exact ld_imm1 (by assumption))) ?_
  refine ow_coG rfl rfl (ex_callf rfl (fun w h => callO (pBytesCloneO (hik.ag0 h.ag) hd))) (fun v7 G7 hO7 => ?_)
  rw [List.append_nil G7]
  refine ow_val rfl rfl (ex_field rfl) ?_
  refine ow_u rfl (exu_store1 1 rfl rfl rfl hO7.cell.1 hO7.cell.2 rfl) ?_
  refine ow_nil ?_
  refine qw_seq ?_
  refine cw_seq ?_
  refine cw_region ?_
  refine ow_val rfl rfl (ex_field rfl) ?_
  refine ow_val rfl rfl (ex_load1 rfl (by first | exact ld_own1 0 rfl rfl | exact ld_own1 1 rfl rfl | exact ld_own1 2 rfl rfl | exact ld_own1 3 rfl rfl | exact ld_own1 4 rfl rfl | exact ld_own1 5 rfl rfl | exact ld_own1 6 rfl rfl | exact ld_own1 7 rfl rfl | exact ld_ownG1 0 rfl rfl | exact ld_ownG1 1 rfl rfl | exact ld_imm1 (by assumption))) ?_
  refine ow_coG rfl rfl (ex_callf rfl (fun w h => callO (pTermsClone (ks := []) (xs := []) h.im rfl (Nat.zero_le _) (.inl rfl)))) (fun v11 G11 hO11 => ?_)
  refine ow_mono (fun w h => h.dropG (List.sublist_append_right _ _)) ?_
  obtain ⟨q, c2, rfl⟩ : ∃ q c2, v11 = .slice q 0 c2 := by
    rcases hO11.2 with ⟨rfl, _⟩ | ⟨g, c2, cur, rfl, _⟩
    · exact ⟨_, _, rfl⟩
    · exact ⟨_, _, rfl⟩
  refine ow_val rfl rfl (ex_field rfl) ?_
  refine ow_u rfl (exu_store1 1 rfl rfl rfl rfl rfl rfl) ?_
  refine ow_nil ?_
  refine qw_seq ?_
  refine cw_seq ?_
  refine cw_seq ?_
  refine cw_region ?_
  refine ow_val rfl rfl (ex_field rfl) ?_
  refine ow_val rfl rfl (ex_load1 rfl (by first | exact ld_own1 0 rfl rfl | exact ld_own1 1 rfl rfl | exact ld_own1 2 rfl rfl | exact ld_own1 3 rfl rfl | exact ld_own1 4 rfl rfl | exact ld_own1 5 rfl rfl | exact ld_own1 6 rfl rfl | exact ld_own1 7 rfl rfl | exact ld_ownG1 0 rfl rfl | exact ld_ownG1 1 rfl rfl | exact ld_imm1 (by assumption))) ?_
  refine ow_val rfl rfl (ex_len (ty := 0) rfl) ?_
  refine ow_val rfl rfl (ex_move rfl) ?_
  refine ow_nil ?_
  refine qw_seq ?_
  refine cw_block ?_
  refine cw_loopS (α := Unit) (fun _ => [(1, .pointer (some ⟨b1, 0, none⟩)), (2, .pointer (some ⟨b2, 0, none⟩)), (14, .slice q 0 c2), (15, .int .i64 (0 : Int)), (16, .int .i64 (0 : Int))]) (fun _ => True) (fun _ => 0) () (subL_cons (lkv rfl (by first | rfl | simp)) (subL_cons (lkv rfl (by first | rfl | simp)) (subL_cons (lkv rfl (by first | rfl | simp)) (subL_cons (lkv rfl (by first | rfl | simp)) (subL_cons (lkv rfl (by first | rfl | simp)) (subL_nil _)))))) trivial ?_
  intro _ _
  refine cw_seq ?_
  refine cw_region ?_
  refine ow_val rfl rfl (ex_lss rfl rfl) ?_
  refine ow_nil ?_
  refine qw_seq ?_
  refine cw_seq ?_
  refine cw_cond rfl (fun c17 => ?_) (fun c17 => ?_)
  ·
    simp at c17
  ·
    refine cw_exit ?_
    refine qw_then_exit ?_
    refine qw_then_exit ?_
    refine qw_block_exit ?_
    refine qw_seq ?_
    refine cw_seq ?_
    refine cw_seq ?_
    refine cw_region ?_
    refine ow_val rfl rfl (ex_field rfl) ?_
    refine ow_val rfl rfl (ex_load1 rfl (by first | exact ld_own1 0 rfl rfl | exact ld_own1 1 rfl rfl | exact ld_own1 2 rfl rfl | exact ld_own1 3 rfl rfl | exact ld_own1 4 rfl rfl | exact ld_own1 5 rfl rfl | exact ld_own1 6 rfl rfl | exact ld_own1 7 rfl rfl | exact ld_ownG1 0 rfl rfl | exact ld_ownG1 1 rfl rfl | exact ld_imm1 (by assumption))) ?_
    refine ow_val rfl rfl (ex_eql rfl rfl) ?_
    refine ow_nil ?_
    refine qw_seq ?_
    refine cw_cond rfl (fun c30 => ?_) (fun c30 => ?_)
    ·
      refine cw_region ?_
      refine ow_val rfl rfl (ex_field rfl) ?_
      refine ow_val rfl rfl (ex_load1 rfl (by first | exact ld_own1 0 rfl rfl | exact ld_own1 1 rfl rfl | exact ld_own1 2 rfl rfl | exact ld_own1 3 rfl rfl | exact ld_own1 4 rfl rfl | exact ld_own1 5 rfl rfl | exact ld_own1 6 rfl rfl | exact ld_own1 7 rfl rfl | exact ld_ownG1 0 rfl rfl | exact ld_ownG1 1 rfl rfl | exact ld_imm1 (by assumption))) ?_
      refine ow_cv rfl rfl (ex_callf rfl (fun w h => callB (pSort0))) ?_
      refine ow_nil ?_
      refine qw_seq ?_
      refine cw_seq ?_
      refine cw_region ?_
      refine ow_val rfl rfl (ex_loadR rfl (by first | exact ld_ownN 0 rfl rfl | exact ld_ownN 1 rfl rfl | exact ld_ownN 2 rfl rfl | exact ld_ownN 3 rfl rfl | exact ld_ownN 4 rfl rfl | exact ld_ownN 5 rfl rfl | exact ld_ownN 6 rfl rfl | exact ld_ownN 7 rfl rfl | exact ld_ownGN 0 rfl rfl | exact ld_ownGN 1 rfl rfl | exact ld_immT (by assumption) (by assumption))) ?_
      refine ow_u rfl (exu_storeN 0 rfl rfl rfl rfl (four_one hO7.cell.2 rfl) rfl) ?_
      refine ow_nil ?_
      refine qw_seq ?_
      refine cw_ret ?_
      refine qw_retC rfl rfl (ld_ownN 0 rfl rfl) (fun w' h => ?_)
      refine St.givesK (h.drop (List.nil_sublist _)) (Le.refl _) (Fresh.refl _ _) ?_
      rw [norm_mk, show (if o = 7 then sortB [] (norms []) else norms []) = ([] : List T) by split <;> rfl]
      exact ⟨v7, _, rfl, ho, hn, hO7, hmd0, ⟨q, c2, rfl, Nat.zero_le _, Nat.zero_le _, .inl rfl⟩⟩
    ·
      refine cw_skip ?_
      refine qw_seq ?_
      refine cw_seq ?_
      refine cw_region ?_
      refine ow_val rfl rfl (ex_loadR rfl (by first | exact ld_ownN 0 rfl rfl | exact ld_ownN 1 rfl rfl | exact ld_ownN 2 rfl rfl | exact ld_ownN 3 rfl rfl | exact ld_ownN 4 rfl rfl | exact ld_ownN 5 rfl rfl | exact ld_ownN 6 rfl rfl | exact ld_ownN 7 rfl rfl | exact ld_ownGN 0 rfl rfl | exact ld_ownGN 1 rfl rfl | exact ld_immT (by assumption) (by assumption))) ?_
      refine ow_u rfl (exu_storeN 0 rfl rfl rfl rfl (four_one hO7.cell.2 rfl) rfl) ?_
      refine ow_nil ?_
      refine qw_seq ?_
      refine cw_ret ?_
      refine qw_retC rfl rfl (ld_ownN 0 rfl rfl) (fun w' h => ?_)
      refine St.givesK (h.drop (List.nil_sublist _)) (Le.refl _) (Fresh.refl _ _) ?_
      rw [norm_mk, show (if o = 7 then sortB [] (norms []) else norms []) = ([] : List T) by split <;> rfl]
      exact ⟨v7, _, rfl, ho, hn, hO7, hmd0, ⟨q, c2, rfl, Nat.zero_le _, Nat.zero_le _, .inl rfl⟩⟩
set_option maxHeartbeats 400000 in
theorem pNormNO {o : Int} {n : Int} {d : List UInt8} {ks : List T} {B : Nat} (hS : SortsAt Tryd.prog 70 57 30 B) (hBm : B ≤ maxKids) (hsk : ∀ k, k ∈ ks → slim B k) (hB : ks.length ≤ B) (hpos : 0 < ks.length) {σ κ : Hp} {cs : List Value} {w : World} (hi : Imm σ w) (hik : Imm κ w) (ht : TermS σ κ cs (.mk o n d ks)) : Calls Tryd.prog 51 #[.agg cs.toArray] w (GiveK (OwnT 5 (norm (.mk o n d ks))) σ [] w) := by
  obtain ⟨dv, kv, rfl, ho, hn, hd, hk⟩ := ht
  simp only [T.kids, T.op, T.num, T.data] at *
  obtain ⟨p, c, xs, rfl, hc, hm, hrow, hsrc⟩ := hk.row
  have hm2 := hm
  unfold maxKids at hm2
  obtain ⟨pd0, cd0, rfl, _, hmd0⟩ := hd.slice
  refine enter (St w (keysOf []) σ [] []) Tryd.func51 rfl Tryd.ntmps51 rfl (Has.start (Has.nil hi)) ?_
  refine cw_seq ?_
  refine cw_region ?_
  refine ow_blk rfl rfl (exw_box rfl) ?_; intro b1
  refine ow_blk rfl rfl exw_alloc ?_; intro b2
  refine ow_nil ?_
  refine qw_seq ?_
  refine cw_seq ?_
  refine cw_region ?_
  refine ow_val rfl rfl (ex_field rfl) ?_
  refine ow_val rfl rfl (ex_load1 rfl (by first | exact ld_own1 0 rfl rfl | exact ld_own1 1 rfl rfl | exact ld_own1 2 rfl rfl | exact ld_own1 3 rfl rfl | exact ld_own1 4 rfl rfl | exact ld_own1 5 rfl rfl | exact ld_own1 6 rfl rfl | exact ld_own1 7 rfl rfl | exact ld_ownG1 0 rfl rfl | exact ld_ownG1 1 rfl rfl | exact ld_imm1 (by assumption))) ?_
  refine ow_coG rfl rfl (ex_callf rfl (fun w h => callO (pBytesCloneO (hik.ag0 h.ag) hd))) (fun v7 G7 hO7 => ?_)
  rw [List.append_nil G7]
  refine ow_val rfl rfl (ex_field rfl) ?_
  refine ow_u rfl (exu_store1 1 rfl rfl rfl hO7.cell.1 hO7.cell.2 rfl) ?_
  refine ow_nil ?_
  refine qw_seq ?_
  refine cw_seq ?_
  refine cw_region ?_
  refine ow_val rfl rfl (ex_field rfl) ?_
  refine ow_val rfl rfl (ex_load1 rfl (by first | exact ld_own1 0 rfl rfl | exact ld_own1 1 rfl rfl | exact ld_own1 2 rfl rfl | exact ld_own1 3 rfl rfl | exact ld_own1 4 rfl rfl | exact ld_own1 5 rfl rfl | exact ld_own1 6 rfl rfl | exact ld_own1 7 rfl rfl | exact ld_ownG1 0 rfl rfl | exact ld_ownG1 1 rfl rfl | exact ld_imm1 (by assumption))) ?_
  refine ow_coG rfl rfl (ex_callf rfl (fun w h => callO (pTermsClone h.im hrow hm hsrc))) (fun v11 G11 hO11 => ?_)
  obtain ⟨g, c2, tl, rfl, rfl, hc2, hcm2, hxl2⟩ := hO11.open hpos
  refine ow_mono (fun w h => h.ofG) ?_
  refine ow_val rfl rfl (ex_field rfl) ?_
  refine ow_u rfl (exu_store1 2 rfl rfl rfl rfl rfl rfl) ?_
  refine ow_nil ?_
  refine qw_seq ?_
  refine cw_seq ?_
  refine cw_seq ?_
  refine cw_region ?_
  refine ow_val rfl rfl (ex_field rfl) ?_
  refine ow_val rfl rfl (ex_load1 rfl (by first | exact ld_own1 0 rfl rfl | exact ld_own1 1 rfl rfl | exact ld_own1 2 rfl rfl | exact ld_own1 3 rfl rfl | exact ld_own1 4 rfl rfl | exact ld_own1 5 rfl rfl | exact ld_own1 6 rfl rfl | exact ld_own1 7 rfl rfl | exact ld_ownG1 0 rfl rfl | exact ld_ownG1 1 rfl rfl | exact ld_imm1 (by assumption))) ?_
  refine ow_val rfl rfl (ex_len (ty := 0) rfl) ?_
  refine ow_val rfl rfl (ex_move rfl) ?_
  refine ow_nil ?_
  refine qw_seq ?_
  refine cw_block ?_
  refine cw_loopH3 (fun (i : Nat) (τ : Hp) (ys : List Value) => [(1, .pointer (some ⟨b1, 0, none⟩)), (2, .pointer (some ⟨b2, 0, none⟩)), (14, .slice (some ⟨g, 0, none⟩) ks.length c2), (15, .int .i64 (ks.length : Int)), (16, .int .i64 (i : Int))]) (fun i τ ys => i ≤ ks.length ∧ Le σ τ ∧ Fresh σ τ w ∧ RowC τ ys (norms (ks.take i) ++ ks.drop i)) (fun i τ ys => τ) (fun i τ ys => [(g, rowO ys tl 30), (b2, .cells (Value.agg #[.int .i64 0, .int .i64 0, .slice none 0 0, .slice none 0 0]).cells 30), (b1, .cells #[.int .i64 o, .int .i64 n, v7, .slice (some ⟨g, 0, none⟩) ks.length c2] 30)]) (fun i τ ys => G7) (fun i τ ys => ks.length - i) 0 σ xs (subL_cons (lkv rfl (by first | rfl | simp)) (subL_cons (lkv rfl (by first | rfl | simp)) (subL_cons (lkv rfl (by first | rfl | simp)) (subL_cons (lkv rfl (by first | rfl | simp)) (subL_cons (lkv rfl (by first | rfl | simp)) (subL_nil _)))))) ⟨Nat.zero_le _, Le.refl _, Fresh.refl _ _, by simpa [norms] using hrow⟩ (fun w h => h) ?_
  intro i τ ys ⟨hle, hl, hf, hry⟩
  refine cw_seq ?_
  refine cw_region ?_
  refine ow_val rfl rfl (ex_lss rfl rfl) ?_
  refine ow_nil ?_
  refine qw_seq ?_
  refine cw_seq ?_
  refine cw_cond rfl (fun c17 => ?_) (fun c17 => ?_)
  ·
    refine cw_skip ?_
    refine qw_seq ?_
    refine cw_seq ?_
    refine cw_block ?_
    refine cw_seq ?_
    have hlt : i < ks.length := by simpa using c17
    have hnl : (norms (ks.take i) ++ ks.drop i).length = ks.length := by rw [List.length_append, norms_len, List.length_take, List.length_drop]; omega
    obtain ⟨ce, hte, hxe⟩ := hry.at i (by omega)
    rw [norms_at ks i hlt] at hte
    have hyl := hry.len
    have hte' := hte
    obtain ⟨d1, k1, rfl, _, _, _, _⟩ := hte'.opn
    refine cw_region ?_
    refine ow_val rfl rfl (ex_move rfl) ?_
    refine ow_val rfl rfl (ex_index_nat rfl rfl (by omega)) ?_
    refine ow_val rfl rfl (ex_loadR rfl (ld_rowH 0 rfl hte.len hxe)) ?_
    refine ow_blk rfl rfl exw_alloc ?_; intro b4
    refine ow_val rfl rfl (ex_assign rfl) ?_
    refine ow_u rfl (exu_storeN 0 rfl rfl rfl rfl hte.one rfl) ?_
    refine ow_nil ?_
    refine qw_seq ?_
    refine flow_sound 6 (by kernel_rfl) ?_
    refine flow_val rfl (ex_field rfl) ?_
    refine flow_val rfl (ex_load1 rfl (by first | exact ld_own1 0 rfl rfl | exact ld_own1 1 rfl rfl | exact ld_own1 2 rfl rfl | exact ld_own1 3 rfl rfl | exact ld_own1 4 rfl rfl | exact ld_own1 5 rfl rfl | exact ld_own1 6 rfl rfl | exact ld_own1 7 rfl rfl | exact ld_ownG1 0 rfl rfl | exact ld_ownG1 1 rfl rfl | exact ld_imm1 (by assumption))) ?_
    refine flow_val rfl (ex_move rfl) ?_
    refine flow_val rfl (ex_loadR rfl (by first | exact ld_ownN 0 rfl rfl | exact ld_ownN 1 rfl rfl | exact ld_ownN 2 rfl rfl | exact ld_ownN 3 rfl rfl | exact ld_ownN 4 rfl rfl | exact ld_ownN 5 rfl rfl | exact ld_ownN 6 rfl rfl | exact ld_ownN 7 rfl rfl | exact ld_ownGN 0 rfl rfl | exact ld_ownGN 1 rfl rfl | exact ld_immT (by assumption) (by assumption))) ?_
    refine flow_cr rfl (ex_callf rfl (fun w h => callR (pNorm hS hBm _ (hsk _ (List.getElem_mem hlt)) h.im hte))) ?_
    refine flow_val rfl (ex_index_nat rfl rfl (by omega)) ?_
    refine flow_nil ?_
    refine fin_is ?_
    refine fin_satR (Le.refl _) (fun v25 τ2 hl2 hf2 hr25 => ?_)
    refine fin_is ?_
    refine fin_is ?_
    refine fin_is ?_
    refine fin_is ?_
    refine fin_nil ?_
    obtain ⟨cn, rfl, htn⟩ := hr25
    refine ow_u rfl (exu_storeX 1 rfl rfl rfl htn.len htn.one (by omega)) ?_
    refine ow_nil ?_
    refine qw_block_normal ?_
    refine qw_seq ?_
    refine cw_region ?_
    refine ow_val rfl rfl (ex_addi (z := ((i + 1 : Nat) : Int)) rfl rfl (by omega) (by omega) (by omega)) ?_
    refine ow_val rfl rfl (ex_move rfl) ?_
    refine ow_nil ?_
    exact qw_roundH3 (i + 1) τ2 (setX ys i cn) (by omega) (subL_cons (lkv rfl (by first | rfl | simp)) (subL_cons (lkv rfl (by first | rfl | simp)) (subL_cons (lkv rfl (by first | rfl | simp)) (subL_cons (lkv rfl (by first | rfl | simp)) (subL_cons (lkv rfl (by first | rfl | simp)) (subL_nil _)))))) ⟨by omega, hl.trans hl2, hf.trans hf2, by rw [← norms_set ks i hlt]; exact (hry.le hl2).set i htn (by omega)⟩ (fun w h => h.drop (List.sublist_cons_self _ _))
  ·
    have he : i = ks.length := by simp at c17; omega
    subst he
    have hrw : RowC τ ys (norms ks) := by rw [List.take_length, List.drop_length, List.append_nil] at hry; exact hry
    refine cw_exit ?_
    refine qw_then_exit ?_
    refine qw_then_exit ?_
    refine qw_block_exit ?_
    refine qw_seq ?_
    refine cw_seq ?_
    refine cw_seq ?_
    refine cw_region ?_
    refine ow_val rfl rfl (ex_field rfl) ?_
    refine ow_val rfl rfl (ex_load1 rfl (by first | exact ld_own1 0 rfl rfl | exact ld_own1 1 rfl rfl | exact ld_own1 2 rfl rfl | exact ld_own1 3 rfl rfl | exact ld_own1 4 rfl rfl | exact ld_own1 5 rfl rfl | exact ld_own1 6 rfl rfl | exact ld_own1 7 rfl rfl | exact ld_ownG1 0 rfl rfl | exact ld_ownG1 1 rfl rfl | exact ld_imm1 (by assumption))) ?_
    refine ow_val rfl rfl (ex_eql rfl rfl) ?_
    refine ow_nil ?_
    refine qw_seq ?_
    refine cw_cond rfl (fun c30 => ?_) (fun c30 => ?_)
    ·
      have ho7 : o = 7 := by simpa using c30
      refine cw_region ?_
      refine ow_val rfl rfl (ex_field rfl) ?_
      refine ow_val rfl rfl (ex_load1 rfl (by first | exact ld_own1 0 rfl rfl | exact ld_own1 1 rfl rfl | exact ld_own1 2 rfl rfl | exact ld_own1 3 rfl rfl | exact ld_own1 4 rfl rfl | exact ld_own1 5 rfl rfl | exact ld_own1 6 rfl rfl | exact ld_own1 7 rfl rfl | exact ld_ownG1 0 rfl rfl | exact ld_ownG1 1 rfl rfl | exact ld_imm1 (by assumption))) ?_
      refine ow_cmd rfl rfl (ex_callf rfl (fun w h => callM (hS (norms_len ks).symm h.im (h.own (p := (g, rowO ys tl 30)) List.mem_cons_self) (h.fresh (p := (g, rowO ys tl 30)) List.mem_cons_self) hrw (by rw [norms_len]; exact hB) (by rw [norms_len]; exact hc2)))) (fun v33 us zs hR hr2 => ?_)
      refine ow_nil ?_
      refine qw_seq ?_
      refine cw_seq ?_
      refine cw_region ?_
      refine ow_val rfl rfl (ex_loadR rfl (by first | exact ld_ownN 0 rfl rfl | exact ld_ownN 1 rfl rfl | exact ld_ownN 2 rfl rfl | exact ld_ownN 3 rfl rfl | exact ld_ownN 4 rfl rfl | exact ld_ownN 5 rfl rfl | exact ld_ownN 6 rfl rfl | exact ld_ownN 7 rfl rfl | exact ld_ownGN 0 rfl rfl | exact ld_ownGN 1 rfl rfl | exact ld_immT (by assumption) (by assumption))) ?_
      refine ow_u rfl (exu_storeN 1 rfl rfl rfl rfl (four_one hO7.cell.2 rfl) rfl) ?_
      refine ow_nil ?_
      refine qw_seq ?_
      refine cw_ret ?_
      refine qw_retC rfl rfl (ld_ownN 1 rfl rfl) (fun w' h => ?_)
      have hus := sortB_is hR.1 hR.2
      subst hus
      have hfr := hr2
      have hul : (sortB [] (norms ks)).length = ks.length := by rw [sortB_len, norms_len]; simp
      obtain ⟨σ', h1, h2, h3, h4⟩ := freezeG (Gr := G7) h.toG noKeys (OwnSl.close (by rw [hfr.len, hul]) hc2 hcm2 (by rw [List.length_append] at hxl2 ⊢; have q1 := hfr.len; have q2 := hrow.len; rw [hul] at q1; omega)) hfr (by omega)
      refine St.givesK (h2.drop (List.nil_sublist _)) (hl.trans h1) (hf.trans h4) ?_
      rw [norm_mk, if_pos ho7]
      exact ⟨v7, _, rfl, ho, hn, hO7, hmd0, h3⟩
    ·
      refine cw_skip ?_
      refine qw_seq ?_
      refine cw_seq ?_
      refine cw_region ?_
      refine ow_val rfl rfl (ex_loadR rfl (by first | exact ld_ownN 0 rfl rfl | exact ld_ownN 1 rfl rfl | exact ld_ownN 2 rfl rfl | exact ld_ownN 3 rfl rfl | exact ld_ownN 4 rfl rfl | exact ld_ownN 5 rfl rfl | exact ld_ownN 6 rfl rfl | exact ld_ownN 7 rfl rfl | exact ld_ownGN 0 rfl rfl | exact ld_ownGN 1 rfl rfl | exact ld_immT (by assumption) (by assumption))) ?_
      refine ow_u rfl (exu_storeN 1 rfl rfl rfl rfl (four_one hO7.cell.2 rfl) rfl) ?_
      refine ow_nil ?_
      refine qw_seq ?_
      refine cw_ret ?_
      refine qw_retC rfl rfl (ld_ownN 1 rfl rfl) (fun w' h => ?_)
      have ho7 : o ≠ 7 := by simpa using c30
      have hfr := hrw
      have hul : (norms ks).length = ks.length := norms_len ks
      obtain ⟨σ', h1, h2, h3, h4⟩ := freezeG (Gr := G7) h.toG noKeys (OwnSl.close (by rw [hfr.len, hul]) hc2 hcm2 (by rw [List.length_append] at hxl2 ⊢; have q1 := hfr.len; have q2 := hrow.len; rw [hul] at q1; omega)) hfr (by omega)
      refine St.givesK (h2.drop (List.nil_sublist _)) (hl.trans h1) (hf.trans h4) ?_
      rw [norm_mk, if_neg ho7]
      exact ⟨v7, _, rfl, ho, hn, hO7, hmd0, h3⟩
theorem pNormO {B : Nat} (hS : SortsAt Tryd.prog 70 57 30 B) (hBm : B ≤ maxKids) (t : T) (hsl : slim B t) {σ κ : Hp} {cs : List Value} {w : World} (hi : Imm σ w) (hik : Imm κ w) (ht : TermS σ κ cs t) : Calls Tryd.prog 51 #[.agg cs.toArray] w (GiveK (OwnT 5 (norm t)) σ [] w) := by
  obtain ⟨o, n, d, ks⟩ := t
  obtain ⟨h1, h2⟩ := slim_mk.1 hsl
  rcases Nat.eq_zero_or_pos ks.length with h0 | h0
  · obtain rfl := List.eq_nil_of_length_eq_zero h0
    exact pNorm0O hi hik ht
  · exact pNormNO hS hBm h2 h1 h0 hi hik ht
theorem pNormF {B : Nat} (hS : SortsAt Tryd.prog 70 57 30 B) (hBm : B ≤ maxKids) (t : T) (hsl : slim B t) {σ κ : Hp} {cs : List Value} {w : World} (hi : Imm σ w) (hik : Imm κ w) (ht : TermS σ κ cs t) : Calls Tryd.prog 51 #[.agg cs.toArray] w (GiveR (RepT (norm t)) σ w) :=
  (pNormO hS hBm t hsl hi hik ht).mono fun e w' h => OwnT.giveR h
end Go.Proofs.YtnjomdjkbbhdoaaDoor
namespace Go.Proofs.YtnjomdjkbbhdoaaDoor
open Go.RowKit
set_option linter.unusedVariables false
set_option linter.unusedSimpArgs false
set_option maxRecDepth 100000
set_option maxHeartbeats 400000 in
theorem pTermO {b : Nat} {n : Int} {ts : List T} {σ : Hp} {K : List (Nat × Obj)} {w : World} (hi : Has σ K w) (hv : VaultK 68 30 b ts σ K) : Calls Tryd.prog 22 #[.pointer (some ⟨b, 0, none⟩), .int .i64 n] w (GiveK (fun σ' u K' => ∃ u0, u = .tuple #[u0, .bool (termV ts n).2] ∧ OwnT 5 (termV ts n).1 σ' u0 K') σ [] w) := by
  obtain ⟨sv, xs, m, Gs, rfl, hO, hrow, hti, hfew⟩ := hv
  obtain ⟨p, c, rfl, hcap, hsrc⟩ := hO.seen (σ := exts σ ((b, .cells #[sv, .map (some m)] 68) :: (m, mapObj ts) :: Gs)) (fun q hq => exts_get hi.nd (by simp [hq]))
  have hc0 : CellsAt (exts σ ((b, .cells #[.slice p ts.length c, .map (some m)] 68) :: (m, mapObj ts) :: Gs)) b 0 [.slice p ts.length c] := CellsAt.of1 (exts_get hi.nd List.mem_cons_self) rfl
  have hlt := hi.le
  have him := hi.exts
  generalize exts σ ((b, .cells #[.slice p ts.length c, .map (some m)] 68) :: (m, mapObj ts) :: Gs) = σK at *
  refine enter (St w (fun _ => False) σK [] []) Tryd.func22 rfl Tryd.ntmps22 rfl (St.start him) ?_
  refine cw_seq ?_
  refine cw_region ?_
  refine ow_blk rfl rfl exw_alloc ?_; intro b4
  refine ow_val rfl rfl (ex_assign rfl) ?_
  refine ow_nil ?_
  refine qw_seq ?_
  refine cw_seq ?_
  refine cw_seq ?_
  refine cw_region ?_
  refine ow_val rfl rfl (ex_move rfl) ?_
  refine ow_val rfl rfl (ex_lss rfl rfl) ?_
  refine ow_val rfl rfl (ex_move rfl) ?_
  refine ow_split (g := some (2, false)) rfl (fun s8 => ?_) (fun s8 => ?_)
  ·
    refine ow_skip rfl (gd_no rfl s8) ?_
    refine ow_skip rfl (gd_no rfl s8) ?_
    refine ow_skip rfl (gd_no rfl s8) ?_
    refine ow_skip rfl (gd_no rfl s8) ?_
    refine ow_skip rfl (gd_no rfl s8) ?_
    refine ow_skip rfl (gd_no rfl s8) ?_
    refine ow_skip rfl (gd_no rfl s8) ?_
    refine ow_val rfl rfl (ex_pickt rfl s8 rfl) ?_
    refine ow_nil ?_
    refine qw_seq ?_
    refine cw_cond_t rfl ?_
    refine cw_seq ?_
    refine cw_region ?_
    refine ow_val rfl rfl (ex_build (parts := []) (cells := #[.int .i64 0, .int .i64 0, .slice none 0 0, .slice none 0 0]) rfl (by kernel_rfl)) ?_
    refine ow_u rfl (exu_storeN 0 (cs := [.int .i64 0, .int .i64 0, .slice none 0 0, .slice none 0 0]) rfl rfl rfl rfl (zeroT_c σ).one rfl) ?_
    refine ow_val rfl rfl (ex_assign rfl) ?_
    refine ow_nil ?_
    refine qw_seq ?_
    refine cw_ret ?_
    refine qw_then_ret ?_
    refine qw_retC1 rfl rfl (ld_ownN 0 rfl rfl) rfl (fun w' h => ?_)
    have e : termV ts n = (zeroT, false) := by
      have h8 := of_decide_eq_true s8
      unfold termV
      rw [if_neg (by omega)]
    rw [e]
    exact (h.drop (List.nil_sublist _)).givesKS hlt (Le.refl _) (Fresh.refl _ _) ⟨_, rfl, .slice none 0 0, .slice none 0 0, rfl, by decide, by decide, OwnSl.nil _ _, Nat.zero_le _, KidsV.nil _⟩
  ·
    refine ow_val rfl (gd_go rfl s8) (ex_move rfl) ?_
    refine ow_val rfl (gd_go rfl s8) (ex_move rfl) ?_
    refine ow_val rfl (gd_go rfl s8) (ex_nilck rfl) ?_
    refine ow_val rfl (gd_go rfl s8) (ex_field rfl) ?_
    refine ow_val rfl (gd_go rfl s8) (ex_load1 rfl (by first | exact ld_own1 0 rfl rfl | exact ld_own1 1 rfl rfl | exact ld_own1 2 rfl rfl | exact ld_own1 3 rfl rfl | exact ld_own1 4 rfl rfl | exact ld_own1 5 rfl rfl | exact ld_own1 6 rfl rfl | exact ld_own1 7 rfl rfl | exact ld_ownG1 0 rfl rfl | exact ld_ownG1 1 rfl rfl | exact ld_imm1 (by assumption))) ?_
    refine ow_val rfl (gd_go rfl s8) (ex_len (ty := 0) rfl) ?_
    refine ow_val rfl (gd_go rfl s8) (ex_geq rfl rfl) ?_
    refine ow_val rfl rfl (ex_pickf rfl s8 rfl) ?_
    refine ow_nil ?_
    refine qw_seq ?_
    refine cw_cond rfl (fun c16 => ?_) (fun c16 => ?_)
    ·
      refine cw_seq ?_
      refine cw_region ?_
      refine ow_val rfl rfl (ex_build (parts := []) (cells := #[.int .i64 0, .int .i64 0, .slice none 0 0, .slice none 0 0]) rfl (by kernel_rfl)) ?_
      refine ow_u rfl (exu_storeN 0 (cs := [.int .i64 0, .int .i64 0, .slice none 0 0, .slice none 0 0]) rfl rfl rfl rfl (zeroT_c σ).one rfl) ?_
      refine ow_val rfl rfl (ex_assign rfl) ?_
      refine ow_nil ?_
      refine qw_seq ?_
      refine cw_ret ?_
      refine qw_then_ret ?_
      refine qw_retC1 rfl rfl (ld_ownN 0 rfl rfl) rfl (fun w' h => ?_)
      have e : termV ts n = (zeroT, false) := by
        have h8 := of_decide_eq_true c16
        unfold termV
        rw [if_neg (by omega)]
      rw [e]
      exact (h.drop (List.nil_sublist _)).givesKS hlt (Le.refl _) (Fresh.refl _ _) ⟨_, rfl, .slice none 0 0, .slice none 0 0, rfl, by decide, by decide, OwnSl.nil _ _, Nat.zero_le _, KidsV.nil _⟩
    ·
      refine cw_skip ?_
      refine qw_seq ?_
      refine cw_seq ?_
      obtain ⟨hn0, hn1⟩ : 0 ≤ n ∧ n < ts.length := by
        first | (simp at *; omega) | (simp at *; constructor <;> omega)
      obtain ⟨i, rfl⟩ : ∃ i : Nat, n = (i : Int) := ⟨n.toNat, by omega⟩
      have hil : i < ts.length := by omega
      obtain ⟨cs, htc, hcs⟩ := hrow.at i hil
      obtain ⟨bb, ob, rfl, hcb⟩ := hsrc.resolve_left (by omega)
      have hca : CellsAt σK bb (ob + i * 4) cs := by rw [← hcs]; exact (hcb.drop (i * 4)).take 4
      have hcl := htc.len
      refine cw_region ?_
      refine ow_val rfl rfl (ex_move rfl) ?_
      refine ow_val rfl rfl (ex_nilck rfl) ?_
      refine ow_val rfl rfl (ex_field rfl) ?_
      refine ow_val rfl rfl (ex_load1 rfl (by first | exact ld_own1 0 rfl rfl | exact ld_own1 1 rfl rfl | exact ld_own1 2 rfl rfl | exact ld_own1 3 rfl rfl | exact ld_own1 4 rfl rfl | exact ld_own1 5 rfl rfl | exact ld_own1 6 rfl rfl | exact ld_own1 7 rfl rfl | exact ld_ownG1 0 rfl rfl | exact ld_ownG1 1 rfl rfl | exact ld_imm1 (by assumption))) ?_
      refine ow_val rfl rfl (ex_move rfl) ?_
      refine ow_val rfl rfl (ex_index_nat rfl rfl (by omega)) ?_
      refine ow_val rfl rfl (ex_loadR rfl ⟨hcl, fun w h => hca.range h.im⟩) ?_
      refine ow_ckS rfl rfl hlt (ex_callf rfl (fun w h => pNormO pSortsS (by unfold maxKids; omega) _ (right_slim (hti.rt _ (List.getElem_mem hil))).2 (fun b o e => h.im b o (hlt b o e)) (fun b o e => h.im b o (hlt b o e)) htc.split)) (fun v25 τ τK K5 hl hf hr hlk hle => ?_)
      rw [List.append_nil K5]
      rw [(right_slim (hti.rt _ (List.getElem_mem hil))).1] at hr
      have hrO := hr
      obtain ⟨d25, k25, rfl, ho5, hn5, hO5, hm5, hk5⟩ := hr
      obtain ⟨p5, c5, rfl, _, _⟩ := hk5.slice
      refine ow_u rfl (exu_storeN 0 rfl rfl rfl rfl (four_one hO5.cell.2 rfl) rfl) ?_
      refine ow_val rfl rfl (ex_assign rfl) ?_
      refine ow_nil ?_
      refine qw_seq ?_
      refine cw_ret ?_
      refine qw_retC1 rfl rfl (ld_ownN 0 rfl rfl) rfl (fun w' h => ?_)
      have e : termV ts (i : Int) = (ts[i], true) := by
        unfold termV
        rw [if_pos ⟨hn0, hn1⟩]
        simp [List.getD_eq_getElem?_getD, hil]
      rw [e]
      exact (h.drop (List.nil_sublist _)).givesKS hle hl hf ⟨_, rfl, hrO⟩
set_option maxHeartbeats 400000 in
theorem pPutF (t : T) {b : Nat} {ts : List T} {ct : List Value} {σ κ : Hp} {K : List (Nat × Obj)} {w : World} (hi : Has σ K w) (hik : Has κ K w) (hle : Le σ κ) (htab : TabC Tryd.prog σ) (hv : VaultK 68 30 b ts σ K) (ht : TermS σ κ ct t) (hr : right t = true) (hroom : 0 ≤ posT ts t ∨ ts.length + size t ≤ 4096) : Calls Tryd.prog 48 #[.pointer (some ⟨b, 0, none⟩), .agg ct.toArray] w (GiveK (fun σ' u K' => u = .int .i64 (numV t ts) ∧ VaultK 68 30 b (putV t ts) σ' K') σ K w) := by
  obtain ⟨o, n, d, ks⟩ := t
  have ht0 := ht
  have htk := ht.join hle
  obtain ⟨dv, kv, rfl, ho, hn, hd, hk⟩ := ht
  simp only [T.kids, T.op, T.num, T.data] at *
  obtain ⟨p, c, rfl, hc, hm⟩ := hk.slice
  have hm2 := hm
  unfold maxKids at hm2
  obtain ⟨pv, cv, mv, hs⟩ := hv.seenX hi
  have hlim := right_lim hr
  have hslim := right_slim hr
  refine enter (St w (keysOf K) σ [] K) Tryd.func48 rfl Tryd.ntmps48 rfl (Has.start hi) ?_
  refine cw_seq ?_
  refine cw_region ?_
  refine ow_blk rfl rfl (exw_box rfl) ?_; intro b3
  refine ow_val rfl rfl (ex_assign rfl) ?_
  refine ow_nil ?_
  refine qw_seq ?_
  refine cw_seq ?_
  refine cw_region ?_
  refine ow_val rfl rfl (ex_loadR rfl (by first | exact ld_ownN 0 rfl rfl | exact ld_ownN 1 rfl rfl | exact ld_ownN 2 rfl rfl | exact ld_ownN 3 rfl rfl | exact ld_ownN 4 rfl rfl | exact ld_ownN 5 rfl rfl | exact ld_ownN 6 rfl rfl | exact ld_ownN 7 rfl rfl | exact ld_ownGN 0 rfl rfl | exact ld_ownGN 1 rfl rfl | exact ld_immT (by assumption) (by assumption))) ?_
  refine ow_cv rfl rfl (ex_callf rfl (fun w h => callB ((pKey _ (hik.im.agK h.ag hik.keys) (htab.le hle) htk hlim)))) ?_
  refine ow_val rfl rfl (ex_assign rfl) ?_
  refine ow_nil ?_
  refine qw_seq ?_
  refine cw_seq ?_
  refine cw_seq ?_
  refine cw_region ?_
  refine ow_val rfl rfl (ex_move rfl) ?_
  refine ow_val rfl rfl (ex_nilck rfl) ?_
  refine ow_val rfl rfl (ex_field rfl) ?_
  refine ow_val rfl rfl (ex_load1 rfl (fun w h => hs.c1.cell h.hasE.exts)) ?_
  refine ow_val rfl rfl (ex_move rfl) ?_
  refine ow_val rfl rfl (ex_mapget rfl rfl (fun w h => h.hasE.exts _ _ hs.mp)) ?_
  refine ow_val rfl rfl (ex_move rfl) ?_
  refine ow_val rfl rfl (ex_extract rfl rfl) ?_
  refine ow_val rfl rfl (ex_extract rfl rfl) ?_
  refine ow_val rfl rfl (ex_assign rfl) ?_
  refine ow_val rfl rfl (ex_assign rfl) ?_
  refine ow_nil ?_
  refine qw_seq ?_
  refine cw_seq ?_
  refine cw_region ?_
  refine ow_val rfl rfl (ex_move rfl) ?_
  refine ow_nil ?_
  refine qw_seq ?_
  refine cw_cond rfl (fun c22 => ?_) (fun c22 => ?_)
  ·
    refine cw_seq ?_
    refine cw_region ?_
    refine ow_val rfl rfl (ex_move rfl) ?_
    refine ow_val rfl rfl (ex_assign rfl) ?_
    refine ow_nil ?_
    refine qw_seq ?_
    refine cw_ret ?_
    refine qw_then_ret ?_
    refine qw_ret1 rfl rfl (fun w' h => ?_)
    have h0 := of_decide_eq_true c22
    refine (h.drop (List.nil_sublist _)).givesK (Le.refl _) (Fresh.refl _ _) ⟨?_, ?_⟩
    · unfold numV
      rw [if_pos h0, if_pos h0]
    · rw [putV_mk, if_pos h0]
      exact hv
  ·
    have hnp : ¬ 0 ≤ posT ts (.mk o n d ks) := of_decide_eq_false c22
    have hsz := hroom.resolve_left hnp
    simp only [size] at hsz
    refine cw_skip ?_
    refine qw_seq ?_
    refine cw_seq ?_
    refine cw_seq ?_
    refine cw_region ?_
    refine ow_val rfl rfl (ex_field rfl) ?_
    refine ow_val rfl rfl (ex_load1 rfl (by first | exact ld_own1 0 rfl rfl | exact ld_own1 1 rfl rfl | exact ld_own1 2 rfl rfl | exact ld_own1 3 rfl rfl | exact ld_own1 4 rfl rfl | exact ld_own1 5 rfl rfl | exact ld_own1 6 rfl rfl | exact ld_own1 7 rfl rfl | exact ld_ownG1 0 rfl rfl | exact ld_ownG1 1 rfl rfl | exact ld_imm1 (by assumption))) ?_
    refine ow_val rfl rfl (ex_len (ty := 0) rfl) ?_
    refine ow_val rfl rfl (ex_move rfl) ?_
    refine ow_nil ?_
    refine qw_seq ?_
    refine cw_block ?_
    refine cw_loop3 (fun (j : Nat) (τ : Hp) (K' : List (Nat × Obj)) => [(0, .pointer (some ⟨b, 0, none⟩)), (3, .pointer (some ⟨b3, 0, none⟩)), (5, .string (strOf (keyB (.mk o n d ks)))), (25, .slice p ks.length c), (26, .int .i64 (ks.length : Int)), (27, .int .i64 (j : Int))]) (fun j τ K' => j ≤ ks.length ∧ Le σ τ ∧ Fresh σ τ w ∧ VaultK 68 30 b (putVs (ks.take j) ts) τ K') (fun j τ K' => τ) (fun j τ K' => K') (fun j _ _ => ks.length - j) 0 σ K (subL_cons (lkv rfl (by first | rfl | simp)) (subL_cons (lkv rfl (by first | rfl | simp)) (subL_cons (lkv rfl (by first | rfl | simp)) (subL_cons (lkv rfl (by first | rfl | simp)) (subL_cons (lkv rfl (by first | rfl | simp)) (subL_cons (lkv rfl (by first | rfl | simp)) (subL_nil _))))))) ⟨Nat.zero_le _, Le.refl _, Fresh.refl _ _, by simpa [putVs] using hv⟩ (fun w h => h) ?_
    intro j τj Kj ⟨hlej, hlj, hfj, hvj⟩
    refine cw_seq ?_
    refine cw_region ?_
    refine ow_val rfl rfl (ex_lss rfl rfl) ?_
    refine ow_nil ?_
    refine qw_seq ?_
    refine cw_seq ?_
    refine cw_cond rfl (fun c28 => ?_) (fun c28 => ?_)
    ·
      refine cw_skip ?_
      refine qw_seq ?_
      refine cw_seq ?_
      refine cw_block ?_
      refine cw_seq ?_
      have hltj : j < ks.length := by have := of_decide_eq_true c28; omega
      obtain ⟨bk, f, c', cs, e1, e2, hc1, ht1⟩ := hk.get j hltj
      cases e1
      have ht1' := ht1
      obtain ⟨d9, k9, rfl, _, _, _, _⟩ := ht1'.opn
      have hst := putVs_take ks ts j hltj
      have hpl := putVs_len ks ts j
      have hs1 := sizes_take ks j hltj
      have hs2 := sizes_take_le ks (j + 1)
      refine cw_region ?_
      refine ow_val rfl rfl (ex_index_nat rfl rfl (by omega)) ?_
      refine ow_val rfl rfl (ex_loadR rfl (ld_immT (hc1.le hlj) (ht1.le hlj))) ?_
      refine ow_blk rfl rfl exw_alloc ?_; intro b9
      refine ow_u rfl (exu_storeN 0 rfl rfl rfl rfl ht1.one rfl) ?_
      refine ow_nil ?_
      refine qw_seq ?_
      refine cw_region ?_
      refine ow_val rfl rfl (ex_move rfl) ?_
      refine ow_val rfl rfl (ex_loadR rfl (by first | exact ld_ownN 0 rfl rfl | exact ld_ownN 1 rfl rfl | exact ld_ownN 2 rfl rfl | exact ld_ownN 3 rfl rfl | exact ld_ownN 4 rfl rfl | exact ld_ownN 5 rfl rfl | exact ld_ownN 6 rfl rfl | exact ld_ownN 7 rfl rfl | exact ld_ownGN 0 rfl rfl | exact ld_ownGN 1 rfl rfl | exact ld_immT (by assumption) (by assumption))) ?_
      refine ow_ckE rfl rfl (ex_callf rfl (fun w h => pPut _ h.hasE (htab.le hlj) hvj (ht1.le hlj) (right_in (t := .mk o n d ks) hr (List.getElem_mem hltj)) (.inr (by omega)))) (fun v33 τ33 K33 hl33 hf33 hr33 => ?_)
      refine ow_nil ?_
      refine qw_block_normal ?_
      refine qw_seq ?_
      refine cw_region ?_
      refine ow_val rfl rfl (ex_addi (z := ((j + 1 : Nat) : Int)) rfl rfl (by omega) (by omega) (by omega)) ?_
      refine ow_val rfl rfl (ex_move rfl) ?_
      refine ow_nil ?_
      refine qw_round3 (j + 1) τ33 K33 (by omega) (subL_cons (lkv rfl (by first | rfl | simp)) (subL_cons (lkv rfl (by first | rfl | simp)) (subL_cons (lkv rfl (by first | rfl | simp)) (subL_cons (lkv rfl (by first | rfl | simp)) (subL_cons (lkv rfl (by first | rfl | simp)) (subL_cons (lkv rfl (by first | rfl | simp)) (subL_nil _))))))) ⟨by omega, hlj.trans hl33, hfj.trans hf33, ?_⟩ (fun w h => h.drop (List.sublist_cons_self _ _))
      rw [hst]
      exact hr33.2
    ·
      refine cw_exit ?_
      refine qw_then_exit ?_
      refine qw_then_exit ?_
      refine qw_block_exit ?_
      refine qw_seq ?_
      refine cw_seq ?_
      have he : j = ks.length := by have := of_decide_eq_false c28; omega
      subst he
      rw [List.take_length] at hvj
      have hpl := putVs_len ks ts ks.length
      rw [List.take_length] at hpl
      have hnew := putVs_new (t := .mk o n d ks) hnp
      simp only [T.kids] at hnew
      obtain ⟨sv, xs, m, Gs, rfl, hO, hrow, hti, hfew⟩ := hvj
      obtain ⟨pq, cq, rfl, hcq⟩ := hO.slice
      refine cw_region ?_
      refine ow_val rfl rfl (ex_move rfl) ?_
      refine ow_val rfl rfl (ex_nilck rfl) ?_
      refine ow_val rfl rfl (ex_field rfl) ?_
      refine ow_val rfl rfl (ex_load1 rfl (by first | exact ld_own1 0 rfl rfl | exact ld_own1 1 rfl rfl | exact ld_own1 2 rfl rfl | exact ld_own1 3 rfl rfl | exact ld_own1 4 rfl rfl | exact ld_own1 5 rfl rfl | exact ld_own1 6 rfl rfl | exact ld_own1 7 rfl rfl | exact ld_ownG1 0 rfl rfl | exact ld_ownG1 1 rfl rfl | exact ld_imm1 (by assumption))) ?_
      refine ow_val rfl rfl (ex_len (ty := 0) rfl) ?_
      refine ow_val rfl rfl (ex_assign rfl) ?_
      refine ow_nil ?_
      refine qw_seq ?_
      refine cw_cut [(0, .pointer (some ⟨b, 0, none⟩)), (5, .string (strOf (keyB (.mk o n d ks)))), (10, .int .i64 ((putVs ks ts).length : Int))] (fun w' => ∃ (τ5 : Hp) (c45 : List Value) (g cg : Nat) (tl : List Value), (Le τj τ5 ∧ Fresh τj τ5 w ∧ TermC τ5 c45 (.mk o n d ks) ∧ (putVs ks ts).length + 1 ≤ cg ∧ cg ≤ maxLen ∧ (xs ++ c45 ++ tl).length = cg * 4) ∧ St w (keysOf K) τ5 [(g, rowO (xs ++ c45) tl 30), (m, mapObj (putVs ks ts)), (b, .cells #[.slice (some ⟨g, 0, none⟩) ((putVs ks ts).length + 1) cg, .map (some m)] 68)] [] w') ?_ ?_
      ·
        refine flow_soundT 8 (by kernel_rfl) ?_
        refine flow_val rfl (ex_move rfl) ?_
        refine flow_val rfl (ex_nilck rfl) ?_
        refine flow_val rfl (ex_field rfl) ?_
        refine flow_val rfl (ex_load1 rfl (by first | exact ld_own1 0 rfl rfl | exact ld_own1 1 rfl rfl | exact ld_own1 2 rfl rfl | exact ld_own1 3 rfl rfl | exact ld_own1 4 rfl rfl | exact ld_own1 5 rfl rfl | exact ld_own1 6 rfl rfl | exact ld_own1 7 rfl rfl | exact ld_ownG1 0 rfl rfl | exact ld_ownG1 1 rfl rfl | exact ld_imm1 (by assumption))) ?_
        refine flow_val rfl (ex_loadR rfl (by first | exact ld_ownN 0 rfl rfl | exact ld_ownN 1 rfl rfl | exact ld_ownN 2 rfl rfl | exact ld_ownN 3 rfl rfl | exact ld_ownN 4 rfl rfl | exact ld_ownN 5 rfl rfl | exact ld_ownN 6 rfl rfl | exact ld_ownN 7 rfl rfl | exact ld_ownGN 0 rfl rfl | exact ld_ownGN 1 rfl rfl | exact ld_immT (by assumption) (by assumption))) ?_
        refine flow_cr rfl (ex_callf rfl (fun w h => callR (pNormF pSortsS (by unfold maxKids; omega) _ hslim.2 h.im (hik.im.agK h.ag hik.keys) (ht0.le hlj)))) ?_
        refine flow_val rfl (ex_len (ty := 0) rfl) ?_
        refine flow_sat QR.pers (obk (ob_one rfl rfl (zeroT_c _))) ?_
        refine flow_nilT ?_
        refine fint_satR (Le.refl _) (fun v47 τ7 hl7 hf7 hr7 => ?_)
        obtain ⟨bo, co, rfl, hco, htco⟩ := hr7
        refine fint_is ?_
        refine fint_satR hl7 (fun v45 τ5 hl5 hf5 hr5 => ?_)
        rw [hslim.1] at hr5
        obtain ⟨c45, rfl, ht45⟩ := hr5
        refine fint_is ?_
        refine fint_is ?_
        refine fint_is ?_
        refine fint_is ?_
        refine fint_is ?_
        refine fint_nil ?_
        refine any_one (i := 8) (by kernel_rfl) ?_
        refine next_mono (fun w h => h.ofG.ofG) ?_
        refine next_app1 rfl rfl (exw_append1 (news := co) rfl rfl hO (by simp [htco.len]) (.inr ⟨_, _, rfl, fun w h => (hco.le hl5).range h.im⟩) htco.one (by unfold maxLen; omega) (by omega)) (fun v48 G48 hO48 hz48 => ?_)
        obtain ⟨g, cg, tl, rfl, rfl, hg1, hg2, hg3⟩ := hO48.open (by omega)
        refine any_mono (fun w h => h.ofG) ?_
        refine any_two (i := 9) (j := 11) (by kernel_rfl) ?_ ?_
        ·
          refine next_val rfl rfl (ex_index_nat rfl rfl (by omega)) ?_
          refine any_two (i := 10) (j := 11) (by kernel_rfl) ?_ ?_
          ·
            refine next_u rfl (exu_storeX 0 rfl rfl rfl ht45.len ht45.one (by simp [hrow.len, htco.len])) ?_
            refine any_one (i := 11) (by kernel_rfl) ?_
            refine next_val rfl rfl (ex_nilck rfl) ?_
            refine any_one (i := 12) (by kernel_rfl) ?_
            refine next_val rfl rfl (ex_field rfl) ?_
            refine any_one (i := 13) (by kernel_rfl) ?_
            refine next_u rfl (exu_store1 2 rfl rfl rfl rfl rfl rfl) ?_
            refine any_done (by kernel_rfl) ?_
            refine qw_meet (subL_cons (lkv rfl (by first | rfl | simp)) (subL_cons (lkv rfl (by first | rfl | simp)) (subL_cons (lkv rfl (by first | rfl | simp)) (subL_nil _)))) (fun w' h => ⟨τ5, c45, g, cg, tl, ⟨hl7.trans hl5, hf7.trans hf5, ht45, hg1, hg2, by have h1 := ht45.len; have h2 := htco.len; simp only [List.length_append] at hg3 ⊢; omega⟩, ?_⟩)
            have h1 : St w (keysOf K) τ5 [(g, rowO (setX (xs ++ co) (putVs ks ts).length c45) tl 30), (m, mapObj (putVs ks ts)), (b, .cells #[.slice (some ⟨g, 0, none⟩) ((putVs ks ts).length + 1) cg, .map (some m)] 68)] [] w' := h.drop (.cons_cons _ (.cons_cons _ (.cons_cons _ (List.nil_sublist _))))
            rwa [setX_snoc hrow.len htco.len] at h1
          ·
            refine next_val rfl rfl (ex_nilck rfl) ?_
            refine any_two (i := 10) (j := 12) (by kernel_rfl) ?_ ?_
            ·
              refine next_u rfl (exu_storeX 0 rfl rfl rfl ht45.len ht45.one (by simp [hrow.len, htco.len])) ?_
              refine any_one (i := 12) (by kernel_rfl) ?_
              refine next_val rfl rfl (ex_field rfl) ?_
              refine any_one (i := 13) (by kernel_rfl) ?_
              refine next_u rfl (exu_store1 2 rfl rfl rfl rfl rfl rfl) ?_
              refine any_done (by kernel_rfl) ?_
              refine qw_meet (subL_cons (lkv rfl (by first | rfl | simp)) (subL_cons (lkv rfl (by first | rfl | simp)) (subL_cons (lkv rfl (by first | rfl | simp)) (subL_nil _)))) (fun w' h => ⟨τ5, c45, g, cg, tl, ⟨hl7.trans hl5, hf7.trans hf5, ht45, hg1, hg2, by have h1 := ht45.len; have h2 := htco.len; simp only [List.length_append] at hg3 ⊢; omega⟩, ?_⟩)
              have h1 : St w (keysOf K) τ5 [(g, rowO (setX (xs ++ co) (putVs ks ts).length c45) tl 30), (m, mapObj (putVs ks ts)), (b, .cells #[.slice (some ⟨g, 0, none⟩) ((putVs ks ts).length + 1) cg, .map (some m)] 68)] [] w' := h.drop (.cons_cons _ (.cons_cons _ (.cons_cons _ (List.nil_sublist _))))
              rwa [setX_snoc hrow.len htco.len] at h1
            ·
              refine next_val rfl rfl (ex_field rfl) ?_
              refine any_two (i := 10) (j := 13) (by kernel_rfl) ?_ ?_
              ·
                refine next_u rfl (exu_storeX 0 rfl rfl rfl ht45.len ht45.one (by simp [hrow.len, htco.len])) ?_
                refine any_one (i := 13) (by kernel_rfl) ?_
                refine next_u rfl (exu_store1 2 rfl rfl rfl rfl rfl rfl) ?_
                refine any_done (by kernel_rfl) ?_
                refine qw_meet (subL_cons (lkv rfl (by first | rfl | simp)) (subL_cons (lkv rfl (by first | rfl | simp)) (subL_cons (lkv rfl (by first | rfl | simp)) (subL_nil _)))) (fun w' h => ⟨τ5, c45, g, cg, tl, ⟨hl7.trans hl5, hf7.trans hf5, ht45, hg1, hg2, by have h1 := ht45.len; have h2 := htco.len; simp only [List.length_append] at hg3 ⊢; omega⟩, ?_⟩)
                have h1 : St w (keysOf K) τ5 [(g, rowO (setX (xs ++ co) (putVs ks ts).length c45) tl 30), (m, mapObj (putVs ks ts)), (b, .cells #[.slice (some ⟨g, 0, none⟩) ((putVs ks ts).length + 1) cg, .map (some m)] 68)] [] w' := h.drop (.cons_cons _ (.cons_cons _ (.cons_cons _ (List.nil_sublist _))))
                rwa [setX_snoc hrow.len htco.len] at h1
              ·
                refine next_u rfl (exu_store1 2 rfl rfl rfl rfl rfl rfl) ?_
                refine any_one (i := 10) (by kernel_rfl) ?_
                refine next_u rfl (exu_storeX 0 rfl rfl rfl ht45.len ht45.one (by simp [hrow.len, htco.len])) ?_
                refine any_done (by kernel_rfl) ?_
                refine qw_meet (subL_cons (lkv rfl (by first | rfl | simp)) (subL_cons (lkv rfl (by first | rfl | simp)) (subL_cons (lkv rfl (by first | rfl | simp)) (subL_nil _)))) (fun w' h => ⟨τ5, c45, g, cg, tl, ⟨hl7.trans hl5, hf7.trans hf5, ht45, hg1, hg2, by have h1 := ht45.len; have h2 := htco.len; simp only [List.length_append] at hg3 ⊢; omega⟩, ?_⟩)
                have h1 : St w (keysOf K) τ5 [(g, rowO (setX (xs ++ co) (putVs ks ts).length c45) tl 30), (m, mapObj (putVs ks ts)), (b, .cells #[.slice (some ⟨g, 0, none⟩) ((putVs ks ts).length + 1) cg, .map (some m)] 68)] [] w' := h.drop (.cons_cons _ (.cons_cons _ (.cons_cons _ (List.nil_sublist _))))
                rwa [setX_snoc hrow.len htco.len] at h1
        ·
          refine next_val rfl rfl (ex_nilck rfl) ?_
          refine any_two (i := 9) (j := 12) (by kernel_rfl) ?_ ?_
          ·
            refine next_val rfl rfl (ex_index_nat rfl rfl (by omega)) ?_
            refine any_two (i := 10) (j := 12) (by kernel_rfl) ?_ ?_
            ·
              refine next_u rfl (exu_storeX 0 rfl rfl rfl ht45.len ht45.one (by simp [hrow.len, htco.len])) ?_
              refine any_one (i := 12) (by kernel_rfl) ?_
              refine next_val rfl rfl (ex_field rfl) ?_
              refine any_one (i := 13) (by kernel_rfl) ?_
              refine next_u rfl (exu_store1 2 rfl rfl rfl rfl rfl rfl) ?_
              refine any_done (by kernel_rfl) ?_
              refine qw_meet (subL_cons (lkv rfl (by first | rfl | simp)) (subL_cons (lkv rfl (by first | rfl | simp)) (subL_cons (lkv rfl (by first | rfl | simp)) (subL_nil _)))) (fun w' h => ⟨τ5, c45, g, cg, tl, ⟨hl7.trans hl5, hf7.trans hf5, ht45, hg1, hg2, by have h1 := ht45.len; have h2 := htco.len; simp only [List.length_append] at hg3 ⊢; omega⟩, ?_⟩)
              have h1 : St w (keysOf K) τ5 [(g, rowO (setX (xs ++ co) (putVs ks ts).length c45) tl 30), (m, mapObj (putVs ks ts)), (b, .cells #[.slice (some ⟨g, 0, none⟩) ((putVs ks ts).length + 1) cg, .map (some m)] 68)] [] w' := h.drop (.cons_cons _ (.cons_cons _ (.cons_cons _ (List.nil_sublist _))))
              rwa [setX_snoc hrow.len htco.len] at h1
            ·
              refine next_val rfl rfl (ex_field rfl) ?_
              refine any_two (i := 10) (j := 13) (by kernel_rfl) ?_ ?_
              ·
                refine next_u rfl (exu_storeX 0 rfl rfl rfl ht45.len ht45.one (by simp [hrow.len, htco.len])) ?_
                refine any_one (i := 13) (by kernel_rfl) ?_
                refine next_u rfl (exu_store1 2 rfl rfl rfl rfl rfl rfl) ?_
                refine any_done (by kernel_rfl) ?_
                refine qw_meet (subL_cons (lkv rfl (by first | rfl | simp)) (subL_cons (lkv rfl (by first | rfl | simp)) (subL_cons (lkv rfl (by first | rfl | simp)) (subL_nil _)))) (fun w' h => ⟨τ5, c45, g, cg, tl, ⟨hl7.trans hl5, hf7.trans hf5, ht45, hg1, hg2, by have h1 := ht45.len; have h2 := htco.len; simp only [List.length_append] at hg3 ⊢; omega⟩, ?_⟩)
                have h1 : St w (keysOf K) τ5 [(g, rowO (setX (xs ++ co) (putVs ks ts).length c45) tl 30), (m, mapObj (putVs ks ts)), (b, .cells #[.slice (some ⟨g, 0, none⟩) ((putVs ks ts).length + 1) cg, .map (some m)] 68)] [] w' := h.drop (.cons_cons _ (.cons_cons _ (.cons_cons _ (List.nil_sublist _))))
                rwa [setX_snoc hrow.len htco.len] at h1
              ·
                refine next_u rfl (exu_store1 2 rfl rfl rfl rfl rfl rfl) ?_
                refine any_one (i := 10) (by kernel_rfl) ?_
                refine next_u rfl (exu_storeX 0 rfl rfl rfl ht45.len ht45.one (by simp [hrow.len, htco.len])) ?_
                refine any_done (by kernel_rfl) ?_
                refine qw_meet (subL_cons (lkv rfl (by first | rfl | simp)) (subL_cons (lkv rfl (by first | rfl | simp)) (subL_cons (lkv rfl (by first | rfl | simp)) (subL_nil _)))) (fun w' h => ⟨τ5, c45, g, cg, tl, ⟨hl7.trans hl5, hf7.trans hf5, ht45, hg1, hg2, by have h1 := ht45.len; have h2 := htco.len; simp only [List.length_append] at hg3 ⊢; omega⟩, ?_⟩)
                have h1 : St w (keysOf K) τ5 [(g, rowO (setX (xs ++ co) (putVs ks ts).length c45) tl 30), (m, mapObj (putVs ks ts)), (b, .cells #[.slice (some ⟨g, 0, none⟩) ((putVs ks ts).length + 1) cg, .map (some m)] 68)] [] w' := h.drop (.cons_cons _ (.cons_cons _ (.cons_cons _ (List.nil_sublist _))))
                rwa [setX_snoc hrow.len htco.len] at h1
          ·
            refine next_val rfl rfl (ex_field rfl) ?_
            refine any_two (i := 9) (j := 13) (by kernel_rfl) ?_ ?_
            ·
              refine next_val rfl rfl (ex_index_nat rfl rfl (by omega)) ?_
              refine any_two (i := 10) (j := 13) (by kernel_rfl) ?_ ?_
              ·
                refine next_u rfl (exu_storeX 0 rfl rfl rfl ht45.len ht45.one (by simp [hrow.len, htco.len])) ?_
                refine any_one (i := 13) (by kernel_rfl) ?_
                refine next_u rfl (exu_store1 2 rfl rfl rfl rfl rfl rfl) ?_
                refine any_done (by kernel_rfl) ?_
                refine qw_meet (subL_cons (lkv rfl (by first | rfl | simp)) (subL_cons (lkv rfl (by first | rfl | simp)) (subL_cons (lkv rfl (by first | rfl | simp)) (subL_nil _)))) (fun w' h => ⟨τ5, c45, g, cg, tl, ⟨hl7.trans hl5, hf7.trans hf5, ht45, hg1, hg2, by have h1 := ht45.len; have h2 := htco.len; simp only [List.length_append] at hg3 ⊢; omega⟩, ?_⟩)
                have h1 : St w (keysOf K) τ5 [(g, rowO (setX (xs ++ co) (putVs ks ts).length c45) tl 30), (m, mapObj (putVs ks ts)), (b, .cells #[.slice (some ⟨g, 0, none⟩) ((putVs ks ts).length + 1) cg, .map (some m)] 68)] [] w' := h.drop (.cons_cons _ (.cons_cons _ (.cons_cons _ (List.nil_sublist _))))
                rwa [setX_snoc hrow.len htco.len] at h1
              ·
                refine next_u rfl (exu_store1 2 rfl rfl rfl rfl rfl rfl) ?_
                refine any_one (i := 10) (by kernel_rfl) ?_
                refine next_u rfl (exu_storeX 0 rfl rfl rfl ht45.len ht45.one (by simp [hrow.len, htco.len])) ?_
                refine any_done (by kernel_rfl) ?_
                refine qw_meet (subL_cons (lkv rfl (by first | rfl | simp)) (subL_cons (lkv rfl (by first | rfl | simp)) (subL_cons (lkv rfl (by first | rfl | simp)) (subL_nil _)))) (fun w' h => ⟨τ5, c45, g, cg, tl, ⟨hl7.trans hl5, hf7.trans hf5, ht45, hg1, hg2, by have h1 := ht45.len; have h2 := htco.len; simp only [List.length_append] at hg3 ⊢; omega⟩, ?_⟩)
                have h1 : St w (keysOf K) τ5 [(g, rowO (setX (xs ++ co) (putVs ks ts).length c45) tl 30), (m, mapObj (putVs ks ts)), (b, .cells #[.slice (some ⟨g, 0, none⟩) ((putVs ks ts).length + 1) cg, .map (some m)] 68)] [] w' := h.drop (.cons_cons _ (.cons_cons _ (.cons_cons _ (List.nil_sublist _))))
                rwa [setX_snoc hrow.len htco.len] at h1
            ·
              refine next_u rfl (exu_store1 2 rfl rfl rfl rfl rfl rfl) ?_
              refine any_one (i := 9) (by kernel_rfl) ?_
              refine next_val rfl rfl (ex_index_nat rfl rfl (by omega)) ?_
              refine any_one (i := 10) (by kernel_rfl) ?_
              refine next_u rfl (exu_storeX 0 rfl rfl rfl ht45.len ht45.one (by simp [hrow.len, htco.len])) ?_
              refine any_done (by kernel_rfl) ?_
              refine qw_meet (subL_cons (lkv rfl (by first | rfl | simp)) (subL_cons (lkv rfl (by first | rfl | simp)) (subL_cons (lkv rfl (by first | rfl | simp)) (subL_nil _)))) (fun w' h => ⟨τ5, c45, g, cg, tl, ⟨hl7.trans hl5, hf7.trans hf5, ht45, hg1, hg2, by have h1 := ht45.len; have h2 := htco.len; simp only [List.length_append] at hg3 ⊢; omega⟩, ?_⟩)
              have h1 : St w (keysOf K) τ5 [(g, rowO (setX (xs ++ co) (putVs ks ts).length c45) tl 30), (m, mapObj (putVs ks ts)), (b, .cells #[.slice (some ⟨g, 0, none⟩) ((putVs ks ts).length + 1) cg, .map (some m)] 68)] [] w' := h.drop (.cons_cons _ (.cons_cons _ (.cons_cons _ (List.nil_sublist _))))
              rwa [setX_snoc hrow.len htco.len] at h1
      ·
        refine cw_ex fun τ5 => cw_ex fun c45 => cw_ex fun g => cw_ex fun cg => cw_ex fun tl => cw_and fun ⟨hl5, hf5, ht45, hg1, hg2, hg3⟩ => ?_
        refine cw_seq ?_
        refine cw_region ?_
        refine ow_val rfl rfl (ex_move rfl) ?_
        refine ow_val rfl rfl (ex_nilck rfl) ?_
        refine ow_val rfl rfl (ex_field rfl) ?_
        refine ow_val rfl rfl (ex_load1 rfl (by first | exact ld_own1 0 rfl rfl | exact ld_own1 1 rfl rfl | exact ld_own1 2 rfl rfl | exact ld_own1 3 rfl rfl | exact ld_own1 4 rfl rfl | exact ld_own1 5 rfl rfl | exact ld_own1 6 rfl rfl | exact ld_own1 7 rfl rfl | exact ld_ownG1 0 rfl rfl | exact ld_ownG1 1 rfl rfl | exact ld_imm1 (by assumption))) ?_
        refine ow_val rfl rfl (ex_move rfl) ?_
        refine ow_val rfl rfl (ex_move rfl) ?_
        refine ow_u rfl (exu_mapput 1 rfl rfl rfl rfl hnew) ?_
        refine ow_nil ?_
        refine qw_seq ?_
        refine cw_seq ?_
        refine cw_region ?_
        refine ow_val rfl rfl (ex_move rfl) ?_
        refine ow_val rfl rfl (ex_assign rfl) ?_
        refine ow_nil ?_
        refine qw_seq ?_
        refine cw_ret ?_
        refine qw_ret1 rfl rfl (fun w' h => ?_)
        have h2 := (St.flip h).permG (List.reverse_perm _)
        have hlen1 : (putVs ks ts ++ [T.mk o n d ks]).length = (putVs ks ts).length + 1 := by simp
        have hxl := hrow.len
        have hcl5 := ht45.len
        refine h2.givesK (hlj.trans hl5) (hfj.trans hf5) ⟨?_, ?_⟩
        · unfold numV
          rw [if_neg hnp]; rfl
        · rw [putV_mk, if_neg hnp]
          refine ⟨_, xs ++ c45, m, _, rfl, ?_, (hrow.le hl5).append (RowC.one ht45), hti.snoc (fun hm => hnew (posT_iff.2 hm)) hr (fun k hk => mem_putVs ts hk), ?_⟩
          · rw [show (putVs (T.mk o n d ks).kids ts ++ [T.mk o n d ks]).length = (putVs ks ts).length + 1 from hlen1]
            exact OwnSl.close (by simp; omega) hg1 hg2 hg3
          · rw [show (putVs (T.mk o n d ks).kids ts ++ [T.mk o n d ks]).length = (putVs ks ts).length + 1 from hlen1]; omega
set_option maxHeartbeats 400000 in
theorem pInternF (t : T) {b : Nat} {ts : List T} {ct : List Value} {σ κ : Hp} {K : List (Nat × Obj)} {w : World} (hi : Has σ K w) (hik : Has κ K w) (hle : Le σ κ) (htab : TabC Tryd.prog σ) (hv : VaultK 68 30 b ts σ K) (ht : TermS σ κ ct t) : Calls Tryd.prog 17 #[.pointer (some ⟨b, 0, none⟩), .agg ct.toArray] w (GiveK (fun σ' u K' => u = .tuple #[.int .i64 (intern ts t).1, .int .i64 (intern ts t).2.1] ∧ VaultK 68 30 b (intern ts t).2.2 σ' K') σ K w) := by
  have ht0 := ht
  have htk := ht.join hle
  obtain ⟨dv, kv, rfl, ho, hn, hd, hk⟩ := ht
  obtain ⟨pv, cv, mv, hs⟩ := hv.seenX hi
  have hfew := hs.few
  refine enter (St w (keysOf K) σ [] K) Tryd.func17 rfl Tryd.ntmps17 rfl (Has.start hi) ?_
  refine cw_seq ?_
  refine cw_region ?_
  refine ow_blk rfl rfl (exw_box rfl) ?_; intro b3
  refine ow_val rfl rfl (ex_assign rfl) ?_
  refine ow_val rfl rfl (ex_assign rfl) ?_
  refine ow_nil ?_
  refine qw_seq ?_
  refine cw_seq ?_
  refine cw_seq ?_
  refine cw_region ?_
  refine ow_val rfl rfl (ex_loadR rfl (by first | exact ld_ownN 0 rfl rfl | exact ld_ownN 1 rfl rfl | exact ld_ownN 2 rfl rfl | exact ld_ownN 3 rfl rfl | exact ld_ownN 4 rfl rfl | exact ld_ownN 5 rfl rfl | exact ld_ownN 6 rfl rfl | exact ld_ownN 7 rfl rfl | exact ld_ownGN 0 rfl rfl | exact ld_ownGN 1 rfl rfl | exact ld_immT (by assumption) (by assumption))) ?_
  refine ow_cv rfl rfl (ex_callf rfl (fun w h => callB ((pRight t (hik.im.agK h.ag hik.keys) htk)))) ?_
  refine ow_val rfl rfl (ex_not rfl) ?_
  refine ow_nil ?_
  refine qw_seq ?_
  refine cw_cond rfl (fun c10 => ?_) (fun c10 => ?_)
  ·
    refine cw_seq ?_
    refine cw_region ?_
    refine ow_val rfl rfl (ex_assign rfl) ?_
    refine ow_val rfl rfl (ex_assign rfl) ?_
    refine ow_nil ?_
    refine qw_seq ?_
    refine cw_ret ?_
    refine qw_then_ret ?_
    refine qw_ret2 rfl rfl rfl (fun w' h => ?_)
    have hr : ¬ right t = true := by simpa using c10
    have e : intern ts t = (-1, 51, ts) := by unfold intern; rw [if_neg hr]
    rw [e]
    exact (h.drop (List.nil_sublist _)).givesK (Le.refl _) (Fresh.refl _ _) ⟨rfl, hv⟩
  ·
    have hr : right t = true := by simpa using c10
    refine cw_skip ?_
    refine qw_seq ?_
    refine cw_seq ?_
    refine cw_seq ?_
    refine cw_region ?_
    refine ow_val rfl rfl (ex_move rfl) ?_
    refine ow_val rfl rfl (ex_loadR rfl (by first | exact ld_ownN 0 rfl rfl | exact ld_ownN 1 rfl rfl | exact ld_ownN 2 rfl rfl | exact ld_ownN 3 rfl rfl | exact ld_ownN 4 rfl rfl | exact ld_ownN 5 rfl rfl | exact ld_ownN 6 rfl rfl | exact ld_ownN 7 rfl rfl | exact ld_ownGN 0 rfl rfl | exact ld_ownGN 1 rfl rfl | exact ld_immT (by assumption) (by assumption))) ?_
    refine ow_cv rfl rfl (ex_callf rfl (fun w h => callB ((pFind t (hik.turn (h.drop (List.nil_sublist _))).exts (htab.le (hle.trans hik.le)) (hs.up (exts_mono hle K)) (htk.le hik.le) (right_lim hr))))) ?_
    refine ow_val rfl rfl (ex_move rfl) ?_
    refine ow_val rfl rfl (ex_extract rfl rfl) ?_
    refine ow_val rfl rfl (ex_extract rfl rfl) ?_
    refine ow_val rfl rfl (ex_assign rfl) ?_
    refine ow_val rfl rfl (ex_assign rfl) ?_
    refine ow_nil ?_
    refine qw_seq ?_
    refine cw_seq ?_
    refine cw_region ?_
    refine ow_val rfl rfl (ex_move rfl) ?_
    refine ow_nil ?_
    refine qw_seq ?_
    refine cw_cond rfl (fun c17 => ?_) (fun c17 => ?_)
    ·
      refine cw_seq ?_
      refine cw_region ?_
      refine ow_val rfl rfl (ex_move rfl) ?_
      refine ow_val rfl rfl (ex_assign rfl) ?_
      refine ow_val rfl rfl (ex_assign rfl) ?_
      refine ow_nil ?_
      refine qw_seq ?_
      refine cw_ret ?_
      refine qw_then_ret ?_
      refine qw_ret2 rfl rfl rfl (fun w' h => ?_)
      have h0 := of_decide_eq_true c17
      have e : intern ts t = (posT ts t, 0, ts) := by unfold intern; rw [if_pos hr, if_pos h0]
      rw [e]
      exact (h.drop (List.nil_sublist _)).givesK (Le.refl _) (Fresh.refl _ _) ⟨rfl, hv⟩
    ·
      refine cw_skip ?_
      refine qw_seq ?_
      refine cw_seq ?_
      refine cw_seq ?_
      refine flow_sound 9 (by kernel_rfl) ?_
      refine flow_val rfl (ex_loadR rfl (by first | exact ld_ownN 0 rfl rfl | exact ld_ownN 1 rfl rfl | exact ld_ownN 2 rfl rfl | exact ld_ownN 3 rfl rfl | exact ld_ownN 4 rfl rfl | exact ld_ownN 5 rfl rfl | exact ld_ownN 6 rfl rfl | exact ld_ownN 7 rfl rfl | exact ld_ownGN 0 rfl rfl | exact ld_ownGN 1 rfl rfl | exact ld_immT (by assumption) (by assumption))) ?_
      refine flow_cv rfl (ex_callf rfl (fun w h => callB ((pSize t (hik.im.agK h.ag hik.keys) htk (right_size hr))))) ?_
      refine flow_val rfl (ex_move rfl) ?_
      refine flow_val rfl (ex_nilck rfl) ?_
      refine flow_val rfl (ex_field rfl) ?_
      refine flow_val rfl (ex_load1 rfl (fun w h => hs.c0.cell h.hasE.exts)) ?_
      refine flow_val rfl (ex_len (ty := 0) rfl) ?_
      refine flow_val rfl (ex_subi (z := (4096 - (ts.length : Int))) rfl rfl (by omega) (by omega) (by omega)) ?_
      refine flow_val rfl (ex_gtr rfl rfl) ?_
      refine flow_nil ?_
      refine fin_is ?_
      refine fin_is ?_
      refine fin_is ?_
      refine fin_is ?_
      refine fin_is ?_
      refine fin_is ?_
      refine fin_is ?_
      refine fin_is ?_
      refine fin_is ?_
      refine fin_nil ?_
      refine ow_nil ?_
      refine qw_seq ?_
      refine cw_cond rfl (fun c27 => ?_) (fun c27 => ?_)
      ·
        refine cw_seq ?_
        refine cw_region ?_
        refine ow_val rfl rfl (ex_assign rfl) ?_
        refine ow_val rfl rfl (ex_assign rfl) ?_
        refine ow_nil ?_
        refine qw_seq ?_
        refine cw_ret ?_
        refine qw_then_ret ?_
        refine qw_ret2 rfl rfl rfl (fun w' h => ?_)
        have h0 := of_decide_eq_false c17
        have h1 := of_decide_eq_true c27
        have e : intern ts t = (-1, 2, ts) := by unfold intern; rw [if_pos hr, if_neg h0, if_pos (by omega)]
        rw [e]
        exact (h.drop (List.nil_sublist _)).givesK (Le.refl _) (Fresh.refl _ _) ⟨rfl, hv⟩
      ·
        refine cw_skip ?_
        refine qw_seq ?_
        refine cw_seq ?_
        refine cw_region ?_
        refine ow_val rfl rfl (ex_move rfl) ?_
        refine ow_val rfl rfl (ex_loadR rfl (by first | exact ld_ownN 0 rfl rfl | exact ld_ownN 1 rfl rfl | exact ld_ownN 2 rfl rfl | exact ld_ownN 3 rfl rfl | exact ld_ownN 4 rfl rfl | exact ld_ownN 5 rfl rfl | exact ld_ownN 6 rfl rfl | exact ld_ownN 7 rfl rfl | exact ld_ownGN 0 rfl rfl | exact ld_ownGN 1 rfl rfl | exact ld_immT (by assumption) (by assumption))) ?_
        refine ow_ckE rfl rfl (ex_callf rfl (fun w h => pPutF t h.hasE (hik.turn (h.drop (List.nil_sublist _))) hle htab hv ht0 hr (.inr (by have := of_decide_eq_false c27; omega)))) (fun v30 τ30 K30 hl30 hf30 hr30 => ?_)
        obtain ⟨rfl, hv30⟩ := hr30
        refine ow_val rfl rfl (ex_assign rfl) ?_
        refine ow_val rfl rfl (ex_assign rfl) ?_
        refine ow_nil ?_
        refine qw_seq ?_
        refine cw_ret ?_
        refine qw_ret2 rfl rfl rfl (fun w' h => ?_)
        have h0 := of_decide_eq_false c17
        have h1 := of_decide_eq_false c27
        have e : intern ts t = (numV t ts, 0, putV t ts) := by unfold intern; rw [if_pos hr, if_neg h0, if_neg (by omega)]
        rw [e]
        exact (h.drop (List.nil_sublist _)).givesK hl30 hf30 ⟨rfl, hv30⟩
set_option maxHeartbeats 400000 in
theorem rCopiedO (t : T) {σ : Hp} {cs : List Value} {w : World} (hi : Imm σ w) (ht : TermC σ cs t) : Calls Tryd.prog 19 #[.agg cs.toArray] w (GiveK (OwnT 5 t) σ [] w) := by
  obtain ⟨o, n, d, ks⟩ := t
  obtain ⟨dv, kv, rfl, ho, hn, hd, hk⟩ := ht.opn
  simp only [T.kids, T.op, T.num, T.data] at *
  obtain ⟨p, c, rfl, hc, hm⟩ := hk.slice
  obtain ⟨pd, cd, rfl, hcd, hmd, hsrc⟩ := hd.row
  have hm2 := hm
  unfold maxKids at hm2
  have hmd2 := hmd
  unfold maxData at hmd2
  have hml : (140737488355328 : Nat) ≤ maxLen := by unfold maxLen; omega
  refine enter (St w (keysOf []) σ [] []) Tryd.func19 rfl Tryd.ntmps19 rfl (Has.start (Has.nil hi)) ?_
  refine cw_seq ?_
  refine cw_region ?_
  refine ow_blk rfl rfl (exw_box rfl) ?_; intro b1
  refine ow_blk rfl rfl exw_alloc ?_; intro b2
  refine ow_nil ?_
  refine qw_seq ?_
  refine cw_seq ?_
  refine cw_region ?_
  refine ow_val rfl rfl (ex_field rfl) ?_
  refine ow_val rfl rfl (ex_load1 rfl (by first | exact ld_own1 0 rfl rfl | exact ld_own1 1 rfl rfl | exact ld_own1 2 rfl rfl | exact ld_own1 3 rfl rfl | exact ld_own1 4 rfl rfl | exact ld_own1 5 rfl rfl | exact ld_own1 6 rfl rfl | exact ld_own1 7 rfl rfl | exact ld_ownG1 0 rfl rfl | exact ld_ownG1 1 rfl rfl | exact ld_imm1 (by assumption))) ?_
  refine ow_val rfl rfl (ex_assign rfl) ?_
  refine ow_nil ?_
  refine qw_seq ?_
  refine cw_seq ?_
  refine cw_region ?_
  refine ow_slit rfl rfl exw_slit0 ?_; intro b7
  refine ow_mono (fun w h => h.toG) ?_
  refine ow_val rfl rfl (ex_field rfl) ?_
  refine ow_val rfl rfl (ex_load1 rfl (by first | exact ld_own1 0 rfl rfl | exact ld_own1 1 rfl rfl | exact ld_own1 2 rfl rfl | exact ld_own1 3 rfl rfl | exact ld_own1 4 rfl rfl | exact ld_own1 5 rfl rfl | exact ld_own1 6 rfl rfl | exact ld_own1 7 rfl rfl | exact ld_ownG1 0 rfl rfl | exact ld_ownG1 1 rfl rfl | exact ld_imm1 (by assumption))) ?_
  refine ow_app1 rfl rfl (exw_append1 (news := d.map byteV) rfl rfl (OwnSl.lit0 5 1 b7) (by simp) (hsrc.imp id fun ⟨b, f, hp, hca⟩ => ⟨b, f, hp, fun w h => hca.range h.im⟩) (bytes_one d) (by omega) (by omega)) (fun v10 G10 hO10 hz10 => ?_)
  rw [Nat.zero_add, List.nil_append] at hO10
  refine ow_val rfl rfl (ex_field rfl) ?_
  refine ow_u rfl (exu_store1 1 rfl rfl rfl hO10.cell.1 hO10.cell.2 rfl) ?_
  refine ow_nil ?_
  refine qw_seq ?_
  refine cw_seq ?_
  refine cw_region ?_
  refine ow_val rfl rfl (ex_field rfl) ?_
  refine ow_u rfl (exu_store1 1 rfl rfl rfl rfl rfl rfl) ?_
  refine ow_nil ?_
  refine qw_seq ?_
  refine cw_seq ?_
  refine cw_seq ?_
  refine cw_region ?_
  refine ow_val rfl rfl (ex_assign rfl) ?_
  refine ow_nil ?_
  refine qw_seq ?_
  refine cw_block ?_
  refine cw_loopH5 (fun (i : Nat) (τ : Hp) (v : Value) (xs : List Value) (G : List (Nat × Obj)) => [(1, .pointer (some ⟨b1, 0, none⟩)), (2, .pointer (some ⟨b2, 0, none⟩)), (3, .slice p ks.length c), (4, .int .i64 (i : Int))]) (fun i τ v xs G => i ≤ ks.length ∧ Le σ τ ∧ Fresh σ τ w ∧ RowC τ xs (ks.take i) ∧ OwnSl 30 4 v i xs G) (fun i τ v xs G => τ) (fun i τ v xs G => [(b2, .cells (Value.agg #[.int .i64 0, .int .i64 0, .slice none 0 0, .slice none 0 0]).cells 30), (b1, .cells #[.int .i64 o, .int .i64 n, v10, v] 30)]) (fun i τ v xs G => G ++ G10) (fun i τ v xs G => ks.length - i) 0 σ (.slice none 0 0) [] [] (subL_cons (lkv rfl (by first | rfl | simp)) (subL_cons (lkv rfl (by first | rfl | simp)) (subL_cons (lkv rfl (by first | rfl | simp)) (subL_cons (lkv rfl (by first | rfl | simp)) (subL_nil _))))) ⟨Nat.zero_le _, Le.refl _, Fresh.refl _ _, rfl, OwnSl.nil _ _⟩ (fun w h => h) ?_
  intro i τ v xs G ⟨hle, hl, hf, hrow, hO⟩
  refine cw_seq ?_
  refine cw_seq ?_
  refine cw_region ?_
  refine ow_val rfl rfl (ex_move rfl) ?_
  refine ow_val rfl rfl (ex_move rfl) ?_
  refine ow_val rfl rfl (ex_len (ty := 0) rfl) ?_
  refine ow_val rfl rfl (ex_lss rfl rfl) ?_
  refine ow_nil ?_
  refine qw_seq ?_
  refine cw_cond rfl (fun c16 => ?_) (fun c16 => ?_)
  ·
    refine cw_skip ?_
    refine qw_seq ?_
    refine cw_seq ?_
    refine cw_block ?_
    have hlt : i < ks.length := by simpa using c16
    obtain ⟨bk, f, ck, cs, e1, e2, hc1, ht1⟩ := (hk.le hl).get i hlt
    cases e1
    refine flow_sound 8 (by kernel_rfl) ?_
    refine flow_val rfl (ex_field rfl) ?_
    refine flow_val rfl (ex_load1 rfl (by first | exact ld_own1 0 rfl rfl | exact ld_own1 1 rfl rfl | exact ld_own1 2 rfl rfl | exact ld_own1 3 rfl rfl | exact ld_own1 4 rfl rfl | exact ld_own1 5 rfl rfl | exact ld_own1 6 rfl rfl | exact ld_own1 7 rfl rfl | exact ld_ownG1 0 rfl rfl | exact ld_ownG1 1 rfl rfl | exact ld_imm1 (by assumption))) ?_
    refine flow_val rfl (ex_move rfl) ?_
    refine flow_val rfl (ex_move rfl) ?_
    refine flow_val rfl (ex_index_nat rfl rfl (by omega)) ?_
    refine flow_val rfl (ex_loadR rfl (by first | exact ld_ownN 0 rfl rfl | exact ld_ownN 1 rfl rfl | exact ld_ownN 2 rfl rfl | exact ld_ownN 3 rfl rfl | exact ld_ownN 4 rfl rfl | exact ld_ownN 5 rfl rfl | exact ld_ownN 6 rfl rfl | exact ld_ownN 7 rfl rfl | exact ld_ownGN 0 rfl rfl | exact ld_ownGN 1 rfl rfl | exact ld_immT (by assumption) (by assumption))) ?_
    refine flow_cr rfl (ex_callf rfl (fun w h => callR (rCopied _ h.im ht1))) ?_
    refine flow_sat (q := QR (RepOne (ks[i]'hlt)) τ w ([(b2, .cells (Value.agg #[.int .i64 0, .int .i64 0, .slice none 0 0, .slice none 0 0]).cells 30), (b1, .cells #[.int .i64 o, .int .i64 n, v10, v] 30)] ++ (G ++ G10))) QR.pers (obk_sat 25 rfl (fun v25 => ob_open (fun τ' hl' hf' hr' => ?_))) ?_
    · obtain ⟨co, rfl, hco⟩ := hr'
      exact ob_up hl' hf' (ob_one rfl rfl hco)
    refine flow_nil ?_
    refine fin_satR (Le.refl _) (fun v26 τ2 hl2 hf2 hr26 => ?_)
    refine fin_drop ?_
    refine fin_is ?_
    refine fin_is ?_
    refine fin_is ?_
    refine fin_is ?_
    refine fin_is ?_
    refine fin_is ?_
    refine fin_nil ?_
    obtain ⟨bo, co, rfl, hco, htco⟩ := hr26
    refine ow_app rfl rfl (exw_append (news := co) rfl rfl hO (by rw [htco.len]) (.inr ⟨_, _, rfl, fun w h => hco.range h.im⟩) htco.one (by omega) (by omega)) (fun v27 G27 hO27 hz27 => ?_)
    refine ow_val rfl rfl (ex_field rfl) ?_
    refine ow_u rfl (exu_store1 1 rfl rfl rfl hO27.cell.1 hO27.cell.2 rfl) ?_
    refine ow_nil ?_
    refine qw_block_normal ?_
    refine qw_seq ?_
    refine cw_region ?_
    refine ow_val rfl rfl (ex_move rfl) ?_
    refine ow_val rfl rfl (ex_addi (z := ((i + 1 : Nat) : Int)) rfl rfl (by omega) (by omega) (by omega)) ?_
    refine ow_val rfl rfl (ex_assign rfl) ?_
    refine ow_nil ?_
    exact qw_roundH5 (i + 1) τ2 v27 _ G27 (by omega) (subL_cons (lkv rfl (by first | rfl | simp)) (subL_cons (lkv rfl (by first | rfl | simp)) (subL_cons (lkv rfl (by first | rfl | simp)) (subL_cons (lkv rfl (by first | rfl | simp)) (subL_nil _))))) ⟨by omega, hl.trans hl2, hf.trans hf2, by rw [List.take_succ_eq_append_getElem hlt]; exact (hrow.le hl2).append (RowC.one htco), hO27⟩ (fun w h => h)
  ·
    refine cw_exit ?_
    refine qw_then_exit ?_
    refine qw_then_exit ?_
    refine qw_block_exit ?_
    refine qw_seq ?_
    refine cw_seq ?_
    refine cw_region ?_
    refine ow_val rfl rfl (ex_loadR rfl (by first | exact ld_ownN 0 rfl rfl | exact ld_ownN 1 rfl rfl | exact ld_ownN 2 rfl rfl | exact ld_ownN 3 rfl rfl | exact ld_ownN 4 rfl rfl | exact ld_ownN 5 rfl rfl | exact ld_ownN 6 rfl rfl | exact ld_ownN 7 rfl rfl | exact ld_ownGN 0 rfl rfl | exact ld_ownGN 1 rfl rfl | exact ld_immT (by assumption) (by assumption))) ?_
    refine ow_u rfl (exu_storeN 0 rfl rfl rfl rfl (four_one hO10.cell.2 hO.cell.2) rfl) ?_
    refine ow_nil ?_
    refine qw_seq ?_
    refine cw_ret ?_
    refine qw_retC rfl rfl (ld_ownN 0 rfl rfl) (fun w' h => ?_)
    have he : i = ks.length := by simp at c16; omega
    rw [he, List.take_length] at hrow
    obtain ⟨σ', h1, h2, h3, h4⟩ := freezeG (Gr := G10) h noKeys hO hrow hm
    exact St.givesK (h2.drop (List.nil_sublist _)) (hl.trans h1) (hf.trans h4) ⟨v10, _, rfl, ho, hn, hO10, hmd, h3⟩
end Go.Proofs.YtnjomdjkbbhdoaaDoor
