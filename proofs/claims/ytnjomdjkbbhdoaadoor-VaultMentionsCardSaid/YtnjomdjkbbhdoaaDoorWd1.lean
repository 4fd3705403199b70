/-
  Walks: a builder of strings; what a term is, written out.
  No condition.
-/
import Derived.Test.YtnjomdjkbbhdoaaDoorWb7
import Derived.Test.YtnjomdjkbbhdoaaDoorSeat2
import Derived.Test.YtnjomdjkbbhdoaaDoorShelf
namespace Go.Proofs.YtnjomdjkbbhdoaaDoor
open Go.RowKit
set_option linter.unusedVariables false
set_option linter.unusedSimpArgs false
set_option maxRecDepth 100000

theorem pFormatInt {n : Int} (h0 : -9223372036854775808 ≤ n ∧ n ≤ 9223372036854775807) {σ : Hp} {w : World} (hi : Imm σ w) (ht : TabC Tryd.prog σ) : Calls Tryd.prog 83 #[.int .i64 n, .int .i64 10] w fun e w' => e = .returned (.string (strOf (Lib.itoa n))) ∧ Below w.heap.size w w' :=
  (Tryd.strconv_FormatInt_10 n h0.1 h0.2 w (ht.is hi)).mono fun e w' ⟨he, k, os, hw⟩ => by subst hw; exact ⟨he, below_sgrow w k os⟩


set_option maxHeartbeats 400000 in
theorem pCopy0 {b : Nat} {sv : Value} {Gs : List (Nat × Obj)} {σ : Hp} {w : World} (hi : Has σ ((b, .cells #[.pointer none, sv] 87) :: Gs) w) : Calls Tryd.prog 105 #[.pointer (some ⟨b, 0, none⟩)] w (GiveK (fun _ u K' => u = .tuple #[] ∧ K' = (b, .cells #[.pointer (some ⟨b, 0, none⟩), sv] 87) :: Gs) σ ((b, .cells #[.pointer none, sv] 87) :: Gs) w) := by
  refine enter (St w (keysOf ((b, .cells #[.pointer none, sv] 87) :: Gs)) σ [] ((b, .cells #[.pointer none, sv] 87) :: Gs)) Tryd.func105 rfl Tryd.ntmps105 rfl (Has.start hi) ?_
  refine cw_seq ?_
  refine cw_region ?_
  refine ow_val rfl rfl (ex_move rfl) ?_
  refine ow_val rfl rfl (ex_nilck rfl) ?_
  refine ow_val rfl rfl (ex_field rfl) ?_
  refine ow_val rfl rfl (ex_load1 rfl (by first | exact ld_own1 0 rfl rfl | exact ld_own1 1 rfl rfl | exact ld_own1 2 rfl rfl | exact ld_own1 3 rfl rfl | exact ld_own1 4 rfl rfl | exact ld_own1 5 rfl rfl | exact ld_own1 6 rfl rfl | exact ld_own1 7 rfl rfl | exact ld_ownG1 0 rfl rfl | exact ld_ownG1 1 rfl rfl | exact ld_imm1 (by assumption))) ?_
  refine ow_val rfl rfl (ex_ptrnil rfl) ?_
  refine ow_nil ?_
  refine qw_seq ?_
  refine cw_cond rfl (fun c6 => ?_) (fun c6 => ?_)
  ·
    refine cw_region ?_
    refine ow_val rfl rfl (ex_move rfl) ?_
    refine ow_val rfl rfl (ex_move rfl) ?_
    refine ow_val rfl rfl (ex_tounsafe (te := 5) (tb := 87) inferInstance rfl (fun w h => h.ownG (p := (b, _)) List.mem_cons_self)) ?_
    refine ow_val rfl rfl (ex_noesc rfl) ?_
    refine ow_val rfl rfl (ex_fromunsafe (te := 5) (tb := 87) inferInstance rfl (fun w h => h.ownG (p := (b, _)) List.mem_cons_self)) ?_
    refine ow_val rfl rfl (ex_nilck rfl) ?_
    refine ow_val rfl rfl (ex_field rfl) ?_
    refine ow_u rfl (exu_storeG1 0 rfl rfl rfl rfl rfl rfl) ?_
    refine ow_nil ?_
    refine qw_end0 rfl (fun w' h => h.givesK (Le.refl _) (Fresh.refl _ _) ⟨rfl, rfl⟩)
  ·
    simp at c6

set_option maxHeartbeats 400000 in
theorem pCopy1 {b : Nat} {sv : Value} {Gs : List (Nat × Obj)} {σ : Hp} {w : World} (hi : Has σ ((b, .cells #[.pointer (some ⟨b, 0, none⟩), sv] 87) :: Gs) w) : Calls Tryd.prog 105 #[.pointer (some ⟨b, 0, none⟩)] w (GiveK (fun _ u K' => u = .tuple #[] ∧ K' = (b, .cells #[.pointer (some ⟨b, 0, none⟩), sv] 87) :: Gs) σ ((b, .cells #[.pointer (some ⟨b, 0, none⟩), sv] 87) :: Gs) w) := by
  refine enter (St w (keysOf ((b, .cells #[.pointer (some ⟨b, 0, none⟩), sv] 87) :: Gs)) σ [] ((b, .cells #[.pointer (some ⟨b, 0, none⟩), sv] 87) :: Gs)) Tryd.func105 rfl Tryd.ntmps105 rfl (Has.start hi) ?_
  refine cw_seq ?_
  refine cw_region ?_
  refine ow_val rfl rfl (ex_move rfl) ?_
  refine ow_val rfl rfl (ex_nilck rfl) ?_
  refine ow_val rfl rfl (ex_field rfl) ?_
  refine ow_val rfl rfl (ex_load1 rfl (by first | exact ld_own1 0 rfl rfl | exact ld_own1 1 rfl rfl | exact ld_own1 2 rfl rfl | exact ld_own1 3 rfl rfl | exact ld_own1 4 rfl rfl | exact ld_own1 5 rfl rfl | exact ld_own1 6 rfl rfl | exact ld_own1 7 rfl rfl | exact ld_ownG1 0 rfl rfl | exact ld_ownG1 1 rfl rfl | exact ld_imm1 (by assumption))) ?_
  refine ow_val rfl rfl (ex_ptrnil rfl) ?_
  refine ow_nil ?_
  refine qw_seq ?_
  refine cw_cond rfl (fun c6 => ?_) (fun c6 => ?_)
  ·
    simp at c6
  ·
    refine cw_seq ?_
    refine cw_region ?_
    refine ow_val rfl rfl (ex_move rfl) ?_
    refine ow_val rfl rfl (ex_nilck rfl) ?_
    refine ow_val rfl rfl (ex_field rfl) ?_
    refine ow_val rfl rfl (ex_load1 rfl (by first | exact ld_own1 0 rfl rfl | exact ld_own1 1 rfl rfl | exact ld_own1 2 rfl rfl | exact ld_own1 3 rfl rfl | exact ld_own1 4 rfl rfl | exact ld_own1 5 rfl rfl | exact ld_own1 6 rfl rfl | exact ld_own1 7 rfl rfl | exact ld_ownG1 0 rfl rfl | exact ld_ownG1 1 rfl rfl | exact ld_imm1 (by assumption))) ?_
    refine ow_val rfl rfl (ex_move rfl) ?_
    refine ow_val rfl rfl (ex_ptrself rfl rfl) ?_
    refine ow_nil ?_
    refine qw_seq ?_
    refine cw_cond rfl (fun c19 => ?_) (fun c19 => ?_)
    ·
      cases c19
    ·
      refine cw_skip ?_
      refine qw_end0 rfl (fun w' h => h.givesK (Le.refl _) (Fresh.refl _ _) ⟨rfl, rfl⟩)

theorem pCopyCheck {b : Nat} {p sv : Value} {Gs : List (Nat × Obj)} {σ : Hp} {w : World} (hi : Has σ ((b, .cells #[p, sv] 87) :: Gs) w) (hp : p = .pointer none ∨ p = .pointer (some ⟨b, 0, none⟩)) : Calls Tryd.prog 105 #[.pointer (some ⟨b, 0, none⟩)] w (GiveK (fun _ u K' => u = .tuple #[] ∧ K' = (b, .cells #[.pointer (some ⟨b, 0, none⟩), sv] 87) :: Gs) σ ((b, .cells #[p, sv] 87) :: Gs) w) := by
  rcases hp with rfl | rfl
  · exact pCopy0 hi
  · exact pCopy1 hi


set_option maxHeartbeats 400000 in
theorem pWriteString {b : Nat} {bs s : List UInt8} {σ : Hp} {K : List (Nat × Obj)} {w : World} (hi : Has σ K w) (hb : BldK 87 5 b bs σ K) (hl : bs.length + s.length ≤ 140737488355328) : Calls Tryd.prog 82 #[.pointer (some ⟨b, 0, none⟩), .string (strOf s)] w (GiveK (fun σ' u K' => BldK 87 5 b (bs ++ s) σ' K') σ K w) := by
  obtain ⟨p, sv, Gs, rfl, hp, hO⟩ := hb
  refine enter (St w (keysOf ((b, .cells #[p, sv] 87) :: Gs)) σ [] ((b, .cells #[p, sv] 87) :: Gs)) Tryd.func82 rfl Tryd.ntmps82 rfl (Has.start hi) ?_
  refine cw_seq ?_
  refine cw_region ?_
  refine ow_val rfl rfl (ex_assign rfl) ?_
  refine ow_val rfl rfl (ex_assign rfl) ?_
  refine ow_nil ?_
  refine qw_seq ?_
  refine cw_seq ?_
  refine cw_region ?_
  refine ow_val rfl rfl (ex_move rfl) ?_
  refine ow_ckE rfl rfl (ex_callf rfl (fun w h => pCopyCheck h.hasE hp)) (fun v7 σ7 K7 hl7 hf7 hr7 => ?_)
  obtain ⟨rfl, rfl⟩ := hr7
  refine ow_nil ?_
  refine qw_seq ?_
  refine cw_seq ?_
  refine cw_region ?_
  refine ow_val rfl rfl (ex_move rfl) ?_
  refine ow_val rfl rfl (ex_move rfl) ?_
  refine ow_val rfl rfl (ex_nilck rfl) ?_
  refine ow_val rfl rfl (ex_field rfl) ?_
  refine ow_val rfl rfl (ex_load1 rfl (by first | exact ld_own1 0 rfl rfl | exact ld_own1 1 rfl rfl | exact ld_own1 2 rfl rfl | exact ld_own1 3 rfl rfl | exact ld_own1 4 rfl rfl | exact ld_own1 5 rfl rfl | exact ld_own1 6 rfl rfl | exact ld_own1 7 rfl rfl | exact ld_ownG1 0 rfl rfl | exact ld_ownG1 1 rfl rfl | exact ld_imm1 (by assumption))) ?_
  refine ow_val rfl rfl (ex_move rfl) ?_
  refine ow_mono (fun w h => h.ofG) ?_
  refine ow_appS1 rfl rfl rfl rfl hO hl (fun v14 G14 hO14 => ?_)
  refine ow_val rfl rfl (ex_nilck rfl) ?_
  refine ow_val rfl rfl (ex_field rfl) ?_
  refine ow_u rfl (exu_store1 0 rfl rfl rfl hO14.cell.1 hO14.cell.2 rfl) ?_
  refine ow_nil ?_
  refine qw_seq ?_
  refine cw_seq ?_
  refine cw_region ?_
  refine ow_val rfl rfl (ex_move rfl) ?_
  refine ow_val rfl rfl (ex_lenstr (ty := 0) rfl) ?_
  refine ow_val rfl rfl (ex_assign rfl) ?_
  refine ow_val rfl rfl (ex_assign rfl) ?_
  refine ow_nil ?_
  refine qw_seq ?_
  refine cw_ret ?_
  refine qw_ret2 rfl rfl rfl (fun w' h => (St.toG h).givesK hl7 hf7 ⟨_, _, _, rfl, .inr rfl, ?_⟩)
  rw [List.length_append, List.map_append]
  exact hO14

set_option maxHeartbeats 400000 in
theorem pWriteBytes {b : Nat} {bs s : List UInt8} {v : Value} {σ : Hp} {K : List (Nat × Obj)} {w : World} (hi : Has σ K w) (hb : BldK 87 5 b bs σ K) (hv : BytesV σ v s) (hl : bs.length + s.length ≤ 140737488355328) : Calls Tryd.prog 84 #[.pointer (some ⟨b, 0, none⟩), v] w (GiveK (fun σ' u K' => BldK 87 5 b (bs ++ s) σ' K') σ K w) := by
  obtain ⟨p, sv, Gs, rfl, hp, hO⟩ := hb
  obtain ⟨q, c, rfl, hc, hm, hsrc⟩ := hv.row
  have hml : (140737488355328 : Nat) ≤ maxLen := by unfold maxLen; omega
  refine enter (St w (keysOf ((b, .cells #[p, sv] 87) :: Gs)) σ [] ((b, .cells #[p, sv] 87) :: Gs)) Tryd.func84 rfl Tryd.ntmps84 rfl (Has.start hi) ?_
  refine cw_seq ?_
  refine cw_region ?_
  refine ow_val rfl rfl (ex_assign rfl) ?_
  refine ow_val rfl rfl (ex_assign rfl) ?_
  refine ow_nil ?_
  refine qw_seq ?_
  refine cw_seq ?_
  refine cw_region ?_
  refine ow_val rfl rfl (ex_move rfl) ?_
  refine ow_ckE rfl rfl (ex_callf rfl (fun w h => pCopyCheck h.hasE hp)) (fun v7 σ7 K7 hl7 hf7 hr7 => ?_)
  obtain ⟨rfl, rfl⟩ := hr7
  refine ow_nil ?_
  refine qw_seq ?_
  refine cw_seq ?_
  refine cw_region ?_
  refine ow_val rfl rfl (ex_move rfl) ?_
  refine ow_val rfl rfl (ex_move rfl) ?_
  refine ow_val rfl rfl (ex_nilck rfl) ?_
  refine ow_val rfl rfl (ex_field rfl) ?_
  refine ow_val rfl rfl (ex_load1 rfl (by first | exact ld_own1 0 rfl rfl | exact ld_own1 1 rfl rfl | exact ld_own1 2 rfl rfl | exact ld_own1 3 rfl rfl | exact ld_own1 4 rfl rfl | exact ld_own1 5 rfl rfl | exact ld_own1 6 rfl rfl | exact ld_own1 7 rfl rfl | exact ld_ownG1 0 rfl rfl | exact ld_ownG1 1 rfl rfl | exact ld_imm1 (by assumption))) ?_
  refine ow_val rfl rfl (ex_move rfl) ?_
  refine ow_mono (fun w h => h.ofG) ?_
  refine ow_app1 rfl rfl (exw_append1 (news := s.map byteV) rfl rfl hO (by simp) (hsrc.imp id fun ⟨b, f, hp, hca⟩ => ⟨b, f, hp, fun w h => (hca.le hl7).range h.im⟩) (bytes_one s) (by omega) (by omega)) (fun v14 G14 hO14 hz14 => ?_)
  refine ow_val rfl rfl (ex_nilck rfl) ?_
  refine ow_val rfl rfl (ex_field rfl) ?_
  refine ow_u rfl (exu_store1 0 rfl rfl rfl hO14.cell.1 hO14.cell.2 rfl) ?_
  refine ow_nil ?_
  refine qw_seq ?_
  refine cw_seq ?_
  refine cw_region ?_
  refine ow_val rfl rfl (ex_move rfl) ?_
  refine ow_val rfl rfl (ex_len (ty := 0) rfl) ?_
  refine ow_val rfl rfl (ex_assign rfl) ?_
  refine ow_val rfl rfl (ex_assign rfl) ?_
  refine ow_nil ?_
  refine qw_seq ?_
  refine cw_ret ?_
  refine qw_ret2 rfl rfl rfl (fun w' h => (St.toG h).givesK hl7 hf7 ⟨_, _, _, rfl, .inr rfl, ?_⟩)
  rw [List.length_append, List.map_append]
  exact hO14

set_option maxHeartbeats 400000 in
theorem pBldString {b : Nat} {bs : List UInt8} {σ : Hp} {K : List (Nat × Obj)} {w : World} (hi : Has σ K w) (hb : BldK 87 5 b bs σ K) (hne : bs ≠ []) (hl : bs.length ≤ 140737488355328) : Calls Tryd.prog 66 #[.pointer (some ⟨b, 0, none⟩)] w (GiveK (fun σ' u K' => u = .string (strOf bs) ∧ K' = []) σ K w) := by
  obtain ⟨p, sv, Gs, rfl, hp, hO⟩ := hb
  have hpos : 0 < bs.length := List.length_pos_iff.2 hne
  obtain ⟨g, c, tl, rfl, rfl, hnc, hcm, hlen⟩ := hO.open hpos
  refine enter (St w (keysOf [(b, .cells #[p, .slice (some ⟨g, 0, none⟩) bs.length c] 87), (g, rowO (bs.map byteV) tl 5)]) σ [] [(b, .cells #[p, .slice (some ⟨g, 0, none⟩) bs.length c] 87), (g, rowO (bs.map byteV) tl 5)]) Tryd.func66 rfl Tryd.ntmps66 rfl (Has.start hi) ?_
  refine cw_seq ?_
  refine cw_region ?_
  refine ow_val rfl rfl (ex_assign rfl) ?_
  refine ow_nil ?_
  refine qw_seq ?_
  refine cw_seq ?_
  refine flow_sound 10 (by kernel_rfl) ?_
  refine flow_val rfl (ex_move rfl) ?_
  refine flow_val rfl (ex_nilck rfl) ?_
  refine flow_val rfl (ex_field rfl) ?_
  refine flow_val rfl (ex_load1 rfl (by first | exact ld_own1 0 rfl rfl | exact ld_own1 1 rfl rfl | exact ld_own1 2 rfl rfl | exact ld_own1 3 rfl rfl | exact ld_own1 4 rfl rfl | exact ld_own1 5 rfl rfl | exact ld_own1 6 rfl rfl | exact ld_own1 7 rfl rfl | exact ld_ownG1 0 rfl rfl | exact ld_ownG1 1 rfl rfl | exact ld_imm1 (by assumption))) ?_
  refine flow_val rfl (ex_sldata rfl (by omega)) ?_
  refine flow_val rfl (ex_move rfl) ?_
  refine flow_val rfl (ex_nilck rfl) ?_
  refine flow_val rfl (ex_field rfl) ?_
  refine flow_val rfl (ex_load1 rfl (by first | exact ld_own1 0 rfl rfl | exact ld_own1 1 rfl rfl | exact ld_own1 2 rfl rfl | exact ld_own1 3 rfl rfl | exact ld_own1 4 rfl rfl | exact ld_own1 5 rfl rfl | exact ld_own1 6 rfl rfl | exact ld_own1 7 rfl rfl | exact ld_ownG1 0 rfl rfl | exact ld_ownG1 1 rfl rfl | exact ld_imm1 (by assumption))) ?_
  refine flow_val rfl (ex_len (ty := 0) rfl) ?_
  refine flow_nil ?_
  refine fin_is ?_
  refine fin_is ?_
  refine fin_is ?_
  refine fin_is ?_
  refine fin_is ?_
  refine fin_is ?_
  refine fin_is ?_
  refine fin_is ?_
  refine fin_is ?_
  refine fin_is ?_
  refine fin_nil ?_
  refine ow_mono (fun w h => h.permG (List.Perm.swap _ _ _)) ?_
  refine ow_ustr (arr := (bs.map byteV ++ tl).toArray) rfl rfl rfl rfl hne (by simp) (by omega) (by simp) ?_
  refine ow_val rfl rfl (ex_assign rfl) ?_
  refine ow_nil ?_
  refine qw_seq ?_
  refine cw_ret ?_
  refine qw_ret1 rfl rfl (fun w' h => (h.dropG (List.nil_sublist _)).givesK (Le.refl _) (Fresh.refl _ _) ⟨rfl, rfl⟩)

set_option maxHeartbeats 400000 in
theorem pWrite : ∀ (t : T) {b : Nat} {bs : List UInt8} {ct : List Value} {σ : Hp} {K : List (Nat × Obj)} {w : World}, Has σ K w → TabC Tryd.prog σ → BldK 87 5 b bs σ K → TermC σ ct t → bs.length + (keyB t).length ≤ 140737488355328 → Calls Tryd.prog 65 #[.pointer (some ⟨b, 0, none⟩), .agg ct.toArray] w (GiveK (fun σ' u K' => BldK 87 5 b (bs ++ keyB t) σ' K') σ K w) := by
  intro t
  induction t using T.ind with
  | _ o n d ks ih =>
  intro b bs ct σ K w hi htab hb ht hlim
  obtain ⟨dv, kv, rfl, ho, hn, hd, hk⟩ := ht.opn
  simp only [T.kids, T.op, T.num, T.data] at *
  obtain ⟨p, c, rfl, hc, hm⟩ := hk.slice
  obtain ⟨pd, cd, rfl, hcd, hmd⟩ := hd.slice
  have hm2 := hm
  have hmd2 := hmd
  unfold maxKids at hm2
  unfold maxData at hmd2
  rw [keyB_mk] at hlim
  simp only [List.length_append] at hlim
  have hzs : ∀ z ∈ [o, n, (d.length : Int), (ks.length : Int)], -9223372036854775808 ≤ z ∧ z ≤ 9223372036854775807 := by
    intro z hz
    simp only [List.mem_cons, List.not_mem_nil, or_false] at hz
    rcases hz with rfl | rfl | rfl | rfl <;> omega
  have hhd := hdrB_head o n d.length ks.length
  have hhl : (hdrB [o, n, (d.length : Int), (ks.length : Int)]).length = (headB o n d.length ks.length).length := by rw [hhd]
  refine enter (St w (keysOf K) σ [] K) Tryd.func65 rfl Tryd.ntmps65 rfl (Has.start hi) ?_
  refine cw_seq ?_
  refine cw_region ?_
  refine ow_blk rfl rfl (exw_box rfl) ?_; intro b3
  refine ow_nil ?_
  refine qw_seq ?_
  refine cw_seq ?_
  refine cw_seq ?_
  refine cw_region ?_
  refine ow_val rfl rfl (ex_field rfl) ?_
  refine ow_val rfl rfl (ex_load1 rfl (by first | exact ld_own1 0 rfl rfl | exact ld_own1 1 rfl rfl | exact ld_own1 2 rfl rfl | exact ld_own1 3 rfl rfl | exact ld_own1 4 rfl rfl | exact ld_own1 5 rfl rfl | exact ld_own1 6 rfl rfl | exact ld_own1 7 rfl rfl | exact ld_ownG1 0 rfl rfl | exact ld_ownG1 1 rfl rfl | exact ld_imm1 (by assumption))) ?_
  refine ow_val rfl rfl (ex_field rfl) ?_
  refine ow_val rfl rfl (ex_load1 rfl (by first | exact ld_own1 0 rfl rfl | exact ld_own1 1 rfl rfl | exact ld_own1 2 rfl rfl | exact ld_own1 3 rfl rfl | exact ld_own1 4 rfl rfl | exact ld_own1 5 rfl rfl | exact ld_own1 6 rfl rfl | exact ld_own1 7 rfl rfl | exact ld_ownG1 0 rfl rfl | exact ld_ownG1 1 rfl rfl | exact ld_imm1 (by assumption))) ?_
  refine ow_val rfl rfl (ex_field rfl) ?_
  refine ow_val rfl rfl (ex_load1 rfl (by first | exact ld_own1 0 rfl rfl | exact ld_own1 1 rfl rfl | exact ld_own1 2 rfl rfl | exact ld_own1 3 rfl rfl | exact ld_own1 4 rfl rfl | exact ld_own1 5 rfl rfl | exact ld_own1 6 rfl rfl | exact ld_own1 7 rfl rfl | exact ld_ownG1 0 rfl rfl | exact ld_ownG1 1 rfl rfl | exact ld_imm1 (by assumption))) ?_
  refine ow_val rfl rfl (ex_len (ty := 0) rfl) ?_
  refine ow_val rfl rfl (ex_field rfl) ?_
  refine ow_val rfl rfl (ex_load1 rfl (by first | exact ld_own1 0 rfl rfl | exact ld_own1 1 rfl rfl | exact ld_own1 2 rfl rfl | exact ld_own1 3 rfl rfl | exact ld_own1 4 rfl rfl | exact ld_own1 5 rfl rfl | exact ld_own1 6 rfl rfl | exact ld_own1 7 rfl rfl | exact ld_ownG1 0 rfl rfl | exact ld_ownG1 1 rfl rfl | exact ld_imm1 (by assumption))) ?_
  refine ow_val rfl rfl (ex_len (ty := 0) rfl) ?_
  refine ow_val rfl rfl (ex_build (parts := [(0, _), (1, _), (2, _), (3, _)]) (cells := (intsV [o, n, (d.length : Int), (ks.length : Int)]).toArray) rfl (by kernel_rfl)) ?_
  refine ow_val rfl rfl (ex_move rfl) ?_
  refine ow_nil ?_
  refine qw_seq ?_
  refine cw_block ?_
  refine cw_loop3 (fun (i : Nat) (τ : Hp) (K' : List (Nat × Obj)) => [(0, .pointer (some ⟨b, 0, none⟩)), (3, .pointer (some ⟨b3, 0, none⟩)), (18, .agg (intsV [o, n, (d.length : Int), (ks.length : Int)]).toArray), (19, .int .i64 (i : Int))]) (fun i τ K' => i ≤ 4 ∧ Le σ τ ∧ Fresh σ τ w ∧ BldK 87 5 b (bs ++ hdrB ([o, n, (d.length : Int), (ks.length : Int)].take i)) τ K') (fun i τ K' => τ) (fun i τ K' => K') (fun i _ _ => 4 - i) 0 σ K (subL_cons (lkv rfl (by first | rfl | simp)) (subL_cons (lkv rfl (by first | rfl | simp)) (subL_cons (lkv rfl (by first | rfl | simp)) (subL_cons (lkv rfl (by first | rfl | simp)) (subL_nil _))))) ⟨Nat.zero_le _, Le.refl _, Fresh.refl _ _, by simpa [hdrB] using hb⟩ (fun w h => h) ?_
  intro i τ K' ⟨hle, hlt, hft, hbk⟩
  refine cw_seq ?_
  refine cw_region ?_
  refine ow_val rfl rfl (ex_lss rfl rfl) ?_
  refine ow_nil ?_
  refine qw_seq ?_
  refine cw_seq ?_
  refine cw_cond rfl (fun c20 => ?_) (fun c20 => ?_)
  ·
    refine cw_skip ?_
    refine qw_seq ?_
    refine cw_seq ?_
    refine cw_block ?_
    refine cw_seq ?_
    have hlt4 : i < 4 := by have := of_decide_eq_true c20; omega
    have hz := hzs [o, n, (d.length : Int), (ks.length : Int)][i] (List.getElem_mem (by simp; omega))
    have hzl := itoa_len hz
    have hst := hdrB_take [o, n, (d.length : Int), (ks.length : Int)] i (by simp; omega)
    have hsl := hdrB_take_le [o, n, (d.length : Int), (ks.length : Int)] (i + 1)
    rw [hst] at hsl
    simp only [List.length_append, List.length_cons, List.length_nil] at hsl
    refine cw_region ?_
    refine ow_val rfl rfl (ex_arr rfl rfl (show i < [o, n, (d.length : Int), (ks.length : Int)].length by simp; omega) rfl) ?_
    refine ow_val rfl rfl (ex_assign rfl) ?_
    refine ow_nil ?_
    refine qw_seq ?_
    refine cw_region ?_
    refine ow_val rfl rfl (ex_move rfl) ?_
    refine ow_val rfl rfl (ex_move rfl) ?_
    refine ow_cv rfl rfl (ex_callf rfl (fun w h => callB ((pFormatInt hz h.im (htab.le hlt))))) ?_
    refine ow_val rfl rfl (ex_stradd (b := [44]) rfl rfl (by simp only [List.length_cons, List.length_nil]; omega)) ?_
    refine ow_ckE rfl rfl (ex_callf rfl (fun w h => pWriteString h.hasE hbk (by simp only [List.length_append, List.length_cons, List.length_nil]; omega))) (fun v26 τ26 K26 hl26 hf26 hr26 => ?_)
    refine ow_nil ?_
    refine qw_block_normal ?_
    refine qw_seq ?_
    refine cw_region ?_
    refine ow_val rfl rfl (ex_addi (z := ((i + 1 : Nat) : Int)) rfl rfl (by omega) (by omega) (by omega)) ?_
    refine ow_val rfl rfl (ex_move rfl) ?_
    refine ow_nil ?_
    refine qw_round3 (i + 1) τ26 K26 (by omega) (subL_cons (lkv rfl (by first | rfl | simp)) (subL_cons (lkv rfl (by first | rfl | simp)) (subL_cons (lkv rfl (by first | rfl | simp)) (subL_cons (lkv rfl (by first | rfl | simp)) (subL_nil _))))) ⟨by omega, hlt.trans hl26, hft.trans hf26, ?_⟩ (fun w h => h)
    rw [hst, ← List.append_assoc]
    exact hr26
  ·
    refine cw_exit ?_
    refine qw_then_exit ?_
    refine qw_then_exit ?_
    refine qw_block_exit ?_
    refine qw_seq ?_
    refine cw_seq ?_
    have he4 : i = 4 := by have := of_decide_eq_false c20; omega
    subst he4
    rw [show ([o, n, (d.length : Int), (ks.length : Int)].take 4) = [o, n, (d.length : Int), (ks.length : Int)] from rfl, hhd] at hbk
    refine cw_region ?_
    refine ow_val rfl rfl (ex_move rfl) ?_
    refine ow_val rfl rfl (ex_field rfl) ?_
    refine ow_val rfl rfl (ex_load1 rfl (by first | exact ld_own1 0 rfl rfl | exact ld_own1 1 rfl rfl | exact ld_own1 2 rfl rfl | exact ld_own1 3 rfl rfl | exact ld_own1 4 rfl rfl | exact ld_own1 5 rfl rfl | exact ld_own1 6 rfl rfl | exact ld_own1 7 rfl rfl | exact ld_ownG1 0 rfl rfl | exact ld_ownG1 1 rfl rfl | exact ld_imm1 (by assumption))) ?_
    refine ow_ckE rfl rfl (ex_callf rfl (fun w h => pWriteBytes h.hasE hbk (hd.le hlt) (by simp only [List.length_append]; omega))) (fun v31 τ31 K31 hl31 hf31 hr31 => ?_)
    refine ow_nil ?_
    refine qw_seq ?_
    refine cw_seq ?_
    refine cw_region ?_
    refine ow_val rfl rfl (ex_field rfl) ?_
    refine ow_val rfl rfl (ex_load1 rfl (by first | exact ld_own1 0 rfl rfl | exact ld_own1 1 rfl rfl | exact ld_own1 2 rfl rfl | exact ld_own1 3 rfl rfl | exact ld_own1 4 rfl rfl | exact ld_own1 5 rfl rfl | exact ld_own1 6 rfl rfl | exact ld_own1 7 rfl rfl | exact ld_ownG1 0 rfl rfl | exact ld_ownG1 1 rfl rfl | exact ld_imm1 (by assumption))) ?_
    refine ow_val rfl rfl (ex_len (ty := 0) rfl) ?_
    refine ow_val rfl rfl (ex_move rfl) ?_
    refine ow_nil ?_
    refine qw_seq ?_
    refine cw_block ?_
    refine cw_loop3 (fun (j : Nat) (τ : Hp) (K' : List (Nat × Obj)) => [(0, .pointer (some ⟨b, 0, none⟩)), (3, .pointer (some ⟨b3, 0, none⟩)), (33, .slice p ks.length c), (34, .int .i64 (ks.length : Int)), (35, .int .i64 (j : Int))]) (fun j τ K' => j ≤ ks.length ∧ Le σ τ ∧ Fresh σ τ w ∧ BldK 87 5 b (bs ++ headB o n d.length ks.length ++ d ++ keysB (ks.take j)) τ K') (fun i τ K' => τ) (fun i τ K' => K') (fun j _ _ => ks.length - j) 0 τ31 K31 (subL_cons (lkv rfl (by first | rfl | simp)) (subL_cons (lkv rfl (by first | rfl | simp)) (subL_cons (lkv rfl (by first | rfl | simp)) (subL_cons (lkv rfl (by first | rfl | simp)) (subL_cons (lkv rfl (by first | rfl | simp)) (subL_nil _)))))) ⟨Nat.zero_le _, hlt.trans hl31, hft.trans hf31, by simpa [keysB] using hr31⟩ (fun w h => h) ?_
    intro j τj Kj ⟨hlej, hlj, hfj, hbj⟩
    refine cw_seq ?_
    refine cw_region ?_
    refine ow_val rfl rfl (ex_lss rfl rfl) ?_
    refine ow_nil ?_
    refine qw_seq ?_
    refine cw_seq ?_
    refine cw_cond rfl (fun c36 => ?_) (fun c36 => ?_)
    ·
      refine cw_skip ?_
      refine qw_seq ?_
      refine cw_seq ?_
      refine cw_block ?_
      refine cw_seq ?_
      have hlt2 : j < ks.length := by simpa using c36
      obtain ⟨bk, f, c', cs, e1, e2, hc1, ht1⟩ := hk.get j hlt2
      cases e1
      have ht1' := ht1
      obtain ⟨d9, k9, rfl, _, _, _, _⟩ := ht1'.opn
      have hst := keysB_take ks j hlt2
      have hsl := keysB_take_le ks (j + 1)
      rw [hst, List.length_append] at hsl
      refine cw_region ?_
      refine ow_val rfl rfl (ex_index_nat rfl rfl (by omega)) ?_
      refine ow_val rfl rfl (ex_loadR rfl (ld_immT (hc1.le hlj) (ht1.le hlj))) ?_
      refine ow_blk rfl rfl exw_alloc ?_; intro b7
      refine ow_u rfl (exu_storeN 0 rfl rfl rfl rfl ht1.one rfl) ?_
      refine ow_nil ?_
      refine qw_seq ?_
      refine cw_region ?_
      refine ow_val rfl rfl (ex_move rfl) ?_
      refine ow_val rfl rfl (ex_loadR rfl (by first | exact ld_ownN 0 rfl rfl | exact ld_ownN 1 rfl rfl | exact ld_ownN 2 rfl rfl | exact ld_ownN 3 rfl rfl | exact ld_ownN 4 rfl rfl | exact ld_ownN 5 rfl rfl | exact ld_ownN 6 rfl rfl | exact ld_ownN 7 rfl rfl | exact ld_ownGN 0 rfl rfl | exact ld_ownGN 1 rfl rfl | exact ld_immT (by assumption) (by assumption))) ?_
      refine ow_ckE rfl rfl (ex_callf rfl (fun w h => ih _ (List.getElem_mem hlt2) h.hasE (htab.le hlj) hbj (ht1.le hlj) (by simp only [List.length_append]; omega))) (fun v41 τ41 K41 hl41 hf41 hr41 => ?_)
      refine ow_nil ?_
      refine qw_block_normal ?_
      refine qw_seq ?_
      refine cw_region ?_
      refine ow_val rfl rfl (ex_addi (z := ((j + 1 : Nat) : Int)) rfl rfl (by omega) (by omega) (by omega)) ?_
      refine ow_val rfl rfl (ex_move rfl) ?_
      refine ow_nil ?_
      refine qw_round3 (j + 1) τ41 K41 (by omega) (subL_cons (lkv rfl (by first | rfl | simp)) (subL_cons (lkv rfl (by first | rfl | simp)) (subL_cons (lkv rfl (by first | rfl | simp)) (subL_cons (lkv rfl (by first | rfl | simp)) (subL_cons (lkv rfl (by first | rfl | simp)) (subL_nil _)))))) ⟨by omega, hlj.trans hl41, hfj.trans hf41, ?_⟩ (fun w h => h.drop (List.sublist_cons_self _ _))
      rw [hst, ← List.append_assoc]
      exact hr41
    ·
      refine cw_exit ?_
      refine qw_then_exit ?_
      refine qw_then_exit ?_
      refine qw_block_exit ?_
      refine qw_end0 rfl (fun w' h => (h.drop (List.nil_sublist _)).givesK hlj hfj ?_)
      have he : j = ks.length := by simp at c36; omega
      subst he
      rw [List.take_length] at hbj
      rw [keyB_mk]
      simpa [List.append_assoc] using hbj

set_option maxHeartbeats 400000 in
theorem pKey (t : T) {ct : List Value} {σ : Hp} {w : World} (hi : Imm σ w) (htab : TabC Tryd.prog σ) (ht : TermC σ ct t) (hl : (keyB t).length ≤ 140737488355328) : Calls Tryd.prog 45 #[.agg ct.toArray] w fun e w' => e = .returned (.string (strOf (keyB t))) ∧ Below w.heap.size w w' := by
  have ht0 := ht
  obtain ⟨dv, kv, rfl, ho, hn, hd, hk⟩ := ht.opn
  have hne : keyB t ≠ [] := by
    cases t
    rw [keyB_mk]
    simp [headB]
  refine enter (St w (fun _ => False) σ [] []) Tryd.func45 rfl Tryd.ntmps45 rfl (St.start hi) ?_
  refine cw_seq ?_
  refine cw_region ?_
  refine ow_blk rfl rfl (exw_box rfl) ?_; intro b1
  refine ow_val rfl rfl (ex_assign rfl) ?_
  refine ow_nil ?_
  refine qw_seq ?_
  refine cw_seq ?_
  refine cw_region ?_
  refine ow_blk rfl rfl exw_alloc ?_; intro b3
  refine ow_nil ?_
  refine qw_seq ?_
  refine cw_seq ?_
  refine cw_region ?_
  refine ow_val rfl rfl (ex_loadR rfl (by first | exact ld_ownN 0 rfl rfl | exact ld_ownN 1 rfl rfl | exact ld_ownN 2 rfl rfl | exact ld_ownN 3 rfl rfl | exact ld_ownN 4 rfl rfl | exact ld_ownN 5 rfl rfl | exact ld_ownN 6 rfl rfl | exact ld_ownN 7 rfl rfl | exact ld_ownGN 0 rfl rfl | exact ld_ownGN 1 rfl rfl | exact ld_immT (by assumption) (by assumption))) ?_
  refine ow_mono (fun w h => h.toG) ?_
  refine ow_ckE rfl rfl (ex_callf rfl (fun w h => pWrite t (bs := []) h.hasE htab ⟨.pointer none, .slice none 0 0, [], rfl, .inl rfl, OwnSl.nil _ _⟩ ht0 (by simpa using hl))) (fun v5 τ5 K5 hl5 hf5 hr5 => ?_)
  rw [List.nil_append] at hr5
  refine ow_nil ?_
  refine qw_seq ?_
  refine cw_seq ?_
  refine cw_region ?_
  refine ow_ckE rfl rfl (ex_callf rfl (fun w h => pBldString h.hasE hr5 hne hl)) (fun v6 τ6 K6 hl6 hf6 hr6 => ?_)
  obtain ⟨rfl, rfl⟩ := hr6
  refine ow_val rfl rfl (ex_assign rfl) ?_
  refine ow_nil ?_
  refine qw_seq ?_
  refine cw_ret ?_
  refine qw_ret1 rfl rfl (fun w' h => ⟨rfl, h.ag.below⟩)
end Go.Proofs.YtnjomdjkbbhdoaaDoor
