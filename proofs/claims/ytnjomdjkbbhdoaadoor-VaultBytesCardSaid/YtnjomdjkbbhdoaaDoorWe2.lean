/-
  Walks: mentions; rows of integers.
  No condition.
-/
import Derived.Test.YtnjomdjkbbhdoaaDoorWe1
import Derived.Test.YtnjomdjkbbhdoaaDoorWd3
namespace Go.Proofs.YtnjomdjkbbhdoaaDoor
open Go.RowKit
set_option linter.unusedVariables false
set_option linter.unusedSimpArgs false
set_option maxRecDepth 100000

set_option maxHeartbeats 400000 in
theorem pMention {n : Int} {σ : Hp} {w : World} (hi : Imm σ w) : Calls Tryd.prog 40 #[.int .i64 n] w (GiveR (RepBy (mentN n)) σ w) := by
  refine enter (St w (fun _ => False) σ [] []) Tryd.func40 rfl Tryd.ntmps40 rfl (St.start hi) ?_
  refine cw_seq ?_
  refine cw_region ?_
  refine ow_val rfl rfl (ex_assign rfl) ?_
  refine ow_nil ?_
  refine qw_seq ?_
  refine cw_seq ?_
  refine cw_seq ?_
  refine cw_region ?_
  refine ow_val rfl rfl (ex_move rfl) ?_
  refine ow_cr rfl rfl (ex_callf rfl (fun w h => callR (pNumBytes h.im))) (fun v5 σ4 hl4 hf4 hr4 => ?_)
  obtain ⟨hb5, hn5⟩ := hr4
  obtain ⟨p5, c5, rfl, _, _⟩ := hb5.slice
  refine ow_val rfl rfl (ex_assign rfl) ?_
  refine ow_nil ?_
  refine qw_seq ?_
  refine cw_seq ?_
  refine cw_region ?_
  refine ow_val rfl rfl (ex_move rfl) ?_
  refine ow_val rfl rfl (ex_isnnil rfl) ?_
  refine ow_nil ?_
  refine qw_seq ?_
  refine cw_cond rfl (fun c7 => ?_) (fun c7 => ?_)
  ·
    have hnn : bytesN n ≠ [] := fun hc => by
      have := hn5 hc
      simp only [Value.slice.injEq] at this
      rw [this.1] at c7; cases c7
    have hin := Decidable.not_not.1 (fun hc => hnn (bytesN_nil.2 hc))
    have h8 := bytesN_len hin
    obtain ⟨bq, oq, rfl, hcn⟩ := hb5.ptr (by omega)
    refine cw_seq ?_
    refine cw_region ?_
    refine ow_slit rfl rfl (exw_slitN (vs := ([4, 8] : List UInt8).map byteV) (by kernel_rfl) (bytes_cells _) rfl (by decide) (by decide)) ?_; intro b8
    refine ow_conv rfl rfl rfl ?_
    refine ow_frzO (fun _ h => h) (fun σ5 hl5 hf5 hb8 => ?_)
    have hX : CellsAt σ5 b8 0 (([4, 8] : List UInt8).map byteV) := ⟨_, _, _, hb8, fun j v hj => by simpa using hj⟩
    refine ow_val rfl rfl (ex_move rfl) ?_
    refine ow_app (Gs := []) rfl rfl (exw_appendI (news := (bytesN n).map byteV) rfl rfl hX rfl (by simp) (by omega) (hcn.le hl5) (by unfold maxLen; omega) (by omega)) (fun v11 G11 hO11 _ => ?_)
    refine ow_val rfl rfl (ex_assign rfl) ?_
    refine ow_nil ?_
    refine qw_seq ?_
    refine cw_ret ?_
    refine qw_then_ret ?_
    refine qw_ret1 rfl rfl (fun w' h => ?_)
    obtain ⟨σ', h1, h2, h3, h4⟩ := freezeB (Gr := []) (d := mentN n) h (fun _ h => h) hO11 (by unfold mentN; rw [if_pos hin]; rfl) (by unfold mentN; rw [if_pos hin]; simp [maxData]; omega)
    exact h2.gives (((hl4.trans hl5)).trans h1) ((hf4.trans hf5).trans h4) h3
  ·
    have hout : mentN n = [] := by
      have : p5 = none := by cases p5 <;> simp_all
      subst this
      obtain ⟨_, _, _, _, _, hz⟩ := hb5
      unfold mentN
      refine if_neg (bytesN_nil.1 (hz.resolve_right ?_))
      rintro ⟨b, o, e, _⟩
      simp_all
    refine cw_skip ?_
    refine qw_seq ?_
    refine cw_seq ?_
    refine cw_region ?_
    refine ow_val rfl rfl (ex_assign rfl) ?_
    refine ow_nil ?_
    refine qw_seq ?_
    refine cw_ret ?_
    refine qw_ret1 rfl rfl (fun w' h => h.gives hl4 hf4 ?_)
    rw [hout]
    exact BytesV.nil _

set_option maxHeartbeats 400000 in
theorem rSameI {xs ys : List Int} {vx vy : Value} {σ : Hp} {w : World} (hi : Imm σ w) (hx : IntsV σ vx xs) (hy : IntsV σ vy ys) (hl : xs.length ≤ 9223372036854775806) : Calls Tryd.prog 42 #[vx, vy] w fun e w' => e = .returned (.bool (xs == ys)) ∧ Below w.heap.size w w' := by
  obtain ⟨p, c, rfl, hc, hsx⟩ := hx
  obtain ⟨q, c2, rfl, hc2, hsy⟩ := hy
  refine enter (St w (fun _ => False) σ [] []) Tryd.func42 rfl Tryd.ntmps42 rfl (St.start hi) ?_
  refine cw_seq ?_
  refine cw_region ?_
  refine ow_val rfl rfl (ex_assign rfl) ?_
  refine ow_nil ?_
  refine qw_seq ?_
  refine cw_seq ?_
  refine cw_seq ?_
  refine cw_region ?_
  refine ow_val rfl rfl (ex_move rfl) ?_
  refine ow_val rfl rfl (ex_len (ty := 0) rfl) ?_
  refine ow_val rfl rfl (ex_move rfl) ?_
  refine ow_val rfl rfl (ex_len (ty := 0) rfl) ?_
  refine ow_val rfl rfl (ex_neq rfl rfl) ?_
  refine ow_nil ?_
  refine qw_seq ?_
  refine cw_cond rfl (fun c10 => ?_) (fun c10 => ?_)
  ·
    have hne : (xs == ys) = false := by
      rw [beq_eq_false_iff_ne]; rintro rfl; simp at c10
    refine cw_seq ?_
    refine cw_region ?_
    refine ow_val rfl rfl (ex_assign rfl) ?_
    refine ow_nil ?_
    refine qw_seq ?_
    refine cw_ret ?_
    refine qw_then_ret ?_
    refine qw_ret1 rfl rfl (fun w' h => ⟨congrArg (fun z => Ending.returned (.bool z)) ?_, h.ag.below⟩)
    rw [hne]
  ·
    have hll : xs.length = ys.length := by have := of_decide_eq_false c10; omega
    refine cw_skip ?_
    refine qw_seq ?_
    refine cw_seq ?_
    refine cw_seq ?_
    refine cw_region ?_
    refine ow_val rfl rfl (ex_assign rfl) ?_
    refine ow_nil ?_
    refine qw_seq ?_
    refine cw_block ?_
    refine cw_loopS (α := Nat) (fun i => [(0, .slice p xs.length c), (1, .slice q ys.length c2), (5, .int .i64 (i : Int))]) (fun i => i ≤ xs.length ∧ xs.take i = ys.take i) (fun i => xs.length - i) 0 (subL_cons (lkv rfl (by first | rfl | simp)) (subL_cons (lkv rfl (by first | rfl | simp)) (subL_cons (lkv rfl (by first | rfl | simp)) (subL_nil _)))) ⟨Nat.zero_le _, by simp⟩ ?_
    intro i ⟨hlei, heq⟩
    refine cw_seq ?_
    refine cw_seq ?_
    refine cw_region ?_
    refine ow_val rfl rfl (ex_move rfl) ?_
    refine ow_val rfl rfl (ex_move rfl) ?_
    refine ow_val rfl rfl (ex_len (ty := 0) rfl) ?_
    refine ow_val rfl rfl (ex_lss rfl rfl) ?_
    refine ow_nil ?_
    refine qw_seq ?_
    refine cw_cond rfl (fun c14 => ?_) (fun c14 => ?_)
    ·
      have hlt : i < xs.length := by have := of_decide_eq_true c14; omega
      have hlt2 : i < ys.length := by omega
      obtain ⟨ba, oa, rfl, hca⟩ := hsx.resolve_left (fun hz => by subst hz; simp at hlt)
      obtain ⟨bb, ob, rfl, hcb⟩ := hsy.resolve_left (fun hz => by subst hz; simp at hlt2)
      refine cw_skip ?_
      refine qw_seq ?_
      refine cw_seq ?_
      refine cw_block ?_
      refine cw_seq ?_
      refine flow_sound 9 (by kernel_rfl) ?_
      refine flow_val rfl (ex_move rfl) ?_
      refine flow_val rfl (ex_move rfl) ?_
      refine flow_val rfl (ex_index_nat rfl rfl hlt) ?_
      refine flow_val rfl (ex_load1 rfl (ld_imm1 (hca.int hlt))) ?_
      refine flow_val rfl (ex_move rfl) ?_
      refine flow_val rfl (ex_move rfl) ?_
      refine flow_val rfl (ex_index_nat rfl rfl hlt2) ?_
      refine flow_val rfl (ex_load1 rfl (ld_imm1 (hcb.int hlt2))) ?_
      refine flow_val rfl (ex_neq rfl rfl) ?_
      refine flow_nil ?_
      refine fin_is ?_
      refine fin_is ?_
      refine fin_is ?_
      refine fin_is ?_
      refine fin_is ?_
      refine fin_is ?_
      refine fin_is ?_
      refine fin_is ?_
      refine fin_is ?_
      refine fin_nil ?_
      refine ow_nil ?_
      refine qw_seq ?_
      refine cw_cond rfl (fun c25 => ?_) (fun c25 => ?_)
      ·
        have hne : (xs == ys) = false := by
          have := of_decide_eq_true c25
          rw [beq_eq_false_iff_ne]; rintro rfl; exact this rfl
        refine cw_seq ?_
        refine cw_region ?_
        refine ow_val rfl rfl (ex_assign rfl) ?_
        refine ow_nil ?_
        refine qw_seq ?_
        refine cw_ret ?_
        refine qw_block_ret ?_
        refine qw_then_ret ?_
        refine qw_then_ret ?_
        refine qw_block_ret ?_
        refine qw_then_ret ?_
        refine qw_ret1 rfl rfl (fun w' h => ⟨congrArg (fun z => Ending.returned (.bool z)) ?_, h.ag.below⟩)
        rw [hne]
      ·
        have hee : xs[i] = ys[i] := Decidable.not_not.1 (of_decide_eq_false c25)
        refine cw_skip ?_
        refine qw_block_normal ?_
        refine qw_seq ?_
        refine cw_region ?_
        refine ow_val rfl rfl (ex_move rfl) ?_
        refine ow_val rfl rfl (ex_addi (z := ((i + 1 : Nat) : Int)) rfl rfl (by omega) (by omega) (by omega)) ?_
        refine ow_val rfl rfl (ex_assign rfl) ?_
        refine ow_nil ?_
        exact qw_roundS (i + 1) (by omega) (subL_cons (lkv rfl (by first | rfl | simp)) (subL_cons (lkv rfl (by first | rfl | simp)) (subL_cons (lkv rfl (by first | rfl | simp)) (subL_nil _)))) ⟨by omega, by rw [List.take_succ_eq_append_getElem hlt, List.take_succ_eq_append_getElem hlt2, heq, hee]⟩
    ·
      have he : (xs == ys) = true := by
        have : i = xs.length := by have := of_decide_eq_false c14; omega
        subst this
        rw [List.take_of_length_le (Nat.le_refl _), List.take_of_length_le (by omega)] at heq
        rw [heq]; simp
      refine cw_exit ?_
      refine qw_then_exit ?_
      refine qw_then_exit ?_
      refine qw_block_exit ?_
      refine qw_seq ?_
      refine cw_seq ?_
      refine cw_region ?_
      refine ow_val rfl rfl (ex_assign rfl) ?_
      refine ow_nil ?_
      refine qw_seq ?_
      refine cw_ret ?_
      refine qw_ret1 rfl rfl (fun w' h => ⟨congrArg (fun z => Ending.returned (.bool z)) ?_, h.ag.below⟩)
      rw [he]

set_option maxHeartbeats 400000 in
theorem rNumBytes {n : Int} {σ : Hp} {w : World} (hi : Imm σ w) : Calls Tryd.prog 39 #[.int .i64 n] w (GiveR (RepBy (bytesN n)) σ w) := by
  refine enter (St w (fun _ => False) σ [] []) Tryd.func39 rfl Tryd.ntmps39 rfl (St.start hi) ?_
  refine cw_seq ?_
  refine cw_region ?_
  refine ow_val rfl rfl (ex_assign rfl) ?_
  refine ow_nil ?_
  refine qw_seq ?_
  refine cw_seq ?_
  refine cw_seq ?_
  refine cw_region ?_
  refine ow_val rfl rfl (ex_move rfl) ?_
  refine ow_val rfl rfl (ex_lss rfl rfl) ?_
  refine ow_val rfl rfl (ex_move rfl) ?_
  refine ow_split (g := some (2, false)) rfl (fun s7 => ?_) (fun s7 => ?_)
  ·
    refine ow_skip rfl (gd_no rfl s7) ?_
    refine ow_skip rfl (gd_no rfl s7) ?_
    refine ow_val rfl rfl (ex_pickt rfl s7 rfl) ?_
    refine ow_nil ?_
    refine qw_seq ?_
    refine cw_cond_t rfl ?_
    refine cw_seq ?_
    refine cw_region ?_
    refine ow_val rfl rfl (ex_assign rfl) ?_
    refine ow_nil ?_
    refine qw_seq ?_
    refine cw_ret ?_
    refine qw_then_ret ?_
    refine qw_ret1 rfl rfl (fun w' h => h.gives (Le.refl _) (Fresh.refl _ _) ?_)
    rw [bytesN_out (by have := of_decide_eq_true s7; omega)]
    exact BytesV.nil σ
  ·
    refine ow_val rfl (gd_go rfl s7) (ex_move rfl) ?_
    refine ow_val rfl (gd_go rfl s7) (ex_geq rfl rfl) ?_
    refine ow_val rfl rfl (ex_pickf rfl s7 rfl) ?_
    refine ow_nil ?_
    refine qw_seq ?_
    refine cw_cond rfl (fun c10 => ?_) (fun c10 => ?_)
    ·
      refine cw_seq ?_
      refine cw_region ?_
      refine ow_val rfl rfl (ex_assign rfl) ?_
      refine ow_nil ?_
      refine qw_seq ?_
      refine cw_ret ?_
      refine qw_then_ret ?_
      refine qw_ret1 rfl rfl (fun w' h => h.gives (Le.refl _) (Fresh.refl _ _) ?_)
      rw [bytesN_out (by have := of_decide_eq_true c10; omega)]
      exact BytesV.nil σ
    ·
      refine cw_skip ?_
      refine qw_seq ?_
      refine cw_seq ?_
      obtain ⟨hn0, hn1⟩ : 0 ≤ n ∧ n < 281474976710656 := by
        have h1 := of_decide_eq_false s7
        have h2 := of_decide_eq_false c10
        omega
      obtain ⟨m, rfl⟩ : ∃ m : Nat, n = (m : Int) := ⟨n.toNat, by omega⟩
      refine cw_region ?_
      refine ow_slit rfl rfl (exw_slitN (vs := ([193, 94] : List UInt8).map byteV) (by kernel_rfl) (bytes_cells _) rfl (by decide) (by decide)) ?_; intro b11
      refine ow_mono (fun w h => h.toG) ?_
      refine ow_val rfl rfl (ex_assign rfl) ?_
      refine ow_nil ?_
      refine qw_seq ?_
      refine cw_seq ?_
      refine cw_seq ?_
      refine cw_region ?_
      refine ow_val rfl rfl (ex_assign rfl) ?_
      refine ow_nil ?_
      refine qw_seq ?_
      refine cw_block ?_
      refine cw_loop3 (fun (k : Nat) (v3 : Value) (Gs : List (Nat × Obj)) => [(0, .int .i64 (m : Int)), (3, v3), (4, .int .i64 (5 - (k : Int)))]) (fun k v3 Gs => k ≤ 6 ∧ OwnSl 5 1 v3 (2 + k) (((193 : UInt8) :: 94 :: tailB m k).map byteV) Gs) (fun _ _ _ => σ) (fun _ _ Gs => Gs) (fun k _ _ => 6 - k) 0 (.slice (some ⟨b11, 0, none⟩) 2 2) [(b11, .cells (([193, 94] : List UInt8).map byteV).toArray 5 (0, 0))] (subL_cons (lkv rfl (by first | rfl | simp)) (subL_cons (lkv rfl (by first | rfl | simp)) (subL_cons (lkv rfl (by first | rfl | simp)) (subL_nil _)))) ⟨by omega, OwnSl.lit (xs := ([193, 94] : List UInt8).map byteV) (by simp [maxLen])⟩ (fun w h => by simpa using h) ?_
      intro k v3 Gs ⟨hlek, hO⟩
      refine cw_seq ?_
      refine cw_seq ?_
      refine cw_region ?_
      refine ow_val rfl rfl (ex_move rfl) ?_
      refine ow_val rfl rfl (ex_geq rfl rfl) ?_
      refine ow_nil ?_
      refine qw_seq ?_
      refine cw_cond rfl (fun c13 => ?_) (fun c13 => ?_)
      ·
        have hk5 : k ≤ 5 := by have := of_decide_eq_true c13; omega
        refine cw_skip ?_
        refine qw_seq ?_
        refine cw_seq ?_
        refine cw_block ?_
        refine cw_region ?_
        refine ow_val rfl rfl (ex_move rfl) ?_
        refine ow_val rfl rfl (ex_move rfl) ?_
        refine ow_val rfl rfl (ex_move rfl) ?_
        refine ow_val rfl rfl (ex_muli (z := ((8 * (5 - k) : Nat) : Int)) rfl rfl (by omega) (by omega) (by omega)) ?_
        refine ow_val rfl rfl (ex_shrN (n := m) (s := 8 * (5 - k)) rfl rfl (by omega)) ?_
        refine ow_val rfl rfl (ex_toB Tryd.underlying3 Tryd.underlying5 rfl) ?_
        refine ow_slit rfl rfl (exw_slit1 rfl rfl) ?_; intro b22
        refine ow_app1 rfl rfl (exw_append1 (news := [byteV (UInt8.ofNat (m / 2 ^ (8 * (5 - k))))]) rfl rfl hO rfl (.inr ⟨_, _, rfl, (ld_ownN (k := 1) 0 rfl rfl).2⟩) (fun u hu => by simp at hu; subst hu; rfl) (by unfold maxLen; omega) (by omega)) (fun v23 G23 hO23 hz23 => ?_)
        refine ow_val rfl rfl (ex_assign rfl) ?_
        refine ow_nil ?_
        refine qw_block_normal ?_
        refine qw_seq ?_
        refine cw_region ?_
        refine ow_val rfl rfl (ex_move rfl) ?_
        refine ow_val rfl rfl (ex_subi (z := (5 - ((k + 1 : Nat) : Int))) rfl rfl (by omega) (by omega) (by omega)) ?_
        refine ow_val rfl rfl (ex_assign rfl) ?_
        refine ow_nil ?_
        exact qw_round3 (k + 1) v23 G23 (by omega) (subL_cons (lkv rfl (by first | rfl | simp)) (subL_cons (lkv rfl (by first | rfl | simp)) (subL_cons (lkv rfl (by first | rfl | simp)) (subL_nil _)))) ⟨by omega, by rw [tailB_succ]; simpa [Nat.add_assoc] using hO23⟩ (fun w h => h.drop (List.sublist_cons_self _ _))
      ·
        have he : k = 6 := by have := of_decide_eq_false c13; omega
        subst he
        refine cw_exit ?_
        refine qw_then_exit ?_
        refine qw_then_exit ?_
        refine qw_block_exit ?_
        refine qw_seq ?_
        refine cw_seq ?_
        refine cw_region ?_
        refine ow_val rfl rfl (ex_move rfl) ?_
        refine ow_val rfl rfl (ex_assign rfl) ?_
        refine ow_nil ?_
        refine qw_seq ?_
        refine cw_ret ?_
        refine qw_ret1 rfl rfl (fun w' h => ?_)
        obtain ⟨σ', h1, h2, h3, h4⟩ := freezeB (Gr := []) (by simpa using h) (fun _ h => h) hO rfl (by simp [tailB_len, maxData])
        refine h2.gives h1 h4 ?_
        rw [bytesN_in (by omega)]
        exact h3

set_option maxHeartbeats 400000 in
theorem rMention {n : Int} {σ : Hp} {w : World} (hi : Imm σ w) : Calls Tryd.prog 41 #[.int .i64 n] w (GiveR (RepBy (mentN n)) σ w) := by
  refine enter (St w (fun _ => False) σ [] []) Tryd.func41 rfl Tryd.ntmps41 rfl (St.start hi) ?_
  refine cw_seq ?_
  refine cw_region ?_
  refine ow_val rfl rfl (ex_assign rfl) ?_
  refine ow_nil ?_
  refine qw_seq ?_
  refine cw_seq ?_
  refine cw_region ?_
  refine ow_val rfl rfl (ex_move rfl) ?_
  refine ow_cr rfl rfl (ex_callf rfl (fun w h => callR (rNumBytes h.im))) (fun v5 σ4 hl4 hf4 hb5 => ?_)
  obtain ⟨p5, c5, rfl, _, _⟩ := BytesV.slice hb5
  refine ow_val rfl rfl (ex_assign rfl) ?_
  refine ow_nil ?_
  refine qw_seq ?_
  refine cw_seq ?_
  refine cw_seq ?_
  refine cw_region ?_
  refine ow_val rfl rfl (ex_move rfl) ?_
  refine ow_val rfl rfl (ex_len (ty := 0) rfl) ?_
  refine ow_val rfl rfl (ex_eql rfl rfl) ?_
  refine ow_nil ?_
  refine qw_seq ?_
  refine cw_cond rfl (fun c8 => ?_) (fun c8 => ?_)
  ·
    have hout : mentN n = [] := by
      unfold mentN
      refine if_neg (bytesN_nil.1 (List.eq_nil_of_length_eq_zero ?_))
      have := of_decide_eq_true c8; omega
    refine cw_seq ?_
    refine cw_region ?_
    refine ow_val rfl rfl (ex_assign rfl) ?_
    refine ow_nil ?_
    refine qw_seq ?_
    refine cw_ret ?_
    refine qw_then_ret ?_
    refine qw_ret1 rfl rfl (fun w' h => h.gives hl4 hf4 ?_)
    rw [hout]
    exact BytesV.nil _
  ·
    have hin : 0 ≤ n ∧ n < 281474976710656 := Decidable.not_not.1 (fun hc => by have := of_decide_eq_false c8; rw [bytesN_nil.2 hc] at this; simp at this)
    have h8 := bytesN_len hin
    obtain ⟨bq, oq, rfl, hcn⟩ := BytesV.ptr hb5 (by omega)
    refine cw_skip ?_
    refine qw_seq ?_
    refine cw_seq ?_
    refine cw_region ?_
    refine ow_slit rfl rfl (exw_slitN (vs := ([4, 8] : List UInt8).map byteV) (by kernel_rfl) (bytes_cells _) rfl (by decide) (by decide)) ?_; intro b8
    refine ow_mono (fun w h => h.toG) ?_
    refine ow_val rfl rfl (ex_move rfl) ?_
    refine ow_app1 rfl rfl (exw_append1 (news := (bytesN n).map byteV) rfl rfl (OwnSl.lit (xs := ([4, 8] : List UInt8).map byteV) (by simp [maxLen])) (by simp) (.inr ⟨bq, oq, rfl, fun w h => hcn.range h.im⟩) (bytes_one _) (by unfold maxLen; simp; omega) (by simp; omega)) (fun v11 G11 hO11 hz11 => ?_)
    refine ow_val rfl rfl (ex_assign rfl) ?_
    refine ow_nil ?_
    refine qw_seq ?_
    refine cw_ret ?_
    refine qw_ret1 rfl rfl (fun w' h => ?_)
    obtain ⟨σ', h1, h2, h3, h4⟩ := freezeB (Gr := []) (d := mentN n) (by simpa using h) (fun _ h => h) hO11 (by unfold mentN; rw [if_pos hin]; rfl) (by unfold mentN; rw [if_pos hin]; simp [maxData]; omega)
    exact h2.gives (hl4.trans h1) (hf4.trans h4) h3
end Go.Proofs.YtnjomdjkbbhdoaaDoor
