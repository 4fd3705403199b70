/-
  What the law DeriveCloses needs, part 6.
  No condition.
-/
import Derived.Test.YtnjomdjkbbhdoaaGreatDoorP5
set_option linter.unusedVariables false
set_option linter.unusedSimpArgs false
set_option linter.unusedSectionVars false
namespace Go.Proofs.YtnjomdjkbbhdoaaGreatDoor
open Go.RowKit
set_option linter.unusedVariables false
set_option linter.unusedSimpArgs false
set_option maxRecDepth 100000
instance : ZeroT Tryz.prog 84 (.pointer none) := ⟨by kernel_rfl⟩
set_option maxHeartbeats 400000 in
theorem pFound {be : Nat} {σ : Hp} {w : World} (hi : Imm σ w) : Calls Tryz.prog 55 #[.pointer (some ⟨be, 0, none⟩)] w (GiveR (RepF 86 be) σ w) := by
  refine enter (St w (fun _ => False) σ [] []) Tryz.func55 rfl Tryz.ntmps55 rfl (St.start hi) ?_
  refine cw_seq ?_
  refine cw_region ?_
  refine ow_blk rfl rfl (exw_box rfl) ?_; intro b1
  refine ow_val rfl rfl (ex_assign rfl) ?_
  refine ow_nil ?_
  refine qw_seq ?_
  refine cw_seq ?_
  refine cw_region ?_
  refine ow_val rfl rfl (ex_makeFunc rfl rfl) ?_
  refine ow_val rfl rfl (ex_assign rfl) ?_
  refine ow_nil ?_
  refine qw_seq ?_
  refine cw_ret ?_
  refine qw_ret1 rfl rfl (fun w' h => ?_)
  obtain ⟨σ1, l1, f1, e1, h1⟩ := St.frz1 h id
  exact h1.gives l1 f1 ⟨b1, rfl, CellsAt.took (k := 1) e1 rfl⟩
set_option maxHeartbeats 2000000 in
theorem pClosure {b : Nat} {ts : List T} {known : List Int} {v : Value} {σ : Hp} {K : List (Nat × Obj)} {w : World} (hi : Has σ K w) (htab : TabC Tryz.prog σ) (hv : VaultK 80 32 b ts σ K) (hk : IntsV σ v known) (hkl : known.length ≤ 1000000) : Calls Tryz.prog 15 #[.pointer (some ⟨b, 0, none⟩), v] w (GiveR (RepI (closL (itemsT ts) known)) σ w) := by
  obtain ⟨pk, ck, rfl, hck, hsk⟩ := hk
  obtain ⟨hI, hfew⟩ := hv.nd
  have hof := @Has.of_im σ
  have hleX := hi.le
  refine enterM (St w (fun _ => False) (exts σ K) [] []) Tryz.func15 rfl Tryz.ntmps15 rfl (St.start hi.exts) ?_
  refine cw_seq ?_
  refine cw_region ?_
  refine ow_val rfl rfl (ex_assign rfl) ?_
  refine ow_nil ?_
  refine qw_seq ?_
  refine cw_scope ?_
  refine cw_seq ?_
  refine cw_seq ?_
  refine cw_region ?_
  refine ow_val rfl rfl (ex_move rfl) ?_
  refine ow_val rfl rfl (ex_ptrnil rfl) ?_
  refine ow_nil ?_
  refine qw_seq ?_
  refine cw_cond rfl (fun c14 => ?_) (fun c14 => ?_)
  ·
    cases c14
  ·
    refine cw_skip ?_
    refine qw_seq ?_
    refine cw_seq ?_
    refine cw_region ?_
    refine ow_val rfl rfl (ex_move rfl) ?_
    refine ow_ck0 rfl rfl (ex_callf rfl (fun w h => pLoad (hi.of_im h.im (Le.refl _)) htab hv)) (fun v16 τ1 K1 hl1 hf1 hr1 => ?_)
    obtain ⟨be, hb, iv, ch, rfl, rfl, hcE, hIt⟩ := hr1
    refine ow_mono (fun w h => St.ofG (G := []) h) ?_
    refine ow_blk rfl rfl exw_alloc ?_; intro b5
    refine ow_u rfl (exu_store1 0 rfl rfl rfl rfl rfl rfl) ?_
    refine ow_frzO (fun _ h => h) (fun τ2 hl2 hf2 hb2 => ?_)
    have hc5 : CellsAt τ2 b5 0 [.pointer (some ⟨be, 0, none⟩)] := CellsAt.took (k := 1) hb2 rfl
    have hlσ : Le σ τ2 := (hleX.trans hl1).trans hl2
    refine ow_nil ?_
    refine qw_seq ?_
    refine cw_seq ?_
    refine cw_seq ?_
    refine cw_region ?_
    refine ow_val rfl rfl (ex_move rfl) ?_
    refine ow_val rfl rfl (ex_len (ty := 0) rfl) ?_
    refine ow_val rfl rfl (ex_move rfl) ?_
    refine ow_nil ?_
    refine qw_seq ?_
    refine cw_block ?_
    refine cw_loopH2 (fun (i : Nat) (had : List Bool) => [(0, .pointer (some ⟨b, 0, none⟩)), (5, .pointer (some ⟨b5, 0, none⟩)), (17, .slice pk known.length ck), (18, .int .i64 (known.length : Int)), (19, .int .i64 (i : Int))]) (fun i had => i ≤ known.length ∧ Sound (itemsT ts) known had ∧ ∀ j (h : j < known.length), j < i → 0 ≤ known[j] → known[j] < (ts.length : Int) → hadAt had known[j] = true) (fun i had => τ2) (fun i had => [(hb, hadO 4 had)]) (fun i had => []) (fun i _ => known.length - i) 0 (List.replicate ts.length false) (subL_cons (lkv rfl (by first | rfl | simp)) (subL_cons (lkv rfl (by first | rfl | simp)) (subL_cons (lkv rfl (by first | rfl | simp)) (subL_cons (lkv rfl (by first | rfl | simp)) (subL_cons (lkv rfl (by first | rfl | simp)) (subL_nil _)))))) ⟨Nat.zero_le _, by have := sound0 (itemsT ts) known; rwa [itemsT_len] at this, fun j _ h => absurd h (Nat.not_lt_zero _)⟩ (fun w h => h) ?_
    intro i had ⟨hlei, hso, hkk⟩
    have hsl : had.length = ts.length := by have := hso.1; rwa [itemsT_len] at this
    refine cw_seq ?_
    refine cw_region ?_
    refine ow_val rfl rfl (ex_lss rfl rfl) ?_
    refine ow_nil ?_
    refine qw_seq ?_
    refine cw_seq ?_
    refine cw_cond rfl (fun c20 => ?_) (fun c20 => ?_)
    ·
      have hlt : i < known.length := by have := of_decide_eq_true c20; omega
      obtain ⟨bk, ok, rfl, hca⟩ := hsk.resolve_left (fun hn => by subst hn; simp at hlt)
      refine cw_skip ?_
      refine qw_seq ?_
      refine cw_seq ?_
      refine cw_block ?_
      refine cw_seq ?_
      refine cw_region ?_
      refine ow_val rfl rfl (ex_index_nat (i := i) rfl rfl hlt) ?_
      refine ow_val rfl rfl (ex_load1 rfl (ld_imm1 ((hca.le hlσ).int hlt))) ?_
      refine ow_val rfl rfl (ex_assign rfl) ?_
      refine ow_nil ?_
      refine qw_seq ?_
      refine cw_seq ?_
      refine cw_region ?_
      refine ow_val rfl rfl (ex_move rfl) ?_
      refine ow_val rfl rfl (ex_geq rfl rfl) ?_
      refine ow_val rfl rfl (ex_move rfl) ?_
      refine ow_split (g := some (2, true)) rfl (fun s25 => ?_) (fun s25 => ?_)
      ·
        have q0 := of_decide_eq_true s25
        refine ow_val rfl (gd_go rfl s25) (ex_move rfl) ?_
        refine ow_val rfl (gd_go rfl s25) (ex_load1 rfl (ld_imm1 hc5)) ?_
        refine ow_val rfl (gd_go rfl s25) (ex_nilck rfl) ?_
        refine ow_val rfl (gd_go rfl s25) (ex_field rfl) ?_
        refine ow_val rfl (gd_go rfl s25) (ex_load1 rfl (ld_imm1 ((hcE.le hl2).fld (i := 1) rfl))) ?_
        refine ow_val rfl (gd_go rfl s25) (ex_len (ty := 0) rfl) ?_
        refine ow_val rfl (gd_go rfl s25) (ex_lss rfl rfl) ?_
        refine ow_val rfl rfl (ex_pickt rfl s25 rfl) ?_
        refine ow_nil ?_
        refine qw_seq ?_
        refine cw_cond rfl (fun c33 => ?_) (fun c33 => ?_)
        ·
          have q1 := of_decide_eq_true c33
          obtain ⟨kz, hkz⟩ : ∃ kz : Nat, known[i] = (kz : Int) := ⟨known[i].toNat, by omega⟩
          rw [hkz] at q1
          rw [hkz]
          refine cw_region ?_
          refine ow_val rfl rfl (ex_load1 rfl (ld_imm1 hc5)) ?_
          refine ow_val rfl rfl (ex_nilck rfl) ?_
          refine ow_val rfl rfl (ex_field rfl) ?_
          refine ow_val rfl rfl (ex_load1 rfl (ld_imm1 ((hcE.le hl2).fld (i := 1) rfl))) ?_
          refine ow_val rfl rfl (ex_move rfl) ?_
          refine ow_val rfl rfl (ex_index_nat (i := kz) rfl rfl (by omega)) ?_
          refine ow_u rfl (exu_bool 0 rfl rfl rfl (by omega)) ?_
          refine ow_nil ?_
          refine qw_block_normal ?_
          refine qw_seq ?_
          refine cw_region ?_
          refine ow_val rfl rfl (ex_addi (z := ((i + 1 : Nat) : Int)) rfl rfl (by omega) (by omega) (by omega)) ?_
          refine ow_val rfl rfl (ex_move rfl) ?_
          refine ow_nil ?_
          exact qw_roundH2 (i + 1) (had.set kz true) (by omega) (subL_cons (lkv rfl (by first | rfl | simp)) (subL_cons (lkv rfl (by first | rfl | simp)) (subL_cons (lkv rfl (by first | rfl | simp)) (subL_cons (lkv rfl (by first | rfl | simp)) (subL_cons (lkv rfl (by first | rfl | simp)) (subL_nil _)))))) ⟨by omega, hso.set (had_known (by rw [← hkz]; exact List.getElem_mem hlt) (by rw [itemsT_len]; omega)), fun j hj hji h0 h1 => by
            by_cases e : j = i
            · subst e
              rw [hkz, hadAt_nat, getD_set (by omega)]; simp
            · exact HadLe.set _ _ _ (hkk j hj (by omega) h0 h1)⟩ (fun w h => h)
        ·
          have q1 := of_decide_eq_false c33
          refine cw_skip ?_
          refine qw_block_normal ?_
          refine qw_seq ?_
          refine cw_region ?_
          refine ow_val rfl rfl (ex_addi (z := ((i + 1 : Nat) : Int)) rfl rfl (by omega) (by omega) (by omega)) ?_
          refine ow_val rfl rfl (ex_move rfl) ?_
          refine ow_nil ?_
          exact qw_roundH2 (i + 1) had (by omega) (subL_cons (lkv rfl (by first | rfl | simp)) (subL_cons (lkv rfl (by first | rfl | simp)) (subL_cons (lkv rfl (by first | rfl | simp)) (subL_cons (lkv rfl (by first | rfl | simp)) (subL_cons (lkv rfl (by first | rfl | simp)) (subL_nil _)))))) ⟨by omega, hso, fun j hj hji h0 h1 => by
            by_cases e : j = i
            · subst e; omega
            · exact hkk j hj (by omega) h0 h1⟩ (fun w h => h)
      ·
        have q0 := of_decide_eq_false s25
        refine ow_skip rfl (gd_no rfl s25) ?_
        refine ow_skip rfl (gd_no rfl s25) ?_
        refine ow_skip rfl (gd_no rfl s25) ?_
        refine ow_skip rfl (gd_no rfl s25) ?_
        refine ow_skip rfl (gd_no rfl s25) ?_
        refine ow_skip rfl (gd_no rfl s25) ?_
        refine ow_skip rfl (gd_no rfl s25) ?_
        refine ow_val rfl rfl (ex_pickf rfl s25 rfl) ?_
        refine ow_nil ?_
        refine qw_seq ?_
        refine cw_cond_f rfl ?_
        refine cw_skip ?_
        refine qw_block_normal ?_
        refine qw_seq ?_
        refine cw_region ?_
        refine ow_val rfl rfl (ex_addi (z := ((i + 1 : Nat) : Int)) rfl rfl (by omega) (by omega) (by omega)) ?_
        refine ow_val rfl rfl (ex_move rfl) ?_
        refine ow_nil ?_
        exact qw_roundH2 (i + 1) had (by omega) (subL_cons (lkv rfl (by first | rfl | simp)) (subL_cons (lkv rfl (by first | rfl | simp)) (subL_cons (lkv rfl (by first | rfl | simp)) (subL_cons (lkv rfl (by first | rfl | simp)) (subL_cons (lkv rfl (by first | rfl | simp)) (subL_nil _)))))) ⟨by omega, hso, fun j hj hji h0 h1 => by
          by_cases e : j = i
          · subst e; omega
          · exact hkk j hj (by omega) h0 h1⟩ (fun w h => h)
    ·
      have hei : i = known.length := by have := of_decide_eq_false c20; omega
      have hkn : KnownIn known had := fun k hk h0 h1 => by
        obtain ⟨j, hj, rfl⟩ := List.mem_iff_getElem.1 hk
        exact hkk j hj (by omega) h0 (by omega)
      refine cw_exit ?_
      refine qw_then_exit ?_
      refine qw_then_exit ?_
      refine qw_block_exit ?_
      refine qw_seq ?_
      refine cw_seq ?_
      refine cw_label ?_
      refine qw_seq ?_
      refine cw_seq ?_
      refine cw_block ?_
      refine cw_loopD (fun x : List Nat × List Bool => (⟨x.1.map markD⟩ : DS)) (fun x => [(0, .pointer (some ⟨b, 0, none⟩)), (5, .pointer (some ⟨b5, 0, none⟩))]) (fun x w' => (Sound (itemsT ts) known x.2 ∧ KnownIn known x.2) ∧ St w (fun _ => False) τ2 [(hb, hadO 4 x.2)] (marks x.1) w') (fun x => left x.2) ([], had) rfl (subL_cons (lkv rfl (by first | rfl | simp)) (subL_cons (lkv rfl (by first | rfl | simp)) (subL_nil _))) (fun w' h => ⟨⟨hso, hkn⟩, h⟩) ?_
      clear hkn hei hkk hsl hso hlei
      rintro ⟨Ds, had⟩ d1 hd1
      have hds1 : d1.ds = Ds.map markD := by cases hd1; rfl
      refine cw_and (fun hsk2 => ?_)
      obtain ⟨hso, hkn⟩ := hsk2
      simp only at hso hkn
      refine cw_block ?_
      refine cw_seq ?_
      refine cw_region ?_
      refine ow_blk rfl rfl exw_alloc ?_; intro b8
      refine ow_u rfl (exu_store1 0 rfl rfl rfl rfl rfl rfl) ?_
      refine ow_nil ?_
      refine qw_seq ?_
      refine cw_seq ?_
      refine cw_seq ?_
      refine cw_region ?_
      refine ow_val rfl rfl (ex_load1 rfl (ld_imm1 hc5)) ?_
      refine ow_cr rfl rfl (ex_callf rfl (fun w h => callR (pFound h.im))) (fun v42 τ3 hl3 hf3 hr3 => ?_)
      obtain ⟨b1, rfl, hcb1⟩ := hr3
      refine ow_nil ?_
      refine qw_seq ?_
      refine cw_block ?_
      have hsl : had.length = ts.length := by have := hso.1; rwa [itemsT_len] at this
      refine cw_range (its := itemsT ts) (known := known) (had0 := had) (hb := hb) (bm := b8) (b1 := b1) (tb := 4) (Ds := Ds) rfl (fun w1 h1 => ?_) hso rfl rfl ?_ ?_
      · intro l J Jx W hW hJ hJx hY h0
        have hhb1 := h1.own (p := (hb, hadO 4 had)) (by simp)
        have hhlt := (Array.getElem?_eq_some_iff.1 hhb1).1
        have hfnd := pFoundIt (l := l) (n₀ := w1.heap.size) (hb := hb) (bm := b8) (be := be) (b1 := b1) (its := itemsT ts) (known := known) (had0 := had) (J := J) (Jx := Jx) (σ := τ3) (iv := iv) (ch := ch) (w := W) (hI.itemsOK hfew) hso ⟨h1.fresh (p := (hb, hadO 4 had)) (by simp), h1.fresh (p := (b8, .cells #[.bool false] 4)) (by simp), fun b o e => .inl (h1.im.lt e)⟩ (h1.lt (p := (b8, .cells #[.bool false] 4)) (by simp)) hW.size (by rw [itemsT_len]; exact hcE.le (hl2.trans hl3)) (hIt.le (hl2.trans hl3)) hcb1 (Imm.ext (h1.im.below hW) (by rw [hW.block hb hhlt]; exact hhb1)) hJ hY h0
        exact callsIn_wide.2 (by simpa using hfnd)
      · clear hds1 hd1
        clear d1
        intro l x hadx bb W Q' hlen hQ
        have hxl : x.1 < ts.length := Nat.lt_of_lt_of_eq x.2.1 (itemsT_len ts)
        rw [itemsT_len] at hlen
        refine oi_val wide_fn (fun c h => (by cases h)) rfl rfl (ex_load1 rfl (ld_imm1 (hc5.le hl3))) ?_
        refine oi_val wide_fn (fun c h => (by cases h)) rfl rfl (ex_nilck rfl) ?_
        refine oi_val wide_fn (fun c h => (by cases h)) rfl rfl (ex_field rfl) ?_
        refine oi_val wide_fn (fun c h => (by cases h)) rfl rfl (ex_load1 rfl (ld_imm1 ((hcE.le (hl2.trans hl3)).fld (i := 1) rfl))) ?_
        refine oi_val wide_fn (fun c h => (by cases h)) rfl rfl (ex_move rfl) ?_
        refine oi_val wide_fn (fun c h => (by cases h)) rfl rfl (ex_index_nat (i := x.1) rfl rfl hxl) ?_
        refine oi_u wide_fn (fun c h => (by cases h)) rfl (exu_bool 1 rfl rfl rfl (by omega)) ?_
        refine oi_u wide_fn (fun c h => (by cases h)) rfl (exu_store1 0 rfl rfl rfl rfl rfl rfl) ?_
        refine oi_nil ?_
        exact fun a w' hf hs => hQ a w' hs
      · intro d2 D xs had2 hd2 hall hso2 hle2 hni2 hin2
        have hds2 : d2.ds = (D :: Ds).map markD := by rw [hd2, hds1]; rfl
        have hsl2 : had2.length = ts.length := by have := hso2.1; rwa [itemsT_len] at this
        refine qw_block_normal ?_
        refine qw_seq ?_
        refine cw_seq ?_
        refine cw_region ?_
        refine ow_val rfl rfl (ex_load1 rfl (by first | exact ld_own1 0 rfl rfl | exact ld_own1 1 rfl rfl | exact ld_own1 2 rfl rfl | exact ld_own1 3 rfl rfl | exact ld_own1 4 rfl rfl | exact ld_own1 5 rfl rfl | exact ld_own1 6 rfl rfl | exact ld_own1 7 rfl rfl | exact ld_ownG1 0 rfl rfl | exact ld_ownG1 1 rfl rfl | exact ld_imm1 (by assumption))) ?_
        refine ow_val rfl rfl (ex_not rfl) ?_
        refine ow_nil ?_
        refine qw_seq ?_
        refine cw_cond rfl (fun c51 => ?_) (fun c51 => ?_)
        ·
          have hxs : xs = [] := by simpa using c51
          have hcl := hall.1 hxs
          have e2 := hni2 hxs
          subst e2
          refine cw_exit ?_
          refine qw_block_other rfl ?_
          refine qw_then_exit ?_
          refine qw_block_exit ?_
          refine qw_seq ?_
          refine cw_seq ?_
          refine cw_region ?_
          refine ow_val rfl rfl (ex_assign rfl) ?_
          refine ow_nil ?_
          refine qw_seq ?_
          refine cw_seq ?_
          refine cw_seq ?_
          refine cw_region ?_
          refine ow_val rfl rfl (ex_load1 rfl (ld_imm1 (hc5.le hl3))) ?_
          refine ow_val rfl rfl (ex_nilckD rfl) ?_
          refine ow_val rfl rfl (ex_field rfl) ?_
          refine ow_val rfl rfl (ex_load1 rfl (ld_imm1 ((hcE.le (hl2.trans hl3)).fld (i := 1) rfl))) ?_
          refine ow_val rfl rfl (ex_len (ty := 0) rfl) ?_
          refine ow_val rfl rfl (ex_move rfl) ?_
          refine ow_nil ?_
          refine qw_seq ?_
          refine cw_block ?_
          refine cw_loop3 (fun (i : Nat) (v10 : Value) (Gs : List (Nat × Obj)) => [(10, v10), (55, .slice (some ⟨hb, 0, none⟩) ts.length ch), (56, .int .i64 (ts.length : Int)), (57, .int .i64 (i : Int))]) (fun i v10 Gs => i ≤ ts.length ∧ OwnSl 3 1 v10 (outB 0 (had2.take i)).length (intsV (outB 0 (had2.take i))) Gs) (fun i v10 Gs => τ3) (fun i v10 Gs => Gs ++ marks (D :: Ds)) (fun i _ _ => ts.length - i) 0 (.slice none 0 0) [] (subL_cons (lkv rfl (by first | rfl | simp)) (subL_cons (lkv rfl (by first | rfl | simp)) (subL_cons (lkv rfl (by first | rfl | simp)) (subL_cons (lkv rfl (by first | rfl | simp)) (subL_nil _))))) ⟨Nat.zero_le _, by simpa [outB, intsV] using OwnSl.nil 3 1⟩ (fun w h => h) ?_
          intro i v10 Gs ⟨hlei, hO⟩
          refine cw_seq ?_
          refine cw_region ?_
          refine ow_val rfl rfl (ex_lss rfl rfl) ?_
          refine ow_nil ?_
          refine qw_seq ?_
          refine cw_seq ?_
          refine cw_cond rfl (fun c58 => ?_) (fun c58 => ?_)
          ·
            have hlt : i < ts.length := by have := of_decide_eq_true c58; omega
            have hol := outB_len (had2.take i) 0
            rw [List.length_take] at hol
            refine cw_skip ?_
            refine qw_seq ?_
            refine cw_seq ?_
            refine cw_block ?_
            refine cw_seq ?_
            refine cw_region ?_
            refine ow_val rfl rfl (ex_move rfl) ?_
            refine ow_val rfl rfl (ex_index_nat (i := i) rfl rfl hlt) ?_
            refine ow_val rfl rfl (ex_load1 rfl (ld_had 1 rfl (by omega))) ?_
            refine ow_val rfl rfl (ex_assign rfl) ?_
            refine ow_val rfl rfl (ex_assign rfl) ?_
            refine ow_nil ?_
            refine qw_seq ?_
            refine cw_seq ?_
            refine cw_region ?_
            refine ow_val rfl rfl (ex_move rfl) ?_
            refine ow_nil ?_
            refine qw_seq ?_
            refine cw_cond rfl (fun c62 => ?_) (fun c62 => ?_)
            ·
              refine cw_region ?_
              refine ow_val rfl rfl (ex_move rfl) ?_
              refine ow_val rfl rfl (ex_move rfl) ?_
              refine ow_slit rfl rfl (exw_slit1 rfl rfl) ?_; intro b65
              refine ow_app rfl rfl (exw_append (news := [.int .i64 (i : Int)]) rfl rfl hO rfl (.inr ⟨_, _, rfl, (ld_ownN (k := 1) 0 rfl rfl).2⟩) (fun u hu => by simp at hu; subst hu; rfl) (by unfold maxLen; omega) (by omega)) (fun v66 G66 hO66 hz66 => ?_)
              refine ow_val rfl rfl (ex_assign rfl) ?_
              refine ow_nil ?_
              refine qw_block_normal ?_
              refine qw_seq ?_
              refine cw_region ?_
              refine ow_val rfl rfl (ex_addi (z := ((i + 1 : Nat) : Int)) rfl rfl (by omega) (by omega) (by omega)) ?_
              refine ow_val rfl rfl (ex_move rfl) ?_
              refine ow_nil ?_
              refine qw_round3 (i + 1) v66 G66 (by omega) (subL_cons (lkv rfl (by first | rfl | simp)) (subL_cons (lkv rfl (by first | rfl | simp)) (subL_cons (lkv rfl (by first | rfl | simp)) (subL_cons (lkv rfl (by first | rfl | simp)) (subL_nil _))))) ⟨by omega, ?_⟩ (fun w h => h.drop (List.sublist_cons_self _ _))
              rw [outB_step (by omega), if_pos c62, intsV_app, List.length_append]
              exact hO66
            ·
              refine cw_skip ?_
              refine qw_block_normal ?_
              refine qw_seq ?_
              refine cw_region ?_
              refine ow_val rfl rfl (ex_addi (z := ((i + 1 : Nat) : Int)) rfl rfl (by omega) (by omega) (by omega)) ?_
              refine ow_val rfl rfl (ex_move rfl) ?_
              refine ow_nil ?_
              refine qw_round3 (i + 1) v10 Gs (by omega) (subL_cons (lkv rfl (by first | rfl | simp)) (subL_cons (lkv rfl (by first | rfl | simp)) (subL_cons (lkv rfl (by first | rfl | simp)) (subL_cons (lkv rfl (by first | rfl | simp)) (subL_nil _))))) ⟨by omega, ?_⟩ (fun w h => h)
              rw [outB_step (by omega), if_neg (by rw [c62]; decide), List.append_nil]
              exact hO
          ·
            refine cw_exit ?_
            refine qw_then_exit ?_
            refine qw_then_exit ?_
            refine qw_block_exit ?_
            refine qw_seq ?_
            refine cw_seq ?_
            have hei2 : i = ts.length := by have := of_decide_eq_false c58; omega
            rw [List.take_of_length_le (by omega)] at hO
            refine cw_frzIs (hlσ.trans hl3) hO (fun τ4 σ4 q1 q2 q3 q4 q5 => ?_)
            have q5' := q5
            obtain ⟨p5, c5, rfl, _, _⟩ := q5'
            refine cw_region ?_
            refine ow_val rfl rfl (ex_move rfl) ?_
            refine ow_val rfl rfl (ex_assign rfl) ?_
            refine ow_nil ?_
            refine qw_seq ?_
            refine cw_ret ?_
            refine qw_nogoto_ret ?_
            refine qw_retM1 hds2 rfl rfl (fun w' h => ?_)
            rw [← Clos.closL (clos_out hso hcl hkn)]
            exact h.givesS q4 q2 q3 q5
        ·
          obtain ⟨x, r, hxs⟩ : ∃ x r, xs = x :: r := by
            cases xs with
            | nil => simp at c51
            | cons x r => exact ⟨x, r, rfl⟩
          have hlft : left had2 < left had := left_lt (by omega) hle2 (hall.2 x r hxs) (hin2 x (by rw [hxs]; simp))
          have hkn2 : KnownIn known had2 := fun k hk h0 h1 => hle2 _ (hkn k hk h0 (by omega))
          refine cw_skip ?_
          refine qw_block_normal ?_
          exact qw_roundD (D :: Ds, had2) (by cases d2 with | mk ds2 => exact congrArg DS.mk hds2) hlft (subL_cons (lkv rfl (by first | rfl | simp)) (subL_cons (lkv rfl (by first | rfl | simp)) (subL_nil _))) (fun w' h => ⟨⟨hso2, hkn2⟩, (h.drop (List.sublist_cons_self _ _)).less hl3⟩)
end Go.Proofs.YtnjomdjkbbhdoaaGreatDoor
namespace Go.Proofs.YtnjomdjkbbhdoaaGreatDoor
set_option linter.unusedVariables false
set_option linter.unusedSimpArgs false
noncomputable def canB (ts : List T) (known : List Int) (d : List UInt8) : Bool := !(mentS d (ts.length : Int)).any fun z => !decide (z ∈ closL (itemsT ts) known)
theorem items_one : itemsT [atomOne, pubOne] = [⟨1, [], []⟩, ⟨2, [0], []⟩] := by
  have hp : posT [atomOne, pubOne] atomOne = 0 := by simp [posT, findI, ord_self]
  have h0 : ∀ z : Int, mentS [] z = [] := fun z => mentS_short (by simp)
  unfold itemsT
  simp only [List.mapIdx_cons, List.mapIdx_nil]
  unfold itemT
  simp only [Function.comp, show atomOne.op = 1 from rfl, show atomOne.kids = [] from rfl, show atomOne.data = [] from rfl, show pubOne.op = 2 from rfl, show pubOne.kids = [atomOne] from rfl, show pubOne.data = [] from rfl, h0, List.map_nil, List.map_cons, hp]
theorem closH : closL (itemsT [atomOne, pubOne]) [0] = [0, 1] := by
  refine (Clos.closL ⟨by decide, fun x => ?_⟩).symm
  rw [items_one]
  have a0 : Had [⟨1, [], []⟩, ⟨2, [0], []⟩] [0] 0 := had_known (by simp) (by simp)
  have a1 : Had [⟨1, [], []⟩, ⟨2, [0], []⟩] [0] 1 := fun b h1 h2 h3 => by
    refine (h2 1 (by simp)).1 ?_
    have h4 := h3 0 (by simp) (by omega) (by rw [h1]; simp)
    simp [madeB, allB, h4]
  constructor
  · intro h
    simp only [List.mem_cons, List.not_mem_nil, or_false] at h
    rcases h with rfl | rfl
    · exact ⟨0, by simp, rfl, a0⟩
    · exact ⟨1, by simp, rfl, a1⟩
  · rintro ⟨k, h1, rfl, _⟩
    have : k = 0 ∨ k = 1 := by simp at h1; omega
    rcases this with rfl | rfl <;> simp
theorem closE : closL (itemsT [atomOne, pubOne]) [] = [] := by
  refine (Clos.closL ⟨by simp, fun x => ⟨(fun h => by cases h), ?_⟩⟩).symm
  rw [items_one]
  rintro ⟨k, h1, rfl, h2⟩
  exfalso
  refine not_had [false, false] rfl (fun n hn => ?_) (fun z hz => by cases hz) ?_ h2
  · have : n = 0 ∨ n = 1 := by simp at hn; omega
    rcases this with rfl | rfl <;> simp [madeB, allB, hadAt]
  · have : k = 0 ∨ k = 1 := by simp at h1; omega
    rcases this with rfl | rfl <;> rfl
theorem closL_len (ts : List T) (known : List Int) : (closL (itemsT ts) known).length ≤ ts.length := by
  have := (clos_closL (itemsT ts) known).len
  rwa [itemsT_len] at this
theorem IntsV.src {σ : Hp} {p : Option Addr} {n c : Nat} {zs : List Int} (h : IntsV σ (.slice p n c) zs) (h0 : 0 < zs.length) : ∃ b o, p = some ⟨b, o, none⟩ ∧ CellsAt σ b o (intsV zs) := by
  obtain ⟨q, d, e, _, hs⟩ := h
  cases e
  exact hs.resolve_left (fun hn => by rw [hn] at h0; cases h0)
end Go.Proofs.YtnjomdjkbbhdoaaGreatDoor
namespace Go.Proofs.YtnjomdjkbbhdoaaGreatDoor
open Go.RowKit
set_option linter.unusedVariables false
set_option linter.unusedSimpArgs false
set_option maxRecDepth 100000
instance : ZeroT Tryz.prog 23 (.slice none 0 0) := ⟨by kernel_rfl⟩
set_option maxHeartbeats 400000 in
theorem pCan1 {z : Int} {zs : List Int} {v : Value} {bc : Nat} {σ : Hp} {w : World} (hi : Imm σ w) (hb : CellsAt σ bc 0 [v]) (hz : IntsV σ v zs) (hl : zs.length ≤ 9223372036854775806) : Calls Tryz.prog 51 #[.int .i64 z, .pointer (some ⟨bc, 0, none⟩)] w fun e w' => e = .returned (.bool (!decide (z ∈ zs))) ∧ Below w.heap.size w w' := by
  refine enter (St w (fun _ => False) σ [] []) Tryz.func51 rfl Tryz.ntmps51 rfl (St.start hi) ?_
  refine cw_seq ?_
  refine cw_region ?_
  refine ow_val rfl rfl (ex_assign rfl) ?_
  refine ow_nil ?_
  refine qw_seq ?_
  refine cw_seq ?_
  refine cw_region ?_
  refine ow_val rfl rfl (ex_load1 rfl (ld_imm1 hb)) ?_
  refine ow_val rfl rfl (ex_move rfl) ?_
  refine ow_cv rfl rfl (ex_callf rfl (fun w h => callB ((pContainsI h.im hz hl)))) ?_
  refine ow_val rfl rfl (ex_not rfl) ?_
  refine ow_val rfl rfl (ex_assign rfl) ?_
  refine ow_nil ?_
  refine qw_seq ?_
  refine cw_ret ?_
  refine qw_ret1 rfl rfl (fun w' h => ⟨congrArg (fun z => Ending.returned (.bool z)) ?_, h.ag.below⟩)
  rfl
set_option maxHeartbeats 400000 in
theorem pClosureN {v : Value} {σ : Hp} {w : World} (hi : Imm σ w) : Calls Tryz.prog 15 #[.pointer none, v] w fun e w' => e = .returned (.slice none 0 0) ∧ Below w.heap.size w w' := by
  refine enter (St w (fun _ => False) σ [] []) Tryz.func15 rfl Tryz.ntmps15 rfl (St.start hi) ?_
  refine cw_seq ?_
  refine cw_region ?_
  refine ow_val rfl rfl (ex_assign rfl) ?_
  refine ow_nil ?_
  refine qw_seq ?_
  refine cw_scope ?_
  refine cw_seq ?_
  refine cw_seq ?_
  refine cw_region ?_
  refine ow_val rfl rfl (ex_move rfl) ?_
  refine ow_val rfl rfl (ex_ptrnil rfl) ?_
  refine ow_nil ?_
  refine qw_seq ?_
  refine cw_cond rfl (fun c14 => ?_) (fun c14 => ?_)
  ·
    refine cw_seq ?_
    refine cw_region ?_
    refine ow_val rfl rfl (ex_assign rfl) ?_
    refine ow_nil ?_
    refine qw_seq ?_
    refine cw_ret ?_
    refine qw_then_ret ?_
    refine qw_nogoto_ret ?_
    refine qw_ret1 rfl rfl (fun w' h => ⟨rfl, h.ag.below⟩)
  ·
    cases c14
set_option maxHeartbeats 400000 in
theorem pCanN {v u : Value} {σ : Hp} {w : World} (hi : Imm σ w) : Calls Tryz.prog 12 #[.pointer none, v, u] w fun e w' => e = .returned (.bool false) ∧ Below w.heap.size w w' := by
  refine enter (St w (fun _ => False) σ [] []) Tryz.func12 rfl Tryz.ntmps12 rfl (St.start hi) ?_
  refine cw_seq ?_
  refine cw_region ?_
  refine ow_val rfl rfl (ex_assign rfl) ?_
  refine ow_nil ?_
  refine qw_seq ?_
  refine cw_seq ?_
  refine cw_seq ?_
  refine cw_region ?_
  refine ow_val rfl rfl (ex_move rfl) ?_
  refine ow_val rfl rfl (ex_ptrnil rfl) ?_
  refine ow_nil ?_
  refine qw_seq ?_
  refine cw_cond rfl (fun c9 => ?_) (fun c9 => ?_)
  ·
    refine cw_seq ?_
    refine cw_region ?_
    refine ow_val rfl rfl (ex_assign rfl) ?_
    refine ow_nil ?_
    refine qw_seq ?_
    refine cw_ret ?_
    refine qw_then_ret ?_
    refine qw_ret1 rfl rfl (fun w' h => ⟨congrArg (fun z => Ending.returned (.bool z)) ?_, h.ag.below⟩)
    rfl
  ·
    cases c9
set_option maxHeartbeats 400000 in
theorem pCan {b : Nat} {ts : List T} {known : List Int} {d : List UInt8} {v u : Value} {σ : Hp} {K : List (Nat × Obj)} {w : World} (hi : Has σ K w) (htab : TabC Tryz.prog σ) (hv : VaultK 80 32 b ts σ K) (hk : IntsV σ v known) (hkl : known.length ≤ 1000000) (hd : BytesV σ u d) (hdl : d.length ≤ 17592186044415) : Calls Tryz.prog 12 #[.pointer (some ⟨b, 0, none⟩), v, u] w fun e w' => e = .returned (.bool (canB ts known d)) ∧ Below w.heap.size w w' := by
  obtain ⟨hI, hfew⟩ := hv.nd
  have hcl := (clos_closL (itemsT ts) known).len
  rw [itemsT_len] at hcl
  have hk0 := hk
  obtain ⟨pk, ck, rfl, _, _⟩ := hk
  refine enter (St w (fun _ => False) (exts σ K) [] []) Tryz.func12 rfl Tryz.ntmps12 rfl (St.start hi.exts) ?_
  refine cw_seq ?_
  refine cw_region ?_
  refine ow_val rfl rfl (ex_assign rfl) ?_
  refine ow_nil ?_
  refine qw_seq ?_
  refine cw_seq ?_
  refine cw_seq ?_
  refine cw_region ?_
  refine ow_val rfl rfl (ex_move rfl) ?_
  refine ow_val rfl rfl (ex_ptrnil rfl) ?_
  refine ow_nil ?_
  refine qw_seq ?_
  refine cw_cond rfl (fun c9 => ?_) (fun c9 => ?_)
  ·
    cases c9
  ·
    refine cw_skip ?_
    refine qw_seq ?_
    refine cw_seq ?_
    refine cw_region ?_
    refine ow_val rfl rfl (ex_move rfl) ?_
    refine ow_val rfl rfl (ex_move rfl) ?_
    refine ow_crsF rfl rfl hi.le (ex_callf rfl (fun w h => callR (pClosure (hi.of_im h.im (Le.refl _)) htab hv hk0 hkl))) (fun v12 σ4 τ4 hl4 hf4 hr4 hlk hfk hle => ?_)
    have hr5 : IntsV τ4 v12 (closL (itemsT ts) known) := IntsV.le hle hr4
    have hr6 := hr5
    obtain ⟨p12, c12, rfl, _, _⟩ := hr6
    refine ow_blk rfl rfl exw_alloc ?_; intro b7
    refine ow_u rfl (exu_store1 0 rfl rfl rfl rfl rfl rfl) ?_
    refine ow_frzO (fun _ h => h) (fun τ5 hl5 hf5 hb5 => ?_)
    have hc7 : CellsAt τ5 b7 0 [.slice p12 (closL (itemsT ts) known).length c12] := CellsAt.took (k := 1) hb5 rfl
    refine ow_nil ?_
    refine qw_seq ?_
    refine cw_seq ?_
    refine cw_region ?_
    refine ow_val rfl rfl (ex_move rfl) ?_
    refine ow_val rfl rfl (ex_move rfl) ?_
    refine ow_cv rfl rfl (ex_callf rfl (fun w h => callB ((pLenK (hi.of_im h.im (hlk.trans hl5)) hv)))) ?_
    refine ow_cr rfl rfl (ex_callf rfl (fun w h => callR (pMentions h.im (hd.le (hi.le.trans (hlk.trans hl5))) hdl))) (fun v16 τ6 hl6 hf6 hr16 => ?_)
    have hml := mentS_len d (ts.length : Int)
    refine ow_val rfl rfl (ex_makeFunc rfl rfl) ?_
    refine ow_cv rfl rfl (ex_callf rfl (fun w h => callB ((pContainsFnI (p := fun z => !decide (z ∈ (closL (itemsT ts) known))) (fun z hz' {_} hi' => pCan1 hi' (hc7.le hl6) (hr5.le (hl5.trans hl6)) (by omega)) h.im hr16 (by omega))))) ?_
    refine ow_val rfl rfl (ex_not rfl) ?_
    refine ow_val rfl rfl (ex_assign rfl) ?_
    refine ow_nil ?_
    refine qw_seq ?_
    refine cw_ret ?_
    refine qw_ret1 rfl rfl (fun w' h => ⟨congrArg (fun z => Ending.returned (.bool z)) ?_, h.ag.below⟩)
    rfl
set_option maxHeartbeats 400000 in
theorem pHead8 {σ : Hp} {w : World} (hi : Imm σ w) (htab : TabC Tryz.prog σ) : Calls Tryz.prog 9 #[] w fun e w' => e = .returned (.bool true) ∧ Below w.heap.size w w' := by
  refine enter (St w (fun _ => False) σ [] []) Tryz.func9 rfl Tryz.ntmps9 rfl (St.start hi) ?_
  refine cw_seq ?_
  refine cw_region ?_
  refine ow_val rfl rfl (ex_assign rfl) ?_
  refine ow_nil ?_
  refine qw_seq ?_
  refine cw_seq ?_
  refine cw_region ?_
  refine ow_ck0E rfl rfl (ex_callf rfl (fun w h => pNew h.im)) (fun v3 σ4 K4 hl4 hf4 hr4 => ?_)
  obtain ⟨b, rfl, hv4⟩ := hr4
  refine ow_val rfl rfl (ex_assign rfl) ?_
  refine ow_nil ?_
  refine qw_seq ?_
  refine cw_seq ?_
  refine cw_seq ?_
  refine cw_region ?_
  refine ow_val rfl rfl (ex_move rfl) ?_
  refine ow_val rfl rfl (ex_ptrnil rfl) ?_
  refine ow_nil ?_
  refine qw_seq ?_
  refine cw_cond rfl (fun c5 => ?_) (fun c5 => ?_)
  ·
    simp at c5
  ·
    refine cw_skip ?_
    refine qw_seq ?_
    refine cw_seq ?_
    refine cw_region ?_
    refine ow_val rfl rfl (ex_move rfl) ?_
    refine ow_val rfl rfl (ex_build (parts := [(0, _), (1, _)]) (cells := #[.int .i64 1, .int .i64 1, .slice none 0 0, .slice none 0 0]) rfl (by kernel_rfl)) ?_
    refine ow_slit rfl rfl (exw_slit1 rfl rfl) ?_; intro b10
    refine ow_frzH (fun _ h => h) (fun σ5 hl5 hf5 hb10 => ?_)
    have htp : TermC σ5 [.int .i64 2, .int .i64 0, .slice none 0 0, .slice (some ⟨b10, 0, none⟩) 1 1] pubOne := TermC.mk (by omega) (by omega) (BytesV.nil _) (KidsV.one (CellsAt.of4 hb10) (atomOne_c _))
    refine ow_val rfl rfl (ex_build (parts := [(0, _), (3, _)]) (cells := #[.int .i64 2, .int .i64 0, .slice none 0 0, .slice (some ⟨b10, 0, none⟩) 1 1]) rfl (by kernel_rfl)) ?_
    refine ow_ckE rfl rfl (ex_callf rfl (fun w h => pIntern pubOne h.hasE ((htab.le hl4).le hl5) (hv4.le hl5) htp)) (fun v12 σ6 K6 hl6 hf6 hr6 => ?_)
    rw [intern_pub] at hr6
    obtain ⟨rfl, hv6⟩ := hr6
    have htab6 := ((htab.le hl4).le hl5).le hl6
    refine ow_nil ?_
    refine qw_seq ?_
    refine cw_seq ?_
    refine cw_region ?_
    refine ow_val rfl rfl (ex_move rfl) ?_
    refine ow_slit rfl rfl (exw_slit1 rfl rfl) ?_; intro b12
    refine ow_frzO (fun _ h => h) (fun σ7 hl7 hf7 hb12 => ?_)
    have hz0 : IntsV σ7 (.slice (some ⟨b12, 0, none⟩) 1 1) [0] := IntsV.lit hb12 rfl
    refine ow_cr rfl rfl (ex_callf rfl (fun w h => callR (pClosure h.hasE (htab6.le hl7) (hv6.le hl7) hz0 (by decide)))) (fun v13 σ8 hl8 hf8 hr8 => ?_)
    rw [closH] at hr8
    obtain ⟨p8, c8, rfl, _, hs8⟩ := hr8
    obtain ⟨bq, oq, rfl, hcq⟩ := hs8.resolve_left (by simp)
    refine ow_val rfl rfl (ex_assign rfl) ?_
    refine ow_nil ?_
    refine qw_seq ?_
    refine cw_seq ?_
    refine cw_region ?_
    refine ow_val rfl rfl (ex_move rfl) ?_
    refine ow_val rfl rfl (ex_len (ty := 0) rfl) ?_
    refine ow_val rfl rfl (ex_eql rfl rfl) ?_
    refine ow_val rfl rfl (ex_move rfl) ?_
    refine ow_split (g := some (3, true)) rfl (fun s17 => ?_) (fun s17 => ?_)
    ·
      refine ow_val rfl (gd_go rfl s17) (ex_move rfl) ?_
      refine ow_val rfl (gd_go rfl s17) (ex_index_nat (i := 0) rfl rfl (by simp)) ?_
      refine ow_val rfl (gd_go rfl s17) (ex_load1 rfl (ld_imm1 (hcq.int (i := 0) (by simp)))) ?_
      refine ow_val rfl (gd_go rfl s17) (ex_eql rfl rfl) ?_
      refine ow_val rfl rfl (ex_pickt rfl s17 rfl) ?_
      refine ow_val rfl rfl (ex_move rfl) ?_
      refine ow_split (g := some (9, true)) rfl (fun s23 => ?_) (fun s23 => ?_)
      ·
        refine ow_val rfl (gd_go rfl s23) (ex_move rfl) ?_
        refine ow_val rfl (gd_go rfl s23) (ex_index_nat (i := 1) rfl rfl (by simp)) ?_
        refine ow_val rfl (gd_go rfl s23) (ex_load1 rfl (ld_imm1 (hcq.int (i := 1) (by simp)))) ?_
        refine ow_val rfl (gd_go rfl s23) (ex_eql rfl rfl) ?_
        refine ow_val rfl rfl (ex_pickt rfl s23 rfl) ?_
        refine ow_val rfl rfl (ex_move rfl) ?_
        refine ow_split (g := some (15, true)) rfl (fun s29 => ?_) (fun s29 => ?_)
        ·
          refine ow_val rfl (gd_go rfl s29) (ex_move rfl) ?_
          refine ow_cr rfl (gd_go rfl s29) (ex_callf rfl (fun w h => callR (pClosure h.hasE ((htab6.le hl7).le hl8) ((hv6.le hl7).le hl8) (IntsV.nil _) (by decide)))) (fun v31 σ9 hl9 hf9 hr9 => ?_)
          rw [closE] at hr9
          obtain ⟨p9, c9, rfl, _, _⟩ := hr9
          refine ow_val rfl (gd_go rfl s29) (ex_len (ty := 0) rfl) ?_
          refine ow_val rfl (gd_go rfl s29) (ex_eql rfl rfl) ?_
          refine ow_val rfl rfl (ex_pickt rfl s29 rfl) ?_
          refine ow_val rfl rfl (ex_move rfl) ?_
          refine ow_split (g := some (21, true)) rfl (fun s35 => ?_) (fun s35 => ?_)
          ·
            refine ow_cv rfl (gd_go rfl s35) (ex_callf rfl (fun w h => callB ((pCanN h.im)))) ?_
            refine ow_val rfl (gd_go rfl s35) (ex_not rfl) ?_
            refine ow_val rfl rfl (ex_pickt rfl s35 rfl) ?_
            refine ow_val rfl rfl (ex_assign rfl) ?_
            refine ow_nil ?_
            refine qw_seq ?_
            refine cw_ret ?_
            refine qw_ret1 rfl rfl (fun w' h => ⟨congrArg (fun z => Ending.returned (.bool z)) ?_, h.ag.below⟩)
            rfl
          ·
            exact absurd s35 (by decide)
        ·
          exact absurd s29 (by decide)
      ·
        exact absurd s23 (by decide)
    ·
      exact absurd s17 (by decide)
end Go.Proofs.YtnjomdjkbbhdoaaGreatDoor
namespace Go.Proofs.YtnjomdjkbbhdoaaGreatDoor
open Go.RowKit
set_option linter.unusedVariables false
set_option linter.unusedSimpArgs false
set_option maxRecDepth 100000
set_option maxHeartbeats 400000 in
theorem pBothL (ls : List T) {v : Value} {σ : Hp} {w : World} (hi : Imm σ w) (htab : TabC Tryz.prog σ) (hl : KidsV σ v ls) : Calls Tryz.prog 10 #[v] w (GiveK (fun σ' u K' => (u = .tuple #[.pointer none, .pointer none, .bool false] ∧ K' = []) ∨ ∃ (bv bd : Nat) (Kv Kd : List (Nat × Obj)) (ts : List T), u = .tuple #[.pointer (some ⟨bv, 0, none⟩), .pointer (some ⟨bd, 0, none⟩), .bool true] ∧ K' = Kv ++ Kd ∧ VaultK 80 32 bv ts σ' Kv ∧ RefK 63 32 bd ts σ' Kd) σ [] w) := by
  obtain ⟨p, c, rfl, hc, hm⟩ := hl.slice
  have hm2 := hm
  unfold maxKids at hm2
  refine enter (St w (keysOf []) σ [] []) Tryz.func10 rfl Tryz.ntmps10 rfl (Has.start (Has.nil hi)) ?_
  refine cw_seq ?_
  refine cw_region ?_
  refine ow_val rfl rfl (ex_assign rfl) ?_
  refine ow_val rfl rfl (ex_assign rfl) ?_
  refine ow_val rfl rfl (ex_assign rfl) ?_
  refine ow_nil ?_
  refine qw_seq ?_
  refine cw_seq ?_
  refine cw_region ?_
  refine ow_ck0E rfl rfl (ex_callf rfl (fun w h => pNew h.im)) (fun v12 σ4 K4 hl4 hf4 hr4 => ?_)
  obtain ⟨bv, rfl, hv4⟩ := hr4
  refine ow_val rfl rfl (ex_assign rfl) ?_
  refine ow_nil ?_
  refine qw_seq ?_
  refine cw_seq ?_
  refine cw_region ?_
  refine ow_val rfl rfl (ex_build (parts := []) (cells := #[.slice none 0 0]) rfl (by kernel_rfl)) ?_
  refine ow_blk rfl rfl (exw_box rfl) ?_; intro bd
  refine ow_mono (fun w h => h.toG.permG (List.perm_append_comm (l₁ := K4) (l₂ := [_]))) ?_
  have hd4 : RefK 63 32 bd [] σ4 [(bd, .cells #[.slice none 0 0] 63)] := ⟨_, [], [], rfl, OwnSl.nil _ _, rfl, by simp⟩
  refine ow_val rfl rfl (ex_assign rfl) ?_
  refine ow_nil ?_
  refine qw_seq ?_
  refine cw_seq ?_
  refine cw_seq ?_
  refine cw_region ?_
  refine ow_val rfl rfl (ex_move rfl) ?_
  refine ow_val rfl rfl (ex_ptrnil rfl) ?_
  refine ow_val rfl rfl (ex_move rfl) ?_
  refine ow_split (g := some (2, false)) rfl (fun s17 => ?_) (fun s17 => ?_)
  ·
    simp at s17
  ·
    refine ow_val rfl (gd_go rfl s17) (ex_move rfl) ?_
    refine ow_val rfl (gd_go rfl s17) (ex_len (ty := 0) rfl) ?_
    refine ow_val rfl (gd_go rfl s17) (ex_gtr rfl rfl) ?_
    refine ow_val rfl rfl (ex_pickf rfl s17 rfl) ?_
    refine ow_nil ?_
    refine qw_seq ?_
    refine cw_cond rfl (fun c21 => ?_) (fun c21 => ?_)
    ·
      refine cw_seq ?_
      refine cw_region ?_
      refine ow_val rfl rfl (ex_assign rfl) ?_
      refine ow_val rfl rfl (ex_assign rfl) ?_
      refine ow_val rfl rfl (ex_assign rfl) ?_
      refine ow_nil ?_
      refine qw_seq ?_
      refine cw_ret ?_
      refine qw_then_ret ?_
      refine qw_ret3 rfl rfl rfl rfl (fun w' h => (h.dropG (List.nil_sublist _)).givesK hl4 hf4 (.inl ⟨rfl, rfl⟩))
    ·
      refine cw_skip ?_
      refine qw_seq ?_
      refine cw_seq ?_
      refine cw_seq ?_
      refine cw_region ?_
      refine ow_val rfl rfl (ex_assign rfl) ?_
      refine ow_nil ?_
      refine qw_seq ?_
      refine cw_block ?_
      refine cw_loop5 (fun (i : Nat) (ts : List T) (τ : Hp) (Kv Kd : List (Nat × Obj)) => [(0, .slice p ls.length c), (5, .pointer (some ⟨bv, 0, none⟩)), (6, .pointer (some ⟨bd, 0, none⟩)), (7, .int .i64 (i : Int))]) (fun i ts τ Kv Kd => i ≤ ls.length ∧ Le σ τ ∧ Fresh σ τ w ∧ VaultK 80 32 bv ts τ Kv ∧ RefK 63 32 bd ts τ Kd) (fun i ts τ Kv Kd => τ) (fun i ts τ Kv Kd => Kv ++ Kd) (fun i _ _ _ _ => ls.length - i) 0 [] σ4 K4 [(bd, .cells #[.slice none 0 0] 63)] (subL_cons (lkv rfl (by first | rfl | simp)) (subL_cons (lkv rfl (by first | rfl | simp)) (subL_cons (lkv rfl (by first | rfl | simp)) (subL_cons (lkv rfl (by first | rfl | simp)) (subL_nil _))))) ⟨Nat.zero_le _, hl4, hf4, hv4, hd4⟩ (fun w h => h) ?_
      intro i ts τj Kv Kd ⟨hlej, hlj, hfj, hvj, hdj⟩
      refine cw_seq ?_
      refine cw_seq ?_
      refine cw_region ?_
      refine ow_val rfl rfl (ex_move rfl) ?_
      refine ow_val rfl rfl (ex_move rfl) ?_
      refine ow_val rfl rfl (ex_len (ty := 0) rfl) ?_
      refine ow_val rfl rfl (ex_lss rfl rfl) ?_
      refine ow_nil ?_
      refine qw_seq ?_
      refine cw_cond rfl (fun c25 => ?_) (fun c25 => ?_)
      ·
        refine cw_skip ?_
        refine qw_seq ?_
        refine cw_seq ?_
        refine cw_block ?_
        refine cw_seq ?_
        refine cw_seq ?_
        have hlt : i < ls.length := by have := of_decide_eq_true c25; omega
        obtain ⟨bk, f, c', cs, e1, e2, hc1, ht1⟩ := hl.get i hlt
        cases e1
        refine cw_region ?_
        refine ow_val rfl rfl (ex_move rfl) ?_
        refine ow_val rfl rfl (ex_move rfl) ?_
        refine ow_val rfl rfl (ex_index_nat rfl rfl (by omega)) ?_
        refine ow_val rfl rfl (ex_loadR rfl (ld_immT (hc1.le hlj) (ht1.le hlj))) ?_
        refine ow_cv rfl rfl (ex_callf rfl (fun w h => callB ((rParts _ h.im (ht1.le hlj) (by omega) (by omega))))) ?_
        refine ow_val rfl rfl (ex_gtr rfl rfl) ?_
        refine ow_nil ?_
        refine qw_seq ?_
        refine cw_cond rfl (fun c33 => ?_) (fun c33 => ?_)
        ·
          refine cw_seq ?_
          refine cw_region ?_
          refine ow_val rfl rfl (ex_assign rfl) ?_
          refine ow_val rfl rfl (ex_assign rfl) ?_
          refine ow_val rfl rfl (ex_assign rfl) ?_
          refine ow_nil ?_
          refine qw_seq ?_
          refine cw_ret ?_
          refine qw_then_ret ?_
          refine qw_block_ret ?_
          refine qw_then_ret ?_
          refine qw_then_ret ?_
          refine qw_block_ret ?_
          refine qw_then_ret ?_
          refine qw_ret3 rfl rfl rfl rfl (fun w' h => (h.dropG (List.nil_sublist _)).givesK hlj hfj (.inl ⟨rfl, rfl⟩))
        ·
          refine cw_skip ?_
          refine qw_seq ?_
          refine cw_seq ?_
          refine cw_region ?_
          refine ow_val rfl rfl (ex_move rfl) ?_
          refine ow_val rfl rfl (ex_move rfl) ?_
          refine ow_val rfl rfl (ex_move rfl) ?_
          refine ow_val rfl rfl (ex_index_nat rfl rfl (by omega)) ?_
          refine ow_val rfl rfl (ex_loadR rfl (ld_immT (hc1.le hlj) (ht1.le hlj))) ?_
          refine ow_ck rfl rfl (ex_callf rfl (fun w h => pIntern _ h.has (htab.le hlj) hvj (ht1.le hlj))) (fun v40 τ2 K2 hl2 hf2 hr2 => ?_)
          obtain ⟨rfl, hv2⟩ := hr2
          refine ow_val rfl rfl (ex_move rfl) ?_
          refine ow_val rfl rfl (ex_extract rfl rfl) ?_
          refine ow_val rfl rfl (ex_extract rfl rfl) ?_
          refine ow_val rfl rfl (ex_assign rfl) ?_
          refine ow_val rfl rfl (ex_assign rfl) ?_
          refine ow_nil ?_
          refine qw_seq ?_
          refine cw_seq ?_
          refine cw_region ?_
          refine ow_val rfl rfl (ex_move rfl) ?_
          refine ow_val rfl rfl (ex_move rfl) ?_
          refine ow_val rfl rfl (ex_move rfl) ?_
          refine ow_val rfl rfl (ex_index_nat rfl rfl (by omega)) ?_
          refine ow_val rfl rfl (ex_loadR rfl (ld_immT (hc1.le (hlj.trans hl2)) (ht1.le (hlj.trans hl2)))) ?_
          refine ow_mono (fun w h => h.permG List.perm_append_comm) ?_
          refine ow_ck rfl rfl (ex_callf rfl (fun w h => rIntern _ h.has (hdj.le hl2) (ht1.le (hlj.trans hl2)))) (fun v49 τ3 K3 hl3 hf3 hr3 => ?_)
          obtain ⟨rfl, hd3⟩ := hr3
          refine ow_mono (fun w h => h.permG List.perm_append_comm) ?_
          refine ow_val rfl rfl (ex_move rfl) ?_
          refine ow_val rfl rfl (ex_extract rfl rfl) ?_
          refine ow_val rfl rfl (ex_extract rfl rfl) ?_
          refine ow_val rfl rfl (ex_assign rfl) ?_
          refine ow_val rfl rfl (ex_assign rfl) ?_
          refine ow_nil ?_
          refine qw_seq ?_
          refine cw_seq ?_
          refine cw_region ?_
          refine ow_val rfl rfl (ex_move rfl) ?_
          refine ow_val rfl rfl (ex_move rfl) ?_
          refine ow_val rfl rfl (ex_neq rfl rfl) ?_
          refine ow_val rfl rfl (ex_move rfl) ?_
          refine ow_split (g := some (3, false)) rfl (fun s55 => ?_) (fun s55 => ?_)
          ·
            simp at s55
          ·
            refine ow_val rfl (gd_go rfl s55) (ex_move rfl) ?_
            refine ow_val rfl (gd_go rfl s55) (ex_move rfl) ?_
            refine ow_val rfl (gd_go rfl s55) (ex_neq rfl rfl) ?_
            refine ow_val rfl rfl (ex_pickf rfl s55 rfl) ?_
            refine ow_nil ?_
            refine qw_seq ?_
            refine cw_cond rfl (fun c59 => ?_) (fun c59 => ?_)
            ·
              simp at c59
            ·
              refine cw_skip ?_
              refine qw_block_normal ?_
              refine qw_seq ?_
              refine cw_region ?_
              refine ow_val rfl rfl (ex_move rfl) ?_
              refine ow_val rfl rfl (ex_addi (z := ((i + 1 : Nat) : Int)) rfl rfl (by omega) (by omega) (by omega)) ?_
              refine ow_val rfl rfl (ex_assign rfl) ?_
              refine ow_nil ?_
              exact qw_round5 (i + 1) (intern ts ls[i]).2.2 τ3 K2 K3 (by omega) (subL_cons (lkv rfl (by first | rfl | simp)) (subL_cons (lkv rfl (by first | rfl | simp)) (subL_cons (lkv rfl (by first | rfl | simp)) (subL_cons (lkv rfl (by first | rfl | simp)) (subL_nil _))))) ⟨by omega, (hlj.trans hl2).trans hl3, (hfj.trans hf2).trans hf3, hv2.le hl3, hd3⟩ (fun w h => h)
      ·
        refine cw_exit ?_
        refine qw_then_exit ?_
        refine qw_then_exit ?_
        refine qw_block_exit ?_
        refine qw_seq ?_
        refine cw_seq ?_
        refine cw_region ?_
        refine ow_val rfl rfl (ex_move rfl) ?_
        refine ow_val rfl rfl (ex_move rfl) ?_
        refine ow_val rfl rfl (ex_assign rfl) ?_
        refine ow_val rfl rfl (ex_assign rfl) ?_
        refine ow_val rfl rfl (ex_assign rfl) ?_
        refine ow_nil ?_
        refine qw_seq ?_
        refine cw_ret ?_
        refine qw_ret3 rfl rfl rfl rfl (fun w' h => h.givesK hlj hfj (.inr ⟨bv, bd, Kv, Kd, ts, rfl, rfl, hvj, hdj⟩))
end Go.Proofs.YtnjomdjkbbhdoaaGreatDoor
namespace Go.Proofs.YtnjomdjkbbhdoaaGreatDoor
open Go.RowKit
set_option linter.unusedVariables false
set_option linter.unusedSimpArgs false
set_option maxRecDepth 100000
theorem bothR {u : Value} {σ' : Hp} {K' : List (Nat × Obj)} (h : (u = .tuple #[.pointer none, .pointer none, .bool false] ∧ K' = []) ∨ ∃ (bv bd : Nat) (Kv Kd : List (Nat × Obj)) (ts : List T), u = .tuple #[.pointer (some ⟨bv, 0, none⟩), .pointer (some ⟨bd, 0, none⟩), .bool true] ∧ K' = Kv ++ Kd ∧ VaultK 80 32 bv ts σ' Kv ∧ RefK 63 32 bd ts σ' Kd) : ∃ pv pd ok, u = .tuple #[.pointer pv, .pointer pd, .bool ok] ∧ (ok = true → ∃ (bv bd : Nat) (Kv Kd : List (Nat × Obj)) (ts : List T), pv = some ⟨bv, 0, none⟩ ∧ pd = some ⟨bd, 0, none⟩ ∧ K' = Kv ++ Kd ∧ VaultK 80 32 bv ts σ' Kv ∧ RefK 63 32 bd ts σ' Kd) := by
  rcases h with ⟨h, _⟩ | ⟨bv, bd, Kv, Kd, ts, h, h1, h2, h3⟩
  · exact ⟨none, none, false, h, fun h => by cases h⟩
  · exact ⟨_, _, true, h, fun _ => ⟨bv, bd, Kv, Kd, ts, rfl, rfl, h1, h2, h3⟩⟩
end Go.Proofs.YtnjomdjkbbhdoaaGreatDoor
namespace Go.Proofs.YtnjomdjkbbhdoaaGreatDoor
open Go.RowKit
set_option linter.unusedVariables false
set_option linter.unusedSimpArgs false
set_option maxRecDepth 100000
set_option maxHeartbeats 2000000 in
theorem rClosure {d : Nat} {sv : Value} {ts : List T} {known : List Int} {kv : Value} {σ σK : Hp} {w : World} (hleK : Le σ σK) (hi : Imm σK w) (hc0 : CellsAt σK d 0 [sv]) (hks : KidsV σK sv ts) (hI : TabI ts) (hfw : ts.length ≤ 4096) (hk : IntsV σ kv known) (hkl : known.length ≤ 1000000) : Calls Tryz.prog 39 #[.pointer (some ⟨d, 0, none⟩), kv] w (GiveR (RepI (closL (itemsT ts) known)) σ w) := by
  obtain ⟨pk, ck, rfl, hck, hsk⟩ := hk
  have hks0 := hks
  obtain ⟨psv, csv, rfl, _, _⟩ := hks.slice
  refine enter (St w (fun _ => False) σK [] []) Tryz.func39 rfl Tryz.ntmps39 rfl (St.start hi) ?_
  refine cw_seq ?_
  refine cw_region ?_
  refine ow_val rfl rfl (ex_assign rfl) ?_
  refine ow_nil ?_
  refine qw_seq ?_
  refine cw_seq ?_
  refine cw_region ?_
  refine ow_val rfl rfl (ex_move rfl) ?_
  refine ow_val rfl rfl (ex_nilck rfl) ?_
  refine ow_val rfl rfl (ex_field rfl) ?_
  refine ow_val rfl rfl (ex_load1 rfl (ld_imm1 hc0)) ?_
  refine ow_val rfl rfl (ex_len (ty := 0) rfl) ?_
  refine ow_mkbools rfl rfl (exw_mkbools rfl rfl (by omega)) ?_; intro hb
  refine ow_val rfl rfl (ex_assign rfl) ?_
  refine ow_nil ?_
  refine qw_seq ?_
  refine cw_seq ?_
  refine cw_seq ?_
  refine cw_region ?_
  refine ow_val rfl rfl (ex_assign rfl) ?_
  refine ow_nil ?_
  refine qw_seq ?_
  refine cw_block ?_
  refine cw_loopH2 (fun (i : Nat) (had : List Bool) => [(0, .pointer (some ⟨d, 0, none⟩)), (1, .slice pk known.length ck), (5, .slice (some ⟨hb, 0, none⟩) ts.length ts.length), (6, .int .i64 (i : Int))]) (fun i had => i ≤ known.length ∧ Sound (itemsT ts) known had ∧ ∀ j (h : j < known.length), j < i → 0 ≤ known[j] → known[j] < (ts.length : Int) → hadAt had known[j] = true) (fun i had => σK) (fun i had => [(hb, hadO 4 had)]) (fun i had => []) (fun i _ => known.length - i) 0 (List.replicate ts.length false) (subL_cons (lkv rfl (by first | rfl | simp)) (subL_cons (lkv rfl (by first | rfl | simp)) (subL_cons (lkv rfl (by first | rfl | simp)) (subL_cons (lkv rfl (by first | rfl | simp)) (subL_nil _))))) ⟨Nat.zero_le _, by have := sound0 (itemsT ts) known; rwa [itemsT_len] at this, fun j _ h => absurd h (Nat.not_lt_zero _)⟩ (fun w h => h) ?_
  intro i had ⟨hlei, hso, hkk⟩
  have hsl : had.length = ts.length := by have := hso.1; rwa [itemsT_len] at this
  refine cw_seq ?_
  refine cw_seq ?_
  refine cw_region ?_
  refine ow_val rfl rfl (ex_move rfl) ?_
  refine ow_val rfl rfl (ex_move rfl) ?_
  refine ow_val rfl rfl (ex_len (ty := 0) rfl) ?_
  refine ow_val rfl rfl (ex_lss rfl rfl) ?_
  refine ow_nil ?_
  refine qw_seq ?_
  refine cw_cond rfl (fun c19 => ?_) (fun c19 => ?_)
  ·
    have hlt : i < known.length := by have := of_decide_eq_true c19; omega
    obtain ⟨bk, ok, rfl, hcs⟩ := hsk.resolve_left (fun hn => by subst hn; simp at hlt)
    have hca := hcs.le hleK
    refine cw_skip ?_
    refine qw_seq ?_
    refine cw_seq ?_
    refine cw_block ?_
    refine cw_seq ?_
    refine cw_region ?_
    refine ow_val rfl rfl (ex_move rfl) ?_
    refine ow_val rfl rfl (ex_move rfl) ?_
    refine ow_val rfl rfl (ex_index_nat (i := i) rfl rfl hlt) ?_
    refine ow_val rfl rfl (ex_load1 rfl (ld_imm1 (hca.int hlt))) ?_
    refine ow_val rfl rfl (ex_geq rfl rfl) ?_
    refine ow_val rfl rfl (ex_move rfl) ?_
    refine ow_split (g := some (5, true)) rfl (fun s27 => ?_) (fun s27 => ?_)
    ·
      have q0 := of_decide_eq_true s27
      refine ow_val rfl (gd_go rfl s27) (ex_move rfl) ?_
      refine ow_val rfl (gd_go rfl s27) (ex_move rfl) ?_
      refine ow_val rfl (gd_go rfl s27) (ex_index_nat (i := i) rfl rfl hlt) ?_
      refine ow_val rfl (gd_go rfl s27) (ex_load1 rfl (ld_imm1 (hca.int hlt))) ?_
      refine ow_val rfl (gd_go rfl s27) (ex_move rfl) ?_
      refine ow_val rfl (gd_go rfl s27) (ex_len (ty := 0) rfl) ?_
      refine ow_val rfl (gd_go rfl s27) (ex_lss rfl rfl) ?_
      refine ow_val rfl rfl (ex_pickt rfl s27 rfl) ?_
      refine ow_nil ?_
      refine qw_seq ?_
      refine cw_cond rfl (fun c35 => ?_) (fun c35 => ?_)
      ·
        have q1 := of_decide_eq_true c35
        refine cw_region ?_
        refine ow_val rfl rfl (ex_move rfl) ?_
        refine ow_val rfl rfl (ex_move rfl) ?_
        refine ow_val rfl rfl (ex_move rfl) ?_
        refine ow_val rfl rfl (ex_index_nat (i := i) rfl rfl hlt) ?_
        refine ow_val rfl rfl (ex_load1 rfl (ld_imm1 (hca.int hlt))) ?_
        refine ow_val rfl rfl (ex_index rfl rfl q0 q1) ?_
        refine ow_u rfl (exu_bool (i := known[i].toNat) 0 rfl rfl rfl (by omega)) ?_
        refine ow_nil ?_
        refine qw_block_normal ?_
        refine qw_seq ?_
        refine cw_region ?_
        refine ow_val rfl rfl (ex_move rfl) ?_
        refine ow_val rfl rfl (ex_addi (z := ((i + 1 : Nat) : Int)) rfl rfl (by omega) (by omega) (by omega)) ?_
        refine ow_val rfl rfl (ex_assign rfl) ?_
        refine ow_nil ?_
        first
        | exact qw_roundH2 (i + 1) (had.set known[i].toNat true) (by omega) (subL_cons (lkv rfl (by first | rfl | simp)) (subL_cons (lkv rfl (by first | rfl | simp)) (subL_cons (lkv rfl (by first | rfl | simp)) (subL_cons (lkv rfl (by first | rfl | simp)) (subL_nil _))))) ⟨by omega, hso.set (had_inK (List.getElem_mem hlt) q0 (by rw [itemsT_len]; exact q1)), fun j hj hji h0 h1 => by
            by_cases e : j = i
            · subst e
              unfold hadAt
              rw [getD_set (by omega)]; simp
            · exact HadLe.set _ _ _ (hkk j hj (by omega) h0 h1)⟩ (fun w h => h)
        | exact qw_roundH2 (i + 1) had (by omega) (subL_cons (lkv rfl (by first | rfl | simp)) (subL_cons (lkv rfl (by first | rfl | simp)) (subL_cons (lkv rfl (by first | rfl | simp)) (subL_cons (lkv rfl (by first | rfl | simp)) (subL_nil _))))) ⟨by omega, hso, fun j hj hji h0 h1 => by
            by_cases e : j = i
            · subst e; exact absurd h1 (by omega)
            · exact hkk j hj (by omega) h0 h1⟩ (fun w h => h)
      ·
        have q1 := of_decide_eq_false c35
        refine cw_skip ?_
        refine qw_block_normal ?_
        refine qw_seq ?_
        refine cw_region ?_
        refine ow_val rfl rfl (ex_move rfl) ?_
        refine ow_val rfl rfl (ex_addi (z := ((i + 1 : Nat) : Int)) rfl rfl (by omega) (by omega) (by omega)) ?_
        refine ow_val rfl rfl (ex_assign rfl) ?_
        refine ow_nil ?_
        first
        | exact qw_roundH2 (i + 1) (had.set known[i].toNat true) (by omega) (subL_cons (lkv rfl (by first | rfl | simp)) (subL_cons (lkv rfl (by first | rfl | simp)) (subL_cons (lkv rfl (by first | rfl | simp)) (subL_cons (lkv rfl (by first | rfl | simp)) (subL_nil _))))) ⟨by omega, hso.set (had_inK (List.getElem_mem hlt) q0 (by rw [itemsT_len]; exact q1)), fun j hj hji h0 h1 => by
            by_cases e : j = i
            · subst e
              unfold hadAt
              rw [getD_set (by omega)]; simp
            · exact HadLe.set _ _ _ (hkk j hj (by omega) h0 h1)⟩ (fun w h => h)
        | exact qw_roundH2 (i + 1) had (by omega) (subL_cons (lkv rfl (by first | rfl | simp)) (subL_cons (lkv rfl (by first | rfl | simp)) (subL_cons (lkv rfl (by first | rfl | simp)) (subL_cons (lkv rfl (by first | rfl | simp)) (subL_nil _))))) ⟨by omega, hso, fun j hj hji h0 h1 => by
            by_cases e : j = i
            · subst e; exact absurd h1 (by omega)
            · exact hkk j hj (by omega) h0 h1⟩ (fun w h => h)
    ·
      have q0 := of_decide_eq_false s27
      refine ow_skip rfl (gd_no rfl s27) ?_
      refine ow_skip rfl (gd_no rfl s27) ?_
      refine ow_skip rfl (gd_no rfl s27) ?_
      refine ow_skip rfl (gd_no rfl s27) ?_
      refine ow_skip rfl (gd_no rfl s27) ?_
      refine ow_skip rfl (gd_no rfl s27) ?_
      refine ow_skip rfl (gd_no rfl s27) ?_
      refine ow_val rfl rfl (ex_pickf rfl s27 rfl) ?_
      refine ow_nil ?_
      refine qw_seq ?_
      refine cw_cond_f rfl ?_
      refine cw_skip ?_
      refine qw_block_normal ?_
      refine qw_seq ?_
      refine cw_region ?_
      refine ow_val rfl rfl (ex_move rfl) ?_
      refine ow_val rfl rfl (ex_addi (z := ((i + 1 : Nat) : Int)) rfl rfl (by omega) (by omega) (by omega)) ?_
      refine ow_val rfl rfl (ex_assign rfl) ?_
      refine ow_nil ?_
      first
      | exact qw_roundH2 (i + 1) (had.set known[i].toNat true) (by omega) (subL_cons (lkv rfl (by first | rfl | simp)) (subL_cons (lkv rfl (by first | rfl | simp)) (subL_cons (lkv rfl (by first | rfl | simp)) (subL_cons (lkv rfl (by first | rfl | simp)) (subL_nil _))))) ⟨by omega, hso.set (had_inK (List.getElem_mem hlt) q0 (by rw [itemsT_len]; exact q1)), fun j hj hji h0 h1 => by
          by_cases e : j = i
          · subst e
            unfold hadAt
            rw [getD_set (by omega)]; simp
          · exact HadLe.set _ _ _ (hkk j hj (by omega) h0 h1)⟩ (fun w h => h)
      | exact qw_roundH2 (i + 1) had (by omega) (subL_cons (lkv rfl (by first | rfl | simp)) (subL_cons (lkv rfl (by first | rfl | simp)) (subL_cons (lkv rfl (by first | rfl | simp)) (subL_cons (lkv rfl (by first | rfl | simp)) (subL_nil _))))) ⟨by omega, hso, fun j hj hji h0 h1 => by
          by_cases e : j = i
          · subst e; exact absurd h1 (by omega)
          · exact hkk j hj (by omega) h0 h1⟩ (fun w h => h)
  ·
    have hei : i = known.length := by have := of_decide_eq_false c19; omega
    have hkn : KnownIn known had := fun k hk h0 h1 => by
      obtain ⟨j, hj, rfl⟩ := List.mem_iff_getElem.1 hk
      exact hkk j hj (by omega) h0 (by omega)
    refine cw_exit ?_
    refine qw_then_exit ?_
    refine qw_then_exit ?_
    refine qw_block_exit ?_
    refine qw_seq ?_
    refine cw_seq ?_
    refine cw_region ?_
    refine ow_val rfl rfl (ex_assign rfl) ?_
    refine ow_nil ?_
    refine qw_seq ?_
    refine cw_seq ?_
    refine cw_block ?_
    refine cw_loopH3 (fun (had : List Bool) (more : Bool) (τ : Hp) => [(0, .pointer (some ⟨d, 0, none⟩)), (5, .slice (some ⟨hb, 0, none⟩) ts.length ts.length), (7, .bool more)]) (fun had more τ => Sound (itemsT ts) known had ∧ KnownIn known had ∧ (more = false → Closed (itemsT ts) had) ∧ Le σK τ) (fun _ _ τ => τ) (fun had _ _ => [(hb, hadO 4 had)]) (fun _ _ _ => []) (fun had more _ => 2 * left had + (if more = true then 1 else 0)) had true σK (subL_cons (lkv rfl (by first | rfl | simp)) (subL_cons (lkv rfl (by first | rfl | simp)) (subL_cons (lkv rfl (by first | rfl | simp)) (subL_nil _)))) ⟨hso, hkn, (fun h => by cases h), Le.refl _⟩ (fun w h => h) ?_
    clear hkn hei hkk hsl hso hlei
    intro had more τ ⟨hso, hkn, hcm, hlj⟩
    refine cw_seq ?_
    refine cw_seq ?_
    refine cw_region ?_
    refine ow_val rfl rfl (ex_move rfl) ?_
    refine ow_nil ?_
    refine qw_seq ?_
    refine cw_cond rfl (fun c42 => ?_) (fun c42 => ?_)
    ·
      have qm : more = true := c42
      refine cw_skip ?_
      refine qw_seq ?_
      refine cw_block ?_
      refine cw_region ?_
      refine ow_val rfl rfl (ex_move rfl) ?_
      refine ow_val rfl rfl (ex_move rfl) ?_
      refine ow_mono (fun w h => St.flip h) ?_
      refine ow_ckE rfl rfl (ex_callf rfl (fun w h => rStep h.hasE (hc0.le hlj) (hks0.le hlj) hI hfw hso)) (fun v45 τ2 K2 hl2 hf2 hr2 => ?_)
      obtain ⟨had2, more2, rfl, rfl, hst⟩ := hr2
      obtain ⟨hs1, hs2, hs3, hs4⟩ := hst
      refine ow_mono (fun w h => St.flip h) ?_
      refine ow_val rfl rfl (ex_assign rfl) ?_
      refine ow_nil ?_
      refine qw_block_normal ?_
      refine qw_roundH3 had2 more2 τ2 ?_ (subL_cons (lkv rfl (by first | rfl | simp)) (subL_cons (lkv rfl (by first | rfl | simp)) (subL_cons (lkv rfl (by first | rfl | simp)) (subL_nil _)))) ⟨hs1, fun k hk h0 h1 => hs2 _ (hkn k hk h0 (by have := hs1.1; have := hso.1; omega)), fun h => by rw [(hs3 h).1]; exact (hs3 h).2, hlj.trans hl2⟩ (fun w h => h)
      cases more2 with
      | false => rw [(hs3 rfl).1, qm]; simp
      | true => have := hs4 rfl; rw [qm]; simp; omega
    ·
      have qm : more = false := c42
      have hcl := hcm qm
      have hsl : had.length = ts.length := by have := hso.1; rwa [itemsT_len] at this
      refine cw_exit ?_
      refine qw_then_exit ?_
      refine qw_then_exit ?_
      refine qw_block_exit ?_
      refine qw_seq ?_
      refine cw_seq ?_
      refine cw_region ?_
      refine ow_val rfl rfl (ex_assign rfl) ?_
      refine ow_nil ?_
      refine qw_seq ?_
      refine cw_seq ?_
      refine cw_seq ?_
      refine cw_region ?_
      refine ow_val rfl rfl (ex_assign rfl) ?_
      refine ow_nil ?_
      refine qw_seq ?_
      refine cw_block ?_
      refine cw_loop3 (fun (i : Nat) (v8 : Value) (Gs : List (Nat × Obj)) => [(5, .slice (some ⟨hb, 0, none⟩) ts.length ts.length), (8, v8), (9, .int .i64 (i : Int))]) (fun i v8 Gs => i ≤ ts.length ∧ OwnSl 3 1 v8 (outB 0 (had.take i)).length (intsV (outB 0 (had.take i))) Gs) (fun i v8 Gs => τ) (fun i v8 Gs => Gs) (fun i _ _ => ts.length - i) 0 (.slice none 0 0) [] (subL_cons (lkv rfl (by first | rfl | simp)) (subL_cons (lkv rfl (by first | rfl | simp)) (subL_cons (lkv rfl (by first | rfl | simp)) (subL_nil _)))) ⟨Nat.zero_le _, by simpa [outB, intsV] using OwnSl.nil 3 1⟩ (fun w h => h) ?_
      intro i v8 Gs ⟨hlei, hO⟩
      refine cw_seq ?_
      refine cw_seq ?_
      refine cw_region ?_
      refine ow_val rfl rfl (ex_move rfl) ?_
      refine ow_val rfl rfl (ex_move rfl) ?_
      refine ow_val rfl rfl (ex_len (ty := 0) rfl) ?_
      refine ow_val rfl rfl (ex_lss rfl rfl) ?_
      refine ow_nil ?_
      refine qw_seq ?_
      refine cw_cond rfl (fun c49 => ?_) (fun c49 => ?_)
      ·
        have hlt : i < ts.length := by have := of_decide_eq_true c49; omega
        have hol := outB_len (had.take i) 0
        rw [List.length_take] at hol
        refine cw_skip ?_
        refine qw_seq ?_
        refine cw_seq ?_
        refine cw_block ?_
        refine cw_seq ?_
        refine cw_region ?_
        refine ow_val rfl rfl (ex_move rfl) ?_
        refine ow_val rfl rfl (ex_move rfl) ?_
        refine ow_val rfl rfl (ex_index_nat (i := i) rfl rfl hlt) ?_
        refine ow_val rfl rfl (ex_load1 rfl (ld_had 0 rfl (by omega))) ?_
        refine ow_nil ?_
        refine qw_seq ?_
        refine cw_cond rfl (fun c55 => ?_) (fun c55 => ?_)
        ·
          refine cw_region ?_
          refine ow_val rfl rfl (ex_move rfl) ?_
          refine ow_val rfl rfl (ex_move rfl) ?_
          refine ow_slit rfl rfl (exw_slit1 rfl rfl) ?_; intro b58
          refine ow_app1 rfl rfl (exw_append1 (news := [.int .i64 (i : Int)]) rfl rfl hO rfl (.inr ⟨_, _, rfl, (ld_ownN (k := 1) 0 rfl rfl).2⟩) (fun u hu => by simp at hu; subst hu; rfl) (by unfold maxLen; omega) (by omega)) (fun v59 G59 hO59 hz59 => ?_)
          refine ow_val rfl rfl (ex_assign rfl) ?_
          refine ow_nil ?_
          refine qw_block_normal ?_
          refine qw_seq ?_
          refine cw_region ?_
          refine ow_val rfl rfl (ex_move rfl) ?_
          refine ow_val rfl rfl (ex_addi (z := ((i + 1 : Nat) : Int)) rfl rfl (by omega) (by omega) (by omega)) ?_
          refine ow_val rfl rfl (ex_assign rfl) ?_
          refine ow_nil ?_
          first
          | (refine qw_round3 (i + 1) v59 G59 (by omega) (subL_cons (lkv rfl (by first | rfl | simp)) (subL_cons (lkv rfl (by first | rfl | simp)) (subL_cons (lkv rfl (by first | rfl | simp)) (subL_nil _)))) ⟨by omega, ?_⟩ (fun w h => h.drop (List.sublist_cons_self _ _)); rw [outB_step (by omega), if_pos c55, intsV_app, List.length_append]; exact hO59)
          | (refine qw_round3 (i + 1) v8 Gs (by omega) (subL_cons (lkv rfl (by first | rfl | simp)) (subL_cons (lkv rfl (by first | rfl | simp)) (subL_cons (lkv rfl (by first | rfl | simp)) (subL_nil _)))) ⟨by omega, ?_⟩ (fun w h => h); rw [outB_step (by omega), if_neg (by rw [c55]; decide), List.append_nil]; exact hO)
        ·
          refine cw_skip ?_
          refine qw_block_normal ?_
          refine qw_seq ?_
          refine cw_region ?_
          refine ow_val rfl rfl (ex_move rfl) ?_
          refine ow_val rfl rfl (ex_addi (z := ((i + 1 : Nat) : Int)) rfl rfl (by omega) (by omega) (by omega)) ?_
          refine ow_val rfl rfl (ex_assign rfl) ?_
          refine ow_nil ?_
          first
          | (refine qw_round3 (i + 1) v59 G59 (by omega) (subL_cons (lkv rfl (by first | rfl | simp)) (subL_cons (lkv rfl (by first | rfl | simp)) (subL_cons (lkv rfl (by first | rfl | simp)) (subL_nil _)))) ⟨by omega, ?_⟩ (fun w h => h.drop (List.sublist_cons_self _ _)); rw [outB_step (by omega), if_pos c55, intsV_app, List.length_append]; exact hO59)
          | (refine qw_round3 (i + 1) v8 Gs (by omega) (subL_cons (lkv rfl (by first | rfl | simp)) (subL_cons (lkv rfl (by first | rfl | simp)) (subL_cons (lkv rfl (by first | rfl | simp)) (subL_nil _)))) ⟨by omega, ?_⟩ (fun w h => h); rw [outB_step (by omega), if_neg (by rw [c55]; decide), List.append_nil]; exact hO)
      ·
        refine cw_exit ?_
        refine qw_then_exit ?_
        refine qw_then_exit ?_
        refine qw_block_exit ?_
        refine qw_seq ?_
        refine cw_seq ?_
        have hei2 : i = ts.length := by have := of_decide_eq_false c49; omega
        rw [List.take_of_length_le (by omega)] at hO
        refine cw_mono (S' := St w (fun _ => False) τ [(hb, hadO 4 had)] (Gs ++ [])) (fun w h => by simpa using h) ?_
        refine cw_frzIs (hleK.trans hlj) hO (fun τ4 σ4 q1 q2 q3 q4 q5 => ?_)
        have q5' := q5
        obtain ⟨p5, c5, rfl, _, _⟩ := q5'
        refine cw_region ?_
        refine ow_val rfl rfl (ex_move rfl) ?_
        refine ow_val rfl rfl (ex_assign rfl) ?_
        refine ow_nil ?_
        refine qw_seq ?_
        refine cw_ret ?_
        refine qw_ret1 rfl rfl (fun w' h => ?_)
        rw [← Clos.closL (clos_out hso hcl hkn)]
        exact h.givesS q4 q2 q3 q5
set_option maxHeartbeats 2000000 in
theorem rCan {dd : List UInt8} {dv : Value} {d : Nat} {sv : Value} {ts : List T} {known : List Int} {kv : Value} {σ σK : Hp} {w : World} (hleK : Le σ σK) (hi : Imm σK w) (hc0 : CellsAt σK d 0 [sv]) (hks : KidsV σK sv ts) (hI : TabI ts) (hfw : ts.length ≤ 4096) (hk : IntsV σ kv known) (hkl : known.length ≤ 1000000) (hd : BytesV σ dv dd) (hdl : dd.length ≤ 17592186044415) : Calls Tryz.prog 40 #[.pointer (some ⟨d, 0, none⟩), kv, dv] w fun e w' => e = .returned (.bool (canB ts known dd)) ∧ Below w.heap.size w w' := by
  have hk0 := hk
  obtain ⟨pk, ck, rfl, hck, hsk⟩ := hk
  have hks0 := hks
  obtain ⟨psv, csv, rfl, _, _⟩ := hks.slice
  have hla := closL_len ts known
  have hml := mentS_len dd (ts.length : Int)
  refine enter (St w (fun _ => False) σK [] []) Tryz.func40 rfl Tryz.ntmps40 rfl (St.start hi) ?_
  refine cw_seq ?_
  refine cw_region ?_
  refine ow_val rfl rfl (ex_assign rfl) ?_
  refine ow_nil ?_
  refine qw_seq ?_
  refine cw_seq ?_
  refine cw_region ?_
  refine ow_val rfl rfl (ex_move rfl) ?_
  refine ow_val rfl rfl (ex_move rfl) ?_
  refine ow_cr rfl rfl (ex_callf rfl (fun w h => callR (rClosure (Le.refl _) h.im hc0 hks0 hI hfw (hk0.le hleK) hkl))) (fun v14 τ hl1 hf1 hr1 => ?_)
  have hr1' := hr1
  obtain ⟨pa, ca, rfl, _, hsa⟩ := hr1'
  refine ow_val rfl rfl (ex_assign rfl) ?_
  refine ow_nil ?_
  refine qw_seq ?_
  refine cw_seq ?_
  refine cw_region ?_
  refine ow_val rfl rfl (ex_move rfl) ?_
  refine ow_val rfl rfl (ex_move rfl) ?_
  refine ow_val rfl rfl (ex_nilck rfl) ?_
  refine ow_val rfl rfl (ex_field rfl) ?_
  refine ow_val rfl rfl (ex_load1 rfl (ld_imm1 (hc0.le hl1))) ?_
  refine ow_val rfl rfl (ex_len (ty := 0) rfl) ?_
  refine ow_cr rfl rfl (ex_callf rfl (fun w h => callR (rMentions h.im ((hd.le hleK).le hl1) hdl))) (fun v21 τ2 hl2 hf2 hr2 => ?_)
  have hr2' := hr2
  obtain ⟨pm, cm, rfl, _, hsm⟩ := hr2'
  refine ow_val rfl rfl (ex_assign rfl) ?_
  refine ow_nil ?_
  refine qw_seq ?_
  refine cw_seq ?_
  refine cw_seq ?_
  refine cw_region ?_
  refine ow_val rfl rfl (ex_assign rfl) ?_
  refine ow_nil ?_
  refine qw_seq ?_
  refine cw_block ?_
  refine cw_loopS (α := Nat) (fun i => [(7, .slice pa (closL (itemsT ts) known).length ca), (8, .slice pm (mentS dd (ts.length : Int)).length cm), (9, .int .i64 (i : Int))]) (fun i => i ≤ (mentS dd (ts.length : Int)).length ∧ ∀ j (h : j < (mentS dd (ts.length : Int)).length), j < i → (mentS dd (ts.length : Int))[j] ∈ (closL (itemsT ts) known)) (fun i => (mentS dd (ts.length : Int)).length - i) 0 (subL_cons (lkv rfl (by first | rfl | simp)) (subL_cons (lkv rfl (by first | rfl | simp)) (subL_cons (lkv rfl (by first | rfl | simp)) (subL_nil _)))) ⟨Nat.zero_le _, fun j _ h => absurd h (Nat.not_lt_zero _)⟩ ?_
  intro i ⟨hle, hzz⟩
  refine cw_seq ?_
  refine cw_seq ?_
  refine cw_region ?_
  refine ow_val rfl rfl (ex_move rfl) ?_
  refine ow_val rfl rfl (ex_move rfl) ?_
  refine ow_val rfl rfl (ex_len (ty := 0) rfl) ?_
  refine ow_val rfl rfl (ex_lss rfl rfl) ?_
  refine ow_nil ?_
  refine qw_seq ?_
  refine cw_cond rfl (fun c25 => ?_) (fun c25 => ?_)
  ·
    have hlt : i < (mentS dd (ts.length : Int)).length := by have := of_decide_eq_true c25; omega
    obtain ⟨bm, om, rfl, hcM⟩ := IntsV.src hr2 (by omega)
    refine cw_skip ?_
    refine qw_seq ?_
    refine cw_seq ?_
    refine cw_block ?_
    refine cw_seq ?_
    refine cw_region ?_
    refine ow_val rfl rfl (ex_assign rfl) ?_
    refine ow_nil ?_
    refine qw_seq ?_
    refine cw_seq ?_
    refine cw_seq ?_
    refine cw_region ?_
    refine ow_val rfl rfl (ex_assign rfl) ?_
    refine ow_nil ?_
    refine qw_seq ?_
    refine cw_block ?_
    refine cw_loopS (α := Nat) (fun k => [(7, .slice pa (closL (itemsT ts) known).length ca), (8, .slice (some ⟨bm, om, none⟩) (mentS dd (ts.length : Int)).length cm), (9, .int .i64 (i : Int)), (10, .bool (decide ((mentS dd (ts.length : Int))[i] ∈ (closL (itemsT ts) known).take k))), (11, .int .i64 (k : Int))]) (fun k => k ≤ (closL (itemsT ts) known).length) (fun k => (closL (itemsT ts) known).length - k) 0 (subL_cons (lkv rfl (by first | rfl | simp)) (subL_cons (lkv rfl (by first | rfl | simp)) (subL_cons (lkv rfl (by first | rfl | simp)) (subL_cons (lkv rfl (by first | rfl | simp)) (subL_cons (lkv rfl (by first | rfl | simp)) (subL_nil _)))))) (Nat.zero_le _) ?_
    intro k hlek
    refine cw_seq ?_
    refine cw_seq ?_
    refine cw_region ?_
    refine ow_val rfl rfl (ex_move rfl) ?_
    refine ow_val rfl rfl (ex_move rfl) ?_
    refine ow_val rfl rfl (ex_len (ty := 0) rfl) ?_
    refine ow_val rfl rfl (ex_lss rfl rfl) ?_
    refine ow_nil ?_
    refine qw_seq ?_
    refine cw_cond rfl (fun c31 => ?_) (fun c31 => ?_)
    ·
      have hkl9 : k < (closL (itemsT ts) known).length := by have := of_decide_eq_true c31; omega
      obtain ⟨ba, oa, rfl, hcA0⟩ := IntsV.src hr1 (by omega)
      have hcA := hcA0.le hl2
      refine cw_skip ?_
      refine qw_seq ?_
      refine cw_seq ?_
      refine cw_block ?_
      refine flow_sound 12 (by kernel_rfl) ?_
      refine flow_val rfl (ex_move rfl) ?_
      refine flow_val rfl (ex_move rfl) ?_
      refine flow_split rfl (fun s35 => ?_) (fun s35 => ?_)
      ·
        refine flow_skip (gd_no rfl s35) ?_
        refine flow_skip (gd_no rfl s35) ?_
        refine flow_skip (gd_no rfl s35) ?_
        refine flow_skip (gd_no rfl s35) ?_
        refine flow_skip (gd_no rfl s35) ?_
        refine flow_skip (gd_no rfl s35) ?_
        refine flow_skip (gd_no rfl s35) ?_
        refine flow_skip (gd_no rfl s35) ?_
        refine flow_skip (gd_no rfl s35) ?_
        refine flow_val rfl (ex_pickt rfl s35 rfl) ?_
        refine flow_nil ?_
        refine fin_is ?_
        refine fin_is ?_
        refine fin_is ?_
        refine fin_is ?_
        refine fin_is ?_
        refine fin_is ?_
        refine fin_is ?_
        refine fin_is ?_
        refine fin_is ?_
        refine fin_is ?_
        refine fin_is ?_
        refine fin_is ?_
        refine fin_nil ?_
        refine ow_val rfl rfl (ex_assign rfl) ?_
        refine ow_nil ?_
        refine qw_block_normal ?_
        refine qw_seq ?_
        refine cw_region ?_
        refine ow_val rfl rfl (ex_move rfl) ?_
        refine ow_val rfl rfl (ex_addi (z := ((k + 1 : Nat) : Int)) rfl rfl (by omega) (by omega) (by omega)) ?_
        refine ow_val rfl rfl (ex_assign rfl) ?_
        refine ow_nil ?_
        exact qw_roundS (k + 1) (by omega) (subL_cons (lkv rfl (by first | rfl | (rw [take_mem hkl9, show decide ((mentS dd (ts.length : Int))[i] ∈ (closL (itemsT ts) known).take k) = true from s35, Bool.true_or]; done) | (rw [take_mem hkl9, show decide ((mentS dd (ts.length : Int))[i] ∈ (closL (itemsT ts) known).take k) = false from s35, Bool.false_or]; done) | simp)) (subL_cons (lkv rfl (by first | rfl | (rw [take_mem hkl9, show decide ((mentS dd (ts.length : Int))[i] ∈ (closL (itemsT ts) known).take k) = true from s35, Bool.true_or]; done) | (rw [take_mem hkl9, show decide ((mentS dd (ts.length : Int))[i] ∈ (closL (itemsT ts) known).take k) = false from s35, Bool.false_or]; done) | simp)) (subL_cons (lkv rfl (by first | rfl | (rw [take_mem hkl9, show decide ((mentS dd (ts.length : Int))[i] ∈ (closL (itemsT ts) known).take k) = true from s35, Bool.true_or]; done) | (rw [take_mem hkl9, show decide ((mentS dd (ts.length : Int))[i] ∈ (closL (itemsT ts) known).take k) = false from s35, Bool.false_or]; done) | simp)) (subL_cons (lkv rfl (by first | rfl | (rw [take_mem hkl9, show decide ((mentS dd (ts.length : Int))[i] ∈ (closL (itemsT ts) known).take k) = true from s35, Bool.true_or]; done) | (rw [take_mem hkl9, show decide ((mentS dd (ts.length : Int))[i] ∈ (closL (itemsT ts) known).take k) = false from s35, Bool.false_or]; done) | simp)) (subL_cons (lkv rfl (by first | rfl | (rw [take_mem hkl9, show decide ((mentS dd (ts.length : Int))[i] ∈ (closL (itemsT ts) known).take k) = true from s35, Bool.true_or]; done) | (rw [take_mem hkl9, show decide ((mentS dd (ts.length : Int))[i] ∈ (closL (itemsT ts) known).take k) = false from s35, Bool.false_or]; done) | simp)) (subL_nil _)))))) (by omega)
      ·
        refine flow_val (gd_go rfl s35) (ex_move rfl) ?_
        refine flow_val (gd_go rfl s35) (ex_move rfl) ?_
        refine flow_val (gd_go rfl s35) (ex_index_nat (i := k) rfl rfl hkl9) ?_
        refine flow_val (gd_go rfl s35) (ex_load1 rfl (ld_imm1 (hcA.intD hkl9))) ?_
        refine flow_val (gd_go rfl s35) (ex_move rfl) ?_
        refine flow_val (gd_go rfl s35) (ex_move rfl) ?_
        refine flow_val (gd_go rfl s35) (ex_index_nat (i := i) rfl rfl hlt) ?_
        refine flow_val (gd_go rfl s35) (ex_load1 rfl (ld_imm1 (hcM.int hlt))) ?_
        refine flow_val (gd_go rfl s35) (ex_eql rfl rfl) ?_
        refine flow_val rfl (ex_pickf rfl s35 rfl) ?_
        refine flow_nil ?_
        refine fin_is ?_
        refine fin_is ?_
        refine fin_is ?_
        refine fin_is ?_
        refine fin_is ?_
        refine fin_is ?_
        refine fin_is ?_
        refine fin_is ?_
        refine fin_is ?_
        refine fin_is ?_
        refine fin_is ?_
        refine fin_is ?_
        refine fin_nil ?_
        refine ow_val rfl rfl (ex_assign rfl) ?_
        refine ow_nil ?_
        refine qw_block_normal ?_
        refine qw_seq ?_
        refine cw_region ?_
        refine ow_val rfl rfl (ex_move rfl) ?_
        refine ow_val rfl rfl (ex_addi (z := ((k + 1 : Nat) : Int)) rfl rfl (by omega) (by omega) (by omega)) ?_
        refine ow_val rfl rfl (ex_assign rfl) ?_
        refine ow_nil ?_
        exact qw_roundS (k + 1) (by omega) (subL_cons (lkv rfl (by first | rfl | (rw [take_mem hkl9, show decide ((mentS dd (ts.length : Int))[i] ∈ (closL (itemsT ts) known).take k) = true from s35, Bool.true_or]; done) | (rw [take_mem hkl9, show decide ((mentS dd (ts.length : Int))[i] ∈ (closL (itemsT ts) known).take k) = false from s35, Bool.false_or]; done) | simp)) (subL_cons (lkv rfl (by first | rfl | (rw [take_mem hkl9, show decide ((mentS dd (ts.length : Int))[i] ∈ (closL (itemsT ts) known).take k) = true from s35, Bool.true_or]; done) | (rw [take_mem hkl9, show decide ((mentS dd (ts.length : Int))[i] ∈ (closL (itemsT ts) known).take k) = false from s35, Bool.false_or]; done) | simp)) (subL_cons (lkv rfl (by first | rfl | (rw [take_mem hkl9, show decide ((mentS dd (ts.length : Int))[i] ∈ (closL (itemsT ts) known).take k) = true from s35, Bool.true_or]; done) | (rw [take_mem hkl9, show decide ((mentS dd (ts.length : Int))[i] ∈ (closL (itemsT ts) known).take k) = false from s35, Bool.false_or]; done) | simp)) (subL_cons (lkv rfl (by first | rfl | (rw [take_mem hkl9, show decide ((mentS dd (ts.length : Int))[i] ∈ (closL (itemsT ts) known).take k) = true from s35, Bool.true_or]; done) | (rw [take_mem hkl9, show decide ((mentS dd (ts.length : Int))[i] ∈ (closL (itemsT ts) known).take k) = false from s35, Bool.false_or]; done) | simp)) (subL_cons (lkv rfl (by first | rfl | (rw [take_mem hkl9, show decide ((mentS dd (ts.length : Int))[i] ∈ (closL (itemsT ts) known).take k) = true from s35, Bool.true_or]; done) | (rw [take_mem hkl9, show decide ((mentS dd (ts.length : Int))[i] ∈ (closL (itemsT ts) known).take k) = false from s35, Bool.false_or]; done) | simp)) (subL_nil _)))))) (by omega)
    ·
      have hke : (closL (itemsT ts) known).take k = (closL (itemsT ts) known) := List.take_of_length_le (by have := of_decide_eq_false c31; omega)
      refine cw_exit ?_
      refine qw_then_exit ?_
      refine qw_then_exit ?_
      refine qw_block_exit ?_
      refine qw_seq ?_
      refine cw_seq ?_
      refine cw_region ?_
      refine ow_val rfl rfl (ex_move rfl) ?_
      refine ow_val rfl rfl (ex_not rfl) ?_
      refine ow_nil ?_
      refine qw_seq ?_
      refine cw_cond rfl (fun c47 => ?_) (fun c47 => ?_)
      ·
        have hmi : (mentS dd (ts.length : Int))[i] ∉ (closL (itemsT ts) known) := by rw [hke] at c47; simpa using c47
        refine cw_seq ?_
        refine cw_region ?_
        refine ow_val rfl rfl (ex_assign rfl) ?_
        refine ow_nil ?_
        refine qw_seq ?_
        refine cw_ret ?_
        refine qw_block_ret ?_
        refine qw_then_ret ?_
        refine qw_then_ret ?_
        refine qw_block_ret ?_
        refine qw_then_ret ?_
        refine qw_ret1 rfl rfl (fun w' h => ⟨congrArg (fun z => Ending.returned (.bool z)) ?_, h.ag.below⟩)
        unfold canB
        rw [List.any_eq_true.2 ⟨(mentS dd (ts.length : Int))[i], List.getElem_mem hlt, by simpa using hmi⟩]
        rfl
      ·
        have hmi : (mentS dd (ts.length : Int))[i] ∈ (closL (itemsT ts) known) := by rw [hke] at c47; simpa using c47
        refine cw_skip ?_
        refine qw_block_normal ?_
        refine qw_seq ?_
        refine cw_region ?_
        refine ow_val rfl rfl (ex_move rfl) ?_
        refine ow_val rfl rfl (ex_addi (z := ((i + 1 : Nat) : Int)) rfl rfl (by omega) (by omega) (by omega)) ?_
        refine ow_val rfl rfl (ex_assign rfl) ?_
        refine ow_nil ?_
        exact qw_roundS (i + 1) (by omega) (subL_cons (lkv rfl (by first | rfl | simp)) (subL_cons (lkv rfl (by first | rfl | simp)) (subL_cons (lkv rfl (by first | rfl | simp)) (subL_nil _)))) ⟨by omega, fun j h hj => by
          by_cases e : j = i
          · subst e; exact hmi
          · exact hzz j h (by omega)⟩
  ·
    refine cw_exit ?_
    refine qw_then_exit ?_
    refine qw_then_exit ?_
    refine qw_block_exit ?_
    refine qw_seq ?_
    refine cw_seq ?_
    refine cw_region ?_
    refine ow_val rfl rfl (ex_assign rfl) ?_
    refine ow_nil ?_
    refine qw_seq ?_
    refine cw_ret ?_
    refine qw_ret1 rfl rfl (fun w' h => ⟨congrArg (fun z => Ending.returned (.bool z)) ?_, h.ag.below⟩)
    unfold canB
    have hany : ((mentS dd (ts.length : Int)).any fun z => !decide (z ∈ (closL (itemsT ts) known))) = false := List.any_eq_false.2 fun z hz => by
      obtain ⟨j, hj, rfl⟩ := List.mem_iff_getElem.1 hz
      have := hzz j hj (by have := of_decide_eq_false c25; omega)
      simpa using this
    rw [hany]
    rfl
theorem rClosureK {b : Nat} {ts : List T} {known : List Int} {kv : Value} {σ : Hp} {K : List (Nat × Obj)} {w : World} (hi : Has σ K w) (hv : RefK 63 32 b ts σ K) (hI : TabI ts) (hk : IntsV σ kv known) (hkl : known.length ≤ 1000000) : Calls Tryz.prog 39 #[.pointer (some ⟨b, 0, none⟩), kv] w (GiveR (RepI (closL (itemsT ts) known)) σ w) :=
  let ⟨_, h1, h2⟩ := hv.seenX hi
  rClosure hi.le hi.exts h1 h2 hI (by obtain ⟨_, _, _, _, _, _, h⟩ := hv; exact h) hk hkl
theorem rCanK {b : Nat} {ts : List T} {known : List Int} {kv dv : Value} {dd : List UInt8} {σ : Hp} {K : List (Nat × Obj)} {w : World} (hi : Has σ K w) (hv : RefK 63 32 b ts σ K) (hI : TabI ts) (hk : IntsV σ kv known) (hkl : known.length ≤ 1000000) (hd : BytesV σ dv dd) (hdl : dd.length ≤ 17592186044415) : Calls Tryz.prog 40 #[.pointer (some ⟨b, 0, none⟩), kv, dv] w fun e w' => e = .returned (.bool (canB ts known dd)) ∧ Below w.heap.size w w' :=
  let ⟨_, h1, h2⟩ := hv.seenX hi
  rCan hi.le hi.exts h1 h2 hI (by obtain ⟨_, _, _, _, _, _, h⟩ := hv; exact h) hk hkl hd hdl
set_option maxHeartbeats 2000000 in
theorem lawCloses (ks : List T) (known : List Int) (dd : List UInt8) {v kv dv : Value} {σ : Hp} {w : World} (hi : Imm σ w) (htab : TabC Tryz.prog σ) (hl : KidsV σ v ks) (hk : IntsV σ kv known) (hd : BytesV σ dv dd) : Calls Tryz.prog 6 #[v, kv, dv] w fun e w' => e = .returned (.bool true) ∧ Below w.heap.size w w' := by
  have hk0 := hk
  obtain ⟨pk, ck, rfl, _, _⟩ := hk
  have hd0 := hd
  obtain ⟨pd, cd, rfl, _, _⟩ := hd.slice
  refine enter (St w (fun _ => False) σ [] []) Tryz.func6 rfl Tryz.ntmps6 rfl (St.start hi) ?_
  refine cw_seq ?_
  refine cw_region ?_
  refine ow_val rfl rfl (ex_assign rfl) ?_
  refine ow_nil ?_
  refine qw_seq ?_
  refine cw_seq ?_
  refine cw_region ?_
  refine ow_cv rfl rfl (ex_callf rfl (fun w h => callB ((pHead8 h.im htab)))) ?_
  refine ow_val rfl rfl (ex_assign rfl) ?_
  refine ow_nil ?_
  refine qw_seq ?_
  refine cw_seq ?_
  refine cw_region ?_
  refine ow_val rfl rfl (ex_move rfl) ?_
  refine ow_ck0E rfl rfl (ex_callf rfl (fun w h => pBothL ks h.im htab hl)) (fun v18 σ4 K4 hl4 hf4 hr4 => ?_)
  obtain ⟨pv, pd, ok, rfl, hok⟩ := bothR hr4
  refine ow_val rfl rfl (ex_move rfl) ?_
  refine ow_val rfl rfl (ex_extract rfl rfl) ?_
  refine ow_val rfl rfl (ex_extract rfl rfl) ?_
  refine ow_val rfl rfl (ex_extract rfl rfl) ?_
  refine ow_val rfl rfl (ex_assign rfl) ?_
  refine ow_val rfl rfl (ex_assign rfl) ?_
  refine ow_val rfl rfl (ex_assign rfl) ?_
  refine ow_nil ?_
  refine qw_seq ?_
  refine cw_seq ?_
  refine cw_seq ?_
  refine cw_region ?_
  refine ow_val rfl rfl (ex_move rfl) ?_
  refine ow_val rfl rfl (ex_not rfl) ?_
  refine ow_val rfl rfl (ex_move rfl) ?_
  refine ow_split (g := some (2, false)) rfl (fun s21 => ?_) (fun s21 => ?_)
  ·
    refine ow_skip rfl (gd_no rfl s21) ?_
    refine ow_skip rfl (gd_no rfl s21) ?_
    refine ow_skip rfl (gd_no rfl s21) ?_
    refine ow_val rfl rfl (ex_pickt rfl s21 rfl) ?_
    refine ow_val rfl rfl (ex_move rfl) ?_
    refine ow_skip rfl rfl ?_
    refine ow_skip rfl rfl ?_
    refine ow_skip rfl rfl ?_
    refine ow_val rfl rfl (ex_pick_t rfl rfl) ?_
    refine ow_nil ?_
    refine qw_seq ?_
    refine cw_cond_t rfl ?_
    refine cw_seq ?_
    refine cw_region ?_
    refine ow_val rfl rfl (ex_move rfl) ?_
    refine ow_val rfl rfl (ex_assign rfl) ?_
    refine ow_nil ?_
    refine qw_seq ?_
    refine cw_ret ?_
    refine qw_then_ret ?_
    refine qw_ret1 rfl rfl (fun w' h => ⟨congrArg (fun z => Ending.returned (.bool z)) ?_, h.ag.below⟩)
    first | rfl | simp
  ·
    have hok1 : ok = true := by simpa using s21
    obtain ⟨bv, bd, Kv, Kd, ts, rfl, rfl, rfl, hv4, hd4⟩ := hok hok1
    subst hok1
    refine ow_val rfl (gd_go rfl s21) (ex_move rfl) ?_
    refine ow_val rfl (gd_go rfl s21) (ex_len (ty := 0) rfl) ?_
    refine ow_val rfl (gd_go rfl s21) (ex_gtr rfl rfl) ?_
    refine ow_val rfl rfl (ex_pickf rfl s21 rfl) ?_
    refine ow_val rfl rfl (ex_move rfl) ?_
    refine ow_split (g := some (7, false)) rfl (fun s26 => ?_) (fun s26 => ?_)
    ·
      refine ow_skip rfl (gd_no rfl s26) ?_
      refine ow_skip rfl (gd_no rfl s26) ?_
      refine ow_skip rfl (gd_no rfl s26) ?_
      refine ow_val rfl rfl (ex_pickt rfl s26 rfl) ?_
      refine ow_nil ?_
      refine qw_seq ?_
      refine cw_cond_t rfl ?_
      refine cw_seq ?_
      refine cw_region ?_
      refine ow_val rfl rfl (ex_move rfl) ?_
      refine ow_val rfl rfl (ex_assign rfl) ?_
      refine ow_nil ?_
      refine qw_seq ?_
      refine cw_ret ?_
      refine qw_then_ret ?_
      refine qw_ret1 rfl rfl (fun w' h => ⟨congrArg (fun z => Ending.returned (.bool z)) ?_, h.ag.below⟩)
      first | rfl | simp
    ·
      refine ow_val rfl (gd_go rfl s26) (ex_move rfl) ?_
      refine ow_val rfl (gd_go rfl s26) (ex_len (ty := 0) rfl) ?_
      refine ow_val rfl (gd_go rfl s26) (ex_gtr rfl rfl) ?_
      refine ow_val rfl rfl (ex_pickf rfl s26 rfl) ?_
      refine ow_nil ?_
      refine qw_seq ?_
      refine cw_cond rfl (fun c30 => ?_) (fun c30 => ?_)
      ·
        refine cw_seq ?_
        refine cw_region ?_
        refine ow_val rfl rfl (ex_move rfl) ?_
        refine ow_val rfl rfl (ex_assign rfl) ?_
        refine ow_nil ?_
        refine qw_seq ?_
        refine cw_ret ?_
        refine qw_then_ret ?_
        refine qw_ret1 rfl rfl (fun w' h => ⟨congrArg (fun z => Ending.returned (.bool z)) ?_, h.ag.below⟩)
        first | rfl | simp
      ·
        refine cw_skip ?_
        refine qw_seq ?_
        refine cw_seq ?_
        have hkl : known.length ≤ 500 := by have := of_decide_eq_false s26; omega
        have hdl : dd.length ≤ 5000 := by have := of_decide_eq_false c30; omega
        have htab4 := htab.le hl4
        have hk4 := hk0.le hl4
        have hdd4 := hd0.le hl4
        obtain ⟨hI, hfew⟩ := hv4.nd
        refine cw_region ?_
        refine ow_val rfl rfl (ex_move rfl) ?_
        refine ow_val rfl rfl (ex_move rfl) ?_
        refine ow_cr rfl rfl (ex_callf rfl (fun w h => callR (pClosure h.has htab4 hv4 hk4 (by omega)))) (fun v34 σ5 hl5 hf5 hr5 => ?_)
        have hr5' := hr5
        obtain ⟨pa, ca, rfl, _, _⟩ := hr5'
        have hla := closL_len ts known
        refine ow_val rfl rfl (ex_move rfl) ?_
        refine ow_val rfl rfl (ex_move rfl) ?_
        refine ow_cr rfl rfl (ex_callf rfl (fun w h => callR (rClosureK (h.permG List.perm_append_comm).has (hd4.le hl5) hI (hk4.le hl5) (by omega)))) (fun v37 σ6 hl6 hf6 hr6 => ?_)
        have hr6' := hr6
        obtain ⟨pb, cb, rfl, _, _⟩ := hr6'
        have hl56 := hl5.trans hl6
        refine ow_cv rfl rfl (ex_callf rfl (fun w h => callB ((rSameI h.im (hr5.le hl6) hr6 (by omega))))) ?_
        refine ow_val rfl rfl (ex_assign rfl) ?_
        refine ow_nil ?_
        refine qw_seq ?_
        refine cw_seq ?_
        refine cw_region ?_
        refine ow_val rfl rfl (ex_move rfl) ?_
        refine ow_val rfl rfl (ex_move rfl) ?_
        refine ow_split (g := some (1, true)) rfl (fun s40 => ?_) (fun s40 => ?_)
        ·
          refine ow_val rfl (gd_go rfl s40) (ex_move rfl) ?_
          refine ow_val rfl rfl (ex_pickt rfl s40 rfl) ?_
          refine ow_val rfl rfl (ex_move rfl) ?_
          refine ow_split (g := some (4, true)) rfl (fun s43 => ?_) (fun s43 => ?_)
          ·
            refine ow_val rfl (gd_go rfl s43) (ex_move rfl) ?_
            refine ow_val rfl (gd_go rfl s43) (ex_move rfl) ?_
            refine ow_val rfl (gd_go rfl s43) (ex_move rfl) ?_
            refine ow_cv rfl (gd_go rfl s43) (ex_callf rfl (fun w h => callB ((pCan h.has (htab4.le hl56) (hv4.le hl56) (hk4.le hl56) (by omega) (hdd4.le hl56) (by omega))))) ?_
            refine ow_val rfl (gd_go rfl s43) (ex_move rfl) ?_
            refine ow_val rfl (gd_go rfl s43) (ex_move rfl) ?_
            refine ow_val rfl (gd_go rfl s43) (ex_move rfl) ?_
            refine ow_cv rfl (gd_go rfl s43) (ex_callf rfl (fun w h => callB ((rCanK (h.permG List.perm_append_comm).has (hd4.le hl56) hI (hk4.le hl56) (by omega) (hdd4.le hl56) (by omega))))) ?_
            refine ow_val rfl (gd_go rfl s43) (ex_eqlb rfl rfl) ?_
            refine ow_val rfl rfl (ex_pickt rfl s43 rfl) ?_
            refine ow_val rfl rfl (ex_move rfl) ?_
            refine ow_split (g := some (15, true)) rfl (fun s54 => ?_) (fun s54 => ?_)
            ·
              refine ow_val rfl (gd_go rfl s54) (ex_move rfl) ?_
              refine ow_cv rfl (gd_go rfl s54) (ex_callf rfl (fun w h => callB ((pClosureN h.im)))) ?_
              refine ow_val rfl (gd_go rfl s54) (ex_len (ty := 0) rfl) ?_
              refine ow_val rfl (gd_go rfl s54) (ex_eql rfl rfl) ?_
              refine ow_val rfl rfl (ex_pickt rfl s54 rfl) ?_
              refine ow_val rfl rfl (ex_assign rfl) ?_
              refine ow_nil ?_
              refine qw_seq ?_
              refine cw_ret ?_
              refine qw_ret1 rfl rfl (fun w' h => ⟨congrArg (fun z => Ending.returned (.bool z)) ?_, h.ag.below⟩)
              first | rfl | simp
            ·
              simp at s54
          ·
            simp at s43
        ·
          cases s40
end Go.Proofs.YtnjomdjkbbhdoaaGreatDoor
namespace Go.Proofs.YtnjomdjkbbhdoaaGreatDoor
open Go.ChangeShapes Go.WideShapes Go.ChangeAt Go.RowKit
set_option linter.unusedVariables false
section
variable {H : Type} {enc : TypeId × Value → H} {P : Program} {w : World}
theorem read_ints {t e : TypeId} {fuel : Nat} {v : Value} {x : DataW H × List MemPlace} (hu : P.underlying t = some (.slice e)) (he : P.underlying e = some (.int .i64)) (hc : P.cellsOf e = 1)
    (h : DataW.trod enc P w 0 (fun _ => true) true fuel t [v] = some x) (hw : ∀ n ∈ x.1.weights P t, n ≤ reachBytes) : ∃ zs, IntsV (nowH w) v zs := by
  rcases open_ints hu he hc h with ⟨hcs, hx⟩ | ⟨a, len, cap, zs, hcs, _, hl, hm, hz, hx, hcell, hwf⟩
  · simp at hcs
    subst hcs
    exact ⟨[], IntsV.nil _⟩
  · simp at hcs
    subst hcs
    have hlz : len ≤ zs.length := by simp at hz; omega
    have hlen : (zs.take len).length = len := by simp; omega
    refine ⟨zs.take len, some a, cap, by rw [hlen], by rw [hlen]; exact hl, ?_⟩
    by_cases h0 : len = 0
    · left; subst h0; simp
    · right
      have hsp : a.spot = none := (cell_open (hcell 0 (by omega))).1
      obtain ⟨b, o, sp⟩ := a
      have hsp' : sp = none := hsp
      subst hsp'
      refine ⟨b, o, rfl, ?_⟩
      unfold intsV
      refine cellsAt_now (fun e => ?_) (fun i u hi => ?_)
      · have := congrArg List.length e
        rw [List.length_map, List.length_take, List.length_nil] at this
        omega
      · rw [List.getElem?_map, List.getElem?_take] at hi
        split at hi
        · rename_i hil
          have := hcell i (Nat.lt_of_lt_of_le hil hlz)
          rw [addr_add] at this
          rw [this, List.getD_eq_getElem?_getD]
          cases hz' : zs[i]? with
          | none => rw [hz'] at hi; simp at hi
          | some z => rw [hz'] at hi; simpa using hi
        · simp at hi
end
end Go.Proofs.YtnjomdjkbbhdoaaGreatDoor
