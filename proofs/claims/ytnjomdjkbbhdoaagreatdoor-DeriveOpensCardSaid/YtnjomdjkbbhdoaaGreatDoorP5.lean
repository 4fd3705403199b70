/-
  What the law DeriveOpens needs, part 5.
  No condition.
-/
import Derived.Test.YtnjomdjkbbhdoaaGreatDoorP4
namespace Go.Proofs.YtnjomdjkbbhdoaaGreatDoor
open Go.RowKit
set_option linter.unusedVariables false
set_option linter.unusedSimpArgs false
set_option maxRecDepth 100000
instance : ZeroT Tryz.prog 84 (.pointer none) := ⟨by kernel_rfl⟩
set_option maxHeartbeats 400000 in
theorem pFound {be : Nat} {σ : Hp} {w : World} (hi : Imm σ w) : Calls Tryz.prog 55 #[.pointer (some ⟨be, 0, none⟩)] w (GiveR (RepF 86 be) σ w) := by
  refine enter (St w (fun _ => False) σ [] []) Tryz.func55 rfl Tryz.ntmps55 rfl (St.start hi) ?_
  refine cw_seq ?_
  refine cw_region ?_
  refine ow_blk rfl rfl (exw_box rfl) ?_; intro b1
  refine ow_val rfl rfl (ex_assign rfl) ?_
  refine ow_nil ?_
  refine qw_seq ?_
  refine cw_seq ?_
  refine cw_region ?_
  refine ow_val rfl rfl (ex_makeFunc rfl rfl) ?_
  refine ow_val rfl rfl (ex_assign rfl) ?_
  refine ow_nil ?_
  refine qw_seq ?_
  refine cw_ret ?_
  refine qw_ret1 rfl rfl (fun w' h => ?_)
  obtain ⟨σ1, l1, f1, e1, h1⟩ := St.frz1 h id
  exact h1.gives l1 f1 ⟨b1, rfl, CellsAt.took (k := 1) e1 rfl⟩
set_option maxHeartbeats 2000000 in
theorem pClosure {b : Nat} {ts : List T} {known : List Int} {v : Value} {σ : Hp} {K : List (Nat × Obj)} {w : World} (hi : Has σ K w) (htab : TabC Tryz.prog σ) (hv : VaultK 80 32 b ts σ K) (hk : IntsV σ v known) (hkl : known.length ≤ 1000000) : Calls Tryz.prog 15 #[.pointer (some ⟨b, 0, none⟩), v] w (GiveR (RepI (closL (itemsT ts) known)) σ w) := by
  obtain ⟨pk, ck, rfl, hck, hsk⟩ := hk
  obtain ⟨hI, hfew⟩ := hv.nd
  have hof := @Has.of_im σ
  have hleX := hi.le
  refine enterM (St w (fun _ => False) (exts σ K) [] []) Tryz.func15 rfl Tryz.ntmps15 rfl (St.start hi.exts) ?_
  refine cw_seq ?_
  refine cw_region ?_
  refine ow_val rfl rfl (ex_assign rfl) ?_
  refine ow_nil ?_
  refine qw_seq ?_
  refine cw_scope ?_
  refine cw_seq ?_
  refine cw_seq ?_
  refine cw_region ?_
  refine ow_val rfl rfl (ex_move rfl) ?_
  refine ow_val rfl rfl (ex_ptrnil rfl) ?_
  refine ow_nil ?_
  refine qw_seq ?_
  refine cw_cond rfl (fun c14 => ?_) (fun c14 => ?_)
  ·
    cases c14
  ·
    refine cw_skip ?_
    refine qw_seq ?_
    refine cw_seq ?_
    refine cw_region ?_
    refine ow_val rfl rfl (ex_move rfl) ?_
    refine ow_ck0 rfl rfl (ex_callf rfl (fun w h => pLoad (hi.of_im h.im (Le.refl _)) htab hv)) (fun v16 τ1 K1 hl1 hf1 hr1 => ?_)
    obtain ⟨be, hb, iv, ch, rfl, rfl, hcE, hIt⟩ := hr1
    refine ow_mono (fun w h => St.ofG (G := []) h) ?_
    refine ow_blk rfl rfl exw_alloc ?_; intro b5
    refine ow_u rfl (exu_store1 0 rfl rfl rfl rfl rfl rfl) ?_
    refine ow_frzO (fun _ h => h) (fun τ2 hl2 hf2 hb2 => ?_)
    have hc5 : CellsAt τ2 b5 0 [.pointer (some ⟨be, 0, none⟩)] := CellsAt.took (k := 1) hb2 rfl
    have hlσ : Le σ τ2 := (hleX.trans hl1).trans hl2
    refine ow_nil ?_
    refine qw_seq ?_
    refine cw_seq ?_
    refine cw_seq ?_
    refine cw_region ?_
    refine ow_val rfl rfl (ex_move rfl) ?_
    refine ow_val rfl rfl (ex_len (ty := 0) rfl) ?_
    refine ow_val rfl rfl (ex_move rfl) ?_
    refine ow_nil ?_
    refine qw_seq ?_
    refine cw_block ?_
    refine cw_loopH2 (fun (i : Nat) (had : List Bool) => [(0, .pointer (some ⟨b, 0, none⟩)), (5, .pointer (some ⟨b5, 0, none⟩)), (17, .slice pk known.length ck), (18, .int .i64 (known.length : Int)), (19, .int .i64 (i : Int))]) (fun i had => i ≤ known.length ∧ Sound (itemsT ts) known had ∧ ∀ j (h : j < known.length), j < i → 0 ≤ known[j] → known[j] < (ts.length : Int) → hadAt had known[j] = true) (fun i had => τ2) (fun i had => [(hb, hadO 4 had)]) (fun i had => []) (fun i _ => known.length - i) 0 (List.replicate ts.length false) (subL_cons (lkv rfl (by first | rfl | simp)) (subL_cons (lkv rfl (by first | rfl | simp)) (subL_cons (lkv rfl (by first | rfl | simp)) (subL_cons (lkv rfl (by first | rfl | simp)) (subL_cons (lkv rfl (by first | rfl | simp)) (subL_nil _)))))) ⟨Nat.zero_le _, by have := sound0 (itemsT ts) known; rwa [itemsT_len] at this, fun j _ h => absurd h (Nat.not_lt_zero _)⟩ (fun w h => h) ?_
    intro i had ⟨hlei, hso, hkk⟩
    have hsl : had.length = ts.length := by have := hso.1; rwa [itemsT_len] at this
    refine cw_seq ?_
    refine cw_region ?_
    refine ow_val rfl rfl (ex_lss rfl rfl) ?_
    refine ow_nil ?_
    refine qw_seq ?_
    refine cw_seq ?_
    refine cw_cond rfl (fun c20 => ?_) (fun c20 => ?_)
    ·
      have hlt : i < known.length := by have := of_decide_eq_true c20; omega
      obtain ⟨bk, ok, rfl, hca⟩ := hsk.resolve_left (fun hn => by subst hn; simp at hlt)
      refine cw_skip ?_
      refine qw_seq ?_
      refine cw_seq ?_
      refine cw_block ?_
      refine cw_seq ?_
      refine cw_region ?_
      refine ow_val rfl rfl (ex_index_nat (i := i) rfl rfl hlt) ?_
      refine ow_val rfl rfl (ex_load1 rfl (ld_imm1 ((hca.le hlσ).int hlt))) ?_
      refine ow_val rfl rfl (ex_assign rfl) ?_
      refine ow_nil ?_
      refine qw_seq ?_
      refine cw_seq ?_
      refine cw_region ?_
      refine ow_val rfl rfl (ex_move rfl) ?_
      refine ow_val rfl rfl (ex_geq rfl rfl) ?_
      refine ow_val rfl rfl (ex_move rfl) ?_
      refine ow_split (g := some (2, true)) rfl (fun s25 => ?_) (fun s25 => ?_)
      ·
        have q0 := of_decide_eq_true s25
        refine ow_val rfl (gd_go rfl s25) (ex_move rfl) ?_
        refine ow_val rfl (gd_go rfl s25) (ex_load1 rfl (ld_imm1 hc5)) ?_
        refine ow_val rfl (gd_go rfl s25) (ex_nilck rfl) ?_
        refine ow_val rfl (gd_go rfl s25) (ex_field rfl) ?_
        refine ow_val rfl (gd_go rfl s25) (ex_load1 rfl (ld_imm1 ((hcE.le hl2).fld (i := 1) rfl))) ?_
        refine ow_val rfl (gd_go rfl s25) (ex_len (ty := 0) rfl) ?_
        refine ow_val rfl (gd_go rfl s25) (ex_lss rfl rfl) ?_
        refine ow_val rfl rfl (ex_pickt rfl s25 rfl) ?_
        refine ow_nil ?_
        refine qw_seq ?_
        refine cw_cond rfl (fun c33 => ?_) (fun c33 => ?_)
        ·
          have q1 := of_decide_eq_true c33
          obtain ⟨kz, hkz⟩ : ∃ kz : Nat, known[i] = (kz : Int) := ⟨known[i].toNat, by omega⟩
          rw [hkz] at q1
          rw [hkz]
          refine cw_region ?_
          refine ow_val rfl rfl (ex_load1 rfl (ld_imm1 hc5)) ?_
          refine ow_val rfl rfl (ex_nilck rfl) ?_
          refine ow_val rfl rfl (ex_field rfl) ?_
          refine ow_val rfl rfl (ex_load1 rfl (ld_imm1 ((hcE.le hl2).fld (i := 1) rfl))) ?_
          refine ow_val rfl rfl (ex_move rfl) ?_
          refine ow_val rfl rfl (ex_index_nat (i := kz) rfl rfl (by omega)) ?_
          refine ow_u rfl (exu_bool 0 rfl rfl rfl (by omega)) ?_
          refine ow_nil ?_
          refine qw_block_normal ?_
          refine qw_seq ?_
          refine cw_region ?_
          refine ow_val rfl rfl (ex_addi (z := ((i + 1 : Nat) : Int)) rfl rfl (by omega) (by omega) (by omega)) ?_
          refine ow_val rfl rfl (ex_move rfl) ?_
          refine ow_nil ?_
          exact qw_roundH2 (i + 1) (had.set kz true) (by omega) (subL_cons (lkv rfl (by first | rfl | simp)) (subL_cons (lkv rfl (by first | rfl | simp)) (subL_cons (lkv rfl (by first | rfl | simp)) (subL_cons (lkv rfl (by first | rfl | simp)) (subL_cons (lkv rfl (by first | rfl | simp)) (subL_nil _)))))) ⟨by omega, hso.set (had_known (by rw [← hkz]; exact List.getElem_mem hlt) (by rw [itemsT_len]; omega)), fun j hj hji h0 h1 => by
            by_cases e : j = i
            · subst e
              rw [hkz, hadAt_nat, getD_set (by omega)]; simp
            · exact HadLe.set _ _ _ (hkk j hj (by omega) h0 h1)⟩ (fun w h => h)
        ·
          have q1 := of_decide_eq_false c33
          refine cw_skip ?_
          refine qw_block_normal ?_
          refine qw_seq ?_
          refine cw_region ?_
          refine ow_val rfl rfl (ex_addi (z := ((i + 1 : Nat) : Int)) rfl rfl (by omega) (by omega) (by omega)) ?_
          refine ow_val rfl rfl (ex_move rfl) ?_
          refine ow_nil ?_
          exact qw_roundH2 (i + 1) had (by omega) (subL_cons (lkv rfl (by first | rfl | simp)) (subL_cons (lkv rfl (by first | rfl | simp)) (subL_cons (lkv rfl (by first | rfl | simp)) (subL_cons (lkv rfl (by first | rfl | simp)) (subL_cons (lkv rfl (by first | rfl | simp)) (subL_nil _)))))) ⟨by omega, hso, fun j hj hji h0 h1 => by
            by_cases e : j = i
            · subst e; omega
            · exact hkk j hj (by omega) h0 h1⟩ (fun w h => h)
      ·
        have q0 := of_decide_eq_false s25
        refine ow_skip rfl (gd_no rfl s25) ?_
        refine ow_skip rfl (gd_no rfl s25) ?_
        refine ow_skip rfl (gd_no rfl s25) ?_
        refine ow_skip rfl (gd_no rfl s25) ?_
        refine ow_skip rfl (gd_no rfl s25) ?_
        refine ow_skip rfl (gd_no rfl s25) ?_
        refine ow_skip rfl (gd_no rfl s25) ?_
        refine ow_val rfl rfl (ex_pickf rfl s25 rfl) ?_
        refine ow_nil ?_
        refine qw_seq ?_
        refine cw_cond_f rfl ?_
        refine cw_skip ?_
        refine qw_block_normal ?_
        refine qw_seq ?_
        refine cw_region ?_
        refine ow_val rfl rfl (ex_addi (z := ((i + 1 : Nat) : Int)) rfl rfl (by omega) (by omega) (by omega)) ?_
        refine ow_val rfl rfl (ex_move rfl) ?_
        refine ow_nil ?_
        exact qw_roundH2 (i + 1) had (by omega) (subL_cons (lkv rfl (by first | rfl | simp)) (subL_cons (lkv rfl (by first | rfl | simp)) (subL_cons (lkv rfl (by first | rfl | simp)) (subL_cons (lkv rfl (by first | rfl | simp)) (subL_cons (lkv rfl (by first | rfl | simp)) (subL_nil _)))))) ⟨by omega, hso, fun j hj hji h0 h1 => by
          by_cases e : j = i
          · subst e; omega
          · exact hkk j hj (by omega) h0 h1⟩ (fun w h => h)
    ·
      have hei : i = known.length := by have := of_decide_eq_false c20; omega
      have hkn : KnownIn known had := fun k hk h0 h1 => by
        obtain ⟨j, hj, rfl⟩ := List.mem_iff_getElem.1 hk
        exact hkk j hj (by omega) h0 (by omega)
      refine cw_exit ?_
      refine qw_then_exit ?_
      refine qw_then_exit ?_
      refine qw_block_exit ?_
      refine qw_seq ?_
      refine cw_seq ?_
      refine cw_label ?_
      refine qw_seq ?_
      refine cw_seq ?_
      refine cw_block ?_
      refine cw_loopD (fun x : List Nat × List Bool => (⟨x.1.map markD⟩ : DS)) (fun x => [(0, .pointer (some ⟨b, 0, none⟩)), (5, .pointer (some ⟨b5, 0, none⟩))]) (fun x w' => (Sound (itemsT ts) known x.2 ∧ KnownIn known x.2) ∧ St w (fun _ => False) τ2 [(hb, hadO 4 x.2)] (marks x.1) w') (fun x => left x.2) ([], had) rfl (subL_cons (lkv rfl (by first | rfl | simp)) (subL_cons (lkv rfl (by first | rfl | simp)) (subL_nil _))) (fun w' h => ⟨⟨hso, hkn⟩, h⟩) ?_
      clear hkn hei hkk hsl hso hlei
      rintro ⟨Ds, had⟩ d1 hd1
      have hds1 : d1.ds = Ds.map markD := by cases hd1; rfl
      refine cw_and (fun hsk2 => ?_)
      obtain ⟨hso, hkn⟩ := hsk2
      simp only at hso hkn
      refine cw_block ?_
      refine cw_seq ?_
      refine cw_region ?_
      refine ow_blk rfl rfl exw_alloc ?_; intro b8
      refine ow_u rfl (exu_store1 0 rfl rfl rfl rfl rfl rfl) ?_
      refine ow_nil ?_
      refine qw_seq ?_
      refine cw_seq ?_
      refine cw_seq ?_
      refine cw_region ?_
      refine ow_val rfl rfl (ex_load1 rfl (ld_imm1 hc5)) ?_
      refine ow_cr rfl rfl (ex_callf rfl (fun w h => callR (pFound h.im))) (fun v42 τ3 hl3 hf3 hr3 => ?_)
      obtain ⟨b1, rfl, hcb1⟩ := hr3
      refine ow_nil ?_
      refine qw_seq ?_
      refine cw_block ?_
      have hsl : had.length = ts.length := by have := hso.1; rwa [itemsT_len] at this
      refine cw_range (its := itemsT ts) (known := known) (had0 := had) (hb := hb) (bm := b8) (b1 := b1) (tb := 4) (Ds := Ds) rfl (fun w1 h1 => ?_) hso rfl rfl ?_ ?_
      · intro l J Jx W hW hJ hJx hY h0
        have hhb1 := h1.own (p := (hb, hadO 4 had)) (by simp)
        have hhlt := (Array.getElem?_eq_some_iff.1 hhb1).1
        have hfnd := pFoundIt (l := l) (n₀ := w1.heap.size) (hb := hb) (bm := b8) (be := be) (b1 := b1) (its := itemsT ts) (known := known) (had0 := had) (J := J) (Jx := Jx) (σ := τ3) (iv := iv) (ch := ch) (w := W) (hI.itemsOK hfew) hso ⟨h1.fresh (p := (hb, hadO 4 had)) (by simp), h1.fresh (p := (b8, .cells #[.bool false] 4)) (by simp), fun b o e => .inl (h1.im.lt e)⟩ (h1.lt (p := (b8, .cells #[.bool false] 4)) (by simp)) hW.size (by rw [itemsT_len]; exact hcE.le (hl2.trans hl3)) (hIt.le (hl2.trans hl3)) hcb1 (Imm.ext (h1.im.below hW) (by rw [hW.block hb hhlt]; exact hhb1)) hJ hY h0
        exact callsIn_wide.2 (by simpa using hfnd)
      · clear hds1 hd1
        clear d1
        intro l x hadx bb W Q' hlen hQ
        have hxl : x.1 < ts.length := Nat.lt_of_lt_of_eq x.2.1 (itemsT_len ts)
        rw [itemsT_len] at hlen
        refine oi_val wide_fn (fun c h => (by cases h)) rfl rfl (ex_load1 rfl (ld_imm1 (hc5.le hl3))) ?_
        refine oi_val wide_fn (fun c h => (by cases h)) rfl rfl (ex_nilck rfl) ?_
        refine oi_val wide_fn (fun c h => (by cases h)) rfl rfl (ex_field rfl) ?_
        refine oi_val wide_fn (fun c h => (by cases h)) rfl rfl (ex_load1 rfl (ld_imm1 ((hcE.le (hl2.trans hl3)).fld (i := 1) rfl))) ?_
        refine oi_val wide_fn (fun c h => (by cases h)) rfl rfl (ex_move rfl) ?_
        refine oi_val wide_fn (fun c h => (by cases h)) rfl rfl (ex_index_nat (i := x.1) rfl rfl hxl) ?_
        refine oi_u wide_fn (fun c h => (by cases h)) rfl (exu_bool 1 rfl rfl rfl (by omega)) ?_
        refine oi_u wide_fn (fun c h => (by cases h)) rfl (exu_store1 0 rfl rfl rfl rfl rfl rfl) ?_
        refine oi_nil ?_
        exact fun a w' hf hs => hQ a w' hs
      · intro d2 D xs had2 hd2 hall hso2 hle2 hni2 hin2
        have hds2 : d2.ds = (D :: Ds).map markD := by rw [hd2, hds1]; rfl
        have hsl2 : had2.length = ts.length := by have := hso2.1; rwa [itemsT_len] at this
        refine qw_block_normal ?_
        refine qw_seq ?_
        refine cw_seq ?_
        refine cw_region ?_
        refine ow_val rfl rfl (ex_load1 rfl (by first | exact ld_own1 0 rfl rfl | exact ld_own1 1 rfl rfl | exact ld_own1 2 rfl rfl | exact ld_own1 3 rfl rfl | exact ld_own1 4 rfl rfl | exact ld_own1 5 rfl rfl | exact ld_own1 6 rfl rfl | exact ld_own1 7 rfl rfl | exact ld_ownG1 0 rfl rfl | exact ld_ownG1 1 rfl rfl | exact ld_imm1 (by assumption))) ?_
        refine ow_val rfl rfl (ex_not rfl) ?_
        refine ow_nil ?_
        refine qw_seq ?_
        refine cw_cond rfl (fun c51 => ?_) (fun c51 => ?_)
        ·
          have hxs : xs = [] := by simpa using c51
          have hcl := hall.1 hxs
          have e2 := hni2 hxs
          subst e2
          refine cw_exit ?_
          refine qw_block_other rfl ?_
          refine qw_then_exit ?_
          refine qw_block_exit ?_
          refine qw_seq ?_
          refine cw_seq ?_
          refine cw_region ?_
          refine ow_val rfl rfl (ex_assign rfl) ?_
          refine ow_nil ?_
          refine qw_seq ?_
          refine cw_seq ?_
          refine cw_seq ?_
          refine cw_region ?_
          refine ow_val rfl rfl (ex_load1 rfl (ld_imm1 (hc5.le hl3))) ?_
          refine ow_val rfl rfl (ex_nilckD rfl) ?_
          refine ow_val rfl rfl (ex_field rfl) ?_
          refine ow_val rfl rfl (ex_load1 rfl (ld_imm1 ((hcE.le (hl2.trans hl3)).fld (i := 1) rfl))) ?_
          refine ow_val rfl rfl (ex_len (ty := 0) rfl) ?_
          refine ow_val rfl rfl (ex_move rfl) ?_
          refine ow_nil ?_
          refine qw_seq ?_
          refine cw_block ?_
          refine cw_loop3 (fun (i : Nat) (v10 : Value) (Gs : List (Nat × Obj)) => [(10, v10), (55, .slice (some ⟨hb, 0, none⟩) ts.length ch), (56, .int .i64 (ts.length : Int)), (57, .int .i64 (i : Int))]) (fun i v10 Gs => i ≤ ts.length ∧ OwnSl 3 1 v10 (outB 0 (had2.take i)).length (intsV (outB 0 (had2.take i))) Gs) (fun i v10 Gs => τ3) (fun i v10 Gs => Gs ++ marks (D :: Ds)) (fun i _ _ => ts.length - i) 0 (.slice none 0 0) [] (subL_cons (lkv rfl (by first | rfl | simp)) (subL_cons (lkv rfl (by first | rfl | simp)) (subL_cons (lkv rfl (by first | rfl | simp)) (subL_cons (lkv rfl (by first | rfl | simp)) (subL_nil _))))) ⟨Nat.zero_le _, by simpa [outB, intsV] using OwnSl.nil 3 1⟩ (fun w h => h) ?_
          intro i v10 Gs ⟨hlei, hO⟩
          refine cw_seq ?_
          refine cw_region ?_
          refine ow_val rfl rfl (ex_lss rfl rfl) ?_
          refine ow_nil ?_
          refine qw_seq ?_
          refine cw_seq ?_
          refine cw_cond rfl (fun c58 => ?_) (fun c58 => ?_)
          ·
            have hlt : i < ts.length := by have := of_decide_eq_true c58; omega
            have hol := outB_len (had2.take i) 0
            rw [List.length_take] at hol
            refine cw_skip ?_
            refine qw_seq ?_
            refine cw_seq ?_
            refine cw_block ?_
            refine cw_seq ?_
            refine cw_region ?_
            refine ow_val rfl rfl (ex_move rfl) ?_
            refine ow_val rfl rfl (ex_index_nat (i := i) rfl rfl hlt) ?_
            refine ow_val rfl rfl (ex_load1 rfl (ld_had 1 rfl (by omega))) ?_
            refine ow_val rfl rfl (ex_assign rfl) ?_
            refine ow_val rfl rfl (ex_assign rfl) ?_
            refine ow_nil ?_
            refine qw_seq ?_
            refine cw_seq ?_
            refine cw_region ?_
            refine ow_val rfl rfl (ex_move rfl) ?_
            refine ow_nil ?_
            refine qw_seq ?_
            refine cw_cond rfl (fun c62 => ?_) (fun c62 => ?_)
            ·
              refine cw_region ?_
              refine ow_val rfl rfl (ex_move rfl) ?_
              refine ow_val rfl rfl (ex_move rfl) ?_
              refine ow_slit rfl rfl (exw_slit1 rfl rfl) ?_; intro b65
              refine ow_app rfl rfl (exw_append (news := [.int .i64 (i : Int)]) rfl rfl hO rfl (.inr ⟨_, _, rfl, (ld_ownN (k := 1) 0 rfl rfl).2⟩) (fun u hu => by simp at hu; subst hu; rfl) (by unfold maxLen; omega) (by omega)) (fun v66 G66 hO66 hz66 => ?_)
              refine ow_val rfl rfl (ex_assign rfl) ?_
              refine ow_nil ?_
              refine qw_block_normal ?_
              refine qw_seq ?_
              refine cw_region ?_
              refine ow_val rfl rfl (ex_addi (z := ((i + 1 : Nat) : Int)) rfl rfl (by omega) (by omega) (by omega)) ?_
              refine ow_val rfl rfl (ex_move rfl) ?_
              refine ow_nil ?_
              refine qw_round3 (i + 1) v66 G66 (by omega) (subL_cons (lkv rfl (by first | rfl | simp)) (subL_cons (lkv rfl (by first | rfl | simp)) (subL_cons (lkv rfl (by first | rfl | simp)) (subL_cons (lkv rfl (by first | rfl | simp)) (subL_nil _))))) ⟨by omega, ?_⟩ (fun w h => h.drop (List.sublist_cons_self _ _))
              rw [outB_step (by omega), if_pos c62, intsV_app, List.length_append]
              exact hO66
            ·
              refine cw_skip ?_
              refine qw_block_normal ?_
              refine qw_seq ?_
              refine cw_region ?_
              refine ow_val rfl rfl (ex_addi (z := ((i + 1 : Nat) : Int)) rfl rfl (by omega) (by omega) (by omega)) ?_
              refine ow_val rfl rfl (ex_move rfl) ?_
              refine ow_nil ?_
              refine qw_round3 (i + 1) v10 Gs (by omega) (subL_cons (lkv rfl (by first | rfl | simp)) (subL_cons (lkv rfl (by first | rfl | simp)) (subL_cons (lkv rfl (by first | rfl | simp)) (subL_cons (lkv rfl (by first | rfl | simp)) (subL_nil _))))) ⟨by omega, ?_⟩ (fun w h => h)
              rw [outB_step (by omega), if_neg (by rw [c62]; decide), List.append_nil]
              exact hO
          ·
            refine cw_exit ?_
            refine qw_then_exit ?_
            refine qw_then_exit ?_
            refine qw_block_exit ?_
            refine qw_seq ?_
            refine cw_seq ?_
            have hei2 : i = ts.length := by have := of_decide_eq_false c58; omega
            rw [List.take_of_length_le (by omega)] at hO
            refine cw_frzIs (hlσ.trans hl3) hO (fun τ4 σ4 q1 q2 q3 q4 q5 => ?_)
            have q5' := q5
            obtain ⟨p5, c5, rfl, _, _⟩ := q5'
            refine cw_region ?_
            refine ow_val rfl rfl (ex_move rfl) ?_
            refine ow_val rfl rfl (ex_assign rfl) ?_
            refine ow_nil ?_
            refine qw_seq ?_
            refine cw_ret ?_
            refine qw_nogoto_ret ?_
            refine qw_retM1 hds2 rfl rfl (fun w' h => ?_)
            rw [← Clos.closL (clos_out hso hcl hkn)]
            exact h.givesS q4 q2 q3 q5
        ·
          obtain ⟨x, r, hxs⟩ : ∃ x r, xs = x :: r := by
            cases xs with
            | nil => simp at c51
            | cons x r => exact ⟨x, r, rfl⟩
          have hlft : left had2 < left had := left_lt (by omega) hle2 (hall.2 x r hxs) (hin2 x (by rw [hxs]; simp))
          have hkn2 : KnownIn known had2 := fun k hk h0 h1 => hle2 _ (hkn k hk h0 (by omega))
          refine cw_skip ?_
          refine qw_block_normal ?_
          exact qw_roundD (D :: Ds, had2) (by cases d2 with | mk ds2 => exact congrArg DS.mk hds2) hlft (subL_cons (lkv rfl (by first | rfl | simp)) (subL_cons (lkv rfl (by first | rfl | simp)) (subL_nil _))) (fun w' h => ⟨⟨hso2, hkn2⟩, (h.drop (List.sublist_cons_self _ _)).less hl3⟩)
end Go.Proofs.YtnjomdjkbbhdoaaGreatDoor
namespace Go.Proofs.YtnjomdjkbbhdoaaGreatDoor
set_option linter.unusedVariables false
set_option linter.unusedSimpArgs false
theorem items_one : itemsT [atomOne, pubOne] = [⟨1, [], []⟩, ⟨2, [0], []⟩] := by
  have hp : posT [atomOne, pubOne] atomOne = 0 := by simp [posT, findI, ord_self]
  have h0 : ∀ z : Int, mentS [] z = [] := fun z => mentS_short (by simp)
  unfold itemsT
  simp only [List.mapIdx_cons, List.mapIdx_nil]
  unfold itemT
  simp only [Function.comp, show atomOne.op = 1 from rfl, show atomOne.kids = [] from rfl, show atomOne.data = [] from rfl, show pubOne.op = 2 from rfl, show pubOne.kids = [atomOne] from rfl, show pubOne.data = [] from rfl, h0, List.map_nil, List.map_cons, hp]
theorem closH : closL (itemsT [atomOne, pubOne]) [0] = [0, 1] := by
  refine (Clos.closL ⟨by decide, fun x => ?_⟩).symm
  rw [items_one]
  have a0 : Had [⟨1, [], []⟩, ⟨2, [0], []⟩] [0] 0 := had_known (by simp) (by simp)
  have a1 : Had [⟨1, [], []⟩, ⟨2, [0], []⟩] [0] 1 := fun b h1 h2 h3 => by
    refine (h2 1 (by simp)).1 ?_
    have h4 := h3 0 (by simp) (by omega) (by rw [h1]; simp)
    simp [madeB, allB, h4]
  constructor
  · intro h
    simp only [List.mem_cons, List.not_mem_nil, or_false] at h
    rcases h with rfl | rfl
    · exact ⟨0, by simp, rfl, a0⟩
    · exact ⟨1, by simp, rfl, a1⟩
  · rintro ⟨k, h1, rfl, _⟩
    have : k = 0 ∨ k = 1 := by simp at h1; omega
    rcases this with rfl | rfl <;> simp
theorem closE : closL (itemsT [atomOne, pubOne]) [] = [] := by
  refine (Clos.closL ⟨by simp, fun x => ⟨(fun h => by cases h), ?_⟩⟩).symm
  rw [items_one]
  rintro ⟨k, h1, rfl, h2⟩
  exfalso
  refine not_had [false, false] rfl (fun n hn => ?_) (fun z hz => by cases hz) ?_ h2
  · have : n = 0 ∨ n = 1 := by simp at hn; omega
    rcases this with rfl | rfl <;> simp [madeB, allB, hadAt]
  · have : k = 0 ∨ k = 1 := by simp at h1; omega
    rcases this with rfl | rfl <;> rfl
theorem termV_in {ts : List T} {n : Int} (h : (termV ts n).2 = true) : 0 ≤ n ∧ n < (ts.length : Int) := by
  unfold termV at h
  split at h
  · rename_i hh; exact hh
  · cases h
theorem mentN_len (n : Int) : (mentN n).length ≤ 10 := by
  unfold mentN
  split
  · rename_i h; simp [bytesN_len h]
  · simp
theorem closL_len (ts : List T) (known : List Int) : (closL (itemsT ts) known).length ≤ ts.length := by
  have := (clos_closL (itemsT ts) known).len
  rwa [itemsT_len] at this
end Go.Proofs.YtnjomdjkbbhdoaaGreatDoor
namespace Go.Proofs.YtnjomdjkbbhdoaaGreatDoor
open Go.RowKit
set_option linter.unusedVariables false
set_option linter.unusedSimpArgs false
set_option maxRecDepth 100000
instance : ZeroT Tryz.prog 23 (.slice none 0 0) := ⟨by kernel_rfl⟩
set_option maxHeartbeats 400000 in
theorem pCanN {v u : Value} {σ : Hp} {w : World} (hi : Imm σ w) : Calls Tryz.prog 12 #[.pointer none, v, u] w fun e w' => e = .returned (.bool false) ∧ Below w.heap.size w w' := by
  refine enter (St w (fun _ => False) σ [] []) Tryz.func12 rfl Tryz.ntmps12 rfl (St.start hi) ?_
  refine cw_seq ?_
  refine cw_region ?_
  refine ow_val rfl rfl (ex_assign rfl) ?_
  refine ow_nil ?_
  refine qw_seq ?_
  refine cw_seq ?_
  refine cw_seq ?_
  refine cw_region ?_
  refine ow_val rfl rfl (ex_move rfl) ?_
  refine ow_val rfl rfl (ex_ptrnil rfl) ?_
  refine ow_nil ?_
  refine qw_seq ?_
  refine cw_cond rfl (fun c9 => ?_) (fun c9 => ?_)
  ·
    refine cw_seq ?_
    refine cw_region ?_
    refine ow_val rfl rfl (ex_assign rfl) ?_
    refine ow_nil ?_
    refine qw_seq ?_
    refine cw_ret ?_
    refine qw_then_ret ?_
    refine qw_ret1 rfl rfl (fun w' h => ⟨congrArg (fun z => Ending.returned (.bool z)) ?_, h.ag.below⟩)
    rfl
  ·
    cases c9
set_option maxHeartbeats 400000 in
theorem pHead8 {σ : Hp} {w : World} (hi : Imm σ w) (htab : TabC Tryz.prog σ) : Calls Tryz.prog 9 #[] w fun e w' => e = .returned (.bool true) ∧ Below w.heap.size w w' := by
  refine enter (St w (fun _ => False) σ [] []) Tryz.func9 rfl Tryz.ntmps9 rfl (St.start hi) ?_
  refine cw_seq ?_
  refine cw_region ?_
  refine ow_val rfl rfl (ex_assign rfl) ?_
  refine ow_nil ?_
  refine qw_seq ?_
  refine cw_seq ?_
  refine cw_region ?_
  refine ow_ck0E rfl rfl (ex_callf rfl (fun w h => pNew h.im)) (fun v3 σ4 K4 hl4 hf4 hr4 => ?_)
  obtain ⟨b, rfl, hv4⟩ := hr4
  refine ow_val rfl rfl (ex_assign rfl) ?_
  refine ow_nil ?_
  refine qw_seq ?_
  refine cw_seq ?_
  refine cw_seq ?_
  refine cw_region ?_
  refine ow_val rfl rfl (ex_move rfl) ?_
  refine ow_val rfl rfl (ex_ptrnil rfl) ?_
  refine ow_nil ?_
  refine qw_seq ?_
  refine cw_cond rfl (fun c5 => ?_) (fun c5 => ?_)
  ·
    simp at c5
  ·
    refine cw_skip ?_
    refine qw_seq ?_
    refine cw_seq ?_
    refine cw_region ?_
    refine ow_val rfl rfl (ex_move rfl) ?_
    refine ow_val rfl rfl (ex_build (parts := [(0, _), (1, _)]) (cells := #[.int .i64 1, .int .i64 1, .slice none 0 0, .slice none 0 0]) rfl (by kernel_rfl)) ?_
    refine ow_slit rfl rfl (exw_slit1 rfl rfl) ?_; intro b10
    refine ow_frzH (fun _ h => h) (fun σ5 hl5 hf5 hb10 => ?_)
    have htp : TermC σ5 [.int .i64 2, .int .i64 0, .slice none 0 0, .slice (some ⟨b10, 0, none⟩) 1 1] pubOne := TermC.mk (by omega) (by omega) (BytesV.nil _) (KidsV.one (CellsAt.of4 hb10) (atomOne_c _))
    refine ow_val rfl rfl (ex_build (parts := [(0, _), (3, _)]) (cells := #[.int .i64 2, .int .i64 0, .slice none 0 0, .slice (some ⟨b10, 0, none⟩) 1 1]) rfl (by kernel_rfl)) ?_
    refine ow_ckE rfl rfl (ex_callf rfl (fun w h => pIntern pubOne h.hasE ((htab.le hl4).le hl5) (hv4.le hl5) htp)) (fun v12 σ6 K6 hl6 hf6 hr6 => ?_)
    rw [intern_pub] at hr6
    obtain ⟨rfl, hv6⟩ := hr6
    have htab6 := ((htab.le hl4).le hl5).le hl6
    refine ow_nil ?_
    refine qw_seq ?_
    refine cw_seq ?_
    refine cw_region ?_
    refine ow_val rfl rfl (ex_move rfl) ?_
    refine ow_slit rfl rfl (exw_slit1 rfl rfl) ?_; intro b12
    refine ow_frzO (fun _ h => h) (fun σ7 hl7 hf7 hb12 => ?_)
    have hz0 : IntsV σ7 (.slice (some ⟨b12, 0, none⟩) 1 1) [0] := IntsV.lit hb12 rfl
    refine ow_cr rfl rfl (ex_callf rfl (fun w h => callR (pClosure h.hasE (htab6.le hl7) (hv6.le hl7) hz0 (by decide)))) (fun v13 σ8 hl8 hf8 hr8 => ?_)
    rw [closH] at hr8
    obtain ⟨p8, c8, rfl, _, hs8⟩ := hr8
    obtain ⟨bq, oq, rfl, hcq⟩ := hs8.resolve_left (by simp)
    refine ow_val rfl rfl (ex_assign rfl) ?_
    refine ow_nil ?_
    refine qw_seq ?_
    refine cw_seq ?_
    refine cw_region ?_
    refine ow_val rfl rfl (ex_move rfl) ?_
    refine ow_val rfl rfl (ex_len (ty := 0) rfl) ?_
    refine ow_val rfl rfl (ex_eql rfl rfl) ?_
    refine ow_val rfl rfl (ex_move rfl) ?_
    refine ow_split (g := some (3, true)) rfl (fun s17 => ?_) (fun s17 => ?_)
    ·
      refine ow_val rfl (gd_go rfl s17) (ex_move rfl) ?_
      refine ow_val rfl (gd_go rfl s17) (ex_index_nat (i := 0) rfl rfl (by simp)) ?_
      refine ow_val rfl (gd_go rfl s17) (ex_load1 rfl (ld_imm1 (hcq.int (i := 0) (by simp)))) ?_
      refine ow_val rfl (gd_go rfl s17) (ex_eql rfl rfl) ?_
      refine ow_val rfl rfl (ex_pickt rfl s17 rfl) ?_
      refine ow_val rfl rfl (ex_move rfl) ?_
      refine ow_split (g := some (9, true)) rfl (fun s23 => ?_) (fun s23 => ?_)
      ·
        refine ow_val rfl (gd_go rfl s23) (ex_move rfl) ?_
        refine ow_val rfl (gd_go rfl s23) (ex_index_nat (i := 1) rfl rfl (by simp)) ?_
        refine ow_val rfl (gd_go rfl s23) (ex_load1 rfl (ld_imm1 (hcq.int (i := 1) (by simp)))) ?_
        refine ow_val rfl (gd_go rfl s23) (ex_eql rfl rfl) ?_
        refine ow_val rfl rfl (ex_pickt rfl s23 rfl) ?_
        refine ow_val rfl rfl (ex_move rfl) ?_
        refine ow_split (g := some (15, true)) rfl (fun s29 => ?_) (fun s29 => ?_)
        ·
          refine ow_val rfl (gd_go rfl s29) (ex_move rfl) ?_
          refine ow_cr rfl (gd_go rfl s29) (ex_callf rfl (fun w h => callR (pClosure h.hasE ((htab6.le hl7).le hl8) ((hv6.le hl7).le hl8) (IntsV.nil _) (by decide)))) (fun v31 σ9 hl9 hf9 hr9 => ?_)
          rw [closE] at hr9
          obtain ⟨p9, c9, rfl, _, _⟩ := hr9
          refine ow_val rfl (gd_go rfl s29) (ex_len (ty := 0) rfl) ?_
          refine ow_val rfl (gd_go rfl s29) (ex_eql rfl rfl) ?_
          refine ow_val rfl rfl (ex_pickt rfl s29 rfl) ?_
          refine ow_val rfl rfl (ex_move rfl) ?_
          refine ow_split (g := some (21, true)) rfl (fun s35 => ?_) (fun s35 => ?_)
          ·
            refine ow_cv rfl (gd_go rfl s35) (ex_callf rfl (fun w h => callB ((pCanN h.im)))) ?_
            refine ow_val rfl (gd_go rfl s35) (ex_not rfl) ?_
            refine ow_val rfl rfl (ex_pickt rfl s35 rfl) ?_
            refine ow_val rfl rfl (ex_assign rfl) ?_
            refine ow_nil ?_
            refine qw_seq ?_
            refine cw_ret ?_
            refine qw_ret1 rfl rfl (fun w' h => ⟨congrArg (fun z => Ending.returned (.bool z)) ?_, h.ag.below⟩)
            rfl
          ·
            exact absurd s35 (by decide)
        ·
          exact absurd s29 (by decide)
      ·
        exact absurd s23 (by decide)
    ·
      exact absurd s17 (by decide)
end Go.Proofs.YtnjomdjkbbhdoaaGreatDoor
namespace Go.Proofs.YtnjomdjkbbhdoaaGreatDoor
open Go.RowKit
set_option linter.unusedVariables false
set_option linter.unusedSimpArgs false
set_option maxRecDepth 100000
set_option maxHeartbeats 400000 in
theorem rRightD : ∀ (t : T) {deep : Nat} {σ : Hp} {cs : List Value} {w : World}, Imm σ w → TermC σ cs t → deep ≤ 16 → Calls Tryz.prog 102 #[.agg cs.toArray, .int .i64 (deep : Int)] w fun e w' => e = .returned (.bool (rightD t deep)) ∧ Below w.heap.size w w' := by
  intro t
  induction t using T.ind with
  | _ o n d ks ih =>
  intro deep σ cs w hi ht hde
  obtain ⟨dv, kv, rfl, ho, hn, hd, hk⟩ := ht.opn
  simp only [T.kids, T.op, T.num, T.data] at *
  obtain ⟨p, c, rfl, hc, hm⟩ := hk.slice
  obtain ⟨pd, cd, rfl, hcd, hmd⟩ := hd.slice
  have hm2 := hm
  unfold maxKids at hm2
  refine enter (St w (fun _ => False) σ [] []) Tryz.func102 rfl Tryz.ntmps102 rfl (St.start hi) ?_
  refine cw_seq ?_
  refine cw_region ?_
  refine ow_blk rfl rfl (exw_box rfl) ?_; intro b2
  refine ow_val rfl rfl (ex_assign rfl) ?_
  refine ow_nil ?_
  refine qw_seq ?_
  refine cw_seq ?_
  refine cw_region ?_
  refine ow_val rfl rfl (ex_loadR rfl (by first | exact ld_ownN 0 rfl rfl | exact ld_ownN 1 rfl rfl | exact ld_ownN 2 rfl rfl | exact ld_ownN 3 rfl rfl | exact ld_ownN 4 rfl rfl | exact ld_ownN 5 rfl rfl | exact ld_ownN 6 rfl rfl | exact ld_ownN 7 rfl rfl | exact ld_ownGN 0 rfl rfl | exact ld_ownGN 1 rfl rfl | exact ld_immT (by assumption) (by assumption))) ?_
  refine ow_cv rfl rfl (ex_callf rfl (fun w h => callB ((rKids h.im hk)))) ?_
  refine ow_val rfl rfl (ex_assign rfl) ?_
  refine ow_nil ?_
  refine qw_seq ?_
  refine cw_seq ?_
  refine cw_cut1 21 (.bool (decide (16 ≤ (deep : Int)) || (!kidsOK o ks || decide (8192 < (d.length : Int))))) ?_ ?_
  ·
    refine cw_region ?_
    refine ow_val rfl rfl (ex_move rfl) ?_
    refine ow_val rfl rfl (ex_geq rfl rfl) ?_
    refine ow_val rfl rfl (ex_move rfl) ?_
    refine ow_split (g := some (2, false)) rfl (fun s12 => ?_) (fun s12 => ?_)
    ·
      refine ow_skip rfl (gd_no rfl s12) ?_
      refine ow_skip rfl (gd_no rfl s12) ?_
      refine ow_val rfl rfl (ex_pickt rfl s12 rfl) ?_
      refine ow_val rfl rfl (ex_move rfl) ?_
      refine ow_skip rfl rfl ?_
      refine ow_skip rfl rfl ?_
      refine ow_skip rfl rfl ?_
      refine ow_skip rfl rfl ?_
      refine ow_val rfl rfl (ex_pick_t rfl rfl) ?_
      refine ow_nil ?_
      exact qw_meet (subL_meet 12 21 (lkv rfl (by first | rfl | (simp_all; done) | (simp_all <;> omega))) rfl rfl) (fun w h => h)
    ·
      refine ow_val rfl (gd_go rfl s12) (ex_move rfl) ?_
      refine ow_val rfl (gd_go rfl s12) (ex_not rfl) ?_
      refine ow_val rfl rfl (ex_pickf rfl s12 rfl) ?_
      refine ow_val rfl rfl (ex_move rfl) ?_
      refine ow_split (g := some (6, false)) rfl (fun s16 => ?_) (fun s16 => ?_)
      ·
        refine ow_skip rfl (gd_no rfl s16) ?_
        refine ow_skip rfl (gd_no rfl s16) ?_
        refine ow_skip rfl (gd_no rfl s16) ?_
        refine ow_skip rfl (gd_no rfl s16) ?_
        refine ow_val rfl rfl (ex_pickt rfl s16 rfl) ?_
        refine ow_nil ?_
        exact qw_meet (subL_meet 12 21 (lkv rfl (by first | rfl | (simp_all; done) | (simp_all <;> omega))) rfl rfl) (fun w h => h)
      ·
        refine ow_val rfl (gd_go rfl s16) (ex_field rfl) ?_
        refine ow_val rfl (gd_go rfl s16) (ex_load1 rfl (by first | exact ld_own1 0 rfl rfl | exact ld_own1 1 rfl rfl | exact ld_own1 2 rfl rfl | exact ld_own1 3 rfl rfl | exact ld_own1 4 rfl rfl | exact ld_own1 5 rfl rfl | exact ld_own1 6 rfl rfl | exact ld_own1 7 rfl rfl | exact ld_ownG1 0 rfl rfl | exact ld_ownG1 1 rfl rfl | exact ld_imm1 (by assumption))) ?_
        refine ow_val rfl (gd_go rfl s16) (ex_len (ty := 0) rfl) ?_
        refine ow_val rfl (gd_go rfl s16) (ex_gtr rfl rfl) ?_
        refine ow_val rfl rfl (ex_pickf rfl s16 rfl) ?_
        refine ow_nil ?_
        exact qw_meet (subL_meet 12 21 (lkv rfl (by first | rfl | (simp_all; done) | (simp_all <;> omega))) rfl rfl) (fun w h => h)
  ·
    refine cw_cond rfl (fun c21 => ?_) (fun c21 => ?_)
    ·
      refine cw_seq ?_
      refine cw_region ?_
      refine ow_val rfl rfl (ex_assign rfl) ?_
      refine ow_nil ?_
      refine qw_seq ?_
      refine cw_ret ?_
      refine qw_then_ret ?_
      refine qw_ret1 rfl rfl (fun w' h => ⟨congrArg (fun z => Ending.returned (.bool z)) ?_, h.ag.below⟩)
      symm
      rw [rightD_mk]
      simp at c21
      rcases c21 with c21 | c21 | c21
      · simp [show ¬ deep < 16 by omega]
      · simp [shape_go, c21]
      · simp [shape_go, c21]
    ·
      refine cw_skip ?_
      refine qw_seq ?_
      refine cw_seq ?_
      refine cw_cut1 44 (.bool (decide (o = 1) && (decide (n < 0) || decide (1099511627776 < n)) || decide (o ≠ 1) && decide (n ≠ 0))) ?_ ?_
      ·
        refine cw_region ?_
        refine ow_val rfl rfl (ex_field rfl) ?_
        refine ow_val rfl rfl (ex_load1 rfl (by first | exact ld_own1 0 rfl rfl | exact ld_own1 1 rfl rfl | exact ld_own1 2 rfl rfl | exact ld_own1 3 rfl rfl | exact ld_own1 4 rfl rfl | exact ld_own1 5 rfl rfl | exact ld_own1 6 rfl rfl | exact ld_own1 7 rfl rfl | exact ld_ownG1 0 rfl rfl | exact ld_ownG1 1 rfl rfl | exact ld_imm1 (by assumption))) ?_
        refine ow_val rfl rfl (ex_eql rfl rfl) ?_
        refine ow_val rfl rfl (ex_move rfl) ?_
        refine ow_split (g := some (3, true)) rfl (fun s25 => ?_) (fun s25 => ?_)
        ·
          refine ow_val rfl (gd_go rfl s25) (ex_field rfl) ?_
          refine ow_val rfl (gd_go rfl s25) (ex_load1 rfl (by first | exact ld_own1 0 rfl rfl | exact ld_own1 1 rfl rfl | exact ld_own1 2 rfl rfl | exact ld_own1 3 rfl rfl | exact ld_own1 4 rfl rfl | exact ld_own1 5 rfl rfl | exact ld_own1 6 rfl rfl | exact ld_own1 7 rfl rfl | exact ld_ownG1 0 rfl rfl | exact ld_ownG1 1 rfl rfl | exact ld_imm1 (by assumption))) ?_
          refine ow_val rfl (gd_go rfl s25) (ex_lss rfl rfl) ?_
          refine ow_val rfl (gd_go rfl s25) (ex_move rfl) ?_
          refine ow_split (g := some (7, false)) rfl (fun s29 => ?_) (fun s29 => ?_)
          ·
            refine ow_skip rfl (gd_no rfl s29) ?_
            refine ow_skip rfl (gd_no rfl s29) ?_
            refine ow_skip rfl (gd_no rfl s29) ?_
            refine ow_val rfl (gd_go rfl s25) (ex_pickt rfl s29 rfl) ?_
            refine ow_val rfl rfl (ex_pickt rfl s25 rfl) ?_
            refine ow_val rfl rfl (ex_move rfl) ?_
            refine ow_skip rfl rfl ?_
            refine ow_skip rfl rfl ?_
            refine ow_skip rfl rfl ?_
            refine ow_skip rfl rfl ?_
            refine ow_skip rfl rfl ?_
            refine ow_skip rfl rfl ?_
            refine ow_skip rfl rfl ?_
            refine ow_skip rfl rfl ?_
            refine ow_val rfl rfl (ex_pick_t rfl rfl) ?_
            refine ow_nil ?_
            exact qw_meet (subL_meet 23 44 (lkv rfl (by first | rfl | (simp_all; done) | (simp_all <;> omega))) rfl rfl) (fun w h => h)
          ·
            refine ow_val rfl (gd_go rfl s29) (ex_field rfl) ?_
            refine ow_val rfl (gd_go rfl s29) (ex_load1 rfl (by first | exact ld_own1 0 rfl rfl | exact ld_own1 1 rfl rfl | exact ld_own1 2 rfl rfl | exact ld_own1 3 rfl rfl | exact ld_own1 4 rfl rfl | exact ld_own1 5 rfl rfl | exact ld_own1 6 rfl rfl | exact ld_own1 7 rfl rfl | exact ld_ownG1 0 rfl rfl | exact ld_ownG1 1 rfl rfl | exact ld_imm1 (by assumption))) ?_
            refine ow_val rfl (gd_go rfl s29) (ex_gtr rfl rfl) ?_
            refine ow_val rfl (gd_go rfl s25) (ex_pickf rfl s29 rfl) ?_
            refine ow_val rfl rfl (ex_pickt rfl s25 rfl) ?_
            refine ow_val rfl rfl (ex_move rfl) ?_
            refine ow_split (g := some (13, false)) rfl (fun s35 => ?_) (fun s35 => ?_)
            ·
              refine ow_skip rfl (gd_no rfl s35) ?_
              refine ow_skip rfl (gd_no rfl s35) ?_
              refine ow_skip rfl (gd_no rfl s35) ?_
              refine ow_skip rfl (gd_no rfl s35) ?_
              refine ow_skip rfl rfl ?_
              refine ow_skip rfl rfl ?_
              refine ow_skip rfl rfl ?_
              refine ow_skip rfl (gd_no rfl s35) ?_
              refine ow_val rfl rfl (ex_pickt rfl s35 rfl) ?_
              refine ow_nil ?_
              exact qw_meet (subL_meet 23 44 (lkv rfl (by first | rfl | (simp_all; done) | (simp_all <;> omega))) rfl rfl) (fun w h => h)
            ·
              refine ow_val rfl (gd_go rfl s35) (ex_field rfl) ?_
              refine ow_val rfl (gd_go rfl s35) (ex_load1 rfl (by first | exact ld_own1 0 rfl rfl | exact ld_own1 1 rfl rfl | exact ld_own1 2 rfl rfl | exact ld_own1 3 rfl rfl | exact ld_own1 4 rfl rfl | exact ld_own1 5 rfl rfl | exact ld_own1 6 rfl rfl | exact ld_own1 7 rfl rfl | exact ld_ownG1 0 rfl rfl | exact ld_ownG1 1 rfl rfl | exact ld_imm1 (by assumption))) ?_
              refine ow_val rfl (gd_go rfl s35) (ex_neq rfl rfl) ?_
              refine ow_val rfl (gd_go rfl s35) (ex_move rfl) ?_
              refine ow_split (g := some (17, true)) rfl (fun s39 => ?_) (fun s39 => ?_)
              ·
                refine ow_val rfl (gd_go rfl s39) (ex_field rfl) ?_
                refine ow_val rfl (gd_go rfl s39) (ex_load1 rfl (by first | exact ld_own1 0 rfl rfl | exact ld_own1 1 rfl rfl | exact ld_own1 2 rfl rfl | exact ld_own1 3 rfl rfl | exact ld_own1 4 rfl rfl | exact ld_own1 5 rfl rfl | exact ld_own1 6 rfl rfl | exact ld_own1 7 rfl rfl | exact ld_ownG1 0 rfl rfl | exact ld_ownG1 1 rfl rfl | exact ld_imm1 (by assumption))) ?_
                refine ow_val rfl (gd_go rfl s39) (ex_neq rfl rfl) ?_
                refine ow_val rfl (gd_go rfl s35) (ex_pickt rfl s39 rfl) ?_
                refine ow_val rfl rfl (ex_pickf rfl s35 rfl) ?_
                refine ow_nil ?_
                exact qw_meet (subL_meet 23 44 (lkv rfl (by first | rfl | (simp_all; done) | (simp_all <;> omega))) rfl rfl) (fun w h => h)
              ·
                refine ow_skip rfl (gd_no rfl s39) ?_
                refine ow_skip rfl (gd_no rfl s39) ?_
                refine ow_skip rfl (gd_no rfl s39) ?_
                refine ow_val rfl (gd_go rfl s35) (ex_pickf rfl s39 rfl) ?_
                refine ow_val rfl rfl (ex_pickf rfl s35 rfl) ?_
                refine ow_nil ?_
                exact qw_meet (subL_meet 23 44 (lkv rfl (by first | rfl | (simp_all; done) | (simp_all <;> omega))) rfl rfl) (fun w h => h)
        ·
          refine ow_skip rfl (gd_no rfl s25) ?_
          refine ow_skip rfl (gd_no rfl s25) ?_
          refine ow_skip rfl (gd_no rfl s25) ?_
          refine ow_skip rfl (gd_no rfl s25) ?_
          refine ow_skip rfl rfl ?_
          refine ow_skip rfl rfl ?_
          refine ow_skip rfl rfl ?_
          refine ow_skip rfl (gd_no rfl s25) ?_
          refine ow_val rfl rfl (ex_pickf rfl s25 rfl) ?_
          refine ow_val rfl rfl (ex_move rfl) ?_
          refine ow_val rfl rfl (ex_field rfl) ?_
          refine ow_val rfl rfl (ex_load1 rfl (by first | exact ld_own1 0 rfl rfl | exact ld_own1 1 rfl rfl | exact ld_own1 2 rfl rfl | exact ld_own1 3 rfl rfl | exact ld_own1 4 rfl rfl | exact ld_own1 5 rfl rfl | exact ld_own1 6 rfl rfl | exact ld_own1 7 rfl rfl | exact ld_ownG1 0 rfl rfl | exact ld_ownG1 1 rfl rfl | exact ld_imm1 (by assumption))) ?_
          refine ow_val rfl rfl (ex_neq rfl rfl) ?_
          refine ow_val rfl rfl (ex_move rfl) ?_
          refine ow_split (g := some (17, true)) rfl (fun s39 => ?_) (fun s39 => ?_)
          ·
            refine ow_val rfl (gd_go rfl s39) (ex_field rfl) ?_
            refine ow_val rfl (gd_go rfl s39) (ex_load1 rfl (by first | exact ld_own1 0 rfl rfl | exact ld_own1 1 rfl rfl | exact ld_own1 2 rfl rfl | exact ld_own1 3 rfl rfl | exact ld_own1 4 rfl rfl | exact ld_own1 5 rfl rfl | exact ld_own1 6 rfl rfl | exact ld_own1 7 rfl rfl | exact ld_ownG1 0 rfl rfl | exact ld_ownG1 1 rfl rfl | exact ld_imm1 (by assumption))) ?_
            refine ow_val rfl (gd_go rfl s39) (ex_neq rfl rfl) ?_
            refine ow_val rfl rfl (ex_pickt rfl s39 rfl) ?_
            refine ow_val rfl rfl (ex_pick_f rfl rfl) ?_
            refine ow_nil ?_
            exact qw_meet (subL_meet 23 44 (lkv rfl (by first | rfl | (simp_all; done) | (simp_all <;> omega))) rfl rfl) (fun w h => h)
          ·
            refine ow_skip rfl (gd_no rfl s39) ?_
            refine ow_skip rfl (gd_no rfl s39) ?_
            refine ow_skip rfl (gd_no rfl s39) ?_
            refine ow_val rfl rfl (ex_pickf rfl s39 rfl) ?_
            refine ow_val rfl rfl (ex_pick_f rfl rfl) ?_
            refine ow_nil ?_
            exact qw_meet (subL_meet 23 44 (lkv rfl (by first | rfl | (simp_all; done) | (simp_all <;> omega))) rfl rfl) (fun w h => h)
      ·
        refine cw_cond rfl (fun c44 => ?_) (fun c44 => ?_)
        ·
          refine cw_seq ?_
          refine cw_region ?_
          refine ow_val rfl rfl (ex_assign rfl) ?_
          refine ow_nil ?_
          refine qw_seq ?_
          refine cw_ret ?_
          refine qw_then_ret ?_
          refine qw_ret1 rfl rfl (fun w' h => ⟨congrArg (fun z => Ending.returned (.bool z)) ?_, h.ag.below⟩)
          symm
          rw [rightD_mk]
          rw [shape_go, c44]
          simp
        ·
          refine cw_skip ?_
          refine qw_seq ?_
          refine cw_seq ?_
          refine cw_cut1 68 (.bool (decide (0 < (d.length : Int)) && decide (o ≠ 3) && decide (o ≠ 4) && decide (o ≠ 5) && decide (o ≠ 6))) ?_ ?_
          ·
            refine cw_region ?_
            refine ow_val rfl rfl (ex_field rfl) ?_
            refine ow_val rfl rfl (ex_load1 rfl (by first | exact ld_own1 0 rfl rfl | exact ld_own1 1 rfl rfl | exact ld_own1 2 rfl rfl | exact ld_own1 3 rfl rfl | exact ld_own1 4 rfl rfl | exact ld_own1 5 rfl rfl | exact ld_own1 6 rfl rfl | exact ld_own1 7 rfl rfl | exact ld_ownG1 0 rfl rfl | exact ld_ownG1 1 rfl rfl | exact ld_imm1 (by assumption))) ?_
            refine ow_val rfl rfl (ex_len (ty := 0) rfl) ?_
            refine ow_val rfl rfl (ex_gtr rfl rfl) ?_
            refine ow_val rfl rfl (ex_move rfl) ?_
            refine ow_split (g := some (4, true)) rfl (fun s49 => ?_) (fun s49 => ?_)
            ·
              refine ow_val rfl (gd_go rfl s49) (ex_field rfl) ?_
              refine ow_val rfl (gd_go rfl s49) (ex_load1 rfl (by first | exact ld_own1 0 rfl rfl | exact ld_own1 1 rfl rfl | exact ld_own1 2 rfl rfl | exact ld_own1 3 rfl rfl | exact ld_own1 4 rfl rfl | exact ld_own1 5 rfl rfl | exact ld_own1 6 rfl rfl | exact ld_own1 7 rfl rfl | exact ld_ownG1 0 rfl rfl | exact ld_ownG1 1 rfl rfl | exact ld_imm1 (by assumption))) ?_
              refine ow_val rfl (gd_go rfl s49) (ex_neq rfl rfl) ?_
              refine ow_val rfl rfl (ex_pickt rfl s49 rfl) ?_
              refine ow_val rfl rfl (ex_move rfl) ?_
              refine ow_split (g := some (9, true)) rfl (fun s54 => ?_) (fun s54 => ?_)
              ·
                refine ow_val rfl (gd_go rfl s54) (ex_field rfl) ?_
                refine ow_val rfl (gd_go rfl s54) (ex_load1 rfl (by first | exact ld_own1 0 rfl rfl | exact ld_own1 1 rfl rfl | exact ld_own1 2 rfl rfl | exact ld_own1 3 rfl rfl | exact ld_own1 4 rfl rfl | exact ld_own1 5 rfl rfl | exact ld_own1 6 rfl rfl | exact ld_own1 7 rfl rfl | exact ld_ownG1 0 rfl rfl | exact ld_ownG1 1 rfl rfl | exact ld_imm1 (by assumption))) ?_
                refine ow_val rfl (gd_go rfl s54) (ex_neq rfl rfl) ?_
                refine ow_val rfl rfl (ex_pickt rfl s54 rfl) ?_
                refine ow_val rfl rfl (ex_move rfl) ?_
                refine ow_split (g := some (14, true)) rfl (fun s59 => ?_) (fun s59 => ?_)
                ·
                  refine ow_val rfl (gd_go rfl s59) (ex_field rfl) ?_
                  refine ow_val rfl (gd_go rfl s59) (ex_load1 rfl (by first | exact ld_own1 0 rfl rfl | exact ld_own1 1 rfl rfl | exact ld_own1 2 rfl rfl | exact ld_own1 3 rfl rfl | exact ld_own1 4 rfl rfl | exact ld_own1 5 rfl rfl | exact ld_own1 6 rfl rfl | exact ld_own1 7 rfl rfl | exact ld_ownG1 0 rfl rfl | exact ld_ownG1 1 rfl rfl | exact ld_imm1 (by assumption))) ?_
                  refine ow_val rfl (gd_go rfl s59) (ex_neq rfl rfl) ?_
                  refine ow_val rfl rfl (ex_pickt rfl s59 rfl) ?_
                  refine ow_val rfl rfl (ex_move rfl) ?_
                  refine ow_split (g := some (19, true)) rfl (fun s64 => ?_) (fun s64 => ?_)
                  ·
                    refine ow_val rfl (gd_go rfl s64) (ex_field rfl) ?_
                    refine ow_val rfl (gd_go rfl s64) (ex_load1 rfl (by first | exact ld_own1 0 rfl rfl | exact ld_own1 1 rfl rfl | exact ld_own1 2 rfl rfl | exact ld_own1 3 rfl rfl | exact ld_own1 4 rfl rfl | exact ld_own1 5 rfl rfl | exact ld_own1 6 rfl rfl | exact ld_own1 7 rfl rfl | exact ld_ownG1 0 rfl rfl | exact ld_ownG1 1 rfl rfl | exact ld_imm1 (by assumption))) ?_
                    refine ow_val rfl (gd_go rfl s64) (ex_neq rfl rfl) ?_
                    refine ow_val rfl rfl (ex_pickt rfl s64 rfl) ?_
                    refine ow_nil ?_
                    exact qw_meet (subL_meet 24 68 (lkv rfl (by first | rfl | (simp_all; done) | (simp_all <;> omega))) rfl rfl) (fun w h => h)
                  ·
                    refine ow_skip rfl (gd_no rfl s64) ?_
                    refine ow_skip rfl (gd_no rfl s64) ?_
                    refine ow_skip rfl (gd_no rfl s64) ?_
                    refine ow_val rfl rfl (ex_pickf rfl s64 rfl) ?_
                    refine ow_nil ?_
                    exact qw_meet (subL_meet 24 68 (lkv rfl (by first | rfl | (simp_all; done) | (simp_all <;> omega))) rfl rfl) (fun w h => h)
                ·
                  refine ow_skip rfl (gd_no rfl s59) ?_
                  refine ow_skip rfl (gd_no rfl s59) ?_
                  refine ow_skip rfl (gd_no rfl s59) ?_
                  refine ow_val rfl rfl (ex_pickf rfl s59 rfl) ?_
                  refine ow_val rfl rfl (ex_move rfl) ?_
                  refine ow_skip rfl rfl ?_
                  refine ow_skip rfl rfl ?_
                  refine ow_skip rfl rfl ?_
                  refine ow_val rfl rfl (ex_pick_f rfl rfl) ?_
                  refine ow_nil ?_
                  exact qw_meet (subL_meet 24 68 (lkv rfl (by first | rfl | (simp_all; done) | (simp_all <;> omega))) rfl rfl) (fun w h => h)
              ·
                refine ow_skip rfl (gd_no rfl s54) ?_
                refine ow_skip rfl (gd_no rfl s54) ?_
                refine ow_skip rfl (gd_no rfl s54) ?_
                refine ow_val rfl rfl (ex_pickf rfl s54 rfl) ?_
                refine ow_val rfl rfl (ex_move rfl) ?_
                refine ow_skip rfl rfl ?_
                refine ow_skip rfl rfl ?_
                refine ow_skip rfl rfl ?_
                refine ow_val rfl rfl (ex_pick_f rfl rfl) ?_
                refine ow_val rfl rfl (ex_move rfl) ?_
                refine ow_skip rfl rfl ?_
                refine ow_skip rfl rfl ?_
                refine ow_skip rfl rfl ?_
                refine ow_val rfl rfl (ex_pick_f rfl rfl) ?_
                refine ow_nil ?_
                exact qw_meet (subL_meet 24 68 (lkv rfl (by first | rfl | (simp_all; done) | (simp_all <;> omega))) rfl rfl) (fun w h => h)
            ·
              refine ow_skip rfl (gd_no rfl s49) ?_
              refine ow_skip rfl (gd_no rfl s49) ?_
              refine ow_skip rfl (gd_no rfl s49) ?_
              refine ow_val rfl rfl (ex_pickf rfl s49 rfl) ?_
              refine ow_val rfl rfl (ex_move rfl) ?_
              refine ow_skip rfl rfl ?_
              refine ow_skip rfl rfl ?_
              refine ow_skip rfl rfl ?_
              refine ow_val rfl rfl (ex_pick_f rfl rfl) ?_
              refine ow_val rfl rfl (ex_move rfl) ?_
              refine ow_skip rfl rfl ?_
              refine ow_skip rfl rfl ?_
              refine ow_skip rfl rfl ?_
              refine ow_val rfl rfl (ex_pick_f rfl rfl) ?_
              refine ow_val rfl rfl (ex_move rfl) ?_
              refine ow_skip rfl rfl ?_
              refine ow_skip rfl rfl ?_
              refine ow_skip rfl rfl ?_
              refine ow_val rfl rfl (ex_pick_f rfl rfl) ?_
              refine ow_nil ?_
              exact qw_meet (subL_meet 24 68 (lkv rfl (by first | rfl | (simp_all; done) | (simp_all <;> omega))) rfl rfl) (fun w h => h)
          ·
            refine cw_cond rfl (fun c68 => ?_) (fun c68 => ?_)
            ·
              refine cw_seq ?_
              refine cw_region ?_
              refine ow_val rfl rfl (ex_assign rfl) ?_
              refine ow_nil ?_
              refine qw_seq ?_
              refine cw_ret ?_
              refine qw_then_ret ?_
              refine qw_ret1 rfl rfl (fun w' h => ⟨congrArg (fun z => Ending.returned (.bool z)) ?_, h.ag.below⟩)
              symm
              rw [rightD_mk]
              rw [shape_go, c68]
              simp
            ·
              refine cw_skip ?_
              refine qw_seq ?_
              refine cw_seq ?_
              refine cw_seq ?_
              refine cw_region ?_
              refine ow_val rfl rfl (ex_assign rfl) ?_
              refine ow_nil ?_
              refine qw_seq ?_
              refine cw_block ?_
              refine cw_loopS (α := Nat) (fun i => [(1, .int .i64 (deep : Int)), (2, .pointer (some ⟨b2, 0, none⟩)), (6, .int .i64 (i : Int))]) (fun i => i ≤ ks.length ∧ (∀ j (h : j < ks.length), j < i → rightD ks[j] (deep + 1) = true) ∧ (∀ j (h : j + 1 < ks.length), j + 1 < i → ord ks[j] ks[j + 1] ≤ 0)) (fun i => ks.length - i) 0 (subL_cons (lkv rfl (by first | rfl | simp)) (subL_cons (lkv rfl (by first | rfl | simp)) (subL_cons (lkv rfl (by first | rfl | simp)) (subL_nil _)))) ⟨Nat.zero_le _, fun j h hj => absurd hj (Nat.not_lt_zero _), fun j h hj => absurd hj (Nat.not_lt_zero _)⟩ ?_
              intro i ⟨hle, hr, hso⟩
              refine cw_seq ?_
              refine cw_seq ?_
              refine cw_region ?_
              refine ow_val rfl rfl (ex_move rfl) ?_
              refine ow_val rfl rfl (ex_field rfl) ?_
              refine ow_val rfl rfl (ex_load1 rfl (by first | exact ld_own1 0 rfl rfl | exact ld_own1 1 rfl rfl | exact ld_own1 2 rfl rfl | exact ld_own1 3 rfl rfl | exact ld_own1 4 rfl rfl | exact ld_own1 5 rfl rfl | exact ld_own1 6 rfl rfl | exact ld_own1 7 rfl rfl | exact ld_ownG1 0 rfl rfl | exact ld_ownG1 1 rfl rfl | exact ld_imm1 (by assumption))) ?_
              refine ow_val rfl rfl (ex_len (ty := 0) rfl) ?_
              refine ow_val rfl rfl (ex_lss rfl rfl) ?_
              refine ow_nil ?_
              refine qw_seq ?_
              refine cw_cond rfl (fun c73 => ?_) (fun c73 => ?_)
              ·
                refine cw_skip ?_
                refine qw_seq ?_
                refine cw_seq ?_
                refine cw_block ?_
                refine cw_seq ?_
                have hlt : i < ks.length := by simp at c73; omega
                obtain ⟨bk, f, ck, cs, e1, e2, hc1, ht1⟩ := hk.get i hlt
                cases e1
                have hdp : deep < 16 := by simp at c21; omega
                refine cw_region ?_
                refine ow_val rfl rfl (ex_field rfl) ?_
                refine ow_val rfl rfl (ex_load1 rfl (by first | exact ld_own1 0 rfl rfl | exact ld_own1 1 rfl rfl | exact ld_own1 2 rfl rfl | exact ld_own1 3 rfl rfl | exact ld_own1 4 rfl rfl | exact ld_own1 5 rfl rfl | exact ld_own1 6 rfl rfl | exact ld_own1 7 rfl rfl | exact ld_ownG1 0 rfl rfl | exact ld_ownG1 1 rfl rfl | exact ld_imm1 (by assumption))) ?_
                refine ow_val rfl rfl (ex_move rfl) ?_
                refine ow_val rfl rfl (ex_index_nat rfl rfl (by omega)) ?_
                refine ow_val rfl rfl (ex_loadR rfl (by first | exact ld_ownN 0 rfl rfl | exact ld_ownN 1 rfl rfl | exact ld_ownN 2 rfl rfl | exact ld_ownN 3 rfl rfl | exact ld_ownN 4 rfl rfl | exact ld_ownN 5 rfl rfl | exact ld_ownN 6 rfl rfl | exact ld_ownN 7 rfl rfl | exact ld_ownGN 0 rfl rfl | exact ld_ownGN 1 rfl rfl | exact ld_immT (by assumption) (by assumption))) ?_
                refine ow_val rfl rfl (ex_move rfl) ?_
                refine ow_val rfl rfl (ex_addi (z := ((deep + 1 : Nat) : Int)) rfl rfl (by omega) (by omega) (by omega)) ?_
                refine ow_cv rfl rfl (ex_callf rfl (fun w h => callB ((ih _ (List.getElem_mem hlt) h.im ht1 (by omega))))) ?_
                refine ow_val rfl rfl (ex_assign rfl) ?_
                refine ow_nil ?_
                refine qw_seq ?_
                refine cw_seq ?_
                refine cw_seq ?_
                refine cw_region ?_
                refine ow_val rfl rfl (ex_move rfl) ?_
                refine ow_val rfl rfl (ex_not rfl) ?_
                refine ow_nil ?_
                refine qw_seq ?_
                refine cw_cond rfl (fun c85 => ?_) (fun c85 => ?_)
                ·
                  refine cw_seq ?_
                  refine cw_region ?_
                  refine ow_val rfl rfl (ex_assign rfl) ?_
                  refine ow_nil ?_
                  refine qw_seq ?_
                  refine cw_ret ?_
                  refine qw_then_ret ?_
                  refine qw_block_ret ?_
                  refine qw_then_ret ?_
                  refine qw_then_ret ?_
                  refine qw_block_ret ?_
                  refine qw_then_ret ?_
                  refine qw_ret1 rfl rfl (fun w' h => ⟨congrArg (fun z => Ending.returned (.bool z)) ?_, h.ag.below⟩)
                  symm
                  rw [rightD_mk]
                  have : rightsD ks (deep + 1) = false := by
                    cases hq : rightsD ks (deep + 1) with
                    | false => rfl
                    | true => have := rightsD_iff.1 hq i hlt; rw [this] at c85; cases c85
                  rw [this]; simp
                ·
                  refine cw_skip ?_
                  refine qw_seq ?_
                  refine cw_cut1 102 (.bool (decide (0 < (i : Int)) && decide (0 < ord (ks.getD (i - 1) zeroT) ks[i]))) ?_ ?_
                  ·
                    refine flow_sound 17 (by kernel_rfl) ?_
                    refine flow_val rfl (ex_move rfl) ?_
                    refine flow_val rfl (ex_gtr rfl rfl) ?_
                    refine flow_val rfl (ex_move rfl) ?_
                    refine flow_split rfl (fun s88 => ?_) (fun s88 => ?_)
                    ·
                      have hpos : 0 < i := by simpa using s88
                      obtain ⟨bk2, f2, ck2, cs2, e1', e2', hc2, ht2⟩ := hk.get (i - 1) (by omega)
                      cases e1'
                      rw [show ks[i - 1] = ks.getD (i - 1) zeroT by simp [List.getD_eq_getElem?_getD, show i - 1 < ks.length by omega]] at ht2
                      refine flow_val (gd_go rfl s88) (ex_field rfl) ?_
                      refine flow_val (gd_go rfl s88) (ex_load1 rfl (by first | exact ld_own1 0 rfl rfl | exact ld_own1 1 rfl rfl | exact ld_own1 2 rfl rfl | exact ld_own1 3 rfl rfl | exact ld_own1 4 rfl rfl | exact ld_own1 5 rfl rfl | exact ld_own1 6 rfl rfl | exact ld_own1 7 rfl rfl | exact ld_ownG1 0 rfl rfl | exact ld_ownG1 1 rfl rfl | exact ld_imm1 (by assumption))) ?_
                      refine flow_val (gd_go rfl s88) (ex_move rfl) ?_
                      refine flow_val (gd_go rfl s88) (ex_subi (z := ((i - 1 : Nat) : Int)) rfl rfl (by omega) (by omega) (by omega)) ?_
                      refine flow_val (gd_go rfl s88) (ex_index_nat rfl rfl (by omega)) ?_
                      refine flow_val (gd_go rfl s88) (ex_loadR rfl (by first | exact ld_ownN 0 rfl rfl | exact ld_ownN 1 rfl rfl | exact ld_ownN 2 rfl rfl | exact ld_ownN 3 rfl rfl | exact ld_ownN 4 rfl rfl | exact ld_ownN 5 rfl rfl | exact ld_ownN 6 rfl rfl | exact ld_ownN 7 rfl rfl | exact ld_ownGN 0 rfl rfl | exact ld_ownGN 1 rfl rfl | exact ld_immT (by assumption) (by assumption))) ?_
                      refine flow_val (gd_go rfl s88) (ex_field rfl) ?_
                      refine flow_val (gd_go rfl s88) (ex_load1 rfl (by first | exact ld_own1 0 rfl rfl | exact ld_own1 1 rfl rfl | exact ld_own1 2 rfl rfl | exact ld_own1 3 rfl rfl | exact ld_own1 4 rfl rfl | exact ld_own1 5 rfl rfl | exact ld_own1 6 rfl rfl | exact ld_own1 7 rfl rfl | exact ld_ownG1 0 rfl rfl | exact ld_ownG1 1 rfl rfl | exact ld_imm1 (by assumption))) ?_
                      refine flow_val (gd_go rfl s88) (ex_move rfl) ?_
                      refine flow_val (gd_go rfl s88) (ex_index_nat rfl rfl (by omega)) ?_
                      refine flow_val (gd_go rfl s88) (ex_loadR rfl (by first | exact ld_ownN 0 rfl rfl | exact ld_ownN 1 rfl rfl | exact ld_ownN 2 rfl rfl | exact ld_ownN 3 rfl rfl | exact ld_ownN 4 rfl rfl | exact ld_ownN 5 rfl rfl | exact ld_ownN 6 rfl rfl | exact ld_ownN 7 rfl rfl | exact ld_ownGN 0 rfl rfl | exact ld_ownGN 1 rfl rfl | exact ld_immT (by assumption) (by assumption))) ?_
                      refine flow_cv (gd_go rfl s88) (ex_callf rfl (fun w h => callB ((rOrder _ _ h.im ht2 ht1)))) ?_
                      refine flow_val (gd_go rfl s88) (ex_gtr rfl rfl) ?_
                      refine flow_val rfl (ex_pickt rfl s88 rfl) ?_
                      refine flow_nil ?_
                      refine fin_is ?_
                      refine fin_is ?_
                      refine fin_is ?_
                      refine fin_is ?_
                      refine fin_is ?_
                      refine fin_is ?_
                      refine fin_is ?_
                      refine fin_is ?_
                      refine fin_is ?_
                      refine fin_is ?_
                      refine fin_is ?_
                      refine fin_is ?_
                      refine fin_is ?_
                      refine fin_is ?_
                      refine fin_is ?_
                      refine fin_is ?_
                      refine fin_is ?_
                      refine fin_nil ?_
                      refine ow_nil ?_
                      exact qw_meet (subL_meet 17 102 (lkv rfl (by first | rfl | (simp_all; done) | (simp_all <;> omega))) rfl rfl) (fun w h => h)
                    ·
                      refine flow_skip (gd_no rfl s88) ?_
                      refine flow_skip (gd_no rfl s88) ?_
                      refine flow_skip (gd_no rfl s88) ?_
                      refine flow_skip (gd_no rfl s88) ?_
                      refine flow_skip (gd_no rfl s88) ?_
                      refine flow_skip (gd_no rfl s88) ?_
                      refine flow_skip (gd_no rfl s88) ?_
                      refine flow_skip (gd_no rfl s88) ?_
                      refine flow_skip (gd_no rfl s88) ?_
                      refine flow_skip (gd_no rfl s88) ?_
                      refine flow_skip (gd_no rfl s88) ?_
                      refine flow_skip (gd_no rfl s88) ?_
                      refine flow_skip (gd_no rfl s88) ?_
                      refine flow_val rfl (ex_pickf rfl s88 rfl) ?_
                      refine flow_nil ?_
                      refine fin_is ?_
                      refine fin_is ?_
                      refine fin_is ?_
                      refine fin_is ?_
                      refine fin_is ?_
                      refine fin_is ?_
                      refine fin_is ?_
                      refine fin_is ?_
                      refine fin_is ?_
                      refine fin_is ?_
                      refine fin_is ?_
                      refine fin_is ?_
                      refine fin_is ?_
                      refine fin_is ?_
                      refine fin_is ?_
                      refine fin_is ?_
                      refine fin_is ?_
                      refine fin_nil ?_
                      refine ow_nil ?_
                      exact qw_meet (subL_meet 17 102 (lkv rfl (by first | rfl | (simp_all; done) | (simp_all <;> omega))) rfl rfl) (fun w h => h)
                  ·
                    refine cw_cond rfl (fun c102 => ?_) (fun c102 => ?_)
                    ·
                      refine cw_seq ?_
                      refine cw_region ?_
                      refine ow_val rfl rfl (ex_assign rfl) ?_
                      refine ow_nil ?_
                      refine qw_seq ?_
                      refine cw_ret ?_
                      refine qw_block_ret ?_
                      refine qw_then_ret ?_
                      refine qw_then_ret ?_
                      refine qw_block_ret ?_
                      refine qw_then_ret ?_
                      refine qw_ret1 rfl rfl (fun w' h => ⟨congrArg (fun z => Ending.returned (.bool z)) ?_, h.ag.below⟩)
                      symm
                      rw [rightD_mk]
                      have : sorted ks = false := by
                        cases hq : sorted ks with
                        | false => rfl
                        | true =>
                          simp only [Bool.and_eq_true, decide_eq_true_eq] at c102
                          have := sorted_iff.1 hq (i - 1) (by omega)
                          have e : i - 1 + 1 = i := by omega
                          simp only [e] at this
                          rw [List.getD_eq_getElem?_getD, List.getElem?_eq_getElem (show i - 1 < ks.length by omega), Option.getD_some] at c102
                          omega
                      rw [this]; simp
                    ·
                      refine cw_skip ?_
                      refine qw_block_normal ?_
                      refine qw_seq ?_
                      refine cw_region ?_
                      refine ow_val rfl rfl (ex_move rfl) ?_
                      refine ow_val rfl rfl (ex_addi (z := ((i + 1 : Nat) : Int)) rfl rfl (by omega) (by omega) (by omega)) ?_
                      refine ow_val rfl rfl (ex_assign rfl) ?_
                      refine ow_nil ?_
                      exact qw_roundS (i + 1) (by omega) (subL_cons (lkv rfl (by first | rfl | simp)) (subL_cons (lkv rfl (by first | rfl | simp)) (subL_cons (lkv rfl (by first | rfl | simp)) (subL_nil _)))) ⟨by omega, fun j h hj => by
                        by_cases e : j = i
                        · subst e; simpa using c85
                        · exact hr j h (by omega), fun j h hj => by
                        by_cases e : j + 1 = i
                        · subst e
                          have : ord (ks.getD j zeroT) ks[j + 1] ≤ 0 := by simpa using c102
                          rwa [List.getD_eq_getElem?_getD, List.getElem?_eq_getElem (show j < ks.length by omega), Option.getD_some] at this
                        · exact hso j h (by omega)⟩
              ·
                refine cw_exit ?_
                refine qw_then_exit ?_
                refine qw_then_exit ?_
                refine qw_block_exit ?_
                refine qw_seq ?_
                refine cw_seq ?_
                refine cw_region ?_
                refine ow_val rfl rfl (ex_assign rfl) ?_
                refine ow_nil ?_
                refine qw_seq ?_
                refine cw_ret ?_
                refine qw_ret1 rfl rfl (fun w' h => ⟨congrArg (fun z => Ending.returned (.bool z)) ?_, h.ag.below⟩)
                symm
                rw [rightD_mk]
                have hsh : shape o n d ks = true := by
                  rw [shape_go, c44, c68]
                  simp at c21 ⊢
                  exact ⟨c21.2.1, by omega⟩
                have hdp : deep < 16 := by simp at c21; omega
                have he : i = ks.length := by simp at c73; omega
                rw [hsh, rightsD_iff.2 (fun j h => hr j h (by omega)), sorted_iff.2 (fun j h => hso j h (by omega))]
                simp [hdp]
set_option maxHeartbeats 400000 in
theorem rRight (t : T) {σ : Hp} {cs : List Value} {w : World} (hi : Imm σ w) (ht : TermC σ cs t) : Calls Tryz.prog 75 #[.agg cs.toArray] w fun e w' => e = .returned (.bool (right t)) ∧ Below w.heap.size w w' := by
  have ht0 := ht
  obtain ⟨dv, kv, rfl, ho, hn, hd, hk⟩ := ht.opn
  refine enter (St w (fun _ => False) σ [] []) Tryz.func75 rfl Tryz.ntmps75 rfl (St.start hi) ?_
  refine cw_seq ?_
  refine cw_region ?_
  refine ow_blk rfl rfl (exw_box rfl) ?_; intro b1
  refine ow_val rfl rfl (ex_assign rfl) ?_
  refine ow_nil ?_
  refine qw_seq ?_
  refine cw_seq ?_
  refine cw_region ?_
  refine ow_val rfl rfl (ex_loadR rfl (by first | exact ld_ownN 0 rfl rfl | exact ld_ownN 1 rfl rfl | exact ld_ownN 2 rfl rfl | exact ld_ownN 3 rfl rfl | exact ld_ownN 4 rfl rfl | exact ld_ownN 5 rfl rfl | exact ld_ownN 6 rfl rfl | exact ld_ownN 7 rfl rfl | exact ld_ownGN 0 rfl rfl | exact ld_ownGN 1 rfl rfl | exact ld_immT (by assumption) (by assumption))) ?_
  refine ow_cv rfl rfl (ex_callf rfl (fun w h => callB ((rRightD t (deep := 0) h.im ht0 (by omega))))) ?_
  refine ow_val rfl rfl (ex_assign rfl) ?_
  refine ow_nil ?_
  refine qw_seq ?_
  refine cw_ret ?_
  refine qw_ret1 rfl rfl (fun w' h => ⟨rfl, h.ag.below⟩)
end Go.Proofs.YtnjomdjkbbhdoaaGreatDoor
namespace Go.Proofs.YtnjomdjkbbhdoaaGreatDoor
open Go.RowKit
set_option linter.unusedVariables false
set_option linter.unusedSimpArgs false
set_option maxRecDepth 100000
set_option maxHeartbeats 400000 in
theorem rFind (t : T) {b : Nat} {sv : Value} {ts : List T} {ct : List Value} {σ : Hp} {w : World} (hi : Imm σ w) (hc0 : CellsAt σ b 0 [sv]) (hks : KidsV σ sv ts) (ht : TermC σ ct t) : Calls Tryz.prog 76 #[.pointer (some ⟨b, 0, none⟩), .agg ct.toArray] w fun e w' => e = .returned (.tuple #[.int .i64 (posT ts t), .bool (decide (0 ≤ posT ts t))]) ∧ Below w.heap.size w w' := by
  have ht0 := ht
  obtain ⟨dv, kv, rfl, ho, hn, hd, hk⟩ := ht.opn
  obtain ⟨p, c, rfl, hcl, hml⟩ := hks.slice
  have hm2 := hml
  unfold maxKids at hm2
  refine enter (St w (fun _ => False) σ [] []) Tryz.func76 rfl Tryz.ntmps76 rfl (St.start hi) ?_
  refine cw_seq ?_
  refine cw_region ?_
  refine ow_blk rfl rfl (exw_box rfl) ?_; intro b3
  refine ow_val rfl rfl (ex_assign rfl) ?_
  refine ow_val rfl rfl (ex_assign rfl) ?_
  refine ow_nil ?_
  refine qw_seq ?_
  refine cw_seq ?_
  refine cw_seq ?_
  refine cw_region ?_
  refine ow_val rfl rfl (ex_assign rfl) ?_
  refine ow_nil ?_
  refine qw_seq ?_
  refine cw_block ?_
  refine cw_loopS (α := Nat) (fun i => [(0, .pointer (some ⟨b, 0, none⟩)), (3, .pointer (some ⟨b3, 0, none⟩)), (6, .int .i64 (i : Int))]) (fun i => i ≤ ts.length ∧ ∀ j (h : j < ts.length), j < i → decide (ord ts[j] t = 0) = false) (fun i => ts.length - i) 0 (subL_cons (lkv rfl (by first | rfl | simp)) (subL_cons (lkv rfl (by first | rfl | simp)) (subL_cons (lkv rfl (by first | rfl | simp)) (subL_nil _)))) ⟨Nat.zero_le _, fun j _ h => absurd h (Nat.not_lt_zero _)⟩ ?_
  intro i ⟨hle, hno⟩
  refine cw_seq ?_
  refine cw_seq ?_
  refine cw_region ?_
  refine ow_val rfl rfl (ex_move rfl) ?_
  refine ow_val rfl rfl (ex_move rfl) ?_
  refine ow_val rfl rfl (ex_nilck rfl) ?_
  refine ow_val rfl rfl (ex_field rfl) ?_
  refine ow_val rfl rfl (ex_load1 rfl (by first | exact ld_own1 0 rfl rfl | exact ld_own1 1 rfl rfl | exact ld_own1 2 rfl rfl | exact ld_own1 3 rfl rfl | exact ld_own1 4 rfl rfl | exact ld_own1 5 rfl rfl | exact ld_own1 6 rfl rfl | exact ld_own1 7 rfl rfl | exact ld_ownG1 0 rfl rfl | exact ld_ownG1 1 rfl rfl | exact ld_imm1 (by assumption))) ?_
  refine ow_val rfl rfl (ex_len (ty := 0) rfl) ?_
  refine ow_val rfl rfl (ex_lss rfl rfl) ?_
  refine ow_nil ?_
  refine qw_seq ?_
  refine cw_cond rfl (fun c13 => ?_) (fun c13 => ?_)
  ·
    refine cw_skip ?_
    refine qw_seq ?_
    refine cw_seq ?_
    refine cw_block ?_
    refine cw_seq ?_
    have hlt : i < ts.length := by have := of_decide_eq_true c13; omega
    obtain ⟨bk, f, c', cs, e1, e2, hc1, ht1⟩ := hks.get i hlt
    cases e1
    refine flow_sound 9 (by kernel_rfl) ?_
    refine flow_val rfl (ex_move rfl) ?_
    refine flow_val rfl (ex_nilck rfl) ?_
    refine flow_val rfl (ex_field rfl) ?_
    refine flow_val rfl (ex_load1 rfl (by first | exact ld_own1 0 rfl rfl | exact ld_own1 1 rfl rfl | exact ld_own1 2 rfl rfl | exact ld_own1 3 rfl rfl | exact ld_own1 4 rfl rfl | exact ld_own1 5 rfl rfl | exact ld_own1 6 rfl rfl | exact ld_own1 7 rfl rfl | exact ld_ownG1 0 rfl rfl | exact ld_ownG1 1 rfl rfl | exact ld_imm1 (by assumption))) ?_
    refine flow_val rfl (ex_move rfl) ?_
    refine flow_val rfl (ex_index_nat rfl rfl (by omega)) ?_
    refine flow_val rfl (ex_loadR rfl (ld_immT hc1 ht1)) ?_
    refine flow_val rfl (ex_loadR rfl (by first | exact ld_ownN 0 rfl rfl | exact ld_ownN 1 rfl rfl | exact ld_ownN 2 rfl rfl | exact ld_ownN 3 rfl rfl | exact ld_ownN 4 rfl rfl | exact ld_ownN 5 rfl rfl | exact ld_ownN 6 rfl rfl | exact ld_ownN 7 rfl rfl | exact ld_ownGN 0 rfl rfl | exact ld_ownGN 1 rfl rfl | exact ld_immT (by assumption) (by assumption))) ?_
    refine flow_cv rfl (ex_callf rfl (fun w h => callB ((rSame _ _ h.im ht1 ht0)))) ?_
    refine flow_nil ?_
    refine fin_is ?_
    refine fin_is ?_
    refine fin_is ?_
    refine fin_is ?_
    refine fin_is ?_
    refine fin_is ?_
    refine fin_is ?_
    refine fin_is ?_
    refine fin_is ?_
    refine fin_nil ?_
    refine ow_nil ?_
    refine qw_seq ?_
    refine cw_cond rfl (fun c24 => ?_) (fun c24 => ?_)
    ·
      refine cw_seq ?_
      refine cw_region ?_
      refine ow_val rfl rfl (ex_move rfl) ?_
      refine ow_val rfl rfl (ex_assign rfl) ?_
      refine ow_val rfl rfl (ex_assign rfl) ?_
      refine ow_nil ?_
      refine qw_seq ?_
      refine cw_ret ?_
      refine qw_block_ret ?_
      refine qw_then_ret ?_
      refine qw_then_ret ?_
      refine qw_block_ret ?_
      refine qw_then_ret ?_
      refine qw_ret2 rfl rfl rfl (fun w' h => ⟨?_, h.ag.below⟩)
      have e : posT ts t = (i : Int) := findI_at hlt c24 hno
      rw [e, decide_eq_true (show (0 : Int) ≤ (i : Int) by omega)]
    ·
      refine cw_skip ?_
      refine qw_block_normal ?_
      refine qw_seq ?_
      refine cw_region ?_
      refine ow_val rfl rfl (ex_move rfl) ?_
      refine ow_val rfl rfl (ex_addi (z := ((i + 1 : Nat) : Int)) rfl rfl (by omega) (by omega) (by omega)) ?_
      refine ow_val rfl rfl (ex_assign rfl) ?_
      refine ow_nil ?_
      exact qw_roundS (i + 1) (by omega) (subL_cons (lkv rfl (by first | rfl | simp)) (subL_cons (lkv rfl (by first | rfl | simp)) (subL_cons (lkv rfl (by first | rfl | simp)) (subL_nil _)))) ⟨by omega, fun j hj hji => by
        rcases Nat.lt_or_eq_of_le (Nat.le_of_lt_succ hji) with h1 | h1
        · exact hno j hj h1
        · subst h1; exact c24⟩
  ·
    refine cw_exit ?_
    refine qw_then_exit ?_
    refine qw_then_exit ?_
    refine qw_block_exit ?_
    refine qw_seq ?_
    refine cw_seq ?_
    refine cw_region ?_
    refine ow_val rfl rfl (ex_assign rfl) ?_
    refine ow_val rfl rfl (ex_assign rfl) ?_
    refine ow_nil ?_
    refine qw_seq ?_
    refine cw_ret ?_
    refine qw_ret2 rfl rfl rfl (fun w' h => ⟨?_, h.ag.below⟩)
    have hge : ts.length ≤ i := by have := of_decide_eq_false c13; omega
    have e : posT ts t = -1 := findI_none (fun j hj => hno j hj (by omega))
    rw [e]
    rfl
theorem RefK.seenX {b : Nat} {ts : List T} {σ : Hp} {K : List (Nat × Obj)} {w : World} (h : RefK 63 32 b ts σ K) (hi : Has σ K w) : ∃ sv, CellsAt (exts σ K) b 0 [sv] ∧ KidsV (exts σ K) sv ts := by
  obtain ⟨sv, xs, Gs, rfl, hO, hr, hl⟩ := h
  obtain ⟨p, c, rfl, hc, hsrc⟩ := hO.seen (σ := exts σ ((b, .cells #[sv] 63) :: Gs)) (fun q hq => exts_get hi.nd (by simp [hq]))
  refine ⟨_, CellsAt.of1 (exts_get hi.nd List.mem_cons_self) rfl, p, c, rfl, hc, by unfold maxKids; omega, ?_⟩
  rcases hsrc with h0 | ⟨bb, o, e, hcb⟩
  · exact .inl (List.eq_nil_of_length_eq_zero h0)
  · exact .inr ⟨bb, o, e, (hr.le hi.le).elems hcb⟩
theorem rFindK (t : T) {b : Nat} {ts : List T} {ct : List Value} {σ : Hp} {K : List (Nat × Obj)} {w : World} (hi : Has σ K w) (hv : RefK 63 32 b ts σ K) (ht : TermC σ ct t) : Calls Tryz.prog 76 #[.pointer (some ⟨b, 0, none⟩), .agg ct.toArray] w fun e w' => e = .returned (.tuple #[.int .i64 (posT ts t), .bool (decide (0 ≤ posT ts t))]) ∧ Below w.heap.size w w' :=
  let ⟨_, h1, h2⟩ := hv.seenX hi
  rFind t hi.exts h1 h2 (ht.le hi.le)
set_option maxHeartbeats 400000 in
theorem rPutV : ∀ (t : T) {b : Nat} {ts : List T} {ct : List Value} {σ : Hp} {K : List (Nat × Obj)} {w : World}, Has σ K w → RefK 63 32 b ts σ K → TermC σ ct t → (0 ≤ posT ts t ∨ ts.length + size t ≤ 4096) → Calls Tryz.prog 78 #[.pointer (some ⟨b, 0, none⟩), .agg ct.toArray] w (GiveK (fun σ' u K' => u = .int .i64 (numV t ts) ∧ RefK 63 32 b (putV t ts) σ' K') σ K w) := by
  intro t
  induction t using T.ind with
  | _ o n d ks ih =>
  intro b ts ct σ K w hi hv ht hroom
  have ht0 := ht
  obtain ⟨dv, kv, rfl, ho, hn, hd, hk⟩ := ht.opn
  simp only [T.kids, T.op, T.num, T.data] at *
  obtain ⟨p, c, rfl, hc, hm⟩ := hk.slice
  have hm2 := hm
  unfold maxKids at hm2
  refine enter (St w (keysOf K) σ [] K) Tryz.func78 rfl Tryz.ntmps78 rfl (Has.start hi) ?_
  refine cw_seq ?_
  refine cw_region ?_
  refine ow_blk rfl rfl (exw_box rfl) ?_; intro b3
  refine ow_val rfl rfl (ex_assign rfl) ?_
  refine ow_nil ?_
  refine qw_seq ?_
  refine cw_seq ?_
  refine cw_region ?_
  refine ow_val rfl rfl (ex_move rfl) ?_
  refine ow_val rfl rfl (ex_loadR rfl (by first | exact ld_ownN 0 rfl rfl | exact ld_ownN 1 rfl rfl | exact ld_ownN 2 rfl rfl | exact ld_ownN 3 rfl rfl | exact ld_ownN 4 rfl rfl | exact ld_ownN 5 rfl rfl | exact ld_ownN 6 rfl rfl | exact ld_ownN 7 rfl rfl | exact ld_ownGN 0 rfl rfl | exact ld_ownGN 1 rfl rfl | exact ld_immT (by assumption) (by assumption))) ?_
  refine ow_cv rfl rfl (ex_callf rfl (fun w h => callB ((rFindK _ h.hasE hv ht0)))) ?_
  refine ow_val rfl rfl (ex_move rfl) ?_
  refine ow_val rfl rfl (ex_extract rfl rfl) ?_
  refine ow_val rfl rfl (ex_extract rfl rfl) ?_
  refine ow_val rfl rfl (ex_assign rfl) ?_
  refine ow_val rfl rfl (ex_assign rfl) ?_
  refine ow_nil ?_
  refine qw_seq ?_
  refine cw_seq ?_
  refine cw_seq ?_
  refine cw_region ?_
  refine ow_val rfl rfl (ex_move rfl) ?_
  refine ow_nil ?_
  refine qw_seq ?_
  refine cw_cond rfl (fun c14 => ?_) (fun c14 => ?_)
  ·
    refine cw_seq ?_
    refine cw_region ?_
    refine ow_val rfl rfl (ex_move rfl) ?_
    refine ow_val rfl rfl (ex_assign rfl) ?_
    refine ow_nil ?_
    refine qw_seq ?_
    refine cw_ret ?_
    refine qw_then_ret ?_
    refine qw_ret1 rfl rfl (fun w' h => ?_)
    have h0 := of_decide_eq_true c14
    refine (h.drop (List.nil_sublist _)).givesK (Le.refl _) (Fresh.refl _ _) ⟨?_, ?_⟩
    · unfold numV
      rw [if_pos h0]
    · rw [putV_mk, if_pos h0]
      exact hv
  ·
    have hnp : ¬ 0 ≤ posT ts (.mk o n d ks) := of_decide_eq_false c14
    have hsz := hroom.resolve_left hnp
    simp only [size] at hsz
    refine cw_skip ?_
    refine qw_seq ?_
    refine cw_seq ?_
    refine cw_seq ?_
    refine cw_region ?_
    refine ow_val rfl rfl (ex_assign rfl) ?_
    refine ow_nil ?_
    refine qw_seq ?_
    refine cw_block ?_
    refine cw_loop3 (fun (j : Nat) (τ : Hp) (K' : List (Nat × Obj)) => [(0, .pointer (some ⟨b, 0, none⟩)), (3, .pointer (some ⟨b3, 0, none⟩)), (7, .int .i64 (j : Int))]) (fun j τ K' => j ≤ ks.length ∧ Le σ τ ∧ Fresh σ τ w ∧ RefK 63 32 b (putVs (ks.take j) ts) τ K') (fun j τ K' => τ) (fun j τ K' => K') (fun j _ _ => ks.length - j) 0 σ K (subL_cons (lkv rfl (by first | rfl | simp)) (subL_cons (lkv rfl (by first | rfl | simp)) (subL_cons (lkv rfl (by first | rfl | simp)) (subL_nil _)))) ⟨Nat.zero_le _, Le.refl _, Fresh.refl _ _, by simpa [putVs] using hv⟩ (fun w h => h) ?_
    intro j τj Kj ⟨hlej, hlj, hfj, hvj⟩
    refine cw_seq ?_
    refine cw_seq ?_
    refine cw_region ?_
    refine ow_val rfl rfl (ex_move rfl) ?_
    refine ow_val rfl rfl (ex_field rfl) ?_
    refine ow_val rfl rfl (ex_load1 rfl (by first | exact ld_own1 0 rfl rfl | exact ld_own1 1 rfl rfl | exact ld_own1 2 rfl rfl | exact ld_own1 3 rfl rfl | exact ld_own1 4 rfl rfl | exact ld_own1 5 rfl rfl | exact ld_own1 6 rfl rfl | exact ld_own1 7 rfl rfl | exact ld_ownG1 0 rfl rfl | exact ld_ownG1 1 rfl rfl | exact ld_imm1 (by assumption))) ?_
    refine ow_val rfl rfl (ex_len (ty := 0) rfl) ?_
    refine ow_val rfl rfl (ex_lss rfl rfl) ?_
    refine ow_nil ?_
    refine qw_seq ?_
    refine cw_cond rfl (fun c20 => ?_) (fun c20 => ?_)
    ·
      refine cw_skip ?_
      refine qw_seq ?_
      refine cw_seq ?_
      refine cw_block ?_
      have hltj : j < ks.length := by have := of_decide_eq_true c20; omega
      obtain ⟨bk, f, c', cs, e1, e2, hc1, ht1⟩ := hk.get j hltj
      cases e1
      have hst := putVs_take ks ts j hltj
      have hpl := putVs_len ks ts j
      have hs1 := sizes_take ks j hltj
      have hs2 := sizes_take_le ks (j + 1)
      refine cw_region ?_
      refine ow_val rfl rfl (ex_move rfl) ?_
      refine ow_val rfl rfl (ex_field rfl) ?_
      refine ow_val rfl rfl (ex_load1 rfl (by first | exact ld_own1 0 rfl rfl | exact ld_own1 1 rfl rfl | exact ld_own1 2 rfl rfl | exact ld_own1 3 rfl rfl | exact ld_own1 4 rfl rfl | exact ld_own1 5 rfl rfl | exact ld_own1 6 rfl rfl | exact ld_own1 7 rfl rfl | exact ld_ownG1 0 rfl rfl | exact ld_ownG1 1 rfl rfl | exact ld_imm1 (by assumption))) ?_
      refine ow_val rfl rfl (ex_move rfl) ?_
      refine ow_val rfl rfl (ex_index_nat rfl rfl (by omega)) ?_
      refine ow_val rfl rfl (ex_loadR rfl (ld_immT (hc1.le hlj) (ht1.le hlj))) ?_
      refine ow_ckE rfl rfl (ex_callf rfl (fun w h => ih _ (List.getElem_mem hltj) h.hasE hvj (ht1.le hlj) (.inr (by omega)))) (fun v29 τ33 K33 hl33 hf33 hr33 => ?_)
      refine ow_nil ?_
      refine qw_block_normal ?_
      refine qw_seq ?_
      refine cw_region ?_
      refine ow_val rfl rfl (ex_move rfl) ?_
      refine ow_val rfl rfl (ex_addi (z := ((j + 1 : Nat) : Int)) rfl rfl (by omega) (by omega) (by omega)) ?_
      refine ow_val rfl rfl (ex_assign rfl) ?_
      refine ow_nil ?_
      refine qw_round3 (j + 1) τ33 K33 (by omega) (subL_cons (lkv rfl (by first | rfl | simp)) (subL_cons (lkv rfl (by first | rfl | simp)) (subL_cons (lkv rfl (by first | rfl | simp)) (subL_nil _)))) ⟨by omega, hlj.trans hl33, hfj.trans hf33, ?_⟩ (fun w h => h)
      rw [hst]
      exact hr33.2
    ·
      have he : j = ks.length := by have := of_decide_eq_false c20; omega
      subst he
      rw [List.take_length] at hvj
      have hpl := putVs_len ks ts ks.length
      rw [List.take_length] at hpl
      have hnew := putVs_new (t := .mk o n d ks) hnp
      simp only [T.kids] at hnew
      obtain ⟨sv, xs, Gs, rfl, hO, hrow, hfew⟩ := hvj
      obtain ⟨pq, cq, rfl, hcq⟩ := hO.slice
      refine cw_exit ?_
      refine qw_then_exit ?_
      refine qw_then_exit ?_
      refine qw_block_exit ?_
      refine qw_seq ?_
      refine cw_cut [(0, .pointer (some ⟨b, 0, none⟩))] (fun w' => ∃ (τ5 : Hp) (c45 : List Value) (g cg : Nat) (tl : List Value), (Le τj τ5 ∧ Fresh τj τ5 w ∧ TermC τ5 c45 (.mk o n d ks) ∧ (putVs ks ts).length + 1 ≤ cg ∧ cg ≤ maxLen ∧ (xs ++ c45 ++ tl).length = cg * 4) ∧ St w (keysOf K) τ5 [(g, rowO (xs ++ c45) tl 32), (b, .cells #[.slice (some ⟨g, 0, none⟩) ((putVs ks ts).length + 1) cg] 63)] [] w') ?_ ?_
      ·
        refine flow_soundT 7 (by kernel_rfl) ?_
        refine flow_val rfl (ex_move rfl) ?_
        refine flow_val rfl (ex_nilck rfl) ?_
        refine flow_val rfl (ex_field rfl) ?_
        refine flow_val rfl (ex_load1 rfl (by first | exact ld_own1 0 rfl rfl | exact ld_own1 1 rfl rfl | exact ld_own1 2 rfl rfl | exact ld_own1 3 rfl rfl | exact ld_own1 4 rfl rfl | exact ld_own1 5 rfl rfl | exact ld_own1 6 rfl rfl | exact ld_own1 7 rfl rfl | exact ld_ownG1 0 rfl rfl | exact ld_ownG1 1 rfl rfl | exact ld_imm1 (by assumption))) ?_
        refine flow_val rfl (ex_loadR rfl (by first | exact ld_ownN 0 rfl rfl | exact ld_ownN 1 rfl rfl | exact ld_ownN 2 rfl rfl | exact ld_ownN 3 rfl rfl | exact ld_ownN 4 rfl rfl | exact ld_ownN 5 rfl rfl | exact ld_ownN 6 rfl rfl | exact ld_ownN 7 rfl rfl | exact ld_ownGN 0 rfl rfl | exact ld_ownGN 1 rfl rfl | exact ld_immT (by assumption) (by assumption))) ?_
        refine flow_val rfl (ex_len (ty := 0) rfl) ?_
        refine flow_sat QR.pers (obk (ob_one rfl rfl (zeroT_c _))) ?_
        refine flow_nilT ?_
        refine fint_satR (Le.refl _) (fun v47 τ7 hl7 hf7 hr7 => ?_)
        obtain ⟨bo, co, rfl, hco, htco⟩ := hr7
        have ht45 := (ht0.le hlj).le hl7
        refine fint_is ?_
        refine fint_is ?_
        refine fint_is ?_
        refine fint_is ?_
        refine fint_is ?_
        refine fint_is ?_
        refine fint_nil ?_
        refine any_one (i := 7) (by kernel_rfl) ?_
        refine next_mono (fun w h => h.ofG) ?_
        refine next_app1 rfl rfl (exw_append1 (news := co) rfl rfl hO (by simp [htco.len]) (.inr ⟨_, _, rfl, fun w h => hco.range h.im⟩) htco.one (by unfold maxLen; omega) (by omega)) (fun v48 G48 hO48 hz48 => ?_)
        obtain ⟨g, cg, tl, rfl, rfl, hg1, hg2, hg3⟩ := hO48.open (by omega)
        refine any_mono (fun w h => h.ofG) ?_
        refine any_two (i := 8) (j := 10) (by kernel_rfl) ?_ ?_
        ·
          refine next_val rfl rfl (ex_index_nat rfl rfl (by omega)) ?_
          refine any_two (i := 9) (j := 10) (by kernel_rfl) ?_ ?_
          ·
            refine next_u rfl (exu_storeX 0 rfl rfl rfl ht45.len ht45.one (by simp [hrow.len, htco.len])) ?_
            refine any_one (i := 10) (by kernel_rfl) ?_
            refine next_val rfl rfl (ex_nilck rfl) ?_
            refine any_one (i := 11) (by kernel_rfl) ?_
            refine next_val rfl rfl (ex_field rfl) ?_
            refine any_one (i := 12) (by kernel_rfl) ?_
            refine next_u rfl (exu_store1 1 rfl rfl rfl rfl rfl rfl) ?_
            refine any_done (by kernel_rfl) ?_
            refine qw_meet (subL_cons (lkv rfl (by first | rfl | simp)) (subL_nil _)) (fun w' h => ⟨τ7, _, g, cg, tl, ⟨hl7, hf7, ht45, hg1, hg2, by have h1 := ht45.len; have h2 := htco.len; simp only [List.length_append] at hg3 ⊢; omega⟩, ?_⟩)
            have h1 := h.drop (.cons_cons _ (.cons_cons _ (List.nil_sublist _)))
            rwa [setX_snoc hrow.len htco.len] at h1
          ·
            refine next_val rfl rfl (ex_nilck rfl) ?_
            refine any_two (i := 9) (j := 11) (by kernel_rfl) ?_ ?_
            ·
              refine next_u rfl (exu_storeX 0 rfl rfl rfl ht45.len ht45.one (by simp [hrow.len, htco.len])) ?_
              refine any_one (i := 11) (by kernel_rfl) ?_
              refine next_val rfl rfl (ex_field rfl) ?_
              refine any_one (i := 12) (by kernel_rfl) ?_
              refine next_u rfl (exu_store1 1 rfl rfl rfl rfl rfl rfl) ?_
              refine any_done (by kernel_rfl) ?_
              refine qw_meet (subL_cons (lkv rfl (by first | rfl | simp)) (subL_nil _)) (fun w' h => ⟨τ7, _, g, cg, tl, ⟨hl7, hf7, ht45, hg1, hg2, by have h1 := ht45.len; have h2 := htco.len; simp only [List.length_append] at hg3 ⊢; omega⟩, ?_⟩)
              have h1 := h.drop (.cons_cons _ (.cons_cons _ (List.nil_sublist _)))
              rwa [setX_snoc hrow.len htco.len] at h1
            ·
              refine next_val rfl rfl (ex_field rfl) ?_
              refine any_two (i := 9) (j := 12) (by kernel_rfl) ?_ ?_
              ·
                refine next_u rfl (exu_storeX 0 rfl rfl rfl ht45.len ht45.one (by simp [hrow.len, htco.len])) ?_
                refine any_one (i := 12) (by kernel_rfl) ?_
                refine next_u rfl (exu_store1 1 rfl rfl rfl rfl rfl rfl) ?_
                refine any_done (by kernel_rfl) ?_
                refine qw_meet (subL_cons (lkv rfl (by first | rfl | simp)) (subL_nil _)) (fun w' h => ⟨τ7, _, g, cg, tl, ⟨hl7, hf7, ht45, hg1, hg2, by have h1 := ht45.len; have h2 := htco.len; simp only [List.length_append] at hg3 ⊢; omega⟩, ?_⟩)
                have h1 := h.drop (.cons_cons _ (.cons_cons _ (List.nil_sublist _)))
                rwa [setX_snoc hrow.len htco.len] at h1
              ·
                refine next_u rfl (exu_store1 1 rfl rfl rfl rfl rfl rfl) ?_
                refine any_one (i := 9) (by kernel_rfl) ?_
                refine next_u rfl (exu_storeX 0 rfl rfl rfl ht45.len ht45.one (by simp [hrow.len, htco.len])) ?_
                refine any_done (by kernel_rfl) ?_
                refine qw_meet (subL_cons (lkv rfl (by first | rfl | simp)) (subL_nil _)) (fun w' h => ⟨τ7, _, g, cg, tl, ⟨hl7, hf7, ht45, hg1, hg2, by have h1 := ht45.len; have h2 := htco.len; simp only [List.length_append] at hg3 ⊢; omega⟩, ?_⟩)
                have h1 := h.drop (.cons_cons _ (.cons_cons _ (List.nil_sublist _)))
                rwa [setX_snoc hrow.len htco.len] at h1
        ·
          refine next_val rfl rfl (ex_nilck rfl) ?_
          refine any_two (i := 8) (j := 11) (by kernel_rfl) ?_ ?_
          ·
            refine next_val rfl rfl (ex_index_nat rfl rfl (by omega)) ?_
            refine any_two (i := 9) (j := 11) (by kernel_rfl) ?_ ?_
            ·
              refine next_u rfl (exu_storeX 0 rfl rfl rfl ht45.len ht45.one (by simp [hrow.len, htco.len])) ?_
              refine any_one (i := 11) (by kernel_rfl) ?_
              refine next_val rfl rfl (ex_field rfl) ?_
              refine any_one (i := 12) (by kernel_rfl) ?_
              refine next_u rfl (exu_store1 1 rfl rfl rfl rfl rfl rfl) ?_
              refine any_done (by kernel_rfl) ?_
              refine qw_meet (subL_cons (lkv rfl (by first | rfl | simp)) (subL_nil _)) (fun w' h => ⟨τ7, _, g, cg, tl, ⟨hl7, hf7, ht45, hg1, hg2, by have h1 := ht45.len; have h2 := htco.len; simp only [List.length_append] at hg3 ⊢; omega⟩, ?_⟩)
              have h1 := h.drop (.cons_cons _ (.cons_cons _ (List.nil_sublist _)))
              rwa [setX_snoc hrow.len htco.len] at h1
            ·
              refine next_val rfl rfl (ex_field rfl) ?_
              refine any_two (i := 9) (j := 12) (by kernel_rfl) ?_ ?_
              ·
                refine next_u rfl (exu_storeX 0 rfl rfl rfl ht45.len ht45.one (by simp [hrow.len, htco.len])) ?_
                refine any_one (i := 12) (by kernel_rfl) ?_
                refine next_u rfl (exu_store1 1 rfl rfl rfl rfl rfl rfl) ?_
                refine any_done (by kernel_rfl) ?_
                refine qw_meet (subL_cons (lkv rfl (by first | rfl | simp)) (subL_nil _)) (fun w' h => ⟨τ7, _, g, cg, tl, ⟨hl7, hf7, ht45, hg1, hg2, by have h1 := ht45.len; have h2 := htco.len; simp only [List.length_append] at hg3 ⊢; omega⟩, ?_⟩)
                have h1 := h.drop (.cons_cons _ (.cons_cons _ (List.nil_sublist _)))
                rwa [setX_snoc hrow.len htco.len] at h1
              ·
                refine next_u rfl (exu_store1 1 rfl rfl rfl rfl rfl rfl) ?_
                refine any_one (i := 9) (by kernel_rfl) ?_
                refine next_u rfl (exu_storeX 0 rfl rfl rfl ht45.len ht45.one (by simp [hrow.len, htco.len])) ?_
                refine any_done (by kernel_rfl) ?_
                refine qw_meet (subL_cons (lkv rfl (by first | rfl | simp)) (subL_nil _)) (fun w' h => ⟨τ7, _, g, cg, tl, ⟨hl7, hf7, ht45, hg1, hg2, by have h1 := ht45.len; have h2 := htco.len; simp only [List.length_append] at hg3 ⊢; omega⟩, ?_⟩)
                have h1 := h.drop (.cons_cons _ (.cons_cons _ (List.nil_sublist _)))
                rwa [setX_snoc hrow.len htco.len] at h1
          ·
            refine next_val rfl rfl (ex_field rfl) ?_
            refine any_two (i := 8) (j := 12) (by kernel_rfl) ?_ ?_
            ·
              refine next_val rfl rfl (ex_index_nat rfl rfl (by omega)) ?_
              refine any_two (i := 9) (j := 12) (by kernel_rfl) ?_ ?_
              ·
                refine next_u rfl (exu_storeX 0 rfl rfl rfl ht45.len ht45.one (by simp [hrow.len, htco.len])) ?_
                refine any_one (i := 12) (by kernel_rfl) ?_
                refine next_u rfl (exu_store1 1 rfl rfl rfl rfl rfl rfl) ?_
                refine any_done (by kernel_rfl) ?_
                refine qw_meet (subL_cons (lkv rfl (by first | rfl | simp)) (subL_nil _)) (fun w' h => ⟨τ7, _, g, cg, tl, ⟨hl7, hf7, ht45, hg1, hg2, by have h1 := ht45.len; have h2 := htco.len; simp only [List.length_append] at hg3 ⊢; omega⟩, ?_⟩)
                have h1 := h.drop (.cons_cons _ (.cons_cons _ (List.nil_sublist _)))
                rwa [setX_snoc hrow.len htco.len] at h1
              ·
                refine next_u rfl (exu_store1 1 rfl rfl rfl rfl rfl rfl) ?_
                refine any_one (i := 9) (by kernel_rfl) ?_
                refine next_u rfl (exu_storeX 0 rfl rfl rfl ht45.len ht45.one (by simp [hrow.len, htco.len])) ?_
                refine any_done (by kernel_rfl) ?_
                refine qw_meet (subL_cons (lkv rfl (by first | rfl | simp)) (subL_nil _)) (fun w' h => ⟨τ7, _, g, cg, tl, ⟨hl7, hf7, ht45, hg1, hg2, by have h1 := ht45.len; have h2 := htco.len; simp only [List.length_append] at hg3 ⊢; omega⟩, ?_⟩)
                have h1 := h.drop (.cons_cons _ (.cons_cons _ (List.nil_sublist _)))
                rwa [setX_snoc hrow.len htco.len] at h1
            ·
              refine next_u rfl (exu_store1 1 rfl rfl rfl rfl rfl rfl) ?_
              refine any_one (i := 8) (by kernel_rfl) ?_
              refine next_val rfl rfl (ex_index_nat rfl rfl (by omega)) ?_
              refine any_one (i := 9) (by kernel_rfl) ?_
              refine next_u rfl (exu_storeX 0 rfl rfl rfl ht45.len ht45.one (by simp [hrow.len, htco.len])) ?_
              refine any_done (by kernel_rfl) ?_
              refine qw_meet (subL_cons (lkv rfl (by first | rfl | simp)) (subL_nil _)) (fun w' h => ⟨τ7, _, g, cg, tl, ⟨hl7, hf7, ht45, hg1, hg2, by have h1 := ht45.len; have h2 := htco.len; simp only [List.length_append] at hg3 ⊢; omega⟩, ?_⟩)
              have h1 := h.drop (.cons_cons _ (.cons_cons _ (List.nil_sublist _)))
              rwa [setX_snoc hrow.len htco.len] at h1
      ·
        refine cw_ex fun τ5 => cw_ex fun c45 => cw_ex fun g => cw_ex fun cg => cw_ex fun tl => cw_and fun ⟨hl5, hf5, ht45, hg1, hg2, hg3⟩ => ?_
        refine cw_seq ?_
        refine cw_region ?_
        refine ow_val rfl rfl (ex_move rfl) ?_
        refine ow_val rfl rfl (ex_nilck rfl) ?_
        refine ow_val rfl rfl (ex_field rfl) ?_
        refine ow_val rfl rfl (ex_load1 rfl (by first | exact ld_own1 0 rfl rfl | exact ld_own1 1 rfl rfl | exact ld_own1 2 rfl rfl | exact ld_own1 3 rfl rfl | exact ld_own1 4 rfl rfl | exact ld_own1 5 rfl rfl | exact ld_own1 6 rfl rfl | exact ld_own1 7 rfl rfl | exact ld_ownG1 0 rfl rfl | exact ld_ownG1 1 rfl rfl | exact ld_imm1 (by assumption))) ?_
        refine ow_val rfl rfl (ex_len (ty := 0) rfl) ?_
        refine ow_val rfl rfl (ex_subi (z := (((putVs ks ts).length : Nat) : Int)) rfl rfl (by omega) (by omega) (by omega)) ?_
        refine ow_val rfl rfl (ex_assign rfl) ?_
        refine ow_nil ?_
        refine qw_seq ?_
        refine cw_ret ?_
        refine qw_ret1 rfl rfl (fun w' h => ?_)
        have h2 := (St.flip h).permG (List.reverse_perm _)
        have hlen1 : (putVs ks ts ++ [T.mk o n d ks]).length = (putVs ks ts).length + 1 := by simp
        have hxl := hrow.len
        have hcl5 := ht45.len
        refine h2.givesK (hlj.trans hl5) (hfj.trans hf5) ⟨?_, ?_⟩
        · unfold numV
          rw [if_neg hnp]; rfl
        · rw [putV_mk, if_neg hnp]
          refine ⟨_, xs ++ c45, _, rfl, ?_, (hrow.le hl5).append (RowC.one ht45), ?_⟩
          · rw [show (putVs (T.mk o n d ks).kids ts ++ [T.mk o n d ks]).length = (putVs ks ts).length + 1 from hlen1]
            exact OwnSl.close (by simp; omega) hg1 hg2 hg3
          · rw [show (putVs (T.mk o n d ks).kids ts ++ [T.mk o n d ks]).length = (putVs ks ts).length + 1 from hlen1]; omega
set_option maxHeartbeats 400000 in
theorem rIntern (t : T) {b : Nat} {ts : List T} {ct : List Value} {σ : Hp} {K : List (Nat × Obj)} {w : World} (hi : Has σ K w) (hv : RefK 63 32 b ts σ K) (ht : TermC σ ct t) : Calls Tryz.prog 47 #[.pointer (some ⟨b, 0, none⟩), .agg ct.toArray] w (GiveK (fun σ' u K' => u = .tuple #[.int .i64 (intern ts t).1, .int .i64 (intern ts t).2.1] ∧ RefK 63 32 b (intern ts t).2.2 σ' K') σ K w) := by
  have ht0 := ht
  obtain ⟨dv, kv, rfl, ho, hn, hd, hk⟩ := ht.opn
  obtain ⟨sv, hc0, hks⟩ := hv.seenX hi
  obtain ⟨psv, csv, rfl, _, _⟩ := hks.slice
  have hfew : ts.length ≤ 4096 := by
    obtain ⟨_, _, _, _, _, _, h⟩ := hv
    exact h
  refine enter (St w (keysOf K) σ [] K) Tryz.func47 rfl Tryz.ntmps47 rfl (Has.start hi) ?_
  refine cw_seq ?_
  refine cw_region ?_
  refine ow_blk rfl rfl (exw_box rfl) ?_; intro b3
  refine ow_val rfl rfl (ex_assign rfl) ?_
  refine ow_val rfl rfl (ex_assign rfl) ?_
  refine ow_nil ?_
  refine qw_seq ?_
  refine cw_seq ?_
  refine cw_region ?_
  refine ow_val rfl rfl (ex_loadR rfl (by first | exact ld_ownN 0 rfl rfl | exact ld_ownN 1 rfl rfl | exact ld_ownN 2 rfl rfl | exact ld_ownN 3 rfl rfl | exact ld_ownN 4 rfl rfl | exact ld_ownN 5 rfl rfl | exact ld_ownN 6 rfl rfl | exact ld_ownN 7 rfl rfl | exact ld_ownGN 0 rfl rfl | exact ld_ownGN 1 rfl rfl | exact ld_immT (by assumption) (by assumption))) ?_
  refine ow_cv rfl rfl (ex_callf rfl (fun w h => callB ((rRight t h.im ht0)))) ?_
  refine ow_val rfl rfl (ex_assign rfl) ?_
  refine ow_nil ?_
  refine qw_seq ?_
  refine cw_seq ?_
  refine cw_seq ?_
  refine cw_region ?_
  refine ow_val rfl rfl (ex_move rfl) ?_
  refine ow_val rfl rfl (ex_not rfl) ?_
  refine ow_nil ?_
  refine qw_seq ?_
  refine cw_cond rfl (fun c12 => ?_) (fun c12 => ?_)
  ·
    refine cw_seq ?_
    refine cw_region ?_
    refine ow_val rfl rfl (ex_assign rfl) ?_
    refine ow_val rfl rfl (ex_assign rfl) ?_
    refine ow_nil ?_
    refine qw_seq ?_
    refine cw_ret ?_
    refine qw_then_ret ?_
    refine qw_ret2 rfl rfl rfl (fun w' h => ?_)
    have hr : ¬ right t = true := by simpa using c12
    have e : intern ts t = (-1, 51, ts) := by unfold intern; rw [if_neg hr]
    rw [e]
    exact (h.drop (List.nil_sublist _)).givesK (Le.refl _) (Fresh.refl _ _) ⟨rfl, hv⟩
  ·
    have hr : right t = true := by simpa using c12
    have hsz9 := right_size hr
    unfold maxKids at hsz9
    refine cw_skip ?_
    refine qw_seq ?_
    refine cw_seq ?_
    refine cw_region ?_
    refine ow_val rfl rfl (ex_move rfl) ?_
    refine ow_val rfl rfl (ex_loadR rfl (by first | exact ld_ownN 0 rfl rfl | exact ld_ownN 1 rfl rfl | exact ld_ownN 2 rfl rfl | exact ld_ownN 3 rfl rfl | exact ld_ownN 4 rfl rfl | exact ld_ownN 5 rfl rfl | exact ld_ownN 6 rfl rfl | exact ld_ownN 7 rfl rfl | exact ld_ownGN 0 rfl rfl | exact ld_ownGN 1 rfl rfl | exact ld_immT (by assumption) (by assumption))) ?_
    refine ow_cv rfl rfl (ex_callf rfl (fun w h => callB ((rFindK t h.hasE hv ht0)))) ?_
    refine ow_val rfl rfl (ex_move rfl) ?_
    refine ow_val rfl rfl (ex_extract rfl rfl) ?_
    refine ow_val rfl rfl (ex_extract rfl rfl) ?_
    refine ow_val rfl rfl (ex_assign rfl) ?_
    refine ow_val rfl rfl (ex_assign rfl) ?_
    refine ow_nil ?_
    refine qw_seq ?_
    refine cw_seq ?_
    refine cw_seq ?_
    refine cw_region ?_
    refine ow_val rfl rfl (ex_move rfl) ?_
    refine ow_nil ?_
    refine qw_seq ?_
    refine cw_cond rfl (fun c19 => ?_) (fun c19 => ?_)
    ·
      refine cw_seq ?_
      refine cw_region ?_
      refine ow_val rfl rfl (ex_move rfl) ?_
      refine ow_val rfl rfl (ex_assign rfl) ?_
      refine ow_val rfl rfl (ex_assign rfl) ?_
      refine ow_nil ?_
      refine qw_seq ?_
      refine cw_ret ?_
      refine qw_then_ret ?_
      refine qw_ret2 rfl rfl rfl (fun w' h => ?_)
      have h0 := of_decide_eq_true c19
      have e : intern ts t = (posT ts t, 0, ts) := by unfold intern; rw [if_pos hr, if_pos h0]
      rw [e]
      exact (h.drop (List.nil_sublist _)).givesK (Le.refl _) (Fresh.refl _ _) ⟨rfl, hv⟩
    ·
      refine cw_skip ?_
      refine qw_seq ?_
      refine cw_seq ?_
      refine cw_seq ?_
      refine flow_sound 9 (by kernel_rfl) ?_
      refine flow_val rfl (ex_move rfl) ?_
      refine flow_val rfl (ex_nilck rfl) ?_
      refine flow_val rfl (ex_field rfl) ?_
      refine flow_val rfl (ex_load1 rfl (fun w h => hc0.cell h.hasE.exts)) ?_
      refine flow_val rfl (ex_len (ty := 0) rfl) ?_
      refine flow_val rfl (ex_loadR rfl (by first | exact ld_ownN 0 rfl rfl | exact ld_ownN 1 rfl rfl | exact ld_ownN 2 rfl rfl | exact ld_ownN 3 rfl rfl | exact ld_ownN 4 rfl rfl | exact ld_ownN 5 rfl rfl | exact ld_ownN 6 rfl rfl | exact ld_ownN 7 rfl rfl | exact ld_ownGN 0 rfl rfl | exact ld_ownGN 1 rfl rfl | exact ld_immT (by assumption) (by assumption))) ?_
      refine flow_cv rfl (ex_callf rfl (fun w h => callB ((rSize t h.im ht0 (right_size hr))))) ?_
      refine flow_val rfl (ex_addi (z := ((ts.length : Int) + (size t : Int))) rfl rfl (by omega) (by omega) (by omega)) ?_
      refine flow_val rfl (ex_gtr rfl rfl) ?_
      refine flow_nil ?_
      refine fin_is ?_
      refine fin_is ?_
      refine fin_is ?_
      refine fin_is ?_
      refine fin_is ?_
      refine fin_is ?_
      refine fin_is ?_
      refine fin_is ?_
      refine fin_is ?_
      refine fin_nil ?_
      refine ow_nil ?_
      refine qw_seq ?_
      refine cw_cond rfl (fun c29 => ?_) (fun c29 => ?_)
      ·
        refine cw_seq ?_
        refine cw_region ?_
        refine ow_val rfl rfl (ex_assign rfl) ?_
        refine ow_val rfl rfl (ex_assign rfl) ?_
        refine ow_nil ?_
        refine qw_seq ?_
        refine cw_ret ?_
        refine qw_then_ret ?_
        refine qw_ret2 rfl rfl rfl (fun w' h => ?_)
        have h0 := of_decide_eq_false c19
        have h1 := of_decide_eq_true c29
        have e : intern ts t = (-1, 2, ts) := by unfold intern; rw [if_pos hr, if_neg h0, if_pos (by omega)]
        rw [e]
        exact (h.drop (List.nil_sublist _)).givesK (Le.refl _) (Fresh.refl _ _) ⟨rfl, hv⟩
      ·
        refine cw_skip ?_
        refine qw_seq ?_
        refine cw_seq ?_
        refine cw_region ?_
        refine ow_val rfl rfl (ex_move rfl) ?_
        refine ow_val rfl rfl (ex_loadR rfl (by first | exact ld_ownN 0 rfl rfl | exact ld_ownN 1 rfl rfl | exact ld_ownN 2 rfl rfl | exact ld_ownN 3 rfl rfl | exact ld_ownN 4 rfl rfl | exact ld_ownN 5 rfl rfl | exact ld_ownN 6 rfl rfl | exact ld_ownN 7 rfl rfl | exact ld_ownGN 0 rfl rfl | exact ld_ownGN 1 rfl rfl | exact ld_immT (by assumption) (by assumption))) ?_
        refine ow_ckE rfl rfl (ex_callf rfl (fun w h => rPutV t h.hasE hv ht0 (.inr (by have := of_decide_eq_false c29; omega)))) (fun v32 τ30 K30 hl30 hf30 hr30 => ?_)
        obtain ⟨rfl, hv30⟩ := hr30
        refine ow_val rfl rfl (ex_assign rfl) ?_
        refine ow_val rfl rfl (ex_assign rfl) ?_
        refine ow_nil ?_
        refine qw_seq ?_
        refine cw_ret ?_
        refine qw_ret2 rfl rfl rfl (fun w' h => ?_)
        have h0 := of_decide_eq_false c19
        have h1 := of_decide_eq_false c29
        have e : intern ts t = (numV t ts, 0, putV t ts) := by unfold intern; rw [if_pos hr, if_neg h0, if_neg (by omega)]
        rw [e]
        exact (h.drop (List.nil_sublist _)).givesK hl30 hf30 ⟨rfl, hv30⟩
end Go.Proofs.YtnjomdjkbbhdoaaGreatDoor
namespace Go.Proofs.YtnjomdjkbbhdoaaGreatDoor
open Go.RowKit
set_option linter.unusedVariables false
set_option linter.unusedSimpArgs false
set_option maxRecDepth 100000
set_option maxHeartbeats 400000 in
theorem pBothL (ls : List T) {v : Value} {σ : Hp} {w : World} (hi : Imm σ w) (htab : TabC Tryz.prog σ) (hl : KidsV σ v ls) : Calls Tryz.prog 10 #[v] w (GiveK (fun σ' u K' => (u = .tuple #[.pointer none, .pointer none, .bool false] ∧ K' = []) ∨ ∃ (bv bd : Nat) (Kv Kd : List (Nat × Obj)) (ts : List T), u = .tuple #[.pointer (some ⟨bv, 0, none⟩), .pointer (some ⟨bd, 0, none⟩), .bool true] ∧ K' = Kv ++ Kd ∧ VaultK 80 32 bv ts σ' Kv ∧ RefK 63 32 bd ts σ' Kd) σ [] w) := by
  obtain ⟨p, c, rfl, hc, hm⟩ := hl.slice
  have hm2 := hm
  unfold maxKids at hm2
  refine enter (St w (keysOf []) σ [] []) Tryz.func10 rfl Tryz.ntmps10 rfl (Has.start (Has.nil hi)) ?_
  refine cw_seq ?_
  refine cw_region ?_
  refine ow_val rfl rfl (ex_assign rfl) ?_
  refine ow_val rfl rfl (ex_assign rfl) ?_
  refine ow_val rfl rfl (ex_assign rfl) ?_
  refine ow_nil ?_
  refine qw_seq ?_
  refine cw_seq ?_
  refine cw_region ?_
  refine ow_ck0E rfl rfl (ex_callf rfl (fun w h => pNew h.im)) (fun v12 σ4 K4 hl4 hf4 hr4 => ?_)
  obtain ⟨bv, rfl, hv4⟩ := hr4
  refine ow_val rfl rfl (ex_assign rfl) ?_
  refine ow_nil ?_
  refine qw_seq ?_
  refine cw_seq ?_
  refine cw_region ?_
  refine ow_val rfl rfl (ex_build (parts := []) (cells := #[.slice none 0 0]) rfl (by kernel_rfl)) ?_
  refine ow_blk rfl rfl (exw_box rfl) ?_; intro bd
  refine ow_mono (fun w h => h.toG.permG (List.perm_append_comm (l₁ := K4) (l₂ := [_]))) ?_
  have hd4 : RefK 63 32 bd [] σ4 [(bd, .cells #[.slice none 0 0] 63)] := ⟨_, [], [], rfl, OwnSl.nil _ _, rfl, by simp⟩
  refine ow_val rfl rfl (ex_assign rfl) ?_
  refine ow_nil ?_
  refine qw_seq ?_
  refine cw_seq ?_
  refine cw_seq ?_
  refine cw_region ?_
  refine ow_val rfl rfl (ex_move rfl) ?_
  refine ow_val rfl rfl (ex_ptrnil rfl) ?_
  refine ow_val rfl rfl (ex_move rfl) ?_
  refine ow_split (g := some (2, false)) rfl (fun s17 => ?_) (fun s17 => ?_)
  ·
    simp at s17
  ·
    refine ow_val rfl (gd_go rfl s17) (ex_move rfl) ?_
    refine ow_val rfl (gd_go rfl s17) (ex_len (ty := 0) rfl) ?_
    refine ow_val rfl (gd_go rfl s17) (ex_gtr rfl rfl) ?_
    refine ow_val rfl rfl (ex_pickf rfl s17 rfl) ?_
    refine ow_nil ?_
    refine qw_seq ?_
    refine cw_cond rfl (fun c21 => ?_) (fun c21 => ?_)
    ·
      refine cw_seq ?_
      refine cw_region ?_
      refine ow_val rfl rfl (ex_assign rfl) ?_
      refine ow_val rfl rfl (ex_assign rfl) ?_
      refine ow_val rfl rfl (ex_assign rfl) ?_
      refine ow_nil ?_
      refine qw_seq ?_
      refine cw_ret ?_
      refine qw_then_ret ?_
      refine qw_ret3 rfl rfl rfl rfl (fun w' h => (h.dropG (List.nil_sublist _)).givesK hl4 hf4 (.inl ⟨rfl, rfl⟩))
    ·
      refine cw_skip ?_
      refine qw_seq ?_
      refine cw_seq ?_
      refine cw_seq ?_
      refine cw_region ?_
      refine ow_val rfl rfl (ex_assign rfl) ?_
      refine ow_nil ?_
      refine qw_seq ?_
      refine cw_block ?_
      refine cw_loop5 (fun (i : Nat) (ts : List T) (τ : Hp) (Kv Kd : List (Nat × Obj)) => [(0, .slice p ls.length c), (5, .pointer (some ⟨bv, 0, none⟩)), (6, .pointer (some ⟨bd, 0, none⟩)), (7, .int .i64 (i : Int))]) (fun i ts τ Kv Kd => i ≤ ls.length ∧ Le σ τ ∧ Fresh σ τ w ∧ VaultK 80 32 bv ts τ Kv ∧ RefK 63 32 bd ts τ Kd) (fun i ts τ Kv Kd => τ) (fun i ts τ Kv Kd => Kv ++ Kd) (fun i _ _ _ _ => ls.length - i) 0 [] σ4 K4 [(bd, .cells #[.slice none 0 0] 63)] (subL_cons (lkv rfl (by first | rfl | simp)) (subL_cons (lkv rfl (by first | rfl | simp)) (subL_cons (lkv rfl (by first | rfl | simp)) (subL_cons (lkv rfl (by first | rfl | simp)) (subL_nil _))))) ⟨Nat.zero_le _, hl4, hf4, hv4, hd4⟩ (fun w h => h) ?_
      intro i ts τj Kv Kd ⟨hlej, hlj, hfj, hvj, hdj⟩
      refine cw_seq ?_
      refine cw_seq ?_
      refine cw_region ?_
      refine ow_val rfl rfl (ex_move rfl) ?_
      refine ow_val rfl rfl (ex_move rfl) ?_
      refine ow_val rfl rfl (ex_len (ty := 0) rfl) ?_
      refine ow_val rfl rfl (ex_lss rfl rfl) ?_
      refine ow_nil ?_
      refine qw_seq ?_
      refine cw_cond rfl (fun c25 => ?_) (fun c25 => ?_)
      ·
        refine cw_skip ?_
        refine qw_seq ?_
        refine cw_seq ?_
        refine cw_block ?_
        refine cw_seq ?_
        refine cw_seq ?_
        have hlt : i < ls.length := by have := of_decide_eq_true c25; omega
        obtain ⟨bk, f, c', cs, e1, e2, hc1, ht1⟩ := hl.get i hlt
        cases e1
        refine cw_region ?_
        refine ow_val rfl rfl (ex_move rfl) ?_
        refine ow_val rfl rfl (ex_move rfl) ?_
        refine ow_val rfl rfl (ex_index_nat rfl rfl (by omega)) ?_
        refine ow_val rfl rfl (ex_loadR rfl (ld_immT (hc1.le hlj) (ht1.le hlj))) ?_
        refine ow_cv rfl rfl (ex_callf rfl (fun w h => callB ((rParts _ h.im (ht1.le hlj) (by omega) (by omega))))) ?_
        refine ow_val rfl rfl (ex_gtr rfl rfl) ?_
        refine ow_nil ?_
        refine qw_seq ?_
        refine cw_cond rfl (fun c33 => ?_) (fun c33 => ?_)
        ·
          refine cw_seq ?_
          refine cw_region ?_
          refine ow_val rfl rfl (ex_assign rfl) ?_
          refine ow_val rfl rfl (ex_assign rfl) ?_
          refine ow_val rfl rfl (ex_assign rfl) ?_
          refine ow_nil ?_
          refine qw_seq ?_
          refine cw_ret ?_
          refine qw_then_ret ?_
          refine qw_block_ret ?_
          refine qw_then_ret ?_
          refine qw_then_ret ?_
          refine qw_block_ret ?_
          refine qw_then_ret ?_
          refine qw_ret3 rfl rfl rfl rfl (fun w' h => (h.dropG (List.nil_sublist _)).givesK hlj hfj (.inl ⟨rfl, rfl⟩))
        ·
          refine cw_skip ?_
          refine qw_seq ?_
          refine cw_seq ?_
          refine cw_region ?_
          refine ow_val rfl rfl (ex_move rfl) ?_
          refine ow_val rfl rfl (ex_move rfl) ?_
          refine ow_val rfl rfl (ex_move rfl) ?_
          refine ow_val rfl rfl (ex_index_nat rfl rfl (by omega)) ?_
          refine ow_val rfl rfl (ex_loadR rfl (ld_immT (hc1.le hlj) (ht1.le hlj))) ?_
          refine ow_ck rfl rfl (ex_callf rfl (fun w h => pIntern _ h.has (htab.le hlj) hvj (ht1.le hlj))) (fun v40 τ2 K2 hl2 hf2 hr2 => ?_)
          obtain ⟨rfl, hv2⟩ := hr2
          refine ow_val rfl rfl (ex_move rfl) ?_
          refine ow_val rfl rfl (ex_extract rfl rfl) ?_
          refine ow_val rfl rfl (ex_extract rfl rfl) ?_
          refine ow_val rfl rfl (ex_assign rfl) ?_
          refine ow_val rfl rfl (ex_assign rfl) ?_
          refine ow_nil ?_
          refine qw_seq ?_
          refine cw_seq ?_
          refine cw_region ?_
          refine ow_val rfl rfl (ex_move rfl) ?_
          refine ow_val rfl rfl (ex_move rfl) ?_
          refine ow_val rfl rfl (ex_move rfl) ?_
          refine ow_val rfl rfl (ex_index_nat rfl rfl (by omega)) ?_
          refine ow_val rfl rfl (ex_loadR rfl (ld_immT (hc1.le (hlj.trans hl2)) (ht1.le (hlj.trans hl2)))) ?_
          refine ow_mono (fun w h => h.permG List.perm_append_comm) ?_
          refine ow_ck rfl rfl (ex_callf rfl (fun w h => rIntern _ h.has (hdj.le hl2) (ht1.le (hlj.trans hl2)))) (fun v49 τ3 K3 hl3 hf3 hr3 => ?_)
          obtain ⟨rfl, hd3⟩ := hr3
          refine ow_mono (fun w h => h.permG List.perm_append_comm) ?_
          refine ow_val rfl rfl (ex_move rfl) ?_
          refine ow_val rfl rfl (ex_extract rfl rfl) ?_
          refine ow_val rfl rfl (ex_extract rfl rfl) ?_
          refine ow_val rfl rfl (ex_assign rfl) ?_
          refine ow_val rfl rfl (ex_assign rfl) ?_
          refine ow_nil ?_
          refine qw_seq ?_
          refine cw_seq ?_
          refine cw_region ?_
          refine ow_val rfl rfl (ex_move rfl) ?_
          refine ow_val rfl rfl (ex_move rfl) ?_
          refine ow_val rfl rfl (ex_neq rfl rfl) ?_
          refine ow_val rfl rfl (ex_move rfl) ?_
          refine ow_split (g := some (3, false)) rfl (fun s55 => ?_) (fun s55 => ?_)
          ·
            simp at s55
          ·
            refine ow_val rfl (gd_go rfl s55) (ex_move rfl) ?_
            refine ow_val rfl (gd_go rfl s55) (ex_move rfl) ?_
            refine ow_val rfl (gd_go rfl s55) (ex_neq rfl rfl) ?_
            refine ow_val rfl rfl (ex_pickf rfl s55 rfl) ?_
            refine ow_nil ?_
            refine qw_seq ?_
            refine cw_cond rfl (fun c59 => ?_) (fun c59 => ?_)
            ·
              simp at c59
            ·
              refine cw_skip ?_
              refine qw_block_normal ?_
              refine qw_seq ?_
              refine cw_region ?_
              refine ow_val rfl rfl (ex_move rfl) ?_
              refine ow_val rfl rfl (ex_addi (z := ((i + 1 : Nat) : Int)) rfl rfl (by omega) (by omega) (by omega)) ?_
              refine ow_val rfl rfl (ex_assign rfl) ?_
              refine ow_nil ?_
              exact qw_round5 (i + 1) (intern ts ls[i]).2.2 τ3 K2 K3 (by omega) (subL_cons (lkv rfl (by first | rfl | simp)) (subL_cons (lkv rfl (by first | rfl | simp)) (subL_cons (lkv rfl (by first | rfl | simp)) (subL_cons (lkv rfl (by first | rfl | simp)) (subL_nil _))))) ⟨by omega, (hlj.trans hl2).trans hl3, (hfj.trans hf2).trans hf3, hv2.le hl3, hd3⟩ (fun w h => h)
      ·
        refine cw_exit ?_
        refine qw_then_exit ?_
        refine qw_then_exit ?_
        refine qw_block_exit ?_
        refine qw_seq ?_
        refine cw_seq ?_
        refine cw_region ?_
        refine ow_val rfl rfl (ex_move rfl) ?_
        refine ow_val rfl rfl (ex_move rfl) ?_
        refine ow_val rfl rfl (ex_assign rfl) ?_
        refine ow_val rfl rfl (ex_assign rfl) ?_
        refine ow_val rfl rfl (ex_assign rfl) ?_
        refine ow_nil ?_
        refine qw_seq ?_
        refine cw_ret ?_
        refine qw_ret3 rfl rfl rfl rfl (fun w' h => h.givesK hlj hfj (.inr ⟨bv, bd, Kv, Kd, ts, rfl, rfl, hvj, hdj⟩))
end Go.Proofs.YtnjomdjkbbhdoaaGreatDoor
namespace Go.Proofs.YtnjomdjkbbhdoaaGreatDoor
open Go.RowKit
set_option linter.unusedVariables false
set_option linter.unusedSimpArgs false
set_option maxRecDepth 100000
theorem bothR {u : Value} {σ' : Hp} {K' : List (Nat × Obj)} (h : (u = .tuple #[.pointer none, .pointer none, .bool false] ∧ K' = []) ∨ ∃ (bv bd : Nat) (Kv Kd : List (Nat × Obj)) (ts : List T), u = .tuple #[.pointer (some ⟨bv, 0, none⟩), .pointer (some ⟨bd, 0, none⟩), .bool true] ∧ K' = Kv ++ Kd ∧ VaultK 80 32 bv ts σ' Kv ∧ RefK 63 32 bd ts σ' Kd) : ∃ pv pd ok, u = .tuple #[.pointer pv, .pointer pd, .bool ok] ∧ (ok = true → ∃ (bv bd : Nat) (Kv Kd : List (Nat × Obj)) (ts : List T), pv = some ⟨bv, 0, none⟩ ∧ pd = some ⟨bd, 0, none⟩ ∧ K' = Kv ++ Kd ∧ VaultK 80 32 bv ts σ' Kv ∧ RefK 63 32 bd ts σ' Kd) := by
  rcases h with ⟨h, _⟩ | ⟨bv, bd, Kv, Kd, ts, h, h1, h2, h3⟩
  · exact ⟨none, none, false, h, fun h => by cases h⟩
  · exact ⟨_, _, true, h, fun _ => ⟨bv, bd, Kv, Kd, ts, rfl, rfl, h1, h2, h3⟩⟩
end Go.Proofs.YtnjomdjkbbhdoaaGreatDoor
namespace Go.Proofs.YtnjomdjkbbhdoaaGreatDoor
open Go.RowKit
set_option linter.unusedVariables false
set_option linter.unusedSimpArgs false
set_option maxRecDepth 100000
set_option maxHeartbeats 2000000 in
theorem lawOpens (ks : List T) (a n x y : Int) {v : Value} {σ : Hp} {w : World} (hi : Imm σ w) (htab : TabC Tryz.prog σ) (hl : KidsV σ v ks) : Calls Tryz.prog 4 #[v, .int .i64 a, .int .i64 n, .int .i64 x, .int .i64 y] w fun e w' => e = .returned (.bool true) ∧ Below w.heap.size w w' := by
  refine enter (St w (fun _ => False) σ [] []) Tryz.func4 rfl Tryz.ntmps4 rfl (St.start hi) ?_
  refine cw_seq ?_
  refine cw_region ?_
  refine ow_val rfl rfl (ex_assign rfl) ?_
  refine ow_nil ?_
  refine qw_seq ?_
  refine cw_seq ?_
  refine cw_region ?_
  refine ow_cv rfl rfl (ex_callf rfl (fun w h => callB ((pHead8 h.im htab)))) ?_
  refine ow_val rfl rfl (ex_assign rfl) ?_
  refine ow_nil ?_
  refine qw_seq ?_
  refine cw_seq ?_
  refine cw_region ?_
  refine ow_val rfl rfl (ex_move rfl) ?_
  refine ow_ck0E rfl rfl (ex_callf rfl (fun w h => pBothL ks h.im htab hl)) (fun v25 σ4 K4 hl4 hf4 hr4 => ?_)
  obtain ⟨pv, pd, ok, rfl, hok⟩ := bothR hr4
  refine ow_val rfl rfl (ex_move rfl) ?_
  refine ow_val rfl rfl (ex_extract rfl rfl) ?_
  refine ow_val rfl rfl (ex_extract rfl rfl) ?_
  refine ow_val rfl rfl (ex_extract rfl rfl) ?_
  refine ow_val rfl rfl (ex_assign rfl) ?_
  refine ow_val rfl rfl (ex_assign rfl) ?_
  refine ow_val rfl rfl (ex_assign rfl) ?_
  refine ow_nil ?_
  refine qw_seq ?_
  refine cw_seq ?_
  refine cw_seq ?_
  refine cw_region ?_
  refine ow_val rfl rfl (ex_move rfl) ?_
  refine ow_val rfl rfl (ex_not rfl) ?_
  refine ow_nil ?_
  refine qw_seq ?_
  refine cw_cond rfl (fun c30 => ?_) (fun c30 => ?_)
  ·
    refine cw_seq ?_
    refine cw_region ?_
    refine ow_val rfl rfl (ex_move rfl) ?_
    refine ow_val rfl rfl (ex_assign rfl) ?_
    refine ow_nil ?_
    refine qw_seq ?_
    refine cw_ret ?_
    refine qw_then_ret ?_
    refine qw_ret1 rfl rfl (fun w' h => ⟨congrArg (fun z => Ending.returned (.bool z)) ?_, h.ag.below⟩)
    first
    | rfl
    | (have z2 : e2 = 0 := (by simpa using s83); have z3 : e3 = 0 := (by simpa using s87); subst z2; subst z3; exact decide_eq_true (powers hv7.nd.1 hq10 hq11 (clos_closL _ _)))
  ·
    have hok1 : ok = true := by simpa using c30
    obtain ⟨bv, bd, Kv, Kd, ts, rfl, rfl, rfl, hv4, hd4⟩ := hok hok1
    subst hok1
    refine cw_skip ?_
    refine qw_seq ?_
    refine cw_seq ?_
    have htab4 := htab.le hl4
    have hfew := hv4.nd.2
    refine cw_mono (fun w h => h.dropG (List.sublist_append_left _ _)) ?_
    refine cw_region ?_
    refine ow_val rfl rfl (ex_move rfl) ?_
    refine ow_val rfl rfl (ex_move rfl) ?_
    refine ow_cr rfl rfl (ex_callf rfl (fun w h => callR (pTerm h.hasE hv4))) (fun v35 σ5 hl5 hf5 hr5 => ?_)
    obtain ⟨cv35, rfl, htv35⟩ := hr5
    have htv35' := htv35
    obtain ⟨dv35, kv35, rfl, _, _, _, _⟩ := htv35'.opn
    have hv5 := hv4.le hl5
    have htab5 := htab4.le hl5
    refine ow_val rfl rfl (ex_move rfl) ?_
    refine ow_val rfl rfl (ex_extract rfl rfl) ?_
    refine ow_val rfl rfl (ex_extract rfl rfl) ?_
    refine ow_blk rfl rfl exw_alloc ?_; intro b15
    refine ow_u rfl (exu_storeN 0 rfl rfl rfl rfl htv35.one rfl) ?_
    refine ow_val rfl rfl (ex_assign rfl) ?_
    refine ow_nil ?_
    refine qw_seq ?_
    refine cw_seq ?_
    refine cw_seq ?_
    refine cw_region ?_
    refine ow_val rfl rfl (ex_move rfl) ?_
    refine ow_val rfl rfl (ex_not rfl) ?_
    refine ow_nil ?_
    refine qw_seq ?_
    refine cw_cond rfl (fun c39 => ?_) (fun c39 => ?_)
    ·
      refine cw_seq ?_
      refine cw_region ?_
      refine ow_val rfl rfl (ex_move rfl) ?_
      refine ow_val rfl rfl (ex_assign rfl) ?_
      refine ow_nil ?_
      refine qw_seq ?_
      refine cw_ret ?_
      refine qw_then_ret ?_
      refine qw_ret1 rfl rfl (fun w' h => ⟨congrArg (fun z => Ending.returned (.bool z)) ?_, h.ag.below⟩)
      first
      | rfl
      | (have z2 : e2 = 0 := (by simpa using s83); have z3 : e3 = 0 := (by simpa using s87); subst z2; subst z3; exact decide_eq_true (powers hv7.nd.1 hq10 hq11 (clos_closL _ _)))
    ·
      have hth := termV_in (ts := ts) (n := n) (by simpa using c39)
      refine cw_skip ?_
      refine qw_seq ?_
      refine cw_seq ?_
      refine cw_region ?_
      refine ow_val rfl rfl (ex_move rfl) ?_
      refine ow_val rfl rfl (ex_move rfl) ?_
      refine ow_val rfl rfl (ex_move rfl) ?_
      refine ow_cr rfl rfl (ex_callf rfl (fun w h => callR (pMention h.im))) (fun v45 σ6 hl6 hf6 hr6 => ?_)
      have hr6' := hr6
      obtain ⟨pm, cm, rfl, _, _⟩ := BytesV.slice hr6'
      have hv6 := hv5.le hl6
      have htab6 := htab5.le hl6
      have hml := mentN_len n
      refine ow_ckE rfl rfl (ex_callf rfl (fun w h => pSeal h.hasE htab6 hv6 hr6)) (fun v46 σ7 K7 hl7 hf7 hr7 => ?_)
      rcases hq7 : madeV ts (ofT 4 (mentN n)) [a] with ⟨s0, e1, t1⟩
      rw [hq7] at hr7
      simp only at hr7
      obtain ⟨rfl, hv7⟩ := hr7
      have htab7 := htab6.le hl7
      refine ow_val rfl rfl (ex_move rfl) ?_
      refine ow_val rfl rfl (ex_extract rfl rfl) ?_
      refine ow_val rfl rfl (ex_extract rfl rfl) ?_
      refine ow_val rfl rfl (ex_assign rfl) ?_
      refine ow_val rfl rfl (ex_assign rfl) ?_
      refine ow_nil ?_
      refine qw_seq ?_
      refine cw_seq ?_
      refine cw_cut1 65 (.bool false) ?_ ?_
      ·
        refine cw_region ?_
        refine ow_val rfl rfl (ex_move rfl) ?_
        refine ow_val rfl rfl (ex_eql rfl rfl) ?_
        refine ow_val rfl rfl (ex_move rfl) ?_
        refine ow_split (g := some (2, true)) rfl (fun s51 => ?_) (fun s51 => ?_)
        ·
          refine ow_val rfl (gd_go rfl s51) (ex_move rfl) ?_
          refine ow_val rfl (gd_go rfl s51) (ex_move rfl) ?_
          refine ow_val rfl (gd_go rfl s51) (ex_gtr rfl rfl) ?_
          refine ow_val rfl rfl (ex_pickt rfl s51 rfl) ?_
          refine ow_val rfl rfl (ex_move rfl) ?_
          refine ow_split (g := some (7, true)) rfl (fun s56 => ?_) (fun s56 => ?_)
          ·
            refine ow_val rfl (gd_go rfl s56) (ex_move rfl) ?_
            refine ow_val rfl (gd_go rfl s56) (ex_move rfl) ?_
            refine ow_val rfl (gd_go rfl s56) (ex_move rfl) ?_
            refine ow_slit rfl (gd_go rfl s56) (exw_slit2 rfl rfl rfl rfl) ?_; intro b60
            refine ow_frzO (fun _ h => h) (fun σ8 hl8 hf8 hb8 => ?_)
            have hzz8 : IntsV σ8 (.slice (some ⟨b60, 0, none⟩) 2 2) [a, s0] := IntsV.lit hb8 rfl
            refine ow_cr rfl (gd_go rfl s56) (ex_callf rfl (fun w h => callR (pClosure h.hasE (htab7.le hl8) (hv7.le hl8) hzz8 (by simp)))) (fun vc8 σ28 hl28 hf28 hr28 => ?_)
            have hcl8 := closL_len t1 [a, s0]
            have hfw8 := hv7.nd.2
            have hrc8 := hr28
            obtain ⟨pc8, cc8, rfl, _, _⟩ := hrc8
            refine ow_val rfl (gd_go rfl s56) (ex_move rfl) ?_
            refine ow_cv rfl (gd_go rfl s56) (ex_callf rfl (fun w h => callB ((pHas h.im hr28 (by omega))))) ?_
            refine ow_val rfl (gd_go rfl s56) (ex_not rfl) ?_
            refine ow_val rfl rfl (ex_pickt rfl s56 rfl) ?_
            refine ow_nil ?_
            exact qw_meet (subL_meet 17 65 (lkv rfl (by first | rfl | (have z1 : e1 = 0 := (by simpa using s51); subst z1; have hm := opens hv4.nd.1 hq7 (by omega) (by simpa using s56) (clos_closL _ _); simp [hm]))) rfl rfl) (fun w h => by first | exact h | exact h.less (hl8.trans hl28))
          ·
            refine ow_skip rfl (gd_no rfl s56) ?_
            refine ow_skip rfl (gd_no rfl s56) ?_
            refine ow_skip rfl (gd_no rfl s56) ?_
            refine ow_skip rfl (gd_no rfl s56) ?_
            refine ow_skip rfl (gd_no rfl s56) ?_
            refine ow_skip rfl (gd_no rfl s56) ?_
            refine ow_skip rfl (gd_no rfl s56) ?_
            refine ow_skip rfl (gd_no rfl s56) ?_
            refine ow_val rfl rfl (ex_pickf rfl s56 rfl) ?_
            refine ow_nil ?_
            exact qw_meet (subL_meet 17 65 (lkv rfl (by first | rfl | (have z1 : e1 = 0 := (by simpa using s51); subst z1; have hm := opens hv4.nd.1 hq7 (by omega) (by simpa using s56) (clos_closL _ _); simp [hm]))) rfl rfl) (fun w h => by first | exact h | exact h.less (hl8.trans hl28))
        ·
          refine ow_skip rfl (gd_no rfl s51) ?_
          refine ow_skip rfl (gd_no rfl s51) ?_
          refine ow_skip rfl (gd_no rfl s51) ?_
          refine ow_val rfl rfl (ex_pickf rfl s51 rfl) ?_
          refine ow_val rfl rfl (ex_move rfl) ?_
          refine ow_skip rfl rfl ?_
          refine ow_skip rfl rfl ?_
          refine ow_skip rfl rfl ?_
          refine ow_skip rfl rfl ?_
          refine ow_skip rfl rfl ?_
          refine ow_skip rfl rfl ?_
          refine ow_skip rfl rfl ?_
          refine ow_skip rfl rfl ?_
          refine ow_val rfl rfl (ex_pick_f rfl rfl) ?_
          refine ow_nil ?_
          exact qw_meet (subL_meet 17 65 (lkv rfl (by first | rfl | (have z1 : e1 = 0 := (by simpa using s51); subst z1; have hm := opens hv4.nd.1 hq7 (by omega) (by simpa using s56) (clos_closL _ _); simp [hm]))) rfl rfl) (fun w h => by first | exact h | exact h.less (hl8.trans hl28))
      ·
        refine cw_cond rfl (fun c65 => ?_) (fun c65 => ?_)
        ·
          cases c65
        ·
          refine cw_skip ?_
          refine qw_seq ?_
          refine cw_seq ?_
          refine cw_region ?_
          refine ow_val rfl rfl (ex_move rfl) ?_
          refine ow_val rfl rfl (ex_move rfl) ?_
          refine ow_ckE rfl rfl (ex_callf rfl (fun w h => pExp h.hasE htab7 hv7)) (fun v69 σ10 K10 hl10 hf10 hr10 => ?_)
          rcases hq10 : madeV t1 (ofT 7 []) [x] with ⟨p0, e2, t2⟩
          rw [hq10] at hr10
          simp only at hr10
          obtain ⟨rfl, hv10⟩ := hr10
          have htab10 := htab7.le hl10
          refine ow_val rfl rfl (ex_move rfl) ?_
          refine ow_val rfl rfl (ex_extract rfl rfl) ?_
          refine ow_val rfl rfl (ex_extract rfl rfl) ?_
          refine ow_val rfl rfl (ex_assign rfl) ?_
          refine ow_val rfl rfl (ex_assign rfl) ?_
          refine ow_nil ?_
          refine qw_seq ?_
          refine cw_seq ?_
          refine cw_region ?_
          refine ow_val rfl rfl (ex_move rfl) ?_
          refine ow_val rfl rfl (ex_move rfl) ?_
          refine ow_val rfl rfl (ex_move rfl) ?_
          refine ow_ckE rfl rfl (ex_callf rfl (fun w h => pPowK h.hasE htab10 hv10)) (fun v76 σ11 K11 hl11 hf11 hr11 => ?_)
          rcases hq11 : madeV t2 powG [p0, y] with ⟨q0, e3, t3⟩
          rw [hq11] at hr11
          simp only at hr11
          obtain ⟨rfl, hv11⟩ := hr11
          have htab11 := htab10.le hl11
          refine ow_val rfl rfl (ex_move rfl) ?_
          refine ow_val rfl rfl (ex_extract rfl rfl) ?_
          refine ow_val rfl rfl (ex_extract rfl rfl) ?_
          refine ow_val rfl rfl (ex_assign rfl) ?_
          refine ow_val rfl rfl (ex_assign rfl) ?_
          refine ow_nil ?_
          refine qw_seq ?_
          refine cw_seq ?_
          refine cw_region ?_
          refine ow_val rfl rfl (ex_move rfl) ?_
          refine ow_val rfl rfl (ex_move rfl) ?_
          refine ow_split (g := some (1, true)) rfl (fun s80 => ?_) (fun s80 => ?_)
          ·
            refine ow_val rfl (gd_go rfl s80) (ex_move rfl) ?_
            refine ow_val rfl (gd_go rfl s80) (ex_neq rfl rfl) ?_
            refine ow_val rfl (gd_go rfl s80) (ex_move rfl) ?_
            refine ow_split (g := some (4, false)) rfl (fun s83 => ?_) (fun s83 => ?_)
            ·
              refine ow_skip rfl (gd_no rfl s83) ?_
              refine ow_skip rfl (gd_no rfl s83) ?_
              refine ow_val rfl (gd_go rfl s80) (ex_pickt rfl s83 rfl) ?_
              refine ow_val rfl (gd_go rfl s80) (ex_move rfl) ?_
              refine ow_skip rfl rfl ?_
              refine ow_skip rfl rfl ?_
              refine ow_skip rfl rfl ?_
              refine ow_skip rfl rfl ?_
              refine ow_skip rfl rfl ?_
              refine ow_skip rfl rfl ?_
              refine ow_skip rfl rfl ?_
              refine ow_val rfl (gd_go rfl s80) (ex_pick_t rfl rfl) ?_
              refine ow_val rfl rfl (ex_pickt rfl s80 rfl) ?_
              refine ow_val rfl rfl (ex_assign rfl) ?_
              refine ow_nil ?_
              refine qw_seq ?_
              refine cw_ret ?_
              refine qw_ret1 rfl rfl (fun w' h => ⟨congrArg (fun z => Ending.returned (.bool z)) ?_, h.ag.below⟩)
              first
              | rfl
              | (have z2 : e2 = 0 := (by simpa using s83); have z3 : e3 = 0 := (by simpa using s87); subst z2; subst z3; exact decide_eq_true (powers hv7.nd.1 hq10 hq11 (clos_closL _ _)))
            ·
              refine ow_val rfl (gd_go rfl s83) (ex_move rfl) ?_
              refine ow_val rfl (gd_go rfl s83) (ex_neq rfl rfl) ?_
              refine ow_val rfl (gd_go rfl s80) (ex_pickf rfl s83 rfl) ?_
              refine ow_val rfl (gd_go rfl s80) (ex_move rfl) ?_
              refine ow_split (g := some (8, false)) rfl (fun s87 => ?_) (fun s87 => ?_)
              ·
                refine ow_skip rfl (gd_no rfl s87) ?_
                refine ow_skip rfl (gd_no rfl s87) ?_
                refine ow_skip rfl (gd_no rfl s87) ?_
                refine ow_skip rfl (gd_no rfl s87) ?_
                refine ow_skip rfl (gd_no rfl s87) ?_
                refine ow_skip rfl (gd_no rfl s87) ?_
                refine ow_skip rfl (gd_no rfl s87) ?_
                refine ow_val rfl (gd_go rfl s80) (ex_pickt rfl s87 rfl) ?_
                refine ow_val rfl rfl (ex_pickt rfl s80 rfl) ?_
                refine ow_val rfl rfl (ex_assign rfl) ?_
                refine ow_nil ?_
                refine qw_seq ?_
                refine cw_ret ?_
                refine qw_ret1 rfl rfl (fun w' h => ⟨congrArg (fun z => Ending.returned (.bool z)) ?_, h.ag.below⟩)
                first
                | rfl
                | (have z2 : e2 = 0 := (by simpa using s83); have z3 : e3 = 0 := (by simpa using s87); subst z2; subst z3; exact decide_eq_true (powers hv7.nd.1 hq10 hq11 (clos_closL _ _)))
              ·
                refine ow_val rfl (gd_go rfl s87) (ex_move rfl) ?_
                refine ow_val rfl (gd_go rfl s87) (ex_move rfl) ?_
                refine ow_val rfl (gd_go rfl s87) (ex_move rfl) ?_
                refine ow_slit rfl (gd_go rfl s87) (exw_slit2 rfl rfl rfl rfl) ?_; intro b91
                refine ow_frzO (fun _ h => h) (fun σ12 hl12 hf12 hb12 => ?_)
                have hzz12 : IntsV σ12 (.slice (some ⟨b91, 0, none⟩) 2 2) [p0, y] := IntsV.lit hb12 rfl
                refine ow_cr rfl (gd_go rfl s87) (ex_callf rfl (fun w h => callR (pClosure h.hasE (htab11.le hl12) (hv11.le hl12) hzz12 (by simp)))) (fun vc12 σ32 hl32 hf32 hr32 => ?_)
                have hcl12 := closL_len t3 [p0, y]
                have hfw12 := hv11.nd.2
                have hrc12 := hr32
                obtain ⟨pc12, cc12, rfl, _, _⟩ := hrc12
                refine ow_val rfl (gd_go rfl s87) (ex_move rfl) ?_
                refine ow_cv rfl (gd_go rfl s87) (ex_callf rfl (fun w h => callB ((pHas h.im hr32 (by omega))))) ?_
                refine ow_val rfl (gd_go rfl s80) (ex_pickf rfl s87 rfl) ?_
                refine ow_val rfl rfl (ex_pickt rfl s80 rfl) ?_
                refine ow_val rfl rfl (ex_assign rfl) ?_
                refine ow_nil ?_
                refine qw_seq ?_
                refine cw_ret ?_
                refine qw_ret1 rfl rfl (fun w' h => ⟨congrArg (fun z => Ending.returned (.bool z)) ?_, h.ag.below⟩)
                first
                | rfl
                | (have z2 : e2 = 0 := (by simpa using s83); have z3 : e3 = 0 := (by simpa using s87); subst z2; subst z3; exact decide_eq_true (powers hv7.nd.1 hq10 hq11 (clos_closL _ _)))
          ·
            cases s80
end Go.Proofs.YtnjomdjkbbhdoaaGreatDoor
