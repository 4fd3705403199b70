/-
  What the law DeriveCloses needs, part 5.
  No condition.
-/
import Derived.Test.YtnjomdjkbbhdoaaGreatDoorP4
set_option linter.unusedVariables false
set_option linter.unusedSimpArgs false
set_option linter.unusedSectionVars false
namespace Go.Proofs.YtnjomdjkbbhdoaaGreatDoor
open Go.RowKit
set_option linter.unusedVariables false
set_option linter.unusedSimpArgs false
set_option maxRecDepth 100000
set_option maxHeartbeats 2000000 in
theorem rPower (t : T) {ct : List Value} {d hb ch : Nat} {sv : Value} {ts : List T} {had : List Bool} {σ : Hp} {w : World} (hi : Imm σ w) (hc0 : CellsAt σ d 0 [sv]) (hks : KidsV σ sv ts) (hh : CellsAt σ hb 0 (boolsV had)) (hl : had.length = ts.length) (hkn : ∀ y ∈ ts, y.kids.length ≤ 1000) (hkl : t.kids.length ≤ 1000) (hfw : ts.length ≤ 4096) (ht : TermC σ ct t) : Calls Tryz.prog 114 #[.pointer (some ⟨d, 0, none⟩), .slice (some ⟨hb, 0, none⟩) ts.length ch, .agg ct.toArray] w fun e w' => e = .returned (.bool (powerR ts had t.kids)) ∧ Below w.heap.size w w' := by
  have ht0 := ht
  obtain ⟨o, nn, dt, ks⟩ := t
  simp only [T.kids] at hkl ⊢
  obtain ⟨dv, kv, rfl, ho, hn, hd, hk⟩ := ht.opn
  simp only [T.kids, T.op, T.num, T.data] at ho hn hd hk
  obtain ⟨p, c, rfl, hcc, hmm⟩ := hk.slice
  have hks0 := hks
  obtain ⟨psv, csv, rfl, _, _⟩ := hks.slice
  refine enter (St w (fun _ => False) σ [] []) Tryz.func114 rfl Tryz.ntmps114 rfl (St.start hi) ?_
  refine cw_seq ?_
  refine cw_region ?_
  refine ow_blk rfl rfl (exw_box rfl) ?_; intro b5
  refine ow_val rfl rfl (ex_assign rfl) ?_
  refine ow_nil ?_
  refine qw_seq ?_
  refine cw_seq ?_
  refine cw_region ?_
  refine ow_val rfl rfl (ex_assign rfl) ?_
  refine ow_nil ?_
  refine qw_seq ?_
  refine cw_seq ?_
  refine cw_seq ?_
  refine cw_region ?_
  refine ow_val rfl rfl (ex_assign rfl) ?_
  refine ow_nil ?_
  refine qw_seq ?_
  refine cw_block ?_
  refine cw_loopS (α := Nat) (fun i => [(0, .pointer (some ⟨d, 0, none⟩)), (1, .slice (some ⟨hb, 0, none⟩) ts.length ch), (5, .pointer (some ⟨b5, 0, none⟩)), (7, .bool ((ks.take i).all (isV ts had))), (8, .int .i64 (i : Int))]) (fun i => i ≤ ks.length) (fun i => ks.length - i) 0 (subL_cons (lkv rfl (by first | rfl | simp)) (subL_cons (lkv rfl (by first | rfl | simp)) (subL_cons (lkv rfl (by first | rfl | simp)) (subL_cons (lkv rfl (by first | rfl | simp)) (subL_cons (lkv rfl (by first | rfl | simp)) (subL_nil _)))))) (Nat.zero_le _) ?_
  intro i hle
  refine cw_seq ?_
  refine cw_seq ?_
  refine cw_region ?_
  refine ow_val rfl rfl (ex_move rfl) ?_
  refine ow_val rfl rfl (ex_field rfl) ?_
  refine ow_val rfl rfl (ex_load1 rfl (by first | exact ld_own1 0 rfl rfl | exact ld_own1 1 rfl rfl | exact ld_own1 2 rfl rfl | exact ld_own1 3 rfl rfl | exact ld_own1 4 rfl rfl | exact ld_own1 5 rfl rfl | exact ld_own1 6 rfl rfl | exact ld_own1 7 rfl rfl | exact ld_ownG1 0 rfl rfl | exact ld_ownG1 1 rfl rfl | exact ld_imm1 (by assumption))) ?_
  refine ow_val rfl rfl (ex_len (ty := 0) rfl) ?_
  refine ow_val rfl rfl (ex_lss rfl rfl) ?_
  refine ow_nil ?_
  refine qw_seq ?_
  refine cw_cond rfl (fun c18 => ?_) (fun c18 => ?_)
  ·
    have hlt : i < ks.length := by have := of_decide_eq_true c18; omega
    obtain ⟨bk, fk, ck', cs, e1, e2, hc1, ht1⟩ := hk.get i hlt
    cases e1
    refine cw_skip ?_
    refine qw_seq ?_
    refine cw_seq ?_
    refine cw_block ?_
    refine cw_seq ?_
    refine cw_region ?_
    refine ow_val rfl rfl (ex_move rfl) ?_
    refine ow_val rfl rfl (ex_move rfl) ?_
    refine ow_val rfl rfl (ex_field rfl) ?_
    refine ow_val rfl rfl (ex_load1 rfl (by first | exact ld_own1 0 rfl rfl | exact ld_own1 1 rfl rfl | exact ld_own1 2 rfl rfl | exact ld_own1 3 rfl rfl | exact ld_own1 4 rfl rfl | exact ld_own1 5 rfl rfl | exact ld_own1 6 rfl rfl | exact ld_own1 7 rfl rfl | exact ld_ownG1 0 rfl rfl | exact ld_ownG1 1 rfl rfl | exact ld_imm1 (by assumption))) ?_
    refine ow_val rfl rfl (ex_move rfl) ?_
    refine ow_val rfl rfl (ex_index_nat (i := i) rfl rfl hlt) ?_
    refine ow_val rfl rfl (ex_loadR rfl (ld_immT hc1 ht1)) ?_
    refine ow_cv rfl rfl (ex_callf rfl (fun w h => callB ((rIs _ h.im hc0 hks0 hh hl ht1)))) ?_
    refine ow_val rfl rfl (ex_assign rfl) ?_
    refine ow_nil ?_
    refine qw_seq ?_
    refine cw_region ?_
    refine ow_val rfl rfl (ex_move rfl) ?_
    refine ow_val rfl rfl (ex_move rfl) ?_
    refine ow_split (g := some (1, true)) rfl (fun s30 => ?_) (fun s30 => ?_)
    ·
      refine ow_val rfl (gd_go rfl s30) (ex_move rfl) ?_
      refine ow_val rfl rfl (ex_pickt rfl s30 rfl) ?_
      refine ow_val rfl rfl (ex_assign rfl) ?_
      refine ow_nil ?_
      refine qw_block_normal ?_
      refine qw_seq ?_
      refine cw_region ?_
      refine ow_val rfl rfl (ex_move rfl) ?_
      refine ow_val rfl rfl (ex_addi (z := ((i + 1 : Nat) : Int)) rfl rfl (by omega) (by omega) (by omega)) ?_
      refine ow_val rfl rfl (ex_assign rfl) ?_
      refine ow_nil ?_
      exact qw_roundS (i + 1) (by omega) (subL_cons (lkv rfl (by first | rfl | (rw [take_all hlt, show (ks.take i).all (isV ts had) = true from s30, Bool.true_and]; done) | (rw [take_all hlt, show (ks.take i).all (isV ts had) = false from s30, Bool.false_and]; done) | simp)) (subL_cons (lkv rfl (by first | rfl | (rw [take_all hlt, show (ks.take i).all (isV ts had) = true from s30, Bool.true_and]; done) | (rw [take_all hlt, show (ks.take i).all (isV ts had) = false from s30, Bool.false_and]; done) | simp)) (subL_cons (lkv rfl (by first | rfl | (rw [take_all hlt, show (ks.take i).all (isV ts had) = true from s30, Bool.true_and]; done) | (rw [take_all hlt, show (ks.take i).all (isV ts had) = false from s30, Bool.false_and]; done) | simp)) (subL_cons (lkv rfl (by first | rfl | (rw [take_all hlt, show (ks.take i).all (isV ts had) = true from s30, Bool.true_and]; done) | (rw [take_all hlt, show (ks.take i).all (isV ts had) = false from s30, Bool.false_and]; done) | simp)) (subL_cons (lkv rfl (by first | rfl | (rw [take_all hlt, show (ks.take i).all (isV ts had) = true from s30, Bool.true_and]; done) | (rw [take_all hlt, show (ks.take i).all (isV ts had) = false from s30, Bool.false_and]; done) | simp)) (subL_nil _)))))) (by omega)
    ·
      refine ow_skip rfl (gd_no rfl s30) ?_
      refine ow_val rfl rfl (ex_pickf rfl s30 rfl) ?_
      refine ow_val rfl rfl (ex_assign rfl) ?_
      refine ow_nil ?_
      refine qw_block_normal ?_
      refine qw_seq ?_
      refine cw_region ?_
      refine ow_val rfl rfl (ex_move rfl) ?_
      refine ow_val rfl rfl (ex_addi (z := ((i + 1 : Nat) : Int)) rfl rfl (by omega) (by omega) (by omega)) ?_
      refine ow_val rfl rfl (ex_assign rfl) ?_
      refine ow_nil ?_
      exact qw_roundS (i + 1) (by omega) (subL_cons (lkv rfl (by first | rfl | (rw [take_all hlt, show (ks.take i).all (isV ts had) = true from s30, Bool.true_and]; done) | (rw [take_all hlt, show (ks.take i).all (isV ts had) = false from s30, Bool.false_and]; done) | simp)) (subL_cons (lkv rfl (by first | rfl | (rw [take_all hlt, show (ks.take i).all (isV ts had) = true from s30, Bool.true_and]; done) | (rw [take_all hlt, show (ks.take i).all (isV ts had) = false from s30, Bool.false_and]; done) | simp)) (subL_cons (lkv rfl (by first | rfl | (rw [take_all hlt, show (ks.take i).all (isV ts had) = true from s30, Bool.true_and]; done) | (rw [take_all hlt, show (ks.take i).all (isV ts had) = false from s30, Bool.false_and]; done) | simp)) (subL_cons (lkv rfl (by first | rfl | (rw [take_all hlt, show (ks.take i).all (isV ts had) = true from s30, Bool.true_and]; done) | (rw [take_all hlt, show (ks.take i).all (isV ts had) = false from s30, Bool.false_and]; done) | simp)) (subL_cons (lkv rfl (by first | rfl | (rw [take_all hlt, show (ks.take i).all (isV ts had) = true from s30, Bool.true_and]; done) | (rw [take_all hlt, show (ks.take i).all (isV ts had) = false from s30, Bool.false_and]; done) | simp)) (subL_nil _)))))) (by omega)
  ·
    have hei : i = ks.length := by have := of_decide_eq_false c18; omega
    refine cw_exit ?_
    refine qw_then_exit ?_
    refine qw_then_exit ?_
    refine qw_block_exit ?_
    refine qw_seq ?_
    refine cw_seq ?_
    refine cw_seq ?_
    refine cw_region ?_
    refine ow_val rfl rfl (ex_move rfl) ?_
    refine ow_nil ?_
    refine qw_seq ?_
    refine cw_cond rfl (fun c33 => ?_) (fun c33 => ?_)
    ·
      have hka : ks.all (isV ts had) = true := by rw [hei, List.take_length] at c33; exact c33
      refine cw_seq ?_
      refine cw_region ?_
      refine ow_val rfl rfl (ex_assign rfl) ?_
      refine ow_nil ?_
      refine qw_seq ?_
      refine cw_ret ?_
      refine qw_then_ret ?_
      refine qw_ret1 rfl rfl (fun w' h => ⟨congrArg (fun z => Ending.returned (.bool z)) ?_, h.ag.below⟩)
      first
      | (unfold powerR; rw [hka]; rfl)
      | (unfold powerR; rw [← hpb, hpd, qh, q7, q8]; simp; done)
      | (unfold powerR; rw [hka, ← hpb]; rfl)
    ·
      have hka : ks.all (isV ts had) = false := by rw [hei, List.take_length] at c33; exact c33
      clear hei hle
      refine cw_skip ?_
      refine qw_seq ?_
      refine cw_seq ?_
      refine cw_seq ?_
      refine cw_region ?_
      refine ow_val rfl rfl (ex_assign rfl) ?_
      refine ow_nil ?_
      refine qw_seq ?_
      refine cw_block ?_
      refine cw_loop2 (fun (i : Nat) (τ : Hp) => [(0, .pointer (some ⟨d, 0, none⟩)), (1, .slice (some ⟨hb, 0, none⟩) ts.length ch), (5, .pointer (some ⟨b5, 0, none⟩)), (10, .int .i64 (i : Int))]) (fun i τ => i ≤ ts.length ∧ Le σ τ ∧ powRow ts had ks i (ts.drop i) = powRow ts had ks 0 ts) (fun i τ => τ) (fun i τ => []) (fun i _ => ts.length - i) 0 σ (subL_cons (lkv rfl (by first | rfl | simp)) (subL_cons (lkv rfl (by first | rfl | simp)) (subL_cons (lkv rfl (by first | rfl | simp)) (subL_cons (lkv rfl (by first | rfl | simp)) (subL_nil _))))) ⟨Nat.zero_le _, Le.refl _, rfl⟩ (fun w h => h) ?_
      intro i τ ⟨hlei, hlj, hpb⟩
      refine cw_seq ?_
      refine cw_seq ?_
      refine cw_region ?_
      refine ow_val rfl rfl (ex_move rfl) ?_
      refine ow_val rfl rfl (ex_move rfl) ?_
      refine ow_val rfl rfl (ex_nilck rfl) ?_
      refine ow_val rfl rfl (ex_field rfl) ?_
      refine ow_val rfl rfl (ex_load1 rfl (ld_imm1 (hc0.le hlj))) ?_
      refine ow_val rfl rfl (ex_len (ty := 0) rfl) ?_
      refine ow_val rfl rfl (ex_lss rfl rfl) ?_
      refine ow_nil ?_
      refine qw_seq ?_
      refine cw_cond rfl (fun c40 => ?_) (fun c40 => ?_)
      ·
        have hlt : i < ts.length := by have := of_decide_eq_true c40; omega
        obtain ⟨bt, ft, ct', cs, e1, e2, hc1, ht1⟩ := hks0.get i hlt
        cases e1
        have ht1' := ht1
        obtain ⟨d9, k9, rfl, _, _, hd9, hk9⟩ := ht1'.opn
        obtain ⟨pk9, ck9, rfl, _, _⟩ := hk9.slice
        have hpd := powRow_drop (had := had) (ks := ks) hlt
        have hkn9 := hkn _ (List.getElem_mem hlt)
        refine cw_skip ?_
        refine qw_seq ?_
        refine cw_seq ?_
        refine cw_block ?_
        refine cw_seq ?_
        refine cw_seq ?_
        refine cw_region ?_
        refine ow_val rfl rfl (ex_move rfl) ?_
        refine ow_val rfl rfl (ex_move rfl) ?_
        refine ow_val rfl rfl (ex_index_nat (i := i) rfl rfl (by omega)) ?_
        refine ow_val rfl rfl (ex_load1 rfl (ld_imm1 ((hh.le hlj).bool (i := i) (by omega)))) ?_
        refine ow_val rfl rfl (ex_not rfl) ?_
        refine ow_val rfl rfl (ex_move rfl) ?_
        refine ow_split (g := some (5, false)) rfl (fun s48 => ?_) (fun s48 => ?_)
        ·
          have qh : had.getD i false = false := by simpa using s48
          refine ow_skip rfl (gd_no rfl s48) ?_
          refine ow_skip rfl (gd_no rfl s48) ?_
          refine ow_skip rfl (gd_no rfl s48) ?_
          refine ow_skip rfl (gd_no rfl s48) ?_
          refine ow_skip rfl (gd_no rfl s48) ?_
          refine ow_skip rfl (gd_no rfl s48) ?_
          refine ow_skip rfl (gd_no rfl s48) ?_
          refine ow_skip rfl (gd_no rfl s48) ?_
          refine ow_skip rfl (gd_no rfl s48) ?_
          refine ow_val rfl rfl (ex_pickt rfl s48 rfl) ?_
          refine ow_nil ?_
          refine qw_seq ?_
          refine cw_cond_t rfl ?_
          refine cw_exit ?_
          refine qw_then_exit ?_
          refine qw_block_exit ?_
          refine qw_seq ?_
          refine cw_region ?_
          refine ow_val rfl rfl (ex_move rfl) ?_
          refine ow_val rfl rfl (ex_addi (z := ((i + 1 : Nat) : Int)) rfl rfl (by omega) (by omega) (by omega)) ?_
          refine ow_val rfl rfl (ex_assign rfl) ?_
          refine ow_nil ?_
          first
          | exact qw_round2 (i + 1) τ (by omega) (subL_cons (lkv rfl (by first | rfl | simp)) (subL_cons (lkv rfl (by first | rfl | simp)) (subL_cons (lkv rfl (by first | rfl | simp)) (subL_cons (lkv rfl (by first | rfl | simp)) (subL_nil _))))) ⟨by omega, hlj, by rw [← hpb, hpd]; rw [qh]; rfl⟩ (fun w h => h)
          | exact qw_round2 (i + 1) τ (by omega) (subL_cons (lkv rfl (by first | rfl | simp)) (subL_cons (lkv rfl (by first | rfl | simp)) (subL_cons (lkv rfl (by first | rfl | simp)) (subL_cons (lkv rfl (by first | rfl | simp)) (subL_nil _))))) ⟨by omega, hlj, by rw [← hpb, hpd]; rw [q7]; simp⟩ (fun w h => h)
          | exact qw_round2 (i + 1) τ5 (by omega) (subL_cons (lkv rfl (by first | rfl | simp)) (subL_cons (lkv rfl (by first | rfl | simp)) (subL_cons (lkv rfl (by first | rfl | simp)) (subL_cons (lkv rfl (by first | rfl | simp)) (subL_nil _))))) ⟨by omega, hlx, by rw [← hpb, hpd]; rw [q8]; simp⟩ (fun w h => h)
        ·
          have qh : had.getD i false = true := by simpa using s48
          refine ow_val rfl (gd_go rfl s48) (ex_move rfl) ?_
          refine ow_val rfl (gd_go rfl s48) (ex_nilck rfl) ?_
          refine ow_val rfl (gd_go rfl s48) (ex_field rfl) ?_
          refine ow_val rfl (gd_go rfl s48) (ex_load1 rfl (ld_imm1 (hc0.le hlj))) ?_
          refine ow_val rfl (gd_go rfl s48) (ex_move rfl) ?_
          refine ow_val rfl (gd_go rfl s48) (ex_index_nat (i := i) rfl rfl hlt) ?_
          refine ow_val rfl (gd_go rfl s48) (ex_field rfl) ?_
          refine ow_val rfl (gd_go rfl s48) (ex_load1 rfl (ld_imm1 ((hc1.le hlj).fld (i := 0) rfl))) ?_
          refine ow_val rfl (gd_go rfl s48) (ex_neq rfl rfl) ?_
          refine ow_val rfl rfl (ex_pickf rfl s48 rfl) ?_
          refine ow_nil ?_
          refine qw_seq ?_
          refine cw_cond rfl (fun c58 => ?_) (fun c58 => ?_)
          ·
            have q7 : decide (ts[i].op = 7) = false := by simpa using c58
            refine cw_exit ?_
            refine qw_then_exit ?_
            refine qw_block_exit ?_
            refine qw_seq ?_
            refine cw_region ?_
            refine ow_val rfl rfl (ex_move rfl) ?_
            refine ow_val rfl rfl (ex_addi (z := ((i + 1 : Nat) : Int)) rfl rfl (by omega) (by omega) (by omega)) ?_
            refine ow_val rfl rfl (ex_assign rfl) ?_
            refine ow_nil ?_
            first
            | exact qw_round2 (i + 1) τ (by omega) (subL_cons (lkv rfl (by first | rfl | simp)) (subL_cons (lkv rfl (by first | rfl | simp)) (subL_cons (lkv rfl (by first | rfl | simp)) (subL_cons (lkv rfl (by first | rfl | simp)) (subL_nil _))))) ⟨by omega, hlj, by rw [← hpb, hpd]; rw [qh]; rfl⟩ (fun w h => h)
            | exact qw_round2 (i + 1) τ (by omega) (subL_cons (lkv rfl (by first | rfl | simp)) (subL_cons (lkv rfl (by first | rfl | simp)) (subL_cons (lkv rfl (by first | rfl | simp)) (subL_cons (lkv rfl (by first | rfl | simp)) (subL_nil _))))) ⟨by omega, hlj, by rw [← hpb, hpd]; rw [q7]; simp⟩ (fun w h => h)
            | exact qw_round2 (i + 1) τ5 (by omega) (subL_cons (lkv rfl (by first | rfl | simp)) (subL_cons (lkv rfl (by first | rfl | simp)) (subL_cons (lkv rfl (by first | rfl | simp)) (subL_cons (lkv rfl (by first | rfl | simp)) (subL_nil _))))) ⟨by omega, hlx, by rw [← hpb, hpd]; rw [q8]; simp⟩ (fun w h => h)
          ·
            have q7 : decide (ts[i].op = 7) = true := by simpa using c58
            refine cw_skip ?_
            refine qw_seq ?_
            refine cw_seq ?_
            refine flow_soundT 11 (by kernel_rfl) ?_
            refine flow_val rfl (ex_field rfl) ?_
            refine flow_val rfl (ex_load1 rfl (by first | exact ld_own1 0 rfl rfl | exact ld_own1 1 rfl rfl | exact ld_own1 2 rfl rfl | exact ld_own1 3 rfl rfl | exact ld_own1 4 rfl rfl | exact ld_own1 5 rfl rfl | exact ld_own1 6 rfl rfl | exact ld_own1 7 rfl rfl | exact ld_ownG1 0 rfl rfl | exact ld_ownG1 1 rfl rfl | exact ld_imm1 (by assumption))) ?_
            refine flow_val rfl (ex_move rfl) ?_
            refine flow_val rfl (ex_nilck rfl) ?_
            refine flow_val rfl (ex_field rfl) ?_
            refine flow_val rfl (ex_load1 rfl (ld_imm1 (hc0.le hlj))) ?_
            refine flow_val rfl (ex_move rfl) ?_
            refine flow_val rfl (ex_index_nat (i := i) rfl rfl hlt) ?_
            refine flow_val rfl (ex_field rfl) ?_
            refine flow_val rfl (ex_load1 rfl (ld_imm1 ((hc1.le hlj).fld (i := 3) rfl))) ?_
            refine flow_cr rfl (ex_callf rfl (fun w h => callR (rWithout h.im (hk.le hlj) (hk9.le hlj) (by omega) (by omega)))) ?_
            refine flow_nilT ?_
            refine fint_satR (Le.refl _) (fun v70 τ5 hl5 hf5 hr5 => ?_)
            obtain ⟨v69, rfl, hkr⟩ := hr5
            have hkr' := hkr
            obtain ⟨pr, cr, rfl, _, _⟩ := hkr'.slice
            have hlx := hlj.trans hl5
            have hwl := withV_len ks ts[i].kids
            refine fint_is ?_
            refine fint_is ?_
            refine fint_is ?_
            refine fint_is ?_
            refine fint_is ?_
            refine fint_is ?_
            refine fint_is ?_
            refine fint_is ?_
            refine fint_is ?_
            refine fint_is ?_
            refine fint_nil ?_
            refine any_one (i := 11) (by kernel_rfl) ?_
            refine next_val rfl rfl (ex_move rfl) ?_
            refine any_two (i := 12) (j := 13) (by kernel_rfl) ?_ ?_
            ·
              refine next_val rfl rfl (ex_extract rfl rfl) ?_
              refine any_two (i := 13) (j := 14) (by kernel_rfl) ?_ ?_
              ·
                refine next_val rfl rfl (ex_extract rfl rfl) ?_
                refine any_one (i := 14) (by kernel_rfl) ?_
                refine next_val rfl rfl (ex_assign rfl) ?_
                refine any_one (i := 15) (by kernel_rfl) ?_
                refine next_val rfl rfl (ex_assign rfl) ?_
                refine any_done (by kernel_rfl) ?_
                refine qw_seq ?_
                refine cw_seq ?_
                refine cw_seq ?_
                refine cw_region ?_
                refine ow_val rfl rfl (ex_assign rfl) ?_
                refine ow_nil ?_
                refine qw_seq ?_
                refine cw_block ?_
                refine cw_loopS (α := Nat) (fun j => [(0, .pointer (some ⟨d, 0, none⟩)), (1, .slice (some ⟨hb, 0, none⟩) ts.length ch), (5, .pointer (some ⟨b5, 0, none⟩)), (10, .int .i64 (i : Int)), (11, .slice pr ((withV ks ts[i].kids).getD []).length cr), (12, .bool ((withV ks ts[i].kids).isSome && (((withV ks ts[i].kids).getD []).take j).all (isV ts had))), (13, .int .i64 (j : Int))]) (fun j => j ≤ ((withV ks ts[i].kids).getD []).length) (fun j => ((withV ks ts[i].kids).getD []).length - j) 0 (subL_cons (lkv rfl (by first | rfl | simp)) (subL_cons (lkv rfl (by first | rfl | simp)) (subL_cons (lkv rfl (by first | rfl | simp)) (subL_cons (lkv rfl (by first | rfl | simp)) (subL_cons (lkv rfl (by first | rfl | simp)) (subL_cons (lkv rfl (by first | rfl | simp)) (subL_cons (lkv rfl (by first | rfl | simp)) (subL_nil _)))))))) (Nat.zero_le _) ?_
                intro j hlej
                refine cw_seq ?_
                refine cw_seq ?_
                refine cw_region ?_
                refine ow_val rfl rfl (ex_move rfl) ?_
                refine ow_val rfl rfl (ex_move rfl) ?_
                refine ow_val rfl rfl (ex_len (ty := 0) rfl) ?_
                refine ow_val rfl rfl (ex_lss rfl rfl) ?_
                refine ow_val rfl rfl (ex_move rfl) ?_
                refine ow_split (g := some (4, true)) rfl (fun s77 => ?_) (fun s77 => ?_)
                ·
                  have hjl : j < ((withV ks ts[i].kids).getD []).length := by have := of_decide_eq_true s77; omega
                  obtain ⟨b2, f2, c2', cs2, e3, e4, hc2, ht2⟩ := hkr.get j hjl
                  cases e3
                  refine ow_val rfl (gd_go rfl s77) (ex_move rfl) ?_
                  refine ow_val rfl rfl (ex_pickt rfl s77 rfl) ?_
                  refine ow_nil ?_
                  refine qw_seq ?_
                  refine cw_cond rfl (fun c79 => ?_) (fun c79 => ?_)
                  ·
                    refine cw_skip ?_
                    refine qw_seq ?_
                    refine cw_seq ?_
                    refine cw_block ?_
                    refine cw_region ?_
                    refine ow_val rfl rfl (ex_move rfl) ?_
                    refine ow_val rfl rfl (ex_move rfl) ?_
                    refine ow_val rfl rfl (ex_move rfl) ?_
                    refine ow_val rfl rfl (ex_move rfl) ?_
                    refine ow_val rfl rfl (ex_index_nat (i := j) rfl rfl hjl) ?_
                    refine ow_val rfl rfl (ex_loadR rfl (ld_immT hc2 ht2)) ?_
                    refine ow_cv rfl rfl (ex_callf rfl (fun w h => callB ((rIs _ h.im (hc0.le hlx) (hks0.le hlx) (hh.le hlx) hl ht2)))) ?_
                    refine ow_val rfl rfl (ex_assign rfl) ?_
                    refine ow_nil ?_
                    refine qw_block_normal ?_
                    refine qw_seq ?_
                    refine cw_region ?_
                    refine ow_val rfl rfl (ex_move rfl) ?_
                    refine ow_val rfl rfl (ex_addi (z := ((j + 1 : Nat) : Int)) rfl rfl (by omega) (by omega) (by omega)) ?_
                    refine ow_val rfl rfl (ex_assign rfl) ?_
                    refine ow_nil ?_
                    exact qw_roundS (j + 1) (by omega) (subL_cons (lkv rfl (by first | rfl | (rw [take_all hjl, ← Bool.and_assoc, show ((withV ks ts[i].kids).isSome && (((withV ks ts[i].kids).getD []).take j).all (isV ts had)) = true from c79, Bool.true_and]; done) | simp)) (subL_cons (lkv rfl (by first | rfl | (rw [take_all hjl, ← Bool.and_assoc, show ((withV ks ts[i].kids).isSome && (((withV ks ts[i].kids).getD []).take j).all (isV ts had)) = true from c79, Bool.true_and]; done) | simp)) (subL_cons (lkv rfl (by first | rfl | (rw [take_all hjl, ← Bool.and_assoc, show ((withV ks ts[i].kids).isSome && (((withV ks ts[i].kids).getD []).take j).all (isV ts had)) = true from c79, Bool.true_and]; done) | simp)) (subL_cons (lkv rfl (by first | rfl | (rw [take_all hjl, ← Bool.and_assoc, show ((withV ks ts[i].kids).isSome && (((withV ks ts[i].kids).getD []).take j).all (isV ts had)) = true from c79, Bool.true_and]; done) | simp)) (subL_cons (lkv rfl (by first | rfl | (rw [take_all hjl, ← Bool.and_assoc, show ((withV ks ts[i].kids).isSome && (((withV ks ts[i].kids).getD []).take j).all (isV ts had)) = true from c79, Bool.true_and]; done) | simp)) (subL_cons (lkv rfl (by first | rfl | (rw [take_all hjl, ← Bool.and_assoc, show ((withV ks ts[i].kids).isSome && (((withV ks ts[i].kids).getD []).take j).all (isV ts had)) = true from c79, Bool.true_and]; done) | simp)) (subL_cons (lkv rfl (by first | rfl | (rw [take_all hjl, ← Bool.and_assoc, show ((withV ks ts[i].kids).isSome && (((withV ks ts[i].kids).getD []).take j).all (isV ts had)) = true from c79, Bool.true_and]; done) | simp)) (subL_nil _)))))))) (by omega)
                  ·
                    have hwb := withB_all (ts := ts) (had := had) (ks := ks) (ns := ts[i].kids) (j := j) (.inr c79)
                    refine cw_exit ?_
                    refine qw_then_exit ?_
                    refine qw_then_exit ?_
                    refine qw_block_exit ?_
                    refine qw_seq ?_
                    refine cw_seq ?_
                    refine cw_region ?_
                    refine ow_val rfl rfl (ex_move rfl) ?_
                    refine ow_nil ?_
                    refine qw_seq ?_
                    refine cw_cond rfl (fun c89 => ?_) (fun c89 => ?_)
                    ·
                      have q8 := c89
                      rw [hwb] at q8
                      refine cw_seq ?_
                      refine cw_region ?_
                      refine ow_val rfl rfl (ex_assign rfl) ?_
                      refine ow_nil ?_
                      refine qw_seq ?_
                      refine cw_ret ?_
                      refine qw_block_ret ?_
                      refine qw_then_ret ?_
                      refine qw_then_ret ?_
                      refine qw_block_ret ?_
                      refine qw_then_ret ?_
                      refine qw_ret1 rfl rfl (fun w' h => ⟨congrArg (fun z => Ending.returned (.bool z)) ?_, h.ag.below⟩)
                      first
                      | (unfold powerR; rw [hka]; rfl)
                      | (unfold powerR; rw [← hpb, hpd, qh, q7, q8]; simp; done)
                      | (unfold powerR; rw [hka, ← hpb]; rfl)
                    ·
                      have q8 := c89
                      rw [hwb] at q8
                      refine cw_skip ?_
                      refine qw_block_normal ?_
                      refine qw_seq ?_
                      refine cw_region ?_
                      refine ow_val rfl rfl (ex_move rfl) ?_
                      refine ow_val rfl rfl (ex_addi (z := ((i + 1 : Nat) : Int)) rfl rfl (by omega) (by omega) (by omega)) ?_
                      refine ow_val rfl rfl (ex_assign rfl) ?_
                      refine ow_nil ?_
                      first
                      | exact qw_round2 (i + 1) τ (by omega) (subL_cons (lkv rfl (by first | rfl | simp)) (subL_cons (lkv rfl (by first | rfl | simp)) (subL_cons (lkv rfl (by first | rfl | simp)) (subL_cons (lkv rfl (by first | rfl | simp)) (subL_nil _))))) ⟨by omega, hlj, by rw [← hpb, hpd]; rw [qh]; rfl⟩ (fun w h => h)
                      | exact qw_round2 (i + 1) τ (by omega) (subL_cons (lkv rfl (by first | rfl | simp)) (subL_cons (lkv rfl (by first | rfl | simp)) (subL_cons (lkv rfl (by first | rfl | simp)) (subL_cons (lkv rfl (by first | rfl | simp)) (subL_nil _))))) ⟨by omega, hlj, by rw [← hpb, hpd]; rw [q7]; simp⟩ (fun w h => h)
                      | exact qw_round2 (i + 1) τ5 (by omega) (subL_cons (lkv rfl (by first | rfl | simp)) (subL_cons (lkv rfl (by first | rfl | simp)) (subL_cons (lkv rfl (by first | rfl | simp)) (subL_cons (lkv rfl (by first | rfl | simp)) (subL_nil _))))) ⟨by omega, hlx, by rw [← hpb, hpd]; rw [q8]; simp⟩ (fun w h => h)
                ·
                  have hwb := withB_all (ts := ts) (had := had) (ks := ks) (ns := ts[i].kids) (j := j) (.inl (by have := of_decide_eq_false s77; omega))
                  refine ow_skip rfl (gd_no rfl s77) ?_
                  refine ow_val rfl rfl (ex_pickf rfl s77 rfl) ?_
                  refine ow_nil ?_
                  refine qw_seq ?_
                  refine cw_cond_f rfl ?_
                  refine cw_exit ?_
                  refine qw_then_exit ?_
                  refine qw_then_exit ?_
                  refine qw_block_exit ?_
                  refine qw_seq ?_
                  refine cw_seq ?_
                  refine cw_region ?_
                  refine ow_val rfl rfl (ex_move rfl) ?_
                  refine ow_nil ?_
                  refine qw_seq ?_
                  refine cw_cond rfl (fun c89 => ?_) (fun c89 => ?_)
                  ·
                    have q8 := c89
                    rw [hwb] at q8
                    refine cw_seq ?_
                    refine cw_region ?_
                    refine ow_val rfl rfl (ex_assign rfl) ?_
                    refine ow_nil ?_
                    refine qw_seq ?_
                    refine cw_ret ?_
                    refine qw_block_ret ?_
                    refine qw_then_ret ?_
                    refine qw_then_ret ?_
                    refine qw_block_ret ?_
                    refine qw_then_ret ?_
                    refine qw_ret1 rfl rfl (fun w' h => ⟨congrArg (fun z => Ending.returned (.bool z)) ?_, h.ag.below⟩)
                    first
                    | (unfold powerR; rw [hka]; rfl)
                    | (unfold powerR; rw [← hpb, hpd, qh, q7, q8]; simp; done)
                    | (unfold powerR; rw [hka, ← hpb]; rfl)
                  ·
                    have q8 := c89
                    rw [hwb] at q8
                    refine cw_skip ?_
                    refine qw_block_normal ?_
                    refine qw_seq ?_
                    refine cw_region ?_
                    refine ow_val rfl rfl (ex_move rfl) ?_
                    refine ow_val rfl rfl (ex_addi (z := ((i + 1 : Nat) : Int)) rfl rfl (by omega) (by omega) (by omega)) ?_
                    refine ow_val rfl rfl (ex_assign rfl) ?_
                    refine ow_nil ?_
                    first
                    | exact qw_round2 (i + 1) τ (by omega) (subL_cons (lkv rfl (by first | rfl | simp)) (subL_cons (lkv rfl (by first | rfl | simp)) (subL_cons (lkv rfl (by first | rfl | simp)) (subL_cons (lkv rfl (by first | rfl | simp)) (subL_nil _))))) ⟨by omega, hlj, by rw [← hpb, hpd]; rw [qh]; rfl⟩ (fun w h => h)
                    | exact qw_round2 (i + 1) τ (by omega) (subL_cons (lkv rfl (by first | rfl | simp)) (subL_cons (lkv rfl (by first | rfl | simp)) (subL_cons (lkv rfl (by first | rfl | simp)) (subL_cons (lkv rfl (by first | rfl | simp)) (subL_nil _))))) ⟨by omega, hlj, by rw [← hpb, hpd]; rw [q7]; simp⟩ (fun w h => h)
                    | exact qw_round2 (i + 1) τ5 (by omega) (subL_cons (lkv rfl (by first | rfl | simp)) (subL_cons (lkv rfl (by first | rfl | simp)) (subL_cons (lkv rfl (by first | rfl | simp)) (subL_cons (lkv rfl (by first | rfl | simp)) (subL_nil _))))) ⟨by omega, hlx, by rw [← hpb, hpd]; rw [q8]; simp⟩ (fun w h => h)
              ·
                refine next_val rfl rfl (ex_assign rfl) ?_
                refine any_one (i := 13) (by kernel_rfl) ?_
                refine next_val rfl rfl (ex_extract rfl rfl) ?_
                refine any_one (i := 15) (by kernel_rfl) ?_
                refine next_val rfl rfl (ex_assign rfl) ?_
                refine any_done (by kernel_rfl) ?_
                refine qw_seq ?_
                refine cw_seq ?_
                refine cw_seq ?_
                refine cw_region ?_
                refine ow_val rfl rfl (ex_assign rfl) ?_
                refine ow_nil ?_
                refine qw_seq ?_
                refine cw_block ?_
                refine cw_loopS (α := Nat) (fun j => [(0, .pointer (some ⟨d, 0, none⟩)), (1, .slice (some ⟨hb, 0, none⟩) ts.length ch), (5, .pointer (some ⟨b5, 0, none⟩)), (10, .int .i64 (i : Int)), (11, .slice pr ((withV ks ts[i].kids).getD []).length cr), (12, .bool ((withV ks ts[i].kids).isSome && (((withV ks ts[i].kids).getD []).take j).all (isV ts had))), (13, .int .i64 (j : Int))]) (fun j => j ≤ ((withV ks ts[i].kids).getD []).length) (fun j => ((withV ks ts[i].kids).getD []).length - j) 0 (subL_cons (lkv rfl (by first | rfl | simp)) (subL_cons (lkv rfl (by first | rfl | simp)) (subL_cons (lkv rfl (by first | rfl | simp)) (subL_cons (lkv rfl (by first | rfl | simp)) (subL_cons (lkv rfl (by first | rfl | simp)) (subL_cons (lkv rfl (by first | rfl | simp)) (subL_cons (lkv rfl (by first | rfl | simp)) (subL_nil _)))))))) (Nat.zero_le _) ?_
                intro j hlej
                refine cw_seq ?_
                refine cw_seq ?_
                refine cw_region ?_
                refine ow_val rfl rfl (ex_move rfl) ?_
                refine ow_val rfl rfl (ex_move rfl) ?_
                refine ow_val rfl rfl (ex_len (ty := 0) rfl) ?_
                refine ow_val rfl rfl (ex_lss rfl rfl) ?_
                refine ow_val rfl rfl (ex_move rfl) ?_
                refine ow_split (g := some (4, true)) rfl (fun s77 => ?_) (fun s77 => ?_)
                ·
                  have hjl : j < ((withV ks ts[i].kids).getD []).length := by have := of_decide_eq_true s77; omega
                  obtain ⟨b2, f2, c2', cs2, e3, e4, hc2, ht2⟩ := hkr.get j hjl
                  cases e3
                  refine ow_val rfl (gd_go rfl s77) (ex_move rfl) ?_
                  refine ow_val rfl rfl (ex_pickt rfl s77 rfl) ?_
                  refine ow_nil ?_
                  refine qw_seq ?_
                  refine cw_cond rfl (fun c79 => ?_) (fun c79 => ?_)
                  ·
                    refine cw_skip ?_
                    refine qw_seq ?_
                    refine cw_seq ?_
                    refine cw_block ?_
                    refine cw_region ?_
                    refine ow_val rfl rfl (ex_move rfl) ?_
                    refine ow_val rfl rfl (ex_move rfl) ?_
                    refine ow_val rfl rfl (ex_move rfl) ?_
                    refine ow_val rfl rfl (ex_move rfl) ?_
                    refine ow_val rfl rfl (ex_index_nat (i := j) rfl rfl hjl) ?_
                    refine ow_val rfl rfl (ex_loadR rfl (ld_immT hc2 ht2)) ?_
                    refine ow_cv rfl rfl (ex_callf rfl (fun w h => callB ((rIs _ h.im (hc0.le hlx) (hks0.le hlx) (hh.le hlx) hl ht2)))) ?_
                    refine ow_val rfl rfl (ex_assign rfl) ?_
                    refine ow_nil ?_
                    refine qw_block_normal ?_
                    refine qw_seq ?_
                    refine cw_region ?_
                    refine ow_val rfl rfl (ex_move rfl) ?_
                    refine ow_val rfl rfl (ex_addi (z := ((j + 1 : Nat) : Int)) rfl rfl (by omega) (by omega) (by omega)) ?_
                    refine ow_val rfl rfl (ex_assign rfl) ?_
                    refine ow_nil ?_
                    exact qw_roundS (j + 1) (by omega) (subL_cons (lkv rfl (by first | rfl | (rw [take_all hjl, ← Bool.and_assoc, show ((withV ks ts[i].kids).isSome && (((withV ks ts[i].kids).getD []).take j).all (isV ts had)) = true from c79, Bool.true_and]; done) | simp)) (subL_cons (lkv rfl (by first | rfl | (rw [take_all hjl, ← Bool.and_assoc, show ((withV ks ts[i].kids).isSome && (((withV ks ts[i].kids).getD []).take j).all (isV ts had)) = true from c79, Bool.true_and]; done) | simp)) (subL_cons (lkv rfl (by first | rfl | (rw [take_all hjl, ← Bool.and_assoc, show ((withV ks ts[i].kids).isSome && (((withV ks ts[i].kids).getD []).take j).all (isV ts had)) = true from c79, Bool.true_and]; done) | simp)) (subL_cons (lkv rfl (by first | rfl | (rw [take_all hjl, ← Bool.and_assoc, show ((withV ks ts[i].kids).isSome && (((withV ks ts[i].kids).getD []).take j).all (isV ts had)) = true from c79, Bool.true_and]; done) | simp)) (subL_cons (lkv rfl (by first | rfl | (rw [take_all hjl, ← Bool.and_assoc, show ((withV ks ts[i].kids).isSome && (((withV ks ts[i].kids).getD []).take j).all (isV ts had)) = true from c79, Bool.true_and]; done) | simp)) (subL_cons (lkv rfl (by first | rfl | (rw [take_all hjl, ← Bool.and_assoc, show ((withV ks ts[i].kids).isSome && (((withV ks ts[i].kids).getD []).take j).all (isV ts had)) = true from c79, Bool.true_and]; done) | simp)) (subL_cons (lkv rfl (by first | rfl | (rw [take_all hjl, ← Bool.and_assoc, show ((withV ks ts[i].kids).isSome && (((withV ks ts[i].kids).getD []).take j).all (isV ts had)) = true from c79, Bool.true_and]; done) | simp)) (subL_nil _)))))))) (by omega)
                  ·
                    have hwb := withB_all (ts := ts) (had := had) (ks := ks) (ns := ts[i].kids) (j := j) (.inr c79)
                    refine cw_exit ?_
                    refine qw_then_exit ?_
                    refine qw_then_exit ?_
                    refine qw_block_exit ?_
                    refine qw_seq ?_
                    refine cw_seq ?_
                    refine cw_region ?_
                    refine ow_val rfl rfl (ex_move rfl) ?_
                    refine ow_nil ?_
                    refine qw_seq ?_
                    refine cw_cond rfl (fun c89 => ?_) (fun c89 => ?_)
                    ·
                      have q8 := c89
                      rw [hwb] at q8
                      refine cw_seq ?_
                      refine cw_region ?_
                      refine ow_val rfl rfl (ex_assign rfl) ?_
                      refine ow_nil ?_
                      refine qw_seq ?_
                      refine cw_ret ?_
                      refine qw_block_ret ?_
                      refine qw_then_ret ?_
                      refine qw_then_ret ?_
                      refine qw_block_ret ?_
                      refine qw_then_ret ?_
                      refine qw_ret1 rfl rfl (fun w' h => ⟨congrArg (fun z => Ending.returned (.bool z)) ?_, h.ag.below⟩)
                      first
                      | (unfold powerR; rw [hka]; rfl)
                      | (unfold powerR; rw [← hpb, hpd, qh, q7, q8]; simp; done)
                      | (unfold powerR; rw [hka, ← hpb]; rfl)
                    ·
                      have q8 := c89
                      rw [hwb] at q8
                      refine cw_skip ?_
                      refine qw_block_normal ?_
                      refine qw_seq ?_
                      refine cw_region ?_
                      refine ow_val rfl rfl (ex_move rfl) ?_
                      refine ow_val rfl rfl (ex_addi (z := ((i + 1 : Nat) : Int)) rfl rfl (by omega) (by omega) (by omega)) ?_
                      refine ow_val rfl rfl (ex_assign rfl) ?_
                      refine ow_nil ?_
                      first
                      | exact qw_round2 (i + 1) τ (by omega) (subL_cons (lkv rfl (by first | rfl | simp)) (subL_cons (lkv rfl (by first | rfl | simp)) (subL_cons (lkv rfl (by first | rfl | simp)) (subL_cons (lkv rfl (by first | rfl | simp)) (subL_nil _))))) ⟨by omega, hlj, by rw [← hpb, hpd]; rw [qh]; rfl⟩ (fun w h => h)
                      | exact qw_round2 (i + 1) τ (by omega) (subL_cons (lkv rfl (by first | rfl | simp)) (subL_cons (lkv rfl (by first | rfl | simp)) (subL_cons (lkv rfl (by first | rfl | simp)) (subL_cons (lkv rfl (by first | rfl | simp)) (subL_nil _))))) ⟨by omega, hlj, by rw [← hpb, hpd]; rw [q7]; simp⟩ (fun w h => h)
                      | exact qw_round2 (i + 1) τ5 (by omega) (subL_cons (lkv rfl (by first | rfl | simp)) (subL_cons (lkv rfl (by first | rfl | simp)) (subL_cons (lkv rfl (by first | rfl | simp)) (subL_cons (lkv rfl (by first | rfl | simp)) (subL_nil _))))) ⟨by omega, hlx, by rw [← hpb, hpd]; rw [q8]; simp⟩ (fun w h => h)
                ·
                  have hwb := withB_all (ts := ts) (had := had) (ks := ks) (ns := ts[i].kids) (j := j) (.inl (by have := of_decide_eq_false s77; omega))
                  refine ow_skip rfl (gd_no rfl s77) ?_
                  refine ow_val rfl rfl (ex_pickf rfl s77 rfl) ?_
                  refine ow_nil ?_
                  refine qw_seq ?_
                  refine cw_cond_f rfl ?_
                  refine cw_exit ?_
                  refine qw_then_exit ?_
                  refine qw_then_exit ?_
                  refine qw_block_exit ?_
                  refine qw_seq ?_
                  refine cw_seq ?_
                  refine cw_region ?_
                  refine ow_val rfl rfl (ex_move rfl) ?_
                  refine ow_nil ?_
                  refine qw_seq ?_
                  refine cw_cond rfl (fun c89 => ?_) (fun c89 => ?_)
                  ·
                    have q8 := c89
                    rw [hwb] at q8
                    refine cw_seq ?_
                    refine cw_region ?_
                    refine ow_val rfl rfl (ex_assign rfl) ?_
                    refine ow_nil ?_
                    refine qw_seq ?_
                    refine cw_ret ?_
                    refine qw_block_ret ?_
                    refine qw_then_ret ?_
                    refine qw_then_ret ?_
                    refine qw_block_ret ?_
                    refine qw_then_ret ?_
                    refine qw_ret1 rfl rfl (fun w' h => ⟨congrArg (fun z => Ending.returned (.bool z)) ?_, h.ag.below⟩)
                    first
                    | (unfold powerR; rw [hka]; rfl)
                    | (unfold powerR; rw [← hpb, hpd, qh, q7, q8]; simp; done)
                    | (unfold powerR; rw [hka, ← hpb]; rfl)
                  ·
                    have q8 := c89
                    rw [hwb] at q8
                    refine cw_skip ?_
                    refine qw_block_normal ?_
                    refine qw_seq ?_
                    refine cw_region ?_
                    refine ow_val rfl rfl (ex_move rfl) ?_
                    refine ow_val rfl rfl (ex_addi (z := ((i + 1 : Nat) : Int)) rfl rfl (by omega) (by omega) (by omega)) ?_
                    refine ow_val rfl rfl (ex_assign rfl) ?_
                    refine ow_nil ?_
                    first
                    | exact qw_round2 (i + 1) τ (by omega) (subL_cons (lkv rfl (by first | rfl | simp)) (subL_cons (lkv rfl (by first | rfl | simp)) (subL_cons (lkv rfl (by first | rfl | simp)) (subL_cons (lkv rfl (by first | rfl | simp)) (subL_nil _))))) ⟨by omega, hlj, by rw [← hpb, hpd]; rw [qh]; rfl⟩ (fun w h => h)
                    | exact qw_round2 (i + 1) τ (by omega) (subL_cons (lkv rfl (by first | rfl | simp)) (subL_cons (lkv rfl (by first | rfl | simp)) (subL_cons (lkv rfl (by first | rfl | simp)) (subL_cons (lkv rfl (by first | rfl | simp)) (subL_nil _))))) ⟨by omega, hlj, by rw [← hpb, hpd]; rw [q7]; simp⟩ (fun w h => h)
                    | exact qw_round2 (i + 1) τ5 (by omega) (subL_cons (lkv rfl (by first | rfl | simp)) (subL_cons (lkv rfl (by first | rfl | simp)) (subL_cons (lkv rfl (by first | rfl | simp)) (subL_cons (lkv rfl (by first | rfl | simp)) (subL_nil _))))) ⟨by omega, hlx, by rw [← hpb, hpd]; rw [q8]; simp⟩ (fun w h => h)
            ·
              refine next_val rfl rfl (ex_extract rfl rfl) ?_
              refine any_one (i := 12) (by kernel_rfl) ?_
              refine next_val rfl rfl (ex_extract rfl rfl) ?_
              refine any_one (i := 14) (by kernel_rfl) ?_
              refine next_val rfl rfl (ex_assign rfl) ?_
              refine any_one (i := 15) (by kernel_rfl) ?_
              refine next_val rfl rfl (ex_assign rfl) ?_
              refine any_done (by kernel_rfl) ?_
              refine qw_seq ?_
              refine cw_seq ?_
              refine cw_seq ?_
              refine cw_region ?_
              refine ow_val rfl rfl (ex_assign rfl) ?_
              refine ow_nil ?_
              refine qw_seq ?_
              refine cw_block ?_
              refine cw_loopS (α := Nat) (fun j => [(0, .pointer (some ⟨d, 0, none⟩)), (1, .slice (some ⟨hb, 0, none⟩) ts.length ch), (5, .pointer (some ⟨b5, 0, none⟩)), (10, .int .i64 (i : Int)), (11, .slice pr ((withV ks ts[i].kids).getD []).length cr), (12, .bool ((withV ks ts[i].kids).isSome && (((withV ks ts[i].kids).getD []).take j).all (isV ts had))), (13, .int .i64 (j : Int))]) (fun j => j ≤ ((withV ks ts[i].kids).getD []).length) (fun j => ((withV ks ts[i].kids).getD []).length - j) 0 (subL_cons (lkv rfl (by first | rfl | simp)) (subL_cons (lkv rfl (by first | rfl | simp)) (subL_cons (lkv rfl (by first | rfl | simp)) (subL_cons (lkv rfl (by first | rfl | simp)) (subL_cons (lkv rfl (by first | rfl | simp)) (subL_cons (lkv rfl (by first | rfl | simp)) (subL_cons (lkv rfl (by first | rfl | simp)) (subL_nil _)))))))) (Nat.zero_le _) ?_
              intro j hlej
              refine cw_seq ?_
              refine cw_seq ?_
              refine cw_region ?_
              refine ow_val rfl rfl (ex_move rfl) ?_
              refine ow_val rfl rfl (ex_move rfl) ?_
              refine ow_val rfl rfl (ex_len (ty := 0) rfl) ?_
              refine ow_val rfl rfl (ex_lss rfl rfl) ?_
              refine ow_val rfl rfl (ex_move rfl) ?_
              refine ow_split (g := some (4, true)) rfl (fun s77 => ?_) (fun s77 => ?_)
              ·
                have hjl : j < ((withV ks ts[i].kids).getD []).length := by have := of_decide_eq_true s77; omega
                obtain ⟨b2, f2, c2', cs2, e3, e4, hc2, ht2⟩ := hkr.get j hjl
                cases e3
                refine ow_val rfl (gd_go rfl s77) (ex_move rfl) ?_
                refine ow_val rfl rfl (ex_pickt rfl s77 rfl) ?_
                refine ow_nil ?_
                refine qw_seq ?_
                refine cw_cond rfl (fun c79 => ?_) (fun c79 => ?_)
                ·
                  refine cw_skip ?_
                  refine qw_seq ?_
                  refine cw_seq ?_
                  refine cw_block ?_
                  refine cw_region ?_
                  refine ow_val rfl rfl (ex_move rfl) ?_
                  refine ow_val rfl rfl (ex_move rfl) ?_
                  refine ow_val rfl rfl (ex_move rfl) ?_
                  refine ow_val rfl rfl (ex_move rfl) ?_
                  refine ow_val rfl rfl (ex_index_nat (i := j) rfl rfl hjl) ?_
                  refine ow_val rfl rfl (ex_loadR rfl (ld_immT hc2 ht2)) ?_
                  refine ow_cv rfl rfl (ex_callf rfl (fun w h => callB ((rIs _ h.im (hc0.le hlx) (hks0.le hlx) (hh.le hlx) hl ht2)))) ?_
                  refine ow_val rfl rfl (ex_assign rfl) ?_
                  refine ow_nil ?_
                  refine qw_block_normal ?_
                  refine qw_seq ?_
                  refine cw_region ?_
                  refine ow_val rfl rfl (ex_move rfl) ?_
                  refine ow_val rfl rfl (ex_addi (z := ((j + 1 : Nat) : Int)) rfl rfl (by omega) (by omega) (by omega)) ?_
                  refine ow_val rfl rfl (ex_assign rfl) ?_
                  refine ow_nil ?_
                  exact qw_roundS (j + 1) (by omega) (subL_cons (lkv rfl (by first | rfl | (rw [take_all hjl, ← Bool.and_assoc, show ((withV ks ts[i].kids).isSome && (((withV ks ts[i].kids).getD []).take j).all (isV ts had)) = true from c79, Bool.true_and]; done) | simp)) (subL_cons (lkv rfl (by first | rfl | (rw [take_all hjl, ← Bool.and_assoc, show ((withV ks ts[i].kids).isSome && (((withV ks ts[i].kids).getD []).take j).all (isV ts had)) = true from c79, Bool.true_and]; done) | simp)) (subL_cons (lkv rfl (by first | rfl | (rw [take_all hjl, ← Bool.and_assoc, show ((withV ks ts[i].kids).isSome && (((withV ks ts[i].kids).getD []).take j).all (isV ts had)) = true from c79, Bool.true_and]; done) | simp)) (subL_cons (lkv rfl (by first | rfl | (rw [take_all hjl, ← Bool.and_assoc, show ((withV ks ts[i].kids).isSome && (((withV ks ts[i].kids).getD []).take j).all (isV ts had)) = true from c79, Bool.true_and]; done) | simp)) (subL_cons (lkv rfl (by first | rfl | (rw [take_all hjl, ← Bool.and_assoc, show ((withV ks ts[i].kids).isSome && (((withV ks ts[i].kids).getD []).take j).all (isV ts had)) = true from c79, Bool.true_and]; done) | simp)) (subL_cons (lkv rfl (by first | rfl | (rw [take_all hjl, ← Bool.and_assoc, show ((withV ks ts[i].kids).isSome && (((withV ks ts[i].kids).getD []).take j).all (isV ts had)) = true from c79, Bool.true_and]; done) | simp)) (subL_cons (lkv rfl (by first | rfl | (rw [take_all hjl, ← Bool.and_assoc, show ((withV ks ts[i].kids).isSome && (((withV ks ts[i].kids).getD []).take j).all (isV ts had)) = true from c79, Bool.true_and]; done) | simp)) (subL_nil _)))))))) (by omega)
                ·
                  have hwb := withB_all (ts := ts) (had := had) (ks := ks) (ns := ts[i].kids) (j := j) (.inr c79)
                  refine cw_exit ?_
                  refine qw_then_exit ?_
                  refine qw_then_exit ?_
                  refine qw_block_exit ?_
                  refine qw_seq ?_
                  refine cw_seq ?_
                  refine cw_region ?_
                  refine ow_val rfl rfl (ex_move rfl) ?_
                  refine ow_nil ?_
                  refine qw_seq ?_
                  refine cw_cond rfl (fun c89 => ?_) (fun c89 => ?_)
                  ·
                    have q8 := c89
                    rw [hwb] at q8
                    refine cw_seq ?_
                    refine cw_region ?_
                    refine ow_val rfl rfl (ex_assign rfl) ?_
                    refine ow_nil ?_
                    refine qw_seq ?_
                    refine cw_ret ?_
                    refine qw_block_ret ?_
                    refine qw_then_ret ?_
                    refine qw_then_ret ?_
                    refine qw_block_ret ?_
                    refine qw_then_ret ?_
                    refine qw_ret1 rfl rfl (fun w' h => ⟨congrArg (fun z => Ending.returned (.bool z)) ?_, h.ag.below⟩)
                    first
                    | (unfold powerR; rw [hka]; rfl)
                    | (unfold powerR; rw [← hpb, hpd, qh, q7, q8]; simp; done)
                    | (unfold powerR; rw [hka, ← hpb]; rfl)
                  ·
                    have q8 := c89
                    rw [hwb] at q8
                    refine cw_skip ?_
                    refine qw_block_normal ?_
                    refine qw_seq ?_
                    refine cw_region ?_
                    refine ow_val rfl rfl (ex_move rfl) ?_
                    refine ow_val rfl rfl (ex_addi (z := ((i + 1 : Nat) : Int)) rfl rfl (by omega) (by omega) (by omega)) ?_
                    refine ow_val rfl rfl (ex_assign rfl) ?_
                    refine ow_nil ?_
                    first
                    | exact qw_round2 (i + 1) τ (by omega) (subL_cons (lkv rfl (by first | rfl | simp)) (subL_cons (lkv rfl (by first | rfl | simp)) (subL_cons (lkv rfl (by first | rfl | simp)) (subL_cons (lkv rfl (by first | rfl | simp)) (subL_nil _))))) ⟨by omega, hlj, by rw [← hpb, hpd]; rw [qh]; rfl⟩ (fun w h => h)
                    | exact qw_round2 (i + 1) τ (by omega) (subL_cons (lkv rfl (by first | rfl | simp)) (subL_cons (lkv rfl (by first | rfl | simp)) (subL_cons (lkv rfl (by first | rfl | simp)) (subL_cons (lkv rfl (by first | rfl | simp)) (subL_nil _))))) ⟨by omega, hlj, by rw [← hpb, hpd]; rw [q7]; simp⟩ (fun w h => h)
                    | exact qw_round2 (i + 1) τ5 (by omega) (subL_cons (lkv rfl (by first | rfl | simp)) (subL_cons (lkv rfl (by first | rfl | simp)) (subL_cons (lkv rfl (by first | rfl | simp)) (subL_cons (lkv rfl (by first | rfl | simp)) (subL_nil _))))) ⟨by omega, hlx, by rw [← hpb, hpd]; rw [q8]; simp⟩ (fun w h => h)
              ·
                have hwb := withB_all (ts := ts) (had := had) (ks := ks) (ns := ts[i].kids) (j := j) (.inl (by have := of_decide_eq_false s77; omega))
                refine ow_skip rfl (gd_no rfl s77) ?_
                refine ow_val rfl rfl (ex_pickf rfl s77 rfl) ?_
                refine ow_nil ?_
                refine qw_seq ?_
                refine cw_cond_f rfl ?_
                refine cw_exit ?_
                refine qw_then_exit ?_
                refine qw_then_exit ?_
                refine qw_block_exit ?_
                refine qw_seq ?_
                refine cw_seq ?_
                refine cw_region ?_
                refine ow_val rfl rfl (ex_move rfl) ?_
                refine ow_nil ?_
                refine qw_seq ?_
                refine cw_cond rfl (fun c89 => ?_) (fun c89 => ?_)
                ·
                  have q8 := c89
                  rw [hwb] at q8
                  refine cw_seq ?_
                  refine cw_region ?_
                  refine ow_val rfl rfl (ex_assign rfl) ?_
                  refine ow_nil ?_
                  refine qw_seq ?_
                  refine cw_ret ?_
                  refine qw_block_ret ?_
                  refine qw_then_ret ?_
                  refine qw_then_ret ?_
                  refine qw_block_ret ?_
                  refine qw_then_ret ?_
                  refine qw_ret1 rfl rfl (fun w' h => ⟨congrArg (fun z => Ending.returned (.bool z)) ?_, h.ag.below⟩)
                  first
                  | (unfold powerR; rw [hka]; rfl)
                  | (unfold powerR; rw [← hpb, hpd, qh, q7, q8]; simp; done)
                  | (unfold powerR; rw [hka, ← hpb]; rfl)
                ·
                  have q8 := c89
                  rw [hwb] at q8
                  refine cw_skip ?_
                  refine qw_block_normal ?_
                  refine qw_seq ?_
                  refine cw_region ?_
                  refine ow_val rfl rfl (ex_move rfl) ?_
                  refine ow_val rfl rfl (ex_addi (z := ((i + 1 : Nat) : Int)) rfl rfl (by omega) (by omega) (by omega)) ?_
                  refine ow_val rfl rfl (ex_assign rfl) ?_
                  refine ow_nil ?_
                  first
                  | exact qw_round2 (i + 1) τ (by omega) (subL_cons (lkv rfl (by first | rfl | simp)) (subL_cons (lkv rfl (by first | rfl | simp)) (subL_cons (lkv rfl (by first | rfl | simp)) (subL_cons (lkv rfl (by first | rfl | simp)) (subL_nil _))))) ⟨by omega, hlj, by rw [← hpb, hpd]; rw [qh]; rfl⟩ (fun w h => h)
                  | exact qw_round2 (i + 1) τ (by omega) (subL_cons (lkv rfl (by first | rfl | simp)) (subL_cons (lkv rfl (by first | rfl | simp)) (subL_cons (lkv rfl (by first | rfl | simp)) (subL_cons (lkv rfl (by first | rfl | simp)) (subL_nil _))))) ⟨by omega, hlj, by rw [← hpb, hpd]; rw [q7]; simp⟩ (fun w h => h)
                  | exact qw_round2 (i + 1) τ5 (by omega) (subL_cons (lkv rfl (by first | rfl | simp)) (subL_cons (lkv rfl (by first | rfl | simp)) (subL_cons (lkv rfl (by first | rfl | simp)) (subL_cons (lkv rfl (by first | rfl | simp)) (subL_nil _))))) ⟨by omega, hlx, by rw [← hpb, hpd]; rw [q8]; simp⟩ (fun w h => h)
      ·
        have hei : i = ts.length := by have := of_decide_eq_false c40; omega
        rw [hei, List.drop_length] at hpb
        refine cw_exit ?_
        refine qw_then_exit ?_
        refine qw_then_exit ?_
        refine qw_block_exit ?_
        refine qw_seq ?_
        refine cw_seq ?_
        refine cw_region ?_
        refine ow_val rfl rfl (ex_assign rfl) ?_
        refine ow_nil ?_
        refine qw_seq ?_
        refine cw_ret ?_
        refine qw_ret1 rfl rfl (fun w' h => ⟨congrArg (fun z => Ending.returned (.bool z)) ?_, h.ag.below⟩)
        first
        | (unfold powerR; rw [hka]; rfl)
        | (unfold powerR; rw [← hpb, hpd, qh, q7, q8]; simp; done)
        | (unfold powerR; rw [hka, ← hpb]; rfl)
set_option maxHeartbeats 2000000 in
theorem rMade {i : Nat} {d hb ch : Nat} {sv : Value} {ts : List T} {had : List Bool} {σ : Hp} {w : World} (hi : Imm σ w) (hc0 : CellsAt σ d 0 [sv]) (hks : KidsV σ sv ts) (hh : CellsAt σ hb 0 (boolsV had)) (hl : had.length = ts.length) (hI : TabI ts) (hfw : ts.length ≤ 4096) (hil : i < ts.length) : Calls Tryz.prog 97 #[.pointer (some ⟨d, 0, none⟩), .slice (some ⟨hb, 0, none⟩) ts.length ch, .int .i64 (i : Int)] w fun e w' => e = .returned (.bool (madeR ts had i ts[i])) ∧ Below w.heap.size w w' := by
  have hks0 := hks
  obtain ⟨psv, csv, rfl, _, _⟩ := hks.slice
  obtain ⟨bt, ft, ct', cs, e1, e2, hc1, ht1⟩ := hks0.get i hil
  cases e1
  have ht1' := ht1
  obtain ⟨d9, k9, rfl, _, _, hd9, hk9⟩ := ht1'.opn
  obtain ⟨pk9, ck9, rfl, _, _⟩ := hk9.slice
  obtain ⟨pd9, cd9, rfl, _, _⟩ := hd9.slice
  have hsh := hI.shapeAt hil
  refine enter (St w (fun _ => False) σ [] []) Tryz.func97 rfl Tryz.ntmps97 rfl (St.start hi) ?_
  refine cw_seq ?_
  refine cw_region ?_
  refine ow_val rfl rfl (ex_assign rfl) ?_
  refine ow_nil ?_
  refine qw_seq ?_
  refine cw_seq ?_
  refine cw_region ?_
  refine ow_val rfl rfl (ex_move rfl) ?_
  refine ow_val rfl rfl (ex_nilck rfl) ?_
  refine ow_val rfl rfl (ex_field rfl) ?_
  refine ow_val rfl rfl (ex_load1 rfl (ld_imm1 hc0)) ?_
  refine ow_val rfl rfl (ex_move rfl) ?_
  refine ow_val rfl rfl (ex_index_nat (i := i) rfl rfl hil) ?_
  refine ow_val rfl rfl (ex_loadR rfl (ld_immT hc1 ht1)) ?_
  refine ow_blk rfl rfl exw_alloc ?_; intro b7
  refine ow_u rfl (exu_storeN 0 rfl rfl rfl rfl ht1.one rfl) ?_
  refine ow_nil ?_
  refine qw_seq ?_
  refine cw_seq ?_
  refine cw_seq ?_
  refine cw_region ?_
  refine ow_val rfl rfl (ex_field rfl) ?_
  refine ow_val rfl rfl (ex_load1 rfl (by first | exact ld_own1 0 rfl rfl | exact ld_own1 1 rfl rfl | exact ld_own1 2 rfl rfl | exact ld_own1 3 rfl rfl | exact ld_own1 4 rfl rfl | exact ld_own1 5 rfl rfl | exact ld_own1 6 rfl rfl | exact ld_own1 7 rfl rfl | exact ld_ownG1 0 rfl rfl | exact ld_ownG1 1 rfl rfl | exact ld_imm1 (by assumption))) ?_
  refine ow_nil ?_
  refine qw_seq ?_
  refine cw_block ?_
  refine cw_seq ?_
  refine cw_seq ?_
  refine cw_region ?_
  refine ow_val rfl rfl (ex_eql rfl rfl) ?_
  refine ow_val rfl rfl (ex_assign rfl) ?_
  refine ow_nil ?_
  refine qw_seq ?_
  refine cw_cond rfl (fun c18 => ?_) (fun c18 => ?_)
  ·
    have := of_decide_eq_true c18
    refine cw_skip ?_
    refine qw_seq ?_
    refine cw_cond_k rfl c18 ?_
    refine cw_seq ?_
    refine cw_region ?_
    refine ow_val rfl rfl (ex_move rfl) ?_
    refine ow_val rfl rfl (ex_move rfl) ?_
    refine ow_val rfl rfl (ex_field rfl) ?_
    have hk1 := keyed_one (hI.rt _ (List.getElem_mem hil)) (by omega)
    have hk0 : 0 < ts[i].kids.length := by omega
    obtain ⟨bk, fk, ck', cs2, e3, e4, hc2, ht2⟩ := hk9.get 0 hk0
    cases e3
    refine ow_val rfl rfl (ex_load1 rfl (ld_own1 0 rfl rfl)) ?_
    refine ow_val rfl rfl (ex_index_nat (i := 0) rfl rfl hk0) ?_
    refine ow_val rfl rfl (ex_loadR rfl (ld_immT hc2 ht2)) ?_
    refine ow_cv rfl rfl (ex_callf rfl (fun w h => callB ((rIs _ h.im hc0 hks0 hh hl ht2)))) ?_
    refine ow_val rfl rfl (ex_assign rfl) ?_
    refine ow_nil ?_
    refine qw_seq ?_
    refine cw_seq ?_
    refine cw_region ?_
    refine ow_val rfl rfl (ex_move rfl) ?_
    refine ow_val rfl rfl (ex_move rfl) ?_
    refine ow_split (g := some (1, true)) rfl (fun s31 => ?_) (fun s31 => ?_)
    ·
      refine ow_val rfl (gd_go rfl s31) (ex_move rfl) ?_
      refine ow_val rfl (gd_go rfl s31) (ex_field rfl) ?_
      refine ow_val rfl (gd_go rfl s31) (ex_load1 rfl (by first | exact ld_own1 0 rfl rfl | exact ld_own1 1 rfl rfl | exact ld_own1 2 rfl rfl | exact ld_own1 3 rfl rfl | exact ld_own1 4 rfl rfl | exact ld_own1 5 rfl rfl | exact ld_own1 6 rfl rfl | exact ld_own1 7 rfl rfl | exact ld_ownG1 0 rfl rfl | exact ld_ownG1 1 rfl rfl | exact ld_imm1 (by assumption))) ?_
      refine ow_val rfl (gd_go rfl s31) (ex_move rfl) ?_
      refine ow_cv rfl (gd_go rfl s31) (ex_callf rfl (fun w h => callB ((rAll h.im hh hl (by omega) hd9 (by omega))))) ?_
      refine ow_val rfl rfl (ex_pickt rfl s31 rfl) ?_
      refine ow_val rfl rfl (ex_assign rfl) ?_
      refine ow_nil ?_
      refine qw_seq ?_
      refine cw_ret ?_
      refine qw_block_ret ?_
      refine qw_then_ret ?_
      refine qw_ret1 rfl rfl (fun w' h => ⟨congrArg (fun z => Ending.returned (.bool z)) ?_, h.ag.below⟩)
      unfold madeR
      first
      | (rw [if_pos (by omega), headD_get hk0, show isV ts had ts[i].kids[0] = true from s31]; rfl)
      | (rw [if_pos (by omega), headD_get hk0, show isV ts had ts[i].kids[0] = false from s31]; rfl)
      | (rw [if_neg (by omega), if_pos (by omega)]; done)
      | (rw [if_neg (by omega), if_neg (by omega), if_pos (by omega)]; done)
      | (rw [if_neg (by omega), if_neg (by omega), if_neg (by omega)]; done)
    ·
      refine ow_skip rfl (gd_no rfl s31) ?_
      refine ow_skip rfl (gd_no rfl s31) ?_
      refine ow_skip rfl (gd_no rfl s31) ?_
      refine ow_skip rfl (gd_no rfl s31) ?_
      refine ow_skip rfl (gd_no rfl s31) ?_
      refine ow_val rfl rfl (ex_pickf rfl s31 rfl) ?_
      refine ow_val rfl rfl (ex_assign rfl) ?_
      refine ow_nil ?_
      refine qw_seq ?_
      refine cw_ret ?_
      refine qw_block_ret ?_
      refine qw_then_ret ?_
      refine qw_ret1 rfl rfl (fun w' h => ⟨congrArg (fun z => Ending.returned (.bool z)) ?_, h.ag.below⟩)
      unfold madeR
      first
      | (rw [if_pos (by omega), headD_get hk0, show isV ts had ts[i].kids[0] = true from s31]; rfl)
      | (rw [if_pos (by omega), headD_get hk0, show isV ts had ts[i].kids[0] = false from s31]; rfl)
      | (rw [if_neg (by omega), if_pos (by omega)]; done)
      | (rw [if_neg (by omega), if_neg (by omega), if_pos (by omega)]; done)
      | (rw [if_neg (by omega), if_neg (by omega), if_neg (by omega)]; done)
  ·
    have := of_decide_eq_false c18
    refine cw_seq ?_
    refine cw_region ?_
    refine ow_val rfl rfl (ex_eql rfl rfl) ?_
    refine ow_val rfl rfl (ex_assign rfl) ?_
    refine ow_nil ?_
    refine qw_seq ?_
    refine cw_cond rfl (fun c18 => ?_) (fun c18 => ?_)
    ·
      have := of_decide_eq_true c18
      refine cw_skip ?_
      refine qw_seq ?_
      refine cw_cond_k rfl c18 ?_
      refine cw_seq ?_
      refine cw_region ?_
      refine ow_val rfl rfl (ex_move rfl) ?_
      refine ow_val rfl rfl (ex_move rfl) ?_
      refine ow_val rfl rfl (ex_field rfl) ?_
      have hk1 := keyed_one (hI.rt _ (List.getElem_mem hil)) (by omega)
      have hk0 : 0 < ts[i].kids.length := by omega
      obtain ⟨bk, fk, ck', cs2, e3, e4, hc2, ht2⟩ := hk9.get 0 hk0
      cases e3
      refine ow_val rfl rfl (ex_load1 rfl (ld_own1 0 rfl rfl)) ?_
      refine ow_val rfl rfl (ex_index_nat (i := 0) rfl rfl hk0) ?_
      refine ow_val rfl rfl (ex_loadR rfl (ld_immT hc2 ht2)) ?_
      refine ow_cv rfl rfl (ex_callf rfl (fun w h => callB ((rIs _ h.im hc0 hks0 hh hl ht2)))) ?_
      refine ow_val rfl rfl (ex_assign rfl) ?_
      refine ow_nil ?_
      refine qw_seq ?_
      refine cw_seq ?_
      refine cw_region ?_
      refine ow_val rfl rfl (ex_move rfl) ?_
      refine ow_val rfl rfl (ex_move rfl) ?_
      refine ow_split (g := some (1, true)) rfl (fun s31 => ?_) (fun s31 => ?_)
      ·
        refine ow_val rfl (gd_go rfl s31) (ex_move rfl) ?_
        refine ow_val rfl (gd_go rfl s31) (ex_field rfl) ?_
        refine ow_val rfl (gd_go rfl s31) (ex_load1 rfl (by first | exact ld_own1 0 rfl rfl | exact ld_own1 1 rfl rfl | exact ld_own1 2 rfl rfl | exact ld_own1 3 rfl rfl | exact ld_own1 4 rfl rfl | exact ld_own1 5 rfl rfl | exact ld_own1 6 rfl rfl | exact ld_own1 7 rfl rfl | exact ld_ownG1 0 rfl rfl | exact ld_ownG1 1 rfl rfl | exact ld_imm1 (by assumption))) ?_
        refine ow_val rfl (gd_go rfl s31) (ex_move rfl) ?_
        refine ow_cv rfl (gd_go rfl s31) (ex_callf rfl (fun w h => callB ((rAll h.im hh hl (by omega) hd9 (by omega))))) ?_
        refine ow_val rfl rfl (ex_pickt rfl s31 rfl) ?_
        refine ow_val rfl rfl (ex_assign rfl) ?_
        refine ow_nil ?_
        refine qw_seq ?_
        refine cw_ret ?_
        refine qw_block_ret ?_
        refine qw_then_ret ?_
        refine qw_ret1 rfl rfl (fun w' h => ⟨congrArg (fun z => Ending.returned (.bool z)) ?_, h.ag.below⟩)
        unfold madeR
        first
        | (rw [if_pos (by omega), headD_get hk0, show isV ts had ts[i].kids[0] = true from s31]; rfl)
        | (rw [if_pos (by omega), headD_get hk0, show isV ts had ts[i].kids[0] = false from s31]; rfl)
        | (rw [if_neg (by omega), if_pos (by omega)]; done)
        | (rw [if_neg (by omega), if_neg (by omega), if_pos (by omega)]; done)
        | (rw [if_neg (by omega), if_neg (by omega), if_neg (by omega)]; done)
      ·
        refine ow_skip rfl (gd_no rfl s31) ?_
        refine ow_skip rfl (gd_no rfl s31) ?_
        refine ow_skip rfl (gd_no rfl s31) ?_
        refine ow_skip rfl (gd_no rfl s31) ?_
        refine ow_skip rfl (gd_no rfl s31) ?_
        refine ow_val rfl rfl (ex_pickf rfl s31 rfl) ?_
        refine ow_val rfl rfl (ex_assign rfl) ?_
        refine ow_nil ?_
        refine qw_seq ?_
        refine cw_ret ?_
        refine qw_block_ret ?_
        refine qw_then_ret ?_
        refine qw_ret1 rfl rfl (fun w' h => ⟨congrArg (fun z => Ending.returned (.bool z)) ?_, h.ag.below⟩)
        unfold madeR
        first
        | (rw [if_pos (by omega), headD_get hk0, show isV ts had ts[i].kids[0] = true from s31]; rfl)
        | (rw [if_pos (by omega), headD_get hk0, show isV ts had ts[i].kids[0] = false from s31]; rfl)
        | (rw [if_neg (by omega), if_pos (by omega)]; done)
        | (rw [if_neg (by omega), if_neg (by omega), if_pos (by omega)]; done)
        | (rw [if_neg (by omega), if_neg (by omega), if_neg (by omega)]; done)
    ·
      have := of_decide_eq_false c18
      refine cw_seq ?_
      refine cw_region ?_
      refine ow_val rfl rfl (ex_eql rfl rfl) ?_
      refine ow_val rfl rfl (ex_assign rfl) ?_
      refine ow_nil ?_
      refine qw_seq ?_
      refine cw_cond rfl (fun c18 => ?_) (fun c18 => ?_)
      ·
        have := of_decide_eq_true c18
        refine cw_skip ?_
        refine qw_seq ?_
        refine cw_cond_k rfl c18 ?_
        refine cw_seq ?_
        refine cw_region ?_
        refine ow_val rfl rfl (ex_move rfl) ?_
        refine ow_val rfl rfl (ex_move rfl) ?_
        refine ow_val rfl rfl (ex_field rfl) ?_
        have hk1 := keyed_one (hI.rt _ (List.getElem_mem hil)) (by omega)
        have hk0 : 0 < ts[i].kids.length := by omega
        obtain ⟨bk, fk, ck', cs2, e3, e4, hc2, ht2⟩ := hk9.get 0 hk0
        cases e3
        refine ow_val rfl rfl (ex_load1 rfl (ld_own1 0 rfl rfl)) ?_
        refine ow_val rfl rfl (ex_index_nat (i := 0) rfl rfl hk0) ?_
        refine ow_val rfl rfl (ex_loadR rfl (ld_immT hc2 ht2)) ?_
        refine ow_cv rfl rfl (ex_callf rfl (fun w h => callB ((rIs _ h.im hc0 hks0 hh hl ht2)))) ?_
        refine ow_val rfl rfl (ex_assign rfl) ?_
        refine ow_nil ?_
        refine qw_seq ?_
        refine cw_seq ?_
        refine cw_region ?_
        refine ow_val rfl rfl (ex_move rfl) ?_
        refine ow_val rfl rfl (ex_move rfl) ?_
        refine ow_split (g := some (1, true)) rfl (fun s31 => ?_) (fun s31 => ?_)
        ·
          refine ow_val rfl (gd_go rfl s31) (ex_move rfl) ?_
          refine ow_val rfl (gd_go rfl s31) (ex_field rfl) ?_
          refine ow_val rfl (gd_go rfl s31) (ex_load1 rfl (by first | exact ld_own1 0 rfl rfl | exact ld_own1 1 rfl rfl | exact ld_own1 2 rfl rfl | exact ld_own1 3 rfl rfl | exact ld_own1 4 rfl rfl | exact ld_own1 5 rfl rfl | exact ld_own1 6 rfl rfl | exact ld_own1 7 rfl rfl | exact ld_ownG1 0 rfl rfl | exact ld_ownG1 1 rfl rfl | exact ld_imm1 (by assumption))) ?_
          refine ow_val rfl (gd_go rfl s31) (ex_move rfl) ?_
          refine ow_cv rfl (gd_go rfl s31) (ex_callf rfl (fun w h => callB ((rAll h.im hh hl (by omega) hd9 (by omega))))) ?_
          refine ow_val rfl rfl (ex_pickt rfl s31 rfl) ?_
          refine ow_val rfl rfl (ex_assign rfl) ?_
          refine ow_nil ?_
          refine qw_seq ?_
          refine cw_ret ?_
          refine qw_block_ret ?_
          refine qw_then_ret ?_
          refine qw_ret1 rfl rfl (fun w' h => ⟨congrArg (fun z => Ending.returned (.bool z)) ?_, h.ag.below⟩)
          unfold madeR
          first
          | (rw [if_pos (by omega), headD_get hk0, show isV ts had ts[i].kids[0] = true from s31]; rfl)
          | (rw [if_pos (by omega), headD_get hk0, show isV ts had ts[i].kids[0] = false from s31]; rfl)
          | (rw [if_neg (by omega), if_pos (by omega)]; done)
          | (rw [if_neg (by omega), if_neg (by omega), if_pos (by omega)]; done)
          | (rw [if_neg (by omega), if_neg (by omega), if_neg (by omega)]; done)
        ·
          refine ow_skip rfl (gd_no rfl s31) ?_
          refine ow_skip rfl (gd_no rfl s31) ?_
          refine ow_skip rfl (gd_no rfl s31) ?_
          refine ow_skip rfl (gd_no rfl s31) ?_
          refine ow_skip rfl (gd_no rfl s31) ?_
          refine ow_val rfl rfl (ex_pickf rfl s31 rfl) ?_
          refine ow_val rfl rfl (ex_assign rfl) ?_
          refine ow_nil ?_
          refine qw_seq ?_
          refine cw_ret ?_
          refine qw_block_ret ?_
          refine qw_then_ret ?_
          refine qw_ret1 rfl rfl (fun w' h => ⟨congrArg (fun z => Ending.returned (.bool z)) ?_, h.ag.below⟩)
          unfold madeR
          first
          | (rw [if_pos (by omega), headD_get hk0, show isV ts had ts[i].kids[0] = true from s31]; rfl)
          | (rw [if_pos (by omega), headD_get hk0, show isV ts had ts[i].kids[0] = false from s31]; rfl)
          | (rw [if_neg (by omega), if_pos (by omega)]; done)
          | (rw [if_neg (by omega), if_neg (by omega), if_pos (by omega)]; done)
          | (rw [if_neg (by omega), if_neg (by omega), if_neg (by omega)]; done)
      ·
        have := of_decide_eq_false c18
        refine cw_region ?_
        refine ow_val rfl rfl (ex_eql rfl rfl) ?_
        refine ow_val rfl rfl (ex_assign rfl) ?_
        refine ow_nil ?_
        refine qw_seq ?_
        refine cw_cond rfl (fun c18 => ?_) (fun c18 => ?_)
        ·
          have := of_decide_eq_true c18
          refine cw_seq ?_
          refine cw_region ?_
          refine ow_val rfl rfl (ex_move rfl) ?_
          refine ow_val rfl rfl (ex_move rfl) ?_
          refine ow_val rfl rfl (ex_field rfl) ?_
          have hk1 := keyed_one (hI.rt _ (List.getElem_mem hil)) (by omega)
          have hk0 : 0 < ts[i].kids.length := by omega
          obtain ⟨bk, fk, ck', cs2, e3, e4, hc2, ht2⟩ := hk9.get 0 hk0
          cases e3
          refine ow_val rfl rfl (ex_load1 rfl (ld_own1 0 rfl rfl)) ?_
          refine ow_val rfl rfl (ex_index_nat (i := 0) rfl rfl hk0) ?_
          refine ow_val rfl rfl (ex_loadR rfl (ld_immT hc2 ht2)) ?_
          refine ow_cv rfl rfl (ex_callf rfl (fun w h => callB ((rIs _ h.im hc0 hks0 hh hl ht2)))) ?_
          refine ow_val rfl rfl (ex_assign rfl) ?_
          refine ow_nil ?_
          refine qw_seq ?_
          refine cw_seq ?_
          refine cw_region ?_
          refine ow_val rfl rfl (ex_move rfl) ?_
          refine ow_val rfl rfl (ex_move rfl) ?_
          refine ow_split (g := some (1, true)) rfl (fun s31 => ?_) (fun s31 => ?_)
          ·
            refine ow_val rfl (gd_go rfl s31) (ex_move rfl) ?_
            refine ow_val rfl (gd_go rfl s31) (ex_field rfl) ?_
            refine ow_val rfl (gd_go rfl s31) (ex_load1 rfl (by first | exact ld_own1 0 rfl rfl | exact ld_own1 1 rfl rfl | exact ld_own1 2 rfl rfl | exact ld_own1 3 rfl rfl | exact ld_own1 4 rfl rfl | exact ld_own1 5 rfl rfl | exact ld_own1 6 rfl rfl | exact ld_own1 7 rfl rfl | exact ld_ownG1 0 rfl rfl | exact ld_ownG1 1 rfl rfl | exact ld_imm1 (by assumption))) ?_
            refine ow_val rfl (gd_go rfl s31) (ex_move rfl) ?_
            refine ow_cv rfl (gd_go rfl s31) (ex_callf rfl (fun w h => callB ((rAll h.im hh hl (by omega) hd9 (by omega))))) ?_
            refine ow_val rfl rfl (ex_pickt rfl s31 rfl) ?_
            refine ow_val rfl rfl (ex_assign rfl) ?_
            refine ow_nil ?_
            refine qw_seq ?_
            refine cw_ret ?_
            refine qw_block_ret ?_
            refine qw_then_ret ?_
            refine qw_ret1 rfl rfl (fun w' h => ⟨congrArg (fun z => Ending.returned (.bool z)) ?_, h.ag.below⟩)
            unfold madeR
            first
            | (rw [if_pos (by omega), headD_get hk0, show isV ts had ts[i].kids[0] = true from s31]; rfl)
            | (rw [if_pos (by omega), headD_get hk0, show isV ts had ts[i].kids[0] = false from s31]; rfl)
            | (rw [if_neg (by omega), if_pos (by omega)]; done)
            | (rw [if_neg (by omega), if_neg (by omega), if_pos (by omega)]; done)
            | (rw [if_neg (by omega), if_neg (by omega), if_neg (by omega)]; done)
          ·
            refine ow_skip rfl (gd_no rfl s31) ?_
            refine ow_skip rfl (gd_no rfl s31) ?_
            refine ow_skip rfl (gd_no rfl s31) ?_
            refine ow_skip rfl (gd_no rfl s31) ?_
            refine ow_skip rfl (gd_no rfl s31) ?_
            refine ow_val rfl rfl (ex_pickf rfl s31 rfl) ?_
            refine ow_val rfl rfl (ex_assign rfl) ?_
            refine ow_nil ?_
            refine qw_seq ?_
            refine cw_ret ?_
            refine qw_block_ret ?_
            refine qw_then_ret ?_
            refine qw_ret1 rfl rfl (fun w' h => ⟨congrArg (fun z => Ending.returned (.bool z)) ?_, h.ag.below⟩)
            unfold madeR
            first
            | (rw [if_pos (by omega), headD_get hk0, show isV ts had ts[i].kids[0] = true from s31]; rfl)
            | (rw [if_pos (by omega), headD_get hk0, show isV ts had ts[i].kids[0] = false from s31]; rfl)
            | (rw [if_neg (by omega), if_pos (by omega)]; done)
            | (rw [if_neg (by omega), if_neg (by omega), if_pos (by omega)]; done)
            | (rw [if_neg (by omega), if_neg (by omega), if_neg (by omega)]; done)
        ·
          have := of_decide_eq_false c18
          refine cw_seq ?_
          refine cw_region ?_
          refine ow_val rfl rfl (ex_eql rfl rfl) ?_
          refine ow_val rfl rfl (ex_assign rfl) ?_
          refine ow_nil ?_
          refine qw_seq ?_
          refine cw_cond rfl (fun c38 => ?_) (fun c38 => ?_)
          ·
            have := of_decide_eq_true c38
            refine cw_seq ?_
            refine cw_region ?_
            refine ow_val rfl rfl (ex_move rfl) ?_
            refine ow_val rfl rfl (ex_field rfl) ?_
            refine ow_val rfl rfl (ex_load1 rfl (by first | exact ld_own1 0 rfl rfl | exact ld_own1 1 rfl rfl | exact ld_own1 2 rfl rfl | exact ld_own1 3 rfl rfl | exact ld_own1 4 rfl rfl | exact ld_own1 5 rfl rfl | exact ld_own1 6 rfl rfl | exact ld_own1 7 rfl rfl | exact ld_ownG1 0 rfl rfl | exact ld_ownG1 1 rfl rfl | exact ld_imm1 (by assumption))) ?_
            refine ow_val rfl rfl (ex_move rfl) ?_
            refine ow_cv rfl rfl (ex_callf rfl (fun w h => callB ((rAll h.im hh hl (by omega) hd9 (by omega))))) ?_
            refine ow_val rfl rfl (ex_assign rfl) ?_
            refine ow_nil ?_
            refine qw_seq ?_
            refine cw_ret ?_
            refine qw_block_ret ?_
            refine qw_then_ret ?_
            refine qw_ret1 rfl rfl (fun w' h => ⟨congrArg (fun z => Ending.returned (.bool z)) ?_, h.ag.below⟩)
            unfold madeR
            first
            | (rw [if_pos (by omega), headD_get hk0, show isV ts had ts[i].kids[0] = true from s31]; rfl)
            | (rw [if_pos (by omega), headD_get hk0, show isV ts had ts[i].kids[0] = false from s31]; rfl)
            | (rw [if_neg (by omega), if_pos (by omega)]; done)
            | (rw [if_neg (by omega), if_neg (by omega), if_pos (by omega)]; done)
            | (rw [if_neg (by omega), if_neg (by omega), if_neg (by omega)]; done)
          ·
            have := of_decide_eq_false c38
            refine cw_seq ?_
            refine cw_region ?_
            refine ow_val rfl rfl (ex_eql rfl rfl) ?_
            refine ow_val rfl rfl (ex_assign rfl) ?_
            refine ow_nil ?_
            refine qw_seq ?_
            refine cw_cond rfl (fun c45 => ?_) (fun c45 => ?_)
            ·
              have := of_decide_eq_true c45
              refine cw_seq ?_
              refine cw_region ?_
              refine ow_val rfl rfl (ex_move rfl) ?_
              refine ow_val rfl rfl (ex_move rfl) ?_
              refine ow_val rfl rfl (ex_loadR rfl (by first | exact ld_ownN 0 rfl rfl | exact ld_ownN 1 rfl rfl | exact ld_ownN 2 rfl rfl | exact ld_ownN 3 rfl rfl | exact ld_ownN 4 rfl rfl | exact ld_ownN 5 rfl rfl | exact ld_ownN 6 rfl rfl | exact ld_ownN 7 rfl rfl | exact ld_ownGN 0 rfl rfl | exact ld_ownGN 1 rfl rfl | exact ld_immT (by assumption) (by assumption))) ?_
              refine ow_cv rfl rfl (ex_callf rfl (fun w h => callB ((rPower ts[i] h.im hc0 hks0 hh hl (fun y hy => by
                obtain ⟨j, hj, rfl⟩ := List.mem_iff_getElem.1 hy
                have := (hI.shapeAt hj).1; omega) (by omega) hfw ht1)))) ?_
              refine ow_val rfl rfl (ex_assign rfl) ?_
              refine ow_nil ?_
              refine qw_seq ?_
              refine cw_ret ?_
              refine qw_block_ret ?_
              refine qw_then_ret ?_
              refine qw_ret1 rfl rfl (fun w' h => ⟨congrArg (fun z => Ending.returned (.bool z)) ?_, h.ag.below⟩)
              unfold madeR
              first
              | (rw [if_pos (by omega), headD_get hk0, show isV ts had ts[i].kids[0] = true from s31]; rfl)
              | (rw [if_pos (by omega), headD_get hk0, show isV ts had ts[i].kids[0] = false from s31]; rfl)
              | (rw [if_neg (by omega), if_pos (by omega)]; done)
              | (rw [if_neg (by omega), if_neg (by omega), if_pos (by omega)]; done)
              | (rw [if_neg (by omega), if_neg (by omega), if_neg (by omega)]; done)
            ·
              have := of_decide_eq_false c45
              refine cw_skip ?_
              refine qw_block_normal ?_
              refine qw_seq ?_
              refine cw_seq ?_
              refine cw_region ?_
              refine ow_val rfl rfl (ex_assign rfl) ?_
              refine ow_nil ?_
              refine qw_seq ?_
              refine cw_ret ?_
              refine qw_ret1 rfl rfl (fun w' h => ⟨congrArg (fun z => Ending.returned (.bool z)) ?_, h.ag.below⟩)
              unfold madeR
              first
              | (rw [if_pos (by omega), headD_get hk0, show isV ts had ts[i].kids[0] = true from s31]; rfl)
              | (rw [if_pos (by omega), headD_get hk0, show isV ts had ts[i].kids[0] = false from s31]; rfl)
              | (rw [if_neg (by omega), if_pos (by omega)]; done)
              | (rw [if_neg (by omega), if_neg (by omega), if_pos (by omega)]; done)
              | (rw [if_neg (by omega), if_neg (by omega), if_neg (by omega)]; done)
end Go.Proofs.YtnjomdjkbbhdoaaGreatDoor
namespace Go.Proofs.YtnjomdjkbbhdoaaGreatDoor
set_option linter.unusedVariables false
set_option linter.unusedSimpArgs false
set_option linter.unusedSectionVars false
open Go.RowKit
section
variable [DS] {P : Program} {Q : Exit → Act → World → Prop} {N : Nat} {L : TL} {S : World → Prop} {α : Type}
def MeetE (N : Nat) (I : α → TL) (T : α → World → Prop) (a : Act) (w : World) : Prop := ∃ x, Fr N (I x) a ∧ T x w
theorem cw_cutE {x y : Code} (I : α → TL) (T : α → World → Prop) (h1 : CW P x (Exit.then (MeetE N I T) Q) N L S) (h2 : ∀ z, CW P y Q N (I z) (T z)) : CW P (.seq x y) Q N L S := fun a w hf hs =>
  wp_seq (wp_mono (h1 a w hf hs) (fun e a' w' h => by
    cases e with
    | normal => obtain ⟨z, h3, h4⟩ := h; exact h2 z a' w' h3 h4
    | _ => exact h))
theorem qw_meetE {I : α → TL} {T : α → World → Prop} (z : α) (hl : subL L (I z)) (hS : ∀ w, S w → T z w) : QW (Exit.then (MeetE N I T) Q) .normal N L S := fun a w hf hs => ⟨z, hf.sub hl, hS w hs⟩
end
variable {ts : List T} {known : List Int} {had0 had : List Bool} {i j : Nat} {pre : List (Hx (itemsT ts) known)}
theorem itsLt (hil : i < ts.length) : i < (itemsT ts).length := by rw [itemsT_len]; exact hil
theorem ItI.idleT (h : ItI (itemsT ts) known had0 i pre had) (hI : TabI ts) (hil : i < ts.length) (hm : madeR ts had i ts[i] = true → had.getD i false = true) : ItM (itemsT ts) known had0 i pre had :=
  h.idle fun hi h1 => hm (by rw [madeR_eq hI hil, ← itemsT_get hi hil]; exact h1)
theorem ItI.madeT (h : ItI (itemsT ts) known had0 i pre had) (hI : TabI ts) (hil : i < ts.length) (hm : madeR ts had i ts[i] = true) (hf : had.getD i false = false) : ∃ x : Hx (itemsT ts) known, x.1 = i ∧ ItM (itemsT ts) known had0 i (pre ++ [x]) (had.set i true) := by
  have hi := itsLt hil
  have hx : Had (itemsT ts) known i := h.so.made hi (by rw [itemsT_get hi hil, ← madeR_eq hI hil]; exact hm)
  exact ⟨⟨i, hi, hx⟩, rfl, h.yields (x := ⟨i, hi, hx⟩) hf (HadLe.set _ _) (h.so.set hx)⟩
theorem ItM.nextT (h : ItM (itemsT ts) known had0 i pre had) (hil : i < ts.length) (hn : ts[i].op = 4 → had.getD i false = true → allB had (ts[i].kids.map (posT ts)) = true → False) : ItI (itemsT ts) known had0 (i + 1) pre had :=
  h.next fun hi a b c => hn (by rw [itemsT_get hi hil] at a; exact a) b (by rw [itemsT_get hi hil] at c; exact c)
theorem ItM.opensT (h : ItM (itemsT ts) known had0 i pre had) (hil : i < ts.length) (h4 : ts[i].op = 4) (hh : had.getD i false = true) (hk : allB had (ts[i].kids.map (posT ts)) = true) : ItN (itemsT ts) known had0 i 0 pre had :=
  h.opens fun hi => by rw [itemsT_get hi hil]; exact ⟨h4, hh, hk⟩
theorem ItN.idleT (h : ItN (itemsT ts) known had0 i j pre had) (hil : i < ts.length) (hj : j < (mentS ts[i].data (i : Int)).length) (hm : hadAt had (mentS ts[i].data (i : Int))[j] = true) : ItN (itemsT ts) known had0 i (j + 1) pre had := by
  have hi := itsLt hil
  have key : ∀ x, (itemsT ts)[i] = x → ∀ (hj : j < x.ments.length), hadAt had x.ments[j] = true → ItN (itemsT ts) known had0 i (j + 1) pre had := fun x e => by
    subst e; exact fun hj hm => h.idle hi hj hm
  exact key _ (itemsT_get hi hil) hj hm
theorem ItN.openT (h : ItN (itemsT ts) known had0 i j pre had) (hil : i < ts.length) (hj : j < (mentS ts[i].data (i : Int)).length) (hf : hadAt had (mentS ts[i].data (i : Int))[j] = false) :
    ∃ x : Hx (itemsT ts) known, x.1 = ((mentS ts[i].data (i : Int))[j]).toNat ∧ ItN (itemsT ts) known had0 i (j + 1) (pre ++ [x]) (had.set ((mentS ts[i].data (i : Int))[j]).toNat true) := by
  have hi := itsLt hil
  have hmem : (mentS ts[i].data (i : Int))[j] ∈ mentS ts[i].data (i : Int) := List.getElem_mem hj
  have hmi := mentS_in hmem
  obtain ⟨o1, o2, o3⟩ := h.o4 hi
  have hx : Had (itemsT ts) known ((mentS ts[i].data (i : Int))[j]).toNat := h.so.opened hi o1 o2 o3 (by rw [itemsT_get hi hil]; exact hmem)
  have hlt : ((mentS ts[i].data (i : Int))[j]).toNat < (itemsT ts).length := by omega
  exact ⟨⟨_, hlt, hx⟩, rfl, h.yields (x := ⟨_, hlt, hx⟩) hf (HadLe.set _ _) (h.so.set hx)⟩
theorem ItN.nextT (h : ItN (itemsT ts) known had0 i j pre had) (hil : i < ts.length) (hj : (mentS ts[i].data (i : Int)).length ≤ j) (hjl : j ≤ 8192) : ItI (itemsT ts) known had0 (i + 1) pre had :=
  h.next (itsLt hil) (by rw [itemsT_get (itsLt hil) hil]; exact hj) hjl
theorem one_isV (hI : TabI ts) (hil : i < ts.length) (hk : ts[i].kids.length = 1) : allB had (ts[i].kids.map (posT ts)) = isV ts had (ts[i].kids[0]'(by omega)) := by
  rw [← all_isV (hI.kidsIn _ (List.getElem_mem hil))]
  have key : ∀ (l : List T) (hk : l.length = 1), l.all (isV ts had) = isV ts had (l[0]'(by omega)) := fun l hk => by
    match l, hk with
    | [k], _ => simp
  exact key _ hk
theorem in_set {n : Nat} {x : Hx (itemsT ts) known} (h : ∀ y ∈ pre, had.getD y.1 false = true) (hx : x.1 = n) (hn : n < had.length) : ∀ y ∈ pre ++ [x], (had.set n true).getD y.1 false = true := fun y hy => by
  rcases List.mem_append.1 hy with hy | hy
  · exact HadLe.set _ _ _ (h y hy)
  · simp only [List.mem_singleton] at hy
    subst hy
    rw [hx, getD_set hn]; simp
def StepR (its : List Item) (known : List Int) (had0 had' : List Bool) (more : Bool) : Prop :=
  Sound its known had' ∧ HadLe had0 had' ∧ (more = false → had' = had0 ∧ Closed its had0) ∧ (more = true → left had' < left had0)
theorem ItI.stepR (h : ItI (itemsT ts) known had0 i pre had) (hi : ts.length ≤ i) (hl : had0.length = ts.length) (hin : ∀ x ∈ pre, had.getD x.1 false = true) : StepR (itemsT ts) known had0 had (!pre.isEmpty) := by
  have ho := h.over (by rw [itemsT_len]; exact hi)
  refine ⟨h.so, h.le, fun hm => ?_, fun hm => ?_⟩
  · have hp : pre = [] := by simpa using hm
    exact ⟨h.ni hp, ho.1 hp⟩
  · cases pre with
    | nil => simp at hm
    | cons x r => exact left_lt (by have := h.so.1; rw [itemsT_len] at this; omega) h.le (ho.2 x r rfl) (hin x (by simp))
end Go.Proofs.YtnjomdjkbbhdoaaGreatDoor
namespace Go.Proofs.YtnjomdjkbbhdoaaGreatDoor
open Go.RowKit
set_option linter.unusedVariables false
set_option linter.unusedSimpArgs false
set_option maxRecDepth 100000
set_option maxHeartbeats 4000000 in
theorem rStep {d hb ch : Nat} {sv : Value} {ts : List T} {known : List Int} {had0 : List Bool} {σ : Hp} {w : World} (hi : Has σ [(hb, hadO 4 had0)] w) (hc0 : CellsAt σ d 0 [sv]) (hks : KidsV σ sv ts) (hI : TabI ts) (hfw : ts.length ≤ 4096) (hso : Sound (itemsT ts) known had0) : Calls Tryz.prog 69 #[.pointer (some ⟨d, 0, none⟩), .slice (some ⟨hb, 0, none⟩) ts.length ch] w (GiveK (fun σ' u K' => ∃ had' more, u = .bool more ∧ K' = [(hb, hadO 4 had')] ∧ StepR (itemsT ts) known had0 had' more) σ [(hb, hadO 4 had0)] w) := by
  have hks0 := hks
  obtain ⟨psv, csv, rfl, _, _⟩ := hks.slice
  have hl0 : had0.length = ts.length := by have := hso.1; rwa [itemsT_len] at this
  refine enter (St w (keysOf [(hb, hadO 4 had0)]) σ [(hb, hadO 4 had0)] []) Tryz.func69 rfl Tryz.ntmps69 rfl ((St.flip hi.start)) ?_
  refine cw_seq ?_
  refine cw_region ?_
  refine ow_val rfl rfl (ex_assign rfl) ?_
  refine ow_nil ?_
  refine qw_seq ?_
  refine cw_seq ?_
  refine cw_region ?_
  refine ow_val rfl rfl (ex_assign rfl) ?_
  refine ow_nil ?_
  refine qw_seq ?_
  refine cw_seq ?_
  refine cw_seq ?_
  refine cw_region ?_
  refine ow_val rfl rfl (ex_assign rfl) ?_
  refine ow_nil ?_
  refine qw_seq ?_
  refine cw_block ?_
  refine cw_loopH4 (fun (i : Nat) (pre : List (Hx (itemsT ts) known)) (had : List Bool) (τ : Hp) => [(0, .pointer (some ⟨d, 0, none⟩)), (1, .slice (some ⟨hb, 0, none⟩) ts.length ch), (5, .bool (!pre.isEmpty)), (6, .int .i64 (i : Int))]) (fun i pre had τ => ItI (itemsT ts) known had0 i pre had ∧ i ≤ ts.length ∧ Le σ τ ∧ Fresh σ τ w ∧ ∀ x ∈ pre, had.getD x.1 false = true) (fun _ _ _ τ => τ) (fun _ _ had _ => [(hb, hadO 4 had)]) (fun _ _ _ _ => []) (fun i _ _ _ => ts.length - i) 0 [] had0 σ (subL_cons (lkv rfl (by first | rfl | simp)) (subL_cons (lkv rfl (by first | rfl | simp)) (subL_cons (lkv rfl (by first | rfl | simp)) (subL_cons (lkv rfl (by first | rfl | simp)) (subL_nil _))))) ⟨ItI.start hso, Nat.zero_le _, Le.refl _, Fresh.refl _ _, fun x hx => by cases hx⟩ (fun w h => h) ?_
  intro i pre had τ ⟨hIt, hlei, hlj, hfj, hin⟩
  have hsl : had.length = ts.length := by have := hIt.so.1; rwa [itemsT_len] at this
  refine cw_seq ?_
  refine cw_seq ?_
  refine cw_region ?_
  refine ow_val rfl rfl (ex_move rfl) ?_
  refine ow_val rfl rfl (ex_move rfl) ?_
  refine ow_val rfl rfl (ex_nilck rfl) ?_
  refine ow_val rfl rfl (ex_field rfl) ?_
  refine ow_val rfl rfl (ex_load1 rfl (ld_imm1 (hc0.le hlj))) ?_
  refine ow_val rfl rfl (ex_len (ty := 0) rfl) ?_
  refine ow_val rfl rfl (ex_lss rfl rfl) ?_
  refine ow_nil ?_
  refine qw_seq ?_
  refine cw_cond rfl (fun c16 => ?_) (fun c16 => ?_)
  ·
    have hil : i < ts.length := by have := of_decide_eq_true c16; omega
    obtain ⟨bt, ft, ct', cs, e1, e2, hc1, ht1⟩ := hks0.get i hil
    cases e1
    have ht1' := ht1
    obtain ⟨d9, k9, rfl, _, _, hd9, hk9⟩ := ht1'.opn
    obtain ⟨pk9, ck9, rfl, _, _⟩ := hk9.slice
    obtain ⟨pd9, cd9, rfl, _, _⟩ := hd9.slice
    have hsh := hI.shapeAt hil
    refine cw_skip ?_
    refine qw_seq ?_
    refine cw_seq ?_
    refine cw_block ?_
    refine cw_cutE (fun x : List (Hx (itemsT ts) known) × List Bool => [(0, .pointer (some ⟨d, 0, none⟩)), (1, .slice (some ⟨hb, 0, none⟩) ts.length ch), (5, .bool (!x.1.isEmpty)), (6, .int .i64 (i : Int))]) (fun x w' => (ItM (itemsT ts) known had0 i x.1 x.2 ∧ ∀ y ∈ x.1, x.2.getD y.1 false = true) ∧ St w (keysOf [(hb, hadO 4 had0)]) τ [(hb, hadO 4 x.2)] [] w') ?_ ?_
    ·
      refine cw_seq ?_
      refine cw_region ?_
      refine ow_val rfl rfl (ex_move rfl) ?_
      refine ow_val rfl rfl (ex_move rfl) ?_
      refine ow_val rfl rfl (ex_index_nat (i := i) rfl rfl (by omega)) ?_
      refine ow_val rfl rfl (ex_load1 rfl (ld_had 0 rfl (by omega))) ?_
      refine ow_val rfl rfl (ex_not rfl) ?_
      refine ow_val rfl rfl (ex_move rfl) ?_
      refine ow_split (g := some (5, true)) rfl (fun s24 => ?_) (fun s24 => ?_)
      ·
        refine ow_val rfl (gd_go rfl s24) (ex_move rfl) ?_
        refine ow_val rfl (gd_go rfl s24) (ex_move rfl) ?_
        refine ow_val rfl (gd_go rfl s24) (ex_move rfl) ?_
        refine ow_cv rfl (gd_go rfl s24) (ex_callf rfl (fun w h => callB ((rMade (Imm.ext h.im (h.own (p := (hb, hadO 4 had)) (by simp))) ((hc0.le hlj).le (le_ext (h.fresh (p := (hb, hadO 4 had)) (by simp)))) ((hks0.le hlj).le (le_ext (h.fresh (p := (hb, hadO 4 had)) (by simp)))) CellsAt.had hsl hI hfw hil)))) ?_
        refine ow_val rfl rfl (ex_pickt rfl s24 rfl) ?_
        refine ow_nil ?_
        refine qw_seq ?_
        refine cw_cond rfl (fun c29 => ?_) (fun c29 => ?_)
        ·
          refine cw_seq ?_
          refine cw_region ?_
          refine ow_val rfl rfl (ex_move rfl) ?_
          refine ow_val rfl rfl (ex_move rfl) ?_
          refine ow_val rfl rfl (ex_index_nat (i := i) rfl rfl (by omega)) ?_
          refine ow_u rfl (exu_bool 0 rfl rfl rfl (by omega)) ?_
          refine ow_nil ?_
          refine qw_seq ?_
          refine cw_region ?_
          refine ow_val rfl rfl (ex_assign rfl) ?_
          refine ow_nil ?_
          first
          | (obtain ⟨x1, hx1, hM1⟩ := hIt.madeT hI hil c29 (by simpa using s24); exact qw_meetE (pre ++ [x1], had.set i true) (by rw [show (!(pre ++ [x1]).isEmpty) = true from by simp]; exact (subL_cons (lkv rfl (by first | rfl | simp)) (subL_cons (lkv rfl (by first | rfl | simp)) (subL_cons (lkv rfl (by first | rfl | simp)) (subL_cons (lkv rfl (by first | rfl | simp)) (subL_nil _)))))) (fun w' h => ⟨⟨hM1, in_set hin hx1 (by omega)⟩, h⟩))
          | exact qw_meetE (pre, had) (subL_cons (lkv rfl (by first | rfl | simp)) (subL_cons (lkv rfl (by first | rfl | simp)) (subL_cons (lkv rfl (by first | rfl | simp)) (subL_cons (lkv rfl (by first | rfl | simp)) (subL_nil _))))) (fun w' h => ⟨⟨hIt.idleT hI hil (fun hm => by rw [c29] at hm; exact Bool.noConfusion hm), hin⟩, h⟩)
          | exact qw_meetE (pre, had) (subL_cons (lkv rfl (by first | rfl | simp)) (subL_cons (lkv rfl (by first | rfl | simp)) (subL_cons (lkv rfl (by first | rfl | simp)) (subL_cons (lkv rfl (by first | rfl | simp)) (subL_nil _))))) (fun w' h => ⟨⟨hIt.idleT hI hil (fun hm => by simpa using s24), hin⟩, h⟩)
        ·
          refine cw_skip ?_
          first
          | (obtain ⟨x1, hx1, hM1⟩ := hIt.madeT hI hil c29 (by simpa using s24); exact qw_meetE (pre ++ [x1], had.set i true) (by rw [show (!(pre ++ [x1]).isEmpty) = true from by simp]; exact (subL_cons (lkv rfl (by first | rfl | simp)) (subL_cons (lkv rfl (by first | rfl | simp)) (subL_cons (lkv rfl (by first | rfl | simp)) (subL_cons (lkv rfl (by first | rfl | simp)) (subL_nil _)))))) (fun w' h => ⟨⟨hM1, in_set hin hx1 (by omega)⟩, h⟩))
          | exact qw_meetE (pre, had) (subL_cons (lkv rfl (by first | rfl | simp)) (subL_cons (lkv rfl (by first | rfl | simp)) (subL_cons (lkv rfl (by first | rfl | simp)) (subL_cons (lkv rfl (by first | rfl | simp)) (subL_nil _))))) (fun w' h => ⟨⟨hIt.idleT hI hil (fun hm => by rw [c29] at hm; exact Bool.noConfusion hm), hin⟩, h⟩)
          | exact qw_meetE (pre, had) (subL_cons (lkv rfl (by first | rfl | simp)) (subL_cons (lkv rfl (by first | rfl | simp)) (subL_cons (lkv rfl (by first | rfl | simp)) (subL_cons (lkv rfl (by first | rfl | simp)) (subL_nil _))))) (fun w' h => ⟨⟨hIt.idleT hI hil (fun hm => by simpa using s24), hin⟩, h⟩)
      ·
        refine ow_skip rfl (gd_no rfl s24) ?_
        refine ow_skip rfl (gd_no rfl s24) ?_
        refine ow_skip rfl (gd_no rfl s24) ?_
        refine ow_skip rfl (gd_no rfl s24) ?_
        refine ow_val rfl rfl (ex_pickf rfl s24 rfl) ?_
        refine ow_nil ?_
        refine qw_seq ?_
        refine cw_cond_f rfl ?_
        refine cw_skip ?_
        first
        | (obtain ⟨x1, hx1, hM1⟩ := hIt.madeT hI hil c29 (by simpa using s24); exact qw_meetE (pre ++ [x1], had.set i true) (by rw [show (!(pre ++ [x1]).isEmpty) = true from by simp]; exact (subL_cons (lkv rfl (by first | rfl | simp)) (subL_cons (lkv rfl (by first | rfl | simp)) (subL_cons (lkv rfl (by first | rfl | simp)) (subL_cons (lkv rfl (by first | rfl | simp)) (subL_nil _)))))) (fun w' h => ⟨⟨hM1, in_set hin hx1 (by omega)⟩, h⟩))
        | exact qw_meetE (pre, had) (subL_cons (lkv rfl (by first | rfl | simp)) (subL_cons (lkv rfl (by first | rfl | simp)) (subL_cons (lkv rfl (by first | rfl | simp)) (subL_cons (lkv rfl (by first | rfl | simp)) (subL_nil _))))) (fun w' h => ⟨⟨hIt.idleT hI hil (fun hm => by rw [c29] at hm; exact Bool.noConfusion hm), hin⟩, h⟩)
        | exact qw_meetE (pre, had) (subL_cons (lkv rfl (by first | rfl | simp)) (subL_cons (lkv rfl (by first | rfl | simp)) (subL_cons (lkv rfl (by first | rfl | simp)) (subL_cons (lkv rfl (by first | rfl | simp)) (subL_nil _))))) (fun w' h => ⟨⟨hIt.idleT hI hil (fun hm => by simpa using s24), hin⟩, h⟩)
    ·
      rintro ⟨pre1, had1⟩
      dsimp only
      refine cw_and (fun hMp => ?_)
      obtain ⟨hM, hin1⟩ := hMp
      have hsl1 : had1.length = ts.length := by have := hM.so.1; rwa [itemsT_len] at this
      refine cw_seq ?_
      refine cw_seq ?_
      refine cw_region ?_
      refine ow_val rfl rfl (ex_move rfl) ?_
      refine ow_val rfl rfl (ex_move rfl) ?_
      refine ow_val rfl rfl (ex_index_nat (i := i) rfl rfl (by omega)) ?_
      refine ow_val rfl rfl (ex_load1 rfl (ld_had 0 rfl (by omega))) ?_
      refine ow_val rfl rfl (ex_not rfl) ?_
      refine ow_val rfl rfl (ex_move rfl) ?_
      refine ow_split (g := some (5, false)) rfl (fun s38 => ?_) (fun s38 => ?_)
      ·
        have q1 : had1.getD i false = false := by simpa using s38
        refine ow_skip rfl (gd_no rfl s38) ?_
        refine ow_skip rfl (gd_no rfl s38) ?_
        refine ow_skip rfl (gd_no rfl s38) ?_
        refine ow_skip rfl (gd_no rfl s38) ?_
        refine ow_skip rfl (gd_no rfl s38) ?_
        refine ow_skip rfl (gd_no rfl s38) ?_
        refine ow_skip rfl (gd_no rfl s38) ?_
        refine ow_skip rfl (gd_no rfl s38) ?_
        refine ow_skip rfl (gd_no rfl s38) ?_
        refine ow_val rfl rfl (ex_pickt rfl s38 rfl) ?_
        refine ow_nil ?_
        refine qw_seq ?_
        refine cw_cond_t rfl ?_
        refine cw_exit ?_
        refine qw_then_exit ?_
        refine qw_block_exit ?_
        refine qw_seq ?_
        refine cw_region ?_
        refine ow_val rfl rfl (ex_move rfl) ?_
        refine ow_val rfl rfl (ex_addi (z := ((i + 1 : Nat) : Int)) rfl rfl (by omega) (by omega) (by omega)) ?_
        refine ow_val rfl rfl (ex_assign rfl) ?_
        refine ow_nil ?_
        first
        | exact qw_roundH4 (i + 1) pre1 had1 τ (by omega) (subL_cons (lkv rfl (by first | rfl | simp)) (subL_cons (lkv rfl (by first | rfl | simp)) (subL_cons (lkv rfl (by first | rfl | simp)) (subL_cons (lkv rfl (by first | rfl | simp)) (subL_nil _))))) ⟨hM.nextT hil (fun _ hb9 _ => by rw [q1] at hb9; exact Bool.noConfusion hb9), by omega, hlj, hfj, hin1⟩ (fun w h => h)
        | exact qw_roundH4 (i + 1) pre1 had1 τ (by omega) (subL_cons (lkv rfl (by first | rfl | simp)) (subL_cons (lkv rfl (by first | rfl | simp)) (subL_cons (lkv rfl (by first | rfl | simp)) (subL_cons (lkv rfl (by first | rfl | simp)) (subL_nil _))))) ⟨hM.nextT hil (fun ha9 _ _ => q2 ha9), by omega, hlj, hfj, hin1⟩ (fun w h => h)
        | (rcases hkk with ⟨qk9, hN9, hin9⟩ | ⟨qk9, e8, e9⟩
           · first
             | exact qw_roundH4 (i + 1) pre2 had2 τ2 (by omega) (subL_cons (lkv rfl (by first | rfl | simp)) (subL_cons (lkv rfl (by first | rfl | simp)) (subL_cons (lkv rfl (by first | rfl | simp)) (subL_cons (lkv rfl (by first | rfl | simp)) (subL_nil _))))) ⟨hN9.nextT hil hjl (by omega), by omega, hlj.trans hl2, hfj.trans hf2, hin9⟩ (fun w h => h)
             | (rw [qk9] at qk; cases qk)
           · subst e8; subst e9; exact qw_roundH4 (i + 1) _ _ τ2 (by omega) (subL_cons (lkv rfl (by first | rfl | simp)) (subL_cons (lkv rfl (by first | rfl | simp)) (subL_cons (lkv rfl (by first | rfl | simp)) (subL_cons (lkv rfl (by first | rfl | simp)) (subL_nil _))))) ⟨hM.nextT hil (fun _ _ hkx => by rw [one_isV hI hil hk1, qk9] at hkx; exact Bool.noConfusion hkx), by omega, hlj.trans hl2, hfj.trans hf2, hin1⟩ (fun w h => h))
      ·
        have q1 : had1.getD i false = true := by simpa using s38
        refine ow_val rfl (gd_go rfl s38) (ex_move rfl) ?_
        refine ow_val rfl (gd_go rfl s38) (ex_nilck rfl) ?_
        refine ow_val rfl (gd_go rfl s38) (ex_field rfl) ?_
        refine ow_val rfl (gd_go rfl s38) (ex_load1 rfl (ld_imm1 (hc0.le hlj))) ?_
        refine ow_val rfl (gd_go rfl s38) (ex_move rfl) ?_
        refine ow_val rfl (gd_go rfl s38) (ex_index_nat (i := i) rfl rfl hil) ?_
        refine ow_val rfl (gd_go rfl s38) (ex_field rfl) ?_
        refine ow_val rfl (gd_go rfl s38) (ex_load1 rfl (ld_imm1 ((hc1.le hlj).fld (i := 0) rfl))) ?_
        refine ow_val rfl (gd_go rfl s38) (ex_neq rfl rfl) ?_
        refine ow_val rfl rfl (ex_pickf rfl s38 rfl) ?_
        refine ow_nil ?_
        refine qw_seq ?_
        refine cw_cond rfl (fun c48 => ?_) (fun c48 => ?_)
        ·
          have q2 : ¬ ts[i].op = 4 := by simpa using c48
          refine cw_exit ?_
          refine qw_then_exit ?_
          refine qw_block_exit ?_
          refine qw_seq ?_
          refine cw_region ?_
          refine ow_val rfl rfl (ex_move rfl) ?_
          refine ow_val rfl rfl (ex_addi (z := ((i + 1 : Nat) : Int)) rfl rfl (by omega) (by omega) (by omega)) ?_
          refine ow_val rfl rfl (ex_assign rfl) ?_
          refine ow_nil ?_
          first
          | exact qw_roundH4 (i + 1) pre1 had1 τ (by omega) (subL_cons (lkv rfl (by first | rfl | simp)) (subL_cons (lkv rfl (by first | rfl | simp)) (subL_cons (lkv rfl (by first | rfl | simp)) (subL_cons (lkv rfl (by first | rfl | simp)) (subL_nil _))))) ⟨hM.nextT hil (fun _ hb9 _ => by rw [q1] at hb9; exact Bool.noConfusion hb9), by omega, hlj, hfj, hin1⟩ (fun w h => h)
          | exact qw_roundH4 (i + 1) pre1 had1 τ (by omega) (subL_cons (lkv rfl (by first | rfl | simp)) (subL_cons (lkv rfl (by first | rfl | simp)) (subL_cons (lkv rfl (by first | rfl | simp)) (subL_cons (lkv rfl (by first | rfl | simp)) (subL_nil _))))) ⟨hM.nextT hil (fun ha9 _ _ => q2 ha9), by omega, hlj, hfj, hin1⟩ (fun w h => h)
          | (rcases hkk with ⟨qk9, hN9, hin9⟩ | ⟨qk9, e8, e9⟩
             · first
               | exact qw_roundH4 (i + 1) pre2 had2 τ2 (by omega) (subL_cons (lkv rfl (by first | rfl | simp)) (subL_cons (lkv rfl (by first | rfl | simp)) (subL_cons (lkv rfl (by first | rfl | simp)) (subL_cons (lkv rfl (by first | rfl | simp)) (subL_nil _))))) ⟨hN9.nextT hil hjl (by omega), by omega, hlj.trans hl2, hfj.trans hf2, hin9⟩ (fun w h => h)
               | (rw [qk9] at qk; cases qk)
             · subst e8; subst e9; exact qw_roundH4 (i + 1) _ _ τ2 (by omega) (subL_cons (lkv rfl (by first | rfl | simp)) (subL_cons (lkv rfl (by first | rfl | simp)) (subL_cons (lkv rfl (by first | rfl | simp)) (subL_cons (lkv rfl (by first | rfl | simp)) (subL_nil _))))) ⟨hM.nextT hil (fun _ _ hkx => by rw [one_isV hI hil hk1, qk9] at hkx; exact Bool.noConfusion hkx), by omega, hlj.trans hl2, hfj.trans hf2, hin1⟩ (fun w h => h))
        ·
          have q2 : ts[i].op = 4 := by simpa using c48
          refine cw_skip ?_
          refine qw_seq ?_
          refine cw_seq ?_
          refine cw_region ?_
          refine ow_val rfl rfl (ex_move rfl) ?_
          refine ow_val rfl rfl (ex_move rfl) ?_
          refine ow_val rfl rfl (ex_move rfl) ?_
          refine ow_val rfl rfl (ex_nilck rfl) ?_
          refine ow_val rfl rfl (ex_field rfl) ?_
          refine ow_val rfl rfl (ex_load1 rfl (ld_imm1 (hc0.le hlj))) ?_
          refine ow_val rfl rfl (ex_move rfl) ?_
          refine ow_val rfl rfl (ex_index_nat (i := i) rfl rfl hil) ?_
          refine ow_val rfl rfl (ex_field rfl) ?_
          have hk1 := keyed_one (hI.rt _ (List.getElem_mem hil)) (by omega)
          have hk0 : 0 < ts[i].kids.length := by omega
          obtain ⟨bk, fk, ck', cs2, e3, e4, hc2, ht2⟩ := hk9.get 0 hk0
          cases e3
          refine ow_val rfl rfl (ex_load1 rfl (ld_imm1 ((hc1.le hlj).fld (i := 3) rfl))) ?_
          refine ow_val rfl rfl (ex_index_nat (i := 0) rfl rfl hk0) ?_
          refine ow_val rfl rfl (ex_loadR rfl (ld_immT (hc2.le hlj) (ht2.le hlj))) ?_
          refine ow_cv rfl rfl (ex_callf rfl (fun w h => callB ((rIs _ (Imm.ext h.im (h.own (p := (hb, hadO 4 had1)) (by simp))) ((hc0.le hlj).le (le_ext (h.fresh (p := (hb, hadO 4 had1)) (by simp)))) ((hks0.le hlj).le (le_ext (h.fresh (p := (hb, hadO 4 had1)) (by simp)))) CellsAt.had hsl1 ((ht2.le hlj).le (le_ext (h.fresh (p := (hb, hadO 4 had1)) (by simp)))))))) ?_
          refine ow_val rfl rfl (ex_assign rfl) ?_
          refine ow_nil ?_
          refine qw_seq ?_
          refine cw_seq ?_
          refine cw_region ?_
          refine ow_val rfl rfl (ex_move rfl) ?_
          refine ow_val rfl rfl (ex_nilck rfl) ?_
          refine ow_val rfl rfl (ex_field rfl) ?_
          refine ow_val rfl rfl (ex_load1 rfl (ld_imm1 (hc0.le hlj))) ?_
          refine ow_val rfl rfl (ex_move rfl) ?_
          refine ow_val rfl rfl (ex_index_nat (i := i) rfl rfl hil) ?_
          refine ow_val rfl rfl (ex_field rfl) ?_
          refine ow_val rfl rfl (ex_load1 rfl (ld_imm1 ((hc1.le hlj).fld (i := 2) rfl))) ?_
          refine ow_val rfl rfl (ex_move rfl) ?_
          refine ow_cr rfl rfl (ex_callf rfl (fun w h => callR (rMentions h.im (hd9.le hlj) (by omega)))) (fun v71 τ2 hl2 hf2 hr2 => ?_)
          have hml := mentS_len ts[i].data (i : Int)
          obtain ⟨pm, cm, rfl, _, hsm⟩ := hr2
          refine ow_val rfl rfl (ex_assign rfl) ?_
          refine ow_nil ?_
          refine qw_seq ?_
          refine cw_seq ?_
          refine cw_region ?_
          refine ow_val rfl rfl (ex_assign rfl) ?_
          refine ow_nil ?_
          refine qw_seq ?_
          refine cw_block ?_
          refine cw_loopH3 (fun (j : Nat) (pre2 : List (Hx (itemsT ts) known)) (had2 : List Bool) => [(0, .pointer (some ⟨d, 0, none⟩)), (1, .slice (some ⟨hb, 0, none⟩) ts.length ch), (5, .bool (!pre2.isEmpty)), (6, .int .i64 (i : Int)), (7, .bool (isV ts had1 ts[i].kids[0])), (8, .slice pm (mentS ts[i].data (i : Int)).length cm), (9, .int .i64 (j : Int))]) (fun j pre2 had2 => j ≤ (mentS ts[i].data (i : Int)).length ∧ (((isV ts had1 ts[i].kids[0]) = true ∧ ItN (itemsT ts) known had0 i j pre2 had2 ∧ ∀ y ∈ pre2, had2.getD y.1 false = true) ∨ ((isV ts had1 ts[i].kids[0]) = false ∧ pre2 = pre1 ∧ had2 = had1))) (fun _ _ _ => τ2) (fun _ _ had2 => [(hb, hadO 4 had2)]) (fun _ _ _ => []) (fun j _ _ => (mentS ts[i].data (i : Int)).length - j) 0 pre1 had1 (subL_cons (lkv rfl (by first | rfl | simp)) (subL_cons (lkv rfl (by first | rfl | simp)) (subL_cons (lkv rfl (by first | rfl | simp)) (subL_cons (lkv rfl (by first | rfl | simp)) (subL_cons (lkv rfl (by first | rfl | simp)) (subL_cons (lkv rfl (by first | rfl | simp)) (subL_cons (lkv rfl (by first | rfl | simp)) (subL_nil _)))))))) ⟨Nat.zero_le _, by
            cases hkey : (isV ts had1 ts[i].kids[0]) with
            | true => exact .inl ⟨rfl, hM.opensT hil q2 q1 (by rw [one_isV hI hil hk1]; exact hkey), hin1⟩
            | false => exact .inr ⟨rfl, rfl, rfl⟩⟩ (fun w h => h) ?_
          intro j pre2 had2 ⟨hlej, hkk⟩
          refine cw_seq ?_
          refine cw_seq ?_
          refine cw_region ?_
          refine ow_val rfl rfl (ex_move rfl) ?_
          refine ow_val rfl rfl (ex_move rfl) ?_
          refine ow_val rfl rfl (ex_len (ty := 0) rfl) ?_
          refine ow_val rfl rfl (ex_lss rfl rfl) ?_
          refine ow_val rfl rfl (ex_move rfl) ?_
          refine ow_split (g := some (4, true)) rfl (fun s76 => ?_) (fun s76 => ?_)
          ·
            have hjl : j < (mentS ts[i].data (i : Int)).length := by have := of_decide_eq_true s76; omega
            refine ow_val rfl (gd_go rfl s76) (ex_move rfl) ?_
            refine ow_val rfl rfl (ex_pickt rfl s76 rfl) ?_
            refine ow_nil ?_
            refine qw_seq ?_
            refine cw_cond rfl (fun c78 => ?_) (fun c78 => ?_)
            ·
              have qk : (isV ts had1 ts[i].kids[0]) = true := c78
              obtain ⟨hN, hinN⟩ : ItN (itemsT ts) known had0 i j pre2 had2 ∧ ∀ y ∈ pre2, had2.getD y.1 false = true := by
                rcases hkk with ⟨_, h1, h2⟩ | ⟨h1, _⟩
                · exact ⟨h1, h2⟩
                · rw [qk] at h1; cases h1
              have hsl2 : had2.length = ts.length := by have := hN.so.1; rwa [itemsT_len] at this
              have hmi := mentS_in (List.getElem_mem hjl)
              obtain ⟨bm, om, rfl, hcm⟩ := hsm.resolve_left (fun hn => by rw [hn] at hjl; simp at hjl)
              refine cw_skip ?_
              refine qw_seq ?_
              refine cw_seq ?_
              refine cw_block ?_
              refine cw_seq ?_
              refine cw_region ?_
              refine ow_val rfl rfl (ex_move rfl) ?_
              refine ow_val rfl rfl (ex_move rfl) ?_
              refine ow_val rfl rfl (ex_move rfl) ?_
              refine ow_val rfl rfl (ex_index_nat (i := j) rfl rfl hjl) ?_
              refine ow_val rfl rfl (ex_load1 rfl (ld_imm1 (hcm.int hjl))) ?_
              refine ow_val rfl rfl (ex_index rfl rfl hmi.1 (by omega)) ?_
              refine ow_val rfl rfl (ex_load1 rfl (ld_had 0 (i := ((mentS ts[i].data (i : Int))[j]).toNat) rfl (by omega))) ?_
              refine ow_val rfl rfl (ex_not rfl) ?_
              refine ow_nil ?_
              refine qw_seq ?_
              refine cw_cond rfl (fun c88 => ?_) (fun c88 => ?_)
              ·
                have q3 : hadAt had2 (mentS ts[i].data (i : Int))[j] = false := by simpa [hadAt] using c88
                refine cw_seq ?_
                refine cw_region ?_
                refine ow_val rfl rfl (ex_move rfl) ?_
                refine ow_val rfl rfl (ex_move rfl) ?_
                refine ow_val rfl rfl (ex_move rfl) ?_
                refine ow_val rfl rfl (ex_index_nat (i := j) rfl rfl hjl) ?_
                refine ow_val rfl rfl (ex_load1 rfl (ld_imm1 (hcm.int hjl))) ?_
                refine ow_val rfl rfl (ex_index rfl rfl hmi.1 (by omega)) ?_
                refine ow_u rfl (exu_bool (i := ((mentS ts[i].data (i : Int))[j]).toNat) 0 rfl rfl rfl (by omega)) ?_
                refine ow_nil ?_
                refine qw_seq ?_
                refine cw_region ?_
                refine ow_val rfl rfl (ex_assign rfl) ?_
                refine ow_nil ?_
                refine qw_block_normal ?_
                refine qw_seq ?_
                refine cw_region ?_
                refine ow_val rfl rfl (ex_move rfl) ?_
                refine ow_val rfl rfl (ex_addi (z := ((j + 1 : Nat) : Int)) rfl rfl (by omega) (by omega) (by omega)) ?_
                refine ow_val rfl rfl (ex_assign rfl) ?_
                refine ow_nil ?_
                first
                | (obtain ⟨x2, hx2, hN2⟩ := hN.openT hil hjl q3; exact qw_roundH3 (j + 1) (pre2 ++ [x2]) (had2.set ((mentS ts[i].data (i : Int))[j]).toNat true) (by omega) (by rw [show (!(pre2 ++ [x2]).isEmpty) = true from by simp]; exact (subL_cons (lkv rfl (by first | rfl | simp)) (subL_cons (lkv rfl (by first | rfl | simp)) (subL_cons (lkv rfl (by first | rfl | simp)) (subL_cons (lkv rfl (by first | rfl | simp)) (subL_cons (lkv rfl (by first | rfl | simp)) (subL_cons (lkv rfl (by first | rfl | simp)) (subL_cons (lkv rfl (by first | rfl | simp)) (subL_nil _))))))))) ⟨by omega, .inl ⟨qk, hN2, in_set hinN hx2 (by omega)⟩⟩ (fun w h => h))
                | exact qw_roundH3 (j + 1) pre2 had2 (by omega) (subL_cons (lkv rfl (by first | rfl | simp)) (subL_cons (lkv rfl (by first | rfl | simp)) (subL_cons (lkv rfl (by first | rfl | simp)) (subL_cons (lkv rfl (by first | rfl | simp)) (subL_cons (lkv rfl (by first | rfl | simp)) (subL_cons (lkv rfl (by first | rfl | simp)) (subL_cons (lkv rfl (by first | rfl | simp)) (subL_nil _)))))))) ⟨by omega, .inl ⟨qk, hN.idleT hil hjl q3, hinN⟩⟩ (fun w h => h)
              ·
                have q3 : hadAt had2 (mentS ts[i].data (i : Int))[j] = true := by simpa [hadAt] using c88
                refine cw_skip ?_
                refine qw_block_normal ?_
                refine qw_seq ?_
                refine cw_region ?_
                refine ow_val rfl rfl (ex_move rfl) ?_
                refine ow_val rfl rfl (ex_addi (z := ((j + 1 : Nat) : Int)) rfl rfl (by omega) (by omega) (by omega)) ?_
                refine ow_val rfl rfl (ex_assign rfl) ?_
                refine ow_nil ?_
                first
                | (obtain ⟨x2, hx2, hN2⟩ := hN.openT hil hjl q3; exact qw_roundH3 (j + 1) (pre2 ++ [x2]) (had2.set ((mentS ts[i].data (i : Int))[j]).toNat true) (by omega) (by rw [show (!(pre2 ++ [x2]).isEmpty) = true from by simp]; exact (subL_cons (lkv rfl (by first | rfl | simp)) (subL_cons (lkv rfl (by first | rfl | simp)) (subL_cons (lkv rfl (by first | rfl | simp)) (subL_cons (lkv rfl (by first | rfl | simp)) (subL_cons (lkv rfl (by first | rfl | simp)) (subL_cons (lkv rfl (by first | rfl | simp)) (subL_cons (lkv rfl (by first | rfl | simp)) (subL_nil _))))))))) ⟨by omega, .inl ⟨qk, hN2, in_set hinN hx2 (by omega)⟩⟩ (fun w h => h))
                | exact qw_roundH3 (j + 1) pre2 had2 (by omega) (subL_cons (lkv rfl (by first | rfl | simp)) (subL_cons (lkv rfl (by first | rfl | simp)) (subL_cons (lkv rfl (by first | rfl | simp)) (subL_cons (lkv rfl (by first | rfl | simp)) (subL_cons (lkv rfl (by first | rfl | simp)) (subL_cons (lkv rfl (by first | rfl | simp)) (subL_cons (lkv rfl (by first | rfl | simp)) (subL_nil _)))))))) ⟨by omega, .inl ⟨qk, hN.idleT hil hjl q3, hinN⟩⟩ (fun w h => h)
            ·
              have qk : (isV ts had1 ts[i].kids[0]) = false := c78
              refine cw_exit ?_
              refine qw_then_exit ?_
              refine qw_then_exit ?_
              refine qw_block_exit ?_
              refine qw_block_normal ?_
              refine qw_seq ?_
              refine cw_region ?_
              refine ow_val rfl rfl (ex_move rfl) ?_
              refine ow_val rfl rfl (ex_addi (z := ((i + 1 : Nat) : Int)) rfl rfl (by omega) (by omega) (by omega)) ?_
              refine ow_val rfl rfl (ex_assign rfl) ?_
              refine ow_nil ?_
              first
              | exact qw_roundH4 (i + 1) pre1 had1 τ (by omega) (subL_cons (lkv rfl (by first | rfl | simp)) (subL_cons (lkv rfl (by first | rfl | simp)) (subL_cons (lkv rfl (by first | rfl | simp)) (subL_cons (lkv rfl (by first | rfl | simp)) (subL_nil _))))) ⟨hM.nextT hil (fun _ hb9 _ => by rw [q1] at hb9; exact Bool.noConfusion hb9), by omega, hlj, hfj, hin1⟩ (fun w h => h)
              | exact qw_roundH4 (i + 1) pre1 had1 τ (by omega) (subL_cons (lkv rfl (by first | rfl | simp)) (subL_cons (lkv rfl (by first | rfl | simp)) (subL_cons (lkv rfl (by first | rfl | simp)) (subL_cons (lkv rfl (by first | rfl | simp)) (subL_nil _))))) ⟨hM.nextT hil (fun ha9 _ _ => q2 ha9), by omega, hlj, hfj, hin1⟩ (fun w h => h)
              | (rcases hkk with ⟨qk9, hN9, hin9⟩ | ⟨qk9, e8, e9⟩
                 · first
                   | exact qw_roundH4 (i + 1) pre2 had2 τ2 (by omega) (subL_cons (lkv rfl (by first | rfl | simp)) (subL_cons (lkv rfl (by first | rfl | simp)) (subL_cons (lkv rfl (by first | rfl | simp)) (subL_cons (lkv rfl (by first | rfl | simp)) (subL_nil _))))) ⟨hN9.nextT hil hjl (by omega), by omega, hlj.trans hl2, hfj.trans hf2, hin9⟩ (fun w h => h)
                   | (rw [qk9] at qk; cases qk)
                 · subst e8; subst e9; exact qw_roundH4 (i + 1) _ _ τ2 (by omega) (subL_cons (lkv rfl (by first | rfl | simp)) (subL_cons (lkv rfl (by first | rfl | simp)) (subL_cons (lkv rfl (by first | rfl | simp)) (subL_cons (lkv rfl (by first | rfl | simp)) (subL_nil _))))) ⟨hM.nextT hil (fun _ _ hkx => by rw [one_isV hI hil hk1, qk9] at hkx; exact Bool.noConfusion hkx), by omega, hlj.trans hl2, hfj.trans hf2, hin1⟩ (fun w h => h))
          ·
            have hjl : (mentS ts[i].data (i : Int)).length ≤ j := by have := of_decide_eq_false s76; omega
            refine ow_skip rfl (gd_no rfl s76) ?_
            refine ow_val rfl rfl (ex_pickf rfl s76 rfl) ?_
            refine ow_nil ?_
            refine qw_seq ?_
            refine cw_cond_f rfl ?_
            refine cw_exit ?_
            refine qw_then_exit ?_
            refine qw_then_exit ?_
            refine qw_block_exit ?_
            refine qw_block_normal ?_
            refine qw_seq ?_
            refine cw_region ?_
            refine ow_val rfl rfl (ex_move rfl) ?_
            refine ow_val rfl rfl (ex_addi (z := ((i + 1 : Nat) : Int)) rfl rfl (by omega) (by omega) (by omega)) ?_
            refine ow_val rfl rfl (ex_assign rfl) ?_
            refine ow_nil ?_
            first
            | exact qw_roundH4 (i + 1) pre1 had1 τ (by omega) (subL_cons (lkv rfl (by first | rfl | simp)) (subL_cons (lkv rfl (by first | rfl | simp)) (subL_cons (lkv rfl (by first | rfl | simp)) (subL_cons (lkv rfl (by first | rfl | simp)) (subL_nil _))))) ⟨hM.nextT hil (fun _ hb9 _ => by rw [q1] at hb9; exact Bool.noConfusion hb9), by omega, hlj, hfj, hin1⟩ (fun w h => h)
            | exact qw_roundH4 (i + 1) pre1 had1 τ (by omega) (subL_cons (lkv rfl (by first | rfl | simp)) (subL_cons (lkv rfl (by first | rfl | simp)) (subL_cons (lkv rfl (by first | rfl | simp)) (subL_cons (lkv rfl (by first | rfl | simp)) (subL_nil _))))) ⟨hM.nextT hil (fun ha9 _ _ => q2 ha9), by omega, hlj, hfj, hin1⟩ (fun w h => h)
            | (rcases hkk with ⟨qk9, hN9, hin9⟩ | ⟨qk9, e8, e9⟩
               · first
                 | exact qw_roundH4 (i + 1) pre2 had2 τ2 (by omega) (subL_cons (lkv rfl (by first | rfl | simp)) (subL_cons (lkv rfl (by first | rfl | simp)) (subL_cons (lkv rfl (by first | rfl | simp)) (subL_cons (lkv rfl (by first | rfl | simp)) (subL_nil _))))) ⟨hN9.nextT hil hjl (by omega), by omega, hlj.trans hl2, hfj.trans hf2, hin9⟩ (fun w h => h)
                 | (rw [qk9] at qk; cases qk)
               · subst e8; subst e9; exact qw_roundH4 (i + 1) _ _ τ2 (by omega) (subL_cons (lkv rfl (by first | rfl | simp)) (subL_cons (lkv rfl (by first | rfl | simp)) (subL_cons (lkv rfl (by first | rfl | simp)) (subL_cons (lkv rfl (by first | rfl | simp)) (subL_nil _))))) ⟨hM.nextT hil (fun _ _ hkx => by rw [one_isV hI hil hk1, qk9] at hkx; exact Bool.noConfusion hkx), by omega, hlj.trans hl2, hfj.trans hf2, hin1⟩ (fun w h => h))
  ·
    refine cw_exit ?_
    refine qw_then_exit ?_
    refine qw_then_exit ?_
    refine qw_block_exit ?_
    refine qw_seq ?_
    refine cw_seq ?_
    refine cw_region ?_
    refine ow_val rfl rfl (ex_move rfl) ?_
    refine ow_val rfl rfl (ex_assign rfl) ?_
    refine ow_nil ?_
    refine qw_seq ?_
    refine cw_ret ?_
    refine qw_ret1 rfl rfl (fun w' h => ?_)
    exact (St.flip h).givesK hlj hfj ⟨had, _, rfl, rfl, hIt.stepR (by have := of_decide_eq_false c16; omega) hl0 hin⟩
end Go.Proofs.YtnjomdjkbbhdoaaGreatDoor
namespace Go.Proofs.YtnjomdjkbbhdoaaGreatDoor
open Go.RowKit
set_option linter.unusedVariables false
set_option linter.unusedSimpArgs false
set_option maxRecDepth 100000
set_option maxHeartbeats 400000 in
theorem pMentions {d : List UInt8} {below : Int} {v : Value} {σ : Hp} {w : World} (hi : Imm σ w) (hd : BytesV σ v d) (hmx : d.length ≤ 17592186044415) : Calls Tryz.prog 50 #[v, .int .i64 below] w (GiveR (RepI (mentS d below)) σ w) := by
  obtain ⟨p0, c0, rfl, hc0, _⟩ := hd.slice
  refine enter (St w (fun _ => False) σ [] []) Tryz.func50 rfl Tryz.ntmps50 rfl (St.start hi) ?_
  refine cw_seq ?_
  refine cw_region ?_
  refine ow_val rfl rfl (ex_assign rfl) ?_
  refine ow_nil ?_
  refine qw_seq ?_
  refine cw_seq ?_
  refine cw_region ?_
  refine ow_val rfl rfl (ex_assign rfl) ?_
  refine ow_nil ?_
  refine qw_seq ?_
  refine cw_seq ?_
  refine cw_block ?_
  refine cw_loop6 (fun (d' : List UInt8) (p : Option Addr) (c : Nat) (zs : List Int) (v5 : Value) (Gs : List (Nat × Obj)) => [(0, .slice p d'.length c), (1, .int .i64 below), (5, v5)]) (fun d' p c zs v5 Gs => BytesV σ (.slice p d'.length c) d' ∧ d'.length ≤ c ∧ OwnSl 3 1 v5 zs.length (intsV zs) Gs ∧ zs ++ mentL d' below = mentL d below) (fun d' p c zs v5 Gs => σ) (fun d' p c zs v5 Gs => Gs) (fun d' _ _ _ _ _ => d'.length) d p0 c0 [] (.slice none 0 0) [] (subL_cons (lkv rfl (by first | rfl | simp)) (subL_cons (lkv rfl (by first | rfl | simp)) (subL_cons (lkv rfl (by first | rfl | simp)) (subL_nil _)))) ⟨hd, hc0, OwnSl.nil _ _, rfl⟩ (fun w h => by simpa using h) ?_
  intro d' p c zs v5 Gs ⟨hdb, hcc, hO, heq⟩
  refine cw_seq ?_
  refine cw_seq ?_
  refine cw_region ?_
  refine ow_val rfl rfl (ex_move rfl) ?_
  refine ow_val rfl rfl (ex_len (ty := 0) rfl) ?_
  refine ow_val rfl rfl (ex_geq rfl rfl) ?_
  refine ow_nil ?_
  refine qw_seq ?_
  refine cw_cond rfl (fun c10 => ?_) (fun c10 => ?_)
  ·
    have h10 : 10 ≤ d'.length := by have := of_decide_eq_true c10; omega
    obtain ⟨bq, oq, rfl, hcq⟩ := hdb.ptr (by omega)
    have hlz : zs.length + (mentL d' below).length ≤ d.length := by rw [← List.length_append, heq]; exact mentL_len _ _
    refine cw_skip ?_
    refine qw_seq ?_
    refine cw_block ?_
    refine cw_seq ?_
    refine cw_seq ?_
    refine cw_region ?_
    refine ow_val rfl rfl (ex_move rfl) ?_
    refine ow_val rfl rfl (ex_slice (i := 2) (j := 10) rfl rfl rfl (by decide) (by omega)) ?_
    refine ow_cv rfl rfl (ex_callf rfl (fun w h => callB ((pNumber h.im (hdb.mid (i := 2) (j := 10) (by decide) (by omega)))))) ?_
    refine ow_val rfl rfl (ex_move rfl) ?_
    refine ow_val rfl rfl (ex_extract rfl rfl) ?_
    refine ow_val rfl rfl (ex_extract rfl rfl) ?_
    refine ow_val rfl rfl (ex_assign rfl) ?_
    refine ow_val rfl rfl (ex_assign rfl) ?_
    refine ow_nil ?_
    refine qw_seq ?_
    refine cw_seq ?_
    refine cw_region ?_
    refine ow_val rfl rfl (ex_move rfl) ?_
    refine ow_val rfl rfl (ex_move rfl) ?_
    refine ow_split (g := some (1, true)) rfl (fun s18 => ?_) (fun s18 => ?_)
    ·
      refine ow_val rfl (gd_go rfl s18) (ex_move rfl) ?_
      refine ow_val rfl (gd_go rfl s18) (ex_move rfl) ?_
      refine ow_val rfl (gd_go rfl s18) (ex_lss rfl rfl) ?_
      refine ow_val rfl rfl (ex_pickt rfl s18 rfl) ?_
      refine ow_val rfl rfl (ex_move rfl) ?_
      refine ow_split (g := some (6, true)) rfl (fun s23 => ?_) (fun s23 => ?_)
      ·
        refine ow_val rfl (gd_go rfl s23) (ex_move rfl) ?_
        refine ow_val rfl (gd_go rfl s23) (ex_slice_hi (j := 2) rfl rfl (by omega)) ?_
        refine ow_val rfl (gd_go rfl s23) (ex_tostr rfl (hdb.hi (j := 2) (by omega)) (fun w h => h.im)) ?_
        refine ow_val rfl (gd_go rfl s23) (ex_streql (b := [4, 8]) rfl rfl) ?_
        refine ow_val rfl rfl (ex_pickt rfl s23 rfl) ?_
        refine ow_nil ?_
        refine qw_seq ?_
        refine cw_cond rfl (fun c28 => ?_) (fun c28 => ?_)
        ·
          have hh : hitB d' below = true := by unfold hitB; rw [show (numB ((d'.drop 2).take 8)).2 = true from s18, show decide ((numB ((d'.drop 2).take 8)).1 < below) = true from s23, show (d'.take 2 == [4, 8]) = true from c28]; rfl
          have hmh := mentL_hit h10 hh
          rw [hmh] at hlz
          simp only [List.length_cons] at hlz
          refine cw_region ?_
          refine ow_val rfl rfl (ex_move rfl) ?_
          refine ow_val rfl rfl (ex_move rfl) ?_
          refine ow_slit rfl rfl (exw_slit1 rfl rfl) ?_; intro b31
          refine ow_app1 rfl rfl (exw_append1 (news := [.int .i64 (numB ((d'.drop 2).take 8)).1]) rfl rfl hO rfl (.inr ⟨_, _, rfl, (ld_ownN (k := 1) 0 rfl rfl).2⟩) (fun u hu => by simp at hu; subst hu; rfl) (by unfold maxLen; omega) (by omega)) (fun v32 G32 hO32 hz32 => ?_)
          refine ow_val rfl rfl (ex_assign rfl) ?_
          refine ow_nil ?_
          refine qw_seq ?_
          refine cw_region ?_
          refine ow_val rfl rfl (ex_move rfl) ?_
          refine ow_val rfl rfl (ex_slice_lo (i := 1) rfl rfl (by omega) (by omega)) ?_
          refine ow_val rfl rfl (ex_assign rfl) ?_
          refine ow_nil ?_
          refine qw_block_normal ?_
          exact qw_round6 (d'.drop 1) (if c = 1 then some ⟨bq, oq, none⟩ else (some ⟨bq, oq, none⟩ : Option Addr).map (·.add (1 * 1))) (c - 1) (zs ++ [(numB ((d'.drop 2).take 8)).1]) v32 G32 (by rw [List.length_drop]; omega) (subL_cons (lkv rfl (by first | rfl | simp)) (subL_cons (lkv rfl (by first | rfl | simp)) (subL_cons (lkv rfl (by first | rfl | simp)) (subL_nil _)))) ⟨by rw [List.length_drop]; exact hdb.lo (by omega), by rw [List.length_drop]; omega, by rw [intsV_app, List.length_append]; exact hO32, by rw [List.append_assoc, ← heq, hmh]; rfl⟩ (fun w h => h.drop (List.sublist_cons_self _ _))
        ·
          have hm : hitB d' below = false := by unfold hitB; rw [show (d'.take 2 == [4, 8]) = false from c28]; simp
          refine cw_skip ?_
          refine qw_seq ?_
          refine cw_region ?_
          refine ow_val rfl rfl (ex_move rfl) ?_
          refine ow_val rfl rfl (ex_slice_lo (i := 1) rfl rfl (by omega) (by omega)) ?_
          refine ow_val rfl rfl (ex_assign rfl) ?_
          refine ow_nil ?_
          refine qw_block_normal ?_
          exact qw_round6 (d'.drop 1) (if c = 1 then some ⟨bq, oq, none⟩ else (some ⟨bq, oq, none⟩ : Option Addr).map (·.add (1 * 1))) (c - 1) zs v5 Gs (by rw [List.length_drop]; omega) (subL_cons (lkv rfl (by first | rfl | simp)) (subL_cons (lkv rfl (by first | rfl | simp)) (subL_cons (lkv rfl (by first | rfl | simp)) (subL_nil _)))) ⟨by rw [List.length_drop]; exact hdb.lo (by omega), by rw [List.length_drop]; omega, hO, by rw [← heq, mentL_miss hm]⟩ (fun w h => h)
      ·
        have hm : hitB d' below = false := by unfold hitB; rw [show decide ((numB ((d'.drop 2).take 8)).1 < below) = false from s23]; simp
        refine ow_skip rfl (gd_no rfl s23) ?_
        refine ow_skip rfl (gd_no rfl s23) ?_
        refine ow_skip rfl (gd_no rfl s23) ?_
        refine ow_skip rfl (gd_no rfl s23) ?_
        refine ow_val rfl rfl (ex_pickf rfl s23 rfl) ?_
        refine ow_nil ?_
        refine qw_seq ?_
        refine cw_cond_f rfl ?_
        refine cw_skip ?_
        refine qw_seq ?_
        refine cw_region ?_
        refine ow_val rfl rfl (ex_move rfl) ?_
        refine ow_val rfl rfl (ex_slice_lo (i := 1) rfl rfl (by omega) (by omega)) ?_
        refine ow_val rfl rfl (ex_assign rfl) ?_
        refine ow_nil ?_
        refine qw_block_normal ?_
        exact qw_round6 (d'.drop 1) (if c = 1 then some ⟨bq, oq, none⟩ else (some ⟨bq, oq, none⟩ : Option Addr).map (·.add (1 * 1))) (c - 1) zs v5 Gs (by rw [List.length_drop]; omega) (subL_cons (lkv rfl (by first | rfl | simp)) (subL_cons (lkv rfl (by first | rfl | simp)) (subL_cons (lkv rfl (by first | rfl | simp)) (subL_nil _)))) ⟨by rw [List.length_drop]; exact hdb.lo (by omega), by rw [List.length_drop]; omega, hO, by rw [← heq, mentL_miss hm]⟩ (fun w h => h)
    ·
      have hm : hitB d' below = false := by unfold hitB; rw [show (numB ((d'.drop 2).take 8)).2 = false from s18]; rfl
      refine ow_skip rfl (gd_no rfl s18) ?_
      refine ow_skip rfl (gd_no rfl s18) ?_
      refine ow_skip rfl (gd_no rfl s18) ?_
      refine ow_val rfl rfl (ex_pickf rfl s18 rfl) ?_
      refine ow_val rfl rfl (ex_move rfl) ?_
      refine ow_skip rfl rfl ?_
      refine ow_skip rfl rfl ?_
      refine ow_skip rfl rfl ?_
      refine ow_skip rfl rfl ?_
      refine ow_val rfl rfl (ex_pick_f rfl rfl) ?_
      refine ow_nil ?_
      refine qw_seq ?_
      refine cw_cond_f rfl ?_
      refine cw_skip ?_
      refine qw_seq ?_
      refine cw_region ?_
      refine ow_val rfl rfl (ex_move rfl) ?_
      refine ow_val rfl rfl (ex_slice_lo (i := 1) rfl rfl (by omega) (by omega)) ?_
      refine ow_val rfl rfl (ex_assign rfl) ?_
      refine ow_nil ?_
      refine qw_block_normal ?_
      exact qw_round6 (d'.drop 1) (if c = 1 then some ⟨bq, oq, none⟩ else (some ⟨bq, oq, none⟩ : Option Addr).map (·.add (1 * 1))) (c - 1) zs v5 Gs (by rw [List.length_drop]; omega) (subL_cons (lkv rfl (by first | rfl | simp)) (subL_cons (lkv rfl (by first | rfl | simp)) (subL_cons (lkv rfl (by first | rfl | simp)) (subL_nil _)))) ⟨by rw [List.length_drop]; exact hdb.lo (by omega), by rw [List.length_drop]; omega, hO, by rw [← heq, mentL_miss hm]⟩ (fun w h => h)
  ·
    have h10 : d'.length < 10 := by have := of_decide_eq_false c10; omega
    rw [mentL_short h10, List.append_nil] at heq
    subst heq
    have hlz := mentL_len d below
    refine cw_exit ?_
    refine qw_then_exit ?_
    refine qw_then_exit ?_
    refine qw_block_exit ?_
    refine qw_seq ?_
    refine cw_seq ?_
    refine cw_region ?_
    refine ow_val rfl rfl (ex_move rfl) ?_
    refine ow_cg1 rfl rfl (ex_callf rfl (fun w h => pSortI1 (by omega) hO h)) (fun v36 G36 hr36 => ?_)
    obtain ⟨rfl, hO36⟩ := hr36
    refine ow_nil ?_
    refine qw_seq ?_
    refine cw_seq ?_
    refine cw_region ?_
    refine ow_val rfl rfl (ex_move rfl) ?_
    refine ow_cg1 rfl rfl (ex_callf rfl (fun w h => pCompI1 hO36 h)) (fun v38 G38 hO38 => ?_)
    refine ow_val rfl rfl (ex_assign rfl) ?_
    refine ow_nil ?_
    refine qw_seq ?_
    refine cw_ret ?_
    refine qw_ret1 rfl rfl (fun w' h => ?_)
    obtain ⟨σ', h1, h2, h3, h4⟩ := freezeI (Gr := []) (by simpa using h) (fun _ h => h) hO38
    exact h3.gives h1 h2 h4
end Go.Proofs.YtnjomdjkbbhdoaaGreatDoor
namespace Go.Proofs.YtnjomdjkbbhdoaaGreatDoor
open Go.RowKit
set_option linter.unusedVariables false
set_option linter.unusedSimpArgs false
set_option maxRecDepth 100000
set_option maxHeartbeats 400000 in
theorem pIndexI {zs : List Int} {n : Int} {v : Value} {σ : Hp} {w : World} (hi : Imm σ w) (hz : IntsV σ v zs) (hl : zs.length ≤ 9223372036854775806) : Calls Tryz.prog 85 #[v, .int .i64 n] w fun e w' => e = .returned (.int .i64 (idxP (fun z => decide (n = z)) zs)) ∧ Below w.heap.size w w' := by
  obtain ⟨p, c, rfl, hc, hs⟩ := hz
  refine enter (St w (fun _ => False) σ [] []) Tryz.func85 rfl Tryz.ntmps85 rfl (St.start hi) ?_
  refine cw_seq ?_
  refine cw_region ?_
  refine ow_val rfl rfl (ex_assign rfl) ?_
  refine ow_nil ?_
  refine qw_seq ?_
  refine cw_seq ?_
  refine cw_seq ?_
  refine cw_region ?_
  refine ow_val rfl rfl (ex_move rfl) ?_
  refine ow_val rfl rfl (ex_len (ty := 0) rfl) ?_
  refine ow_val rfl rfl (ex_move rfl) ?_
  refine ow_nil ?_
  refine qw_seq ?_
  refine cw_block ?_
  refine cw_loopS (α := Nat) (fun i => [(0, .slice p zs.length c), (1, .int .i64 n), (7, .int .i64 (zs.length : Int)), (8, .int .i64 (i : Int))]) (fun i => i ≤ zs.length ∧ ∀ j (h : j < zs.length), j < i → (fun z => decide (n = z)) zs[j] = false) (fun i => zs.length - i) 0 (subL_cons (lkv rfl (by first | rfl | simp)) (subL_cons (lkv rfl (by first | rfl | simp)) (subL_cons (lkv rfl (by first | rfl | simp)) (subL_cons (lkv rfl (by first | rfl | simp)) (subL_nil _))))) ⟨Nat.zero_le _, fun j _ h => absurd h (Nat.not_lt_zero _)⟩ ?_
  intro i ⟨hle, hzz⟩
  refine cw_seq ?_
  refine cw_region ?_
  refine ow_val rfl rfl (ex_lss rfl rfl) ?_
  refine ow_nil ?_
  refine qw_seq ?_
  refine cw_seq ?_
  refine cw_cond rfl (fun c9 => ?_) (fun c9 => ?_)
  ·
    have hlt : i < zs.length := by have := of_decide_eq_true c9; omega
    obtain ⟨ba, oa, rfl, hca⟩ := hs.resolve_left (fun hn => by subst hn; simp at hlt)
    refine cw_skip ?_
    refine qw_seq ?_
    refine cw_seq ?_
    refine cw_block ?_
    refine cw_seq ?_
    refine cw_region ?_
    refine ow_val rfl rfl (ex_move rfl) ?_
    refine ow_val rfl rfl (ex_assign rfl) ?_
    refine ow_nil ?_
    refine qw_seq ?_
    refine cw_seq ?_
    refine cw_region ?_
    refine ow_val rfl rfl (ex_move rfl) ?_
    refine ow_val rfl rfl (ex_move rfl) ?_
    refine ow_val rfl rfl (ex_move rfl) ?_
    refine ow_val rfl rfl (ex_index_nat (i := i) rfl rfl hlt) ?_
    refine ow_val rfl rfl (ex_load1 rfl (ld_imm1 (hca.int hlt))) ?_
    refine ow_val rfl rfl (ex_eql rfl rfl) ?_
    refine ow_nil ?_
    refine qw_seq ?_
    refine cw_cond rfl (fun c16 => ?_) (fun c16 => ?_)
    ·
      refine cw_seq ?_
      refine cw_region ?_
      refine ow_val rfl rfl (ex_move rfl) ?_
      refine ow_val rfl rfl (ex_assign rfl) ?_
      refine ow_nil ?_
      refine qw_seq ?_
      refine cw_ret ?_
      refine qw_block_ret ?_
      refine qw_then_ret ?_
      refine qw_then_ret ?_
      refine qw_block_ret ?_
      refine qw_then_ret ?_
      refine qw_ret1 rfl rfl (fun w' h => ⟨congrArg (fun z => Ending.returned (.int .i64 z)) ?_, h.ag.below⟩)
      rw [idxP_at hlt c16 hzz]
    ·
      refine cw_skip ?_
      refine qw_block_normal ?_
      refine qw_seq ?_
      refine cw_region ?_
      refine ow_val rfl rfl (ex_addi (z := ((i + 1 : Nat) : Int)) rfl rfl (by omega) (by omega) (by omega)) ?_
      refine ow_val rfl rfl (ex_move rfl) ?_
      refine ow_nil ?_
      exact qw_roundS (i + 1) (by omega) (subL_cons (lkv rfl (by first | rfl | simp)) (subL_cons (lkv rfl (by first | rfl | simp)) (subL_cons (lkv rfl (by first | rfl | simp)) (subL_cons (lkv rfl (by first | rfl | simp)) (subL_nil _))))) ⟨by omega, fun j h hj => by
        by_cases e : j = i
        · subst e; exact c16
        · exact hzz j h (by omega)⟩
  ·
    refine cw_exit ?_
    refine qw_then_exit ?_
    refine qw_then_exit ?_
    refine qw_block_exit ?_
    refine qw_seq ?_
    refine cw_seq ?_
    refine cw_region ?_
    refine ow_val rfl rfl (ex_assign rfl) ?_
    refine ow_nil ?_
    refine qw_seq ?_
    refine cw_ret ?_
    refine qw_ret1 rfl rfl (fun w' h => ⟨congrArg (fun z => Ending.returned (.int .i64 z)) ?_, h.ag.below⟩)
    have he : i = zs.length := by have := of_decide_eq_false c9; omega
    rw [idxP_none (fun j h => hzz j h (by omega))]
set_option maxHeartbeats 400000 in
theorem pContainsI {zs : List Int} {n : Int} {v : Value} {σ : Hp} {w : World} (hi : Imm σ w) (hz : IntsV σ v zs) (hl : zs.length ≤ 9223372036854775806) : Calls Tryz.prog 52 #[v, .int .i64 n] w fun e w' => e = .returned (.bool (decide (n ∈ zs))) ∧ Below w.heap.size w w' := by
  have hz0 := hz
  obtain ⟨p, c, rfl, hc, hs⟩ := hz
  refine enter (St w (fun _ => False) σ [] []) Tryz.func52 rfl Tryz.ntmps52 rfl (St.start hi) ?_
  refine cw_seq ?_
  refine cw_region ?_
  refine ow_val rfl rfl (ex_assign rfl) ?_
  refine ow_nil ?_
  refine qw_seq ?_
  refine cw_seq ?_
  refine cw_region ?_
  refine ow_val rfl rfl (ex_move rfl) ?_
  refine ow_val rfl rfl (ex_move rfl) ?_
  refine ow_cv rfl rfl (ex_callf rfl (fun w h => callB ((pIndexI h.im hz0 hl)))) ?_
  refine ow_val rfl rfl (ex_geq rfl rfl) ?_
  refine ow_val rfl rfl (ex_assign rfl) ?_
  refine ow_nil ?_
  refine qw_seq ?_
  refine cw_ret ?_
  refine qw_ret1 rfl rfl (fun w' h => ⟨congrArg (fun z => Ending.returned (.bool z)) ?_, h.ag.below⟩)
  rw [← any_mem]; exact idxP_any _ _
set_option maxHeartbeats 400000 in
theorem pIndexFnI {zs : List Int} {v : Value} {σ : Hp} {F : FuncId} [FnT Tryz.prog F] {p : Int → Bool} {bc : Nat} (hp : ∀ z ∈ zs, ∀ {w : World}, Imm σ w → Calls Tryz.prog F #[.int .i64 z, .pointer (some ⟨bc, 0, none⟩)] w fun e w' => e = .returned (.bool (p z)) ∧ Below w.heap.size w w') {w : World} (hi : Imm σ w) (hz : IntsV σ v zs) (hl : zs.length ≤ 9223372036854775806) : Calls Tryz.prog 81 #[v, .func (.func F) #[] #[.pointer (some ⟨bc, 0, none⟩)]] w fun e w' => e = .returned (.int .i64 (idxP p zs)) ∧ Below w.heap.size w w' := by
  obtain ⟨q, c, rfl, hc, hs⟩ := hz
  refine enter (St w (fun _ => False) σ [] []) Tryz.func81 rfl Tryz.ntmps81 rfl (St.start hi) ?_
  refine cw_seq ?_
  refine cw_region ?_
  refine ow_val rfl rfl (ex_assign rfl) ?_
  refine ow_nil ?_
  refine qw_seq ?_
  refine cw_seq ?_
  refine cw_seq ?_
  refine cw_region ?_
  refine ow_val rfl rfl (ex_move rfl) ?_
  refine ow_val rfl rfl (ex_len (ty := 0) rfl) ?_
  refine ow_val rfl rfl (ex_move rfl) ?_
  refine ow_nil ?_
  refine qw_seq ?_
  refine cw_block ?_
  refine cw_loopS (α := Nat) (fun i => [(0, .slice q zs.length c), (1, .func (.func F) #[] #[.pointer (some ⟨bc, 0, none⟩)]), (7, .int .i64 (zs.length : Int)), (8, .int .i64 (i : Int))]) (fun i => i ≤ zs.length ∧ ∀ j (h : j < zs.length), j < i → (p) zs[j] = false) (fun i => zs.length - i) 0 (subL_cons (lkv rfl (by first | rfl | simp)) (subL_cons (lkv rfl (by first | rfl | simp)) (subL_cons (lkv rfl (by first | rfl | simp)) (subL_cons (lkv rfl (by first | rfl | simp)) (subL_nil _))))) ⟨Nat.zero_le _, fun j _ h => absurd h (Nat.not_lt_zero _)⟩ ?_
  intro i ⟨hle, hzz⟩
  refine cw_seq ?_
  refine cw_region ?_
  refine ow_val rfl rfl (ex_lss rfl rfl) ?_
  refine ow_nil ?_
  refine qw_seq ?_
  refine cw_seq ?_
  refine cw_cond rfl (fun c9 => ?_) (fun c9 => ?_)
  ·
    have hlt : i < zs.length := by have := of_decide_eq_true c9; omega
    obtain ⟨ba, oa, rfl, hca⟩ := hs.resolve_left (fun hn => by subst hn; simp at hlt)
    refine cw_skip ?_
    refine qw_seq ?_
    refine cw_seq ?_
    refine cw_block ?_
    refine cw_seq ?_
    refine cw_region ?_
    refine ow_val rfl rfl (ex_move rfl) ?_
    refine ow_val rfl rfl (ex_assign rfl) ?_
    refine ow_nil ?_
    refine qw_seq ?_
    refine cw_seq ?_
    refine cw_region ?_
    refine ow_val rfl rfl (ex_move rfl) ?_
    refine ow_val rfl rfl (ex_move rfl) ?_
    refine ow_val rfl rfl (ex_move rfl) ?_
    refine ow_val rfl rfl (ex_index_nat (i := i) rfl rfl hlt) ?_
    refine ow_val rfl rfl (ex_load1 rfl (ld_imm1 (hca.int hlt))) ?_
    refine ow_cv rfl rfl (ex_call (cs := [.pointer (some ⟨bc, 0, none⟩)]) rfl rfl (fun w h => callB ((hp _ (List.getElem_mem hlt) h.im)))) ?_
    refine ow_nil ?_
    refine qw_seq ?_
    refine cw_cond rfl (fun c16 => ?_) (fun c16 => ?_)
    ·
      refine cw_seq ?_
      refine cw_region ?_
      refine ow_val rfl rfl (ex_move rfl) ?_
      refine ow_val rfl rfl (ex_assign rfl) ?_
      refine ow_nil ?_
      refine qw_seq ?_
      refine cw_ret ?_
      refine qw_block_ret ?_
      refine qw_then_ret ?_
      refine qw_then_ret ?_
      refine qw_block_ret ?_
      refine qw_then_ret ?_
      refine qw_ret1 rfl rfl (fun w' h => ⟨congrArg (fun z => Ending.returned (.int .i64 z)) ?_, h.ag.below⟩)
      rw [idxP_at hlt c16 hzz]
    ·
      refine cw_skip ?_
      refine qw_block_normal ?_
      refine qw_seq ?_
      refine cw_region ?_
      refine ow_val rfl rfl (ex_addi (z := ((i + 1 : Nat) : Int)) rfl rfl (by omega) (by omega) (by omega)) ?_
      refine ow_val rfl rfl (ex_move rfl) ?_
      refine ow_nil ?_
      exact qw_roundS (i + 1) (by omega) (subL_cons (lkv rfl (by first | rfl | simp)) (subL_cons (lkv rfl (by first | rfl | simp)) (subL_cons (lkv rfl (by first | rfl | simp)) (subL_cons (lkv rfl (by first | rfl | simp)) (subL_nil _))))) ⟨by omega, fun j h hj => by
        by_cases e : j = i
        · subst e; exact c16
        · exact hzz j h (by omega)⟩
  ·
    refine cw_exit ?_
    refine qw_then_exit ?_
    refine qw_then_exit ?_
    refine qw_block_exit ?_
    refine qw_seq ?_
    refine cw_seq ?_
    refine cw_region ?_
    refine ow_val rfl rfl (ex_assign rfl) ?_
    refine ow_nil ?_
    refine qw_seq ?_
    refine cw_ret ?_
    refine qw_ret1 rfl rfl (fun w' h => ⟨congrArg (fun z => Ending.returned (.int .i64 z)) ?_, h.ag.below⟩)
    have he : i = zs.length := by have := of_decide_eq_false c9; omega
    rw [idxP_none (fun j h => hzz j h (by omega))]
set_option maxHeartbeats 400000 in
theorem pContainsFnI {zs : List Int} {v : Value} {σ : Hp} {F : FuncId} [FnT Tryz.prog F] {p : Int → Bool} {bc : Nat} (hp : ∀ z ∈ zs, ∀ {w : World}, Imm σ w → Calls Tryz.prog F #[.int .i64 z, .pointer (some ⟨bc, 0, none⟩)] w fun e w' => e = .returned (.bool (p z)) ∧ Below w.heap.size w w') {w : World} (hi : Imm σ w) (hz : IntsV σ v zs) (hl : zs.length ≤ 9223372036854775806) : Calls Tryz.prog 49 #[v, .func (.func F) #[] #[.pointer (some ⟨bc, 0, none⟩)]] w fun e w' => e = .returned (.bool (zs.any p)) ∧ Below w.heap.size w w' := by
  have hz0 := hz
  obtain ⟨q, c, rfl, hc, hs⟩ := hz
  refine enter (St w (fun _ => False) σ [] []) Tryz.func49 rfl Tryz.ntmps49 rfl (St.start hi) ?_
  refine cw_seq ?_
  refine cw_region ?_
  refine ow_val rfl rfl (ex_assign rfl) ?_
  refine ow_nil ?_
  refine qw_seq ?_
  refine cw_seq ?_
  refine cw_region ?_
  refine ow_val rfl rfl (ex_move rfl) ?_
  refine ow_val rfl rfl (ex_move rfl) ?_
  refine ow_cv rfl rfl (ex_callf rfl (fun w h => callB ((pIndexFnI hp h.im hz0 hl)))) ?_
  refine ow_val rfl rfl (ex_geq rfl rfl) ?_
  refine ow_val rfl rfl (ex_assign rfl) ?_
  refine ow_nil ?_
  refine qw_seq ?_
  refine cw_ret ?_
  refine qw_ret1 rfl rfl (fun w' h => ⟨congrArg (fun z => Ending.returned (.bool z)) ?_, h.ag.below⟩)
  exact idxP_any _ _
set_option maxHeartbeats 400000 in
theorem pCloneI {zs : List Int} {v : Value} {σ : Hp} {w : World} (hi : Imm σ w) (hz : IntsV σ v zs) (hl : zs.length ≤ 1000000) : Calls Tryz.prog 150 #[v] w (GiveO 3 1 zs.length (intsV zs) w) := by
  obtain ⟨p, c, rfl, hc, hs⟩ := hz
  refine enter (St w (fun _ => False) σ [] []) Tryz.func150 rfl Tryz.ntmps150 rfl (St.start hi) ?_
  refine cw_seq ?_
  refine cw_region ?_
  refine ow_val rfl rfl (ex_assign rfl) ?_
  refine ow_nil ?_
  refine qw_seq ?_
  refine cw_seq ?_
  refine cw_seq ?_
  refine cw_region ?_
  refine ow_val rfl rfl (ex_move rfl) ?_
  refine ow_val rfl rfl (ex_isnil rfl) ?_
  refine ow_nil ?_
  refine qw_seq ?_
  refine cw_cond rfl (fun c4 => ?_) (fun c4 => ?_)
  ·
    refine cw_seq ?_
    refine cw_region ?_
    refine ow_val rfl rfl (ex_assign rfl) ?_
    refine ow_nil ?_
    refine qw_seq ?_
    refine cw_ret ?_
    refine qw_then_ret ?_
    refine qw_ret1 rfl rfl (fun w' h => ?_)
    have : zs = [] := by
      rcases hs with h0 | ⟨b, o, hp, _⟩
      · exact h0
      · rw [hp] at c4; cases c4
    subst this
    exact h.givesO (OwnSl.nil _ _)
  ·
    refine cw_skip ?_
    refine qw_seq ?_
    refine cw_seq ?_
    refine cw_region ?_
    refine ow_slit rfl rfl exw_slit0 ?_; intro b5
    refine ow_mono (fun w h => h.toG) ?_
    refine ow_val rfl rfl (ex_move rfl) ?_
    refine ow_app1 rfl rfl (exw_append1 (news := intsV zs) rfl rfl (OwnSl.lit0 3 1 b5) (by rw [intsV_len]; omega) (hs.imp (fun h => by rw [h]; rfl) fun ⟨b, f, hp, hca⟩ => ⟨b, f, hp, fun w h => hca.range h.im⟩) intsV_one (by unfold maxLen; omega) (by omega)) (fun v7 G7 hO7 hz7 => ?_)
    refine ow_val rfl rfl (ex_assign rfl) ?_
    refine ow_nil ?_
    refine qw_seq ?_
    refine cw_ret ?_
    refine qw_ret1 rfl rfl (fun w' h => ?_)
    rw [Nat.zero_add, List.nil_append] at hO7
    exact h.givesO hO7
set_option maxHeartbeats 400000 in
theorem pAll1 {z : Int} {b be hb : Nat} {its : List Item} {had : List Bool} {σ : Hp} {w : World} (hi : Imm σ w) (hb1 : CellsAt σ b 0 [.pointer (some ⟨be, 0, none⟩)]) (hE : EngC σ be hb its had) (h0 : 0 ≤ z) (h1 : z < (had.length : Int)) : Calls Tryz.prog 108 #[.int .i64 z, .pointer (some ⟨b, 0, none⟩)] w fun e w' => e = .returned (.bool (!hadAt had z)) ∧ Below w.heap.size w w' := by
  obtain ⟨k, rfl⟩ : ∃ k : Nat, z = (k : Int) := ⟨z.toNat, by omega⟩
  obtain ⟨iv, ch, hc1, hc2, hc3⟩ := hE
  refine enter (St w (fun _ => False) σ [] []) Tryz.func108 rfl Tryz.ntmps108 rfl (St.start hi) ?_
  refine cw_seq ?_
  refine cw_region ?_
  refine ow_val rfl rfl (ex_assign rfl) ?_
  refine ow_nil ?_
  refine qw_seq ?_
  refine cw_seq ?_
  refine cw_region ?_
  refine ow_val rfl rfl (ex_load1 rfl (ld_imm1 hb1)) ?_
  refine ow_val rfl rfl (ex_nilck rfl) ?_
  refine ow_val rfl rfl (ex_field rfl) ?_
  refine ow_val rfl rfl (ex_load1 rfl (ld_imm1 (hc1.fld (i := 1) rfl))) ?_
  refine ow_val rfl rfl (ex_move rfl) ?_
  refine ow_val rfl rfl (ex_index_nat (i := k) rfl rfl (by omega)) ?_
  refine ow_val rfl rfl (ex_load1 rfl (ld_imm1 (hc3.bool (by omega)))) ?_
  refine ow_val rfl rfl (ex_not rfl) ?_
  refine ow_val rfl rfl (ex_assign rfl) ?_
  refine ow_nil ?_
  refine qw_seq ?_
  refine cw_ret ?_
  refine qw_ret1 rfl rfl (fun w' h => ⟨congrArg (fun z => Ending.returned (.bool z)) ?_, h.ag.below⟩)
  rw [hadAt_nat]
set_option maxHeartbeats 400000 in
theorem pAllE {zs : List Int} {v : Value} {be hb : Nat} {its : List Item} {had : List Bool} {σ : Hp} {w : World} (hi : Imm σ w) (hE : EngC σ be hb its had) (hz : IntsV σ v zs) (hl : zs.length ≤ 9223372036854775806) (hv : ∀ z ∈ zs, 0 ≤ z ∧ z < (had.length : Int)) : Calls Tryz.prog 88 #[.pointer (some ⟨be, 0, none⟩), v] w fun e w' => e = .returned (.bool (allB had zs)) ∧ Below w.heap.size w w' := by
  have hz0 := hz
  obtain ⟨p, c, rfl, hc, hs⟩ := hz
  refine enter (St w (fun _ => False) σ [] []) Tryz.func88 rfl Tryz.ntmps88 rfl (St.start hi) ?_
  refine cw_seq ?_
  refine cw_region ?_
  refine ow_blk rfl rfl (exw_box rfl) ?_; intro b2
  refine ow_frzO (fun _ h => h) (fun σ4 hl4 hf4 hb4 => ?_)
  have hcp : CellsAt σ4 b2 0 [.pointer (some ⟨be, 0, none⟩)] := ⟨#[.pointer (some ⟨be, 0, none⟩)], _, _, hb4, fun j v hj => by simpa using hj⟩
  refine ow_val rfl rfl (ex_assign rfl) ?_
  refine ow_nil ?_
  refine qw_seq ?_
  refine cw_seq ?_
  refine cw_region ?_
  refine ow_val rfl rfl (ex_move rfl) ?_
  refine ow_val rfl rfl (ex_makeFunc rfl rfl) ?_
  refine ow_cv rfl rfl (ex_callf rfl (fun w h => callB ((pContainsFnI (p := fun z => !hadAt had z) (fun z hz' {_} hi' => pAll1 hi' hcp (hE.le hl4) (hv z hz').1 (hv z hz').2) h.im (hz0.le hl4) hl)))) ?_
  refine ow_val rfl rfl (ex_not rfl) ?_
  refine ow_val rfl rfl (ex_assign rfl) ?_
  refine ow_nil ?_
  refine qw_seq ?_
  refine cw_ret ?_
  refine qw_ret1 rfl rfl (fun w' h => ⟨congrArg (fun z => Ending.returned (.bool z)) ?_, h.ag.below⟩)
  exact allB_any had zs
theorem pIndexOwn {w0 w : World} {M : Nat → Prop} {σ : Hp} {H Gs : List (Nat × Obj)} {e n : Nat} {v : Value} {zs : List Int} {z : Int} (hO : OwnSl e 1 v n (intsV zs) Gs) (hl : zs.length ≤ 9223372036854775806) (hs : St w0 M σ H Gs w) : Calls Tryz.prog 85 #[v, .int .i64 z] w fun e w' => e = .returned (.int .i64 (idxP (fun x => decide (z = x)) zs)) ∧ Below w.heap.size w w' :=
  let ⟨_, _, h1, h2⟩ := hO.view hs
  pIndexI h1 h2 hl
set_option maxHeartbeats 400000 in
theorem pLess {zs ns : List Int} {v u : Value} {σ : Hp} {w : World} (hi : Imm σ w) (hz : IntsV σ v zs) (hn : IntsV σ u ns) (hl : zs.length ≤ 1000) (hl2 : ns.length ≤ 1000) : Calls Tryz.prog 137 #[v, u] w (GiveR (RepL (lessV zs ns)) σ w) := by
  have hz0 := hz
  obtain ⟨p, c, rfl, hc, hs⟩ := hz
  obtain ⟨q, c2, rfl, hc2, hs2⟩ := hn
  refine enter (St w (fun _ => False) σ [] []) Tryz.func137 rfl Tryz.ntmps137 rfl (St.start hi) ?_
  refine cw_seq ?_
  refine cw_region ?_
  refine ow_val rfl rfl (ex_assign rfl) ?_
  refine ow_val rfl rfl (ex_assign rfl) ?_
  refine ow_nil ?_
  refine qw_seq ?_
  refine cw_seq ?_
  refine cw_region ?_
  refine ow_val rfl rfl (ex_move rfl) ?_
  refine ow_co rfl rfl (ex_callf rfl (fun w h => callO (pCloneI h.im hz0 (by omega)))) (fun v11 G11 hO11 => ?_)
  refine ow_val rfl rfl (ex_assign rfl) ?_
  refine ow_nil ?_
  refine qw_seq ?_
  refine cw_seq ?_
  refine cw_seq ?_
  refine cw_region ?_
  refine ow_val rfl rfl (ex_move rfl) ?_
  refine ow_val rfl rfl (ex_len (ty := 0) rfl) ?_
  refine ow_val rfl rfl (ex_move rfl) ?_
  refine ow_nil ?_
  refine qw_seq ?_
  refine cw_block ?_
  refine cw_loop4 (fun (i : Nat) (rs : List Int) (v6 : Value) (Gs : List (Nat × Obj)) => [(6, v6), (12, .slice q ns.length c2), (13, .int .i64 (ns.length : Int)), (14, .int .i64 (i : Int))]) (fun i rs v6 Gs => i ≤ ns.length ∧ OwnSl 3 1 v6 rs.length (intsV rs) Gs ∧ rs.length ≤ zs.length ∧ lessV rs (ns.drop i) = lessV zs ns) (fun _ _ _ _ => σ) (fun _ _ _ Gs => Gs) (fun i _ _ _ => ns.length - i) 0 zs v11 G11 (subL_cons (lkv rfl (by first | rfl | simp)) (subL_cons (lkv rfl (by first | rfl | simp)) (subL_cons (lkv rfl (by first | rfl | simp)) (subL_cons (lkv rfl (by first | rfl | simp)) (subL_nil _))))) ⟨Nat.zero_le _, hO11, Nat.le_refl _, rfl⟩ (fun w h => h) ?_
  intro i rs v6 Gs ⟨hlei, hO, hrl, hles⟩
  refine cw_seq ?_
  refine cw_region ?_
  refine ow_val rfl rfl (ex_lss rfl rfl) ?_
  refine ow_nil ?_
  refine qw_seq ?_
  refine cw_seq ?_
  refine cw_cond rfl (fun c15 => ?_) (fun c15 => ?_)
  ·
    have hlt : i < ns.length := by have := of_decide_eq_true c15; omega
    obtain ⟨ba, oa, rfl, hca⟩ := hs2.resolve_left (fun hn => by subst hn; simp at hlt)
    have hdr : ns.drop i = ns[i] :: ns.drop (i + 1) := List.drop_eq_getElem_cons hlt
    refine cw_skip ?_
    refine qw_seq ?_
    refine cw_seq ?_
    refine cw_block ?_
    refine cw_seq ?_
    refine cw_region ?_
    refine ow_val rfl rfl (ex_index_nat (i := i) rfl rfl hlt) ?_
    refine ow_val rfl rfl (ex_load1 rfl (ld_imm1 (hca.int hlt))) ?_
    refine ow_val rfl rfl (ex_assign rfl) ?_
    refine ow_nil ?_
    refine qw_seq ?_
    refine cw_seq ?_
    refine cw_region ?_
    refine ow_val rfl rfl (ex_move rfl) ?_
    refine ow_val rfl rfl (ex_move rfl) ?_
    refine ow_cv rfl rfl (ex_callf rfl (fun w h => callB (pIndexOwn hO (by omega) h))) ?_
    refine ow_val rfl rfl (ex_assign rfl) ?_
    refine ow_nil ?_
    refine qw_seq ?_
    refine cw_seq ?_
    refine cw_seq ?_
    refine cw_region ?_
    refine ow_val rfl rfl (ex_move rfl) ?_
    refine ow_val rfl rfl (ex_lss rfl rfl) ?_
    refine ow_nil ?_
    refine qw_seq ?_
    refine cw_cond rfl (fun c22 => ?_) (fun c22 => ?_)
    ·
      have hno : lessV zs ns = none := by
        rw [← hles, hdr, lessV, if_neg]
        intro hm
        obtain ⟨j, e1, _⟩ := idxP_del hm
        have := of_decide_eq_true c22; omega
      refine cw_seq ?_
      refine cw_region ?_
      refine ow_val rfl rfl (ex_assign rfl) ?_
      refine ow_val rfl rfl (ex_assign rfl) ?_
      refine ow_nil ?_
      refine qw_seq ?_
      refine cw_ret ?_
      refine qw_then_ret ?_
      refine qw_block_ret ?_
      refine qw_then_ret ?_
      refine qw_then_ret ?_
      refine qw_block_ret ?_
      refine qw_then_ret ?_
      refine qw_ret2 rfl rfl rfl (fun w' h => ?_)
      rw [hno]
      exact St.gives (h.dropG (List.nil_sublist _)) (Le.refl _) (Fresh.refl _ _) ⟨_, rfl, IntsV.nil _⟩
    ·
      have hm : ns[i] ∈ rs := by
        have h9 := idxP_ge (p := fun z => decide (ns[i] = z)) (zs := rs) (by have := of_decide_eq_false c22; omega)
        rw [any_mem] at h9; exact of_decide_eq_true h9
      obtain ⟨j, e1, hj, hjd⟩ := idxP_del hm
      rw [e1]
      have hel : (rs.erase ns[i]).length = rs.length - 1 := List.length_erase_of_mem hm
      refine cw_skip ?_
      refine qw_seq ?_
      refine cw_region ?_
      refine ow_val rfl rfl (ex_move rfl) ?_
      refine ow_val rfl rfl (ex_move rfl) ?_
      refine ow_val rfl rfl (ex_move rfl) ?_
      refine ow_val rfl rfl (ex_addi (z := ((j + 1 : Nat) : Int)) rfl rfl (by omega) (by omega) (by omega)) ?_
      refine ow_cg1 rfl rfl (ex_callf rfl (fun w h => pDelI1 hj hO h)) (fun v27 G27 hO27 => ?_)
      rw [hjd] at hO27
      refine ow_val rfl rfl (ex_assign rfl) ?_
      refine ow_nil ?_
      refine qw_block_normal ?_
      refine qw_seq ?_
      refine cw_region ?_
      refine ow_val rfl rfl (ex_addi (z := ((i + 1 : Nat) : Int)) rfl rfl (by omega) (by omega) (by omega)) ?_
      refine ow_val rfl rfl (ex_move rfl) ?_
      refine ow_nil ?_
      exact qw_round4 (i + 1) (rs.erase ns[i]) v27 G27 (by omega) (subL_cons (lkv rfl (by first | rfl | simp)) (subL_cons (lkv rfl (by first | rfl | simp)) (subL_cons (lkv rfl (by first | rfl | simp)) (subL_cons (lkv rfl (by first | rfl | simp)) (subL_nil _))))) ⟨by omega, by rw [hel]; exact hO27, by omega, by rw [← hles, hdr, lessV, if_pos hm]⟩ (fun w h => h)
  ·
    have he : i = ns.length := by have := of_decide_eq_false c15; omega
    rw [he, List.drop_length] at hles
    refine cw_exit ?_
    refine qw_then_exit ?_
    refine qw_then_exit ?_
    refine qw_block_exit ?_
    refine qw_seq ?_
    refine cw_seq ?_
    refine cw_region ?_
    refine ow_val rfl rfl (ex_move rfl) ?_
    refine ow_val rfl rfl (ex_assign rfl) ?_
    refine ow_val rfl rfl (ex_assign rfl) ?_
    refine ow_nil ?_
    refine qw_seq ?_
    refine cw_ret ?_
    refine qw_ret2 rfl rfl rfl (fun w' h => ?_)
    obtain ⟨σ', h1, h2, h3, h4⟩ := freezeI (Gr := []) (by simpa using h) (fun _ h => h) hO
    rw [← hles]
    exact h3.gives h1 h2 ⟨_, rfl, h4⟩
end Go.Proofs.YtnjomdjkbbhdoaaGreatDoor
namespace Go.Proofs.YtnjomdjkbbhdoaaGreatDoor
open Go.RowKit
set_option linter.unusedVariables false
set_option linter.unusedSimpArgs false
set_option maxRecDepth 100000
set_option maxHeartbeats 400000 in
theorem pPowerE {x : Item} {cx : List Value} {be hb : Nat} {its : List Item} {had : List Bool} {σ : Hp} {w : World} (hi : Imm σ w) (hE : EngC σ be hb its had) (hok : ItsOK its) (hlen : had.length = its.length) (hx : ItemC σ cx x) (hxl : x.kids.length ≤ 4) (hxv : ∀ z ∈ x.kids, 0 ≤ z ∧ z < (its.length : Int)) : Calls Tryz.prog 107 #[.pointer (some ⟨be, 0, none⟩), .agg cx.toArray] w fun e w' => e = .returned (.bool (powerB its had x)) ∧ Below w.heap.size w w' := by
  have hE0 := hE
  have hx0 := hx
  obtain ⟨iv, ch, hc1, hc2, hc3⟩ := hE
  obtain ⟨kx, mx, rfl, hxk, hxm⟩ := hx
  obtain ⟨p, ci, rfl, hci, hsi⟩ := hc2
  have hl9 := hok.len
  refine enter (St w (fun _ => False) σ [] []) Tryz.func107 rfl Tryz.ntmps107 rfl (St.start hi) ?_
  refine cw_seq ?_
  refine cw_region ?_
  refine ow_blk rfl rfl (exw_box rfl) ?_; intro b3
  refine ow_val rfl rfl (ex_assign rfl) ?_
  refine ow_nil ?_
  refine qw_seq ?_
  refine cw_seq ?_
  refine cw_seq ?_
  refine cw_region ?_
  refine ow_val rfl rfl (ex_move rfl) ?_
  refine ow_val rfl rfl (ex_nilck rfl) ?_
  refine ow_val rfl rfl (ex_field rfl) ?_
  refine ow_val rfl rfl (ex_load1 rfl (ld_imm1 (hc1.fld (i := 0) rfl))) ?_
  refine ow_val rfl rfl (ex_len (ty := 0) rfl) ?_
  refine ow_val rfl rfl (ex_move rfl) ?_
  refine ow_nil ?_
  refine qw_seq ?_
  refine cw_block ?_
  refine cw_loop2 (fun (i : Nat) (τ : Hp) => [(0, .pointer (some ⟨be, 0, none⟩)), (3, .pointer (some ⟨b3, 0, none⟩)), (12, .slice p its.length ci), (13, .int .i64 (its.length : Int)), (14, .int .i64 (i : Int))]) (fun i τ => i ≤ its.length ∧ Le σ τ ∧ Fresh σ τ w ∧ powB had x i (its.drop i) = powB had x 0 its) (fun _ τ => τ) (fun _ _ => []) (fun i _ => its.length - i) 0 σ (subL_cons (lkv rfl (by first | rfl | simp)) (subL_cons (lkv rfl (by first | rfl | simp)) (subL_cons (lkv rfl (by first | rfl | simp)) (subL_cons (lkv rfl (by first | rfl | simp)) (subL_cons (lkv rfl (by first | rfl | simp)) (subL_nil _)))))) ⟨Nat.zero_le _, Le.refl _, Fresh.refl _ _, rfl⟩ (fun w h => h) ?_
  intro i τ ⟨hlei, hlj, hfj, hpb⟩
  refine cw_seq ?_
  refine cw_region ?_
  refine ow_val rfl rfl (ex_lss rfl rfl) ?_
  refine ow_nil ?_
  refine qw_seq ?_
  refine cw_seq ?_
  refine cw_cond rfl (fun c15 => ?_) (fun c15 => ?_)
  ·
    have hlt : i < its.length := by have := of_decide_eq_true c15; omega
    obtain ⟨bi, oi, rfl, hits⟩ := hsi.resolve_left (fun hn => by subst hn; simp at hlt)
    obtain ⟨cy, hcy, hIy⟩ := hits i hlt
    have hIy0 := hIy
    obtain ⟨ky, my, rfl, hyk, hym⟩ := hIy
    have hyl := hok.kl _ (List.getElem_mem hlt)
    have hpd := powB_drop (had := had) (x := x) hlt
    refine cw_skip ?_
    refine qw_seq ?_
    refine cw_seq ?_
    refine cw_block ?_
    refine cw_seq ?_
    refine cw_region ?_
    refine ow_val rfl rfl (ex_move rfl) ?_
    refine ow_val rfl rfl (ex_index_nat (i := i) rfl rfl hlt) ?_
    refine ow_val rfl rfl (ex_loadR rfl (ld_immN (hcy.le hlj) rfl)) ?_
    refine ow_blk rfl rfl exw_alloc ?_; intro b6
    refine ow_val rfl rfl (ex_assign rfl) ?_
    refine ow_u rfl (exu_storeN 0 rfl rfl rfl rfl hIy0.one rfl) ?_
    refine ow_nil ?_
    refine qw_seq ?_
    refine cw_seq ?_
    refine cw_region ?_
    refine ow_val rfl rfl (ex_field rfl) ?_
    refine ow_val rfl rfl (ex_load1 rfl (by first | exact ld_own1 0 rfl rfl | exact ld_own1 1 rfl rfl | exact ld_own1 2 rfl rfl | exact ld_own1 3 rfl rfl | exact ld_own1 4 rfl rfl | exact ld_own1 5 rfl rfl | exact ld_own1 6 rfl rfl | exact ld_own1 7 rfl rfl | exact ld_ownG1 0 rfl rfl | exact ld_ownG1 1 rfl rfl | exact ld_imm1 (by assumption))) ?_
    refine ow_val rfl rfl (ex_eql rfl rfl) ?_
    refine ow_val rfl rfl (ex_move rfl) ?_
    refine ow_split (g := some (3, true)) rfl (fun s22 => ?_) (fun s22 => ?_)
    ·
      have q7 : decide (its[i].op = 7) = true := s22
      refine ow_val rfl (gd_go rfl s22) (ex_move rfl) ?_
      refine ow_val rfl (gd_go rfl s22) (ex_nilck rfl) ?_
      refine ow_val rfl (gd_go rfl s22) (ex_field rfl) ?_
      refine ow_val rfl (gd_go rfl s22) (ex_load1 rfl (ld_imm1 ((hc1.le hlj).fld (i := 1) rfl))) ?_
      refine ow_val rfl (gd_go rfl s22) (ex_move rfl) ?_
      refine ow_val rfl (gd_go rfl s22) (ex_index_nat (i := i) rfl rfl (by omega)) ?_
      refine ow_val rfl (gd_go rfl s22) (ex_load1 rfl (ld_imm1 ((hc3.le hlj).bool (i := i) (by omega)))) ?_
      refine ow_val rfl rfl (ex_pickt rfl s22 rfl) ?_
      refine ow_nil ?_
      refine qw_seq ?_
      refine cw_cond rfl (fun c30 => ?_) (fun c30 => ?_)
      ·
        have q8 : had.getD i false = true := c30
        refine cw_seq ?_
        refine cw_region ?_
        refine ow_val rfl rfl (ex_field rfl) ?_
        refine ow_val rfl rfl (ex_load1 rfl (by first | exact ld_own1 0 rfl rfl | exact ld_own1 1 rfl rfl | exact ld_own1 2 rfl rfl | exact ld_own1 3 rfl rfl | exact ld_own1 4 rfl rfl | exact ld_own1 5 rfl rfl | exact ld_own1 6 rfl rfl | exact ld_own1 7 rfl rfl | exact ld_ownG1 0 rfl rfl | exact ld_ownG1 1 rfl rfl | exact ld_imm1 (by assumption))) ?_
        refine ow_val rfl rfl (ex_field rfl) ?_
        refine ow_val rfl rfl (ex_load1 rfl (by first | exact ld_own1 0 rfl rfl | exact ld_own1 1 rfl rfl | exact ld_own1 2 rfl rfl | exact ld_own1 3 rfl rfl | exact ld_own1 4 rfl rfl | exact ld_own1 5 rfl rfl | exact ld_own1 6 rfl rfl | exact ld_own1 7 rfl rfl | exact ld_ownG1 0 rfl rfl | exact ld_ownG1 1 rfl rfl | exact ld_imm1 (by assumption))) ?_
        refine ow_cr rfl rfl (ex_callf rfl (fun w h => callR (pLess h.im (hxk.le hlj) (hyk.le hlj) (by omega) (by omega)))) (fun v36 τ2 hl2 hf2 hr2 => ?_)
        obtain ⟨u36, rfl, hu36⟩ := hr2
        refine ow_val rfl rfl (ex_move rfl) ?_
        refine ow_val rfl rfl (ex_extract rfl rfl) ?_
        refine ow_val rfl rfl (ex_extract rfl rfl) ?_
        refine ow_val rfl rfl (ex_assign rfl) ?_
        refine ow_val rfl rfl (ex_assign rfl) ?_
        refine ow_nil ?_
        refine qw_seq ?_
        refine cw_seq ?_
        refine cw_region ?_
        refine ow_val rfl rfl (ex_move rfl) ?_
        refine ow_val rfl rfl (ex_move rfl) ?_
        refine ow_split (g := some (1, true)) rfl (fun s40 => ?_) (fun s40 => ?_)
        ·
          obtain ⟨rs, hrs⟩ := Option.isSome_iff_exists.1 (show (lessV x.kids its[i].kids).isSome = true from s40)
          have hsub := lessV_sub hrs
          have hrs9 : IntsV τ2 u36 rs := by rw [hrs] at hu36; exact hu36
          have q5 := lessB_some (had := had) hrs
          refine ow_val rfl (gd_go rfl s40) (ex_move rfl) ?_
          refine ow_val rfl (gd_go rfl s40) (ex_move rfl) ?_
          refine ow_cv rfl (gd_go rfl s40) (ex_callf rfl (fun w h => callB ((pAllE h.im (hE0.le (hlj.trans hl2)) hrs9 (by omega) (fun z hz => by rw [hlen]; exact hxv z (hsub.1 z hz)))))) ?_
          refine ow_val rfl rfl (ex_pickt rfl s40 rfl) ?_
          refine ow_nil ?_
          refine qw_seq ?_
          refine cw_cond rfl (fun c44 => ?_) (fun c44 => ?_)
          ·
            have q4 : powerB its had x = true := by unfold powerB; rw [← hpb, hpd, q7, q8, q5, show allB had rs = true from c44]; rfl
            refine cw_seq ?_
            refine cw_region ?_
            refine ow_val rfl rfl (ex_assign rfl) ?_
            refine ow_nil ?_
            refine qw_seq ?_
            refine cw_ret ?_
            refine qw_block_ret ?_
            refine qw_then_ret ?_
            refine qw_then_ret ?_
            refine qw_block_ret ?_
            refine qw_then_ret ?_
            refine qw_ret1 rfl rfl (fun w' h => ⟨congrArg (fun z => Ending.returned (.bool z)) ?_, h.ag.below⟩)
            rw [q4]
          ·
            have q6 : (lessB had x.kids its[i].kids) = false := by rw [q5]; exact c44
            refine cw_skip ?_
            refine qw_block_normal ?_
            refine qw_seq ?_
            refine cw_region ?_
            refine ow_val rfl rfl (ex_addi (z := ((i + 1 : Nat) : Int)) rfl rfl (by omega) (by omega) (by omega)) ?_
            refine ow_val rfl rfl (ex_move rfl) ?_
            refine ow_nil ?_
            exact qw_round2 (i + 1) τ2 (by omega) (subL_cons (lkv rfl (by first | rfl | simp)) (subL_cons (lkv rfl (by first | rfl | simp)) (subL_cons (lkv rfl (by first | rfl | simp)) (subL_cons (lkv rfl (by first | rfl | simp)) (subL_cons (lkv rfl (by first | rfl | simp)) (subL_nil _)))))) ⟨by omega, hlj.trans hl2, hfj.trans hf2, by rw [← hpb, hpd, q6]; simp⟩ (fun w h => h.drop (List.sublist_cons_self _ _))
        ·
          have q6 : (lessB had x.kids its[i].kids) = false := lessB_none s40
          refine ow_skip rfl (gd_no rfl s40) ?_
          refine ow_skip rfl (gd_no rfl s40) ?_
          refine ow_skip rfl (gd_no rfl s40) ?_
          refine ow_val rfl rfl (ex_pickf rfl s40 rfl) ?_
          refine ow_nil ?_
          refine qw_seq ?_
          refine cw_cond_f rfl ?_
          refine cw_skip ?_
          refine qw_block_normal ?_
          refine qw_seq ?_
          refine cw_region ?_
          refine ow_val rfl rfl (ex_addi (z := ((i + 1 : Nat) : Int)) rfl rfl (by omega) (by omega) (by omega)) ?_
          refine ow_val rfl rfl (ex_move rfl) ?_
          refine ow_nil ?_
          exact qw_round2 (i + 1) τ2 (by omega) (subL_cons (lkv rfl (by first | rfl | simp)) (subL_cons (lkv rfl (by first | rfl | simp)) (subL_cons (lkv rfl (by first | rfl | simp)) (subL_cons (lkv rfl (by first | rfl | simp)) (subL_cons (lkv rfl (by first | rfl | simp)) (subL_nil _)))))) ⟨by omega, hlj.trans hl2, hfj.trans hf2, by rw [← hpb, hpd, q6]; simp⟩ (fun w h => h.drop (List.sublist_cons_self _ _))
      ·
        have q8 : had.getD i false = false := c30
        refine cw_skip ?_
        refine qw_block_normal ?_
        refine qw_seq ?_
        refine cw_region ?_
        refine ow_val rfl rfl (ex_addi (z := ((i + 1 : Nat) : Int)) rfl rfl (by omega) (by omega) (by omega)) ?_
        refine ow_val rfl rfl (ex_move rfl) ?_
        refine ow_nil ?_
        exact qw_round2 (i + 1) τ (by omega) (subL_cons (lkv rfl (by first | rfl | simp)) (subL_cons (lkv rfl (by first | rfl | simp)) (subL_cons (lkv rfl (by first | rfl | simp)) (subL_cons (lkv rfl (by first | rfl | simp)) (subL_cons (lkv rfl (by first | rfl | simp)) (subL_nil _)))))) ⟨by omega, hlj, hfj, by rw [← hpb, hpd, q8]; simp⟩ (fun w h => h.drop (List.sublist_cons_self _ _))
    ·
      have q9 : decide (its[i].op = 7) = false := s22
      refine ow_skip rfl (gd_no rfl s22) ?_
      refine ow_skip rfl (gd_no rfl s22) ?_
      refine ow_skip rfl (gd_no rfl s22) ?_
      refine ow_skip rfl (gd_no rfl s22) ?_
      refine ow_skip rfl (gd_no rfl s22) ?_
      refine ow_skip rfl (gd_no rfl s22) ?_
      refine ow_skip rfl (gd_no rfl s22) ?_
      refine ow_val rfl rfl (ex_pickf rfl s22 rfl) ?_
      refine ow_nil ?_
      refine qw_seq ?_
      refine cw_cond_f rfl ?_
      refine cw_skip ?_
      refine qw_block_normal ?_
      refine qw_seq ?_
      refine cw_region ?_
      refine ow_val rfl rfl (ex_addi (z := ((i + 1 : Nat) : Int)) rfl rfl (by omega) (by omega) (by omega)) ?_
      refine ow_val rfl rfl (ex_move rfl) ?_
      refine ow_nil ?_
      exact qw_round2 (i + 1) τ (by omega) (subL_cons (lkv rfl (by first | rfl | simp)) (subL_cons (lkv rfl (by first | rfl | simp)) (subL_cons (lkv rfl (by first | rfl | simp)) (subL_cons (lkv rfl (by first | rfl | simp)) (subL_cons (lkv rfl (by first | rfl | simp)) (subL_nil _)))))) ⟨by omega, hlj, hfj, by rw [← hpb, hpd, q9]; simp⟩ (fun w h => h.drop (List.sublist_cons_self _ _))
  ·
    have he : i = its.length := by have := of_decide_eq_false c15; omega
    rw [he, List.drop_length] at hpb
    refine cw_exit ?_
    refine qw_then_exit ?_
    refine qw_then_exit ?_
    refine qw_block_exit ?_
    refine qw_seq ?_
    refine cw_seq ?_
    refine cw_region ?_
    refine ow_val rfl rfl (ex_move rfl) ?_
    refine ow_val rfl rfl (ex_field rfl) ?_
    refine ow_val rfl rfl (ex_load1 rfl (by first | exact ld_own1 0 rfl rfl | exact ld_own1 1 rfl rfl | exact ld_own1 2 rfl rfl | exact ld_own1 3 rfl rfl | exact ld_own1 4 rfl rfl | exact ld_own1 5 rfl rfl | exact ld_own1 6 rfl rfl | exact ld_own1 7 rfl rfl | exact ld_ownG1 0 rfl rfl | exact ld_ownG1 1 rfl rfl | exact ld_imm1 (by assumption))) ?_
    refine ow_cv rfl rfl (ex_callf rfl (fun w h => callB ((pAllE h.im (hE0.le hlj) (hxk.le hlj) (by omega) (fun z hz => by rw [hlen]; exact hxv z hz))))) ?_
    refine ow_val rfl rfl (ex_assign rfl) ?_
    refine ow_nil ?_
    refine qw_seq ?_
    refine cw_ret ?_
    refine qw_ret1 rfl rfl (fun w' h => ⟨congrArg (fun z => Ending.returned (.bool z)) ?_, h.ag.below⟩)
    unfold powerB
    rw [← hpb]; rfl
set_option maxHeartbeats 400000 in
theorem pMadeE {x : Item} {cx : List Value} {be hb : Nat} {its : List Item} {had : List Bool} {σ : Hp} {w : World} (hi : Imm σ w) (hE : EngC σ be hb its had) (hok : ItsOK its) (hlen : had.length = its.length) (hx : ItemC σ cx x) (hxl : x.kids.length ≤ 4) (hxv : ∀ z ∈ x.kids, 0 ≤ z ∧ z < (its.length : Int)) (hml : x.ments.length ≤ 8192) (hmv : ∀ z ∈ x.ments, 0 ≤ z ∧ z < (its.length : Int)) : Calls Tryz.prog 87 #[.pointer (some ⟨be, 0, none⟩), .agg cx.toArray] w fun e w' => e = .returned (.bool (madeB its had x)) ∧ Below w.heap.size w w' := by
  have hE0 := hE
  have hx0 := hx
  obtain ⟨kx, mx, rfl, hxk, hxm⟩ := hx
  refine enter (St w (fun _ => False) σ [] []) Tryz.func87 rfl Tryz.ntmps87 rfl (St.start hi) ?_
  refine cw_seq ?_
  refine cw_region ?_
  refine ow_blk rfl rfl (exw_box rfl) ?_; intro b3
  refine ow_val rfl rfl (ex_assign rfl) ?_
  refine ow_nil ?_
  refine qw_seq ?_
  refine cw_seq ?_
  refine cw_seq ?_
  refine cw_region ?_
  refine ow_val rfl rfl (ex_field rfl) ?_
  refine ow_val rfl rfl (ex_load1 rfl (by first | exact ld_own1 0 rfl rfl | exact ld_own1 1 rfl rfl | exact ld_own1 2 rfl rfl | exact ld_own1 3 rfl rfl | exact ld_own1 4 rfl rfl | exact ld_own1 5 rfl rfl | exact ld_own1 6 rfl rfl | exact ld_own1 7 rfl rfl | exact ld_ownG1 0 rfl rfl | exact ld_ownG1 1 rfl rfl | exact ld_imm1 (by assumption))) ?_
  refine ow_nil ?_
  refine qw_seq ?_
  refine cw_block ?_
  refine cw_seq ?_
  refine cw_region ?_
  refine ow_val rfl rfl (ex_eql rfl rfl) ?_
  refine ow_val rfl rfl (ex_assign rfl) ?_
  refine ow_nil ?_
  refine qw_seq ?_
  refine cw_cond rfl (fun c7 => ?_) (fun c7 => ?_)
  ·
    have q1 : x.op = 1 := of_decide_eq_true c7
    refine cw_seq ?_
    refine cw_region ?_
    refine ow_val rfl rfl (ex_assign rfl) ?_
    refine ow_nil ?_
    refine qw_seq ?_
    refine cw_ret ?_
    refine qw_block_ret ?_
    refine qw_then_ret ?_
    refine qw_ret1 rfl rfl (fun w' h => ⟨congrArg (fun z => Ending.returned (.bool z)) ?_, h.ag.below⟩)
    unfold madeB
    first
    | (rw [if_pos q1]; done)
    | (rw [if_neg q1, if_pos q2]; done)
    | (rw [if_neg q1, if_neg q2, show allB had x.kids = true from s18]; rfl)
    | (rw [if_neg q1, if_neg q2, show allB had x.kids = false from s18]; rfl)
  ·
    have q1 : ¬ x.op = 1 := of_decide_eq_false c7
    refine cw_seq ?_
    refine cw_region ?_
    refine ow_val rfl rfl (ex_eql rfl rfl) ?_
    refine ow_val rfl rfl (ex_assign rfl) ?_
    refine ow_nil ?_
    refine qw_seq ?_
    refine cw_cond rfl (fun c9 => ?_) (fun c9 => ?_)
    ·
      have q2 : x.op = 7 := of_decide_eq_true c9
      refine cw_seq ?_
      refine cw_region ?_
      refine ow_val rfl rfl (ex_move rfl) ?_
      refine ow_val rfl rfl (ex_loadR rfl (by first | exact ld_ownN 0 rfl rfl | exact ld_ownN 1 rfl rfl | exact ld_ownN 2 rfl rfl | exact ld_ownN 3 rfl rfl | exact ld_ownN 4 rfl rfl | exact ld_ownN 5 rfl rfl | exact ld_ownN 6 rfl rfl | exact ld_ownN 7 rfl rfl | exact ld_ownGN 0 rfl rfl | exact ld_ownGN 1 rfl rfl | exact ld_immT (by assumption) (by assumption))) ?_
      refine ow_cv rfl rfl (ex_callf rfl (fun w h => callB ((pPowerE h.im hE0 hok hlen hx0 hxl hxv)))) ?_
      refine ow_val rfl rfl (ex_assign rfl) ?_
      refine ow_nil ?_
      refine qw_seq ?_
      refine cw_ret ?_
      refine qw_block_ret ?_
      refine qw_then_ret ?_
      refine qw_ret1 rfl rfl (fun w' h => ⟨congrArg (fun z => Ending.returned (.bool z)) ?_, h.ag.below⟩)
      unfold madeB
      first
      | (rw [if_pos q1]; done)
      | (rw [if_neg q1, if_pos q2]; done)
      | (rw [if_neg q1, if_neg q2, show allB had x.kids = true from s18]; rfl)
      | (rw [if_neg q1, if_neg q2, show allB had x.kids = false from s18]; rfl)
    ·
      have q2 : ¬ x.op = 7 := of_decide_eq_false c9
      refine cw_skip ?_
      refine qw_block_normal ?_
      refine qw_seq ?_
      refine cw_seq ?_
      refine cw_region ?_
      refine ow_val rfl rfl (ex_move rfl) ?_
      refine ow_val rfl rfl (ex_field rfl) ?_
      refine ow_val rfl rfl (ex_load1 rfl (by first | exact ld_own1 0 rfl rfl | exact ld_own1 1 rfl rfl | exact ld_own1 2 rfl rfl | exact ld_own1 3 rfl rfl | exact ld_own1 4 rfl rfl | exact ld_own1 5 rfl rfl | exact ld_own1 6 rfl rfl | exact ld_own1 7 rfl rfl | exact ld_ownG1 0 rfl rfl | exact ld_ownG1 1 rfl rfl | exact ld_imm1 (by assumption))) ?_
      refine ow_cv rfl rfl (ex_callf rfl (fun w h => callB ((pAllE h.im hE0 hxk (by omega) (fun z hz => by rw [hlen]; exact hxv z hz))))) ?_
      refine ow_val rfl rfl (ex_move rfl) ?_
      refine ow_split (g := some (4, true)) rfl (fun s18 => ?_) (fun s18 => ?_)
      ·
        refine ow_val rfl (gd_go rfl s18) (ex_move rfl) ?_
        refine ow_val rfl (gd_go rfl s18) (ex_field rfl) ?_
        refine ow_val rfl (gd_go rfl s18) (ex_load1 rfl (by first | exact ld_own1 0 rfl rfl | exact ld_own1 1 rfl rfl | exact ld_own1 2 rfl rfl | exact ld_own1 3 rfl rfl | exact ld_own1 4 rfl rfl | exact ld_own1 5 rfl rfl | exact ld_own1 6 rfl rfl | exact ld_own1 7 rfl rfl | exact ld_ownG1 0 rfl rfl | exact ld_ownG1 1 rfl rfl | exact ld_imm1 (by assumption))) ?_
        refine ow_cv rfl (gd_go rfl s18) (ex_callf rfl (fun w h => callB ((pAllE h.im hE0 hxm (by omega) (fun z hz => by rw [hlen]; exact hmv z hz))))) ?_
        refine ow_val rfl rfl (ex_pickt rfl s18 rfl) ?_
        refine ow_val rfl rfl (ex_assign rfl) ?_
        refine ow_nil ?_
        refine qw_seq ?_
        refine cw_ret ?_
        refine qw_ret1 rfl rfl (fun w' h => ⟨congrArg (fun z => Ending.returned (.bool z)) ?_, h.ag.below⟩)
        unfold madeB
        first
        | (rw [if_pos q1]; done)
        | (rw [if_neg q1, if_pos q2]; done)
        | (rw [if_neg q1, if_neg q2, show allB had x.kids = true from s18]; rfl)
        | (rw [if_neg q1, if_neg q2, show allB had x.kids = false from s18]; rfl)
      ·
        refine ow_skip rfl (gd_no rfl s18) ?_
        refine ow_skip rfl (gd_no rfl s18) ?_
        refine ow_skip rfl (gd_no rfl s18) ?_
        refine ow_skip rfl (gd_no rfl s18) ?_
        refine ow_val rfl rfl (ex_pickf rfl s18 rfl) ?_
        refine ow_val rfl rfl (ex_assign rfl) ?_
        refine ow_nil ?_
        refine qw_seq ?_
        refine cw_ret ?_
        refine qw_ret1 rfl rfl (fun w' h => ⟨congrArg (fun z => Ending.returned (.bool z)) ?_, h.ag.below⟩)
        unfold madeB
        first
        | (rw [if_pos q1]; done)
        | (rw [if_neg q1, if_pos q2]; done)
        | (rw [if_neg q1, if_neg q2, show allB had x.kids = true from s18]; rfl)
        | (rw [if_neg q1, if_neg q2, show allB had x.kids = false from s18]; rfl)
end Go.Proofs.YtnjomdjkbbhdoaaGreatDoor
namespace Go.Proofs.YtnjomdjkbbhdoaaGreatDoor
open Go.RowKit
set_option linter.unusedVariables false
set_option linter.unusedSimpArgs false
set_option maxRecDepth 100000
set_option maxHeartbeats 4000000 in
theorem pFoundIt {l n₀ hb bm be b1 : Nat} {its : List Item} {known : List Int} {had0 : List Bool} {J Jx : List (Hx its known) → World → Prop} {σ : Hp} {iv : Value} {ch : Nat} {w : World} (hok : ItsOK its) (hso0 : Sound its known had0) (hG : GoodH n₀ hb bm σ) (hbm : bm < n₀) (hn : n₀ ≤ w.heap.size)
    (hcE : CellsAt σ be 0 [iv, .slice (some ⟨hb, 0, none⟩) its.length ch]) (hIt : ItemsV σ iv its) (hb1 : CellsAt σ b1 0 [.pointer (some ⟨be, 0, none⟩)]) (hi : Imm (ext σ hb (hadO 4 had0)) w) (hJ : AbidesFrom w.heap.size J)
    (hY : ∀ pre (x : Hx its known) W1, J pre W1 → pre.length < bnd (its.length + 1) → YieldAt Fence.wide 8 Tryz.prog l #[.int .i64 ((x.1 : Nat) : Int)] W1 fun e W' => (e = .returned (.bool true) ∧ J (pre ++ [x]) W' ∧ KpE n₀ hb bm 4 its known W1 W') ∨ (e = .returned (.bool false) ∧ Jx (pre ++ [x]) W')) (h0 : J [] w) :
    Calls Tryz.prog 86 #[.func (.yield l) #[] #[], .pointer (some ⟨b1, 0, none⟩)] w fun e w' => (∃ v, e = .returned v) ∧ ((∃ xs, SAll its known had0 xs ∧ J xs w') ∨ (∃ pre, True ∧ Jx pre w')) := by
  have hIt0 := hIt
  obtain ⟨p, ci, rfl, hci, hsi⟩ := hIt
  have hsi0 := hsi
  have hl9 := hok.len
  have hleA := hG.le (hadO 4 had0)
  refine enter (St w (fun _ => False) (ext σ hb (hadO 4 had0)) [] []) Tryz.func86 rfl Tryz.ntmps86 rfl (St.start hi) ?_
  refine cw_seq ?_
  refine cw_region ?_
  refine ow_val rfl rfl (ex_load1 rfl (ld_imm1 (hb1.le hleA))) ?_
  refine ow_val rfl rfl (ex_nilck rfl) ?_
  refine ow_val rfl rfl (ex_field rfl) ?_
  refine ow_val rfl rfl (ex_load1 rfl (ld_imm1 ((hcE.le hleA).fld (i := 0) rfl))) ?_
  refine ow_val rfl rfl (ex_len (ty := 0) rfl) ?_
  refine ow_val rfl rfl (ex_move rfl) ?_
  refine ow_nil ?_
  refine qw_seq ?_
  refine cw_block ?_
  refine cw_loop (fun x : Nat × List (Hx its known) × List Bool => [(0, .func (.yield l) #[] #[]), (1, .pointer (some ⟨b1, 0, none⟩)), (10, .slice p its.length ci), (11, .int .i64 (its.length : Int)), (12, .int .i64 (x.1 : Int))]) (fun x w' => ItI its known had0 x.1 x.2.1 x.2.2 ∧ x.1 ≤ its.length ∧ ∃ w0, J x.2.1 w0 ∧ n₀ ≤ w0.heap.size ∧ St w0 (fun _ => False) (ext σ hb (hadO 4 x.2.2)) [] [] w') (fun x => its.length - x.1) (0, [], had0) (subL_cons (lkv rfl (by first | rfl | simp)) (subL_cons (lkv rfl (by first | rfl | simp)) (subL_cons (lkv rfl (by first | rfl | simp)) (subL_cons (lkv rfl (by first | rfl | simp)) (subL_cons (lkv rfl (by first | rfl | simp)) (subL_nil _)))))) (fun w' h => ⟨ItI.start hso0, Nat.zero_le _, w, h0, hn, h⟩) ?_
  rintro ⟨i, pre, had⟩
  refine cw_and (fun hI => ?_)
  refine cw_and (fun hlei => ?_)
  refine cw_ex (fun w0 => ?_)
  refine cw_and (fun hJ0 => ?_)
  refine cw_and (fun hn0 => ?_)
  simp only at hI hlei hJ0
  have hsl0 := hI.so
  have hle0 := hG.le (hadO 4 had)
  have hle0t := hle0
  have hhb0 := CellsAt.had (σ := σ) (hb := hb) (e := 4) (had := had)
  have hE0 : EngC (ext σ hb (hadO 4 had)) be hb its had := ⟨_, ch, by rw [show had.length = its.length from hsl0.1]; exact hcE.le hle0t, ItemsV.le hle0t ⟨_, ci, rfl, hci, hsi0⟩, hhb0⟩
  refine cw_seq ?_
  refine cw_region ?_
  refine ow_val rfl rfl (ex_lss rfl rfl) ?_
  refine ow_nil ?_
  refine qw_seq ?_
  refine cw_seq ?_
  refine cw_cond rfl (fun c13 => ?_) (fun c13 => ?_)
  ·
    have hlt : i < its.length := by have := of_decide_eq_true c13; omega
    have hmem := List.getElem_mem hlt
    have hml9 := hok.ml _ hmem
    obtain ⟨bi, oi, rfl, hits⟩ := hsi.resolve_left (fun hn => by subst hn; simp at hlt)
    obtain ⟨cy, hcy, hIy⟩ := hits i hlt
    obtain ⟨ky, my, rfl, hyk, hym⟩ := hIy
    have hym0 := hym
    obtain ⟨pm, cm, rfl, hcm, hsm⟩ := hym
    have hIy : ItemC σ [.int .i64 its[i].op, ky, .slice pm its[i].ments.length cm] its[i] := ⟨_, _, rfl, hyk, hym0⟩
    refine cw_skip ?_
    refine qw_seq ?_
    refine cw_seq ?_
    refine cw_block ?_
    refine cw_seq ?_
    refine cw_region ?_
    refine ow_val rfl rfl (ex_move rfl) ?_
    refine ow_val rfl rfl (ex_index_nat (i := i) rfl rfl hlt) ?_
    refine ow_val rfl rfl (ex_loadR rfl (ld_immN (hcy.le hle0t) rfl)) ?_
    refine ow_blk rfl rfl exw_alloc ?_; intro b4
    refine ow_val rfl rfl (ex_assign rfl) ?_
    refine ow_u rfl (exu_storeN 0 rfl rfl rfl rfl hIy.one rfl) ?_
    refine ow_frzIt hG hbm hn0 (fun τ hl1 hG1 hb4 => ?_)
    have hc4 : CellsAt τ b4 0 [.int .i64 its[i].op, ky, .slice pm its[i].ments.length cm] := CellsAt.took (k := 3) hb4 rfl
    have hleB := hG1.le (hadO 4 had)
    have hleBt := hl1.trans hleB
    have hhbB := CellsAt.had (σ := τ) (hb := hb) (e := 4) (had := had)
    have hEB : EngC (ext τ hb (hadO 4 had)) be hb its had := ⟨_, ch, by rw [show had.length = its.length from hsl0.1]; exact hcE.le hleBt, ItemsV.le hleBt ⟨_, ci, rfl, hci, hsi0⟩, hhbB⟩
    refine ow_nil ?_
    refine qw_seq ?_
    refine cw_seq ?_
    refine cw_seq ?_
    refine cw_regionI 9 ?_
    refine oi_val wide_fn (fun c h => (by cases h)) rfl rfl (ex_load1 rfl (ld_imm1 (hb1.le hleBt))) ?_
    refine oi_val wide_fn (fun c h => (by cases h)) rfl rfl (ex_nilck rfl) ?_
    refine oi_val wide_fn (fun c h => (by cases h)) rfl rfl (ex_field rfl) ?_
    refine oi_val wide_fn (fun c h => (by cases h)) rfl rfl (ex_load1 rfl (ld_imm1 ((hcE.le hleBt).fld (i := 1) rfl))) ?_
    refine oi_val wide_fn (fun c h => (by cases h)) rfl rfl (ex_move rfl) ?_
    refine oi_val wide_fn (fun c h => (by cases h)) rfl rfl (ex_index_nat (i := i) rfl rfl hlt) ?_
    refine oi_val wide_fn (fun c h => (by cases h)) rfl rfl (ex_load1 rfl (ld_imm1 (hhbB.bool (i := i) (by have := hsl0.1; omega)))) ?_
    refine oi_val wide_fn (fun c h => (by cases h)) rfl rfl (ex_not rfl) ?_
    refine oi_val wide_fn (fun c h => (by cases h)) rfl rfl (ex_move rfl) ?_
    refine oi_split (g := some (8, true)) rfl (fun s25 => ?_) (fun s25 => ?_)
    ·
      refine oi_val wide_fn (fun c h => (by cases h)) rfl (gd_go rfl s25) (ex_load1 rfl (ld_imm1 (hb1.le hleBt))) ?_
      refine oi_val wide_fn (fun c h => (by cases h)) rfl (gd_go rfl s25) (ex_loadR rfl (ld_immN (hc4.le hleB) rfl)) ?_
      refine oi_cv (fun c h => (by cases h)) rfl (gd_go rfl s25) (ex_callf rfl (fun w h => callB ((pMadeE h.im hEB hok hsl0.1 (hIy.le hleBt) (hok.kl _ hmem) (hok.kv _ hmem) (hok.ml _ hmem) (hok.mv _ hmem))))) ?_
      refine oi_val wide_fn (fun c h => (by cases h)) rfl rfl (ex_pickt rfl s25 rfl) ?_
      refine oi_val wide_fn (fun c h => (by cases h)) rfl rfl (ex_move rfl) ?_
      refine oi_split (g := some (13, true)) rfl (fun s30 => ?_) (fun s30 => ?_)
      ·
        refine oi_val wide_fn (fun c h => (by cases h)) rfl (gd_go rfl s30) (ex_move rfl) ?_
        refine oi_val wide_fn (fun c h => (by cases h)) rfl (gd_go rfl s30) (ex_move rfl) ?_
        refine oi_yield rfl (gd_go rfl s30) rfl rfl (fun w h => hY pre ⟨i, hlt, hI.so.made hlt s30⟩ w (hJ pre w0 w none hJ0 (grown_of_below h.ag.below) (fun r e => by cases e)) (by have := hI.ln; have := bnd_le hlei; rw [bnd_succ]; omega)) (fun w e w' h => by rcases h with ⟨h, _⟩ | ⟨h, _⟩ <;> exact ⟨_, h⟩) (fun yv => ?_)
        refine oi_val wide_fn (fun c h => (by cases h)) rfl (gd_go rfl s30) (ex_not rfl) ?_
        refine oi_val wide_fn (fun c h => (by cases h)) rfl rfl (ex_pickt rfl s30 rfl) ?_
        refine oi_nil ?_
        refine qw_seq ?_
        refine cw_cond rfl (fun c35 => ?_) (fun c35 => ?_)
        ·
          have hyv : yv = false := by simpa using c35
          subst hyv
          refine cw_ret ?_
          refine qw_then_ret ?_
          refine qw_block_ret ?_
          refine qw_then_ret ?_
          refine qw_then_ret ?_
          refine qw_block_ret ?_
          refine qw_ret0 rfl (fun w' h => ?_)
          first
          | exact ⟨⟨_, rfl⟩, .inl ⟨pre, hI.over (by have := of_decide_eq_false c13; omega), hJ pre w0 w' none hJ0 (grown_of_below h.ag.below) (fun r e => by cases e)⟩⟩
          | (obtain ⟨w9, _, h9⟩ := h
             rcases h9 with ⟨e9, _⟩ | ⟨_, h9⟩
             · cases e9
             · exact ⟨⟨_, rfl⟩, .inr ⟨_, trivial, h9⟩⟩)
        ·
          have hyv : yv = true := by simpa using c35
          subst hyv
          refine cw_skip ?_
          refine qw_seq ?_
          refine cw_seq ?_
          refine cw_seq ?_
          refine cw_mono (S' := fun w' => ∃ pre1 had1 w1, ItM its known had0 i pre1 had1 ∧ J pre1 w1 ∧ n₀ ≤ w1.heap.size ∧ St w1 (fun _ => False) (ext τ hb (hadO 4 had1)) [] [] w') (fun w' h9 => ?_) ?_
          · first
            | exact ⟨pre, had, w0, hI.idle (fun _ hm9 => by first | (simpa using s25) | (rw [show (madeB its had its[i]) = false from s30] at hm9; cases hm9)), hJ0, hn0, h9⟩
            | (obtain ⟨w9, hs9, h9⟩ := h9
               rcases h9 with ⟨_, hJ9, hk9⟩ | ⟨e9, _⟩
               · obtain ⟨had9, a1, a2, a3⟩ := hk9.st hG1 hs9 hI.so
                 exact ⟨_, had9, w', hI.yields (by simpa using s25) a1 a2, hJ9, Nat.le_trans (Nat.le_trans hn0 hs9.ag.size) hk9.sz, a3⟩
               · cases e9)
          refine cw_ex (fun pre1 => ?_)
          refine cw_ex (fun had1 => ?_)
          refine cw_ex (fun w1 => ?_)
          refine cw_and (fun hM1 => ?_)
          refine cw_and (fun hJ1 => ?_)
          refine cw_and (fun hn1 => ?_)
          have hsl1 := hM1.so
          have hle1 := hG1.le (hadO 4 had1)
          have hle1t := hl1.trans hle1
          have hhb1 := CellsAt.had (σ := τ) (hb := hb) (e := 4) (had := had1)
          have hE1 : EngC (ext τ hb (hadO 4 had1)) be hb its had1 := ⟨_, ch, by rw [show had1.length = its.length from hsl1.1]; exact hcE.le hle1t, ItemsV.le hle1t ⟨_, ci, rfl, hci, hsi0⟩, hhb1⟩
          refine cw_region ?_
          refine ow_val rfl rfl (ex_field rfl) ?_
          refine ow_val rfl rfl (ex_load1 rfl (ld_imm1 ((hc4.le hle1).fld (i := 0) rfl))) ?_
          refine ow_val rfl rfl (ex_neq rfl rfl) ?_
          refine ow_val rfl rfl (ex_move rfl) ?_
          refine ow_split (g := some (3, false)) rfl (fun s39 => ?_) (fun s39 => ?_)
          ·
            refine ow_skip rfl (gd_no rfl s39) ?_
            refine ow_skip rfl (gd_no rfl s39) ?_
            refine ow_skip rfl (gd_no rfl s39) ?_
            refine ow_skip rfl (gd_no rfl s39) ?_
            refine ow_skip rfl (gd_no rfl s39) ?_
            refine ow_skip rfl (gd_no rfl s39) ?_
            refine ow_skip rfl (gd_no rfl s39) ?_
            refine ow_skip rfl (gd_no rfl s39) ?_
            refine ow_val rfl rfl (ex_pickt rfl s39 rfl) ?_
            refine ow_val rfl rfl (ex_move rfl) ?_
            refine ow_skip rfl rfl ?_
            refine ow_skip rfl rfl ?_
            refine ow_skip rfl rfl ?_
            refine ow_skip rfl rfl ?_
            refine ow_skip rfl rfl ?_
            refine ow_val rfl rfl (ex_pick_t rfl rfl) ?_
            refine ow_nil ?_
            refine qw_seq ?_
            refine cw_cond_t rfl ?_
            refine cw_exit ?_
            refine qw_then_exit ?_
            refine qw_block_exit ?_
            refine qw_seq ?_
            refine cw_region ?_
            refine ow_val rfl rfl (ex_addi (z := ((i + 1 : Nat) : Int)) rfl rfl (by omega) (by omega) (by omega)) ?_
            refine ow_val rfl rfl (ex_move rfl) ?_
            refine ow_nil ?_
            exact qw_round (i + 1, pre1, had1) (by show its.length - (i + 1) < its.length - i; omega) (subL_cons (lkv rfl (by first | rfl | simp)) (subL_cons (lkv rfl (by first | rfl | simp)) (subL_cons (lkv rfl (by first | rfl | simp)) (subL_cons (lkv rfl (by first | rfl | simp)) (subL_cons (lkv rfl (by first | rfl | simp)) (subL_nil _)))))) (fun w' h => ⟨hM1.next (fun _ q1 q2 q3 => by first | exact (of_decide_eq_true s39) q1 | (rw [q2] at s49; exact absurd s49 (by decide)) | (rw [q3] at c55; exact absurd c55 (by decide))), by show i + 1 ≤ its.length; omega, w1, hJ1, hn1, h.down (ext_le hl1 _ _)⟩)
          ·
            refine ow_val rfl (gd_go rfl s39) (ex_load1 rfl (ld_imm1 (hb1.le hle1t))) ?_
            refine ow_val rfl (gd_go rfl s39) (ex_nilck rfl) ?_
            refine ow_val rfl (gd_go rfl s39) (ex_field rfl) ?_
            refine ow_val rfl (gd_go rfl s39) (ex_load1 rfl (ld_imm1 ((hcE.le hle1t).fld (i := 1) rfl))) ?_
            refine ow_val rfl (gd_go rfl s39) (ex_move rfl) ?_
            refine ow_val rfl (gd_go rfl s39) (ex_index_nat (i := i) rfl rfl hlt) ?_
            refine ow_val rfl (gd_go rfl s39) (ex_load1 rfl (ld_imm1 (hhb1.bool (i := i) (by have := hsl1.1; omega)))) ?_
            refine ow_val rfl (gd_go rfl s39) (ex_not rfl) ?_
            refine ow_val rfl rfl (ex_pickf rfl s39 rfl) ?_
            refine ow_val rfl rfl (ex_move rfl) ?_
            refine ow_split (g := some (13, false)) rfl (fun s49 => ?_) (fun s49 => ?_)
            ·
              refine ow_skip rfl (gd_no rfl s49) ?_
              refine ow_skip rfl (gd_no rfl s49) ?_
              refine ow_skip rfl (gd_no rfl s49) ?_
              refine ow_skip rfl (gd_no rfl s49) ?_
              refine ow_skip rfl (gd_no rfl s49) ?_
              refine ow_val rfl rfl (ex_pickt rfl s49 rfl) ?_
              refine ow_nil ?_
              refine qw_seq ?_
              refine cw_cond_t rfl ?_
              refine cw_exit ?_
              refine qw_then_exit ?_
              refine qw_block_exit ?_
              refine qw_seq ?_
              refine cw_region ?_
              refine ow_val rfl rfl (ex_addi (z := ((i + 1 : Nat) : Int)) rfl rfl (by omega) (by omega) (by omega)) ?_
              refine ow_val rfl rfl (ex_move rfl) ?_
              refine ow_nil ?_
              exact qw_round (i + 1, pre1, had1) (by show its.length - (i + 1) < its.length - i; omega) (subL_cons (lkv rfl (by first | rfl | simp)) (subL_cons (lkv rfl (by first | rfl | simp)) (subL_cons (lkv rfl (by first | rfl | simp)) (subL_cons (lkv rfl (by first | rfl | simp)) (subL_cons (lkv rfl (by first | rfl | simp)) (subL_nil _)))))) (fun w' h => ⟨hM1.next (fun _ q1 q2 q3 => by first | exact (of_decide_eq_true s39) q1 | (rw [q2] at s49; exact absurd s49 (by decide)) | (rw [q3] at c55; exact absurd c55 (by decide))), by show i + 1 ≤ its.length; omega, w1, hJ1, hn1, h.down (ext_le hl1 _ _)⟩)
            ·
              refine ow_val rfl (gd_go rfl s49) (ex_load1 rfl (ld_imm1 (hb1.le hle1t))) ?_
              refine ow_val rfl (gd_go rfl s49) (ex_field rfl) ?_
              refine ow_val rfl (gd_go rfl s49) (ex_load1 rfl (ld_imm1 ((hc4.le hle1).fld (i := 1) rfl))) ?_
              refine ow_cv rfl (gd_go rfl s49) (ex_callf rfl (fun w h => callB ((pAllE h.im hE1 (hyk.le hle1t) (by have := hok.kl _ hmem; omega) (fun z hz => by rw [hsl1.1]; exact hok.kv _ hmem z hz))))) ?_
              refine ow_val rfl (gd_go rfl s49) (ex_not rfl) ?_
              refine ow_val rfl rfl (ex_pickf rfl s49 rfl) ?_
              refine ow_nil ?_
              refine qw_seq ?_
              refine cw_cond rfl (fun c55 => ?_) (fun c55 => ?_)
              ·
                refine cw_exit ?_
                refine qw_then_exit ?_
                refine qw_block_exit ?_
                refine qw_seq ?_
                refine cw_region ?_
                refine ow_val rfl rfl (ex_addi (z := ((i + 1 : Nat) : Int)) rfl rfl (by omega) (by omega) (by omega)) ?_
                refine ow_val rfl rfl (ex_move rfl) ?_
                refine ow_nil ?_
                exact qw_round (i + 1, pre1, had1) (by show its.length - (i + 1) < its.length - i; omega) (subL_cons (lkv rfl (by first | rfl | simp)) (subL_cons (lkv rfl (by first | rfl | simp)) (subL_cons (lkv rfl (by first | rfl | simp)) (subL_cons (lkv rfl (by first | rfl | simp)) (subL_cons (lkv rfl (by first | rfl | simp)) (subL_nil _)))))) (fun w' h => ⟨hM1.next (fun _ q1 q2 q3 => by first | exact (of_decide_eq_true s39) q1 | (rw [q2] at s49; exact absurd s49 (by decide)) | (rw [q3] at c55; exact absurd c55 (by decide))), by show i + 1 ≤ its.length; omega, w1, hJ1, hn1, h.down (ext_le hl1 _ _)⟩)
              ·
                have hN0 := hM1.opens (fun _ => ⟨by simpa using s39, by simpa using s49, by simpa using c55⟩)
                refine cw_skip ?_
                refine qw_seq ?_
                refine cw_seq ?_
                refine cw_region ?_
                refine ow_val rfl rfl (ex_field rfl) ?_
                refine ow_val rfl rfl (ex_load1 rfl (ld_imm1 ((hc4.le hle1).fld (i := 2) rfl))) ?_
                refine ow_val rfl rfl (ex_len (ty := 0) rfl) ?_
                refine ow_val rfl rfl (ex_move rfl) ?_
                refine ow_nil ?_
                refine qw_seq ?_
                refine cw_block ?_
                refine cw_loop (fun x : Nat × List (Hx its known) × List Bool => [(0, .func (.yield l) #[] #[]), (1, .pointer (some ⟨b1, 0, none⟩)), (10, .slice (some ⟨bi, oi, none⟩) its.length ci), (11, .int .i64 (its.length : Int)), (12, .int .i64 (i : Int)), (57, .slice pm its[i].ments.length cm), (58, .int .i64 (its[i].ments.length : Int)), (59, .int .i64 (x.1 : Int))]) (fun x w' => ItN its known had0 i x.1 x.2.1 x.2.2 ∧ x.1 ≤ its[i].ments.length ∧ ∃ w0, J x.2.1 w0 ∧ n₀ ≤ w0.heap.size ∧ St w0 (fun _ => False) (ext τ hb (hadO 4 x.2.2)) [] [] w') (fun x => its[i].ments.length - x.1) (0, pre1, had1) (subL_cons (lkv rfl (by first | rfl | simp)) (subL_cons (lkv rfl (by first | rfl | simp)) (subL_cons (lkv rfl (by first | rfl | simp)) (subL_cons (lkv rfl (by first | rfl | simp)) (subL_cons (lkv rfl (by first | rfl | simp)) (subL_cons (lkv rfl (by first | rfl | simp)) (subL_cons (lkv rfl (by first | rfl | simp)) (subL_cons (lkv rfl (by first | rfl | simp)) (subL_nil _))))))))) (fun w' h => ⟨hN0, Nat.zero_le _, w1, hJ1, hn1, h⟩) ?_
                rintro ⟨j, pre2, had2⟩
                refine cw_and (fun hN2 => ?_)
                refine cw_and (fun hlej => ?_)
                refine cw_ex (fun w2 => ?_)
                refine cw_and (fun hJ2 => ?_)
                refine cw_and (fun hn2 => ?_)
                simp only at hN2 hlej hJ2
                have hsl2 := hN2.so
                have hle2 := hG1.le (hadO 4 had2)
                have hle2t := hl1.trans hle2
                have hhb2 := CellsAt.had (σ := τ) (hb := hb) (e := 4) (had := had2)
                have hE2 : EngC (ext τ hb (hadO 4 had2)) be hb its had2 := ⟨_, ch, by rw [show had2.length = its.length from hsl2.1]; exact hcE.le hle2t, ItemsV.le hle2t ⟨_, ci, rfl, hci, hsi0⟩, hhb2⟩
                refine cw_seq ?_
                refine cw_region ?_
                refine ow_val rfl rfl (ex_lss rfl rfl) ?_
                refine ow_nil ?_
                refine qw_seq ?_
                refine cw_seq ?_
                refine cw_cond rfl (fun c60 => ?_) (fun c60 => ?_)
                ·
                  have hltj : j < its[i].ments.length := by have := of_decide_eq_true c60; omega
                  obtain ⟨bm2, om2, rfl, hca⟩ := hsm.resolve_left (fun hn => by rw [hn] at hltj; simp at hltj)
                  have hmv := hok.mv _ hmem _ (List.getElem_mem hltj)
                  obtain ⟨km, hkm⟩ : ∃ km : Nat, its[i].ments[j] = (km : Int) := ⟨its[i].ments[j].toNat, by omega⟩
                  have hcm9 := hca.int hltj
                  rw [hkm] at hcm9
                  refine cw_skip ?_
                  refine qw_seq ?_
                  refine cw_seq ?_
                  refine cw_block ?_
                  refine cw_seq ?_
                  refine cw_region ?_
                  refine ow_val rfl rfl (ex_index_nat (i := j) rfl rfl hltj) ?_
                  refine ow_val rfl rfl (ex_load1 rfl (ld_imm1 (hcm9.le hle2t))) ?_
                  refine ow_val rfl rfl (ex_assign rfl) ?_
                  refine ow_nil ?_
                  refine qw_seq ?_
                  refine cw_seq ?_
                  refine cw_regionI 9 ?_
                  refine oi_val wide_fn (fun c h => (by cases h)) rfl rfl (ex_load1 rfl (ld_imm1 (hb1.le hle2t))) ?_
                  refine oi_val wide_fn (fun c h => (by cases h)) rfl rfl (ex_nilck rfl) ?_
                  refine oi_val wide_fn (fun c h => (by cases h)) rfl rfl (ex_field rfl) ?_
                  refine oi_val wide_fn (fun c h => (by cases h)) rfl rfl (ex_load1 rfl (ld_imm1 ((hcE.le hle2t).fld (i := 1) rfl))) ?_
                  refine oi_val wide_fn (fun c h => (by cases h)) rfl rfl (ex_move rfl) ?_
                  refine oi_val wide_fn (fun c h => (by cases h)) rfl rfl (ex_index_nat (i := km) rfl rfl (by omega)) ?_
                  refine oi_val wide_fn (fun c h => (by cases h)) rfl rfl (ex_load1 rfl (ld_imm1 (hhb2.bool (i := km) (by have := hsl2.1; omega)))) ?_
                  refine oi_val wide_fn (fun c h => (by cases h)) rfl rfl (ex_not rfl) ?_
                  refine oi_val wide_fn (fun c h => (by cases h)) rfl rfl (ex_move rfl) ?_
                  refine oi_split (g := some (8, true)) rfl (fun s71 => ?_) (fun s71 => ?_)
                  ·
                    refine oi_val wide_fn (fun c h => (by cases h)) rfl (gd_go rfl s71) (ex_move rfl) ?_
                    refine oi_val wide_fn (fun c h => (by cases h)) rfl (gd_go rfl s71) (ex_move rfl) ?_
                    refine oi_yield rfl (gd_go rfl s71) rfl rfl (fun w h => hY pre2 ⟨km, by omega, by have h8 := hN2.so.opened hlt (hN2.o4 hlt).1 (hN2.o4 hlt).2.1 (hN2.o4 hlt).2.2 (List.getElem_mem hltj); rwa [hkm, Int.toNat_natCast] at h8⟩ w (hJ pre2 w2 w none hJ2 (grown_of_below h.ag.below) (fun r e => by cases e)) (by have := hN2.ln; have := bnd_le hlei; rw [bnd_succ]; omega)) (fun w e w' h => by rcases h with ⟨h, _⟩ | ⟨h, _⟩ <;> exact ⟨_, h⟩) (fun yv => ?_)
                    refine oi_val wide_fn (fun c h => (by cases h)) rfl (gd_go rfl s71) (ex_not rfl) ?_
                    refine oi_val wide_fn (fun c h => (by cases h)) rfl rfl (ex_pickt rfl s71 rfl) ?_
                    refine oi_nil ?_
                    refine qw_seq ?_
                    refine cw_cond rfl (fun c76 => ?_) (fun c76 => ?_)
                    ·
                      have hyv : yv = false := by simpa using c76
                      subst hyv
                      refine cw_ret ?_
                      refine qw_block_ret ?_
                      refine qw_then_ret ?_
                      refine qw_then_ret ?_
                      refine qw_block_ret ?_
                      refine qw_block_ret ?_
                      refine qw_then_ret ?_
                      refine qw_then_ret ?_
                      refine qw_block_ret ?_
                      refine qw_ret0 rfl (fun w' h => ?_)
                      first
                      | exact ⟨⟨_, rfl⟩, .inl ⟨pre, hI.over (by have := of_decide_eq_false c13; omega), hJ pre w0 w' none hJ0 (grown_of_below h.ag.below) (fun r e => by cases e)⟩⟩
                      | (obtain ⟨w9, _, h9⟩ := h
                         rcases h9 with ⟨e9, _⟩ | ⟨_, h9⟩
                         · cases e9
                         · exact ⟨⟨_, rfl⟩, .inr ⟨_, trivial, h9⟩⟩)
                    ·
                      have hyv : yv = true := by simpa using c76
                      subst hyv
                      refine cw_skip ?_
                      refine qw_block_normal ?_
                      refine qw_seq ?_
                      refine cw_mono (S' := fun w' => ∃ pre3 had3 w3, ItN its known had0 i (j + 1) pre3 had3 ∧ J pre3 w3 ∧ n₀ ≤ w3.heap.size ∧ St w3 (fun _ => False) (ext τ hb (hadO 4 had3)) [] [] w') (fun w' h9 => ?_) ?_
                      · first
                        | exact ⟨pre2, had2, w2, hN2.idle hlt hltj (by rw [hkm, hadAt_nat]; simpa using s71), hJ2, hn2, h9⟩
                        | (obtain ⟨w9, hs9, h9⟩ := h9
                           rcases h9 with ⟨_, hJ9, hk9⟩ | ⟨e9, _⟩
                           · obtain ⟨had9, a1, a2, a3⟩ := hk9.st hG1 hs9 hN2.so
                             exact ⟨_, had9, w', hN2.yields (by simpa using s71) a1 a2, hJ9, Nat.le_trans (Nat.le_trans hn2 hs9.ag.size) hk9.sz, a3⟩
                           · cases e9)
                      refine cw_ex (fun pre3 => ?_)
                      refine cw_ex (fun had3 => ?_)
                      refine cw_ex (fun w3 => ?_)
                      refine cw_and (fun hM3 => ?_)
                      refine cw_and (fun hJ3 => ?_)
                      refine cw_and (fun hn3 => ?_)
                      have hsl3 := hM3.so
                      refine cw_region ?_
                      refine ow_val rfl rfl (ex_addi (z := ((j + 1 : Nat) : Int)) rfl rfl (by omega) (by omega) (by omega)) ?_
                      refine ow_val rfl rfl (ex_move rfl) ?_
                      refine ow_nil ?_
                      exact qw_round (j + 1, pre3, had3) (by show its[i].ments.length - (j + 1) < its[i].ments.length - j; omega) (subL_cons (lkv rfl (by first | rfl | simp)) (subL_cons (lkv rfl (by first | rfl | simp)) (subL_cons (lkv rfl (by first | rfl | simp)) (subL_cons (lkv rfl (by first | rfl | simp)) (subL_cons (lkv rfl (by first | rfl | simp)) (subL_cons (lkv rfl (by first | rfl | simp)) (subL_cons (lkv rfl (by first | rfl | simp)) (subL_cons (lkv rfl (by first | rfl | simp)) (subL_nil _))))))))) (fun w' h => ⟨hM3, by show j + 1 ≤ its[i].ments.length; omega, w3, hJ3, hn3, h⟩)
                  ·
                    refine oi_skip wide_fn rfl (gd_no rfl s71) ?_
                    refine oi_skip wide_fn rfl (gd_no rfl s71) ?_
                    refine oi_skip wide_fn rfl (gd_no rfl s71) ?_
                    refine oi_skip wide_fn rfl (gd_no rfl s71) ?_
                    refine oi_val wide_fn (fun c h => (by cases h)) rfl rfl (ex_pickf rfl s71 rfl) ?_
                    refine oi_nil ?_
                    refine qw_seq ?_
                    refine cw_cond_f rfl ?_
                    refine cw_skip ?_
                    refine qw_block_normal ?_
                    refine qw_seq ?_
                    refine cw_mono (S' := fun w' => ∃ pre3 had3 w3, ItN its known had0 i (j + 1) pre3 had3 ∧ J pre3 w3 ∧ n₀ ≤ w3.heap.size ∧ St w3 (fun _ => False) (ext τ hb (hadO 4 had3)) [] [] w') (fun w' h9 => ?_) ?_
                    · first
                      | exact ⟨pre2, had2, w2, hN2.idle hlt hltj (by rw [hkm, hadAt_nat]; simpa using s71), hJ2, hn2, h9⟩
                      | (obtain ⟨w9, hs9, h9⟩ := h9
                         rcases h9 with ⟨_, hJ9, hk9⟩ | ⟨e9, _⟩
                         · obtain ⟨had9, a1, a2, a3⟩ := hk9.st hG1 hs9 hN2.so
                           exact ⟨_, had9, w', hN2.yields (by simpa using s71) a1 a2, hJ9, Nat.le_trans (Nat.le_trans hn2 hs9.ag.size) hk9.sz, a3⟩
                         · cases e9)
                    refine cw_ex (fun pre3 => ?_)
                    refine cw_ex (fun had3 => ?_)
                    refine cw_ex (fun w3 => ?_)
                    refine cw_and (fun hM3 => ?_)
                    refine cw_and (fun hJ3 => ?_)
                    refine cw_and (fun hn3 => ?_)
                    have hsl3 := hM3.so
                    refine cw_region ?_
                    refine ow_val rfl rfl (ex_addi (z := ((j + 1 : Nat) : Int)) rfl rfl (by omega) (by omega) (by omega)) ?_
                    refine ow_val rfl rfl (ex_move rfl) ?_
                    refine ow_nil ?_
                    exact qw_round (j + 1, pre3, had3) (by show its[i].ments.length - (j + 1) < its[i].ments.length - j; omega) (subL_cons (lkv rfl (by first | rfl | simp)) (subL_cons (lkv rfl (by first | rfl | simp)) (subL_cons (lkv rfl (by first | rfl | simp)) (subL_cons (lkv rfl (by first | rfl | simp)) (subL_cons (lkv rfl (by first | rfl | simp)) (subL_cons (lkv rfl (by first | rfl | simp)) (subL_cons (lkv rfl (by first | rfl | simp)) (subL_cons (lkv rfl (by first | rfl | simp)) (subL_nil _))))))))) (fun w' h => ⟨hM3, by show j + 1 ≤ its[i].ments.length; omega, w3, hJ3, hn3, h⟩)
                ·
                  have hej : its[i].ments.length ≤ j := by have := of_decide_eq_false c60; omega
                  refine cw_exit ?_
                  refine qw_then_exit ?_
                  refine qw_then_exit ?_
                  refine qw_block_exit ?_
                  refine qw_block_normal ?_
                  refine qw_seq ?_
                  refine cw_region ?_
                  refine ow_val rfl rfl (ex_addi (z := ((i + 1 : Nat) : Int)) rfl rfl (by omega) (by omega) (by omega)) ?_
                  refine ow_val rfl rfl (ex_move rfl) ?_
                  refine ow_nil ?_
                  exact qw_round (i + 1, pre2, had2) (by show its.length - (i + 1) < its.length - i; omega) (subL_cons (lkv rfl (by first | rfl | simp)) (subL_cons (lkv rfl (by first | rfl | simp)) (subL_cons (lkv rfl (by first | rfl | simp)) (subL_cons (lkv rfl (by first | rfl | simp)) (subL_cons (lkv rfl (by first | rfl | simp)) (subL_nil _)))))) (fun w' h => ⟨hN2.next hlt (by omega) (by omega), by show i + 1 ≤ its.length; omega, w2, hJ2, hn2, h.down (ext_le hl1 _ _)⟩)
      ·
        refine oi_skip wide_fn rfl (gd_no rfl s30) ?_
        refine oi_skip wide_fn rfl (gd_no rfl s30) ?_
        refine oi_skip wide_fn rfl (gd_no rfl s30) ?_
        refine oi_skip wide_fn rfl (gd_no rfl s30) ?_
        refine oi_val wide_fn (fun c h => (by cases h)) rfl rfl (ex_pickf rfl s30 rfl) ?_
        refine oi_nil ?_
        refine qw_seq ?_
        refine cw_cond_f rfl ?_
        refine cw_skip ?_
        refine qw_seq ?_
        refine cw_seq ?_
        refine cw_seq ?_
        refine cw_mono (S' := fun w' => ∃ pre1 had1 w1, ItM its known had0 i pre1 had1 ∧ J pre1 w1 ∧ n₀ ≤ w1.heap.size ∧ St w1 (fun _ => False) (ext τ hb (hadO 4 had1)) [] [] w') (fun w' h9 => ?_) ?_
        · first
          | exact ⟨pre, had, w0, hI.idle (fun _ hm9 => by first | (simpa using s25) | (rw [show (madeB its had its[i]) = false from s30] at hm9; cases hm9)), hJ0, hn0, h9⟩
          | (obtain ⟨w9, hs9, h9⟩ := h9
             rcases h9 with ⟨_, hJ9, hk9⟩ | ⟨e9, _⟩
             · obtain ⟨had9, a1, a2, a3⟩ := hk9.st hG1 hs9 hI.so
               exact ⟨_, had9, w', hI.yields (by simpa using s25) a1 a2, hJ9, Nat.le_trans (Nat.le_trans hn0 hs9.ag.size) hk9.sz, a3⟩
             · cases e9)
        refine cw_ex (fun pre1 => ?_)
        refine cw_ex (fun had1 => ?_)
        refine cw_ex (fun w1 => ?_)
        refine cw_and (fun hM1 => ?_)
        refine cw_and (fun hJ1 => ?_)
        refine cw_and (fun hn1 => ?_)
        have hsl1 := hM1.so
        have hle1 := hG1.le (hadO 4 had1)
        have hle1t := hl1.trans hle1
        have hhb1 := CellsAt.had (σ := τ) (hb := hb) (e := 4) (had := had1)
        have hE1 : EngC (ext τ hb (hadO 4 had1)) be hb its had1 := ⟨_, ch, by rw [show had1.length = its.length from hsl1.1]; exact hcE.le hle1t, ItemsV.le hle1t ⟨_, ci, rfl, hci, hsi0⟩, hhb1⟩
        refine cw_region ?_
        refine ow_val rfl rfl (ex_field rfl) ?_
        refine ow_val rfl rfl (ex_load1 rfl (ld_imm1 ((hc4.le hle1).fld (i := 0) rfl))) ?_
        refine ow_val rfl rfl (ex_neq rfl rfl) ?_
        refine ow_val rfl rfl (ex_move rfl) ?_
        refine ow_split (g := some (3, false)) rfl (fun s39 => ?_) (fun s39 => ?_)
        ·
          refine ow_skip rfl (gd_no rfl s39) ?_
          refine ow_skip rfl (gd_no rfl s39) ?_
          refine ow_skip rfl (gd_no rfl s39) ?_
          refine ow_skip rfl (gd_no rfl s39) ?_
          refine ow_skip rfl (gd_no rfl s39) ?_
          refine ow_skip rfl (gd_no rfl s39) ?_
          refine ow_skip rfl (gd_no rfl s39) ?_
          refine ow_skip rfl (gd_no rfl s39) ?_
          refine ow_val rfl rfl (ex_pickt rfl s39 rfl) ?_
          refine ow_val rfl rfl (ex_move rfl) ?_
          refine ow_skip rfl rfl ?_
          refine ow_skip rfl rfl ?_
          refine ow_skip rfl rfl ?_
          refine ow_skip rfl rfl ?_
          refine ow_skip rfl rfl ?_
          refine ow_val rfl rfl (ex_pick_t rfl rfl) ?_
          refine ow_nil ?_
          refine qw_seq ?_
          refine cw_cond_t rfl ?_
          refine cw_exit ?_
          refine qw_then_exit ?_
          refine qw_block_exit ?_
          refine qw_seq ?_
          refine cw_region ?_
          refine ow_val rfl rfl (ex_addi (z := ((i + 1 : Nat) : Int)) rfl rfl (by omega) (by omega) (by omega)) ?_
          refine ow_val rfl rfl (ex_move rfl) ?_
          refine ow_nil ?_
          exact qw_round (i + 1, pre1, had1) (by show its.length - (i + 1) < its.length - i; omega) (subL_cons (lkv rfl (by first | rfl | simp)) (subL_cons (lkv rfl (by first | rfl | simp)) (subL_cons (lkv rfl (by first | rfl | simp)) (subL_cons (lkv rfl (by first | rfl | simp)) (subL_cons (lkv rfl (by first | rfl | simp)) (subL_nil _)))))) (fun w' h => ⟨hM1.next (fun _ q1 q2 q3 => by first | exact (of_decide_eq_true s39) q1 | (rw [q2] at s49; exact absurd s49 (by decide)) | (rw [q3] at c55; exact absurd c55 (by decide))), by show i + 1 ≤ its.length; omega, w1, hJ1, hn1, h.down (ext_le hl1 _ _)⟩)
        ·
          refine ow_val rfl (gd_go rfl s39) (ex_load1 rfl (ld_imm1 (hb1.le hle1t))) ?_
          refine ow_val rfl (gd_go rfl s39) (ex_nilck rfl) ?_
          refine ow_val rfl (gd_go rfl s39) (ex_field rfl) ?_
          refine ow_val rfl (gd_go rfl s39) (ex_load1 rfl (ld_imm1 ((hcE.le hle1t).fld (i := 1) rfl))) ?_
          refine ow_val rfl (gd_go rfl s39) (ex_move rfl) ?_
          refine ow_val rfl (gd_go rfl s39) (ex_index_nat (i := i) rfl rfl hlt) ?_
          refine ow_val rfl (gd_go rfl s39) (ex_load1 rfl (ld_imm1 (hhb1.bool (i := i) (by have := hsl1.1; omega)))) ?_
          refine ow_val rfl (gd_go rfl s39) (ex_not rfl) ?_
          refine ow_val rfl rfl (ex_pickf rfl s39 rfl) ?_
          refine ow_val rfl rfl (ex_move rfl) ?_
          refine ow_split (g := some (13, false)) rfl (fun s49 => ?_) (fun s49 => ?_)
          ·
            refine ow_skip rfl (gd_no rfl s49) ?_
            refine ow_skip rfl (gd_no rfl s49) ?_
            refine ow_skip rfl (gd_no rfl s49) ?_
            refine ow_skip rfl (gd_no rfl s49) ?_
            refine ow_skip rfl (gd_no rfl s49) ?_
            refine ow_val rfl rfl (ex_pickt rfl s49 rfl) ?_
            refine ow_nil ?_
            refine qw_seq ?_
            refine cw_cond_t rfl ?_
            refine cw_exit ?_
            refine qw_then_exit ?_
            refine qw_block_exit ?_
            refine qw_seq ?_
            refine cw_region ?_
            refine ow_val rfl rfl (ex_addi (z := ((i + 1 : Nat) : Int)) rfl rfl (by omega) (by omega) (by omega)) ?_
            refine ow_val rfl rfl (ex_move rfl) ?_
            refine ow_nil ?_
            exact qw_round (i + 1, pre1, had1) (by show its.length - (i + 1) < its.length - i; omega) (subL_cons (lkv rfl (by first | rfl | simp)) (subL_cons (lkv rfl (by first | rfl | simp)) (subL_cons (lkv rfl (by first | rfl | simp)) (subL_cons (lkv rfl (by first | rfl | simp)) (subL_cons (lkv rfl (by first | rfl | simp)) (subL_nil _)))))) (fun w' h => ⟨hM1.next (fun _ q1 q2 q3 => by first | exact (of_decide_eq_true s39) q1 | (rw [q2] at s49; exact absurd s49 (by decide)) | (rw [q3] at c55; exact absurd c55 (by decide))), by show i + 1 ≤ its.length; omega, w1, hJ1, hn1, h.down (ext_le hl1 _ _)⟩)
          ·
            refine ow_val rfl (gd_go rfl s49) (ex_load1 rfl (ld_imm1 (hb1.le hle1t))) ?_
            refine ow_val rfl (gd_go rfl s49) (ex_field rfl) ?_
            refine ow_val rfl (gd_go rfl s49) (ex_load1 rfl (ld_imm1 ((hc4.le hle1).fld (i := 1) rfl))) ?_
            refine ow_cv rfl (gd_go rfl s49) (ex_callf rfl (fun w h => callB ((pAllE h.im hE1 (hyk.le hle1t) (by have := hok.kl _ hmem; omega) (fun z hz => by rw [hsl1.1]; exact hok.kv _ hmem z hz))))) ?_
            refine ow_val rfl (gd_go rfl s49) (ex_not rfl) ?_
            refine ow_val rfl rfl (ex_pickf rfl s49 rfl) ?_
            refine ow_nil ?_
            refine qw_seq ?_
            refine cw_cond rfl (fun c55 => ?_) (fun c55 => ?_)
            ·
              refine cw_exit ?_
              refine qw_then_exit ?_
              refine qw_block_exit ?_
              refine qw_seq ?_
              refine cw_region ?_
              refine ow_val rfl rfl (ex_addi (z := ((i + 1 : Nat) : Int)) rfl rfl (by omega) (by omega) (by omega)) ?_
              refine ow_val rfl rfl (ex_move rfl) ?_
              refine ow_nil ?_
              exact qw_round (i + 1, pre1, had1) (by show its.length - (i + 1) < its.length - i; omega) (subL_cons (lkv rfl (by first | rfl | simp)) (subL_cons (lkv rfl (by first | rfl | simp)) (subL_cons (lkv rfl (by first | rfl | simp)) (subL_cons (lkv rfl (by first | rfl | simp)) (subL_cons (lkv rfl (by first | rfl | simp)) (subL_nil _)))))) (fun w' h => ⟨hM1.next (fun _ q1 q2 q3 => by first | exact (of_decide_eq_true s39) q1 | (rw [q2] at s49; exact absurd s49 (by decide)) | (rw [q3] at c55; exact absurd c55 (by decide))), by show i + 1 ≤ its.length; omega, w1, hJ1, hn1, h.down (ext_le hl1 _ _)⟩)
            ·
              have hN0 := hM1.opens (fun _ => ⟨by simpa using s39, by simpa using s49, by simpa using c55⟩)
              refine cw_skip ?_
              refine qw_seq ?_
              refine cw_seq ?_
              refine cw_region ?_
              refine ow_val rfl rfl (ex_field rfl) ?_
              refine ow_val rfl rfl (ex_load1 rfl (ld_imm1 ((hc4.le hle1).fld (i := 2) rfl))) ?_
              refine ow_val rfl rfl (ex_len (ty := 0) rfl) ?_
              refine ow_val rfl rfl (ex_move rfl) ?_
              refine ow_nil ?_
              refine qw_seq ?_
              refine cw_block ?_
              refine cw_loop (fun x : Nat × List (Hx its known) × List Bool => [(0, .func (.yield l) #[] #[]), (1, .pointer (some ⟨b1, 0, none⟩)), (10, .slice (some ⟨bi, oi, none⟩) its.length ci), (11, .int .i64 (its.length : Int)), (12, .int .i64 (i : Int)), (57, .slice pm its[i].ments.length cm), (58, .int .i64 (its[i].ments.length : Int)), (59, .int .i64 (x.1 : Int))]) (fun x w' => ItN its known had0 i x.1 x.2.1 x.2.2 ∧ x.1 ≤ its[i].ments.length ∧ ∃ w0, J x.2.1 w0 ∧ n₀ ≤ w0.heap.size ∧ St w0 (fun _ => False) (ext τ hb (hadO 4 x.2.2)) [] [] w') (fun x => its[i].ments.length - x.1) (0, pre1, had1) (subL_cons (lkv rfl (by first | rfl | simp)) (subL_cons (lkv rfl (by first | rfl | simp)) (subL_cons (lkv rfl (by first | rfl | simp)) (subL_cons (lkv rfl (by first | rfl | simp)) (subL_cons (lkv rfl (by first | rfl | simp)) (subL_cons (lkv rfl (by first | rfl | simp)) (subL_cons (lkv rfl (by first | rfl | simp)) (subL_cons (lkv rfl (by first | rfl | simp)) (subL_nil _))))))))) (fun w' h => ⟨hN0, Nat.zero_le _, w1, hJ1, hn1, h⟩) ?_
              rintro ⟨j, pre2, had2⟩
              refine cw_and (fun hN2 => ?_)
              refine cw_and (fun hlej => ?_)
              refine cw_ex (fun w2 => ?_)
              refine cw_and (fun hJ2 => ?_)
              refine cw_and (fun hn2 => ?_)
              simp only at hN2 hlej hJ2
              have hsl2 := hN2.so
              have hle2 := hG1.le (hadO 4 had2)
              have hle2t := hl1.trans hle2
              have hhb2 := CellsAt.had (σ := τ) (hb := hb) (e := 4) (had := had2)
              have hE2 : EngC (ext τ hb (hadO 4 had2)) be hb its had2 := ⟨_, ch, by rw [show had2.length = its.length from hsl2.1]; exact hcE.le hle2t, ItemsV.le hle2t ⟨_, ci, rfl, hci, hsi0⟩, hhb2⟩
              refine cw_seq ?_
              refine cw_region ?_
              refine ow_val rfl rfl (ex_lss rfl rfl) ?_
              refine ow_nil ?_
              refine qw_seq ?_
              refine cw_seq ?_
              refine cw_cond rfl (fun c60 => ?_) (fun c60 => ?_)
              ·
                have hltj : j < its[i].ments.length := by have := of_decide_eq_true c60; omega
                obtain ⟨bm2, om2, rfl, hca⟩ := hsm.resolve_left (fun hn => by rw [hn] at hltj; simp at hltj)
                have hmv := hok.mv _ hmem _ (List.getElem_mem hltj)
                obtain ⟨km, hkm⟩ : ∃ km : Nat, its[i].ments[j] = (km : Int) := ⟨its[i].ments[j].toNat, by omega⟩
                have hcm9 := hca.int hltj
                rw [hkm] at hcm9
                refine cw_skip ?_
                refine qw_seq ?_
                refine cw_seq ?_
                refine cw_block ?_
                refine cw_seq ?_
                refine cw_region ?_
                refine ow_val rfl rfl (ex_index_nat (i := j) rfl rfl hltj) ?_
                refine ow_val rfl rfl (ex_load1 rfl (ld_imm1 (hcm9.le hle2t))) ?_
                refine ow_val rfl rfl (ex_assign rfl) ?_
                refine ow_nil ?_
                refine qw_seq ?_
                refine cw_seq ?_
                refine cw_regionI 9 ?_
                refine oi_val wide_fn (fun c h => (by cases h)) rfl rfl (ex_load1 rfl (ld_imm1 (hb1.le hle2t))) ?_
                refine oi_val wide_fn (fun c h => (by cases h)) rfl rfl (ex_nilck rfl) ?_
                refine oi_val wide_fn (fun c h => (by cases h)) rfl rfl (ex_field rfl) ?_
                refine oi_val wide_fn (fun c h => (by cases h)) rfl rfl (ex_load1 rfl (ld_imm1 ((hcE.le hle2t).fld (i := 1) rfl))) ?_
                refine oi_val wide_fn (fun c h => (by cases h)) rfl rfl (ex_move rfl) ?_
                refine oi_val wide_fn (fun c h => (by cases h)) rfl rfl (ex_index_nat (i := km) rfl rfl (by omega)) ?_
                refine oi_val wide_fn (fun c h => (by cases h)) rfl rfl (ex_load1 rfl (ld_imm1 (hhb2.bool (i := km) (by have := hsl2.1; omega)))) ?_
                refine oi_val wide_fn (fun c h => (by cases h)) rfl rfl (ex_not rfl) ?_
                refine oi_val wide_fn (fun c h => (by cases h)) rfl rfl (ex_move rfl) ?_
                refine oi_split (g := some (8, true)) rfl (fun s71 => ?_) (fun s71 => ?_)
                ·
                  refine oi_val wide_fn (fun c h => (by cases h)) rfl (gd_go rfl s71) (ex_move rfl) ?_
                  refine oi_val wide_fn (fun c h => (by cases h)) rfl (gd_go rfl s71) (ex_move rfl) ?_
                  refine oi_yield rfl (gd_go rfl s71) rfl rfl (fun w h => hY pre2 ⟨km, by omega, by have h8 := hN2.so.opened hlt (hN2.o4 hlt).1 (hN2.o4 hlt).2.1 (hN2.o4 hlt).2.2 (List.getElem_mem hltj); rwa [hkm, Int.toNat_natCast] at h8⟩ w (hJ pre2 w2 w none hJ2 (grown_of_below h.ag.below) (fun r e => by cases e)) (by have := hN2.ln; have := bnd_le hlei; rw [bnd_succ]; omega)) (fun w e w' h => by rcases h with ⟨h, _⟩ | ⟨h, _⟩ <;> exact ⟨_, h⟩) (fun yv => ?_)
                  refine oi_val wide_fn (fun c h => (by cases h)) rfl (gd_go rfl s71) (ex_not rfl) ?_
                  refine oi_val wide_fn (fun c h => (by cases h)) rfl rfl (ex_pickt rfl s71 rfl) ?_
                  refine oi_nil ?_
                  refine qw_seq ?_
                  refine cw_cond rfl (fun c76 => ?_) (fun c76 => ?_)
                  ·
                    have hyv : yv = false := by simpa using c76
                    subst hyv
                    refine cw_ret ?_
                    refine qw_block_ret ?_
                    refine qw_then_ret ?_
                    refine qw_then_ret ?_
                    refine qw_block_ret ?_
                    refine qw_block_ret ?_
                    refine qw_then_ret ?_
                    refine qw_then_ret ?_
                    refine qw_block_ret ?_
                    refine qw_ret0 rfl (fun w' h => ?_)
                    first
                    | exact ⟨⟨_, rfl⟩, .inl ⟨pre, hI.over (by have := of_decide_eq_false c13; omega), hJ pre w0 w' none hJ0 (grown_of_below h.ag.below) (fun r e => by cases e)⟩⟩
                    | (obtain ⟨w9, _, h9⟩ := h
                       rcases h9 with ⟨e9, _⟩ | ⟨_, h9⟩
                       · cases e9
                       · exact ⟨⟨_, rfl⟩, .inr ⟨_, trivial, h9⟩⟩)
                  ·
                    have hyv : yv = true := by simpa using c76
                    subst hyv
                    refine cw_skip ?_
                    refine qw_block_normal ?_
                    refine qw_seq ?_
                    refine cw_mono (S' := fun w' => ∃ pre3 had3 w3, ItN its known had0 i (j + 1) pre3 had3 ∧ J pre3 w3 ∧ n₀ ≤ w3.heap.size ∧ St w3 (fun _ => False) (ext τ hb (hadO 4 had3)) [] [] w') (fun w' h9 => ?_) ?_
                    · first
                      | exact ⟨pre2, had2, w2, hN2.idle hlt hltj (by rw [hkm, hadAt_nat]; simpa using s71), hJ2, hn2, h9⟩
                      | (obtain ⟨w9, hs9, h9⟩ := h9
                         rcases h9 with ⟨_, hJ9, hk9⟩ | ⟨e9, _⟩
                         · obtain ⟨had9, a1, a2, a3⟩ := hk9.st hG1 hs9 hN2.so
                           exact ⟨_, had9, w', hN2.yields (by simpa using s71) a1 a2, hJ9, Nat.le_trans (Nat.le_trans hn2 hs9.ag.size) hk9.sz, a3⟩
                         · cases e9)
                    refine cw_ex (fun pre3 => ?_)
                    refine cw_ex (fun had3 => ?_)
                    refine cw_ex (fun w3 => ?_)
                    refine cw_and (fun hM3 => ?_)
                    refine cw_and (fun hJ3 => ?_)
                    refine cw_and (fun hn3 => ?_)
                    have hsl3 := hM3.so
                    refine cw_region ?_
                    refine ow_val rfl rfl (ex_addi (z := ((j + 1 : Nat) : Int)) rfl rfl (by omega) (by omega) (by omega)) ?_
                    refine ow_val rfl rfl (ex_move rfl) ?_
                    refine ow_nil ?_
                    exact qw_round (j + 1, pre3, had3) (by show its[i].ments.length - (j + 1) < its[i].ments.length - j; omega) (subL_cons (lkv rfl (by first | rfl | simp)) (subL_cons (lkv rfl (by first | rfl | simp)) (subL_cons (lkv rfl (by first | rfl | simp)) (subL_cons (lkv rfl (by first | rfl | simp)) (subL_cons (lkv rfl (by first | rfl | simp)) (subL_cons (lkv rfl (by first | rfl | simp)) (subL_cons (lkv rfl (by first | rfl | simp)) (subL_cons (lkv rfl (by first | rfl | simp)) (subL_nil _))))))))) (fun w' h => ⟨hM3, by show j + 1 ≤ its[i].ments.length; omega, w3, hJ3, hn3, h⟩)
                ·
                  refine oi_skip wide_fn rfl (gd_no rfl s71) ?_
                  refine oi_skip wide_fn rfl (gd_no rfl s71) ?_
                  refine oi_skip wide_fn rfl (gd_no rfl s71) ?_
                  refine oi_skip wide_fn rfl (gd_no rfl s71) ?_
                  refine oi_val wide_fn (fun c h => (by cases h)) rfl rfl (ex_pickf rfl s71 rfl) ?_
                  refine oi_nil ?_
                  refine qw_seq ?_
                  refine cw_cond_f rfl ?_
                  refine cw_skip ?_
                  refine qw_block_normal ?_
                  refine qw_seq ?_
                  refine cw_mono (S' := fun w' => ∃ pre3 had3 w3, ItN its known had0 i (j + 1) pre3 had3 ∧ J pre3 w3 ∧ n₀ ≤ w3.heap.size ∧ St w3 (fun _ => False) (ext τ hb (hadO 4 had3)) [] [] w') (fun w' h9 => ?_) ?_
                  · first
                    | exact ⟨pre2, had2, w2, hN2.idle hlt hltj (by rw [hkm, hadAt_nat]; simpa using s71), hJ2, hn2, h9⟩
                    | (obtain ⟨w9, hs9, h9⟩ := h9
                       rcases h9 with ⟨_, hJ9, hk9⟩ | ⟨e9, _⟩
                       · obtain ⟨had9, a1, a2, a3⟩ := hk9.st hG1 hs9 hN2.so
                         exact ⟨_, had9, w', hN2.yields (by simpa using s71) a1 a2, hJ9, Nat.le_trans (Nat.le_trans hn2 hs9.ag.size) hk9.sz, a3⟩
                       · cases e9)
                  refine cw_ex (fun pre3 => ?_)
                  refine cw_ex (fun had3 => ?_)
                  refine cw_ex (fun w3 => ?_)
                  refine cw_and (fun hM3 => ?_)
                  refine cw_and (fun hJ3 => ?_)
                  refine cw_and (fun hn3 => ?_)
                  have hsl3 := hM3.so
                  refine cw_region ?_
                  refine ow_val rfl rfl (ex_addi (z := ((j + 1 : Nat) : Int)) rfl rfl (by omega) (by omega) (by omega)) ?_
                  refine ow_val rfl rfl (ex_move rfl) ?_
                  refine ow_nil ?_
                  exact qw_round (j + 1, pre3, had3) (by show its[i].ments.length - (j + 1) < its[i].ments.length - j; omega) (subL_cons (lkv rfl (by first | rfl | simp)) (subL_cons (lkv rfl (by first | rfl | simp)) (subL_cons (lkv rfl (by first | rfl | simp)) (subL_cons (lkv rfl (by first | rfl | simp)) (subL_cons (lkv rfl (by first | rfl | simp)) (subL_cons (lkv rfl (by first | rfl | simp)) (subL_cons (lkv rfl (by first | rfl | simp)) (subL_cons (lkv rfl (by first | rfl | simp)) (subL_nil _))))))))) (fun w' h => ⟨hM3, by show j + 1 ≤ its[i].ments.length; omega, w3, hJ3, hn3, h⟩)
              ·
                have hej : its[i].ments.length ≤ j := by have := of_decide_eq_false c60; omega
                refine cw_exit ?_
                refine qw_then_exit ?_
                refine qw_then_exit ?_
                refine qw_block_exit ?_
                refine qw_block_normal ?_
                refine qw_seq ?_
                refine cw_region ?_
                refine ow_val rfl rfl (ex_addi (z := ((i + 1 : Nat) : Int)) rfl rfl (by omega) (by omega) (by omega)) ?_
                refine ow_val rfl rfl (ex_move rfl) ?_
                refine ow_nil ?_
                exact qw_round (i + 1, pre2, had2) (by show its.length - (i + 1) < its.length - i; omega) (subL_cons (lkv rfl (by first | rfl | simp)) (subL_cons (lkv rfl (by first | rfl | simp)) (subL_cons (lkv rfl (by first | rfl | simp)) (subL_cons (lkv rfl (by first | rfl | simp)) (subL_cons (lkv rfl (by first | rfl | simp)) (subL_nil _)))))) (fun w' h => ⟨hN2.next hlt (by omega) (by omega), by show i + 1 ≤ its.length; omega, w2, hJ2, hn2, h.down (ext_le hl1 _ _)⟩)
    ·
      refine oi_skip wide_fn rfl (gd_no rfl s25) ?_
      refine oi_skip wide_fn rfl (gd_no rfl s25) ?_
      refine oi_skip wide_fn rfl (gd_no rfl s25) ?_
      refine oi_val wide_fn (fun c h => (by cases h)) rfl rfl (ex_pickf rfl s25 rfl) ?_
      refine oi_val wide_fn (fun c h => (by cases h)) rfl rfl (ex_move rfl) ?_
      refine oi_skip wide_fn rfl rfl ?_
      refine oi_skip wide_fn rfl rfl ?_
      refine oi_skip wide_fn rfl rfl ?_
      refine oi_skip wide_fn rfl rfl ?_
      refine oi_val wide_fn (fun c h => (by cases h)) rfl rfl (ex_pick_f rfl rfl) ?_
      refine oi_nil ?_
      refine qw_seq ?_
      refine cw_cond_f rfl ?_
      refine cw_skip ?_
      refine qw_seq ?_
      refine cw_seq ?_
      refine cw_seq ?_
      refine cw_mono (S' := fun w' => ∃ pre1 had1 w1, ItM its known had0 i pre1 had1 ∧ J pre1 w1 ∧ n₀ ≤ w1.heap.size ∧ St w1 (fun _ => False) (ext τ hb (hadO 4 had1)) [] [] w') (fun w' h9 => ?_) ?_
      · first
        | exact ⟨pre, had, w0, hI.idle (fun _ hm9 => by first | (simpa using s25) | (rw [show (madeB its had its[i]) = false from s30] at hm9; cases hm9)), hJ0, hn0, h9⟩
        | (obtain ⟨w9, hs9, h9⟩ := h9
           rcases h9 with ⟨_, hJ9, hk9⟩ | ⟨e9, _⟩
           · obtain ⟨had9, a1, a2, a3⟩ := hk9.st hG1 hs9 hI.so
             exact ⟨_, had9, w', hI.yields (by simpa using s25) a1 a2, hJ9, Nat.le_trans (Nat.le_trans hn0 hs9.ag.size) hk9.sz, a3⟩
           · cases e9)
      refine cw_ex (fun pre1 => ?_)
      refine cw_ex (fun had1 => ?_)
      refine cw_ex (fun w1 => ?_)
      refine cw_and (fun hM1 => ?_)
      refine cw_and (fun hJ1 => ?_)
      refine cw_and (fun hn1 => ?_)
      have hsl1 := hM1.so
      have hle1 := hG1.le (hadO 4 had1)
      have hle1t := hl1.trans hle1
      have hhb1 := CellsAt.had (σ := τ) (hb := hb) (e := 4) (had := had1)
      have hE1 : EngC (ext τ hb (hadO 4 had1)) be hb its had1 := ⟨_, ch, by rw [show had1.length = its.length from hsl1.1]; exact hcE.le hle1t, ItemsV.le hle1t ⟨_, ci, rfl, hci, hsi0⟩, hhb1⟩
      refine cw_region ?_
      refine ow_val rfl rfl (ex_field rfl) ?_
      refine ow_val rfl rfl (ex_load1 rfl (ld_imm1 ((hc4.le hle1).fld (i := 0) rfl))) ?_
      refine ow_val rfl rfl (ex_neq rfl rfl) ?_
      refine ow_val rfl rfl (ex_move rfl) ?_
      refine ow_split (g := some (3, false)) rfl (fun s39 => ?_) (fun s39 => ?_)
      ·
        refine ow_skip rfl (gd_no rfl s39) ?_
        refine ow_skip rfl (gd_no rfl s39) ?_
        refine ow_skip rfl (gd_no rfl s39) ?_
        refine ow_skip rfl (gd_no rfl s39) ?_
        refine ow_skip rfl (gd_no rfl s39) ?_
        refine ow_skip rfl (gd_no rfl s39) ?_
        refine ow_skip rfl (gd_no rfl s39) ?_
        refine ow_skip rfl (gd_no rfl s39) ?_
        refine ow_val rfl rfl (ex_pickt rfl s39 rfl) ?_
        refine ow_val rfl rfl (ex_move rfl) ?_
        refine ow_skip rfl rfl ?_
        refine ow_skip rfl rfl ?_
        refine ow_skip rfl rfl ?_
        refine ow_skip rfl rfl ?_
        refine ow_skip rfl rfl ?_
        refine ow_val rfl rfl (ex_pick_t rfl rfl) ?_
        refine ow_nil ?_
        refine qw_seq ?_
        refine cw_cond_t rfl ?_
        refine cw_exit ?_
        refine qw_then_exit ?_
        refine qw_block_exit ?_
        refine qw_seq ?_
        refine cw_region ?_
        refine ow_val rfl rfl (ex_addi (z := ((i + 1 : Nat) : Int)) rfl rfl (by omega) (by omega) (by omega)) ?_
        refine ow_val rfl rfl (ex_move rfl) ?_
        refine ow_nil ?_
        exact qw_round (i + 1, pre1, had1) (by show its.length - (i + 1) < its.length - i; omega) (subL_cons (lkv rfl (by first | rfl | simp)) (subL_cons (lkv rfl (by first | rfl | simp)) (subL_cons (lkv rfl (by first | rfl | simp)) (subL_cons (lkv rfl (by first | rfl | simp)) (subL_cons (lkv rfl (by first | rfl | simp)) (subL_nil _)))))) (fun w' h => ⟨hM1.next (fun _ q1 q2 q3 => by first | exact (of_decide_eq_true s39) q1 | (rw [q2] at s49; exact absurd s49 (by decide)) | (rw [q3] at c55; exact absurd c55 (by decide))), by show i + 1 ≤ its.length; omega, w1, hJ1, hn1, h.down (ext_le hl1 _ _)⟩)
      ·
        refine ow_val rfl (gd_go rfl s39) (ex_load1 rfl (ld_imm1 (hb1.le hle1t))) ?_
        refine ow_val rfl (gd_go rfl s39) (ex_nilck rfl) ?_
        refine ow_val rfl (gd_go rfl s39) (ex_field rfl) ?_
        refine ow_val rfl (gd_go rfl s39) (ex_load1 rfl (ld_imm1 ((hcE.le hle1t).fld (i := 1) rfl))) ?_
        refine ow_val rfl (gd_go rfl s39) (ex_move rfl) ?_
        refine ow_val rfl (gd_go rfl s39) (ex_index_nat (i := i) rfl rfl hlt) ?_
        refine ow_val rfl (gd_go rfl s39) (ex_load1 rfl (ld_imm1 (hhb1.bool (i := i) (by have := hsl1.1; omega)))) ?_
        refine ow_val rfl (gd_go rfl s39) (ex_not rfl) ?_
        refine ow_val rfl rfl (ex_pickf rfl s39 rfl) ?_
        refine ow_val rfl rfl (ex_move rfl) ?_
        refine ow_split (g := some (13, false)) rfl (fun s49 => ?_) (fun s49 => ?_)
        ·
          refine ow_skip rfl (gd_no rfl s49) ?_
          refine ow_skip rfl (gd_no rfl s49) ?_
          refine ow_skip rfl (gd_no rfl s49) ?_
          refine ow_skip rfl (gd_no rfl s49) ?_
          refine ow_skip rfl (gd_no rfl s49) ?_
          refine ow_val rfl rfl (ex_pickt rfl s49 rfl) ?_
          refine ow_nil ?_
          refine qw_seq ?_
          refine cw_cond_t rfl ?_
          refine cw_exit ?_
          refine qw_then_exit ?_
          refine qw_block_exit ?_
          refine qw_seq ?_
          refine cw_region ?_
          refine ow_val rfl rfl (ex_addi (z := ((i + 1 : Nat) : Int)) rfl rfl (by omega) (by omega) (by omega)) ?_
          refine ow_val rfl rfl (ex_move rfl) ?_
          refine ow_nil ?_
          exact qw_round (i + 1, pre1, had1) (by show its.length - (i + 1) < its.length - i; omega) (subL_cons (lkv rfl (by first | rfl | simp)) (subL_cons (lkv rfl (by first | rfl | simp)) (subL_cons (lkv rfl (by first | rfl | simp)) (subL_cons (lkv rfl (by first | rfl | simp)) (subL_cons (lkv rfl (by first | rfl | simp)) (subL_nil _)))))) (fun w' h => ⟨hM1.next (fun _ q1 q2 q3 => by first | exact (of_decide_eq_true s39) q1 | (rw [q2] at s49; exact absurd s49 (by decide)) | (rw [q3] at c55; exact absurd c55 (by decide))), by show i + 1 ≤ its.length; omega, w1, hJ1, hn1, h.down (ext_le hl1 _ _)⟩)
        ·
          refine ow_val rfl (gd_go rfl s49) (ex_load1 rfl (ld_imm1 (hb1.le hle1t))) ?_
          refine ow_val rfl (gd_go rfl s49) (ex_field rfl) ?_
          refine ow_val rfl (gd_go rfl s49) (ex_load1 rfl (ld_imm1 ((hc4.le hle1).fld (i := 1) rfl))) ?_
          refine ow_cv rfl (gd_go rfl s49) (ex_callf rfl (fun w h => callB ((pAllE h.im hE1 (hyk.le hle1t) (by have := hok.kl _ hmem; omega) (fun z hz => by rw [hsl1.1]; exact hok.kv _ hmem z hz))))) ?_
          refine ow_val rfl (gd_go rfl s49) (ex_not rfl) ?_
          refine ow_val rfl rfl (ex_pickf rfl s49 rfl) ?_
          refine ow_nil ?_
          refine qw_seq ?_
          refine cw_cond rfl (fun c55 => ?_) (fun c55 => ?_)
          ·
            refine cw_exit ?_
            refine qw_then_exit ?_
            refine qw_block_exit ?_
            refine qw_seq ?_
            refine cw_region ?_
            refine ow_val rfl rfl (ex_addi (z := ((i + 1 : Nat) : Int)) rfl rfl (by omega) (by omega) (by omega)) ?_
            refine ow_val rfl rfl (ex_move rfl) ?_
            refine ow_nil ?_
            exact qw_round (i + 1, pre1, had1) (by show its.length - (i + 1) < its.length - i; omega) (subL_cons (lkv rfl (by first | rfl | simp)) (subL_cons (lkv rfl (by first | rfl | simp)) (subL_cons (lkv rfl (by first | rfl | simp)) (subL_cons (lkv rfl (by first | rfl | simp)) (subL_cons (lkv rfl (by first | rfl | simp)) (subL_nil _)))))) (fun w' h => ⟨hM1.next (fun _ q1 q2 q3 => by first | exact (of_decide_eq_true s39) q1 | (rw [q2] at s49; exact absurd s49 (by decide)) | (rw [q3] at c55; exact absurd c55 (by decide))), by show i + 1 ≤ its.length; omega, w1, hJ1, hn1, h.down (ext_le hl1 _ _)⟩)
          ·
            have hN0 := hM1.opens (fun _ => ⟨by simpa using s39, by simpa using s49, by simpa using c55⟩)
            refine cw_skip ?_
            refine qw_seq ?_
            refine cw_seq ?_
            refine cw_region ?_
            refine ow_val rfl rfl (ex_field rfl) ?_
            refine ow_val rfl rfl (ex_load1 rfl (ld_imm1 ((hc4.le hle1).fld (i := 2) rfl))) ?_
            refine ow_val rfl rfl (ex_len (ty := 0) rfl) ?_
            refine ow_val rfl rfl (ex_move rfl) ?_
            refine ow_nil ?_
            refine qw_seq ?_
            refine cw_block ?_
            refine cw_loop (fun x : Nat × List (Hx its known) × List Bool => [(0, .func (.yield l) #[] #[]), (1, .pointer (some ⟨b1, 0, none⟩)), (10, .slice (some ⟨bi, oi, none⟩) its.length ci), (11, .int .i64 (its.length : Int)), (12, .int .i64 (i : Int)), (57, .slice pm its[i].ments.length cm), (58, .int .i64 (its[i].ments.length : Int)), (59, .int .i64 (x.1 : Int))]) (fun x w' => ItN its known had0 i x.1 x.2.1 x.2.2 ∧ x.1 ≤ its[i].ments.length ∧ ∃ w0, J x.2.1 w0 ∧ n₀ ≤ w0.heap.size ∧ St w0 (fun _ => False) (ext τ hb (hadO 4 x.2.2)) [] [] w') (fun x => its[i].ments.length - x.1) (0, pre1, had1) (subL_cons (lkv rfl (by first | rfl | simp)) (subL_cons (lkv rfl (by first | rfl | simp)) (subL_cons (lkv rfl (by first | rfl | simp)) (subL_cons (lkv rfl (by first | rfl | simp)) (subL_cons (lkv rfl (by first | rfl | simp)) (subL_cons (lkv rfl (by first | rfl | simp)) (subL_cons (lkv rfl (by first | rfl | simp)) (subL_cons (lkv rfl (by first | rfl | simp)) (subL_nil _))))))))) (fun w' h => ⟨hN0, Nat.zero_le _, w1, hJ1, hn1, h⟩) ?_
            rintro ⟨j, pre2, had2⟩
            refine cw_and (fun hN2 => ?_)
            refine cw_and (fun hlej => ?_)
            refine cw_ex (fun w2 => ?_)
            refine cw_and (fun hJ2 => ?_)
            refine cw_and (fun hn2 => ?_)
            simp only at hN2 hlej hJ2
            have hsl2 := hN2.so
            have hle2 := hG1.le (hadO 4 had2)
            have hle2t := hl1.trans hle2
            have hhb2 := CellsAt.had (σ := τ) (hb := hb) (e := 4) (had := had2)
            have hE2 : EngC (ext τ hb (hadO 4 had2)) be hb its had2 := ⟨_, ch, by rw [show had2.length = its.length from hsl2.1]; exact hcE.le hle2t, ItemsV.le hle2t ⟨_, ci, rfl, hci, hsi0⟩, hhb2⟩
            refine cw_seq ?_
            refine cw_region ?_
            refine ow_val rfl rfl (ex_lss rfl rfl) ?_
            refine ow_nil ?_
            refine qw_seq ?_
            refine cw_seq ?_
            refine cw_cond rfl (fun c60 => ?_) (fun c60 => ?_)
            ·
              have hltj : j < its[i].ments.length := by have := of_decide_eq_true c60; omega
              obtain ⟨bm2, om2, rfl, hca⟩ := hsm.resolve_left (fun hn => by rw [hn] at hltj; simp at hltj)
              have hmv := hok.mv _ hmem _ (List.getElem_mem hltj)
              obtain ⟨km, hkm⟩ : ∃ km : Nat, its[i].ments[j] = (km : Int) := ⟨its[i].ments[j].toNat, by omega⟩
              have hcm9 := hca.int hltj
              rw [hkm] at hcm9
              refine cw_skip ?_
              refine qw_seq ?_
              refine cw_seq ?_
              refine cw_block ?_
              refine cw_seq ?_
              refine cw_region ?_
              refine ow_val rfl rfl (ex_index_nat (i := j) rfl rfl hltj) ?_
              refine ow_val rfl rfl (ex_load1 rfl (ld_imm1 (hcm9.le hle2t))) ?_
              refine ow_val rfl rfl (ex_assign rfl) ?_
              refine ow_nil ?_
              refine qw_seq ?_
              refine cw_seq ?_
              refine cw_regionI 9 ?_
              refine oi_val wide_fn (fun c h => (by cases h)) rfl rfl (ex_load1 rfl (ld_imm1 (hb1.le hle2t))) ?_
              refine oi_val wide_fn (fun c h => (by cases h)) rfl rfl (ex_nilck rfl) ?_
              refine oi_val wide_fn (fun c h => (by cases h)) rfl rfl (ex_field rfl) ?_
              refine oi_val wide_fn (fun c h => (by cases h)) rfl rfl (ex_load1 rfl (ld_imm1 ((hcE.le hle2t).fld (i := 1) rfl))) ?_
              refine oi_val wide_fn (fun c h => (by cases h)) rfl rfl (ex_move rfl) ?_
              refine oi_val wide_fn (fun c h => (by cases h)) rfl rfl (ex_index_nat (i := km) rfl rfl (by omega)) ?_
              refine oi_val wide_fn (fun c h => (by cases h)) rfl rfl (ex_load1 rfl (ld_imm1 (hhb2.bool (i := km) (by have := hsl2.1; omega)))) ?_
              refine oi_val wide_fn (fun c h => (by cases h)) rfl rfl (ex_not rfl) ?_
              refine oi_val wide_fn (fun c h => (by cases h)) rfl rfl (ex_move rfl) ?_
              refine oi_split (g := some (8, true)) rfl (fun s71 => ?_) (fun s71 => ?_)
              ·
                refine oi_val wide_fn (fun c h => (by cases h)) rfl (gd_go rfl s71) (ex_move rfl) ?_
                refine oi_val wide_fn (fun c h => (by cases h)) rfl (gd_go rfl s71) (ex_move rfl) ?_
                refine oi_yield rfl (gd_go rfl s71) rfl rfl (fun w h => hY pre2 ⟨km, by omega, by have h8 := hN2.so.opened hlt (hN2.o4 hlt).1 (hN2.o4 hlt).2.1 (hN2.o4 hlt).2.2 (List.getElem_mem hltj); rwa [hkm, Int.toNat_natCast] at h8⟩ w (hJ pre2 w2 w none hJ2 (grown_of_below h.ag.below) (fun r e => by cases e)) (by have := hN2.ln; have := bnd_le hlei; rw [bnd_succ]; omega)) (fun w e w' h => by rcases h with ⟨h, _⟩ | ⟨h, _⟩ <;> exact ⟨_, h⟩) (fun yv => ?_)
                refine oi_val wide_fn (fun c h => (by cases h)) rfl (gd_go rfl s71) (ex_not rfl) ?_
                refine oi_val wide_fn (fun c h => (by cases h)) rfl rfl (ex_pickt rfl s71 rfl) ?_
                refine oi_nil ?_
                refine qw_seq ?_
                refine cw_cond rfl (fun c76 => ?_) (fun c76 => ?_)
                ·
                  have hyv : yv = false := by simpa using c76
                  subst hyv
                  refine cw_ret ?_
                  refine qw_block_ret ?_
                  refine qw_then_ret ?_
                  refine qw_then_ret ?_
                  refine qw_block_ret ?_
                  refine qw_block_ret ?_
                  refine qw_then_ret ?_
                  refine qw_then_ret ?_
                  refine qw_block_ret ?_
                  refine qw_ret0 rfl (fun w' h => ?_)
                  first
                  | exact ⟨⟨_, rfl⟩, .inl ⟨pre, hI.over (by have := of_decide_eq_false c13; omega), hJ pre w0 w' none hJ0 (grown_of_below h.ag.below) (fun r e => by cases e)⟩⟩
                  | (obtain ⟨w9, _, h9⟩ := h
                     rcases h9 with ⟨e9, _⟩ | ⟨_, h9⟩
                     · cases e9
                     · exact ⟨⟨_, rfl⟩, .inr ⟨_, trivial, h9⟩⟩)
                ·
                  have hyv : yv = true := by simpa using c76
                  subst hyv
                  refine cw_skip ?_
                  refine qw_block_normal ?_
                  refine qw_seq ?_
                  refine cw_mono (S' := fun w' => ∃ pre3 had3 w3, ItN its known had0 i (j + 1) pre3 had3 ∧ J pre3 w3 ∧ n₀ ≤ w3.heap.size ∧ St w3 (fun _ => False) (ext τ hb (hadO 4 had3)) [] [] w') (fun w' h9 => ?_) ?_
                  · first
                    | exact ⟨pre2, had2, w2, hN2.idle hlt hltj (by rw [hkm, hadAt_nat]; simpa using s71), hJ2, hn2, h9⟩
                    | (obtain ⟨w9, hs9, h9⟩ := h9
                       rcases h9 with ⟨_, hJ9, hk9⟩ | ⟨e9, _⟩
                       · obtain ⟨had9, a1, a2, a3⟩ := hk9.st hG1 hs9 hN2.so
                         exact ⟨_, had9, w', hN2.yields (by simpa using s71) a1 a2, hJ9, Nat.le_trans (Nat.le_trans hn2 hs9.ag.size) hk9.sz, a3⟩
                       · cases e9)
                  refine cw_ex (fun pre3 => ?_)
                  refine cw_ex (fun had3 => ?_)
                  refine cw_ex (fun w3 => ?_)
                  refine cw_and (fun hM3 => ?_)
                  refine cw_and (fun hJ3 => ?_)
                  refine cw_and (fun hn3 => ?_)
                  have hsl3 := hM3.so
                  refine cw_region ?_
                  refine ow_val rfl rfl (ex_addi (z := ((j + 1 : Nat) : Int)) rfl rfl (by omega) (by omega) (by omega)) ?_
                  refine ow_val rfl rfl (ex_move rfl) ?_
                  refine ow_nil ?_
                  exact qw_round (j + 1, pre3, had3) (by show its[i].ments.length - (j + 1) < its[i].ments.length - j; omega) (subL_cons (lkv rfl (by first | rfl | simp)) (subL_cons (lkv rfl (by first | rfl | simp)) (subL_cons (lkv rfl (by first | rfl | simp)) (subL_cons (lkv rfl (by first | rfl | simp)) (subL_cons (lkv rfl (by first | rfl | simp)) (subL_cons (lkv rfl (by first | rfl | simp)) (subL_cons (lkv rfl (by first | rfl | simp)) (subL_cons (lkv rfl (by first | rfl | simp)) (subL_nil _))))))))) (fun w' h => ⟨hM3, by show j + 1 ≤ its[i].ments.length; omega, w3, hJ3, hn3, h⟩)
              ·
                refine oi_skip wide_fn rfl (gd_no rfl s71) ?_
                refine oi_skip wide_fn rfl (gd_no rfl s71) ?_
                refine oi_skip wide_fn rfl (gd_no rfl s71) ?_
                refine oi_skip wide_fn rfl (gd_no rfl s71) ?_
                refine oi_val wide_fn (fun c h => (by cases h)) rfl rfl (ex_pickf rfl s71 rfl) ?_
                refine oi_nil ?_
                refine qw_seq ?_
                refine cw_cond_f rfl ?_
                refine cw_skip ?_
                refine qw_block_normal ?_
                refine qw_seq ?_
                refine cw_mono (S' := fun w' => ∃ pre3 had3 w3, ItN its known had0 i (j + 1) pre3 had3 ∧ J pre3 w3 ∧ n₀ ≤ w3.heap.size ∧ St w3 (fun _ => False) (ext τ hb (hadO 4 had3)) [] [] w') (fun w' h9 => ?_) ?_
                · first
                  | exact ⟨pre2, had2, w2, hN2.idle hlt hltj (by rw [hkm, hadAt_nat]; simpa using s71), hJ2, hn2, h9⟩
                  | (obtain ⟨w9, hs9, h9⟩ := h9
                     rcases h9 with ⟨_, hJ9, hk9⟩ | ⟨e9, _⟩
                     · obtain ⟨had9, a1, a2, a3⟩ := hk9.st hG1 hs9 hN2.so
                       exact ⟨_, had9, w', hN2.yields (by simpa using s71) a1 a2, hJ9, Nat.le_trans (Nat.le_trans hn2 hs9.ag.size) hk9.sz, a3⟩
                     · cases e9)
                refine cw_ex (fun pre3 => ?_)
                refine cw_ex (fun had3 => ?_)
                refine cw_ex (fun w3 => ?_)
                refine cw_and (fun hM3 => ?_)
                refine cw_and (fun hJ3 => ?_)
                refine cw_and (fun hn3 => ?_)
                have hsl3 := hM3.so
                refine cw_region ?_
                refine ow_val rfl rfl (ex_addi (z := ((j + 1 : Nat) : Int)) rfl rfl (by omega) (by omega) (by omega)) ?_
                refine ow_val rfl rfl (ex_move rfl) ?_
                refine ow_nil ?_
                exact qw_round (j + 1, pre3, had3) (by show its[i].ments.length - (j + 1) < its[i].ments.length - j; omega) (subL_cons (lkv rfl (by first | rfl | simp)) (subL_cons (lkv rfl (by first | rfl | simp)) (subL_cons (lkv rfl (by first | rfl | simp)) (subL_cons (lkv rfl (by first | rfl | simp)) (subL_cons (lkv rfl (by first | rfl | simp)) (subL_cons (lkv rfl (by first | rfl | simp)) (subL_cons (lkv rfl (by first | rfl | simp)) (subL_cons (lkv rfl (by first | rfl | simp)) (subL_nil _))))))))) (fun w' h => ⟨hM3, by show j + 1 ≤ its[i].ments.length; omega, w3, hJ3, hn3, h⟩)
            ·
              have hej : its[i].ments.length ≤ j := by have := of_decide_eq_false c60; omega
              refine cw_exit ?_
              refine qw_then_exit ?_
              refine qw_then_exit ?_
              refine qw_block_exit ?_
              refine qw_block_normal ?_
              refine qw_seq ?_
              refine cw_region ?_
              refine ow_val rfl rfl (ex_addi (z := ((i + 1 : Nat) : Int)) rfl rfl (by omega) (by omega) (by omega)) ?_
              refine ow_val rfl rfl (ex_move rfl) ?_
              refine ow_nil ?_
              exact qw_round (i + 1, pre2, had2) (by show its.length - (i + 1) < its.length - i; omega) (subL_cons (lkv rfl (by first | rfl | simp)) (subL_cons (lkv rfl (by first | rfl | simp)) (subL_cons (lkv rfl (by first | rfl | simp)) (subL_cons (lkv rfl (by first | rfl | simp)) (subL_cons (lkv rfl (by first | rfl | simp)) (subL_nil _)))))) (fun w' h => ⟨hN2.next hlt (by omega) (by omega), by show i + 1 ≤ its.length; omega, w2, hJ2, hn2, h.down (ext_le hl1 _ _)⟩)
  ·
    refine cw_exit ?_
    refine qw_then_exit ?_
    refine qw_then_exit ?_
    refine qw_block_exit ?_
    refine qw_end0 rfl (fun w' h => ?_)
    first
    | exact ⟨⟨_, rfl⟩, .inl ⟨pre, hI.over (by have := of_decide_eq_false c13; omega), hJ pre w0 w' none hJ0 (grown_of_below h.ag.below) (fun r e => by cases e)⟩⟩
    | (obtain ⟨w9, _, h9⟩ := h
       rcases h9 with ⟨e9, _⟩ | ⟨_, h9⟩
       · cases e9
       · exact ⟨⟨_, rfl⟩, .inr ⟨_, trivial, h9⟩⟩)
end Go.Proofs.YtnjomdjkbbhdoaaGreatDoor
namespace Go.Proofs.YtnjomdjkbbhdoaaGreatDoor
open Go.RowKit
set_option linter.unusedVariables false
set_option linter.unusedSimpArgs false
set_option maxRecDepth 100000
set_option maxHeartbeats 400000 in
theorem pMentionsO {d : List UInt8} {below : Int} {v : Value} {σ : Hp} {w : World} (hi : Imm σ w) (hd : BytesV σ v d) (hmx : d.length ≤ 17592186044415) : Calls Tryz.prog 50 #[v, .int .i64 below] w (GiveO 3 1 (mentS d below).length (intsV (mentS d below)) w) := by
  obtain ⟨p0, c0, rfl, hc0, _⟩ := hd.slice
  refine enter (St w (fun _ => False) σ [] []) Tryz.func50 rfl Tryz.ntmps50 rfl (St.start hi) ?_
  refine cw_seq ?_
  refine cw_region ?_
  refine ow_val rfl rfl (ex_assign rfl) ?_
  refine ow_nil ?_
  refine qw_seq ?_
  refine cw_seq ?_
  refine cw_region ?_
  refine ow_val rfl rfl (ex_assign rfl) ?_
  refine ow_nil ?_
  refine qw_seq ?_
  refine cw_seq ?_
  refine cw_block ?_
  refine cw_loop6 (fun (d' : List UInt8) (p : Option Addr) (c : Nat) (zs : List Int) (v5 : Value) (Gs : List (Nat × Obj)) => [(0, .slice p d'.length c), (1, .int .i64 below), (5, v5)]) (fun d' p c zs v5 Gs => BytesV σ (.slice p d'.length c) d' ∧ d'.length ≤ c ∧ OwnSl 3 1 v5 zs.length (intsV zs) Gs ∧ zs ++ mentL d' below = mentL d below) (fun d' p c zs v5 Gs => σ) (fun d' p c zs v5 Gs => Gs) (fun d' _ _ _ _ _ => d'.length) d p0 c0 [] (.slice none 0 0) [] (subL_cons (lkv rfl (by first | rfl | simp)) (subL_cons (lkv rfl (by first | rfl | simp)) (subL_cons (lkv rfl (by first | rfl | simp)) (subL_nil _)))) ⟨hd, hc0, OwnSl.nil _ _, rfl⟩ (fun w h => by simpa using h) ?_
  intro d' p c zs v5 Gs ⟨hdb, hcc, hO, heq⟩
  refine cw_seq ?_
  refine cw_seq ?_
  refine cw_region ?_
  refine ow_val rfl rfl (ex_move rfl) ?_
  refine ow_val rfl rfl (ex_len (ty := 0) rfl) ?_
  refine ow_val rfl rfl (ex_geq rfl rfl) ?_
  refine ow_nil ?_
  refine qw_seq ?_
  refine cw_cond rfl (fun c10 => ?_) (fun c10 => ?_)
  ·
    have h10 : 10 ≤ d'.length := by have := of_decide_eq_true c10; omega
    obtain ⟨bq, oq, rfl, hcq⟩ := hdb.ptr (by omega)
    have hlz : zs.length + (mentL d' below).length ≤ d.length := by rw [← List.length_append, heq]; exact mentL_len _ _
    refine cw_skip ?_
    refine qw_seq ?_
    refine cw_block ?_
    refine cw_seq ?_
    refine cw_seq ?_
    refine cw_region ?_
    refine ow_val rfl rfl (ex_move rfl) ?_
    refine ow_val rfl rfl (ex_slice (i := 2) (j := 10) rfl rfl rfl (by decide) (by omega)) ?_
    refine ow_cv rfl rfl (ex_callf rfl (fun w h => callB ((pNumber h.im (hdb.mid (i := 2) (j := 10) (by decide) (by omega)))))) ?_
    refine ow_val rfl rfl (ex_move rfl) ?_
    refine ow_val rfl rfl (ex_extract rfl rfl) ?_
    refine ow_val rfl rfl (ex_extract rfl rfl) ?_
    refine ow_val rfl rfl (ex_assign rfl) ?_
    refine ow_val rfl rfl (ex_assign rfl) ?_
    refine ow_nil ?_
    refine qw_seq ?_
    refine cw_seq ?_
    refine cw_region ?_
    refine ow_val rfl rfl (ex_move rfl) ?_
    refine ow_val rfl rfl (ex_move rfl) ?_
    refine ow_split (g := some (1, true)) rfl (fun s18 => ?_) (fun s18 => ?_)
    ·
      refine ow_val rfl (gd_go rfl s18) (ex_move rfl) ?_
      refine ow_val rfl (gd_go rfl s18) (ex_move rfl) ?_
      refine ow_val rfl (gd_go rfl s18) (ex_lss rfl rfl) ?_
      refine ow_val rfl rfl (ex_pickt rfl s18 rfl) ?_
      refine ow_val rfl rfl (ex_move rfl) ?_
      refine ow_split (g := some (6, true)) rfl (fun s23 => ?_) (fun s23 => ?_)
      ·
        refine ow_val rfl (gd_go rfl s23) (ex_move rfl) ?_
        refine ow_val rfl (gd_go rfl s23) (ex_slice_hi (j := 2) rfl rfl (by omega)) ?_
        refine ow_val rfl (gd_go rfl s23) (ex_tostr rfl (hdb.hi (j := 2) (by omega)) (fun w h => h.im)) ?_
        refine ow_val rfl (gd_go rfl s23) (ex_streql (b := [4, 8]) rfl rfl) ?_
        refine ow_val rfl rfl (ex_pickt rfl s23 rfl) ?_
        refine ow_nil ?_
        refine qw_seq ?_
        refine cw_cond rfl (fun c28 => ?_) (fun c28 => ?_)
        ·
          have hh : hitB d' below = true := by unfold hitB; rw [show (numB ((d'.drop 2).take 8)).2 = true from s18, show decide ((numB ((d'.drop 2).take 8)).1 < below) = true from s23, show (d'.take 2 == [4, 8]) = true from c28]; rfl
          have hmh := mentL_hit h10 hh
          rw [hmh] at hlz
          simp only [List.length_cons] at hlz
          refine cw_region ?_
          refine ow_val rfl rfl (ex_move rfl) ?_
          refine ow_val rfl rfl (ex_move rfl) ?_
          refine ow_slit rfl rfl (exw_slit1 rfl rfl) ?_; intro b31
          refine ow_app1 rfl rfl (exw_append1 (news := [.int .i64 (numB ((d'.drop 2).take 8)).1]) rfl rfl hO rfl (.inr ⟨_, _, rfl, (ld_ownN (k := 1) 0 rfl rfl).2⟩) (fun u hu => by simp at hu; subst hu; rfl) (by unfold maxLen; omega) (by omega)) (fun v32 G32 hO32 hz32 => ?_)
          refine ow_val rfl rfl (ex_assign rfl) ?_
          refine ow_nil ?_
          refine qw_seq ?_
          refine cw_region ?_
          refine ow_val rfl rfl (ex_move rfl) ?_
          refine ow_val rfl rfl (ex_slice_lo (i := 1) rfl rfl (by omega) (by omega)) ?_
          refine ow_val rfl rfl (ex_assign rfl) ?_
          refine ow_nil ?_
          refine qw_block_normal ?_
          exact qw_round6 (d'.drop 1) (if c = 1 then some ⟨bq, oq, none⟩ else (some ⟨bq, oq, none⟩ : Option Addr).map (·.add (1 * 1))) (c - 1) (zs ++ [(numB ((d'.drop 2).take 8)).1]) v32 G32 (by rw [List.length_drop]; omega) (subL_cons (lkv rfl (by first | rfl | simp)) (subL_cons (lkv rfl (by first | rfl | simp)) (subL_cons (lkv rfl (by first | rfl | simp)) (subL_nil _)))) ⟨by rw [List.length_drop]; exact hdb.lo (by omega), by rw [List.length_drop]; omega, by rw [intsV_app, List.length_append]; exact hO32, by rw [List.append_assoc, ← heq, hmh]; rfl⟩ (fun w h => h.drop (List.sublist_cons_self _ _))
        ·
          have hm : hitB d' below = false := by unfold hitB; rw [show (d'.take 2 == [4, 8]) = false from c28]; simp
          refine cw_skip ?_
          refine qw_seq ?_
          refine cw_region ?_
          refine ow_val rfl rfl (ex_move rfl) ?_
          refine ow_val rfl rfl (ex_slice_lo (i := 1) rfl rfl (by omega) (by omega)) ?_
          refine ow_val rfl rfl (ex_assign rfl) ?_
          refine ow_nil ?_
          refine qw_block_normal ?_
          exact qw_round6 (d'.drop 1) (if c = 1 then some ⟨bq, oq, none⟩ else (some ⟨bq, oq, none⟩ : Option Addr).map (·.add (1 * 1))) (c - 1) zs v5 Gs (by rw [List.length_drop]; omega) (subL_cons (lkv rfl (by first | rfl | simp)) (subL_cons (lkv rfl (by first | rfl | simp)) (subL_cons (lkv rfl (by first | rfl | simp)) (subL_nil _)))) ⟨by rw [List.length_drop]; exact hdb.lo (by omega), by rw [List.length_drop]; omega, hO, by rw [← heq, mentL_miss hm]⟩ (fun w h => h)
      ·
        have hm : hitB d' below = false := by unfold hitB; rw [show decide ((numB ((d'.drop 2).take 8)).1 < below) = false from s23]; simp
        refine ow_skip rfl (gd_no rfl s23) ?_
        refine ow_skip rfl (gd_no rfl s23) ?_
        refine ow_skip rfl (gd_no rfl s23) ?_
        refine ow_skip rfl (gd_no rfl s23) ?_
        refine ow_val rfl rfl (ex_pickf rfl s23 rfl) ?_
        refine ow_nil ?_
        refine qw_seq ?_
        refine cw_cond_f rfl ?_
        refine cw_skip ?_
        refine qw_seq ?_
        refine cw_region ?_
        refine ow_val rfl rfl (ex_move rfl) ?_
        refine ow_val rfl rfl (ex_slice_lo (i := 1) rfl rfl (by omega) (by omega)) ?_
        refine ow_val rfl rfl (ex_assign rfl) ?_
        refine ow_nil ?_
        refine qw_block_normal ?_
        exact qw_round6 (d'.drop 1) (if c = 1 then some ⟨bq, oq, none⟩ else (some ⟨bq, oq, none⟩ : Option Addr).map (·.add (1 * 1))) (c - 1) zs v5 Gs (by rw [List.length_drop]; omega) (subL_cons (lkv rfl (by first | rfl | simp)) (subL_cons (lkv rfl (by first | rfl | simp)) (subL_cons (lkv rfl (by first | rfl | simp)) (subL_nil _)))) ⟨by rw [List.length_drop]; exact hdb.lo (by omega), by rw [List.length_drop]; omega, hO, by rw [← heq, mentL_miss hm]⟩ (fun w h => h)
    ·
      have hm : hitB d' below = false := by unfold hitB; rw [show (numB ((d'.drop 2).take 8)).2 = false from s18]; rfl
      refine ow_skip rfl (gd_no rfl s18) ?_
      refine ow_skip rfl (gd_no rfl s18) ?_
      refine ow_skip rfl (gd_no rfl s18) ?_
      refine ow_val rfl rfl (ex_pickf rfl s18 rfl) ?_
      refine ow_val rfl rfl (ex_move rfl) ?_
      refine ow_skip rfl rfl ?_
      refine ow_skip rfl rfl ?_
      refine ow_skip rfl rfl ?_
      refine ow_skip rfl rfl ?_
      refine ow_val rfl rfl (ex_pick_f rfl rfl) ?_
      refine ow_nil ?_
      refine qw_seq ?_
      refine cw_cond_f rfl ?_
      refine cw_skip ?_
      refine qw_seq ?_
      refine cw_region ?_
      refine ow_val rfl rfl (ex_move rfl) ?_
      refine ow_val rfl rfl (ex_slice_lo (i := 1) rfl rfl (by omega) (by omega)) ?_
      refine ow_val rfl rfl (ex_assign rfl) ?_
      refine ow_nil ?_
      refine qw_block_normal ?_
      exact qw_round6 (d'.drop 1) (if c = 1 then some ⟨bq, oq, none⟩ else (some ⟨bq, oq, none⟩ : Option Addr).map (·.add (1 * 1))) (c - 1) zs v5 Gs (by rw [List.length_drop]; omega) (subL_cons (lkv rfl (by first | rfl | simp)) (subL_cons (lkv rfl (by first | rfl | simp)) (subL_cons (lkv rfl (by first | rfl | simp)) (subL_nil _)))) ⟨by rw [List.length_drop]; exact hdb.lo (by omega), by rw [List.length_drop]; omega, hO, by rw [← heq, mentL_miss hm]⟩ (fun w h => h)
  ·
    have h10 : d'.length < 10 := by have := of_decide_eq_false c10; omega
    rw [mentL_short h10, List.append_nil] at heq
    subst heq
    have hlz := mentL_len d below
    refine cw_exit ?_
    refine qw_then_exit ?_
    refine qw_then_exit ?_
    refine qw_block_exit ?_
    refine qw_seq ?_
    refine cw_seq ?_
    refine cw_region ?_
    refine ow_val rfl rfl (ex_move rfl) ?_
    refine ow_cg1 rfl rfl (ex_callf rfl (fun w h => pSortI1 (by omega) hO h)) (fun v36 G36 hr36 => ?_)
    obtain ⟨rfl, hO36⟩ := hr36
    refine ow_nil ?_
    refine qw_seq ?_
    refine cw_seq ?_
    refine cw_region ?_
    refine ow_val rfl rfl (ex_move rfl) ?_
    refine ow_cg1 rfl rfl (ex_callf rfl (fun w h => pCompI1 hO36 h)) (fun v38 G38 hO38 => ?_)
    refine ow_val rfl rfl (ex_assign rfl) ?_
    refine ow_nil ?_
    refine qw_seq ?_
    refine cw_ret ?_
    refine qw_ret1 rfl rfl (fun w' h => ?_)
    exact h.givesO hO38
end Go.Proofs.YtnjomdjkbbhdoaaGreatDoor
namespace Go.Proofs.YtnjomdjkbbhdoaaGreatDoor
open Go.RowKit
set_option linter.unusedVariables false
set_option linter.unusedSimpArgs false
set_option maxRecDepth 100000
instance : ZeroT Tryz.prog 4 (.bool false) := ⟨by kernel_rfl⟩
set_option maxHeartbeats 2000000 in
theorem pLoad {b : Nat} {ts : List T} {σ : Hp} {K : List (Nat × Obj)} {w : World} (hi : Has σ K w) (htab : TabC Tryz.prog σ) (hv : VaultK 80 32 b ts σ K) : Calls Tryz.prog 54 #[.pointer (some ⟨b, 0, none⟩)] w (GiveK (fun σ' u K' => ∃ (be hb : Nat) (iv : Value) (ch : Nat), u = .pointer (some ⟨be, 0, none⟩) ∧ K' = [(hb, hadO 4 (List.replicate ts.length false))] ∧ CellsAt σ' be 0 [iv, .slice (some ⟨hb, 0, none⟩) ts.length ch] ∧ ItemsV σ' iv (itemsT ts)) (exts σ K) [] w) := by
  obtain ⟨pv, cv, mvv, hs⟩ := hv.seenX hi
  have hfew := hs.few
  have hI := hs.tab
  have hle0 := hi.le
  have him := hi.exts
  have hof := @Has.of_im σ
  obtain ⟨σK, hσK⟩ : ∃ σK, exts σ K = σK := ⟨_, rfl⟩
  rw [hσK] at hs hle0 him ⊢
  refine enter (St w (keysOf []) σK [] []) Tryz.func54 rfl Tryz.ntmps54 rfl (Has.start (Has.nil him)) ?_
  refine cw_seq ?_
  refine cw_region ?_
  refine ow_val rfl rfl (ex_assign rfl) ?_
  refine ow_nil ?_
  refine qw_seq ?_
  refine cw_seq ?_
  refine cw_region ?_
  refine ow_val rfl rfl (ex_move rfl) ?_
  refine ow_cv rfl rfl (ex_callf rfl (fun w h => callB ((pLenK (hi.of_im h.im (by rw [hσK]; exact Le.refl _)) hv)))) ?_
  refine ow_mkbools rfl rfl (exw_mkbools rfl rfl (by omega)) ?_; intro hb
  refine ow_val rfl rfl (ex_build (parts := [(1, _)]) (cells := #[.slice none 0 0, .slice (some ⟨hb, 0, none⟩) ts.length ts.length]) rfl (by kernel_rfl)) ?_
  refine ow_blk rfl rfl (exw_box rfl) ?_; intro b16
  refine ow_val rfl rfl (ex_assign rfl) ?_
  refine ow_nil ?_
  refine qw_seq ?_
  refine cw_seq ?_
  refine cw_seq ?_
  refine cw_region ?_
  refine ow_val rfl rfl (ex_move rfl) ?_
  refine ow_cv rfl rfl (ex_callf rfl (fun w h => callB ((pLenK (hi.of_im h.im (by rw [hσK]; exact Le.refl _)) hv)))) ?_
  refine ow_val rfl rfl (ex_move rfl) ?_
  refine ow_nil ?_
  refine qw_seq ?_
  refine cw_block ?_
  refine cw_loopH5 (fun (i : Nat) (v : Value) (xs : List Value) (Gs : List (Nat × Obj)) (τ : Hp) => [(0, .pointer (some ⟨b, 0, none⟩)), (3, .pointer (some ⟨b16, 0, none⟩)), (18, .int .i64 (ts.length : Int)), (19, .int .i64 (i : Int))]) (fun i v xs Gs τ => i ≤ ts.length ∧ Le σK τ ∧ Fresh σK τ w ∧ OwnSl 117 3 v i xs Gs ∧ RowI τ xs (itemsTo ts i)) (fun i v xs Gs τ => τ) (fun i v xs Gs τ => [(b16, .cells #[v, .slice (some ⟨hb, 0, none⟩) ts.length ts.length] 89), (hb, hadO 4 (List.replicate ts.length false))]) (fun i v xs Gs τ => Gs) (fun i _ _ _ _ => ts.length - i) 0 (.slice none 0 0) [] [] σK (subL_cons (lkv rfl (by first | rfl | simp)) (subL_cons (lkv rfl (by first | rfl | simp)) (subL_cons (lkv rfl (by first | rfl | simp)) (subL_cons (lkv rfl (by first | rfl | simp)) (subL_nil _))))) ⟨Nat.zero_le _, Le.refl _, Fresh.refl _ _, OwnSl.nil _ _, RowI.nil _⟩ (fun w h => h) ?_
  intro i v xs Gs τ ⟨hlei, hlj, hfj, hO, hrow⟩
  have hilen := itemsTo_len (ts := ts) (i := i) hlei
  refine cw_seq ?_
  refine cw_region ?_
  refine ow_val rfl rfl (ex_lss rfl rfl) ?_
  refine ow_nil ?_
  refine qw_seq ?_
  refine cw_seq ?_
  refine cw_cond rfl (fun c20 => ?_) (fun c20 => ?_)
  ·
    have hil : i < ts.length := by have := of_decide_eq_true c20; omega
    have hsh := hI.shapeAt hil
    have etv : termV ts (i : Int) = (ts[i], true) := by
      unfold termV
      rw [if_pos (by omega)]
      simp [List.getD_eq_getElem?_getD, hil]
    refine cw_skip ?_
    refine qw_seq ?_
    refine cw_seq ?_
    refine cw_block ?_
    refine cw_seq ?_
    refine cw_region ?_
    refine ow_val rfl rfl (ex_move rfl) ?_
    refine ow_val rfl rfl (ex_assign rfl) ?_
    refine ow_nil ?_
    refine qw_seq ?_
    refine cw_seq ?_
    refine cw_region ?_
    refine ow_val rfl rfl (ex_move rfl) ?_
    refine ow_val rfl rfl (ex_move rfl) ?_
    refine ow_crsF rfl rfl (hle0.trans hlj) (ex_callf rfl (fun w h => callR (pTerm (hi.of_im h.im (by rw [hσK]; exact hlj)) hv))) (fun v25 τ25 τ5 hl25 hf25 hr25 hlk hfk hle25 => ?_)
    rw [etv] at hr25
    obtain ⟨c25, rfl, ht25⟩ := hr25
    have ht25 : TermC τ5 c25 ts[i] := ht25.le hle25
    have ht25' := ht25
    obtain ⟨d25, k25, rfl, ho25, hn25, hd25, hk25⟩ := ht25'.opn
    refine ow_val rfl rfl (ex_move rfl) ?_
    refine ow_val rfl rfl (ex_extract rfl rfl) ?_
    refine ow_val rfl rfl (ex_extract rfl rfl) ?_
    refine ow_blk rfl rfl exw_alloc ?_; intro b5
    refine ow_u rfl (exu_storeN 0 rfl rfl rfl rfl ht25.one rfl) ?_
    refine ow_frzO noK (fun τ6 hl6 hf6 hb6 => ?_)
    have hc5 : CellsAt τ6 b5 0 [.int .i64 ts[i].op, .int .i64 ts[i].num, d25, k25] := CellsAt.took (k := 4) hb6 rfl
    have hd6 := hd25.le hl6
    have hk6 := hk25.le hl6
    obtain ⟨pd6, cd6, rfl, _, _⟩ := hd6.slice
    obtain ⟨pk6, ck6, rfl, hck6, _⟩ := hk6.slice
    refine ow_val rfl rfl (ex_assign rfl) ?_
    refine ow_nil ?_
    refine qw_seq ?_
    refine cw_seq ?_
    refine flow_sound 8 (by kernel_rfl) ?_
    refine flow_val rfl (ex_field rfl) ?_
    refine flow_val rfl (ex_load1 rfl (ld_imm1 (hc5.fld (i := 0) rfl))) ?_
    refine flow_val rfl (ex_field rfl) ?_
    refine flow_val rfl (ex_load1 rfl (ld_imm1 (hc5.fld (i := 2) rfl))) ?_
    refine flow_val rfl (ex_move rfl) ?_
    refine flow_co rfl (ex_callf rfl (fun w h => callO (pMentionsO h.im hd6 (by omega)))) ?_
    refine flow_wrap 33 (fun u => .agg #[.int .i64 ts[i].op, .slice none 0 0, u]) rfl (fun u => rfl) (fun u p c hu => by subst hu; exact (ex_build (parts := [(0, _), (2, _)]) (cells := #[.int .i64 ts[i].op, .slice none 0 0, .slice p (mentS ts[i].data (i : Int)).length c]) rfl (by kernel_rfl))) ?_
    refine flow_alloc rfl ?_
    refine flow_nil ?_
    refine fin_sat (fun v7 => ?_)
    refine fin_sat (fun v34 => ?_)
    refine fin_drop ?_
    refine fin_is ?_
    refine fin_is ?_
    refine fin_is ?_
    refine fin_is ?_
    refine fin_is ?_
    refine fin_nil ?_
    refine ow_openI rfl (fun Gm b7 mv6 hOm h34 h7 => ?_)
    subst h34; subst h7
    refine ow_u rfl (exu_storeN 0 (cs := [.int .i64 ts[i].op, .slice none 0 0, mv6]) rfl rfl rfl rfl (fun u hu => by simp only [List.mem_cons, List.not_mem_nil, or_false] at hu; rcases hu with rfl | rfl | rfl; rfl; rfl; exact hOm.cell.2) rfl) ?_
    refine ow_frzIg noK hOm (fun τ7 hl7 hf7 hm7 => ?_)
    refine ow_nil ?_
    refine qw_seq ?_
    refine cw_seq ?_
    refine cw_seq ?_
    refine cw_region ?_
    refine ow_val rfl rfl (ex_field rfl) ?_
    refine ow_val rfl rfl (ex_load1 rfl (ld_imm1 ((hc5.le hl7).fld (i := 3) rfl))) ?_
    refine ow_val rfl rfl (ex_len (ty := 0) rfl) ?_
    refine ow_val rfl rfl (ex_move rfl) ?_
    refine ow_nil ?_
    refine qw_seq ?_
    refine cw_block ?_
    refine cw_loopH4 (fun (j : Nat) (v2 : Value) (G2 : List (Nat × Obj)) (τq : Hp) => [(0, .pointer (some ⟨b, 0, none⟩)), (3, .pointer (some ⟨b16, 0, none⟩)), (4, .int .i64 (i : Int)), (7, .pointer (some ⟨b7, 0, none⟩)), (18, .int .i64 (ts.length : Int)), (19, .int .i64 (i : Int)), (36, .slice pk6 ts[i].kids.length ck6), (37, .int .i64 (ts[i].kids.length : Int)), (38, .int .i64 (j : Int))]) (fun j v2 G2 τq => j ≤ ts[i].kids.length ∧ Le τ7 τq ∧ Fresh τ7 τq w ∧ OwnSl 3 1 v2 j (intsV ((ts[i].kids.take j).map (posT ts))) G2) (fun j v2 G2 τq => τq) (fun j v2 G2 τq => [(b7, .cells #[.int .i64 ts[i].op, v2, mv6] 117), (b16, .cells #[v, .slice (some ⟨hb, 0, none⟩) ts.length ts.length] 89), (hb, hadO 4 (List.replicate ts.length false))]) (fun j v2 G2 τq => G2 ++ Gs) (fun j _ _ _ => ts[i].kids.length - j) 0 (.slice none 0 0) [] τ7 (subL_cons (lkv rfl (by first | rfl | simp)) (subL_cons (lkv rfl (by first | rfl | simp)) (subL_cons (lkv rfl (by first | rfl | simp)) (subL_cons (lkv rfl (by first | rfl | simp)) (subL_cons (lkv rfl (by first | rfl | simp)) (subL_cons (lkv rfl (by first | rfl | simp)) (subL_cons (lkv rfl (by first | rfl | simp)) (subL_cons (lkv rfl (by first | rfl | simp)) (subL_cons (lkv rfl (by first | rfl | simp)) (subL_nil _)))))))))) ⟨Nat.zero_le _, Le.refl _, Fresh.refl _ _, by simpa [intsV] using OwnSl.nil 3 1⟩ (fun w h => h) ?_
    intro j v2 G2 τK ⟨hlejj, hlK, hfK, hO2⟩
    have hlq := hl7.trans hlK
    have hlJ := ((hlj.trans hlk).trans hl6).trans hlq
    refine cw_seq ?_
    refine cw_region ?_
    refine ow_val rfl rfl (ex_lss rfl rfl) ?_
    refine ow_nil ?_
    refine qw_seq ?_
    refine cw_seq ?_
    refine cw_cond rfl (fun c39 => ?_) (fun c39 => ?_)
    ·
      have hjl : j < ts[i].kids.length := by have := of_decide_eq_true c39; omega
      have hkm : ts[i].kids[j] ∈ ts[i].kids := List.getElem_mem hjl
      obtain ⟨bk, fk, ck', cs, e1, e2, hc1, ht1⟩ := hk6.get j hjl
      cases e1
      have ht1' := ht1
      obtain ⟨d9, k9, rfl, _, _, _, _⟩ := ht1'.opn
      have hzp : 0 ≤ posT ts ts[i].kids[j] := (hI.kidAt hil hkm).1
      refine cw_skip ?_
      refine qw_seq ?_
      refine cw_seq ?_
      refine cw_block ?_
      refine cw_seq ?_
      refine cw_region ?_
      refine ow_val rfl rfl (ex_index_nat rfl rfl (by omega)) ?_
      refine ow_val rfl rfl (ex_loadR rfl (ld_immT (hc1.le hlq) (ht1.le hlq))) ?_
      refine ow_blk rfl rfl exw_alloc ?_; intro b9
      refine ow_u rfl (exu_storeN 0 rfl rfl rfl rfl ht1.one rfl) ?_
      refine ow_nil ?_
      refine qw_seq ?_
      refine cw_seq ?_
      refine cw_region ?_
      refine ow_val rfl rfl (ex_move rfl) ?_
      refine ow_val rfl rfl (ex_loadR rfl (by first | exact ld_ownN 0 rfl rfl | exact ld_ownN 1 rfl rfl | exact ld_ownN 2 rfl rfl | exact ld_ownN 3 rfl rfl | exact ld_ownN 4 rfl rfl | exact ld_ownN 5 rfl rfl | exact ld_ownN 6 rfl rfl | exact ld_ownN 7 rfl rfl | exact ld_ownGN 0 rfl rfl | exact ld_ownGN 1 rfl rfl | exact ld_immT (by assumption) (by assumption))) ?_
      refine ow_cv rfl rfl (ex_callf rfl (fun w h => callB ((pFind _ h.im (htab.le (hle0.trans hlJ)) (hs.le hlJ) (ht1.le hlq) (right_lim (hI.rt _ (hI.kidsIn _ (List.getElem_mem hil) _ hkm))))))) ?_
      refine ow_val rfl rfl (ex_move rfl) ?_
      refine ow_val rfl rfl (ex_extract rfl rfl) ?_
      refine ow_val rfl rfl (ex_extract rfl rfl) ?_
      refine ow_val rfl rfl (ex_assign rfl) ?_
      refine ow_val rfl rfl (ex_assign rfl) ?_
      refine ow_nil ?_
      refine qw_seq ?_
      refine cw_region ?_
      refine ow_val rfl rfl (ex_field rfl) ?_
      refine ow_val rfl rfl (ex_load1 rfl (by first | exact ld_own1 0 rfl rfl | exact ld_own1 1 rfl rfl | exact ld_own1 2 rfl rfl | exact ld_own1 3 rfl rfl | exact ld_own1 4 rfl rfl | exact ld_own1 5 rfl rfl | exact ld_own1 6 rfl rfl | exact ld_own1 7 rfl rfl | exact ld_ownG1 0 rfl rfl | exact ld_ownG1 1 rfl rfl | exact ld_imm1 (by assumption))) ?_
      refine ow_val rfl rfl (ex_move rfl) ?_
      refine ow_slit rfl rfl (exw_slit1 rfl rfl) ?_; intro b51
      refine ow_app rfl rfl (exw_append (news := [.int .i64 (posT ts ts[i].kids[j])]) rfl rfl hO2 rfl (.inr ⟨_, _, rfl, (ld_ownN (k := 1) 0 rfl rfl).2⟩) (fun u hu => by simp at hu; subst hu; rfl) (by unfold maxLen; omega) (by omega)) (fun v52 G52 hO52 hz52 => ?_)
      refine ow_val rfl rfl (ex_field rfl) ?_
      refine ow_u rfl (exu_store1 2 rfl rfl rfl hO52.cell.1 hO52.cell.2 rfl) ?_
      refine ow_nil ?_
      refine qw_block_normal ?_
      refine qw_seq ?_
      refine cw_region ?_
      refine ow_val rfl rfl (ex_addi (z := ((j + 1 : Nat) : Int)) rfl rfl (by omega) (by omega) (by omega)) ?_
      refine ow_val rfl rfl (ex_move rfl) ?_
      refine ow_nil ?_
      refine qw_roundH4 (j + 1) v52 G52 τK (by omega) (subL_cons (lkv rfl (by first | rfl | simp)) (subL_cons (lkv rfl (by first | rfl | simp)) (subL_cons (lkv rfl (by first | rfl | simp)) (subL_cons (lkv rfl (by first | rfl | simp)) (subL_cons (lkv rfl (by first | rfl | simp)) (subL_cons (lkv rfl (by first | rfl | simp)) (subL_cons (lkv rfl (by first | rfl | simp)) (subL_cons (lkv rfl (by first | rfl | simp)) (subL_cons (lkv rfl (by first | rfl | simp)) (subL_nil _)))))))))) ⟨by omega, hlK, hfK, ?_⟩ (fun w h => h.drop (.cons _ (.cons _ (List.Sublist.refl _))))
      rw [List.take_succ_eq_append_getElem hjl, List.map_append, intsV_app]
      exact hO52
    ·
      refine cw_exit ?_
      refine qw_then_exit ?_
      refine qw_then_exit ?_
      refine qw_block_exit ?_
      refine qw_seq ?_
      have hje : j = ts[i].kids.length := by have := of_decide_eq_false c39; omega
      subst hje
      rw [List.take_length] at hO2
      refine cw_frzIg noK hO2 (fun τ8 hl8 hf8 hk8 => ?_)
      have hitem : ItemC τ8 [.int .i64 ts[i].op, v2, mv6] (itemT ts i ts[i]) := ⟨v2, mv6, rfl, hk8, ((hm7.le hlK).le hl8)⟩
      have hlz : Le τ τ8 := ((((hlk.trans hl6).trans hl7).trans hlK).trans hl8)
      have hfz : Fresh τ τ8 w := ((((hfk.trans hf6).trans hf7).trans hfK).trans hf8)
      refine flow_soundF 7 0 (by kernel_rfl) ?_
      refine flow_val rfl (ex_move rfl) ?_
      refine flow_val rfl (ex_move rfl) ?_
      refine flow_val rfl (ex_nilck rfl) ?_
      refine flow_val rfl (ex_field rfl) ?_
      refine flow_val rfl (ex_load1 rfl (by first | exact ld_own1 0 rfl rfl | exact ld_own1 1 rfl rfl | exact ld_own1 2 rfl rfl | exact ld_own1 3 rfl rfl | exact ld_own1 4 rfl rfl | exact ld_own1 5 rfl rfl | exact ld_own1 6 rfl rfl | exact ld_own1 7 rfl rfl | exact ld_ownG1 0 rfl rfl | exact ld_ownG1 1 rfl rfl | exact ld_imm1 (by assumption))) ?_
      refine flow_val rfl (ex_loadR rfl (by first | exact ld_ownN 0 rfl rfl | exact ld_ownN 1 rfl rfl | exact ld_ownN 2 rfl rfl | exact ld_ownN 3 rfl rfl | exact ld_ownN 4 rfl rfl | exact ld_ownN 5 rfl rfl | exact ld_ownN 6 rfl rfl | exact ld_ownN 7 rfl rfl | exact ld_ownGN 0 rfl rfl | exact ld_ownGN 1 rfl rfl | exact ld_immT (by assumption) (by assumption))) ?_
      refine flow_sat QR.pers (obk (ob_cells (cs := [.int .i64 ts[i].op, v2, mv6]) rfl rfl rfl)) ?_
      refine flow_nilF (j := 0) ?_ ?_
      ·
        refine fint_satR (Le.refl _) (fun v61 τ9 hl9 hf9 hr9 => ?_)
        obtain ⟨bo, rfl, hco⟩ := hr9
        refine fint_is ?_
        refine fint_is ?_
        refine fint_is ?_
        refine fint_is ?_
        refine fint_is ?_
        refine fint_is ?_
        refine fint_nil ?_
        refine any_one (i := 7) (by kernel_rfl) ?_
        refine next_app1 rfl rfl (exw_append1 (news := [.int .i64 ts[i].op, v2, mv6]) rfl rfl hO rfl (.inr ⟨_, _, rfl, fun w h => hco.range h.im⟩) hitem.one (by unfold maxLen; omega) (by omega)) (fun v62 G62 hO62 hz62 => ?_)
        refine any_one (i := 8) (by kernel_rfl) ?_
        refine next_val rfl rfl (ex_nilck rfl) ?_
        refine any_one (i := 9) (by kernel_rfl) ?_
        refine next_val rfl rfl (ex_field rfl) ?_
        refine any_one (i := 10) (by kernel_rfl) ?_
        refine next_u rfl (exu_store1 1 rfl rfl rfl hO62.cell.1 hO62.cell.2 rfl) ?_
        refine any_done (by kernel_rfl) ?_
        refine qw_block_normal ?_
        refine qw_seq ?_
        refine cw_region ?_
        refine ow_val rfl rfl (ex_addi (z := ((i + 1 : Nat) : Int)) rfl rfl (by omega) (by omega) (by omega)) ?_
        refine ow_val rfl rfl (ex_move rfl) ?_
        refine ow_nil ?_
        refine qw_roundH5 (i + 1) v62 _ G62 τ9 (by omega) (subL_cons (lkv rfl (by first | rfl | simp)) (subL_cons (lkv rfl (by first | rfl | simp)) (subL_cons (lkv rfl (by first | rfl | simp)) (subL_cons (lkv rfl (by first | rfl | simp)) (subL_nil _))))) ⟨by omega, hlj.trans (hlz.trans hl9), hfj.trans (hfz.trans hf9), hO62, ?_⟩ (fun w h => h.drop (List.sublist_cons_self _ _))
        rw [itemsTo_snoc hil]
        exact (hrow.le (hlz.trans hl9)).snoc (hitem.le hl9)
      ·
        refine fint_satR (Le.refl _) (fun v61 τ9 hl9 hf9 hr9 => ?_)
        obtain ⟨bo, rfl, hco⟩ := hr9
        refine fint_is ?_
        refine fint_is ?_
        refine fint_is ?_
        refine fint_is ?_
        refine fint_is ?_
        refine fint_nil ?_
        refine any_two (i := 0) (j := 7) (by kernel_rfl) ?_ ?_
        ·
          refine next_val rfl rfl (ex_move rfl) ?_
          refine any_one (i := 7) (by kernel_rfl) ?_
          refine next_app1 rfl rfl (exw_append1 (news := [.int .i64 ts[i].op, v2, mv6]) rfl rfl hO rfl (.inr ⟨_, _, rfl, fun w h => hco.range h.im⟩) hitem.one (by unfold maxLen; omega) (by omega)) (fun v62 G62 hO62 hz62 => ?_)
          refine any_one (i := 8) (by kernel_rfl) ?_
          refine next_val rfl rfl (ex_nilck rfl) ?_
          refine any_one (i := 9) (by kernel_rfl) ?_
          refine next_val rfl rfl (ex_field rfl) ?_
          refine any_one (i := 10) (by kernel_rfl) ?_
          refine next_u rfl (exu_store1 1 rfl rfl rfl hO62.cell.1 hO62.cell.2 rfl) ?_
          refine any_done (by kernel_rfl) ?_
          refine qw_block_normal ?_
          refine qw_seq ?_
          refine cw_region ?_
          refine ow_val rfl rfl (ex_addi (z := ((i + 1 : Nat) : Int)) rfl rfl (by omega) (by omega) (by omega)) ?_
          refine ow_val rfl rfl (ex_move rfl) ?_
          refine ow_nil ?_
          refine qw_roundH5 (i + 1) v62 _ G62 τ9 (by omega) (subL_cons (lkv rfl (by first | rfl | simp)) (subL_cons (lkv rfl (by first | rfl | simp)) (subL_cons (lkv rfl (by first | rfl | simp)) (subL_cons (lkv rfl (by first | rfl | simp)) (subL_nil _))))) ⟨by omega, hlj.trans (hlz.trans hl9), hfj.trans (hfz.trans hf9), hO62, ?_⟩ (fun w h => h.drop (List.sublist_cons_self _ _))
          rw [itemsTo_snoc hil]
          exact (hrow.le (hlz.trans hl9)).snoc (hitem.le hl9)
        ·
          refine next_app1 rfl rfl (exw_append1 (news := [.int .i64 ts[i].op, v2, mv6]) rfl rfl hO rfl (.inr ⟨_, _, rfl, fun w h => hco.range h.im⟩) hitem.one (by unfold maxLen; omega) (by omega)) (fun v62 G62 hO62 hz62 => ?_)
          refine any_one (i := 0) (by kernel_rfl) ?_
          refine next_val rfl rfl (ex_move rfl) ?_
          refine any_one (i := 8) (by kernel_rfl) ?_
          refine next_val rfl rfl (ex_nilck rfl) ?_
          refine any_one (i := 9) (by kernel_rfl) ?_
          refine next_val rfl rfl (ex_field rfl) ?_
          refine any_one (i := 10) (by kernel_rfl) ?_
          refine next_u rfl (exu_store1 1 rfl rfl rfl hO62.cell.1 hO62.cell.2 rfl) ?_
          refine any_done (by kernel_rfl) ?_
          refine qw_block_normal ?_
          refine qw_seq ?_
          refine cw_region ?_
          refine ow_val rfl rfl (ex_addi (z := ((i + 1 : Nat) : Int)) rfl rfl (by omega) (by omega) (by omega)) ?_
          refine ow_val rfl rfl (ex_move rfl) ?_
          refine ow_nil ?_
          refine qw_roundH5 (i + 1) v62 _ G62 τ9 (by omega) (subL_cons (lkv rfl (by first | rfl | simp)) (subL_cons (lkv rfl (by first | rfl | simp)) (subL_cons (lkv rfl (by first | rfl | simp)) (subL_cons (lkv rfl (by first | rfl | simp)) (subL_nil _))))) ⟨by omega, hlj.trans (hlz.trans hl9), hfj.trans (hfz.trans hf9), hO62, ?_⟩ (fun w h => h.drop (List.sublist_cons_self _ _))
          rw [itemsTo_snoc hil]
          exact (hrow.le (hlz.trans hl9)).snoc (hitem.le hl9)
  ·
    have he : i = ts.length := by have := of_decide_eq_false c20; omega
    subst he
    refine cw_exit ?_
    refine qw_then_exit ?_
    refine qw_then_exit ?_
    refine qw_block_exit ?_
    refine qw_seq ?_
    refine cw_seq ?_
    refine cw_region ?_
    refine ow_val rfl rfl (ex_move rfl) ?_
    refine ow_val rfl rfl (ex_assign rfl) ?_
    refine ow_nil ?_
    refine qw_seq ?_
    refine cw_ret ?_
    refine qw_ret1 rfl rfl (fun w' h => ?_)
    rw [← itemsTo_all] 
    obtain ⟨σ1, q1, q2, q3, q4⟩ := freezeIt (Gr := []) (by simpa using h) noK (by rw [hilen]; exact hO) hrow
    obtain ⟨σ2, r1, r2, r3, r4⟩ := St.frz1 q3 (noK _)
    exact (St.flip r4).givesK ((hlj.trans q1).trans r1) ((hfj.trans q2).trans r2) ⟨b16, hb, v, ts.length, rfl, rfl, CellsAt.took (k := 2) r3 rfl, q4.le r1⟩
end Go.Proofs.YtnjomdjkbbhdoaaGreatDoor
