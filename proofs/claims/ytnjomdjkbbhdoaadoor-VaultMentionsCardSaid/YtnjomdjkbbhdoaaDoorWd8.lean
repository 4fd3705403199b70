/-
  Walks: keys.
  No condition.
-/
import Derived.Test.YtnjomdjkbbhdoaaDoorWd7
import Derived.Test.YtnjomdjkbbhdoaaDoorMC
namespace Go.Proofs.YtnjomdjkbbhdoaaDoor
open Go.RowKit
set_option linter.unusedVariables false
set_option linter.unusedSimpArgs false
set_option maxRecDepth 100000

set_option maxHeartbeats 400000 in
theorem pSign {key : Int} {d : List UInt8} {dv : Value} {b : Nat} {ts : List T} {σ : Hp} {K : List (Nat × Obj)} {w : World} (hi : Has σ K w) (htab : TabC Tryd.prog σ) (hvk : VaultK 68 30 b ts σ K) (hd : BytesV σ dv d) : Calls Tryd.prog 27 #[.pointer (some ⟨b, 0, none⟩), .int .i64 key, dv] w (GiveK (fun σ' u K' => u = .tuple #[.int .i64 (madeV ts (ofT 3 d) [key]).1, .int .i64 (madeV ts (ofT 3 d) [key]).2.1] ∧ VaultK 68 30 b (madeV ts (ofT 3 d) [key]).2.2 σ' K') σ K w) := by
  refine enter (St w (keysOf K) σ [] K) Tryd.func27 rfl Tryd.ntmps27 rfl (Has.start hi) ?_
  refine cw_seq ?_
  refine cw_region ?_
  refine ow_val rfl rfl (ex_assign rfl) ?_
  refine ow_val rfl rfl (ex_assign rfl) ?_
  refine ow_nil ?_
  refine qw_seq ?_
  refine cw_seq ?_
  refine cw_region ?_
  refine ow_val rfl rfl (ex_move rfl) ?_
  refine ow_val rfl rfl (ex_move rfl) ?_
  refine ow_cr rfl rfl (ex_callf rfl (fun w h => callR (pOf (op := 3) h.im hd))) (fun vo τ1 hl1 hf1 hr1 => ?_)
  obtain ⟨b2, b3, vd, rfl, hb2, hb3, hbd⟩ := hr1
  refine ow_val rfl rfl (ex_move rfl) ?_
  refine ow_slit rfl rfl (exw_slit1 rfl rfl) ?_; intro b12
  refine ow_frzHK (fun τ2 hl2 hf2 hb12 => ?_)
  have hzz : IntsV τ2 (.slice (some ⟨b12, 0, none⟩) 1 1) [key] := IntsV.lit hb12 rfl
  refine ow_ckE rfl rfl (ex_callf rfl (fun w h => pMade (F := 73) (caps := [.pointer (some ⟨b2, 0, none⟩), .pointer (some ⟨b3, 0, none⟩)]) (g := ofT 3 d) (hs := [key]) h.hasE (htab.le (hl1.trans hl2)) (hvk.le (hl1.trans hl2)) hzz (by simp) (fun hle hi' hk _ => pOf1 hi' hk (hb2.le (hl2.trans hle)) (hb3.le (hl2.trans hle)) (hbd.le (hl2.trans hle)) (by decide)))) (fun vm τ3 K3 hl3 hf3 hr3 => ?_)
  obtain ⟨rfl, hvr⟩ := hr3
  refine ow_val rfl rfl (ex_extract rfl rfl) ?_
  refine ow_val rfl rfl (ex_extract rfl rfl) ?_
  refine ow_val rfl rfl (ex_assign rfl) ?_
  refine ow_val rfl rfl (ex_assign rfl) ?_
  refine ow_nil ?_
  refine qw_seq ?_
  refine cw_ret ?_
  refine qw_ret2 rfl rfl rfl (fun w' h => (h.drop (List.nil_sublist _)).givesK ((hl1.trans hl2).trans hl3) ((hf1.trans hf2).trans hf3) ⟨rfl, hvr⟩)

set_option maxHeartbeats 400000 in
theorem pSeal {key : Int} {d : List UInt8} {dv : Value} {b : Nat} {ts : List T} {σ : Hp} {K : List (Nat × Obj)} {w : World} (hi : Has σ K w) (htab : TabC Tryd.prog σ) (hvk : VaultK 68 30 b ts σ K) (hd : BytesV σ dv d) : Calls Tryd.prog 28 #[.pointer (some ⟨b, 0, none⟩), .int .i64 key, dv] w (GiveK (fun σ' u K' => u = .tuple #[.int .i64 (madeV ts (ofT 4 d) [key]).1, .int .i64 (madeV ts (ofT 4 d) [key]).2.1] ∧ VaultK 68 30 b (madeV ts (ofT 4 d) [key]).2.2 σ' K') σ K w) := by
  refine enter (St w (keysOf K) σ [] K) Tryd.func28 rfl Tryd.ntmps28 rfl (Has.start hi) ?_
  refine cw_seq ?_
  refine cw_region ?_
  refine ow_val rfl rfl (ex_assign rfl) ?_
  refine ow_val rfl rfl (ex_assign rfl) ?_
  refine ow_nil ?_
  refine qw_seq ?_
  refine cw_seq ?_
  refine cw_region ?_
  refine ow_val rfl rfl (ex_move rfl) ?_
  refine ow_val rfl rfl (ex_move rfl) ?_
  refine ow_cr rfl rfl (ex_callf rfl (fun w h => callR (pOf (op := 4) h.im hd))) (fun vo τ1 hl1 hf1 hr1 => ?_)
  obtain ⟨b2, b3, vd, rfl, hb2, hb3, hbd⟩ := hr1
  refine ow_val rfl rfl (ex_move rfl) ?_
  refine ow_slit rfl rfl (exw_slit1 rfl rfl) ?_; intro b12
  refine ow_frzHK (fun τ2 hl2 hf2 hb12 => ?_)
  have hzz : IntsV τ2 (.slice (some ⟨b12, 0, none⟩) 1 1) [key] := IntsV.lit hb12 rfl
  refine ow_ckE rfl rfl (ex_callf rfl (fun w h => pMade (F := 73) (caps := [.pointer (some ⟨b2, 0, none⟩), .pointer (some ⟨b3, 0, none⟩)]) (g := ofT 4 d) (hs := [key]) h.hasE (htab.le (hl1.trans hl2)) (hvk.le (hl1.trans hl2)) hzz (by simp) (fun hle hi' hk _ => pOf1 hi' hk (hb2.le (hl2.trans hle)) (hb3.le (hl2.trans hle)) (hbd.le (hl2.trans hle)) (by decide)))) (fun vm τ3 K3 hl3 hf3 hr3 => ?_)
  obtain ⟨rfl, hvr⟩ := hr3
  refine ow_val rfl rfl (ex_extract rfl rfl) ?_
  refine ow_val rfl rfl (ex_extract rfl rfl) ?_
  refine ow_val rfl rfl (ex_assign rfl) ?_
  refine ow_val rfl rfl (ex_assign rfl) ?_
  refine ow_nil ?_
  refine qw_seq ?_
  refine cw_ret ?_
  refine qw_ret2 rfl rfl rfl (fun w' h => (h.drop (List.nil_sublist _)).givesK ((hl1.trans hl2).trans hl3) ((hf1.trans hf2).trans hf3) ⟨rfl, hvr⟩)

set_option maxHeartbeats 400000 in
theorem pKdf {key : Int} {d : List UInt8} {dv : Value} {b : Nat} {ts : List T} {σ : Hp} {K : List (Nat × Obj)} {w : World} (hi : Has σ K w) (htab : TabC Tryd.prog σ) (hvk : VaultK 68 30 b ts σ K) (hd : BytesV σ dv d) : Calls Tryd.prog 29 #[.pointer (some ⟨b, 0, none⟩), .int .i64 key, dv] w (GiveK (fun σ' u K' => u = .tuple #[.int .i64 (madeV ts (ofT 6 d) [key]).1, .int .i64 (madeV ts (ofT 6 d) [key]).2.1] ∧ VaultK 68 30 b (madeV ts (ofT 6 d) [key]).2.2 σ' K') σ K w) := by
  refine enter (St w (keysOf K) σ [] K) Tryd.func29 rfl Tryd.ntmps29 rfl (Has.start hi) ?_
  refine cw_seq ?_
  refine cw_region ?_
  refine ow_val rfl rfl (ex_assign rfl) ?_
  refine ow_val rfl rfl (ex_assign rfl) ?_
  refine ow_nil ?_
  refine qw_seq ?_
  refine cw_seq ?_
  refine cw_region ?_
  refine ow_val rfl rfl (ex_move rfl) ?_
  refine ow_val rfl rfl (ex_move rfl) ?_
  refine ow_cr rfl rfl (ex_callf rfl (fun w h => callR (pOf (op := 6) h.im hd))) (fun vo τ1 hl1 hf1 hr1 => ?_)
  obtain ⟨b2, b3, vd, rfl, hb2, hb3, hbd⟩ := hr1
  refine ow_val rfl rfl (ex_move rfl) ?_
  refine ow_slit rfl rfl (exw_slit1 rfl rfl) ?_; intro b12
  refine ow_frzHK (fun τ2 hl2 hf2 hb12 => ?_)
  have hzz : IntsV τ2 (.slice (some ⟨b12, 0, none⟩) 1 1) [key] := IntsV.lit hb12 rfl
  refine ow_ckE rfl rfl (ex_callf rfl (fun w h => pMade (F := 73) (caps := [.pointer (some ⟨b2, 0, none⟩), .pointer (some ⟨b3, 0, none⟩)]) (g := ofT 6 d) (hs := [key]) h.hasE (htab.le (hl1.trans hl2)) (hvk.le (hl1.trans hl2)) hzz (by simp) (fun hle hi' hk _ => pOf1 hi' hk (hb2.le (hl2.trans hle)) (hb3.le (hl2.trans hle)) (hbd.le (hl2.trans hle)) (by decide)))) (fun vm τ3 K3 hl3 hf3 hr3 => ?_)
  obtain ⟨rfl, hvr⟩ := hr3
  refine ow_val rfl rfl (ex_extract rfl rfl) ?_
  refine ow_val rfl rfl (ex_extract rfl rfl) ?_
  refine ow_val rfl rfl (ex_assign rfl) ?_
  refine ow_val rfl rfl (ex_assign rfl) ?_
  refine ow_nil ?_
  refine qw_seq ?_
  refine cw_ret ?_
  refine qw_ret2 rfl rfl rfl (fun w' h => (h.drop (List.nil_sublist _)).givesK ((hl1.trans hl2).trans hl3) ((hf1.trans hf2).trans hf3) ⟨rfl, hvr⟩)

set_option maxHeartbeats 400000 in
theorem pExp {key : Int}  {b : Nat} {ts : List T} {σ : Hp} {K : List (Nat × Obj)} {w : World} (hi : Has σ K w) (htab : TabC Tryd.prog σ) (hvk : VaultK 68 30 b ts σ K) : Calls Tryd.prog 33 #[.pointer (some ⟨b, 0, none⟩), .int .i64 key] w (GiveK (fun σ' u K' => u = .tuple #[.int .i64 (madeV ts (ofT 7 []) [key]).1, .int .i64 (madeV ts (ofT 7 []) [key]).2.1] ∧ VaultK 68 30 b (madeV ts (ofT 7 []) [key]).2.2 σ' K') σ K w) := by
  refine enter (St w (keysOf K) σ [] K) Tryd.func33 rfl Tryd.ntmps33 rfl (Has.start hi) ?_
  refine cw_seq ?_
  refine cw_region ?_
  refine ow_val rfl rfl (ex_assign rfl) ?_
  refine ow_val rfl rfl (ex_assign rfl) ?_
  refine ow_nil ?_
  refine qw_seq ?_
  refine cw_seq ?_
  refine cw_region ?_
  refine ow_val rfl rfl (ex_move rfl) ?_
  refine ow_cr rfl rfl (ex_callf rfl (fun w h => callR (pOf (op := 7) h.im (BytesV.nil _)))) (fun vo τ1 hl1 hf1 hr1 => ?_)
  obtain ⟨b2, b3, vd, rfl, hb2, hb3, hbd⟩ := hr1
  refine ow_val rfl rfl (ex_move rfl) ?_
  refine ow_slit rfl rfl (exw_slit1 rfl rfl) ?_; intro b12
  refine ow_frzHK (fun τ2 hl2 hf2 hb12 => ?_)
  have hzz : IntsV τ2 (.slice (some ⟨b12, 0, none⟩) 1 1) [key] := IntsV.lit hb12 rfl
  refine ow_ckE rfl rfl (ex_callf rfl (fun w h => pMade (F := 73) (caps := [.pointer (some ⟨b2, 0, none⟩), .pointer (some ⟨b3, 0, none⟩)]) (g := ofT 7 []) (hs := [key]) h.hasE (htab.le (hl1.trans hl2)) (hvk.le (hl1.trans hl2)) hzz (by simp) (fun hle hi' hk _ => pOf1 hi' hk (hb2.le (hl2.trans hle)) (hb3.le (hl2.trans hle)) (hbd.le (hl2.trans hle)) (by decide)))) (fun vm τ3 K3 hl3 hf3 hr3 => ?_)
  obtain ⟨rfl, hvr⟩ := hr3
  refine ow_val rfl rfl (ex_extract rfl rfl) ?_
  refine ow_val rfl rfl (ex_extract rfl rfl) ?_
  refine ow_val rfl rfl (ex_assign rfl) ?_
  refine ow_val rfl rfl (ex_assign rfl) ?_
  refine ow_nil ?_
  refine qw_seq ?_
  refine cw_ret ?_
  refine qw_ret2 rfl rfl rfl (fun w' h => (h.drop (List.nil_sublist _)).givesK ((hl1.trans hl2).trans hl3) ((hf1.trans hf2).trans hf3) ⟨rfl, hvr⟩)

set_option maxHeartbeats 400000 in
theorem pPub {key : Int}  {b : Nat} {ts : List T} {σ : Hp} {K : List (Nat × Obj)} {w : World} (hi : Has σ K w) (htab : TabC Tryd.prog σ) (hvk : VaultK 68 30 b ts σ K) : Calls Tryd.prog 32 #[.pointer (some ⟨b, 0, none⟩), .int .i64 key] w (GiveK (fun σ' u K' => u = .tuple #[.int .i64 (madeV ts (ofT 2 []) [key]).1, .int .i64 (madeV ts (ofT 2 []) [key]).2.1] ∧ VaultK 68 30 b (madeV ts (ofT 2 []) [key]).2.2 σ' K') σ K w) := by
  refine enter (St w (keysOf K) σ [] K) Tryd.func32 rfl Tryd.ntmps32 rfl (Has.start hi) ?_
  refine cw_seq ?_
  refine cw_region ?_
  refine ow_val rfl rfl (ex_assign rfl) ?_
  refine ow_val rfl rfl (ex_assign rfl) ?_
  refine ow_nil ?_
  refine qw_seq ?_
  refine cw_seq ?_
  refine cw_region ?_
  refine ow_val rfl rfl (ex_move rfl) ?_
  refine ow_cr rfl rfl (ex_callf rfl (fun w h => callR (pOf (op := 2) h.im (BytesV.nil _)))) (fun vo τ1 hl1 hf1 hr1 => ?_)
  obtain ⟨b2, b3, vd, rfl, hb2, hb3, hbd⟩ := hr1
  refine ow_val rfl rfl (ex_move rfl) ?_
  refine ow_slit rfl rfl (exw_slit1 rfl rfl) ?_; intro b12
  refine ow_frzHK (fun τ2 hl2 hf2 hb12 => ?_)
  have hzz : IntsV τ2 (.slice (some ⟨b12, 0, none⟩) 1 1) [key] := IntsV.lit hb12 rfl
  refine ow_ckE rfl rfl (ex_callf rfl (fun w h => pMade (F := 73) (caps := [.pointer (some ⟨b2, 0, none⟩), .pointer (some ⟨b3, 0, none⟩)]) (g := ofT 2 []) (hs := [key]) h.hasE (htab.le (hl1.trans hl2)) (hvk.le (hl1.trans hl2)) hzz (by simp) (fun hle hi' hk _ => pOf1 hi' hk (hb2.le (hl2.trans hle)) (hb3.le (hl2.trans hle)) (hbd.le (hl2.trans hle)) (by decide)))) (fun vm τ3 K3 hl3 hf3 hr3 => ?_)
  obtain ⟨rfl, hvr⟩ := hr3
  refine ow_val rfl rfl (ex_extract rfl rfl) ?_
  refine ow_val rfl rfl (ex_extract rfl rfl) ?_
  refine ow_val rfl rfl (ex_assign rfl) ?_
  refine ow_val rfl rfl (ex_assign rfl) ?_
  refine ow_nil ?_
  refine qw_seq ?_
  refine cw_ret ?_
  refine qw_ret2 rfl rfl rfl (fun w' h => (h.drop (List.nil_sublist _)).givesK ((hl1.trans hl2).trans hl3) ((hf1.trans hf2).trans hf3) ⟨rfl, hvr⟩)

set_option maxHeartbeats 400000 in
theorem pHash {d : List UInt8} {dv : Value} {b : Nat} {ts : List T} {σ : Hp} {K : List (Nat × Obj)} {w : World} (hi : Has σ K w) (htab : TabC Tryd.prog σ) (hvk : VaultK 68 30 b ts σ K) (hd : BytesV σ dv d) : Calls Tryd.prog 34 #[.pointer (some ⟨b, 0, none⟩), dv] w (GiveK (fun σ' u K' => u = .tuple #[.int .i64 (madeV ts (ofT 5 d) []).1, .int .i64 (madeV ts (ofT 5 d) []).2.1] ∧ VaultK 68 30 b (madeV ts (ofT 5 d) []).2.2 σ' K') σ K w) := by
  refine enter (St w (keysOf K) σ [] K) Tryd.func34 rfl Tryd.ntmps34 rfl (Has.start hi) ?_
  refine cw_seq ?_
  refine cw_region ?_
  refine ow_val rfl rfl (ex_assign rfl) ?_
  refine ow_val rfl rfl (ex_assign rfl) ?_
  refine ow_nil ?_
  refine qw_seq ?_
  refine cw_seq ?_
  refine cw_region ?_
  refine ow_val rfl rfl (ex_move rfl) ?_
  refine ow_val rfl rfl (ex_move rfl) ?_
  refine ow_cr rfl rfl (ex_callf rfl (fun w h => callR (pOf (op := 5) h.im hd))) (fun vo τ1 hl1 hf1 hr1 => ?_)
  obtain ⟨b2, b3, vd, rfl, hb2, hb3, hbd⟩ := hr1
  refine ow_ckE rfl rfl (ex_callf rfl (fun w h => pMade (F := 73) (caps := [.pointer (some ⟨b2, 0, none⟩), .pointer (some ⟨b3, 0, none⟩)]) (g := ofT 5 d) (hs := []) h.hasE (htab.le hl1) (hvk.le hl1) (IntsV.nil _) (by decide) (fun hle hi' hk _ => pOf1 hi' hk (hb2.le hle) (hb3.le hle) (hbd.le hle) (by decide)))) (fun vm τ3 K3 hl3 hf3 hr3 => ?_)
  obtain ⟨rfl, hvr⟩ := hr3
  refine ow_val rfl rfl (ex_extract rfl rfl) ?_
  refine ow_val rfl rfl (ex_extract rfl rfl) ?_
  refine ow_val rfl rfl (ex_assign rfl) ?_
  refine ow_val rfl rfl (ex_assign rfl) ?_
  refine ow_nil ?_
  refine qw_seq ?_
  refine cw_ret ?_
  refine qw_ret2 rfl rfl rfl (fun w' h => (h.drop (List.nil_sublist _)).givesK (hl1.trans hl3) (hf1.trans hf3) ⟨rfl, hvr⟩)

set_option maxHeartbeats 400000 in
theorem pAtom {n : Int} {b : Nat} {ts : List T} {σ : Hp} {K : List (Nat × Obj)} {w : World} (hi : Has σ K w) (htab : TabC Tryd.prog σ) (hvk : VaultK 68 30 b ts σ K) (hn : -9223372036854775808 ≤ n ∧ n ≤ 9223372036854775807) : Calls Tryd.prog 53 #[.pointer (some ⟨b, 0, none⟩), .int .i64 n] w (GiveK (fun σ' u K' => u = .tuple #[.int .i64 (madeV ts (fun _ => (T.mk 1 n [] [], true)) []).1, .int .i64 (madeV ts (fun _ => (T.mk 1 n [] [], true)) []).2.1] ∧ VaultK 68 30 b (madeV ts (fun _ => (T.mk 1 n [] [], true)) []).2.2 σ' K') σ K w) := by
  refine enter (St w (keysOf K) σ [] K) Tryd.func53 rfl Tryd.ntmps53 rfl (Has.start hi) ?_
  refine cw_seq ?_
  refine cw_region ?_
  refine ow_blk rfl rfl (exw_box rfl) ?_; intro b3
  refine ow_val rfl rfl (ex_assign rfl) ?_
  refine ow_val rfl rfl (ex_assign rfl) ?_
  refine ow_nil ?_
  refine qw_seq ?_
  refine cw_seq ?_
  refine cw_region ?_
  refine ow_val rfl rfl (ex_move rfl) ?_
  refine ow_frzHK (fun τ1 hl1 hf1 hb3 => ?_)
  refine ow_val rfl rfl (ex_makeFunc rfl rfl) ?_
  refine ow_ckE rfl rfl (ex_callf rfl (fun w h => pMade (F := 72) (caps := [.pointer (some ⟨b3, 0, none⟩)]) (g := fun _ => (T.mk 1 n [] [], true)) (hs := []) h.hasE (htab.le hl1) (hvk.le hl1) (IntsV.nil _) (by decide) (fun hle hi' hk _ => pAtom1 hi' hk (CellsAt.of1 (hle _ _ hb3) rfl) hn))) (fun vm τ3 K3 hl3 hf3 hr3 => ?_)
  obtain ⟨rfl, hvr⟩ := hr3
  refine ow_val rfl rfl (ex_extract rfl rfl) ?_
  refine ow_val rfl rfl (ex_extract rfl rfl) ?_
  refine ow_val rfl rfl (ex_assign rfl) ?_
  refine ow_val rfl rfl (ex_assign rfl) ?_
  refine ow_nil ?_
  refine qw_seq ?_
  refine cw_ret ?_
  refine qw_ret2 rfl rfl rfl (fun w' h => (h.drop (List.nil_sublist _)).givesK (hl1.trans hl3) (hf1.trans hf3) ⟨rfl, hvr⟩)

set_option maxHeartbeats 400000 in
theorem pPowK {x y : Int} {b : Nat} {ts : List T} {σ : Hp} {K : List (Nat × Obj)} {w : World} (hi : Has σ K w) (htab : TabC Tryd.prog σ) (hvk : VaultK 68 30 b ts σ K) : Calls Tryd.prog 35 #[.pointer (some ⟨b, 0, none⟩), .int .i64 x, .int .i64 y] w (GiveK (fun σ' u K' => u = .tuple #[.int .i64 (madeV ts (powG) [x, y]).1, .int .i64 (madeV ts (powG) [x, y]).2.1] ∧ VaultK 68 30 b (madeV ts (powG) [x, y]).2.2 σ' K') σ K w) := by
  refine enter (St w (keysOf K) σ [] K) Tryd.func35 rfl Tryd.ntmps35 rfl (Has.start hi) ?_
  refine cw_seq ?_
  refine cw_region ?_
  refine ow_val rfl rfl (ex_assign rfl) ?_
  refine ow_val rfl rfl (ex_assign rfl) ?_
  refine ow_nil ?_
  refine qw_seq ?_
  refine cw_seq ?_
  refine cw_region ?_
  refine ow_val rfl rfl (ex_move rfl) ?_
  refine ow_val rfl rfl (ex_move rfl) ?_
  refine ow_val rfl rfl (ex_move rfl) ?_
  refine ow_slit rfl rfl (exw_slit2 rfl rfl rfl rfl) ?_; intro b12
  refine ow_frzHK (fun τ2 hl2 hf2 hb12 => ?_)
  have hzz : IntsV τ2 (.slice (some ⟨b12, 0, none⟩) 2 2) [x, y] := IntsV.lit hb12 rfl
  refine ow_ckE rfl rfl (ex_callf rfl (fun w h => pMade (F := 60) (caps := []) (g := powG) (hs := [x, y]) h.hasE (htab.le hl2) (hvk.le hl2) hzz (by simp) (fun {_ _ _ l} hle hi' hk hln => by
    obtain ⟨u, v, rfl⟩ : ∃ u v, l = [u, v] := by
      match l, hln with
      | [u, v], _ => exact ⟨u, v, rfl⟩
    exact pPow1 hi' hk))) (fun vm τ3 K3 hl3 hf3 hr3 => ?_)
  obtain ⟨rfl, hvr⟩ := hr3
  refine ow_val rfl rfl (ex_extract rfl rfl) ?_
  refine ow_val rfl rfl (ex_extract rfl rfl) ?_
  refine ow_val rfl rfl (ex_assign rfl) ?_
  refine ow_val rfl rfl (ex_assign rfl) ?_
  refine ow_nil ?_
  refine qw_seq ?_
  refine cw_ret ?_
  refine qw_ret2 rfl rfl rfl (fun w' h => (h.drop (List.nil_sublist _)).givesK (hl2.trans hl3) (hf2.trans hf3) ⟨rfl, hvr⟩)

set_option maxHeartbeats 400000 in
theorem pMadeNil {f hv : Value} {σ : Hp} {w : World} (hi : Imm σ w) : Calls Tryd.prog 54 #[.pointer none, f, hv] w fun e w' => e = .returned (.tuple #[.int .i64 (-1), .int .i64 1]) ∧ Below w.heap.size w w' := by
  refine enter (St w (fun _ => False) σ [] []) Tryd.func54 rfl Tryd.ntmps54 rfl (St.start hi) ?_
  refine cw_seq ?_
  refine cw_region ?_
  refine ow_val rfl rfl (ex_assign rfl) ?_
  refine ow_val rfl rfl (ex_assign rfl) ?_
  refine ow_nil ?_
  refine qw_seq ?_
  refine cw_seq ?_
  refine cw_region ?_
  refine ow_val rfl rfl (ex_assign rfl) ?_
  refine ow_nil ?_
  refine qw_seq ?_
  refine cw_seq ?_
  refine cw_seq ?_
  refine cw_region ?_
  refine ow_val rfl rfl (ex_move rfl) ?_
  refine ow_val rfl rfl (ex_ptrnil rfl) ?_
  refine ow_nil ?_
  refine qw_seq ?_
  refine cw_cond rfl (fun c16 => ?_) (fun c16 => ?_)
  ·
    refine cw_seq ?_
    refine cw_region ?_
    refine ow_val rfl rfl (ex_assign rfl) ?_
    refine ow_val rfl rfl (ex_assign rfl) ?_
    refine ow_nil ?_
    refine qw_seq ?_
    refine cw_ret ?_
    refine qw_then_ret ?_
    refine qw_ret2 rfl rfl rfl (fun w' h => ⟨rfl, h.ag.below⟩)
  ·
    simp at c16

set_option maxHeartbeats 400000 in
theorem pAtomNil {n : Int} {σ : Hp} {w : World} (hi : Imm σ w) : Calls Tryd.prog 53 #[.pointer none, .int .i64 n] w fun e w' => e = .returned (.tuple #[.int .i64 (-1), .int .i64 1]) ∧ Below w.heap.size w w' := by
  refine enter (St w (fun _ => False) σ [] []) Tryd.func53 rfl Tryd.ntmps53 rfl (St.start hi) ?_
  refine cw_seq ?_
  refine cw_region ?_
  refine ow_blk rfl rfl (exw_box rfl) ?_; intro b3
  refine ow_val rfl rfl (ex_assign rfl) ?_
  refine ow_val rfl rfl (ex_assign rfl) ?_
  refine ow_nil ?_
  refine qw_seq ?_
  refine cw_seq ?_
  refine cw_region ?_
  refine ow_val rfl rfl (ex_move rfl) ?_
  refine ow_val rfl rfl (ex_makeFunc rfl rfl) ?_
  refine ow_cv rfl rfl (ex_callf rfl (fun w h => callB ((pMadeNil h.im)))) ?_
  refine ow_val rfl rfl (ex_extract rfl rfl) ?_
  refine ow_val rfl rfl (ex_extract rfl rfl) ?_
  refine ow_val rfl rfl (ex_assign rfl) ?_
  refine ow_val rfl rfl (ex_assign rfl) ?_
  refine ow_nil ?_
  refine qw_seq ?_
  refine cw_ret ?_
  refine qw_ret2 rfl rfl rfl (fun w' h => ⟨rfl, h.ag.below⟩)

set_option maxHeartbeats 400000 in
theorem pBytesEq {x y : List UInt8} {vx vy : Value} {σ : Hp} {w : World} (hi : Imm σ w) (hx : BytesV σ vx x) (hy : BytesV σ vy y) : Calls Tryd.prog 59 #[vx, vy] w fun e w' => e = .returned (.bool (x == y)) ∧ Below w.heap.size w w' := by
  refine enter (St w (fun _ => False) σ [] []) Tryd.func59 rfl Tryd.ntmps59 rfl (St.start hi) ?_
  refine cw_seq ?_
  refine cw_region ?_
  refine ow_val rfl rfl (ex_assign rfl) ?_
  refine ow_nil ?_
  refine qw_seq ?_
  refine cw_seq ?_
  refine cw_region ?_
  refine ow_val rfl rfl (ex_move rfl) ?_
  refine ow_val rfl rfl (ex_tostr rfl (by assumption) (fun w h => h.im)) ?_
  refine ow_val rfl rfl (ex_move rfl) ?_
  refine ow_val rfl rfl (ex_tostr rfl (by assumption) (fun w h => h.im)) ?_
  refine ow_val rfl rfl (ex_streql rfl rfl) ?_
  refine ow_val rfl rfl (ex_assign rfl) ?_
  refine ow_nil ?_
  refine qw_seq ?_
  refine cw_ret ?_
  refine qw_ret1 rfl rfl (fun w' h => ⟨rfl, h.ag.below⟩)

set_option maxHeartbeats 400000 in
theorem pBoth {op x y : Int} {b : Nat} {ts : List T} {σ : Hp} {K : List (Nat × Obj)} {w : World} (hi : Has σ K w) (hvk : VaultK 68 30 b ts σ K) : Calls Tryd.prog 56 #[.pointer (some ⟨b, 0, none⟩), .int .i64 op, .int .i64 x, .int .i64 y] w (GiveR (RepBoth (termV ts x).1 (termV ts y).1 (bothV ts op x y)) σ w) := by
  have hlt := hi.le
  have him := hi.exts
  refine enter (St w (fun _ => False) (exts σ K) [] []) Tryd.func56 rfl Tryd.ntmps56 rfl (St.start him) ?_
  refine cw_seq ?_
  refine cw_region ?_
  refine ow_blk rfl rfl exw_alloc ?_; intro b8
  refine ow_blk rfl rfl exw_alloc ?_; intro b9
  refine ow_val rfl rfl (ex_assign rfl) ?_
  refine ow_nil ?_
  refine qw_seq ?_
  refine cw_seq ?_
  refine cw_seq ?_
  refine cw_region ?_
  refine ow_val rfl rfl (ex_move rfl) ?_
  refine ow_val rfl rfl (ex_ptrnil rfl) ?_
  refine ow_nil ?_
  refine qw_seq ?_
  refine cw_cond rfl (fun c16 => ?_) (fun c16 => ?_)
  ·
    simp at c16
  ·
    refine cw_skip ?_
    refine qw_seq ?_
    refine cw_seq ?_
    refine cw_region ?_
    refine ow_val rfl rfl (ex_move rfl) ?_
    refine ow_val rfl rfl (ex_move rfl) ?_
    refine ow_crs rfl rfl hlt (ex_callf rfl (fun w h => callR (pTerm (hi.of_im h.im (Le.refl _)) hvk))) (fun v22 τ1 κ1 hl1 hf1 hr1 hlk1 hle1 => ?_)
    obtain ⟨c22, rfl, ht22⟩ := hr1
    have ht22' := ht22
    obtain ⟨d22, k22, rfl, _, _, _, _⟩ := ht22'.opn
    refine ow_val rfl rfl (ex_move rfl) ?_
    refine ow_val rfl rfl (ex_extract rfl rfl) ?_
    refine ow_val rfl rfl (ex_extract rfl rfl) ?_
    refine ow_blk rfl rfl exw_alloc ?_; intro b11
    refine ow_u rfl (exu_storeN 0 rfl rfl rfl rfl ht22.one rfl) ?_
    refine ow_val rfl rfl (ex_assign rfl) ?_
    refine ow_nil ?_
    refine qw_seq ?_
    refine cw_seq ?_
    refine cw_region ?_
    refine ow_val rfl rfl (ex_move rfl) ?_
    refine ow_val rfl rfl (ex_move rfl) ?_
    refine ow_crs rfl rfl hle1 (ex_callf rfl (fun w h => callR (pTerm (hi.next hf1 h.im hlk1 hle1) (hvk.le hl1)))) (fun v28 τ2 κ2 hl2 hf2 hr2 hlk2 hle2 => ?_)
    obtain ⟨c28, rfl, ht28⟩ := hr2
    have ht28' := ht28
    obtain ⟨d28, k28, rfl, _, _, _, _⟩ := ht28'.opn
    refine ow_val rfl rfl (ex_move rfl) ?_
    refine ow_val rfl rfl (ex_extract rfl rfl) ?_
    refine ow_val rfl rfl (ex_extract rfl rfl) ?_
    refine ow_blk rfl rfl exw_alloc ?_; intro b13
    refine ow_u rfl (exu_storeN 0 rfl rfl rfl rfl ht28.one rfl) ?_
    refine ow_val rfl rfl (ex_assign rfl) ?_
    refine ow_nil ?_
    refine qw_seq ?_
    refine cw_seq ?_
    refine flow_sound3 (S := fun k => St w (fun _ => False) κ2 (match k with | 0 => [(b13, .cells #[.int .i64 (termV ts y).1.op, .int .i64 (termV ts y).1.num, d28, k28] 30), (b11, .cells #[.int .i64 (termV ts x).1.op, .int .i64 (termV ts x).1.num, d22, k22] 30), (b9, .cells #[.int .i64 0, .int .i64 0, .slice none 0 0, .slice none 0 0] 30), (b8, .cells #[.int .i64 0, .int .i64 0, .slice none 0 0, .slice none 0 0] 30)] | 1 => [(b13, .cells #[.int .i64 (termV ts y).1.op, .int .i64 (termV ts y).1.num, d28, k28] 30), (b11, .cells #[.int .i64 (termV ts x).1.op, .int .i64 (termV ts x).1.num, d22, k22] 30), (b9, .cells #[.int .i64 0, .int .i64 0, .slice none 0 0, .slice none 0 0] 30), (b8, .cells #[.int .i64 (termV ts x).1.op, .int .i64 (termV ts x).1.num, d22, k22] 30)] | _ => [(b13, .cells #[.int .i64 (termV ts y).1.op, .int .i64 (termV ts y).1.num, d28, k28] 30), (b11, .cells #[.int .i64 (termV ts x).1.op, .int .i64 (termV ts x).1.num, d22, k22] 30), (b9, .cells #[.int .i64 (termV ts y).1.op, .int .i64 (termV ts y).1.num, d28, k28] 30), (b8, .cells #[.int .i64 (termV ts x).1.op, .int .i64 (termV ts x).1.num, d22, k22] 30)]) []) (fun k w w' h hb => St.keep h hb) 12 14 (by kernel_rfl) ?_
    refine flow_val rfl (ex_loadR (cs := [.int .i64 (termV ts x).1.op, .int .i64 (termV ts x).1.num, d22, k22]) rfl ⟨rfl, fun w ⟨k, h⟩ => by
      rcases k with _ | _ | k
      · exact (ld_ownN (k := 4) 1 rfl rfl).2 w h
      · exact (ld_ownN (k := 4) 1 rfl rfl).2 w h
      · exact (ld_ownN (k := 4) 1 rfl rfl).2 w h⟩) ?_
    refine flow_val rfl (ex_loadR (cs := [.int .i64 (termV ts y).1.op, .int .i64 (termV ts y).1.num, d28, k28]) rfl ⟨rfl, fun w ⟨k, h⟩ => by
      rcases k with _ | _ | k
      · exact (ld_ownN (k := 4) 0 rfl rfl).2 w h
      · exact (ld_ownN (k := 4) 0 rfl rfl).2 w h
      · exact (ld_ownN (k := 4) 0 rfl rfl).2 w h⟩) ?_
    refine flow_val rfl (ex_move rfl) ?_
    refine flow_val rfl (ex_move rfl) ?_
    refine flow_split rfl (fun s34 => ?_) (fun s34 => ?_)
    ·
      refine flow_val (gd_go rfl s34) (ex_move rfl) ?_
      refine flow_val rfl (ex_pickt rfl s34 rfl) ?_
      refine flow_val rfl (ex_move rfl) ?_
      refine flow_split rfl (fun s37 => ?_) (fun s37 => ?_)
      ·
        refine flow_val (gd_go rfl s37) (ex_field rfl) ?_
        refine flow_val (gd_go rfl s37) (ex_load1 (v := .int .i64 (termV ts x).1.op) rfl (fun w ⟨k, h⟩ => by
          rcases k with _ | _ | k
          · exact ld_own1 1 rfl rfl w h
          · exact ld_own1 1 rfl rfl w h
          · exact ld_own1 1 rfl rfl w h)) ?_
        refine flow_val (gd_go rfl s37) (ex_move rfl) ?_
        refine flow_val (gd_go rfl s37) (ex_eql rfl rfl) ?_
        refine flow_val rfl (ex_pickt rfl s37 rfl) ?_
        refine flow_nil3 (m := 12) (n := 14) rfl (fun k hk o ho => ?_) ?_
        ·
          rcases k with _ | k
          ·
            obtain rfl := Option.some.inj ho
            show ObU _ _ _ _ _ (St w (fun _ => False) κ2 [(b13, .cells #[.int .i64 (termV ts y).1.op, .int .i64 (termV ts y).1.num, d28, k28] 30), (b11, .cells #[.int .i64 (termV ts x).1.op, .int .i64 (termV ts x).1.num, d22, k22] 30), (b9, .cells #[.int .i64 0, .int .i64 0, .slice none 0 0, .slice none 0 0] 30), (b8, .cells #[.int .i64 0, .int .i64 0, .slice none 0 0, .slice none 0 0] 30)] []) (St w (fun _ => False) κ2 [(b13, .cells #[.int .i64 (termV ts y).1.op, .int .i64 (termV ts y).1.num, d28, k28] 30), (b11, .cells #[.int .i64 (termV ts x).1.op, .int .i64 (termV ts x).1.num, d22, k22] 30), (b9, .cells #[.int .i64 0, .int .i64 0, .slice none 0 0, .slice none 0 0] 30), (b8, .cells #[.int .i64 (termV ts x).1.op, .int .i64 (termV ts x).1.num, d22, k22] 30)] [])
            exact obu (exu_conv (exu_storeN 3 rfl rfl rfl rfl ht22.one rfl) (fun w h => h))
          rcases k with _ | k
          ·
            obtain rfl := Option.some.inj ho
            show ObU _ _ _ _ _ (St w (fun _ => False) κ2 [(b13, .cells #[.int .i64 (termV ts y).1.op, .int .i64 (termV ts y).1.num, d28, k28] 30), (b11, .cells #[.int .i64 (termV ts x).1.op, .int .i64 (termV ts x).1.num, d22, k22] 30), (b9, .cells #[.int .i64 0, .int .i64 0, .slice none 0 0, .slice none 0 0] 30), (b8, .cells #[.int .i64 (termV ts x).1.op, .int .i64 (termV ts x).1.num, d22, k22] 30)] []) (St w (fun _ => False) κ2 [(b13, .cells #[.int .i64 (termV ts y).1.op, .int .i64 (termV ts y).1.num, d28, k28] 30), (b11, .cells #[.int .i64 (termV ts x).1.op, .int .i64 (termV ts x).1.num, d22, k22] 30), (b9, .cells #[.int .i64 (termV ts y).1.op, .int .i64 (termV ts y).1.num, d28, k28] 30), (b8, .cells #[.int .i64 (termV ts x).1.op, .int .i64 (termV ts x).1.num, d22, k22] 30)] [])
            exact obu (exu_conv (exu_storeN 2 rfl rfl rfl rfl ht28.one rfl) (fun w h => h))
          omega
        ·
          refine fin_is ?_
          refine fin_is ?_
          refine fin_is ?_
          refine fin_is ?_
          refine fin_is ?_
          refine fin_is ?_
          refine fin_is ?_
          refine fin_is ?_
          refine fin_is ?_
          refine fin_is ?_
          refine fin_is ?_
          refine fin_is ?_
          refine fin_nil ?_
          refine ow_mono (S' := St w (fun _ => False) κ2 [(b13, .cells #[.int .i64 (termV ts y).1.op, .int .i64 (termV ts y).1.num, d28, k28] 30), (b11, .cells #[.int .i64 (termV ts x).1.op, .int .i64 (termV ts x).1.num, d22, k22] 30), (b9, .cells #[.int .i64 (termV ts y).1.op, .int .i64 (termV ts y).1.num, d28, k28] 30), (b8, .cells #[.int .i64 (termV ts x).1.op, .int .i64 (termV ts x).1.num, d22, k22] 30)] []) (fun w h => h) ?_
          refine ow_val rfl rfl (ex_assign rfl) ?_
          refine ow_nil ?_
          refine qw_seq ?_
          refine cw_ret ?_
          refine qw_retCC1 rfl rfl (ld_ownN 3 rfl rfl) rfl (ld_ownN 2 rfl rfl) rfl (fun w' h => ?_)
          refine h.givesS hle2 (hl1.trans hl2) (hf1.trans hf2) ⟨_, _, ?_, ht22.le hl2, ht28⟩
          unfold bothV
          first | rfl | simp_all
      ·
        refine flow_skip (gd_no rfl s37) ?_
        refine flow_skip (gd_no rfl s37) ?_
        refine flow_skip (gd_no rfl s37) ?_
        refine flow_skip (gd_no rfl s37) ?_
        refine flow_val rfl (ex_pickf rfl s37 rfl) ?_
        refine flow_nil3 (m := 12) (n := 14) rfl (fun k hk o ho => ?_) ?_
        ·
          rcases k with _ | k
          ·
            obtain rfl := Option.some.inj ho
            show ObU _ _ _ _ _ (St w (fun _ => False) κ2 [(b13, .cells #[.int .i64 (termV ts y).1.op, .int .i64 (termV ts y).1.num, d28, k28] 30), (b11, .cells #[.int .i64 (termV ts x).1.op, .int .i64 (termV ts x).1.num, d22, k22] 30), (b9, .cells #[.int .i64 0, .int .i64 0, .slice none 0 0, .slice none 0 0] 30), (b8, .cells #[.int .i64 0, .int .i64 0, .slice none 0 0, .slice none 0 0] 30)] []) (St w (fun _ => False) κ2 [(b13, .cells #[.int .i64 (termV ts y).1.op, .int .i64 (termV ts y).1.num, d28, k28] 30), (b11, .cells #[.int .i64 (termV ts x).1.op, .int .i64 (termV ts x).1.num, d22, k22] 30), (b9, .cells #[.int .i64 0, .int .i64 0, .slice none 0 0, .slice none 0 0] 30), (b8, .cells #[.int .i64 (termV ts x).1.op, .int .i64 (termV ts x).1.num, d22, k22] 30)] [])
            exact obu (exu_conv (exu_storeN 3 rfl rfl rfl rfl ht22.one rfl) (fun w h => h))
          rcases k with _ | k
          ·
            obtain rfl := Option.some.inj ho
            show ObU _ _ _ _ _ (St w (fun _ => False) κ2 [(b13, .cells #[.int .i64 (termV ts y).1.op, .int .i64 (termV ts y).1.num, d28, k28] 30), (b11, .cells #[.int .i64 (termV ts x).1.op, .int .i64 (termV ts x).1.num, d22, k22] 30), (b9, .cells #[.int .i64 0, .int .i64 0, .slice none 0 0, .slice none 0 0] 30), (b8, .cells #[.int .i64 (termV ts x).1.op, .int .i64 (termV ts x).1.num, d22, k22] 30)] []) (St w (fun _ => False) κ2 [(b13, .cells #[.int .i64 (termV ts y).1.op, .int .i64 (termV ts y).1.num, d28, k28] 30), (b11, .cells #[.int .i64 (termV ts x).1.op, .int .i64 (termV ts x).1.num, d22, k22] 30), (b9, .cells #[.int .i64 (termV ts y).1.op, .int .i64 (termV ts y).1.num, d28, k28] 30), (b8, .cells #[.int .i64 (termV ts x).1.op, .int .i64 (termV ts x).1.num, d22, k22] 30)] [])
            exact obu (exu_conv (exu_storeN 2 rfl rfl rfl rfl ht28.one rfl) (fun w h => h))
          omega
        ·
          refine fin_is ?_
          refine fin_is ?_
          refine fin_is ?_
          refine fin_is ?_
          refine fin_is ?_
          refine fin_is ?_
          refine fin_is ?_
          refine fin_is ?_
          refine fin_is ?_
          refine fin_is ?_
          refine fin_is ?_
          refine fin_is ?_
          refine fin_nil ?_
          refine ow_mono (S' := St w (fun _ => False) κ2 [(b13, .cells #[.int .i64 (termV ts y).1.op, .int .i64 (termV ts y).1.num, d28, k28] 30), (b11, .cells #[.int .i64 (termV ts x).1.op, .int .i64 (termV ts x).1.num, d22, k22] 30), (b9, .cells #[.int .i64 (termV ts y).1.op, .int .i64 (termV ts y).1.num, d28, k28] 30), (b8, .cells #[.int .i64 (termV ts x).1.op, .int .i64 (termV ts x).1.num, d22, k22] 30)] []) (fun w h => h) ?_
          refine ow_val rfl rfl (ex_assign rfl) ?_
          refine ow_nil ?_
          refine qw_seq ?_
          refine cw_ret ?_
          refine qw_retCC1 rfl rfl (ld_ownN 3 rfl rfl) rfl (ld_ownN 2 rfl rfl) rfl (fun w' h => ?_)
          refine h.givesS hle2 (hl1.trans hl2) (hf1.trans hf2) ⟨_, _, ?_, ht22.le hl2, ht28⟩
          unfold bothV
          first | rfl | simp_all
    ·
      refine flow_skip (gd_no rfl s34) ?_
      refine flow_val rfl (ex_pickf rfl s34 rfl) ?_
      refine flow_val rfl (ex_move rfl) ?_
      refine flow_skip rfl ?_
      refine flow_skip rfl ?_
      refine flow_skip rfl ?_
      refine flow_skip rfl ?_
      refine flow_val rfl (ex_pick_f rfl rfl) ?_
      refine flow_nil3 (m := 12) (n := 14) rfl (fun k hk o ho => ?_) ?_
      ·
        rcases k with _ | k
        ·
          obtain rfl := Option.some.inj ho
          show ObU _ _ _ _ _ (St w (fun _ => False) κ2 [(b13, .cells #[.int .i64 (termV ts y).1.op, .int .i64 (termV ts y).1.num, d28, k28] 30), (b11, .cells #[.int .i64 (termV ts x).1.op, .int .i64 (termV ts x).1.num, d22, k22] 30), (b9, .cells #[.int .i64 0, .int .i64 0, .slice none 0 0, .slice none 0 0] 30), (b8, .cells #[.int .i64 0, .int .i64 0, .slice none 0 0, .slice none 0 0] 30)] []) (St w (fun _ => False) κ2 [(b13, .cells #[.int .i64 (termV ts y).1.op, .int .i64 (termV ts y).1.num, d28, k28] 30), (b11, .cells #[.int .i64 (termV ts x).1.op, .int .i64 (termV ts x).1.num, d22, k22] 30), (b9, .cells #[.int .i64 0, .int .i64 0, .slice none 0 0, .slice none 0 0] 30), (b8, .cells #[.int .i64 (termV ts x).1.op, .int .i64 (termV ts x).1.num, d22, k22] 30)] [])
          exact obu (exu_conv (exu_storeN 3 rfl rfl rfl rfl ht22.one rfl) (fun w h => h))
        rcases k with _ | k
        ·
          obtain rfl := Option.some.inj ho
          show ObU _ _ _ _ _ (St w (fun _ => False) κ2 [(b13, .cells #[.int .i64 (termV ts y).1.op, .int .i64 (termV ts y).1.num, d28, k28] 30), (b11, .cells #[.int .i64 (termV ts x).1.op, .int .i64 (termV ts x).1.num, d22, k22] 30), (b9, .cells #[.int .i64 0, .int .i64 0, .slice none 0 0, .slice none 0 0] 30), (b8, .cells #[.int .i64 (termV ts x).1.op, .int .i64 (termV ts x).1.num, d22, k22] 30)] []) (St w (fun _ => False) κ2 [(b13, .cells #[.int .i64 (termV ts y).1.op, .int .i64 (termV ts y).1.num, d28, k28] 30), (b11, .cells #[.int .i64 (termV ts x).1.op, .int .i64 (termV ts x).1.num, d22, k22] 30), (b9, .cells #[.int .i64 (termV ts y).1.op, .int .i64 (termV ts y).1.num, d28, k28] 30), (b8, .cells #[.int .i64 (termV ts x).1.op, .int .i64 (termV ts x).1.num, d22, k22] 30)] [])
          exact obu (exu_conv (exu_storeN 2 rfl rfl rfl rfl ht28.one rfl) (fun w h => h))
        omega
      ·
        refine fin_is ?_
        refine fin_is ?_
        refine fin_is ?_
        refine fin_is ?_
        refine fin_is ?_
        refine fin_is ?_
        refine fin_is ?_
        refine fin_is ?_
        refine fin_is ?_
        refine fin_is ?_
        refine fin_is ?_
        refine fin_is ?_
        refine fin_nil ?_
        refine ow_mono (S' := St w (fun _ => False) κ2 [(b13, .cells #[.int .i64 (termV ts y).1.op, .int .i64 (termV ts y).1.num, d28, k28] 30), (b11, .cells #[.int .i64 (termV ts x).1.op, .int .i64 (termV ts x).1.num, d22, k22] 30), (b9, .cells #[.int .i64 (termV ts y).1.op, .int .i64 (termV ts y).1.num, d28, k28] 30), (b8, .cells #[.int .i64 (termV ts x).1.op, .int .i64 (termV ts x).1.num, d22, k22] 30)] []) (fun w h => h) ?_
        refine ow_val rfl rfl (ex_assign rfl) ?_
        refine ow_nil ?_
        refine qw_seq ?_
        refine cw_ret ?_
        refine qw_retCC1 rfl rfl (ld_ownN 3 rfl rfl) rfl (ld_ownN 2 rfl rfl) rfl (fun w' h => ?_)
        refine h.givesS hle2 (hl1.trans hl2) (hf1.trans hf2) ⟨_, _, ?_, ht22.le hl2, ht28⟩
        unfold bothV
        first | rfl | simp_all

set_option maxHeartbeats 400000 in
theorem pOpen {key x : Int} {b : Nat} {ts : List T} {σ : Hp} {K : List (Nat × Obj)} {w : World} (hi : Has σ K w) (hvk : VaultK 68 30 b ts σ K) : Calls Tryd.prog 30 #[.pointer (some ⟨b, 0, none⟩), .int .i64 key, .int .i64 x] w (GiveR (RepBB (openV ts key x).1 (openV ts key x).2) σ w) := by
  have hlt := hi.le
  have him := hi.exts
  have hti := hvk.nd.1
  refine enter (St w (fun _ => False) (exts σ K) [] []) Tryd.func30 rfl Tryd.ntmps30 rfl (St.start him) ?_
  refine cw_seq ?_
  refine cw_region ?_
  refine ow_val rfl rfl (ex_assign rfl) ?_
  refine ow_val rfl rfl (ex_assign rfl) ?_
  refine ow_nil ?_
  refine qw_seq ?_
  refine cw_seq ?_
  refine cw_region ?_
  refine ow_val rfl rfl (ex_move rfl) ?_
  refine ow_val rfl rfl (ex_move rfl) ?_
  refine ow_val rfl rfl (ex_move rfl) ?_
  refine ow_crs rfl rfl hlt (ex_callf rfl (fun w h => callR (pBoth (hi.of_im h.im (Le.refl _)) hvk))) (fun v15 τ1 κ1 hl1 hf1 hr1 hlk1 hle1 => ?_)
  obtain ⟨cx, cy, rfl, htx, hty⟩ := hr1
  have htx' := htx
  obtain ⟨dx, kx, rfl, _, _, hdx, hkx⟩ := htx'.opn
  have hty' := hty
  obtain ⟨dy, ky, rfl, _, _, hdy, hky⟩ := hty'.opn
  obtain ⟨px, ccx, rfl, hcx, hmx⟩ := hkx.slice
  refine ow_val rfl rfl (ex_move rfl) ?_
  refine ow_val rfl rfl (ex_extract rfl rfl) ?_
  refine ow_val rfl rfl (ex_extract rfl rfl) ?_
  refine ow_val rfl rfl (ex_extract rfl rfl) ?_
  refine ow_blk rfl rfl exw_alloc ?_; intro b8
  refine ow_blk rfl rfl exw_alloc ?_; intro b9
  refine ow_u rfl (exu_storeN 1 rfl rfl rfl rfl htx.one rfl) ?_
  refine ow_u rfl (exu_storeN 0 rfl rfl rfl rfl hty.one rfl) ?_
  refine ow_val rfl rfl (ex_assign rfl) ?_
  refine ow_nil ?_
  refine qw_seq ?_
  refine cw_seq ?_
  refine cw_seq ?_
  refine flow_sound 11 (by kernel_rfl) ?_
  refine flow_val rfl (ex_move rfl) ?_
  refine flow_val rfl (ex_not rfl) ?_
  refine flow_val rfl (ex_move rfl) ?_
  refine flow_split rfl (fun s21 => ?_) (fun s21 => ?_)
  ·
    refine flow_skip (gd_no rfl s21) ?_
    refine flow_skip (gd_no rfl s21) ?_
    refine flow_skip (gd_no rfl s21) ?_
    refine flow_skip (gd_no rfl s21) ?_
    refine flow_skip (gd_no rfl s21) ?_
    refine flow_skip (gd_no rfl s21) ?_
    refine flow_skip (gd_no rfl s21) ?_
    refine flow_val rfl (ex_pickt rfl s21 rfl) ?_
    refine flow_nil ?_
    refine fin_is ?_
    refine fin_is ?_
    refine fin_is ?_
    refine fin_is ?_
    refine fin_is ?_
    refine fin_is ?_
    refine fin_is ?_
    refine fin_is ?_
    refine fin_is ?_
    refine fin_is ?_
    refine fin_is ?_
    refine fin_nil ?_
    refine ow_nil ?_
    refine qw_seq ?_
    refine cw_cond_t rfl ?_
    refine cw_seq ?_
    refine cw_region ?_
    refine ow_val rfl rfl (ex_assign rfl) ?_
    refine ow_val rfl rfl (ex_assign rfl) ?_
    refine ow_nil ?_
    refine qw_seq ?_
    refine cw_ret ?_
    refine qw_then_ret ?_
    refine qw_ret2 rfl rfl rfl (fun w' h => ?_)
    have e : openV ts key x = ([], false) := by
      unfold openV
      rw [if_neg]
      rintro ⟨h1, h2⟩
      simp_all
    rw [e]
    exact h.givesS hle1 hl1 hf1 ⟨_, rfl, BytesV.nil _⟩
  ·
    have hbt : bothV ts 4 x key = true := by simpa using s21
    have hbt0 := hbt
    simp only [bothV, Bool.and_eq_true, decide_eq_true_eq] at hbt
    have hone := keyed_one (hti.rt _ (termV_mem hbt.1.1)) (by omega)
    obtain ⟨bk, f, ck, c0, e1, _, hc0, ht0⟩ := hkx.get 0 (by omega)
    cases e1
    have hk0 : (termV ts x).1.kids[0] = (termV ts x).1.kids.getD 0 zeroT := by simp [List.getD_eq_getElem?_getD, show 0 < (termV ts x).1.kids.length by omega]
    rw [hk0] at ht0
    refine flow_val (gd_go rfl s21) (ex_field rfl) ?_
    refine flow_val (gd_go rfl s21) (ex_load1 rfl (by first | exact ld_own1 0 rfl rfl | exact ld_own1 1 rfl rfl | exact ld_own1 2 rfl rfl | exact ld_own1 3 rfl rfl | exact ld_own1 4 rfl rfl | exact ld_own1 5 rfl rfl | exact ld_own1 6 rfl rfl | exact ld_own1 7 rfl rfl | exact ld_ownG1 0 rfl rfl | exact ld_ownG1 1 rfl rfl | exact ld_imm1 (by assumption))) ?_
    refine flow_val (gd_go rfl s21) (ex_index_nat (i := 0) rfl rfl (by omega)) ?_
    refine flow_val (gd_go rfl s21) (ex_loadR rfl (ld_immT (hc0.le hle1) (ht0.le hle1))) ?_
    refine flow_val (gd_go rfl s21) (ex_loadR rfl (by first | exact ld_ownN 0 rfl rfl | exact ld_ownN 1 rfl rfl | exact ld_ownN 2 rfl rfl | exact ld_ownN 3 rfl rfl | exact ld_ownN 4 rfl rfl | exact ld_ownN 5 rfl rfl | exact ld_ownN 6 rfl rfl | exact ld_ownN 7 rfl rfl | exact ld_ownGN 0 rfl rfl | exact ld_ownGN 1 rfl rfl | exact ld_immT (by assumption) (by assumption))) ?_
    refine flow_cv (gd_go rfl s21) (ex_callf rfl (fun w h => callB ((pOrder _ _ h.im (ht0.le hle1) (hty.le hle1))))) ?_
    refine flow_val (gd_go rfl s21) (ex_neq rfl rfl) ?_
    refine flow_val rfl (ex_pickf rfl s21 rfl) ?_
    refine flow_nil ?_
    refine fin_is ?_
    refine fin_is ?_
    refine fin_is ?_
    refine fin_is ?_
    refine fin_is ?_
    refine fin_is ?_
    refine fin_is ?_
    refine fin_is ?_
    refine fin_is ?_
    refine fin_is ?_
    refine fin_is ?_
    refine fin_nil ?_
    refine ow_nil ?_
    refine qw_seq ?_
    refine cw_cond rfl (fun c29 => ?_) (fun c29 => ?_)
    ·
      refine cw_seq ?_
      refine cw_region ?_
      refine ow_val rfl rfl (ex_assign rfl) ?_
      refine ow_val rfl rfl (ex_assign rfl) ?_
      refine ow_nil ?_
      refine qw_seq ?_
      refine cw_ret ?_
      refine qw_then_ret ?_
      refine qw_ret2 rfl rfl rfl (fun w' h => ?_)
      have e : openV ts key x = ([], false) := by
        unfold openV
        rw [if_neg]
        rintro ⟨_, h2⟩
        exact (of_decide_eq_true c29) h2
      rw [e]
      exact h.givesS hle1 hl1 hf1 ⟨_, rfl, BytesV.nil _⟩
    ·
      refine cw_skip ?_
      refine qw_seq ?_
      refine cw_seq ?_
      refine cw_region ?_
      refine ow_val rfl rfl (ex_field rfl) ?_
      refine ow_val rfl rfl (ex_load1 rfl (by first | exact ld_own1 0 rfl rfl | exact ld_own1 1 rfl rfl | exact ld_own1 2 rfl rfl | exact ld_own1 3 rfl rfl | exact ld_own1 4 rfl rfl | exact ld_own1 5 rfl rfl | exact ld_own1 6 rfl rfl | exact ld_own1 7 rfl rfl | exact ld_ownG1 0 rfl rfl | exact ld_ownG1 1 rfl rfl | exact ld_imm1 (by assumption))) ?_
      refine ow_crs rfl rfl hle1 (ex_callf rfl (fun w h => callR (pBytesClone (fun bq oq eq => h.im bq oq (hle1 bq oq eq)) hdx))) (fun v32 τ2 κ2 hl2 hf2 hr2 hlk2 hle2 => ?_)
      refine ow_val rfl rfl (ex_assign rfl) ?_
      refine ow_val rfl rfl (ex_assign rfl) ?_
      refine ow_nil ?_
      refine qw_seq ?_
      refine cw_ret ?_
      refine qw_ret2 rfl rfl rfl (fun w' h => ?_)
      have e : openV ts key x = ((termV ts x).1.data, true) := by
        unfold openV
        rw [if_pos]
        exact ⟨hbt0, Decidable.not_not.1 (of_decide_eq_false c29)⟩
      rw [e]
      exact h.givesS hle2 (hl1.trans hl2) (hf1.trans hf2) ⟨_, rfl, hr2⟩
end Go.Proofs.YtnjomdjkbbhdoaaDoor
