/-
  The numbers that bytes mention, in order: in plain Lean.
  No condition.
-/
import Derived.Test.YtnjomdjkbbhdoaaDoorSortI
namespace Go.Proofs.YtnjomdjkbbhdoaaDoor
open Go.RowKit
set_option linter.unusedVariables false
set_option linter.unusedSimpArgs false

theorem strict_eq : ∀ {a b : List Int}, a.Pairwise (· < ·) → b.Pairwise (· < ·) → (∀ x, x ∈ a ↔ x ∈ b) → a = b
  | [], [], _, _, _ => rfl
  | [], y :: b, _, _, h => by have := (h y).2 (by simp); simp at this
  | x :: a, [], _, _, h => by have := (h x).1 (by simp); simp at this
  | x :: a, y :: b, ha, hb, h => by
    rw [List.pairwise_cons] at ha hb
    have e : x = y := by
      have h1 := (h x).1 (by simp)
      have h2 := (h y).2 (by simp)
      rcases List.mem_cons.1 h1 with h1 | h1
      · exact h1
      · rcases List.mem_cons.1 h2 with h2 | h2
        · exact h2.symm
        · have := hb.1 x h1
          have := ha.1 y h2
          omega
    subst e
    congr 1
    refine strict_eq ha.2 hb.2 fun z => ⟨fun hz => ?_, fun hz => ?_⟩
    · rcases List.mem_cons.1 ((h z).1 (List.mem_cons_of_mem _ hz)) with e | e
      · have := ha.1 z hz; omega
      · exact e
    · rcases List.mem_cons.1 ((h z).2 (List.mem_cons_of_mem _ hz)) with e | e
      · have := hb.1 z hz; omega
      · exact e
theorem compact_facts (d : Array Int) (hs : ∀ i j, i ≤ j → j < d.size → d[i]! ≤ d[j]!) : ∀ m, m ≤ d.size →
    (Lib.compactUpTo d m).Pairwise (· < ·) ∧ ∀ x, x ∈ Lib.compactUpTo d m ↔ ∃ j, j < m ∧ d[j]! = x
  | 0, _ => by simp [Lib.compactUpTo]
  | m + 1, hm => by
    obtain ⟨h1, h2⟩ := compact_facts d hs m (by omega)
    rw [Lib.compactUpTo_succ]
    by_cases hk : Lib.keeps d m = true
    · rw [if_pos hk]
      constructor
      · rw [List.pairwise_append]
        refine ⟨h1, by simp, fun a ha b hb => ?_⟩
        simp only [List.mem_singleton] at hb
        subst hb
        obtain ⟨j, hj, rfl⟩ := (h2 a).1 ha
        unfold Lib.keeps at hk
        simp only [decide_eq_true_eq] at hk
        have hne := hk.resolve_left (by omega)
        have q1 := hs j (m - 1) (by omega) (by omega)
        have q2 := hs (m - 1) m (by omega) (by omega)
        omega
      · intro x
        rw [List.mem_append, h2, List.mem_singleton]
        constructor
        · rintro (⟨j, hj, e⟩ | e)
          · exact ⟨j, by omega, e⟩
          · exact ⟨m, by omega, e.symm⟩
        · rintro ⟨j, hj, e⟩
          by_cases hjm : j = m
          · subst hjm; exact .inr e.symm
          · exact .inl ⟨j, by omega, e⟩
    · rw [if_neg hk, List.append_nil]
      refine ⟨h1, fun x => ?_⟩
      rw [h2]
      unfold Lib.keeps at hk
      simp only [decide_eq_true_eq, not_or, ne_eq, Decidable.not_not] at hk
      constructor
      · rintro ⟨j, hj, e⟩; exact ⟨j, by omega, e⟩
      · rintro ⟨j, hj, e⟩
        by_cases hjm : j = m
        · subst hjm; exact ⟨j - 1, by omega, by rw [← hk.2]; exact e⟩
        · exact ⟨j, by omega, e⟩
theorem sortI_le (zs : List Int) : (sortI zs).Pairwise (· ≤ ·) := by
  have := List.pairwise_mergeSort (le := fun x y : Int => decide (x ≤ y)) (fun a b c h1 h2 => by simp at *; omega) (fun a b => by simp; omega) zs
  exact this.imp (fun h => by simpa using h)
theorem compact_sort (zs : List Int) : (Lib.compact (sortI zs)).Pairwise (· < ·) ∧ ∀ x, x ∈ Lib.compact (sortI zs) ↔ x ∈ zs := by
  have hp := sortI_le zs
  have hg : ∀ j, (h : j < (sortI zs).length) → (sortI zs).toArray[j]! = (sortI zs)[j] := fun j h => by simp [h]
  have hsz : (sortI zs).toArray.size = (sortI zs).length := by simp
  obtain ⟨h1, h2⟩ := compact_facts (sortI zs).toArray (fun i j hij hj => by
    rw [hg j (by omega), hg i (by omega)]
    by_cases e : i = j
    · subst e; exact Int.le_refl _
    · exact List.pairwise_iff_getElem.1 hp i j (by omega) (by omega) (by omega)) (sortI zs).length (by omega)
  refine ⟨h1, fun x => (h2 x).trans ?_⟩
  have hm : x ∈ sortI zs ↔ x ∈ zs := by unfold sortI; exact List.mem_mergeSort
  rw [← hm]
  constructor
  · rintro ⟨j, hj, e⟩
    rw [hg j hj] at e
    rw [← e]; exact List.getElem_mem hj
  · intro h
    obtain ⟨j, hj, e⟩ := List.mem_iff_getElem.1 h
    exact ⟨j, hj, by rw [hg j hj]; exact e⟩
theorem mentS_facts (d : List UInt8) (below : Int) : (mentS d below).Pairwise (· < ·) ∧ ∀ x, x ∈ mentS d below ↔ x ∈ mentL d below := compact_sort _
theorem mentS_is {d : List UInt8} {below : Int} {zs : List Int} (h1 : zs.Pairwise (· < ·)) (h2 : ∀ x, x ∈ zs ↔ x ∈ mentL d below) : zs = mentS d below :=
  strict_eq h1 (mentS_facts d below).1 fun x => (h2 x).trans ((mentS_facts d below).2 x).symm
theorem CellsAt.intD {σ : Hp} {b o : Nat} {zs : List Int} (h : CellsAt σ b o (intsV zs)) {i : Nat} (hi : i < zs.length) : CellsAt σ b (o + i * 1) [.int .i64 (zs.getD i 0)] := by
  have := h.int hi
  rwa [show zs.getD i 0 = zs[i] by simp [List.getD_eq_getElem?_getD, hi]]
theorem intsV_len (zs : List Int) : (intsV zs).length = zs.length := by simp [intsV]
theorem intsV_one {zs : List Int} (u : Value) (h : u ∈ intsV zs) : u.oneCell' = true := by
  simp only [intsV, List.mem_map] at h
  obtain ⟨z, _, rfl⟩ := h; rfl
theorem nodup_len : ∀ {a b : List Int}, a.Nodup → (∀ x ∈ a, x ∈ b) → a.length ≤ b.length
  | [], b, _, _ => Nat.zero_le _
  | x :: a, b, hn, h => by
    rw [List.nodup_cons] at hn
    have hx : x ∈ b := h x (by simp)
    have h1 := nodup_len (b := b.erase x) hn.2 (fun y hy => (List.mem_erase_of_ne (fun e => hn.1 (by rw [← e]; exact hy))).2 (h y (List.mem_cons_of_mem _ hy)))
    have h2 := List.length_erase_of_mem hx
    have h3 : 0 < b.length := List.length_pos_of_mem hx
    simp only [List.length_cons]; omega
theorem strict_len {a b : List Int} (ha : a.Pairwise (· < ·)) (h : ∀ x ∈ a, x ∈ b) : a.length ≤ b.length :=
  nodup_len (ha.imp (fun h => by omega)) h
/-- A number put into a row that is in order, at its place. -/
theorem ins_facts {zs : List Int} {n : Int} {k : Nat} (hp : zs.Pairwise (· < ·)) (hk : k ≤ zs.length) (hge : ∀ j, k ≤ j → j < zs.length → n ≤ zs.getD j 0) (hlt : k = 0 ∨ zs.getD (k - 1) 0 < n) (hne : ¬ (k < zs.length ∧ zs.getD k 0 = n)) :
    (zs.take k ++ [n] ++ zs.drop k).Pairwise (· < ·) ∧ ∀ x, x ∈ zs.take k ++ [n] ++ zs.drop k ↔ x = n ∨ x ∈ zs := by
  have gd : ∀ j, (h : j < zs.length) → zs.getD j 0 = zs[j] := fun j h => by simp [List.getD_eq_getElem?_getD, h]
  have pw := List.pairwise_iff_getElem.1 hp
  have ha : ∀ x ∈ zs.take k, x < n := fun x hx => by
    obtain ⟨j, hj, rfl⟩ := List.mem_iff_getElem.1 hx
    rw [List.getElem_take]
    have hj' : j < k := by rw [List.length_take] at hj; omega
    have h2 := hlt.resolve_left (by omega)
    rw [gd _ (by omega)] at h2
    by_cases e : j = k - 1
    · subst e; exact h2
    · have := pw j (k - 1) (by omega) (by omega) (by omega)
      omega
  have hb : ∀ x ∈ zs.drop k, n < x := fun x hx => by
    obtain ⟨j, hj, rfl⟩ := List.mem_iff_getElem.1 hx
    rw [List.getElem_drop]
    have hj' : k + j < zs.length := by rw [List.length_drop] at hj; omega
    have h1 := hge (k + j) (by omega) hj'
    rw [gd _ hj'] at h1
    have h3 : ¬ zs[k + j] = n := fun e => by
      by_cases e0 : j = 0
      · subst e0; exact hne ⟨by omega, by rw [gd _ (by omega)]; exact e⟩
      · have h4 := pw k (k + j) (by omega) hj' (by omega)
        have h5 := hge k (by omega) (by omega)
        rw [gd _ (by omega)] at h5
        omega
    omega
  constructor
  · rw [List.pairwise_append, List.pairwise_append]
    refine ⟨⟨hp.sublist (List.take_sublist _ _), by simp, fun a h b hb' => ?_⟩, hp.sublist (List.drop_sublist _ _), fun a h b hb' => ?_⟩
    · simp at hb'; subst hb'; exact ha a h
    · rcases List.mem_append.1 h with h | h
      · have := ha a h; have := hb b hb'; omega
      · simp at h; subst h; exact hb b hb'
  · intro x
    rw [List.mem_append, List.mem_append, List.mem_singleton]
    constructor
    · rintro ((h | h) | h)
      · exact .inr (List.mem_of_mem_take h)
      · exact .inl h
      · exact .inr (List.mem_of_mem_drop h)
    · rintro (h | h)
      · exact .inl (.inr h)
      · have := List.take_append_drop k zs
        rw [← this, List.mem_append] at h
        rcases h with h | h
        · exact .inl (.inl h)
        · exact .inr h
section
variable {P : Program} {l0 : List Oper} {Q : Exit → Act → World → Prop} {l : List Oper} {N : Nat} {L : TL} {w0 : World} {M : Nat → Prop} {σ : Hp} {H Gs : List (Nat × Obj)} {e n : Nat} {v : Value} {zs : List Int}
theorem ow_frzI (hM : ∀ b, M b → False) (hO : OwnSl e 1 v n (intsV zs) Gs) (k : ∀ σ', Le σ σ' → Fresh σ σ' w0 → IntsV σ' v zs → OW P l0 Q l N L (St w0 M σ' H [])) : OW P l0 Q l N L (St w0 M σ H Gs) := fun a w hf hs => by
  obtain ⟨σ', h1, h2, h3, h4⟩ := freezeI (Gr := []) (by simpa using hs) hM hO
  exact k σ' h1 h2 h4 a w hf h3
end
theorem hit_two {d : List UInt8} {i : Nat} (h : i + 10 ≤ d.length) : ((d.drop i).take 2 == [4, 8]) = (decide (d.getD i 0 = 4) && decide (d.getD (i + 1) 0 = 8)) := by
  have h1 : (d.drop i).getD 0 0 = d.getD i 0 := by rw [drop_getD]; rfl
  have h2 : (d.drop i).getD 1 0 = d.getD (i + 1) 0 := by rw [drop_getD]
  rw [← h1, ← h2, ← hp_two (by rw [List.length_drop]; omega)]
  unfold hpB
  have : 2 ≤ (d.drop i).length := by rw [List.length_drop]; omega
  simp only [List.length_cons, List.length_nil]
  rw [decide_eq_true (by omega)]; rfl
theorem mentS_len (d : List UInt8) (below : Int) : (mentS d below).length ≤ d.length :=
  Nat.le_trans (strict_len (mentS_facts d below).1 fun x hx => ((mentS_facts d below).2 x).1 hx) (mentL_len d below)
theorem mentL_mem : ∀ {d : List UInt8} {below x : Int}, x ∈ mentL d below ↔ ∃ i, i + 10 ≤ d.length ∧ hitB (d.drop i) below = true ∧ x = (numB (((d.drop i).drop 2).take 8)).1
  | [], below, x => by simp [mentL]
  | c :: r, below, x => by
    have ih := mentL_mem (d := r) (below := below) (x := x)
    rw [mentL]
    constructor
    · intro h
      split at h
      · rename_i hc
        rcases List.mem_cons.1 h with h | h
        · exact ⟨0, by omega, hc.2, h⟩
        · obtain ⟨i, h1, h2, h3⟩ := ih.1 h
          exact ⟨i + 1, by simp; omega, h2, h3⟩
      · obtain ⟨i, h1, h2, h3⟩ := ih.1 h
        exact ⟨i + 1, by simp; omega, h2, h3⟩
    · rintro ⟨i, h1, h2, h3⟩
      match i with
      | 0 =>
        rw [if_pos ⟨by omega, h2⟩]
        exact List.mem_cons.2 (.inl h3)
      | i + 1 =>
        have hm : x ∈ mentL r below := ih.2 ⟨i, by simp at h1; omega, h2, h3⟩
        split
        · exact List.mem_cons_of_mem _ hm
        · exact hm
theorem beN_tail {m : Nat} (hm : m < 281474976710656) : ∀ k, k ≤ 6 → beN (tailB m k) = m / 2 ^ (8 * (6 - k))
  | 0, _ => by
    have : m / 2 ^ (8 * (6 - 0)) = 0 := Nat.div_eq_of_lt (by simpa using hm)
    rw [this]; rfl
  | k + 1, hk => by
    rw [tailB_succ, beN_snoc, beN_tail hm k (by omega), UInt8.toNat_ofNat']
    have e1 : 8 * (6 - k) = 8 * (5 - k) + 8 := by omega
    have e2 : 8 * (6 - (k + 1)) = 8 * (5 - k) := by omega
    rw [e1, e2, Nat.pow_add, ← Nat.div_div_eq_div_mul]
    generalize m / 2 ^ (8 * (5 - k)) = q
    simp only [Nat.reducePow]
    omega
theorem numB_bytes {n : Int} (h : 0 ≤ n ∧ n < 281474976710656) : numB (bytesN n) = (n, true) := by
  obtain ⟨m, rfl⟩ : ∃ m : Nat, n = (m : Int) := ⟨n.toNat, by omega⟩
  have hm : m < 281474976710656 := by omega
  rw [bytesN_in hm, numB_in (by simp [tailB_len]) rfl rfl]
  have := beN_tail hm 6 (Nat.le_refl _)
  simp only [List.drop_succ_cons, List.drop_zero, this]
  simp
theorem bytesN_8 (n : Int) : (bytesN n).length = 0 ∨ (bytesN n).length = 8 := by
  by_cases h : 0 ≤ n ∧ n < 281474976710656
  · exact .inr (bytesN_len h)
  · exact .inl (by rw [bytesN_out h]; rfl)
/-- What is mentioned lies below the bound; a mention that stands anywhere is mentioned. -/
theorem mentS_in {d : List UInt8} {below x : Int} (h : x ∈ mentS d below) : 0 ≤ x ∧ x < below := by
  obtain ⟨i, _, h2, rfl⟩ := mentL_mem.1 (((mentS_facts d below).2 x).1 h)
  unfold hitB at h2
  simp only [Bool.and_eq_true, decide_eq_true_eq] at h2
  exact ⟨(numB_ge h2.1.1).1, h2.1.2⟩
theorem mentS_at {a z : List UInt8} {n below : Int} (h : 0 ≤ n ∧ n < 281474976710656) (hb : n < below) : n ∈ mentS (a ++ mentN n ++ z) below := by
  have h8 := bytesN_len h
  have e : (a ++ mentN n ++ z).drop a.length = 4 :: 8 :: (bytesN n ++ z) := by
    unfold mentN
    rw [if_pos h, List.append_assoc, List.drop_left]; rfl
  refine ((mentS_facts _ below).2 n).2 (mentL_mem.2 ⟨a.length, ?_, ?_, ?_⟩)
  · unfold mentN
    rw [if_pos h]
    simp; omega
  · rw [e]
    unfold hitB
    have : (((4 : UInt8) :: 8 :: (bytesN n ++ z)).drop 2).take 8 = bytesN n := by
      show (bytesN n ++ z).take 8 = bytesN n
      rw [← h8, List.take_left]
    rw [this, numB_bytes h]
    simp [hb]
  · rw [e]
    have : (((4 : UInt8) :: 8 :: (bytesN n ++ z)).drop 2).take 8 = bytesN n := by
      show (bytesN n ++ z).take 8 = bytesN n
      rw [← h8, List.take_left]
    rw [this, numB_bytes h]
theorem mentS_iff {a z : List UInt8} {n below : Int} (h : 0 ≤ n ∧ n < 281474976710656) : n ∈ mentS (a ++ mentN n ++ z) below ↔ n < below := ⟨fun hm => (mentS_in hm).2, mentS_at h⟩
theorem take_mem {zs : List Int} {n : Int} {i : Nat} (h : i < zs.length) : decide (n ∈ zs.take (i + 1)) = (decide (n ∈ zs.take i) || decide (zs.getD i 0 = n)) := by
  rw [List.take_succ_eq_append_getElem h, Bool.eq_iff_iff]
  simp only [List.mem_append, List.mem_singleton, Bool.or_eq_true, decide_eq_true_eq, List.getD_eq_getElem?_getD, List.getElem?_eq_getElem h, Option.getD_some]
  rw [eq_comm (a := n)]
theorem getD_mem {zs : List Int} {i : Nat} (h : i < zs.length) : zs.getD i 0 ∈ zs := by
  rw [List.getD_eq_getElem?_getD, List.getElem?_eq_getElem h]; exact List.getElem_mem _
theorem mentS_asc {d : List UInt8} {below : Int} {i j : Nat} (hij : i < j) (hj : j < (mentS d below).length) : (mentS d below).getD i 0 < (mentS d below).getD j 0 := by
  have := List.pairwise_iff_getElem.1 (mentS_facts d below).1 i j (by omega) hj hij
  simpa [List.getD_eq_getElem?_getD, hj, show i < (mentS d below).length by omega] using this
end Go.Proofs.YtnjomdjkbbhdoaaDoor
