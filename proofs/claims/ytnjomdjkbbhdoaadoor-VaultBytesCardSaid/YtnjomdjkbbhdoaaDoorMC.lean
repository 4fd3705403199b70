/-
  Merged: Seen, Tree, Byte, LawV, ReadU, Stores, Crypt.
  No condition.
-/
import Derived.Test.YtnjomdjkbbhdoaaDoorMB
import Derived.Deep.Slices
import Derived.ProofKit
import Derived.SizedLaws
namespace Go.Proofs.YtnjomdjkbbhdoaaDoor
open Go.RowKit
set_option linter.unusedVariables false

/-- The program's table, read. -/
structure SeenV (σ : Hp) (b : Nat) (ts : List T) (p : Option Addr) (c m : Nat) : Prop where
  c0 : CellsAt σ b 0 [.slice p ts.length c]
  c1 : CellsAt σ b 1 [.map (some m)]
  mp : σ m = some (mapObj ts)
  cap : ts.length ≤ c
  few : ts.length ≤ 4096
  tab : TabI ts
theorem OwnSl.slice {e size n : Nat} {v : Value} {xs : List Value} {Gs : List (Nat × Obj)} (h : OwnSl e size v n xs Gs) : ∃ p c, v = .slice p n c ∧ n ≤ c := by
  rcases h.2 with ⟨rfl, rfl, _⟩ | ⟨g, c, cur, rfl, _, h2, _⟩
  · exact ⟨_, _, rfl, Nat.le_refl _⟩
  · exact ⟨_, _, rfl, h2⟩
theorem VaultK.seen {tv te : TypeId} {b : Nat} {ts : List T} {σ τ : Hp} {K : List (Nat × Obj)} (h : VaultK tv te b ts σ K) (hs : ∀ q ∈ K, τ q.1 = some q.2) : ∃ p c m, SeenV τ b ts p c m := by
  obtain ⟨sv, xs, m, Gs, rfl, hO, hr, ht, hl⟩ := h
  obtain ⟨p, c, rfl, hc⟩ := hO.slice
  exact ⟨p, c, m, CellsAt.of1 (hs _ (List.mem_cons_self)) rfl, CellsAt.of1 (hs _ (List.mem_cons_self)) rfl, hs (m, mapObj ts) (by simp), hc, hl, ht⟩
theorem VaultK.seenX {tv te : TypeId} {b : Nat} {ts : List T} {σ : Hp} {K : List (Nat × Obj)} {w : World} (h : VaultK tv te b ts σ K) (hi : Has σ K w) : ∃ p c m, SeenV (exts σ K) b ts p c m :=
  h.seen fun q hq => exts_get hi.nd hq
theorem VaultK.nd {tv te : TypeId} {b : Nat} {ts : List T} {σ : Hp} {K : List (Nat × Obj)} (h : VaultK tv te b ts σ K) : TabI ts ∧ ts.length ≤ 4096 := by
  obtain ⟨sv, xs, m, Gs, rfl, hO, hr, ht, hl⟩ := h
  exact ⟨ht, hl⟩
theorem setX_snoc {xs co cs : List Value} {n : Nat} (hx : xs.length = n * 4) (hc : co.length = 4) : setX (xs ++ co) n cs = xs ++ cs := by
  unfold setX
  rw [List.take_append, List.drop_append, ← hx, List.take_length, Nat.sub_self, List.take_zero, List.append_nil, List.drop_eq_nil_of_le (by omega), show xs.length + 4 - xs.length = co.length by omega, List.drop_length]
  simp
def mostN : Nat → Nat
  | 0 => 0
  | n + 1 => 1 + 4 * mostN n
theorem mostN_16 : mostN 16 ≤ maxKids := by decide
theorem sizes_len {B : Nat} : ∀ {ks : List T}, (∀ k ∈ ks, size k ≤ B) → sizes ks ≤ ks.length * B
  | [], _ => by simp [sizes]
  | k :: r, h => by
    have h1 := h k (by simp)
    have h2 := sizes_len (B := B) (ks := r) (fun x hx => h x (List.mem_cons_of_mem _ hx))
    simp only [sizes, List.length_cons, Nat.add_mul]
    omega
theorem rightD_size : ∀ (t : T) {dp : Nat}, rightD t dp = true → size t ≤ mostN (16 - dp) := by
  intro t
  induction t using T.ind with
  | _ o n d ks ih =>
    intro dp h
    rw [rightD_mk] at h
    simp only [Bool.and_eq_true, decide_eq_true_eq] at h
    obtain ⟨⟨⟨h1, h2⟩, h3⟩, h4⟩ := h
    have hk := shape_kids h2
    have hb : ∀ k ∈ ks, size k ≤ mostN (16 - (dp + 1)) := fun k hm => by
      obtain ⟨i, hi, rfl⟩ := List.mem_iff_getElem.1 hm
      exact ih _ hm (rightsD_iff.1 h3 i hi)
    have hks := sizes_len hb
    have hm : ks.length * mostN (16 - (dp + 1)) ≤ 4 * mostN (16 - (dp + 1)) := Nat.mul_le_mul_right _ hk
    rw [show 16 - dp = (16 - (dp + 1)) + 1 by omega]
    simp only [size, mostN]
    omega
theorem right_size {t : T} (h : right t = true) : size t ≤ maxKids := Nat.le_trans (rightD_size t h) mostN_16
theorem right_slim {t : T} (h : right t = true) : norm t = t ∧ slim 19 t := ⟨(right_norm h).1, slim_mono (by decide) _ (right_norm h).2⟩
theorem zeroT_c (σ : Hp) : TermC σ [.int .i64 0, .int .i64 0, .slice none 0 0, .slice none 0 0] zeroT := TermC.mk (by omega) (by omega) (BytesV.nil σ) (KidsV.nil σ)
theorem right_lim {t : T} (h : right t = true) : (keyB t).length ≤ 140737488355328 := Nat.le_trans (right_key h) (by unfold maxKey; decide)
theorem putVs_len (ks ts : List T) (i : Nat) : (putVs (ks.take i) ts).length ≤ ts.length + sizes (ks.take i) := by
  obtain ⟨es, h, h2, _⟩ := putVs_ext (ks.take i) ts
  rw [h, List.length_append]; omega
end Go.Proofs.YtnjomdjkbbhdoaaDoor
namespace Go.Proofs.YtnjomdjkbbhdoaaDoor
open Go.RowKit
set_option linter.unusedVariables false

def drawT (N : Nat) (l : List Oper) (n : Nat) : Bool :=
  Nat.blt n l.length && ownDst N (l.take n) && aheadB 0 l && (match l[n]? with
    | some o => waitsB l o [] n
    | none => false) && (List.range l.length).all fun t => decide (t ≤ n) || (match l[t]? with
      | some o => memN n (depsL o.after.toList)
      | none => false)

theorem flow_soundT {P : Program} {l : List Oper} {L : TL} {S : World → Prop} [hSta : Sta S] {N : Nat} {Q : Exit → Act → World → Prop} {id : Nat} [hm : MixT P] (n : Nat) (hB : drawT N l n = true)
    (h : Flow P l (Go.Proofs.YtnjomdjkbbhdoaaDoor.cut (l.take n) L) S N (fun K => ∀ a w, Fr N (Go.Proofs.YtnjomdjkbbhdoaaDoor.cut (l.take n) L) a → S w → (∀ e ∈ K, ∃ v, a.tmps[e.d]? = some v ∧ e.p.holds w v) → wpAny P .any l.toArray Q (l.length - n) (firsts n l.length) a w) (l.take n) 0 []) :
    CW P (.region id l.toArray true) Q N L S := by
  simp only [drawT, Bool.and_eq_true] at hB
  obtain ⟨⟨⟨⟨hn, hown⟩, hahead⟩, hwt⟩, hstar⟩ := hB
  have hn2 : n < l.length := by have := hn; simp [Nat.blt] at this; omega
  have hn' : n ≤ l.length := by omega
  obtain ⟨on, hon, hwn⟩ : ∃ o, l[n]? = some o ∧ waitsB l o [] n = true := by
    cases hl : l[n]? with
    | none => rw [hl] at hwt; cases hwt
    | some o => rw [hl] at hwt; exact ⟨o, rfl, hwt⟩
  obtain ⟨Kf, hfin, -, hK, hcov, huni⟩ := flow_all (l.take n) 0 [] (fun j hj => by
    rw [List.length_take] at hj
    rw [List.getElem?_take_of_lt (by omega)]; simp) (fun _ he => absurd he List.not_mem_nil) h
  have hK' : ∀ e ∈ Kf, e.j < n ∧ ∃ o, l[e.j]? = some o ∧ o.dst = some e.d ∧ e.p.pers ∧ ∀ a w, Fr N (Go.Proofs.YtnjomdjkbbhdoaaDoor.cut (l.take n) L) a → S w →
      (∀ e' ∈ Kf, edge o.after.toList e'.j = true → ∃ v, a.tmps[e'.d]? = some v ∧ e'.p.holds w v) → stepOK P l o a w e.p := fun e he => by
    rcases hK e he with h0 | ⟨_, h1, h2⟩
    · cases h0
    · exact ⟨by rw [List.length_take] at h1; omega, h2⟩
  have hsz : l.toArray.size = l.length := by simp
  have key : ∀ (g : Nat) (listed : Array Bool) (a : Act) (w : World), HeadInv .any l.toArray n listed → cnt listed n = g → Fr N (Go.Proofs.YtnjomdjkbbhdoaaDoor.cut (l.take n) L) a → S w →
      (∀ e ∈ Kf, listed.getD e.j true = true → ∃ v, a.tmps[e.d]? = some v ∧ e.p.holds w v) → wpAny P .any l.toArray Q (g + (l.length - n)) listed a w := by
    intro g
    induction g with
    | zero =>
      intro listed a w inv hc hf hs hk
      have hall := cnt_zero hc
      have hlist : listed = firsts n l.length := by
        apply Array.ext_getElem?
        intro i
        have hs1 : listed.size = l.length := by rw [inv.size, hsz]
        unfold firsts
        rcases Nat.lt_or_ge i n with h1 | h1
        · have := hall i h1
          have hi : i < listed.size := by omega
          simp [hi] at this
          simp [hi, this, List.getElem?_append, h1]
        · rcases Nat.lt_or_ge i l.length with h2 | h2
          · have := inv.tail i h1 (by rw [hsz]; exact h2)
            have hi : i < listed.size := by omega
            simp [hi] at this
            simp [hi, this, List.getElem?_append, show ¬ i < n by omega, show i - n < l.length - n by omega]
          · rw [Array.getElem?_eq_none (by omega)]
            simp [List.getElem?_append, show ¬ i < n by omega, show ¬ i - n < l.length - n by omega]
      have hw := hfin a w hf hs (fun e he => hk e he (hall e.j (hK' e he).1))
      rw [hlist, Nat.zero_add]
      exact hw
    | succ g ih =>
      intro listed a w inv hc hf hs hk
      rw [show g + 1 + (l.length - n) = (g + (l.length - n)) + 1 by omega]
      obtain ⟨i0, hi0, hun0, hbelow⟩ := cnt_pos (show 0 < cnt listed n by omega)
      have hs1 : listed.size = l.length := by rw [inv.size, hsz]
      have hready : i0 ∈ Region.ready .any l.toArray listed := by
        have hlt : i0 < l.length := by omega
        refine mem_ready.2 ⟨hun0, l[i0], by simp [hlt], fun e he hb => ?_⟩
        have h1 := ahead_get hahead i0 l[i0] (by simp [hlt]) e he hb
        have h2 := hbelow e.on (by omega)
        have hlt2 : e.on < listed.size := by omega
        simp [hlt2] at h2 ⊢
        exact h2
      refine ⟨fun hnil => (by rw [hnil] at hready; cases hready), fun i hi => ?_⟩
      have hin : i < n := by
        rcases Nat.lt_or_ge i n with h1 | h1
        · exact h1
        · obtain ⟨_, oi, hoi, hdeps⟩ := mem_ready.1 hi
          have hlt : i < l.length := by have := (Array.getElem?_eq_some_iff.1 hoi).1; simpa using this
          have hoi' : l[i]? = some oi := by simpa using hoi
          rcases Nat.eq_or_lt_of_le h1 with h2 | h2
          · subst h2
            have : oi = on := Option.some.inj (hoi'.symm.trans hon)
            subst this
            have h3 := (List.all_eq_true.1 hwn) i0 (List.mem_range.2 hi0)
            simp only [memN, Bool.false_or] at h3
            have h4 := clos_listed inv n _ (fun x hx => by
              obtain ⟨e, he, hej, heb⟩ := depsL_mem hx
              rw [← hej]; exact hdeps e (by simpa using he) heb) i0 (memN_mem h3)
            have hlt2 : i0 < listed.size := by omega
            simp [hlt2] at h4 hun0
            rw [h4] at hun0; cases hun0
          · have h3 := (List.all_eq_true.1 hstar) i (List.mem_range.2 hlt)
            simp only [Bool.or_eq_true, decide_eq_true_eq] at h3
            have h4 := h3.resolve_left (by omega)
            rw [hoi'] at h4
            obtain ⟨e, he, hej, heb⟩ := depsL_mem (memN_mem h4)
            have h5 := hdeps e (by simpa using he) heb
            rw [hej] at h5
            have h6 := inv.tail n (Nat.le_refl _) (by rw [hsz]; exact hn2)
            have hlt2 : n < listed.size := by omega
            simp [hlt2] at h5 h6
            rw [h5] at h6; cases h6
      obtain ⟨huni1, oi, hoi, hdeps⟩ := mem_ready.1 hi
      have hoi' : l[i]? = some oi := by simpa using hoi
      obtain ⟨e, heK, hej⟩ := hcov i (by rw [List.length_take]; omega)
      have hej' : e.j = i := by omega
      obtain ⟨_, o, ho, hod, hpers, hstep⟩ := hK' e heK
      rw [hej'] at ho
      have : o = oi := Option.some.inj (ho.symm.trans hoi')
      subst this
      have hdn : e.d < N := by
        obtain ⟨d, hd1, hd2⟩ := ownDst_get hown i o (by rw [List.getElem?_take_of_lt hin]; exact ho)
        rw [hod] at hd1; cases hd1; exact hd2
      have hcutd : ∀ v, lk (Go.Proofs.YtnjomdjkbbhdoaaDoor.cut (l.take n) L) e.d = some v → False := fun v hv => by
        have h1 := (lk_cut hv).1
        rw [anyDst_of (List.mem_of_getElem? (l := l.take n) (i := i) (by rw [List.getElem?_take_of_lt hin]; exact ho)) hod] at h1
        cases h1
      have hso := hstep a w hf hs (fun e' he' hed => by
        obtain ⟨x, hx, hxj, hxb⟩ := edge_mem hed
        have h1 := hdeps x (by simpa using hx) hxb
        rw [hxj] at h1
        have h2 : e'.j < n := (hK' e' he').1
        refine hk e' he' ?_
        have hlt2 : e'.j < listed.size := by omega
        simp [hlt2] at h1 ⊢
        exact h1)
      have next : ∀ v w', Below w.heap.size w w' → e.p.holds w' v → wpAny P .any l.toArray Q (g + (l.length - n)) (listed.setIfInBounds i true) (a.put o.dst v) w' := by
        intro v w' hb hv
        rw [hod]
        refine ih _ _ _ (inv.set hi hin) (by have := cnt_set huni1 n hin; omega) ?_ (hSta.keep w w' hs hb) ?_
        · have hp := hf.put v (d := e.d) (by simp [Nat.blt]; omega)
          exact ⟨hp.df, hp.sz, fun k u hu => hp.get k u (by
            rw [lk_cons]
            split
            · rename_i hk2; subst hk2; exact (hcutd u hu).elim
            · exact hu)⟩
        · intro x hx hxl
          by_cases hxi : x.j = i
          · have : x = e := huni x hx e heK (Nat.zero_le _) (by omega)
            subst this
            exact ⟨v, by simp [Act.put, hf.sz, hdn], hv⟩
          · rw [getD_set_ne true (fun h => hxi h.symm)] at hxl
            obtain ⟨u, hu, hxu⟩ := hk x hx hxl
            obtain ⟨hxn, ox, hox, hxd, hxp, _⟩ := hK' x hx
            have hne : e.d ≠ x.d := fun hee => by
              have := ownDst_ne hown i x.j o ox e.d (by rw [List.getElem?_take_of_lt hin]; exact ho) (by rw [List.getElem?_take_of_lt hxn]; exact hox) hod (by rw [hee]; exact hxd)
              omega
            refine ⟨u, ?_, VP.pers_keep hxp hxu hb⟩
            simp only [Act.put]
            rw [Array.getElem?_setIfInBounds_ne hne]
            exact hu
      unfold wpOp
      simp only [hoi]
      unfold stepOK at hso
      split
      · rename_i hw
        rw [if_pos hw] at hso
        exact .inl (wp_false hso (fun a' w' ⟨v, ha, hb, hv⟩ => by rw [ha]; exact next v w' hb hv))
      · rename_i hw
        rw [if_neg hw] at hso
        exact next undef w (Below.refl _ _) hso
  intro a w hf hs
  refine wp_region_any hm.ok ?_
  have hrep : ∀ j, (Array.replicate l.toArray.size false).getD j false = false := fun j => getD_replicate_false _ _
  have := key n (Array.replicate l.toArray.size false) a w.drew
    ⟨by simp, fun j oj hj hl => (by rw [hrep] at hl; cases hl), fun t ht ht' => by simp at ht'; simp [ht']⟩
    (by rw [hsz]; exact cnt_fresh _ _ hn') (fr_cut hf (lk_cut_sub L)) (hSta.keep _ _ hs (Below.drewB w)) (fun e he hl => by
      have h1 := (hK' e he).1
      simp [show e.j < l.length by omega] at hl)
  rw [show n + (l.length - n) = l.toArray.size by rw [hsz]; omega] at this
  exact this


/-! ### The tail, order by order -/
def AnyW (P : Program) (l : List Oper) (Q : Exit → Act → World → Prop) (k : Nat) (listed : Array Bool) (N : Nat) (L : TL) (S : World → Prop) : Prop :=
  ∀ a w, Fr N L a → S w → wpAny P .any l.toArray Q k listed a w
def NextW (P : Program) (l : List Oper) (Q : Exit → Act → World → Prop) (k : Nat) (listed : Array Bool) (N : Nat) (L : TL) (S : World → Prop) (i : Nat) : Prop :=
  ∀ a w, Fr N L a → S w → wpOp P l.toArray Q i (wpAny P .any l.toArray Q k (listed.setIfInBounds i true)) a w
section
variable {P : Program} {l : List Oper} {Q : Exit → Act → World → Prop} {k : Nat} {listed : Array Bool} {N : Nat} {L : TL} {S : World → Prop} {i j : Nat} {d : Nat} {ty : TypeId} {pos : String} {af : Array Edge} {op : Op}
theorem any_done (hr : Region.ready .any l.toArray listed = []) (h : QW Q .normal N L S) : AnyW P l Q 0 listed N L S := fun a w hf hs => ⟨hr, h a w hf hs⟩
theorem any_one (hr : Region.ready .any l.toArray listed = [i]) (h : NextW P l Q k listed N L S i) : AnyW P l Q (k + 1) listed N L S := fun a w hf hs => by
  refine ⟨fun hn => (by rw [hr] at hn; cases hn), fun x hx => ?_⟩
  rw [hr] at hx
  simp only [List.mem_singleton] at hx
  subst hx
  exact h a w hf hs
theorem any_two (hr : Region.ready .any l.toArray listed = [i, j]) (h : NextW P l Q k listed N L S i) (h' : NextW P l Q k listed N L S j) : AnyW P l Q (k + 1) listed N L S := fun a w hf hs => by
  refine ⟨fun hn => (by rw [hr] at hn; cases hn), fun x hx => ?_⟩
  rw [hr] at hx
  simp only [List.mem_cons, List.not_mem_nil, or_false] at hx
  rcases hx with rfl | rfl
  · exact h a w hf hs
  · exact h' a w hf hs
theorem next_val {v : Value} (ho : l[i]? = some ⟨some d, op, ty, pos, af, none⟩) (hN : Nat.blt d N = true) (h : Ex P op N L S v) (c : AnyW P l Q k (listed.setIfInBounds i true) N ((d, v) :: L) S) : NextW P l Q k listed N L S i := fun a w hf hs => by
  unfold wpOp
  rw [show l.toArray[i]? = some ⟨some d, op, ty, pos, af, none⟩ by simpa using ho]
  simp only
  rw [if_pos (by simp [Region.wanted])]
  refine .inl ?_
  unfold Oper.wp
  rw [h a w hf hs]
  exact c _ _ (hf.put _ hN) hs
theorem next_u {S' : World → Prop} (ho : l[i]? = some ⟨none, op, ty, pos, af, none⟩) (h : ExU P op N L S S') (c : AnyW P l Q k (listed.setIfInBounds i true) N L S') : NextW P l Q k listed N L S i := fun a w hf hs => by
  unfold wpOp
  rw [show l.toArray[i]? = some ⟨none, op, ty, pos, af, none⟩ by simpa using ho]
  simp only
  rw [if_pos (by simp [Region.wanted])]
  refine .inl ?_
  unfold Oper.wp
  obtain ⟨w', h1, h2⟩ := h a w hf hs none ty pos af none
  rw [h1]
  exact c _ _ hf h2
theorem next_w {T : Value → World → Prop} (ho : l[i]? = some ⟨some d, op, ty, pos, af, none⟩) (hN : Nat.blt d N = true) (h : ExW P op N L S T) (c : ∀ v, AnyW P l Q k (listed.setIfInBounds i true) N ((d, v) :: L) (T v)) : NextW P l Q k listed N L S i := fun a w hf hs => by
  unfold wpOp
  rw [show l.toArray[i]? = some ⟨some d, op, ty, pos, af, none⟩ by simpa using ho]
  simp only
  rw [if_pos (by simp [Region.wanted])]
  refine .inl ?_
  unfold Oper.wp
  obtain ⟨v, w', h1, h2⟩ := h a w hf hs (some d) ty pos af none
  rw [h1]
  exact c v _ _ (hf.put _ hN) h2
theorem next_app1 {w0 : World} {M : Nat → Prop} {σ : Hp} {H Gs : List (Nat × Obj)} {R : Value → List (Nat × Obj) → Prop} {z : Value → Prop} (ho : l[i]? = some ⟨some d, op, ty, pos, af, none⟩) (hN : Nat.blt d N = true)
    (h : ExW P op N L (St w0 M σ H Gs) (fun v' w' => ∃ Gs', R v' Gs' ∧ z v' ∧ St w0 M σ H Gs' w')) (c : ∀ v' Gs', R v' Gs' → z v' → AnyW P l Q k (listed.setIfInBounds i true) N ((d, v') :: L) (St w0 M σ H Gs')) : NextW P l Q k listed N L (St w0 M σ H Gs) i :=
  next_w ho hN h fun v' a w hf ⟨Gs', h1, hz, h2⟩ => c v' Gs' h1 hz a w hf h2
theorem next_c {T : World → Value → World → Prop} (ho : l[i]? = some ⟨some d, op, ty, pos, af, none⟩) (hN : Nat.blt d N = true) (h : ExC P op N L S T) (c : ∀ v, AnyW P l Q k (listed.setIfInBounds i true) N ((d, v) :: L) (fun w' => ∃ w, S w ∧ T w v w')) : NextW P l Q k listed N L S i := fun a w hf hs => by
  unfold wpOp
  rw [show l.toArray[i]? = some ⟨some d, op, ty, pos, af, none⟩ by simpa using ho]
  simp only
  rw [if_pos (by simp [Region.wanted])]
  refine .inl ?_
  unfold Oper.wp
  obtain ⟨f, args, h1, h2⟩ := h a w hf hs (some d) ty pos af none
  rw [h1]
  refine Calls.mono h2 ?_
  rintro e w' ⟨v, rfl, hT⟩
  exact c v _ _ (hf.put _ hN) ⟨w, hs, hT⟩
theorem next_cr {w0 : World} {M : Nat → Prop} {σ : Hp} {H G : List (Nat × Obj)} {Rep : Hp → Value → Prop} (ho : l[i]? = some ⟨some d, op, ty, pos, af, none⟩) (hN : Nat.blt d N = true) (h : ExC P op N L (St w0 M σ H G) (TR Rep σ))
    (c : ∀ u σ', Le σ σ' → Fresh σ σ' w0 → Rep σ' u → AnyW P l Q k (listed.setIfInBounds i true) N ((d, u) :: L) (St w0 M σ' H G)) : NextW P l Q k listed N L (St w0 M σ H G) i :=
  next_c ho hN h fun u a w' hf ⟨w, hs, σ', h1, h2, h3, h4, h5⟩ => c u σ' h1 (h2.mono hs.ag.size) h4 a w' hf (hs.after h2 h3 h5)
theorem any_mono {S' : World → Prop} (hS : ∀ w, S w → S' w) (h : AnyW P l Q k listed N L S') : AnyW P l Q k listed N L S := fun a w hf hs => h a w hf (hS w hs)
theorem next_mono {S' : World → Prop} (hS : ∀ w, S w → S' w) (h : NextW P l Q k listed N L S' i) : NextW P l Q k listed N L S i := fun a w hf hs => h a w hf (hS w hs)
theorem any_ex {α : Type} {T : α → World → Prop} (h : ∀ x, AnyW P l Q k listed N L (T x)) : AnyW P l Q k listed N L (fun w => ∃ x, T x w) := fun a w hf ⟨x, hx⟩ => h x a w hf hx
theorem any_and {p : Prop} (h : p → AnyW P l Q k listed N L S) : AnyW P l Q k listed N L (fun w => p ∧ S w) := fun a w hf ⟨hp, hx⟩ => h hp a w hf hx
/-- The end of the free part. -/
def FinT (P : Program) (l : List Oper) (Q : Exit → Act → World → Prop) (k : Nat) (listed : Array Bool) (N : Nat) (L : TL) (S : World → Prop) (K : List KE) : Prop :=
  ∀ a w, Fr N L a → S w → (∀ e ∈ K, ∃ v, a.tmps[e.d]? = some v ∧ e.p.holds w v) → wpAny P .any l.toArray Q k listed a w
theorem fint_nil (h : AnyW P l Q k listed N L S) : FinT P l Q k listed N L S [] := fun a w hf hs _ => h a w hf hs
theorem fint_is {v : Value} {K : List KE} (h : FinT P l Q k listed N ((d, v) :: L) S K) : FinT P l Q k listed N L S (⟨j, d, .is v⟩ :: K) := fun a w hf hs hk => by
  obtain ⟨u, hu, hp⟩ := hk _ List.mem_cons_self
  have : u = v := hp
  subst this
  exact h a w (fr_add hf hu) hs (fun e he => hk e (List.mem_cons_of_mem _ he))
theorem fint_sat {q : World → Value → Prop} {K : List KE} (h : ∀ v, FinT P l Q k listed N ((d, v) :: L) (fun w => S w ∧ q w v) K) : FinT P l Q k listed N L S (⟨j, d, .sat q⟩ :: K) := fun a w hf hs hk => by
  obtain ⟨u, hu, hp⟩ := hk _ List.mem_cons_self
  exact h u a w (fr_add hf hu) ⟨hs, hp⟩ (fun e he => hk e (List.mem_cons_of_mem _ he))
theorem fint_drop {e : KE} {K : List KE} (h : FinT P l Q k listed N L S K) : FinT P l Q k listed N L S (e :: K) := fun a w hf hs hk =>
  h a w hf hs (fun x hx => hk x (List.mem_cons_of_mem _ hx))
theorem fint_satR {Rep : Hp → Value → Prop} [MonoR Rep] {w0 : World} {M : Nat → Prop} {σ σ1 : Hp} {H G : List (Nat × Obj)} {K : List KE} (hle : Le σ σ1) (h : ∀ v σ', Le σ1 σ' → Fresh σ1 σ' w0 → Rep σ' v → FinT P l Q k listed N ((d, v) :: L) (St w0 M σ' H G) K) :
    FinT P l Q k listed N L (St w0 M σ1 H G) (⟨j, d, .sat (QR Rep σ w0 (H ++ G))⟩ :: K) := fun a w hf hs hk => by
  obtain ⟨u, hu, hp⟩ := hk _ List.mem_cons_self
  obtain ⟨τ, h1, h2, h3, h4, h5⟩ := hp
  refine h u (join σ1 τ) (le_join _ _) (fun b o e => ?_) (MonoR.mono (le_join' hs.im h3) h4) a w (fr_add hf hu) (hs.le (hs.im.join h3) fun p hp => ?_) (fun e he => hk e (List.mem_cons_of_mem _ he))
  · unfold join at e
    cases he : σ1 b with
    | none =>
      rw [he] at e
      rcases h2 b o (by simpa using e) with h6 | h6
      · rw [hle b o h6] at he; cases he
      · exact .inr h6
    | some o' => rw [he] at e; simp at e; subst e; exact .inl rfl
  · unfold join; rw [hs.fresh hp, h5 p hp]; rfl
theorem flow_nilT {L0 : TL} {n : Nat} {K : List KE} (h : FinT P l Q (l.length - n) (firsts n l.length) N L0 S K) :
    Flow P l L0 S N (fun K => ∀ a w, Fr N L0 a → S w → (∀ e ∈ K, ∃ v, a.tmps[e.d]? = some v ∧ e.p.holds w v) → wpAny P .any l.toArray Q (l.length - n) (firsts n l.length) a w) [] i K := h
end
end Go.Proofs.YtnjomdjkbbhdoaaDoor
namespace Go.Proofs.YtnjomdjkbbhdoaaDoor
open Go.RowKit
set_option linter.unusedVariables false

/-! ## Literals -/
def partsFrom : Nat → List Value → List (Nat × Value)
  | _, [] => []
  | k, v :: r => (k, v) :: partsFrom (k + 1) r
theorem fill_from : ∀ (vs : List Value) (k : Nat) (arr : Array Value), (∀ v ∈ vs, v.cells = #[v]) → k + vs.length ≤ arr.size →
    Instr.fill (fun i => some (i * 1, 1)) arr (partsFrom k vs) = some (arr.toList.take k ++ vs ++ arr.toList.drop (k + vs.length)).toArray
  | [], k, arr, _, h => by simp [partsFrom, Instr.fill]
  | v :: r, k, arr, h1, h => by
    have hv := h1 v (by simp)
    simp only [List.length_cons] at h
    have ih := fill_from r (k + 1) (arr.setIfInBounds k v) (fun u hu => h1 u (List.mem_cons_of_mem _ hu)) (by simp; omega)
    simp only [partsFrom, Instr.fill, hv]
    have e0 : (#[v].zipIdx.foldl (fun cs (c, j) => cs.setIfInBounds (k * 1 + j) c) arr) = arr.setIfInBounds k v := by simp
    simp only [List.size_toArray, List.length_cons, List.length_nil, Nat.zero_add]
    rw [if_neg (by simp; omega), e0, ih]
    have hk : k < arr.toList.length := by simp; omega
    have hset : (arr.setIfInBounds k v).toList = arr.toList.take k ++ (v :: arr.toList.drop (k + 1)) := by
      rw [Array.toList_setIfInBounds, List.set_eq_take_append_cons_drop, if_pos hk]
    have htl : (arr.toList.take k).length = k := by rw [List.length_take]; omega
    have key : ∀ (A B : List Value), A.length = k → (A ++ v :: B).take (k + 1) = A ++ [v] ∧ (A ++ v :: B).drop (k + 1 + r.length) = B.drop r.length := by
      rintro A B rfl
      constructor
      · rw [List.take_append, List.take_of_length_le (by omega)]
        simp
      · rw [show A.length + 1 + r.length = A.length + (r.length + 1) by omega, List.drop_append]
        simp
    rw [hset, (key _ _ htl).1, (key _ _ htl).2, List.drop_drop, show k + 1 + r.length = k + (v :: r).length by simp; omega]
    simp
section
variable {P : Program} {N : Nat} {L : TL} {S : World → Prop} {w0 : World} {M : Nat → Prop} {σ : Hp} {H G : List (Nat × Obj)}
theorem exw_slitN {t e bytes len : Nat} [h : AppT P t e 1 bytes] {parts : List (Nat × Operand)} {vs : List Value} (hp : partsV L parts = some (partsFrom 0 vs)) (h1 : ∀ v ∈ vs, v.cells = #[v]) (hl : vs.length = len) (h0 : 0 < len) (hm : len ≤ 1000000) :
    ExW P (.buildSlice t len parts.toArray) N L (St w0 M σ H G) (fun u w => ∃ b, u = .slice (some ⟨b, 0, none⟩) len len ∧ St w0 M σ ((b, .cells vs.toArray e) :: H) G w) := by
  obtain ⟨k1, ⟨i, z, k2, k3, k4, _, k6⟩, k7⟩ := h.ok
  refine exw_slit (parts := parts) hp k1 ⟨i, z, k2, k3, by rw [k4]; omega, ?_⟩
  rw [if_neg (by rw [k4]; omega), k4]
  have := fill_from vs 0 ((Array.range (len * 1)).map (z.cells[· % z.cells.size]!)) h1 (by simp [hl])
  rw [this]
  congr 2
  simp [hl]
theorem OwnSl.lit {e b : Nat} {xs : List Value} (h : xs.length ≤ maxLen) : OwnSl e 1 (.slice (some ⟨b, 0, none⟩) xs.length xs.length) xs.length xs [(b, .cells xs.toArray e (0, 0))] :=
  ⟨by simp, .inr ⟨b, xs.length, xs.toArray, rfl, rfl, Nat.le_refl _, h, by simp, by simp⟩⟩
theorem ex_shrN {t u : TypeId} {x y : Operand} {k : IntKind} {n s : Nat} (hx : ev L x = some (.int .i64 (n : Int))) (hy : ev L y = some (.int k (s : Int))) (hs : s ≤ 63) : Ex P (.binOp .shr t x y u) N L S (.int .i64 ((n / 2 ^ s : Nat) : Int)) := fun a w hf hsw d ty pos af g => by
  have he : ∀ w, (eqGuard .shr t x y (.int .i64 (n : Int)) (.int k (s : Int))).run P w = .ok () w := fun w => by simp [eqGuard]
  have hb : ∀ w, (binOp .shr t (.int .i64 (n : Int)) (.int k (s : Int))).run P w = .ok (.int .i64 ((n / 2 ^ s : Nat) : Int)) w := fun w => by
    have h2 : ¬ (s : Int) < 0 := by omega
    have h3 : min s IntKind.i64.bits = s := Nat.min_eq_left (by simp [IntKind.bits]; omega)
    simp [binOp, Op.shift, h2, h3, Int.fdiv_eq_ediv]
  simp [execOp, hf.eval hx, hf.eval hy, he, hb]
theorem ex_toB {s t : TypeId} {x : Operand} {n : Nat} (hs : P.underlying s = some (.int .i64)) (ht : P.underlying t = some (.int .u8)) (hx : ev L x = some (.int .i64 (n : Int))) : Ex P (.convert s t x) N L S (byteV (UInt8.ofNat n)) := fun a w hf hsw d ty pos af g => by
  have hw : IntKind.u8.wrap (n : Int) = ((UInt8.ofNat n).toNat : Int) := by
    rw [UInt8.toNat_ofNat']
    simp [IntKind.wrap, IntKind.bits, IntKind.signed]
  simp [execOp, hf.eval hx, convert, run_underlying hs, run_underlying ht, Conv.intToInt, hw, byteV]
end
/-! ## A block that turns no more -/
section
variable {P : Program} {l0 : List Oper} {Q : Exit → Act → World → Prop} {l rest : List Oper} {N : Nat} {L : TL} {d : Nat} {ty : TypeId} {pos : String} {af : Array Edge} {g : Option (Nat × Bool)} {op : Op} {w0 : World} {M : Nat → Prop} {σ : Hp} {H G : List (Nat × Obj)} {R : Hp → Value → List (Nat × Obj) → Prop}
theorem ow_frzH {arr : Array Value} {e b : Nat} (hM : ∀ b, M b → False) (k : ∀ σ', Le σ σ' → Fresh σ σ' w0 → σ' b = some (.cells arr e (0, 0)) → OW P l0 Q l N L (St w0 M σ' H G)) : OW P l0 Q l N L (St w0 M σ ((b, .cells arr e) :: H) G) := fun a w hf hs => by
  refine k (ext σ b (.cells arr e)) (le_ext (hs.fresh (p := (b, .cells arr e)) (by simp))) (fun x o hx => ?_) (ext_self _ _ _) a w hf hs.freeze
  unfold ext at hx
  split at hx
  · rename_i hb; subst hb; exact .inr ((St0.mo hs (x, .cells arr e) (by simp)).resolve_left (hM _))
  · exact .inl hx
theorem ow_ck0E (hN : Nat.blt d N = true) (hg : gd l0 L g = some true) (h : ExC P op N L (St w0 M σ H []) (TK R σ []))
    (k : ∀ u σ' K', Le σ σ' → Fresh σ σ' w0 → R σ' u K' → OW P l0 Q rest N ((d, u) :: L) (St w0 M σ' H K')) : OW P l0 Q (⟨some d, op, ty, pos, af, g⟩ :: rest) N L (St w0 M σ H []) :=
  ow_ck0 hN hg h fun u σ' K' h1 h2 h3 => by simpa using k u σ' K' h1 h2 h3
end
/-- An owned row is laid among what never turns. -/
theorem freezeR {w0 w : World} {M : Nat → Prop} {σ : Hp} {H Gs Gr : List (Nat × Obj)} {e size : Nat} {v : Value} {n : Nat} {xs : List Value} (hs : St w0 M σ H (Gs ++ Gr) w) (hM : ∀ b, M b → False) (hO : OwnSl e size v n xs Gs) :
    ∃ σ', Le σ σ' ∧ Fresh σ σ' w0 ∧ St w0 M σ' H Gr w ∧ ∃ p c, v = .slice p n c ∧ n ≤ c ∧ (n = 0 ∨ ∃ b, p = some ⟨b, 0, none⟩ ∧ CellsAt σ' b 0 xs) := by
  rcases hO.2 with ⟨rfl, rfl, rfl⟩ | ⟨g, c, cur, rfl, rfl, h2, h3, h4, h5⟩
  · exact ⟨σ, Le.refl _, Fresh.refl _ _, hs, none, 0, rfl, Nat.le_refl _, .inl rfl⟩
  · have hs1 : St w0 M σ ((g, .cells cur e (0, 0)) :: H) Gr w := hs.ofG
    refine ⟨ext σ g (.cells cur e (0, 0)), le_ext (hs.fresh (p := (g, .cells cur e (0, 0))) (by simp)), fun b o hb => ?_, hs1.freeze, _, c, rfl, h2, .inr ⟨g, rfl, cur, e, (0, 0), ext_self _ _ _, fun j u hj => ?_⟩⟩
    · unfold ext at hb
      split at hb
      · rename_i hbg; subst hbg; exact .inr ((St0.mo hs (b, .cells cur e (0, 0)) (by simp)).resolve_left (hM _))
      · exact .inl hb
    · rw [← h5, List.getElem?_take] at hj
      split at hj
      · simpa using hj
      · cases hj
theorem cw_frzR {P : Program} {c : Code} {Q : Exit → Act → World → Prop} {N : Nat} {L : TL} {w0 : World} {M : Nat → Prop} {σ : Hp} {H Gs Gr : List (Nat × Obj)} {e size : Nat} {v : Value} {n : Nat} {xs : List Value} (hM : ∀ b, M b → False) (hO : OwnSl e size v n xs Gs)
    (k : ∀ σ' p cp, Le σ σ' → Fresh σ σ' w0 → v = .slice p n cp → n ≤ cp → (n = 0 ∨ ∃ b, p = some ⟨b, 0, none⟩ ∧ CellsAt σ' b 0 xs) → CW P c Q N L (St w0 M σ' H Gr)) : CW P c Q N L (St w0 M σ H (Gs ++ Gr)) := fun a w hf hs => by
  obtain ⟨σ', h1, h2, h3, p, cp, h4, h5, h6⟩ := freezeR hs hM hO
  exact k σ' p cp h1 h2 h4 h5 h6 a w hf h3
theorem intsV_app (a b : List Int) : intsV (a ++ b) = intsV a ++ intsV b := by simp [intsV]
/-- A cell of a row of integers. -/
theorem CellsAt.int {σ : Hp} {b o : Nat} {zs : List Int} (h : CellsAt σ b o (intsV zs)) {i : Nat} (hi : i < zs.length) : CellsAt σ b (o + i * 1) [.int .i64 zs[i]] := by
  obtain ⟨arr, ty, fz, h1, h2⟩ := h
  refine ⟨arr, ty, fz, h1, fun j v hj => ?_⟩
  cases j with
  | zero =>
    simp at hj; subst hj
    simpa using h2 i _ (intsV_get hi)
  | succ j => simp at hj
theorem CellsAt.of4 {σ : Hp} {b : Nat} {ty : TypeId} {fz : Nat × Nat} {v0 v1 v2 v3 : Value} (h : σ b = some (.cells #[v0, v1, v2, v3] ty fz)) : CellsAt σ b 0 [v0, v1, v2, v3] := ⟨_, ty, fz, h, fun j v hj => by simpa using hj⟩
theorem KidsV.one {σ : Hp} {b : Nat} {cs : List Value} {t : T} (h : CellsAt σ b 0 cs) (ht : TermC σ cs t) : KidsV σ (.slice (some ⟨b, 0, none⟩) 1 1) [t] :=
  ⟨_, 1, rfl, Nat.le_refl _, by simp [maxKids], .inr ⟨b, 0, rfl, by simp only [ElemsC]; exact ⟨⟨cs, h, ht⟩, trivial⟩⟩⟩
def atomOne : T := .mk 1 1 [] []
def pubOne : T := .mk 2 0 [] [atomOne]
theorem atomOne_c (σ : Hp) : TermC σ [.int .i64 1, .int .i64 1, .slice none 0 0, .slice none 0 0] atomOne := TermC.mk (by omega) (by omega) (BytesV.nil σ) (KidsV.nil σ)
theorem intern_pub : intern [] pubOne = (1, 0, [atomOne, pubOne]) := by
  unfold intern
  rw [if_pos (by decide), if_neg (by decide), if_neg (by decide)]
  rfl

/-! ## A number's bytes -/
def tailB (n k : Nat) : List UInt8 := (List.range k).map fun j => UInt8.ofNat (n / 2 ^ (8 * (5 - j)))
def bytesN (n : Int) : List UInt8 := if 0 ≤ n ∧ n < 281474976710656 then 0xc1 :: 0x5e :: tailB n.toNat 6 else []
theorem tailB_len (n k : Nat) : (tailB n k).length = k := by simp [tailB]
theorem tailB_succ (n k : Nat) : tailB n (k + 1) = tailB n k ++ [UInt8.ofNat (n / 2 ^ (8 * (5 - k)))] := by simp [tailB, List.range_succ]
def eightB (m : Nat) : List UInt8 := [0xc1, 0x5e, UInt8.ofNat (m / 2 ^ 40), UInt8.ofNat (m / 2 ^ 32), UInt8.ofNat (m / 2 ^ 24), UInt8.ofNat (m / 2 ^ 16), UInt8.ofNat (m / 2 ^ 8), UInt8.ofNat m]
theorem eightB_is (m : Nat) : eightB m = 0xc1 :: 0x5e :: tailB m 6 := by simp [eightB, tailB, List.range_succ]
theorem bytesN_in {n : Nat} (h : n < 281474976710656) : bytesN (n : Int) = 0xc1 :: 0x5e :: tailB n 6 := by unfold bytesN; rw [if_pos (by omega)]; rfl
theorem bytesN_out {n : Int} (h : ¬ (0 ≤ n ∧ n < 281474976710656)) : bytesN n = [] := by unfold bytesN; rw [if_neg h]
theorem bytes_cells (d : List UInt8) : ∀ v ∈ d.map byteV, v.cells = #[v] := fun v hv => by
  obtain ⟨b, _, rfl⟩ := List.mem_map.1 hv; rfl
/-- Bytes; none at all where there are none. -/
def RepBN (d : List UInt8) (σ : Hp) (v : Value) : Prop := BytesV σ v d ∧ (d = [] → v = .slice none 0 0)
instance (d : List UInt8) : MonoR (RepBN d) := ⟨fun hl h => ⟨h.1.le hl, h.2⟩⟩
end Go.Proofs.YtnjomdjkbbhdoaaDoor
namespace Go.Proofs.YtnjomdjkbbhdoaaDoor
set_option linter.unusedVariables false

theorem putVs_right {ks ts : List T} : ts.length ≤ (putVs ks ts).length := putVs_grow ks ts
theorem putV_len_new {t : T} {ts : List T} (h : ¬ 0 ≤ posT ts t) : (putV t ts).length = (putVs t.kids ts).length + 1 := by
  rw [putV_mk, if_neg h]; simp
/-- What putting a term in does to how many there are. -/
theorem intern_facts {ts : List T} {t : T} : (ts.length : Int) ≤ (intern ts t).2.2.length ∧ ((intern ts t).2.2.length : Int) - ts.length ≤ size t ∧
    ((0 ≤ posT ts t ∨ (intern ts t).2.1 ≠ 0) → ((intern ts t).2.2.length : Int) = ts.length) ∧
    ((¬ 0 ≤ posT ts t ∧ (intern ts t).2.1 = 0) → (ts.length : Int) + 1 ≤ (intern ts t).2.2.length ∧ (intern ts t).1 = ((intern ts t).2.2.length : Int) - 1) ∧
    ((intern ts t).2.1 ≠ 0 ↔ (intern ts t).1 = -1) := by
  have hs := size_pos t
  have hg := posT_ge ts t
  unfold intern
  by_cases hr : right t = true
  · rw [if_pos hr]
    by_cases hp : 0 ≤ posT ts t
    · rw [if_pos hp]
      simp only
      exact ⟨by omega, by omega, fun _ => by first | trivial | rfl, fun h => absurd hp h.1, by first | omega | simp⟩
    · rw [if_neg hp]
      by_cases hl : 4096 < ts.length + size t
      · rw [if_pos hl]
        simp only
        exact ⟨by omega, by omega, fun _ => by first | trivial | rfl, fun h => absurd h.2 (by decide), by first | omega | simp⟩
      · rw [if_neg hl]
        obtain ⟨es, e1, e2, _⟩ := putV_ext t ts
        have e3 := putV_len_new hp
        have e4 := putVs_grow t.kids ts
        have e5 : (putV t ts).length = ts.length + es.length := by rw [e1]; simp
        have e6 : numV t ts = ((putVs t.kids ts).length : Int) := by unfold numV; rw [if_neg hp]
        simp only [e6]
        exact ⟨by omega, by omega, fun h => by omega, fun _ => by omega, by first | omega | simp⟩
  · rw [if_neg hr]
    simp only
    exact ⟨by omega, by omega, fun _ => by first | trivial | rfl, fun h => absurd h.2 (by decide), by first | omega | simp⟩
theorem intern_again (ts : List T) (t : T) : intern (intern ts t).2.2 t = intern ts t := by
  by_cases hr : right t = true
  · by_cases hp : 0 ≤ posT ts t
    · have e : intern ts t = (posT ts t, 0, ts) := by unfold intern; rw [if_pos hr, if_pos hp]
      rw [e]; exact e
    · by_cases hl : 4096 < ts.length + size t
      · have e : intern ts t = (-1, 2, ts) := by unfold intern; rw [if_pos hr, if_neg hp, if_pos hl]
        rw [e]; exact e
      · have e : intern ts t = (numV t ts, 0, putV t ts) := by unfold intern; rw [if_pos hr, if_neg hp, if_neg hl]
        rw [e]
        have h0 : 0 ≤ posT (putV t ts) t := posT_iff.2 (mem_putV t ts)
        unfold intern
        simp only
        rw [if_pos hr, if_pos h0, numV_is]
  · have e : intern ts t = (-1, 51, ts) := by unfold intern; rw [if_neg hr]
    rw [e]; exact e
/-- Behind a term that was put in: its number is its place. -/
theorem intern_pos {ts : List T} {t : T} (h : (intern ts t).2.1 = 0) : (intern ts t).1 = posT (intern ts t).2.2 t ∧ 0 ≤ posT (intern ts t).2.2 t ∧ right t = true := by
  unfold intern at h ⊢
  by_cases hr : right t = true
  · rw [if_pos hr] at h ⊢
    by_cases hp : 0 ≤ posT ts t
    · rw [if_pos hp]; exact ⟨rfl, hp, hr⟩
    · rw [if_neg hp] at h ⊢
      by_cases hl : 4096 < ts.length + size t
      · rw [if_pos hl] at h; exact absurd (show (2 : Int) = 0 from h) (by decide)
      · rw [if_neg hl]
        exact ⟨(numV_is t ts).symm, posT_iff.2 (mem_putV t ts), hr⟩
  · rw [if_neg hr] at h; exact absurd (show (51 : Int) = 0 from h) (by decide)
theorem intern_ext (ts : List T) (t : T) : ∃ es, (intern ts t).2.2 = ts ++ es := by
  unfold intern
  split
  · split
    · exact ⟨[], by simp⟩
    · split
      · exact ⟨[], by simp⟩
      · obtain ⟨es, e, _⟩ := putV_ext t ts
        exact ⟨es, e⟩
  · exact ⟨[], by simp⟩
/-- Numbers that were answered, against the table as it stands. -/
def NumsOK (ls ts : List T) (nums : List Int) : Prop := ∀ j (h : j < nums.length) (h' : j < ls.length), nums[j] = -1 ∨ (0 ≤ posT ts ls[j] ∧ nums[j] = posT ts ls[j])
/-- What is written down of an answer. -/
def numI (ts : List T) (t : T) : Int := if (intern ts t).2.1 = 0 then (intern ts t).1 else -1
theorem NumsOK.nil (ls ts : List T) : NumsOK ls ts [] := fun j h => absurd h (Nat.not_lt_zero _)
theorem NumsOK.step {ls ts : List T} {nums : List Int} (h : NumsOK ls ts nums) (hi : nums.length < ls.length) : NumsOK ls (intern ts ls[nums.length]).2.2 (nums ++ [numI ts ls[nums.length]]) := by
  obtain ⟨es, e⟩ := intern_ext ts ls[nums.length]
  intro j hj hj'
  by_cases hlt : j < nums.length
  · rw [List.getElem_append_left hlt]
    rcases h j hlt hj' with h1 | ⟨h1, h2⟩
    · exact .inl h1
    · right
      rw [e, posT_old h1]
      exact ⟨h1, h2⟩
  · have : j = nums.length := by simp at hj; omega
    subst this
    simp only [List.getElem_append_right (Nat.le_refl _), Nat.sub_self, List.getElem_cons_zero]
    unfold numI
    by_cases h0 : (intern ts ls[nums.length]).2.1 = 0
    · obtain ⟨k1, k2, _⟩ := intern_pos h0
      rw [if_pos h0]
      exact .inr ⟨k2, k1⟩
    · rw [if_neg h0]; exact .inl rfl
theorem posT_eq {ts : List T} {a b : T} (ha : 0 ≤ posT ts a) (hb : 0 ≤ posT ts b) : posT ts a = posT ts b ↔ ord a b = 0 := by
  constructor
  · intro h
    obtain ⟨i, hi⟩ : ∃ i : Nat, posT ts a = (i : Int) := ⟨(posT ts a).toNat, by omega⟩
    have h1 := posT_is hi
    have h2 := posT_is (h ▸ hi)
    rw [h1] at h2
    cases h2
    exact ord_self a
  · intro h
    rw [ord_zero.1 h]
theorem termV_pos {ts : List T} {t : T} (h : 0 ≤ posT ts t) : termV ts (posT ts t) = (t, true) := by
  have hl := posT_lt ts t
  obtain ⟨i, hi⟩ : ∃ i : Nat, posT ts t = (i : Int) := ⟨(posT ts t).toNat, by omega⟩
  have h1 := posT_is hi
  unfold termV
  rw [if_pos ⟨h, hl⟩, hi]
  simp [List.getD_eq_getElem?_getD, h1]
/-- A Kid's number is below its term's. -/
theorem TabI.kid {ts : List T} {t k : T} (hI : TabI ts) (h : 0 ≤ posT ts t) (hk : k ∈ t.kids) : 0 ≤ posT ts k ∧ posT ts k < posT ts t := by
  obtain ⟨i, hi⟩ : ∃ i : Nat, posT ts t = (i : Int) := ⟨(posT ts t).toNat, by omega⟩
  have h1 := posT_is hi
  obtain ⟨hl, e⟩ := List.getElem?_eq_some_iff.1 h1
  obtain ⟨j, hj, hjk⟩ := hI.lo i hl k (by rw [e]; exact hk)
  have := posT_nodup hI.nd hjk
  omega
end Go.Proofs.YtnjomdjkbbhdoaaDoor
namespace Go.Proofs.YtnjomdjkbbhdoaaDoor
open Go.RowKit Go.ChangeShapes
set_option linter.unusedVariables false

/-- A count of what is read. -/
structure Bulky {H : Type} (bk : DataW H → Nat) : Prop where
  lit : ∀ l, 1 ≤ bk (.lit l)
  nil : 1 ≤ bk .nil
  agg : ∀ ps, (ps.map bk).sum + 1 ≤ bk (.agg ps)
  slice : ∀ es sp, (es.map bk).sum + 1 ≤ bk (.slice es sp)
mutual
def bulkT : T → Nat
  | .mk _ _ d ks => 5 + d.length + bulkTs ks
def bulkTs : List T → Nat
  | [] => 0
  | k :: r => bulkT k + bulkTs r
end
theorem keyB_bulk' : ∀ (t : T) {σ : Hp} {cs : List Value}, TermC σ cs t → (keyB t).length ≤ 20 * bulkT t := by
  intro t
  induction t using T.ind with
  | _ o n d ks ih =>
    intro σ cs h
    obtain ⟨dv, kv, rfl, ho, hn, hd, hk⟩ := h.opn
    simp only [T.kids, T.op, T.num, T.data] at *
    obtain ⟨p, c, rfl, hc, hm⟩ := hk.slice
    obtain ⟨pd, cd, rfl, hcd, hmd⟩ := hd.slice
    unfold maxKids at hm
    unfold maxData at hmd
    have hh := headB_len (d := d.length) (k := ks.length) ho hn (by omega) (by omega)
    have key : ∀ (l : List T), (∀ k ∈ l, (keyB k).length ≤ 20 * bulkT k) → (keysB l).length ≤ 20 * bulkTs l := by
      intro l
      induction l with
      | nil => intro _; simp [keysB]
      | cons k r ihl =>
        intro hl
        have h1 := hl k (by simp)
        have h2 := ihl (fun x hx => hl x (List.mem_cons_of_mem _ hx))
        simp only [keysB, List.length_append, bulkTs]; omega
    have hks := key ks (fun k hkm => by
      obtain ⟨i, hi, rfl⟩ := List.mem_iff_getElem.1 hkm
      obtain ⟨b, f, c', cs', _, _, _, ht⟩ := hk.get i hi
      exact ih _ (List.getElem_mem hi) ht)
    simp only [keyB, bulkT, List.length_append]
    omega
theorem KidsV.key {σ : Hp} {v : Value} {ks : List T} {t : T} (h : KidsV σ v ks) (ht : t ∈ ks) : (keyB t).length ≤ 20 * bulkT t := by
  obtain ⟨i, hi, rfl⟩ := List.mem_iff_getElem.1 ht
  obtain ⟨b, f, c', cs', _, _, _, ht⟩ := h.get i hi
  exact keyB_bulk' _ ht
theorem bulkTs_sum : ∀ {ts : List T} {es : List Nat}, ts.length ≤ es.length → (∀ i (h : i < ts.length) (h' : i < es.length), bulkT ts[i] ≤ es[i]) → bulkTs ts ≤ es.sum
  | [], es, _, _ => by simp [bulkTs]
  | t :: r, [], h, _ => by simp at h
  | t :: r, e :: es, h, hb => by
    have h1 := hb 0 (by simp) (by simp)
    have h2 := bulkTs_sum (ts := r) (es := es) (by simpa using h) (fun i hi hi' => hb (i + 1) (by simpa using hi) (by simpa using hi'))
    simp only [bulkTs, List.sum_cons]
    simp only [List.getElem_cons_zero] at h1
    omega
theorem length_le_sum : ∀ {es : List Nat}, (∀ e ∈ es, 1 ≤ e) → es.length ≤ es.sum
  | [], _ => by simp
  | e :: r, h => by
    have h1 := h e (by simp)
    have h2 := length_le_sum (es := r) (fun x hx => h x (List.mem_cons_of_mem _ hx))
    simp only [List.length_cons, List.sum_cons]; omega
section
variable {H : Type} {enc : TypeId × Value → H} {P : Program} {w : World} {bk : DataW H → Nat}
theorem read_bytesU (B : Bulky bk) {t e : TypeId} {fuel : Nat} {v : Value} {x : DataW H × List MemPlace} (hu : P.underlying t = some (.slice e)) (he : P.underlying e = some (.int .u8)) (hc : P.cellsOf e = 1) (hb : P.bytesOf e = 1)
    (h : DataW.trod enc P w 0 (fun _ => true) true fuel t [v] = some x) (hw : ∀ n ∈ x.1.weights P t, n ≤ reachBytes) : ∃ d, BytesV (nowH w) v d ∧ d.length + 1 ≤ bk x.1 := by
  rcases open_ints hu he hc h with ⟨hcs, hx⟩ | ⟨a, len, cap, zs, hcs, _, hl, hm, hz, hx, hcell, hwf⟩
  · simp at hcs
    subst hcs
    subst hx
    exact ⟨[], BytesV.nil _, by simpa using B.nil⟩
  · simp at hcs
    subst hcs
    subst hx
    have hlz : len ≤ zs.length := by simp at hz; omega
    have hreach : zs.length ≤ reachBytes := by
      have := hw _ (by simp only [DataW.weights, hu]; exact List.mem_cons_self)
      rw [hb, Nat.mul_one] at this
      simp only [lits, List.length_map, List.length_take, List.length_drop] at this
      omega
    have hd : ((zs.take len).map fun z => z.toNat.toUInt8).map byteV = (zs.take len).map fun z => Value.int .u8 z := by
      rw [List.map_map]
      apply List.map_congr_left
      intro z hz'
      have := hwf z (List.mem_of_mem_take hz')
      have : 0 ≤ z ∧ z ≤ 255 := by simpa [Lit.wf, IntKind.min, IntKind.max, IntKind.signed, IntKind.bits] using this
      simp only [Function.comp, byteV]
      congr 1
      have h256 : z.toNat < 256 := by omega
      rw [show (z.toNat.toUInt8).toNat = z.toNat by simp [Nat.toUInt8, Nat.mod_eq_of_lt h256]]
      omega
    have hlen : ((zs.take len).map fun z => z.toNat.toUInt8).length = len := by simp; omega
    have hbk : len + 1 ≤ bk (DataW.slice (lits .u8 (zs.take len)) (lits .u8 (zs.drop len)) : DataW H) := by
      refine Nat.le_trans (Nat.add_le_add_right ?_ 1) (B.slice _ _)
      have h1 := length_le_sum (es := (lits (H := H) .u8 (zs.take len)).map bk) (fun e he => by
        obtain ⟨y, hy, rfl⟩ := List.mem_map.1 he
        obtain ⟨z, _, rfl⟩ := List.mem_map.1 hy
        exact B.lit _)
      simp only [lits, List.length_map, List.length_take] at h1
      simp only [lits]
      omega
    refine ⟨(zs.take len).map fun z => z.toNat.toUInt8, ⟨some a, cap, by rw [hlen], by rw [hlen]; exact hl, by rw [hlen]; unfold maxData; unfold reachBytes at hreach; omega, ?_⟩, by rw [hlen]; exact hbk⟩
    by_cases h0 : len = 0
    · left; subst h0; simp
    · right
      have hsp : a.spot = none := (cell_open (hcell 0 (by omega))).1
      obtain ⟨b, o, sp⟩ := a
      have hsp' : sp = none := hsp
      subst hsp'
      refine ⟨b, o, rfl, ?_⟩
      rw [hd]
      refine cellsAt_now (fun e => ?_) (fun i u hi => ?_)
      · have := congrArg List.length e
        rw [List.length_map, List.length_take, List.length_nil] at this
        omega
      · rw [List.getElem?_map, List.getElem?_take] at hi
        split at hi
        · rename_i hil
          have := hcell i (Nat.lt_of_lt_of_le hil hlz)
          rw [addr_add] at this
          rw [this, List.getD_eq_getElem?_getD]
          cases hz' : zs[i]? with
          | none => rw [hz'] at hi; simp at hi
          | some z => rw [hz'] at hi; simpa using hi
        · simp at hi
theorem read_termU (B : Bulky bk) {t : TypeId} [hT : TermTy P t] : ∀ (fuel : Nat) {cs : List Value} {x : DataW H × List MemPlace}, DataW.trod enc P w 0 (fun _ => true) true fuel t cs = some x → (∀ n ∈ x.1.weights P t, n ≤ reachBytes) → ∃ u, TermC (nowH w) cs u ∧ bulkT u ≤ bk x.1 := by
  obtain ⟨f0, f1, f2, f3, e, hu, hct, hbt, ⟨a1, a2, a3⟩, ⟨b1, b2, b3⟩, ⟨c1, c2, c3, c4, c5, c6⟩, ⟨d1, d2, d3⟩⟩ := hT.ok
  intro fuel
  induction fuel using Nat.strongRecOn with
  | _ fuel ih =>
    intro cs x h hw
    obtain ⟨xs, n, hfu, rfl, hl, hlen, hf⟩ := DataW.trod_struct hu h
    rw [hct] at hl
    match xs, hlen with
    | [y0, y1, y2, y3], _ =>
      have q0 := hf 0 f0 rfl
      have q1 := hf 1 f1 rfl
      have q2 := hf 2 f2 rfl
      have q3 := hf 3 f3 rfl
      rw [a2, a3] at q0
      rw [b2, b3] at q1
      rw [c2, c3] at q2
      rw [d2, d3] at q3
      obtain ⟨v0, v1, v2, v3, rfl⟩ : ∃ v0 v1 v2 v3, cs = [v0, v1, v2, v3] := by
        match cs, hl with
        | [v0, v1, v2, v3], _ => exact ⟨v0, v1, v2, v3, rfl⟩
      simp at q0 q1 q2 q3
      obtain ⟨i0, e0, x0, w0⟩ := DataW.trod_int a1 q0
      obtain ⟨i1, e1, x1, w1⟩ := DataW.trod_int b1 q1
      simp at e0 e1
      subst e0 e1
      have r0 : -9223372036854775808 ≤ i0 ∧ i0 ≤ 9223372036854775807 := by simpa [Lit.wf, IntKind.min, IntKind.max, IntKind.signed, IntKind.bits] using w0
      have r1 : -9223372036854775808 ≤ i1 ∧ i1 ≤ 9223372036854775807 := by simpa [Lit.wf, IntKind.min, IntKind.max, IntKind.signed, IntKind.bits] using w1
      have hparts : ∀ n, n ∈ y0.1.weights P f0.type ∨ n ∈ y1.1.weights P f1.type ∨ n ∈ y2.1.weights P f2.type ∨ n ∈ y3.1.weights P f3.type → n ≤ reachBytes := fun n hn => hw n (by
        simp only [DataW.weights, hu, List.map_cons, List.map_nil, DataW.weightsEach, List.mem_append, List.append_nil]
        rcases hn with h | h | h | h
        · exact .inl h
        · exact .inr (.inl h)
        · exact .inr (.inr (.inl h))
        · exact .inr (.inr (.inr h)))
      obtain ⟨d, hd, hdb⟩ := read_bytesU B c1 c4 c5 c6 q2 (fun n hn => hparts n (Or.inr (Or.inr (Or.inl hn))))
      have hk : ∃ ks, KidsV (nowH w) v3 ks ∧ bulkTs ks + 1 ≤ bk y3.1 := by
        rcases DataW.trod_slice d1 q3 with ⟨hcs, hx⟩ | ⟨a, len, cap, elems, rest, m, hfm, hcs, hx, _, hlc, hcm, hel, helem, hrest, _⟩
        · simp at hcs; subst hcs; subst hx; exact ⟨[], KidsV.nil _, by simpa [bulkTs] using B.nil⟩
        · simp at hcs
          subst hcs
          have hwk : ∀ n ∈ (DataW.slice (elems.map (·.1)) (rest.map (·.1))).weights P f3.type, n ≤ reachBytes := fun n hn => hparts n (Or.inr (Or.inr (Or.inr (by rw [hx]; exact hn))))
          simp only [DataW.weights, d1] at hwk
          have hlen : len * 64 ≤ reachBytes := by
            have := hwk _ List.mem_cons_self
            rw [hbt] at this
            simp only [List.length_map] at this
            have h2 : len * 64 ≤ (elems.length + rest.length) * 64 := Nat.mul_le_mul_right _ (by omega)
            omega
          have hwe : ∀ (l : List (DataW H)), (∀ n ∈ DataW.weightsAll P t l, n ≤ reachBytes) → ∀ y ∈ l, ∀ n ∈ y.weights P t, n ≤ reachBytes := by
            intro l
            induction l with
            | nil => intro _ y hy; cases hy
            | cons z r ihl =>
              intro hz y hy n hn
              simp only [DataW.weightsAll] at hz
              rcases List.mem_cons.1 hy with rfl | hy
              · exact hz n (List.mem_append_left _ hn)
              · exact ihl (fun n hn => hz n (List.mem_append_right _ hn)) y hy n hn
          have hwel := hwe (elems.map (·.1)) (fun n hn => hwk n (List.mem_cons_of_mem _ (List.mem_append_left _ hn)))
          have hspot : 0 < len → a.spot = none := fun h0 => by
            have h1 := helem 0 h0
            rw [List.getElem?_eq_getElem (show 0 < elems.length by omega), hct] at h1
            cases hc : w.cells? 0 (a.add (0 * 4)) 4 with
            | none => rw [hc] at h1; simp at h1
            | some cs' =>
              obtain ⟨_, hl4, hcell⟩ := World.cells?_some hc
              have h2 := hcell 0 (by omega)
              rw [List.getElem?_eq_getElem (by omega)] at h2
              have := (cell_open h2).1
              simpa [Addr.add] using this
          obtain ⟨ts, ht1, ht2⟩ := list_of (q := fun i u => (∃ cs', CellsAt (nowH w) a.block (a.off + i * 4) cs' ∧ TermC (nowH w) cs' u) ∧ ∀ h : i < elems.length, bulkT u ≤ bk elems[i].1) len (fun i hi => by
            have h1 := helem i hi
            rw [List.getElem?_eq_getElem (show i < elems.length by omega), hct] at h1
            cases hc : w.cells? 0 (a.add (i * 4)) 4 with
            | none => rw [hc] at h1; simp at h1
            | some cs' =>
              rw [hc] at h1
              simp only [Option.bind_some] at h1
              obtain ⟨_, hl4, hcell⟩ := World.cells?_some hc
              obtain ⟨u, hu', hub⟩ := ih m (by omega) h1 (fun n hn => hwel _ (List.mem_map.2 ⟨elems[i], List.getElem_mem _, rfl⟩) n hn)
              have hsp := hspot (by omega)
              refine ⟨u, ⟨cs', ?_, hu'⟩, fun _ => hub⟩
              obtain ⟨b, o, sp⟩ := a
              have hsp' : sp = none := hsp
              subst hsp'
              refine cellsAt_now (fun e => by rw [e] at hl4; simp at hl4) (fun j v hj => ?_)
              have := hcell j (by have := (List.getElem?_eq_some_iff.1 hj).1; omega)
              rw [addr_add, addr_add] at this
              rw [this]; exact hj)
          have hbk : bulkTs ts + 1 ≤ bk y3.1 := by
            rw [hx]
            refine Nat.le_trans (Nat.add_le_add_right ?_ 1) (B.slice _ _)
            refine bulkTs_sum (by simp; omega) (fun i hi hi' => ?_)
            simp only [List.getElem_map]
            exact (ht2 i hi).2 _
          refine ⟨ts, ⟨some a, cap, by rw [ht1], by rw [ht1]; exact hlc, by rw [ht1]; unfold maxKids; unfold reachBytes at hlen; omega, ?_⟩, hbk⟩
          by_cases h0 : ts = []
          · exact Or.inl h0
          · right
            have hpos : 0 < ts.length := List.length_pos_iff.2 h0
            have hsp := hspot (by omega)
            obtain ⟨b, o, sp⟩ := a
            have hsp' : sp = none := hsp
            subst hsp'
            exact ⟨b, o, rfl, ElemsC.of fun i hi => (ht2 i hi).1⟩
      obtain ⟨ks, hk, hkb⟩ := hk
      refine ⟨.mk i0 i1 d ks, TermC.mk r0 r1 hd hk, Nat.le_trans ?_ (B.agg _)⟩
      have hl0 : 1 ≤ bk y0.1 := by rw [x0]; exact B.lit _
      have hl1 : 1 ≤ bk y1.1 := by rw [x1]; exact B.lit _
      simp only [List.map_cons, List.map_nil, List.sum_cons, List.sum_nil, bulkT]
      omega
theorem read_kidsU (B : Bulky bk) {t ts : TypeId} [hT : TermTy P t] {fuel : Nat} {v3 : Value} {x : DataW H × List MemPlace} (d1 : P.underlying ts = some (.slice t)) (h : DataW.trod enc P w 0 (fun _ => true) true fuel ts [v3] = some x)
    (hw : ∀ n ∈ x.1.weights P ts, n ≤ reachBytes) : ∃ ks, KidsV (nowH w) v3 ks ∧ bulkTs ks + 1 ≤ bk x.1 := by
  obtain ⟨f0, f1, f2, f3, e, hu, hct, hbt, _⟩ := hT.ok
  rcases DataW.trod_slice d1 h with ⟨hcs, hx⟩ | ⟨a, len, cap, elems, rest, m, hfm, hcs, hx, _, hlc, hcm, hel, helem, hrest, _⟩
  · simp at hcs; subst hcs; subst hx; exact ⟨[], KidsV.nil _, by simpa [bulkTs] using B.nil⟩
  · simp at hcs
    subst hcs
    have hwk : ∀ n ∈ (DataW.slice (elems.map (·.1)) (rest.map (·.1))).weights P ts, n ≤ reachBytes := fun n hn => hw n (by rw [hx]; exact hn)
    simp only [DataW.weights, d1] at hwk
    have hlen : len * 64 ≤ reachBytes := by
      have := hwk _ List.mem_cons_self
      rw [hbt] at this
      simp only [List.length_map] at this
      have h2 : len * 64 ≤ (elems.length + rest.length) * 64 := Nat.mul_le_mul_right _ (by omega)
      omega
    have hwe : ∀ (l : List (DataW H)), (∀ n ∈ DataW.weightsAll P t l, n ≤ reachBytes) → ∀ y ∈ l, ∀ n ∈ y.weights P t, n ≤ reachBytes := by
      intro l
      induction l with
      | nil => intro _ y hy; cases hy
      | cons z r ihl =>
        intro hz y hy n hn
        simp only [DataW.weightsAll] at hz
        rcases List.mem_cons.1 hy with rfl | hy
        · exact hz n (List.mem_append_left _ hn)
        · exact ihl (fun n hn => hz n (List.mem_append_right _ hn)) y hy n hn
    have hwel := hwe (elems.map (·.1)) (fun n hn => hwk n (List.mem_cons_of_mem _ (List.mem_append_left _ hn)))
    have hspot : 0 < len → a.spot = none := fun h0 => by
      have h1 := helem 0 h0
      rw [List.getElem?_eq_getElem (show 0 < elems.length by omega), hct] at h1
      cases hc : w.cells? 0 (a.add (0 * 4)) 4 with
      | none => rw [hc] at h1; simp at h1
      | some cs' =>
        obtain ⟨_, hl4, hcell⟩ := World.cells?_some hc
        have h2 := hcell 0 (by omega)
        rw [List.getElem?_eq_getElem (by omega)] at h2
        have := (cell_open h2).1
        simpa [Addr.add] using this
    obtain ⟨ts, ht1, ht2⟩ := list_of (q := fun i u => (∃ cs', CellsAt (nowH w) a.block (a.off + i * 4) cs' ∧ TermC (nowH w) cs' u) ∧ ∀ h : i < elems.length, bulkT u ≤ bk elems[i].1) len (fun i hi => by
      have h1 := helem i hi
      rw [List.getElem?_eq_getElem (show i < elems.length by omega), hct] at h1
      cases hc : w.cells? 0 (a.add (i * 4)) 4 with
      | none => rw [hc] at h1; simp at h1
      | some cs' =>
        rw [hc] at h1
        simp only [Option.bind_some] at h1
        obtain ⟨_, hl4, hcell⟩ := World.cells?_some hc
        obtain ⟨u, hu', hub⟩ := read_termU B m h1 (fun n hn => hwel _ (List.mem_map.2 ⟨elems[i], List.getElem_mem _, rfl⟩) n hn)
        have hsp := hspot (by omega)
        refine ⟨u, ⟨cs', ?_, hu'⟩, fun _ => hub⟩
        obtain ⟨b, o, sp⟩ := a
        have hsp' : sp = none := hsp
        subst hsp'
        refine cellsAt_now (fun e => by rw [e] at hl4; simp at hl4) (fun j v hj => ?_)
        have := hcell j (by have := (List.getElem?_eq_some_iff.1 hj).1; omega)
        rw [addr_add, addr_add] at this
        rw [this]; exact hj)
    have hbk : bulkTs ts + 1 ≤ bk x.1 := by
      rw [hx]
      refine Nat.le_trans (Nat.add_le_add_right ?_ 1) (B.slice _ _)
      refine bulkTs_sum (by simp; omega) (fun i hi hi' => ?_)
      simp only [List.getElem_map]
      exact (ht2 i hi).2 _
    refine ⟨ts, ⟨some a, cap, by rw [ht1], by rw [ht1]; exact hlc, by rw [ht1]; unfold maxKids; unfold reachBytes at hlen; omega, ?_⟩, hbk⟩
    by_cases h0 : ts = []
    · exact Or.inl h0
    · right
      have hpos : 0 < ts.length := List.length_pos_iff.2 h0
      have hsp := hspot (by omega)
      obtain ⟨b, o, sp⟩ := a
      have hsp' : sp = none := hsp
      subst hsp'
      exact ⟨b, o, rfl, ElemsC.of fun i hi => (ht2 i hi).1⟩
end
mutual
def cnt1 {H : Type} : DataW H → Nat
  | .lit _ => 1
  | .nil => 1
  | .ptr _ => 1
  | .slice es _ => cnts1 es + 1
  | .agg ps => cnts1 ps + 1
  | .iface _ _ => 1
  | .map _ => 1
  | .held _ => 1
def cnts1 {H : Type} : List (DataW H) → Nat
  | [] => 0
  | d :: r => cnt1 d + cnts1 r
end
theorem cnts1_sum {H : Type} : ∀ l : List (DataW H), cnts1 l = (l.map cnt1).sum
  | [] => by simp [cnts1]
  | d :: r => by simp [cnts1, cnts1_sum r]
theorem bulkOne (H : Type) : Bulky (H := H) cnt1 where
  lit := fun l => by simp [cnt1]
  nil := by simp [cnt1]
  agg := fun ps => by simp [cnt1, cnts1_sum]
  slice := fun es sp => by simp [cnt1, cnts1_sum]
theorem bulkTs_mem {t : T} : ∀ {ts : List T}, t ∈ ts → bulkT t ≤ bulkTs ts
  | k :: r, h => by
    rcases List.mem_cons.1 h with rfl | h
    · simp [bulkTs]
    · have := bulkTs_mem h; simp only [bulkTs]; omega
end Go.Proofs.YtnjomdjkbbhdoaaDoor
namespace Go.Proofs.YtnjomdjkbbhdoaaDoor
open Go.RowKit
set_option linter.unusedVariables false

def storesB (N : Nat) (l : List Oper) (m n : Nat) : Bool :=
  Nat.ble n l.length && Nat.blt m n && ownDst N (l.take m) && aheadB 0 l && (Nat.beq n l.length || (Region.sinkB .any l.toArray n && Region.chainB .any l.toArray n)) &&
    Region.seqB .any l.toArray (l.length - n) n (firsts n l.length) && ((List.range n).all fun t => decide (t < m) || (match l[t]? with
      | some o => o.dst.isNone && o.guard.isNone && (decide (t = m) || memN (t - 1) (depsL o.after.toList))
      | none => false))
/-- A store among what is drawn: by what it waits for. -/
def ObU (P : Program) (o : Oper) (N : Nat) (L0 : TL) (K : List KE) (S S' : World → Prop) : Prop :=
  ∀ a w, Fr N L0 a → SatK K o.after.toList a w → S w → o.wp P a w (fun a' w' => a' = a ∧ S' w') (fun _ _ _ => False)
theorem obu {P : Program} {N : Nat} {L0 : TL} {K : List KE} {S S' : World → Prop} {ty : TypeId} {pos : String} {af : Array Edge} {op : Op} (h : ExU P op N (tlK af.toList L0 K) S S') : ObU P ⟨none, op, ty, pos, af, none⟩ N L0 K S S' := fun a w hf hk hs => by
  obtain ⟨w', h1, h2⟩ := h a w (fr_tlK hf hk) hs none ty pos af none
  unfold Oper.wp
  rw [h1]
  exact ⟨rfl, h2⟩
theorem exu_conv {P : Program} {op : Op} {N : Nat} {L : TL} {S S1 S' : World → Prop} (h : ExU P op N L S S1) (k : ∀ w, S1 w → S' w) : ExU P op N L S S' := fun a w hf hs d ty pos af g => by
  obtain ⟨w', h1, h2⟩ := h a w hf hs d ty pos af g
  exact ⟨w', h1, k w' h2⟩
theorem flow_sound3 {P : Program} {l : List Oper} {L : TL} {S : Nat → World → Prop} (hSta : ∀ k w w', S k w → Below w.heap.size w w' → S k w') {N : Nat} {Q : Exit → Act → World → Prop} {id : Nat} [hm : MixT P] (m n : Nat) (hB : storesB N l m n = true)
    (h : Flow P l (Go.Proofs.YtnjomdjkbbhdoaaDoor.cut (l.take m) L) (fun w => ∃ k, S k w) N (fun K => allIs K = true ∧
      (∀ k, k < n - m → ∀ o, l[m + k]? = some o → ObU P o N (Go.Proofs.YtnjomdjkbbhdoaaDoor.cut (l.take m) L) K (S k) (S (k + 1))) ∧
      (∀ a w, Fr N (Go.Proofs.YtnjomdjkbbhdoaaDoor.cut (l.take m) L) a → S (n - m) w → (∀ e ∈ K, ∃ v, a.tmps[e.d]? = some v ∧ e.p.holds w v) → wpList P l.toArray Q (l.drop n) a w)) (l.take m) 0 []) :
    CW P (.region id l.toArray true) Q N L (S 0) := by
  simp only [storesB, Bool.and_eq_true, Bool.or_eq_true] at hB
  obtain ⟨⟨⟨⟨⟨⟨hn, hmn⟩, hown⟩, hahead⟩, hsc⟩, hseq⟩, hst⟩ := hB
  have hn' : n ≤ l.length := by have := hn; simp at this; omega
  have hmn' : m < n := by have := hmn; simp [Nat.blt] at this; omega
  have hstore : ∀ t, m ≤ t → t < n → ∃ o, l[t]? = some o ∧ o.dst = none ∧ o.guard = none ∧ (t = m ∨ memN (t - 1) (depsL o.after.toList) = true) := fun t h1 h2 => by
    have h3 := (List.all_eq_true.1 hst) t (List.mem_range.2 h2)
    simp only [Bool.or_eq_true, decide_eq_true_eq] at h3
    have h4 := h3.resolve_left (by omega)
    cases hl : l[t]? with
    | none => rw [hl] at h4; cases h4
    | some o =>
      rw [hl] at h4
      simp only [Bool.and_eq_true, Option.isNone_iff_eq_none, Bool.or_eq_true, decide_eq_true_eq] at h4
      exact ⟨o, rfl, h4.1.1, h4.1.2, h4.2⟩
  obtain ⟨Kf, ⟨hisK, hsto, hfin⟩, -, hK, hcov, huni⟩ := flow_all (l.take m) 0 [] (fun j hj => by
    rw [List.length_take] at hj
    rw [List.getElem?_take_of_lt (by omega)]; simp) (fun _ he => absurd he List.not_mem_nil) h
  have hK' : ∀ e ∈ Kf, e.j < m ∧ ∃ o, l[e.j]? = some o ∧ o.dst = some e.d ∧ e.p.pers ∧ ∀ a w, Fr N (Go.Proofs.YtnjomdjkbbhdoaaDoor.cut (l.take m) L) a → (∃ k, S k w) →
      (∀ e' ∈ Kf, edge o.after.toList e'.j = true → ∃ v, a.tmps[e'.d]? = some v ∧ e'.p.holds w v) → stepOK P l o a w e.p := fun e he => by
    rcases hK e he with h0 | ⟨_, h1, h2⟩
    · cases h0
    · exact ⟨by rw [List.length_take] at h1; omega, h2⟩
  have hsz : l.toArray.size = l.length := by simp
  have key : ∀ (g : Nat) (listed : Array Bool) (a : Act) (w : World) (d : Nat), HeadInv .any l.toArray n listed → cnt listed n = g → Fr N (Go.Proofs.YtnjomdjkbbhdoaaDoor.cut (l.take m) L) a → d ≤ n - m →
      (∀ k, k < n - m → listed.getD (m + k) true = decide (k < d)) → S d w →
      (∀ e ∈ Kf, listed.getD e.j true = true → ∃ v, a.tmps[e.d]? = some v ∧ e.p.holds w v) → wpAny P .any l.toArray Q (g + (l.length - n)) listed a w := by
    intro g
    induction g with
    | zero =>
      intro listed a w d inv hc hf hd hdk hs hk
      have hall := cnt_zero hc
      have hlist : listed = firsts n l.length := by
        apply Array.ext_getElem?
        intro i
        have hs1 : listed.size = l.length := by rw [inv.size, hsz]
        unfold firsts
        rcases Nat.lt_or_ge i n with h1 | h1
        · have := hall i h1
          have hi : i < listed.size := by omega
          simp [hi] at this
          simp [hi, this, List.getElem?_append, h1]
        · rcases Nat.lt_or_ge i l.length with h2 | h2
          · have := inv.tail i h1 (by rw [hsz]; exact h2)
            have hi : i < listed.size := by omega
            simp [hi] at this
            simp [hi, this, List.getElem?_append, show ¬ i < n by omega, show i - n < l.length - n by omega]
          · rw [Array.getElem?_eq_none (by omega)]
            simp [List.getElem?_append, show ¬ i < n by omega, show ¬ i - n < l.length - n by omega]
      have hdd : d = n - m := by
        rcases Nat.lt_or_ge d (n - m) with h1 | h1
        · have h2 := hdk d h1
          rw [hall (m + d) (by omega)] at h2
          simp at h2
        · omega
      subst hdd
      have hw := hfin a w hf hs (fun e he => hk e he (hall e.j (by have := (hK' e he).1; omega)))
      have := wpAny_of_seq (P := P) (md := .any) (ops := l.toArray) (l.drop n) n listed a w (fun j => by simp) (by rw [List.length_drop, hlist]; exact hseq) hw
      rwa [List.length_drop, ← Nat.zero_add (l.length - n)] at this
    | succ g ih =>
      intro listed a w d inv hc hf hd hdk hs hk
      rw [show g + 1 + (l.length - n) = (g + (l.length - n)) + 1 by omega]
      obtain ⟨i0, hi0, hun0, hbelow⟩ := cnt_pos (show 0 < cnt listed n by omega)
      have hs1 : listed.size = l.length := by rw [inv.size, hsz]
      have hready : i0 ∈ Region.ready .any l.toArray listed := by
        have hlt : i0 < l.length := by omega
        refine mem_ready.2 ⟨hun0, l[i0], by simp [hlt], fun e he hb => ?_⟩
        have h1 := ahead_get hahead i0 l[i0] (by simp [hlt]) e he hb
        have h2 := hbelow e.on (by omega)
        have hlt2 : e.on < listed.size := by omega
        simp [hlt2] at h2 ⊢
        exact h2
      refine ⟨fun hnil => (by rw [hnil] at hready; cases hready), fun i hi => ?_⟩
      have hin : i < n := by
        rcases Nat.lt_or_ge i n with h1 | h1
        · exact h1
        · obtain ⟨oi, hoi, _⟩ := (mem_ready.1 hi).2
          have hlt : i < l.length := by have := (Array.getElem?_eq_some_iff.1 hoi).1; simpa using this
          rcases hsc with hsc | hsc
          · have := Nat.eq_of_beq_eq_true hsc; omega
          · exact absurd hi (tail_waits hsc.1 hsc.2 (by rw [hsz]; omega) inv (n - i0) i0 rfl hi0 hun0 i h1)
      obtain ⟨huni1, oi, hoi, hdeps⟩ := mem_ready.1 hi
      have hoi' : l[i]? = some oi := by simpa using hoi
      have hcnt : cnt (listed.setIfInBounds i true) n = g := by have := cnt_set huni1 n hin; omega
      have hset : (listed.setIfInBounds i true).getD i true = true := by
        rcases Nat.lt_or_ge i listed.size with hlt | hge
        · simp [hlt]
        · simp [hge]
      have hbound : ∀ x, edge oi.after.toList x = true → x < n → listed.getD x true = true := fun x hx hxn => by
        obtain ⟨y, hy, hyj, hyb⟩ := edge_mem hx
        have h1 := hdeps y (by simpa using hy) hyb
        rw [hyj] at h1
        have hlt2 : x < listed.size := by omega
        simp [hlt2] at h1 ⊢
        exact h1
      rcases Nat.lt_or_ge i m with him | him
      · -- one of what is drawn
        obtain ⟨e, heK, hej⟩ := hcov i (by rw [List.length_take]; omega)
        have hej' : e.j = i := by omega
        obtain ⟨_, o, ho, hod, hpers, hstep⟩ := hK' e heK
        rw [hej'] at ho
        have : o = oi := Option.some.inj (ho.symm.trans hoi')
        subst this
        have hdn : e.d < N := by
          obtain ⟨d, hd1, hd2⟩ := ownDst_get hown i o (by rw [List.getElem?_take_of_lt him]; exact ho)
          rw [hod] at hd1; cases hd1; exact hd2
        have hcutd : ∀ v, lk (Go.Proofs.YtnjomdjkbbhdoaaDoor.cut (l.take m) L) e.d = some v → False := fun v hv => by
          have h1 := (lk_cut hv).1
          rw [anyDst_of (List.mem_of_getElem? (l := l.take m) (i := i) (by rw [List.getElem?_take_of_lt him]; exact ho)) hod] at h1
          cases h1
        have hso := hstep a w hf ⟨d, hs⟩ (fun e' he' hed => hk e' he' (hbound e'.j hed (by have := (hK' e' he').1; omega)))
        have next : ∀ v w', Below w.heap.size w w' → e.p.holds w' v → wpAny P .any l.toArray Q (g + (l.length - n)) (listed.setIfInBounds i true) (a.put o.dst v) w' := by
          intro v w' hb hv
          rw [hod]
          refine ih _ _ _ d (inv.set hi hin) hcnt ?_ hd (fun k hkk => ?_) (hSta d w w' hs hb) ?_
          · have hp := hf.put v (d := e.d) (by simp [Nat.blt]; omega)
            exact ⟨hp.df, hp.sz, fun k u hu => hp.get k u (by
              rw [lk_cons]
              split
              · rename_i hk2; subst hk2; exact (hcutd u hu).elim
              · exact hu)⟩
          · rw [getD_set_ne true (by omega)]; exact hdk k hkk
          · intro x hx hxl
            by_cases hxi : x.j = i
            · have : x = e := huni x hx e heK (Nat.zero_le _) (by omega)
              subst this
              exact ⟨v, by simp [Act.put, hf.sz, hdn], hv⟩
            · rw [getD_set_ne true (fun h => hxi h.symm)] at hxl
              obtain ⟨u, hu, hxu⟩ := hk x hx hxl
              obtain ⟨hxn, ox, hox, hxd, hxp, _⟩ := hK' x hx
              have hne : e.d ≠ x.d := fun hee => by
                have := ownDst_ne hown i x.j o ox e.d (by rw [List.getElem?_take_of_lt him]; exact ho) (by rw [List.getElem?_take_of_lt hxn]; exact hox) hod (by rw [hee]; exact hxd)
                omega
              refine ⟨u, ?_, VP.pers_keep hxp hxu hb⟩
              simp only [Act.put]
              rw [Array.getElem?_setIfInBounds_ne hne]
              exact hu
        unfold wpOp
        simp only [hoi]
        unfold stepOK at hso
        split
        · rename_i hw
          rw [if_pos hw] at hso
          exact .inl (wp_false hso (fun a' w' ⟨v, ha, hb, hv⟩ => by rw [ha]; exact next v w' hb hv))
        · rename_i hw
          rw [if_neg hw] at hso
          exact next undef w (Below.refl _ _) hso
      · -- a store
        obtain ⟨o, ho, hod, hog, hoc⟩ := hstore i him hin
        have : o = oi := Option.some.inj (ho.symm.trans hoi')
        subst this
        obtain ⟨k, rfl⟩ : ∃ k, i = m + k := ⟨i - m, by omega⟩
        have hkn : k < n - m := by omega
        have hkd : k = d := by
          have h1 := hdk k hkn
          rw [huni1] at h1
          have h2 : ¬ k < d := by simpa using h1.symm
          rcases hoc with h3 | h3
          · omega
          · obtain ⟨y, hy, hyj, hyb⟩ := depsL_mem (memN_mem h3)
            have h4 := hdeps y (by simpa using hy) hyb
            rw [hyj] at h4
            rcases Nat.eq_zero_or_pos k with h5 | h5
            · omega
            · have h6 := hdk (k - 1) (by omega)
              rw [show m + (k - 1) = m + k - 1 by omega] at h6
              have hlt2 : m + k - 1 < listed.size := by omega
              simp [hlt2] at h4 h6
              rw [h4] at h6
              have : k - 1 < d := by simpa using h6.symm
              omega
        subst hkd
        have hwp := hsto k hkn o ho a w hf (fun e he hed => hk e he (hbound e.j hed (by have := (hK' e he).1; omega))) hs
        unfold wpOp
        simp only [hoi]
        rw [if_pos (by simp [Region.wanted, hog])]
        refine .inl (wp_false hwp fun a' w' ⟨ha, hsw⟩ => ?_)
        subst ha
        refine ih _ _ _ (k + 1) (inv.set hi hin) hcnt hf (by omega) (fun j hj => ?_) hsw (fun e he hel => ?_)
        · by_cases hjk : j = k
          · subst hjk; rw [hset]; simp
          · rw [getD_set_ne true (by omega), hdk j hj]
            simp only [decide_eq_decide]; omega
        · have hlt := (hK' e he).1
          rw [getD_set_ne true (by omega)] at hel
          obtain ⟨v, hv, hp⟩ := hk e he hel
          obtain ⟨u, hu⟩ := allIs_get hisK e he
          rw [hu] at hp ⊢
          exact ⟨v, hv, hp⟩
  intro a w hf hs
  refine wp_region_any hm.ok ?_
  have hrep : ∀ j, (Array.replicate l.toArray.size false).getD j false = false := fun j => getD_replicate_false _ _
  have hrepT : ∀ j, j < l.length → (Array.replicate l.toArray.size false).getD j true = false := fun j hj => by simp [hj]
  have := key n (Array.replicate l.toArray.size false) a w.drew 0
    ⟨by simp, fun j oj hj hl => (by rw [hrep] at hl; cases hl), fun t ht ht' => by simp at ht'; simp [ht']⟩
    (by rw [hsz]; exact cnt_fresh _ _ hn') (fr_cut hf (lk_cut_sub L)) (Nat.zero_le _) (fun k hk => by rw [hrepT (m + k) (by omega)]; simp) (hSta 0 _ _ hs (Below.drewB w)) (fun e he hl => by
      have h1 := (hK' e he).1
      rw [hrepT e.j (by omega)] at hl; cases hl)
  rw [show n + (l.length - n) = l.toArray.size by rw [hsz]; omega] at this
  exact this
section
variable {P : Program} {l0 : List Oper} {Q : Exit → Act → World → Prop} {N : Nat} {S : Nat → World → Prop} {S1 : World → Prop} {L0 : TL}
theorem flow_nil3 {i m n : Nat} {K : List KE} (his : allIs K = true) (hst : ∀ k, k < n - m → ∀ o, l0[m + k]? = some o → ObU P o N L0 K (S k) (S (k + 1))) (h : Fin P l0 Q (l0.drop n) N L0 (S (n - m)) K) :
    Flow P l0 L0 S1 N (fun K => allIs K = true ∧ (∀ k, k < n - m → ∀ o, l0[m + k]? = some o → ObU P o N L0 K (S k) (S (k + 1))) ∧
      (∀ a w, Fr N L0 a → S (n - m) w → (∀ e ∈ K, ∃ v, a.tmps[e.d]? = some v ∧ e.p.holds w v) → wpList P l0.toArray Q (l0.drop n) a w)) [] i K := ⟨his, hst, h⟩
end
end Go.Proofs.YtnjomdjkbbhdoaaDoor
namespace Go.Proofs.YtnjomdjkbbhdoaaDoor
open Go.RowKit
set_option linter.unusedVariables false

/-! ## In plain Lean -/
/-- The terms of some numbers; none: one has no term. -/
def gatherT (ts : List T) : List Int → Option (List T)
  | [] => some []
  | h :: r => if (termV ts h).2 = true then (gatherT ts r).map ((termV ts h).1 :: ·) else none
def madeV (ts : List T) (g : List T → T × Bool) (hs : List Int) : Int × Int × List T :=
  match gatherT ts hs with
  | none => (-1, 71, ts)
  | some l => if (g l).2 = true then intern ts (g l).1 else (-1, 72, ts)
def ofT (op : Int) (d : List UInt8) (l : List T) : T × Bool := (.mk op 0 d l, true)
def powG : List T → T × Bool
  | [a, b] => pow a b
  | _ => (zeroT, false)
theorem gatherT_app (ts : List T) : ∀ (a b : List Int), gatherT ts (a ++ b) = (gatherT ts a).bind fun l => (gatherT ts b).map (l ++ ·)
  | [], b => by simp [gatherT]
  | h :: r, b => by
    simp only [List.cons_append, gatherT]
    split
    · rw [gatherT_app ts r b]
      cases gatherT ts r <;> simp
      cases gatherT ts b <;> simp
    · simp
theorem gatherT_snoc {ts : List T} {hs : List Int} {i : Nat} {l : List T} (h : i < hs.length) (hg : gatherT ts (hs.take i) = some l) :
    gatherT ts (hs.take (i + 1)) = if (termV ts hs[i]).2 = true then some (l ++ [(termV ts hs[i]).1]) else none := by
  rw [List.take_succ_eq_append_getElem h, gatherT_app, hg]
  simp only [gatherT]
  split <;> simp
theorem gatherT_bad {ts : List T} {hs : List Int} {i : Nat} (h : gatherT ts (hs.take (i + 1)) = none) : gatherT ts hs = none := by
  have := gatherT_app ts (hs.take (i + 1)) (hs.drop (i + 1))
  rw [List.take_append_drop, h] at this
  simpa using this
theorem madeV_some {ts : List T} {g : List T → T × Bool} {hs : List Int} {l : List T} (h : gatherT ts hs = some l) : madeV ts g hs = if (g l).2 = true then intern ts (g l).1 else (-1, 72, ts) := by
  unfold madeV; rw [h]
theorem madeV_none {ts : List T} {g : List T → T × Bool} {hs : List Int} (h : gatherT ts hs = none) : madeV ts g hs = (-1, 71, ts) := by
  unfold madeV; rw [h]
theorem madeV_tab {ts : List T} {g : List T → T × Bool} {hs : List Int} (h : TabI ts) : TabI (madeV ts g hs).2.2 := by
  unfold madeV
  split
  · exact h
  · split
    · exact intern_tab h
    · exact h
theorem madeV_len {ts : List T} {g : List T → T × Bool} {hs : List Int} (h : ts.length ≤ 4096) : (madeV ts g hs).2.2.length ≤ 4096 := by
  unfold madeV
  split
  · exact h
  · split
    · exact intern_len h
    · exact h

/-! ## Rows of integers -/
def IntsV (σ : Hp) (v : Value) (zs : List Int) : Prop := ∃ p c, v = .slice p zs.length c ∧ zs.length ≤ c ∧ (zs = [] ∨ ∃ b o, p = some ⟨b, o, none⟩ ∧ CellsAt σ b o (intsV zs))
theorem IntsV.le {σ τ : Hp} (hl : Le σ τ) {v : Value} {zs : List Int} (h : IntsV σ v zs) : IntsV τ v zs := by
  obtain ⟨p, c, h1, h2, h3⟩ := h
  exact ⟨p, c, h1, h2, h3.imp id fun ⟨b, o, e, k⟩ => ⟨b, o, e, k.le hl⟩⟩
theorem IntsV.nil (σ : Hp) : IntsV σ (.slice none 0 0) [] := ⟨none, 0, rfl, Nat.le_refl _, .inl rfl⟩
theorem IntsV.lit {σ : Hp} {b : Nat} {ty : TypeId} {fz : Nat × Nat} {zs : List Int} {n : Nat} (h : σ b = some (.cells (intsV zs).toArray ty fz)) (hn : zs.length = n) : IntsV σ (.slice (some ⟨b, 0, none⟩) n n) zs := by
  subst hn
  exact ⟨_, zs.length, rfl, Nat.le_refl _, .inr ⟨b, 0, rfl, _, ty, fz, h, fun j v hj => by simpa using hj⟩⟩

/-! ## Blocks that turn no more, where a callee may turn others -/
theorem St.frz1 {w0 w : World} {M : Nat → Prop} {σ : Hp} {H G : List (Nat × Obj)} {b : Nat} {o : Obj} (hs : St w0 M σ ((b, o) :: H) G w) (hM : M b → False) : ∃ σ', Le σ σ' ∧ Fresh σ σ' w0 ∧ σ' b = some o ∧ St w0 M σ' H G w := by
  refine ⟨ext σ b o, le_ext (hs.fresh (p := (b, o)) (by simp)), fun x ob hx => ?_, ext_self _ _ _, hs.freeze⟩
  unfold ext at hx
  split at hx
  · rename_i hb; subst hb; exact .inr ((St0.mo hs (x, o) (by simp)).resolve_left hM)
  · exact .inl hx
theorem St.apart {w0 w : World} {M : Nat → Prop} {σ : Hp} {H G : List (Nat × Obj)} {b : Nat} {o : Obj} (hs : St w0 M σ ((b, o) :: H) G w) : keysOf G b → False := fun ⟨q, hq, e⟩ => by
  have hn := St0.nd hs
  simp only [List.cons_append, List.map_cons, List.nodup_cons] at hn
  exact hn.1 (by rw [← e]; exact List.mem_map_of_mem (List.mem_append_right _ hq))
section
variable {P : Program} {l0 : List Oper} {Q : Exit → Act → World → Prop} {l rest : List Oper} {c : Code} {N : Nat} {L : TL} {w0 : World} {σ : Hp} {H K Gs : List (Nat × Obj)}
theorem ow_frzHK {o : Obj} {b : Nat} (k : ∀ σ', Le σ σ' → Fresh σ σ' w0 → σ' b = some o → OW P l0 Q l N L (St w0 (keysOf K) σ' H K)) : OW P l0 Q l N L (St w0 (keysOf K) σ ((b, o) :: H) K) := fun a w hf hs => by
  obtain ⟨σ', h1, h2, h3, h4⟩ := hs.frz1 hs.apart
  exact k σ' h1 h2 h3 a w hf h4
theorem cw_frzGK {e : Nat} {v : Value} {n : Nat} {xs : List Value} {ts : List T} (hO : OwnSl e 4 v n xs Gs) (hr : RowC σ xs ts) (hlen : ts.length ≤ maxKids)
    (k : ∀ σ', Le σ σ' → Fresh σ σ' w0 → KidsV σ' v ts → CW P c Q N L (St w0 (keysOf K) σ' H K)) : CW P c Q N L (St w0 (keysOf K) σ H (Gs ++ K)) := fun a w hf hs => by
  have hn : n = ts.length := by have h1 := hO.1; have h2 := hr.len; omega
  subst hn
  rcases hO.2 with ⟨rfl, h0, rfl⟩ | ⟨g, cc, cur, rfl, rfl, h2, h3, h4, h5⟩
  · have : ts = [] := List.eq_nil_of_length_eq_zero h0
    subst this
    exact k σ (Le.refl _) (Fresh.refl _ _) (KidsV.nil σ) a w hf hs
  · have hs1 : St w0 (keysOf K) σ ((g, .cells cur e (0, 0)) :: H) K w := hs.ofG
    obtain ⟨σ', q1, q2, q3, q4⟩ := hs1.frz1 hs1.apart
    refine k σ' q1 q2 ⟨_, cc, rfl, h2, hlen, .inr ⟨g, 0, rfl, (hr.le q1).elems ⟨cur, e, (0, 0), q3, fun j u hj => ?_⟩⟩⟩ a w hf q4
    rw [← h5, List.getElem?_take] at hj
    split at hj
    · simpa using hj
    · cases hj
end
/-! ## What is read while nothing turns -/
theorem Has.of_im {σ σK : Hp} {K : List (Nat × Obj)} {w w' : World} (h : Has σ K w) (hi : Imm σK w') (hle : Le (Go.Proofs.YtnjomdjkbbhdoaaDoor.exts σ K) σK) : Has σ K w' :=
  ⟨fun b o e => hi b o (hle b o (h.le b o e)), fun p hp => hi _ _ (hle _ _ (exts_get h.nd hp)), h.dj, h.nd⟩
theorem Has.next {σ σ1 σK : Hp} {K : List (Nat × Obj)} {w w' : World} (h : Has σ K w) (hf : Fresh σ σ1 w) (hi : Imm σK w') (hle : Le (Go.Proofs.YtnjomdjkbbhdoaaDoor.exts σ K) σK) (h1 : Le σ1 σK) : Has σ1 K w' :=
  ⟨fun b o e => hi b o (h1 b o e), fun p hp => hi _ _ (hle _ _ (exts_get h.nd hp)), fun p hp => by
    cases e : σ1 p.1 with
    | none => rfl
    | some o =>
      rcases hf p.1 o e with h2 | h2
      · rw [h.dj p hp] at h2; cases h2
      · have := (Array.getElem?_eq_some_iff.1 (h.ow p hp)).1; omega, h.nd⟩
def bothV (ts : List T) (op a b : Int) : Bool := (termV ts a).2 && (termV ts b).2 && decide ((termV ts a).1.op = op)
def RepBoth (x y : T) (is : Bool) (σ : Hp) (u : Value) : Prop := ∃ cx cy, u = .tuple #[.agg cx.toArray, .agg cy.toArray, .bool is] ∧ TermC σ cx x ∧ TermC σ cy y
instance (x y : T) (is : Bool) : MonoR (RepBoth x y is) := ⟨fun hl ⟨cx, cy, e, h1, h2⟩ => ⟨cx, cy, e, h1.le hl, h2.le hl⟩⟩
def openV (ts : List T) (key sealed : Int) : List UInt8 × Bool :=
  if bothV ts 4 sealed key = true ∧ ord ((termV ts sealed).1.kids.getD 0 zeroT) (termV ts key).1 = 0 then ((termV ts sealed).1.data, true) else ([], false)
def verifyV (ts : List T) (pub : Int) (msg : List UInt8) (sig : Int) : Bool :=
  bothV ts 3 sig pub && decide ((termV ts pub).1.op = 2) && ((termV ts sig).1.data == msg) && decide (ord ((termV ts sig).1.kids.getD 0 zeroT) ((termV ts pub).1.kids.getD 0 zeroT) = 0)
def RepBB (d : List UInt8) (is : Bool) (σ : Hp) (u : Value) : Prop := ∃ v, u = .tuple #[v, .bool is] ∧ BytesV σ v d
instance (d : List UInt8) (is : Bool) : MonoR (RepBB d is) := ⟨fun hl ⟨v, e, h⟩ => ⟨v, e, h.le hl⟩⟩
theorem termV_mem {ts : List T} {n : Int} (h : (termV ts n).2 = true) : (termV ts n).1 ∈ ts := by
  unfold termV at h ⊢
  split
  · rename_i hn
    have hl : n.toNat < ts.length := by omega
    simp [List.getD_eq_getElem?_getD, hl]
  · rename_i hn
    rw [if_neg hn] at h; cases h
/-- A key's term has one Kid. -/
theorem keyed_one {t : T} (h : right t = true) (ho : t.op = 2 ∨ t.op = 3 ∨ t.op = 4 ∨ t.op = 6) : t.kids.length = 1 := by
  have := (right_shape h).1
  unfold shape at this
  simp only [Bool.and_eq_true] at this
  have h2 := this.2
  rw [if_neg (by omega), if_neg (by omega)] at h2
  simpa using h2
/-- A term of an Op and bytes, as it is handed on. -/
def RepOf (F : FuncId) (op : Int) (d : List UInt8) (σ : Hp) (u : Value) : Prop := ∃ b2 b3 v, u = .func (.func F) #[] #[.pointer (some ⟨b2, 0, none⟩), .pointer (some ⟨b3, 0, none⟩)] ∧ CellsAt σ b2 0 [.int .i64 op] ∧ CellsAt σ b3 0 [v] ∧ BytesV σ v d
instance (F : FuncId) (op : Int) (d : List UInt8) : MonoR (RepOf F op d) := ⟨fun hl ⟨b2, b3, v, e, h1, h2, h3⟩ => ⟨b2, b3, v, e, h1.le hl, h2.le hl, h3.le hl⟩⟩
section
variable {P : Program} {l0 : List Oper} {Q : Exit → Act → World → Prop} {l rest : List Oper} {N : Nat} {L : TL} {d : Nat} {ty : TypeId} {pos : String} {af : Array Edge} {g : Option (Nat × Bool)} {w0 : World} {M : Nat → Prop} {σ : Hp} {H G : List (Nat × Obj)}
/-- Bytes that a string was turned into: the mark behind them. -/
theorem ow_conv {s e b n c : Nat} {x : Operand} {arr : Array Value} [hB : ByteT P s] (hN : Nat.blt d N = true) (hg : gd l0 L g = some true) (hx : ev L x = some (.slice (some ⟨b, 0, none⟩) n c))
    (k : OW P l0 Q rest N ((d, .slice (some ⟨b, 0, none⟩) n c) :: L) (St w0 M σ ((b, .cells arr e (arr.size, arr.size + 1)) :: H) G)) : OW P l0 Q (⟨some d, .convert s s x, ty, pos, af, g⟩ :: rest) N L (St w0 M σ ((b, .cells arr e (0, 0)) :: H) G) :=
  ow_w (T := fun u w => u = .slice (some ⟨b, 0, none⟩) n c ∧ St w0 M σ ((b, .cells arr e (arr.size, arr.size + 1)) :: H) G w) hN hg (fun a w hf hs d ty pos af g => by
    obtain ⟨e', h1, h2⟩ := hB.ok
    have hb : w.heap[b]? = some (.cells arr e (0, 0)) := hs.own (p := (b, .cells arr e (0, 0))) (by simp)
    have hsh : w.shape? b = some (e, arr.size) := by simp [World.shape?, hb]
    have hfr : w.freeze ⟨b, arr.size, none⟩ 1 = World.putBlk w b (.cells arr e (arr.size, arr.size + 1)) := by
      have hlt := (Array.getElem?_eq_some_iff.1 hb).1
      have hge := (Array.getElem?_eq_some_iff.1 hb).2
      unfold World.freeze World.putBlk
      rw [if_neg (by decide)]
      congr 1
      apply Array.ext_getElem?
      intro i
      rw [Array.getElem?_modify, Array.getElem?_setIfInBounds]
      by_cases hi : b = i
      · subst hi; simp [hlt, hge]
      · simp [hi]
    have hr : (convert s s (.slice (some ⟨b, 0, none⟩) n c)).run P w = .ok (.slice (some ⟨b, 0, none⟩) n c) (w.freeze ⟨b, arr.size, none⟩ 1) := by
      simp [convert, run_underlying h1, run_underlying h2, markStringish, hsh]
    refine ⟨.slice (some ⟨b, 0, none⟩) n c, w.freeze ⟨b, arr.size, none⟩ 1, by simp [execOp, hf.eval hx, hr], ?_⟩
    rw [hfr]
    exact ⟨rfl, hs.put (i := 0) rfl _⟩) fun v a w hf ⟨hv, h2⟩ => by subst hv; exact k a w hf h2
theorem ow_frzO {o : Obj} {b : Nat} (hM : ∀ b, M b → False) (k : ∀ σ', Le σ σ' → Fresh σ σ' w0 → σ' b = some o → OW P l0 Q l N L (St w0 M σ' H G)) : OW P l0 Q l N L (St w0 M σ ((b, o) :: H) G) := fun a w hf hs => by
  obtain ⟨σ', h1, h2, h3, h4⟩ := hs.frz1 (hM b)
  exact k σ' h1 h2 h3 a w hf h4
end
theorem BytesV.lit {σ : Hp} {b : Nat} {ty : TypeId} {fz : Nat × Nat} {d : List UInt8} {n : Nat} (h : σ b = some (.cells (d.map byteV).toArray ty fz)) (hn : d.length = n) (hm : d.length ≤ maxData) : BytesV σ (.slice (some ⟨b, 0, none⟩) n n) d := by
  subst hn
  exact ⟨_, d.length, rfl, Nat.le_refl _, hm, .inr ⟨b, 0, rfl, _, ty, fz, h, fun j v hj => by simpa using hj⟩⟩
/-- What the head of layer 7 makes. -/
def encA : T := .mk 4 0 [97] [atomOne]
theorem made_atom : madeV [] (fun _ => (T.mk 1 1 [] [], true)) [] = (0, 0, [atomOne]) := by
  rw [madeV_some (l := []) rfl, if_pos rfl]
  show intern [] atomOne = _
  unfold intern
  rw [if_pos (by decide), if_neg (by decide), if_neg (by decide)]
  rfl
theorem made_enc : madeV [atomOne] (ofT 4 [97]) [0] = (1, 0, [atomOne, encA]) := by
  rw [madeV_some (l := [atomOne]) rfl, if_pos (by decide)]
  show intern [atomOne] encA = _
  unfold intern
  rw [if_pos (by decide), if_neg (by decide), if_neg (by decide)]
  rfl
theorem open_enc : openV [atomOne, encA] 0 1 = ([97], true) := by
  unfold openV
  rw [if_pos (by decide)]
  rfl
section
variable {P : Program} {N : Nat} {L : TL} {S : World → Prop}
theorem ex_streql {t u : TypeId} {x y : Operand} {a b : List UInt8} (hx : ev L x = some (.string (strOf a))) (hy : ev L y = some (.string (strOf b))) : Ex P (.binOp .eql t x y u) N L S (.bool (a == b)) := fun ac w hf hS d ty pos af g => by
  simp [execOp, hf.eval hx, hf.eval hy, eqGuard, binOp, Op.stringOp, strOf_toList]
theorem ex_strneq {t u : TypeId} {x y : Operand} {a b : List UInt8} (hx : ev L x = some (.string (strOf a))) (hy : ev L y = some (.string (strOf b))) : Ex P (.binOp .neq t x y u) N L S (.bool (!(a == b))) := fun ac w hf hS d ty pos af g => by
  simp [execOp, hf.eval hx, hf.eval hy, eqGuard, binOp, Op.stringOp, strOf_toList, bne]
end
end Go.Proofs.YtnjomdjkbbhdoaaDoor
