/-
  A region whose tail draws its order too: two stores that wait for one another in neither order. The orders are gone through one by one.
  No condition; nothing of the seat's program stands here.
-/
import Derived.Test.YtnjomdjkbbhdoaaDoorSwap
namespace Go.Proofs.YtnjomdjkbbhdoaaDoor
open Go.RowKit
set_option linter.unusedVariables false

def drawT (N : Nat) (l : List Oper) (n : Nat) : Bool :=
  Nat.blt n l.length && ownDst N (l.take n) && aheadB 0 l && (match l[n]? with
    | some o => waitsB l o [] n
    | none => false) && (List.range l.length).all fun t => decide (t ≤ n) || (match l[t]? with
      | some o => memN n (depsL o.after.toList)
      | none => false)

theorem flow_soundT {P : Program} {l : List Oper} {L : TL} {S : World → Prop} [hSta : Sta S] {N : Nat} {Q : Exit → Act → World → Prop} {id : Nat} [hm : MixT P] (n : Nat) (hB : drawT N l n = true)
    (h : Flow P l (Go.Proofs.YtnjomdjkbbhdoaaDoor.cut (l.take n) L) S N (fun K => ∀ a w, Fr N (Go.Proofs.YtnjomdjkbbhdoaaDoor.cut (l.take n) L) a → S w → (∀ e ∈ K, ∃ v, a.tmps[e.d]? = some v ∧ e.p.holds w v) → wpAny P .any l.toArray Q (l.length - n) (firsts n l.length) a w) (l.take n) 0 []) :
    CW P (.region id l.toArray true) Q N L S := by
  simp only [drawT, Bool.and_eq_true] at hB
  obtain ⟨⟨⟨⟨hn, hown⟩, hahead⟩, hwt⟩, hstar⟩ := hB
  have hn2 : n < l.length := by have := hn; simp [Nat.blt] at this; omega
  have hn' : n ≤ l.length := by omega
  obtain ⟨on, hon, hwn⟩ : ∃ o, l[n]? = some o ∧ waitsB l o [] n = true := by
    cases hl : l[n]? with
    | none => rw [hl] at hwt; cases hwt
    | some o => rw [hl] at hwt; exact ⟨o, rfl, hwt⟩
  obtain ⟨Kf, hfin, -, hK, hcov, huni⟩ := flow_all (l.take n) 0 [] (fun j hj => by
    rw [List.length_take] at hj
    rw [List.getElem?_take_of_lt (by omega)]; simp) (fun _ he => absurd he List.not_mem_nil) h
  have hK' : ∀ e ∈ Kf, e.j < n ∧ ∃ o, l[e.j]? = some o ∧ o.dst = some e.d ∧ e.p.pers ∧ ∀ a w, Fr N (Go.Proofs.YtnjomdjkbbhdoaaDoor.cut (l.take n) L) a → S w →
      (∀ e' ∈ Kf, edge o.after.toList e'.j = true → ∃ v, a.tmps[e'.d]? = some v ∧ e'.p.holds w v) → stepOK P l o a w e.p := fun e he => by
    rcases hK e he with h0 | ⟨_, h1, h2⟩
    · cases h0
    · exact ⟨by rw [List.length_take] at h1; omega, h2⟩
  have hsz : l.toArray.size = l.length := by simp
  have key : ∀ (g : Nat) (listed : Array Bool) (a : Act) (w : World), HeadInv .any l.toArray n listed → cnt listed n = g → Fr N (Go.Proofs.YtnjomdjkbbhdoaaDoor.cut (l.take n) L) a → S w →
      (∀ e ∈ Kf, listed.getD e.j true = true → ∃ v, a.tmps[e.d]? = some v ∧ e.p.holds w v) → wpAny P .any l.toArray Q (g + (l.length - n)) listed a w := by
    intro g
    induction g with
    | zero =>
      intro listed a w inv hc hf hs hk
      have hall := cnt_zero hc
      have hlist : listed = firsts n l.length := by
        apply Array.ext_getElem?
        intro i
        have hs1 : listed.size = l.length := by rw [inv.size, hsz]
        unfold firsts
        rcases Nat.lt_or_ge i n with h1 | h1
        · have := hall i h1
          have hi : i < listed.size := by omega
          simp [hi] at this
          simp [hi, this, List.getElem?_append, h1]
        · rcases Nat.lt_or_ge i l.length with h2 | h2
          · have := inv.tail i h1 (by rw [hsz]; exact h2)
            have hi : i < listed.size := by omega
            simp [hi] at this
            simp [hi, this, List.getElem?_append, show ¬ i < n by omega, show i - n < l.length - n by omega]
          · rw [Array.getElem?_eq_none (by omega)]
            simp [List.getElem?_append, show ¬ i < n by omega, show ¬ i - n < l.length - n by omega]
      have hw := hfin a w hf hs (fun e he => hk e he (hall e.j (hK' e he).1))
      rw [hlist, Nat.zero_add]
      exact hw
    | succ g ih =>
      intro listed a w inv hc hf hs hk
      rw [show g + 1 + (l.length - n) = (g + (l.length - n)) + 1 by omega]
      obtain ⟨i0, hi0, hun0, hbelow⟩ := cnt_pos (show 0 < cnt listed n by omega)
      have hs1 : listed.size = l.length := by rw [inv.size, hsz]
      have hready : i0 ∈ Region.ready .any l.toArray listed := by
        have hlt : i0 < l.length := by omega
        refine mem_ready.2 ⟨hun0, l[i0], by simp [hlt], fun e he hb => ?_⟩
        have h1 := ahead_get hahead i0 l[i0] (by simp [hlt]) e he hb
        have h2 := hbelow e.on (by omega)
        have hlt2 : e.on < listed.size := by omega
        simp [hlt2] at h2 ⊢
        exact h2
      refine ⟨fun hnil => (by rw [hnil] at hready; cases hready), fun i hi => ?_⟩
      have hin : i < n := by
        rcases Nat.lt_or_ge i n with h1 | h1
        · exact h1
        · obtain ⟨_, oi, hoi, hdeps⟩ := mem_ready.1 hi
          have hlt : i < l.length := by have := (Array.getElem?_eq_some_iff.1 hoi).1; simpa using this
          have hoi' : l[i]? = some oi := by simpa using hoi
          rcases Nat.eq_or_lt_of_le h1 with h2 | h2
          · subst h2
            have : oi = on := Option.some.inj (hoi'.symm.trans hon)
            subst this
            have h3 := (List.all_eq_true.1 hwn) i0 (List.mem_range.2 hi0)
            simp only [memN, Bool.false_or] at h3
            have h4 := clos_listed inv n _ (fun x hx => by
              obtain ⟨e, he, hej, heb⟩ := depsL_mem hx
              rw [← hej]; exact hdeps e (by simpa using he) heb) i0 (memN_mem h3)
            have hlt2 : i0 < listed.size := by omega
            simp [hlt2] at h4 hun0
            rw [h4] at hun0; cases hun0
          · have h3 := (List.all_eq_true.1 hstar) i (List.mem_range.2 hlt)
            simp only [Bool.or_eq_true, decide_eq_true_eq] at h3
            have h4 := h3.resolve_left (by omega)
            rw [hoi'] at h4
            obtain ⟨e, he, hej, heb⟩ := depsL_mem (memN_mem h4)
            have h5 := hdeps e (by simpa using he) heb
            rw [hej] at h5
            have h6 := inv.tail n (Nat.le_refl _) (by rw [hsz]; exact hn2)
            have hlt2 : n < listed.size := by omega
            simp [hlt2] at h5 h6
            rw [h5] at h6; cases h6
      obtain ⟨huni1, oi, hoi, hdeps⟩ := mem_ready.1 hi
      have hoi' : l[i]? = some oi := by simpa using hoi
      obtain ⟨e, heK, hej⟩ := hcov i (by rw [List.length_take]; omega)
      have hej' : e.j = i := by omega
      obtain ⟨_, o, ho, hod, hpers, hstep⟩ := hK' e heK
      rw [hej'] at ho
      have : o = oi := Option.some.inj (ho.symm.trans hoi')
      subst this
      have hdn : e.d < N := by
        obtain ⟨d, hd1, hd2⟩ := ownDst_get hown i o (by rw [List.getElem?_take_of_lt hin]; exact ho)
        rw [hod] at hd1; cases hd1; exact hd2
      have hcutd : ∀ v, lk (Go.Proofs.YtnjomdjkbbhdoaaDoor.cut (l.take n) L) e.d = some v → False := fun v hv => by
        have h1 := (lk_cut hv).1
        rw [anyDst_of (List.mem_of_getElem? (l := l.take n) (i := i) (by rw [List.getElem?_take_of_lt hin]; exact ho)) hod] at h1
        cases h1
      have hso := hstep a w hf hs (fun e' he' hed => by
        obtain ⟨x, hx, hxj, hxb⟩ := edge_mem hed
        have h1 := hdeps x (by simpa using hx) hxb
        rw [hxj] at h1
        have h2 : e'.j < n := (hK' e' he').1
        refine hk e' he' ?_
        have hlt2 : e'.j < listed.size := by omega
        simp [hlt2] at h1 ⊢
        exact h1)
      have next : ∀ v w', Below w.heap.size w w' → e.p.holds w' v → wpAny P .any l.toArray Q (g + (l.length - n)) (listed.setIfInBounds i true) (a.put o.dst v) w' := by
        intro v w' hb hv
        rw [hod]
        refine ih _ _ _ (inv.set hi hin) (by have := cnt_set huni1 n hin; omega) ?_ (hSta.keep w w' hs hb) ?_
        · have hp := hf.put v (d := e.d) (by simp [Nat.blt]; omega)
          exact ⟨hp.df, hp.sz, fun k u hu => hp.get k u (by
            rw [lk_cons]
            split
            · rename_i hk2; subst hk2; exact (hcutd u hu).elim
            · exact hu)⟩
        · intro x hx hxl
          by_cases hxi : x.j = i
          · have : x = e := huni x hx e heK (Nat.zero_le _) (by omega)
            subst this
            exact ⟨v, by simp [Act.put, hf.sz, hdn], hv⟩
          · rw [getD_set_ne true (fun h => hxi h.symm)] at hxl
            obtain ⟨u, hu, hxu⟩ := hk x hx hxl
            obtain ⟨hxn, ox, hox, hxd, hxp, _⟩ := hK' x hx
            have hne : e.d ≠ x.d := fun hee => by
              have := ownDst_ne hown i x.j o ox e.d (by rw [List.getElem?_take_of_lt hin]; exact ho) (by rw [List.getElem?_take_of_lt hxn]; exact hox) hod (by rw [hee]; exact hxd)
              omega
            refine ⟨u, ?_, VP.pers_keep hxp hxu hb⟩
            simp only [Act.put]
            rw [Array.getElem?_setIfInBounds_ne hne]
            exact hu
      unfold wpOp
      simp only [hoi]
      unfold stepOK at hso
      split
      · rename_i hw
        rw [if_pos hw] at hso
        exact .inl (wp_false hso (fun a' w' ⟨v, ha, hb, hv⟩ => by rw [ha]; exact next v w' hb hv))
      · rename_i hw
        rw [if_neg hw] at hso
        exact next undef w (Below.refl _ _) hso
  intro a w hf hs
  refine wp_region_any hm.ok ?_
  have hrep : ∀ j, (Array.replicate l.toArray.size false).getD j false = false := fun j => getD_replicate_false _ _
  have := key n (Array.replicate l.toArray.size false) a w.drew
    ⟨by simp, fun j oj hj hl => (by rw [hrep] at hl; cases hl), fun t ht ht' => by simp at ht'; simp [ht']⟩
    (by rw [hsz]; exact cnt_fresh _ _ hn') (fr_cut hf (lk_cut_sub L)) (hSta.keep _ _ hs (Below.drewB w)) (fun e he hl => by
      have h1 := (hK' e he).1
      simp [show e.j < l.length by omega] at hl)
  rw [show n + (l.length - n) = l.toArray.size by rw [hsz]; omega] at this
  exact this


/-! ### The tail, order by order -/
def AnyW (P : Program) (l : List Oper) (Q : Exit → Act → World → Prop) (k : Nat) (listed : Array Bool) (N : Nat) (L : TL) (S : World → Prop) : Prop :=
  ∀ a w, Fr N L a → S w → wpAny P .any l.toArray Q k listed a w
def NextW (P : Program) (l : List Oper) (Q : Exit → Act → World → Prop) (k : Nat) (listed : Array Bool) (N : Nat) (L : TL) (S : World → Prop) (i : Nat) : Prop :=
  ∀ a w, Fr N L a → S w → wpOp P l.toArray Q i (wpAny P .any l.toArray Q k (listed.setIfInBounds i true)) a w
section
variable {P : Program} {l : List Oper} {Q : Exit → Act → World → Prop} {k : Nat} {listed : Array Bool} {N : Nat} {L : TL} {S : World → Prop} {i j : Nat} {d : Nat} {ty : TypeId} {pos : String} {af : Array Edge} {op : Op}
theorem any_done (hr : Region.ready .any l.toArray listed = []) (h : QW Q .normal N L S) : AnyW P l Q 0 listed N L S := fun a w hf hs => ⟨hr, h a w hf hs⟩
theorem any_one (hr : Region.ready .any l.toArray listed = [i]) (h : NextW P l Q k listed N L S i) : AnyW P l Q (k + 1) listed N L S := fun a w hf hs => by
  refine ⟨fun hn => (by rw [hr] at hn; cases hn), fun x hx => ?_⟩
  rw [hr] at hx
  simp only [List.mem_singleton] at hx
  subst hx
  exact h a w hf hs
theorem any_two (hr : Region.ready .any l.toArray listed = [i, j]) (h : NextW P l Q k listed N L S i) (h' : NextW P l Q k listed N L S j) : AnyW P l Q (k + 1) listed N L S := fun a w hf hs => by
  refine ⟨fun hn => (by rw [hr] at hn; cases hn), fun x hx => ?_⟩
  rw [hr] at hx
  simp only [List.mem_cons, List.not_mem_nil, or_false] at hx
  rcases hx with rfl | rfl
  · exact h a w hf hs
  · exact h' a w hf hs
theorem next_val {v : Value} (ho : l[i]? = some ⟨some d, op, ty, pos, af, none⟩) (hN : Nat.blt d N = true) (h : Ex P op N L S v) (c : AnyW P l Q k (listed.setIfInBounds i true) N ((d, v) :: L) S) : NextW P l Q k listed N L S i := fun a w hf hs => by
  unfold wpOp
  rw [show l.toArray[i]? = some ⟨some d, op, ty, pos, af, none⟩ by simpa using ho]
  simp only
  rw [if_pos (by simp [Region.wanted])]
  refine .inl ?_
  unfold Oper.wp
  rw [h a w hf hs]
  exact c _ _ (hf.put _ hN) hs
theorem next_u {S' : World → Prop} (ho : l[i]? = some ⟨none, op, ty, pos, af, none⟩) (h : ExU P op N L S S') (c : AnyW P l Q k (listed.setIfInBounds i true) N L S') : NextW P l Q k listed N L S i := fun a w hf hs => by
  unfold wpOp
  rw [show l.toArray[i]? = some ⟨none, op, ty, pos, af, none⟩ by simpa using ho]
  simp only
  rw [if_pos (by simp [Region.wanted])]
  refine .inl ?_
  unfold Oper.wp
  obtain ⟨w', h1, h2⟩ := h a w hf hs none ty pos af none
  rw [h1]
  exact c _ _ hf h2
theorem next_w {T : Value → World → Prop} (ho : l[i]? = some ⟨some d, op, ty, pos, af, none⟩) (hN : Nat.blt d N = true) (h : ExW P op N L S T) (c : ∀ v, AnyW P l Q k (listed.setIfInBounds i true) N ((d, v) :: L) (T v)) : NextW P l Q k listed N L S i := fun a w hf hs => by
  unfold wpOp
  rw [show l.toArray[i]? = some ⟨some d, op, ty, pos, af, none⟩ by simpa using ho]
  simp only
  rw [if_pos (by simp [Region.wanted])]
  refine .inl ?_
  unfold Oper.wp
  obtain ⟨v, w', h1, h2⟩ := h a w hf hs (some d) ty pos af none
  rw [h1]
  exact c v _ _ (hf.put _ hN) h2
theorem next_app1 {w0 : World} {M : Nat → Prop} {σ : Hp} {H Gs : List (Nat × Obj)} {R : Value → List (Nat × Obj) → Prop} {z : Value → Prop} (ho : l[i]? = some ⟨some d, op, ty, pos, af, none⟩) (hN : Nat.blt d N = true)
    (h : ExW P op N L (St w0 M σ H Gs) (fun v' w' => ∃ Gs', R v' Gs' ∧ z v' ∧ St w0 M σ H Gs' w')) (c : ∀ v' Gs', R v' Gs' → z v' → AnyW P l Q k (listed.setIfInBounds i true) N ((d, v') :: L) (St w0 M σ H Gs')) : NextW P l Q k listed N L (St w0 M σ H Gs) i :=
  next_w ho hN h fun v' a w hf ⟨Gs', h1, hz, h2⟩ => c v' Gs' h1 hz a w hf h2
theorem any_mono {S' : World → Prop} (hS : ∀ w, S w → S' w) (h : AnyW P l Q k listed N L S') : AnyW P l Q k listed N L S := fun a w hf hs => h a w hf (hS w hs)
theorem next_mono {S' : World → Prop} (hS : ∀ w, S w → S' w) (h : NextW P l Q k listed N L S' i) : NextW P l Q k listed N L S i := fun a w hf hs => h a w hf (hS w hs)
theorem any_ex {α : Type} {T : α → World → Prop} (h : ∀ x, AnyW P l Q k listed N L (T x)) : AnyW P l Q k listed N L (fun w => ∃ x, T x w) := fun a w hf ⟨x, hx⟩ => h x a w hf hx
theorem any_and {p : Prop} (h : p → AnyW P l Q k listed N L S) : AnyW P l Q k listed N L (fun w => p ∧ S w) := fun a w hf ⟨hp, hx⟩ => h hp a w hf hx
/-- The end of the free part. -/
def FinT (P : Program) (l : List Oper) (Q : Exit → Act → World → Prop) (k : Nat) (listed : Array Bool) (N : Nat) (L : TL) (S : World → Prop) (K : List KE) : Prop :=
  ∀ a w, Fr N L a → S w → (∀ e ∈ K, ∃ v, a.tmps[e.d]? = some v ∧ e.p.holds w v) → wpAny P .any l.toArray Q k listed a w
theorem fint_nil (h : AnyW P l Q k listed N L S) : FinT P l Q k listed N L S [] := fun a w hf hs _ => h a w hf hs
theorem fint_is {v : Value} {K : List KE} (h : FinT P l Q k listed N ((d, v) :: L) S K) : FinT P l Q k listed N L S (⟨j, d, .is v⟩ :: K) := fun a w hf hs hk => by
  obtain ⟨u, hu, hp⟩ := hk _ List.mem_cons_self
  have : u = v := hp
  subst this
  exact h a w (fr_add hf hu) hs (fun e he => hk e (List.mem_cons_of_mem _ he))
theorem fint_sat {q : World → Value → Prop} {K : List KE} (h : ∀ v, FinT P l Q k listed N ((d, v) :: L) (fun w => S w ∧ q w v) K) : FinT P l Q k listed N L S (⟨j, d, .sat q⟩ :: K) := fun a w hf hs hk => by
  obtain ⟨u, hu, hp⟩ := hk _ List.mem_cons_self
  exact h u a w (fr_add hf hu) ⟨hs, hp⟩ (fun e he => hk e (List.mem_cons_of_mem _ he))
theorem fint_drop {e : KE} {K : List KE} (h : FinT P l Q k listed N L S K) : FinT P l Q k listed N L S (e :: K) := fun a w hf hs hk =>
  h a w hf hs (fun x hx => hk x (List.mem_cons_of_mem _ hx))
theorem fint_satR {Rep : Hp → Value → Prop} [MonoR Rep] {w0 : World} {M : Nat → Prop} {σ σ1 : Hp} {H G : List (Nat × Obj)} {K : List KE} (hle : Le σ σ1) (h : ∀ v σ', Le σ1 σ' → Fresh σ1 σ' w0 → Rep σ' v → FinT P l Q k listed N ((d, v) :: L) (St w0 M σ' H G) K) :
    FinT P l Q k listed N L (St w0 M σ1 H G) (⟨j, d, .sat (QR Rep σ w0 (H ++ G))⟩ :: K) := fun a w hf hs hk => by
  obtain ⟨u, hu, hp⟩ := hk _ List.mem_cons_self
  obtain ⟨τ, h1, h2, h3, h4, h5⟩ := hp
  refine h u (join σ1 τ) (le_join _ _) (fun b o e => ?_) (MonoR.mono (le_join' hs.im h3) h4) a w (fr_add hf hu) (hs.le (hs.im.join h3) fun p hp => ?_) (fun e he => hk e (List.mem_cons_of_mem _ he))
  · unfold join at e
    cases he : σ1 b with
    | none =>
      rw [he] at e
      rcases h2 b o (by simpa using e) with h6 | h6
      · rw [hle b o h6] at he; cases he
      · exact .inr h6
    | some o' => rw [he] at e; simp at e; subst e; exact .inl rfl
  · unfold join; rw [hs.fresh hp, h5 p hp]; rfl
theorem flow_nilT {L0 : TL} {n : Nat} {K : List KE} (h : FinT P l Q (l.length - n) (firsts n l.length) N L0 S K) :
    Flow P l L0 S N (fun K => ∀ a w, Fr N L0 a → S w → (∀ e ∈ K, ∃ v, a.tmps[e.d]? = some v ∧ e.p.holds w v) → wpAny P .any l.toArray Q (l.length - n) (firsts n l.length) a w) [] i K := h
end
end Go.Proofs.YtnjomdjkbbhdoaaDoor
