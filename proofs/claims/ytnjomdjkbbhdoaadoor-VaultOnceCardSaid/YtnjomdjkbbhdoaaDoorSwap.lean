/-
  A region that draws its order, with a store among what is drawn: some operations (those of F: they look at no memory) may come ahead of it or behind it.
  No condition; nothing of the seat's program stands here.
-/
import Derived.Test.YtnjomdjkbbhdoaaDoorSort
namespace Go.Proofs.YtnjomdjkbbhdoaaDoor
open Go.RowKit
set_option linter.unusedVariables false

/-- What the operations of F yield hangs on no memory. -/
def Pures (P : Program) (l0 : List Oper) (L0 : TL) (N : Nat) (K : List KE) : List Nat → Prop
  | [] => True
  | i :: r => (∃ o v d, l0[i]? = some o ∧ o.dst = some d ∧ (⟨i, d, .is v⟩ : KE) ∈ K ∧ ObK P l0 o N L0 K (fun _ => True) (.is v)) ∧ Pures P l0 L0 N K r
theorem Pures.get {P : Program} {l0 : List Oper} {L0 : TL} {N : Nat} {K : List KE} : ∀ {F : List Nat}, Pures P l0 L0 N K F → ∀ i ∈ F, ∃ o v d, l0[i]? = some o ∧ o.dst = some d ∧ (⟨i, d, .is v⟩ : KE) ∈ K ∧ ObK P l0 o N L0 K (fun _ => True) (.is v)
  | [], _, i, h => by cases h
  | j :: r, h, i, hi => by
    rcases List.mem_cons.1 hi with rfl | hi
    · exact h.1
    · exact Pures.get h.2 i hi
def allIs : List KE → Bool
  | [] => true
  | e :: r => match e.p with
    | .is _ => allIs r
    | .sat _ => false
theorem allIs_get : ∀ {K : List KE}, allIs K = true → ∀ e ∈ K, ∃ v, e.p = .is v
  | [], _, e, he => by cases he
  | x :: r, h, e, he => by
    simp only [allIs] at h
    cases hp : x.p with
    | sat q => simp [hp] at h
    | is v =>
      rw [hp] at h
      rcases List.mem_cons.1 he with rfl | he
      · exact ⟨v, hp⟩
      · exact allIs_get h e he
def memN (i : Nat) : List Nat → Bool
  | [] => false
  | j :: r => match Nat.beq i j with
    | true => true
    | false => memN i r
theorem memN_mem : ∀ {F : List Nat} {i : Nat}, memN i F = true → i ∈ F
  | [], i, h => by cases h
  | j :: r, i, h => by
    simp only [memN] at h
    cases hb : Nat.beq i j with
    | true => rw [Nat.eq_of_beq_eq_true hb]; exact List.mem_cons_self
    | false => rw [hb] at h; exact List.mem_cons_of_mem _ (memN_mem h)
def depsL : List Edge → List Nat
  | [] => []
  | e :: r => match Region.binds .any e with
    | true => e.on :: depsL r
    | false => depsL r
theorem depsL_mem : ∀ {af : List Edge} {j : Nat}, j ∈ depsL af → ∃ e ∈ af, e.on = j ∧ Region.binds .any e = true
  | [], j, h => by cases h
  | e :: r, j, h => by
    simp only [depsL] at h
    cases hb : Region.binds .any e with
    | true =>
      rw [hb] at h
      rcases List.mem_cons.1 h with rfl | h
      · exact ⟨e, List.mem_cons_self, rfl, hb⟩
      · obtain ⟨x, hx, hj⟩ := depsL_mem h; exact ⟨x, List.mem_cons_of_mem _ hx, hj⟩
    | false => rw [hb] at h; obtain ⟨x, hx, hj⟩ := depsL_mem h; exact ⟨x, List.mem_cons_of_mem _ hx, hj⟩
/-- What is waited for, and what that waits for. -/
def clos (l : List Oper) : Nat → List Nat → List Nat
  | 0, M => M
  | k + 1, M => match memN k M with
    | true => clos l k ((match l[k]? with
      | some o => depsL o.after.toList
      | none => []) ++ M)
    | false => clos l k M
theorem clos_listed {l : List Oper} {n : Nat} {listed : Array Bool} (inv : HeadInv .any l.toArray n listed) : ∀ (k : Nat) (M : List Nat), (∀ j ∈ M, listed.getD j false = true) → ∀ j ∈ clos l k M, listed.getD j false = true
  | 0, M, h, j, hj => h j hj
  | k + 1, M, h, j, hj => by
    simp only [clos] at hj
    cases hm : memN k M with
    | false => rw [hm] at hj; exact clos_listed inv k M h j hj
    | true =>
      rw [hm] at hj
      refine clos_listed inv k _ (fun i hi => ?_) j hj
      rcases List.mem_append.1 hi with hi | hi
      · cases ho : l[k]? with
        | none => rw [ho] at hi; cases hi
        | some o =>
          rw [ho] at hi
          obtain ⟨e, he, hej, heb⟩ := depsL_mem hi
          rw [← hej]
          exact inv.closed k o (by simpa using ho) (h k (memN_mem hm)) e (by simpa using he) heb
      · exact h i hi
def waitsB (l : List Oper) (o : Oper) (F : List Nat) (n : Nat) : Bool := (List.range n).all fun j => memN j F || memN j (clos l n (depsL o.after.toList))
def swapB (N : Nat) (l : List Oper) (n : Nat) (F : List Nat) : Bool :=
  Nat.blt (n + 1) l.length && ownDst N (l.take n) && aheadB 0 l && Region.sinkB .any l.toArray (n + 1) && Region.chainB .any l.toArray (n + 1) &&
    Region.seqB .any l.toArray (l.length - (n + 1)) (n + 1) (firsts (n + 1) l.length) && (match l[n]? with
      | some o => o.dst.isNone && o.guard.isNone && waitsB l o F n
      | none => false)

theorem flow_sound2 {P : Program} {l : List Oper} {L : TL} {S S' : World → Prop} [hSta : Sta S] [hSta' : Sta S'] {N : Nat} {Q : Exit → Act → World → Prop} {id : Nat} [hm : MixT P] (n : Nat) (F : List Nat) (hB : swapB N l n F = true)
    (h : Flow P l (Go.Proofs.YtnjomdjkbbhdoaaDoor.cut (l.take n) L) S N (fun K => allIs K = true ∧ Pures P l (Go.Proofs.YtnjomdjkbbhdoaaDoor.cut (l.take n) L) N K F ∧
      (∀ o, l[n]? = some o → ∀ a w, Fr N (Go.Proofs.YtnjomdjkbbhdoaaDoor.cut (l.take n) L) a → S w → (∀ e ∈ K, memN e.j F = false → ∃ v, a.tmps[e.d]? = some v ∧ e.p.holds w v) → o.wp P a w (fun a' w' => a' = a ∧ S' w') (fun _ _ _ => False)) ∧
      (∀ a w, Fr N (Go.Proofs.YtnjomdjkbbhdoaaDoor.cut (l.take n) L) a → S' w → (∀ e ∈ K, ∃ v, a.tmps[e.d]? = some v ∧ e.p.holds w v) → wpList P l.toArray Q (l.drop (n + 1)) a w)) (l.take n) 0 []) :
    CW P (.region id l.toArray true) Q N L S := by
  simp only [swapB, Bool.and_eq_true] at hB
  obtain ⟨⟨⟨⟨⟨⟨hn, hown⟩, hahead⟩, hsink⟩, hchain⟩, hseq⟩, hst⟩ := hB
  have hn' : n + 1 < l.length := by have := hn; simp [Nat.blt] at this; omega
  obtain ⟨on, hon, hond, hong, honw⟩ : ∃ o, l[n]? = some o ∧ o.dst = none ∧ o.guard = none ∧ waitsB l o F n = true := by
    cases hl : l[n]? with
    | none => rw [hl] at hst; cases hst
    | some o => rw [hl] at hst; simp only [Bool.and_eq_true, Option.isNone_iff_eq_none] at hst; exact ⟨o, rfl, hst.1.1, hst.1.2, hst.2⟩
  obtain ⟨Kf, ⟨hisK, hpure, hstore, hfin⟩, -, hK, hcov, huni⟩ := flow_all (l.take n) 0 [] (fun j hj => by
    rw [List.length_take] at hj
    rw [List.getElem?_take_of_lt (by omega)]; simp) (fun _ he => absurd he List.not_mem_nil) h
  have hK' : ∀ e ∈ Kf, e.j < n ∧ ∃ o, l[e.j]? = some o ∧ o.dst = some e.d ∧ e.p.pers ∧ ∀ a w, Fr N (Go.Proofs.YtnjomdjkbbhdoaaDoor.cut (l.take n) L) a → S w →
      (∀ e' ∈ Kf, edge o.after.toList e'.j = true → ∃ v, a.tmps[e'.d]? = some v ∧ e'.p.holds w v) → stepOK P l o a w e.p := fun e he => by
    rcases hK e he with h0 | ⟨_, h1, h2⟩
    · cases h0
    · exact ⟨by rw [List.length_take] at h1; omega, h2⟩
  have hsz : l.toArray.size = l.length := by simp
  have key : ∀ (g : Nat) (listed : Array Bool) (a : Act) (w : World), HeadInv .any l.toArray (n + 1) listed → cnt listed (n + 1) = g → Fr N (Go.Proofs.YtnjomdjkbbhdoaaDoor.cut (l.take n) L) a →
      (listed.getD n true = false → S w) → (listed.getD n true = true → S' w ∧ ∀ j, j < n → listed.getD j true = false → memN j F = true) →
      (∀ e ∈ Kf, listed.getD e.j true = true → ∃ v, a.tmps[e.d]? = some v ∧ e.p.holds w v) → wpAny P .any l.toArray Q (g + (l.length - (n + 1))) listed a w := by
    intro g
    induction g with
    | zero =>
      intro listed a w inv hc hf hs hs' hk
      have hall := cnt_zero hc
      have hlist : listed = firsts (n + 1) l.length := by
        apply Array.ext_getElem?
        intro i
        have hs1 : listed.size = l.length := by rw [inv.size, hsz]
        unfold firsts
        rcases Nat.lt_or_ge i (n + 1) with h1 | h1
        · have := hall i h1
          have hi : i < listed.size := by omega
          simp [hi] at this
          simp [hi, this, List.getElem?_append, h1]
        · rcases Nat.lt_or_ge i l.length with h2 | h2
          · have := inv.tail i h1 (by rw [hsz]; exact h2)
            have hi : i < listed.size := by omega
            simp [hi] at this
            simp [hi, this, List.getElem?_append, show ¬ i < n + 1 by omega, show i - (n + 1) < l.length - (n + 1) by omega]
          · rw [Array.getElem?_eq_none (by omega)]
            simp [List.getElem?_append, show ¬ i < n + 1 by omega, show ¬ i - (n + 1) < l.length - (n + 1) by omega]
      have hw := hfin a w hf (hs' (hall n (by omega))).1 (fun e he => hk e he (hall e.j (by have := (hK' e he).1; omega)))
      have := wpAny_of_seq (P := P) (md := .any) (ops := l.toArray) (l.drop (n + 1)) (n + 1) listed a w (fun j => by simp) (by rw [List.length_drop, hlist]; exact hseq) hw
      rwa [List.length_drop, ← Nat.zero_add (l.length - (n + 1))] at this
    | succ g ih =>
      intro listed a w inv hc hf hs hs' hk
      rw [show g + 1 + (l.length - (n + 1)) = (g + (l.length - (n + 1))) + 1 by omega]
      obtain ⟨i0, hi0, hun0, hbelow⟩ := cnt_pos (show 0 < cnt listed (n + 1) by omega)
      have hs1 : listed.size = l.length := by rw [inv.size, hsz]
      have hready : i0 ∈ Region.ready .any l.toArray listed := by
        have hlt : i0 < l.length := by omega
        refine mem_ready.2 ⟨hun0, l[i0], by simp [hlt], fun e he hb => ?_⟩
        have h1 := ahead_get hahead i0 l[i0] (by simp [hlt]) e he hb
        have h2 := hbelow e.on (by omega)
        have hlt2 : e.on < listed.size := by omega
        simp [hlt2] at h2 ⊢
        exact h2
      refine ⟨fun hnil => (by rw [hnil] at hready; cases hready), fun i hi => ?_⟩
      have hin : i < n + 1 := by
        rcases Nat.lt_or_ge i (n + 1) with h1 | h1
        · exact h1
        · exact absurd hi (tail_waits hsink hchain (by rw [hsz]; omega) inv (n + 1 - i0) i0 rfl hi0 hun0 i h1)
      obtain ⟨huni1, oi, hoi, hdeps⟩ := mem_ready.1 hi
      have hoi' : l[i]? = some oi := by simpa using hoi
      have hcnt : cnt (listed.setIfInBounds i true) (n + 1) = g := by have := cnt_set huni1 (n + 1) hin; omega
      have hset : (listed.setIfInBounds i true).getD i true = true := by
        rcases Nat.lt_or_ge i listed.size with hlt | hge
        · simp [hlt]
        · simp [hge]
      have hbound : ∀ x, edge oi.after.toList x = true → x < n → listed.getD x true = true := fun x hx hxn => by
        obtain ⟨y, hy, hyj, hyb⟩ := edge_mem hx
        have h1 := hdeps y (by simpa using hy) hyb
        rw [hyj] at h1
        have hlt2 : x < listed.size := by omega
        simp [hlt2] at h1 ⊢
        exact h1
      by_cases hie : i = n
      · -- the store
        subst hie
        have : oi = on := Option.some.inj (hoi'.symm.trans hon)
        subst this
        have hfree : ∀ j, j < i → memN j F = false → listed.getD j true = true := fun j hj hjf => by
          have := (List.all_eq_true.1 honw) j (List.mem_range.2 hj)
          rw [hjf, Bool.false_or] at this
          have h2 := clos_listed inv i _ (fun x hx => by
            obtain ⟨e, he, hej, heb⟩ := depsL_mem hx
            rw [← hej]; exact hdeps e (by simpa using he) heb) j (memN_mem this)
          have hlt2 : j < listed.size := by omega
          simp [hlt2] at h2 ⊢
          exact h2
        have hwp := hstore oi hoi' a w hf (hs huni1) (fun e he hef => hk e he (hfree e.j (hK' e he).1 hef))
        unfold wpOp
        simp only [hoi]
        rw [if_pos (by simp [Region.wanted, hong])]
        refine .inl (wp_false hwp fun a' w' ⟨ha, hsw⟩ => ?_)
        subst ha
        refine ih _ _ _ (inv.set hi hin) hcnt hf (fun hx => by rw [hset] at hx; cases hx) (fun _ => ⟨hsw, fun j hj hjl => ?_⟩) (fun e he hel => ?_)
        · rw [getD_set_ne true (by omega)] at hjl
          cases hjf : memN j F with
          | true => rfl
          | false => rw [hfree j hj hjf] at hjl; cases hjl
        · have hlt := (hK' e he).1
          rw [getD_set_ne true (by omega)] at hel
          obtain ⟨v, hv, hp⟩ := hk e he hel
          obtain ⟨u, hu⟩ := allIs_get hisK e he
          rw [hu] at hp ⊢
          exact ⟨v, hv, hp⟩
      · have hlt : i < n := by omega
        obtain ⟨e, heK, hej⟩ := hcov i (by rw [List.length_take]; omega)
        have hej' : e.j = i := by omega
        obtain ⟨_, o, ho, hod, hpers, hstep⟩ := hK' e heK
        rw [hej'] at ho
        have : o = oi := Option.some.inj (ho.symm.trans hoi')
        subst this
        have hdn : e.d < N := by
          obtain ⟨d, hd1, hd2⟩ := ownDst_get hown i o (by rw [List.getElem?_take_of_lt hlt]; exact ho)
          rw [hod] at hd1; cases hd1; exact hd2
        have hcutd : ∀ v, lk (Go.Proofs.YtnjomdjkbbhdoaaDoor.cut (l.take n) L) e.d = some v → False := fun v hv => by
          have h1 := (lk_cut hv).1
          rw [anyDst_of (List.mem_of_getElem? (l := l.take n) (i := i) (by rw [List.getElem?_take_of_lt hlt]; exact ho)) hod] at h1
          cases h1
        have hfacts : ∀ e' ∈ Kf, edge o.after.toList e'.j = true → ∃ v, a.tmps[e'.d]? = some v ∧ e'.p.holds w v := fun e' he' hed => hk e' he' (hbound e'.j hed (hK' e' he').1)
        have hso : stepOK P l o a w e.p := by
          cases hln : listed.getD n true with
          | false => exact hstep a w hf (hs hln) hfacts
          | true =>
            have hF := (hs' hln).2 i hlt huni1
            obtain ⟨o2, v2, d2, ho2, hd2, hm2, hob⟩ := hpure.get i (memN_mem hF)
            have : o2 = o := Option.some.inj (ho2.symm.trans ho)
            subst this
            have he2 : e = ⟨i, d2, .is v2⟩ := huni e heK _ hm2 (Nat.zero_le _) (by omega)
            have := hob a w hf (fun e' he' hed => hfacts e' he' hed) trivial
            rw [he2]
            exact this
        have next : ∀ v w', Below w.heap.size w w' → e.p.holds w' v → wpAny P .any l.toArray Q (g + (l.length - (n + 1))) (listed.setIfInBounds i true) (a.put o.dst v) w' := by
          intro v w' hb hv
          rw [hod]
          refine ih _ _ _ (inv.set hi hin) hcnt ?_ (fun hx => ?_) (fun hx => ?_) ?_
          · have hp := hf.put v (d := e.d) (by simp [Nat.blt]; omega)
            exact ⟨hp.df, hp.sz, fun k u hu => hp.get k u (by
              rw [lk_cons]
              split
              · rename_i hk2; subst hk2; exact (hcutd u hu).elim
              · exact hu)⟩
          · rw [getD_set_ne true (by omega)] at hx
            exact hSta.keep w w' (hs hx) hb
          · rw [getD_set_ne true (by omega)] at hx
            refine ⟨hSta'.keep w w' (hs' hx).1 hb, fun j hj hjl => ?_⟩
            by_cases hji : j = i
            · subst hji; rw [hset] at hjl; cases hjl
            · rw [getD_set_ne true (fun h => hji h.symm)] at hjl
              exact (hs' hx).2 j hj hjl
          · intro x hx hxl
            by_cases hxi : x.j = i
            · have : x = e := huni x hx e heK (Nat.zero_le _) (by omega)
              subst this
              exact ⟨v, by simp [Act.put, hf.sz, hdn], hv⟩
            · rw [getD_set_ne true (fun h => hxi h.symm)] at hxl
              obtain ⟨u, hu, hxu⟩ := hk x hx hxl
              obtain ⟨hxn, ox, hox, hxd, hxp, _⟩ := hK' x hx
              have hne : e.d ≠ x.d := fun hee => by
                have := ownDst_ne hown i x.j o ox e.d (by rw [List.getElem?_take_of_lt hlt]; exact ho) (by rw [List.getElem?_take_of_lt hxn]; exact hox) hod (by rw [hee]; exact hxd)
                omega
              refine ⟨u, ?_, VP.pers_keep hxp hxu hb⟩
              simp only [Act.put]
              rw [Array.getElem?_setIfInBounds_ne hne]
              exact hu
        unfold wpOp
        simp only [hoi]
        unfold stepOK at hso
        split
        · rename_i hw
          rw [if_pos hw] at hso
          exact .inl (wp_false hso (fun a' w' ⟨v, ha, hb, hv⟩ => by rw [ha]; exact next v w' hb hv))
        · rename_i hw
          rw [if_neg hw] at hso
          exact next undef w (Below.refl _ _) hso
  intro a w hf hs
  refine wp_region_any hm.ok ?_
  have hrep : ∀ j, (Array.replicate l.toArray.size false).getD j false = false := fun j => getD_replicate_false _ _
  have hrepT : ∀ j, j < l.length → (Array.replicate l.toArray.size false).getD j true = false := fun j hj => by simp [hj]
  have := key (n + 1) (Array.replicate l.toArray.size false) a w.drew
    ⟨by simp, fun j oj hj hl => (by rw [hrep] at hl; cases hl), fun t ht ht' => by simp at ht'; simp [ht']⟩
    (by rw [hsz]; exact cnt_fresh _ _ (by omega)) (fr_cut hf (lk_cut_sub L)) (fun _ => hSta.keep _ _ hs (Below.drewB w)) (fun hx => by rw [hrepT n (by omega)] at hx; cases hx) (fun e he hl => by
      have h1 := (hK' e he).1
      rw [hrepT e.j (by omega)] at hl; cases hl)
  rw [show n + 1 + (l.length - (n + 1)) = l.toArray.size by rw [hsz]; omega] at this
  exact this

/-! ### The store's own end -/
section
variable {P : Program} {l0 : List Oper} {Q : Exit → Act → World → Prop} {tail : List Oper} {N : Nat} {S S' : World → Prop} {d j : Nat} {F : List Nat} {ty : TypeId} {pos : String} {af : Array Edge} {op : Op}
def FinU (P : Program) (o : Oper) (N : Nat) (F : List Nat) (L : TL) (S S' : World → Prop) (K : List KE) : Prop :=
  ∀ a w, Fr N L a → S w → (∀ e ∈ K, memN e.j F = false → ∃ v, a.tmps[e.d]? = some v ∧ e.p.holds w v) → o.wp P a w (fun a' w' => a' = a ∧ S' w') (fun _ _ _ => False)
theorem finu_nil {L : TL} (h : ExU P op N L S S') : FinU P ⟨none, op, ty, pos, af, none⟩ N F L S S' [] := fun a w hf hs _ => by
  obtain ⟨w', h1, h2⟩ := h a w hf hs none ty pos af none
  unfold Oper.wp
  rw [h1]
  exact ⟨rfl, h2⟩
theorem finu_is {o : Oper} {L : TL} {v : Value} {K : List KE} (hj : memN j F = false) (h : FinU P o N F ((d, v) :: L) S S' K) : FinU P o N F L S S' (⟨j, d, .is v⟩ :: K) := fun a w hf hs hk => by
  obtain ⟨u, hu, hp⟩ := hk _ List.mem_cons_self hj
  have : u = v := hp
  subst this
  exact h a w (fr_add hf hu) hs (fun e he => hk e (List.mem_cons_of_mem _ he))
theorem finu_drop {o : Oper} {L : TL} {e : KE} {K : List KE} (h : FinU P o N F L S S' K) : FinU P o N F L S S' (e :: K) := fun a w hf hs hk => h a w hf hs (fun x hx => hk x (List.mem_cons_of_mem _ hx))
theorem pures_nil {L0 : TL} {K : List KE} : Pures P l0 L0 N K [] := trivial
theorem pures_cons {L0 : TL} {K : List KE} {i : Nat} {r : List Nat} {o : Oper} {v : Value} (h0 : l0[i]? = some o) (hd : o.dst = some d) (hm : (⟨i, d, .is v⟩ : KE) ∈ K) (h : ObK P l0 o N L0 K (fun _ => True) (.is v)) (k : Pures P l0 L0 N K r) :
    Pures P l0 L0 N K (i :: r) := ⟨⟨o, v, d, h0, hd, hm, h⟩, k⟩
theorem flow_nil2 {L0 : TL} {i n : Nat} {K : List KE} {o : Oper} (ho : l0[n]? = some o) (his : allIs K = true) (hp : Pures P l0 L0 N K F) (hu : FinU P o N F L0 S S' K) (h : Fin P l0 Q (l0.drop (n + 1)) N L0 S' K) :
    Flow P l0 L0 S N (fun K => allIs K = true ∧ Pures P l0 L0 N K F ∧
      (∀ o, l0[n]? = some o → ∀ a w, Fr N L0 a → S w → (∀ e ∈ K, memN e.j F = false → ∃ v, a.tmps[e.d]? = some v ∧ e.p.holds w v) → o.wp P a w (fun a' w' => a' = a ∧ S' w') (fun _ _ _ => False)) ∧
      (∀ a w, Fr N L0 a → S' w → (∀ e ∈ K, ∃ v, a.tmps[e.d]? = some v ∧ e.p.holds w v) → wpList P l0.toArray Q (l0.drop (n + 1)) a w)) [] i K :=
  ⟨his, hp, fun o' ho' => by rw [ho] at ho'; cases ho'; exact hu, h⟩
end
end Go.Proofs.YtnjomdjkbbhdoaaDoor
